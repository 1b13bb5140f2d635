/- The document's Get of a config (printed by gen_rget.py). -/
import Derived.Test.YtmkeljcjhcaigaaRgS
import Derived.Test.YtmkeljcjhcaigaaCwD
import Derived.Deep.Cut
import Derived.Deep.CutRange
namespace Go.Proofs.Ytmkeljcjhcaigaa
open Go.RowKit
set_option linter.unusedVariables false
set_option linter.unusedSimpArgs false

set_option maxHeartbeats 8000000 in
set_option maxRecDepth 100000 in
theorem rget_any (A0 : Option Addr) (n c0 : Nat) (l : List UInt8) (w : World) (hn : n = l.length) (hc0 : n ≤ c0) (hb : BS w w.heap.size A0 l) (hl : n ≤ 1000000) :
    Calls Try.prog 23 #[.slice A0 n c0] w (RGetIs w l) := by
  subst hn
  obtain ⟨i0, z0, hi0, hz0, hz1, hz2, hzc⟩ := vip_parts
  obtain ⟨j0, q0, hj0, hq0, hq1, hq2, hqc⟩ := int_parts
  obtain ⟨W1, hW1⟩ : ∃ W, W = w.alloc (.cells (confCs none 0 0 conf0).toArray 29) := ⟨_, rfl⟩
  have hs1 : W1.heap.size = w.heap.size + 1 := by rw [hW1]; simp
  have hR1 : Blk W1 w.heap.size 29 (confCs none 0 0 conf0).toArray := by rw [hW1]; exact Blk.new w _ _ _ rfl
  have hB1 : Below w.heap.size w W1 := by rw [hW1]; exact (Below.refl _ _).alloc (Nat.le_refl _) _
  obtain ⟨X1, hX1⟩ : ∃ W, W = W1.alloc (.cells (confCs none 0 0 conf0).toArray 29) := ⟨_, rfl⟩
  obtain ⟨W2, hW2⟩ : ∃ W, W = X1.setCells W1.heap.size 0 (confCs none 0 0 conf0) := ⟨_, rfl⟩
  obtain ⟨hth, hbx, hbe⟩ := boxed W1 X1 W2 29 (confCs none 0 0 conf0) (confCs none 0 0 conf0) rfl hX1 hW2
  have h0 : RSt w W2 none 0 conf0 := ⟨by rw [← hs1]; exact hbx, Blk.below hR1 hbe hR1.lt, VOwn.nil _ _, hB1.trans (hbe.mono hB1.size), conf0_shape⟩
  have H0 : Hid (RSt w W2 none 0 { conf0 with vips := [] }) := h0
  rw [conf0_lit] at hW1 hX1
  have Hs1 := Lib.hid hs1
  have HB := Lib.hid hb
  have HW1 := Lib.hid hW1
  have HX1 := Lib.hid hX1
  have HW2 := Lib.hid hW2
  have Hth := Lib.hid hth
  clear hW1 hR1 hB1 hX1 hW2 hth hbx hbe h0 hs1
  have Hnum0 := HB.out.below H0.out.bel
  go_enter Try.func23, Try.ntmps23
  go_upto_region 1 with fail
  rw [← HW1.out]
  go_upto_region 2 with (first
    | (rw [← HX1.out]; (with_reducible refine gateS 29 ?_); refine wpList_store_mid rfl 29 (.tmp 4) (.tmp 24) rfl W1.heap.size 0 (confCs none 0 0 conf0).toArray rfl rfl Hth.out conf_size54 (conf_one none 0 0 conf0) ?_))
  rw [← HW2.out]
  rw [Hs1.out]
  clear HW1 HX1 HW2 Hth Hs1 Hnum0
  have HN0 : Hid (BS W2 W2.heap.size A0 l) := (HB.out.below H0.out.bel).more H0.out.bel.size
  go_wp2_with fail
  rcases hr0 : rnumS l with _ | ⟨m, r⟩
  · have Hno := Lib.hid (fit_start_no hr0)
    refine (rnum_no A0 _ c0 l W2 rfl hc0 HN0.out (by omega) hr0).mono ?_
    rintro e w3 ⟨rfl, hb3⟩
    have H3 := Lib.hid (H0.out.below hb3)
    clear hr0 hb3 HN0
    have HZ := Lib.hid H3.out.badBlk
    have Hthb := Lib.hid H3.out.thereR
    have Hpost := Lib.hid (H3.out.bad Hno.out)
    go_wp2_with (first
      | ((with_reducible refine gateS 29 ?_); refine wpList_store_mid rfl 29 (.tmp 2) (.tmp 37) rfl w.heap.size 0 (confCs none 0 0 conf0).toArray rfl rfl Hthb.out conf_size54 (conf_one none 0 0 conf0) ?_))
    refine bodyPost_ret (v := .tuple #[.agg (confCs none 0 0 conf0).toArray, .bool false]) (results_row_tmp (P := Try.prog) (p := 2) (u := 3) rfl _ _ w.heap.size _ _ _ _ rfl HZ.out conf_under rfl conf_size54) rfl Hpost.out
  have hfit := fit_start hr0
  have hm1 := (rnum_le hr0).1
  have hrl0 := (rnum_le hr0).2
  refine (rnum_yes A0 _ c0 l W2 rfl hc0 HN0.out (by omega) hr0).mono ?_
  rintro e w3 ⟨A3, c3, rfl, hBr, hrc0, hb3⟩
  have H3 := Lib.hid (H0.out.below hb3)
  have Hfit := Lib.hid hfit
  have hbr0 : BS w w.heap.size A3 r := hBr w _ HB.out
  have Hbr0 := Lib.hid hbr0
  clear hr0 hb3 HN0 hfit hbr0 hBr
  by_cases h64 : m ≤ 64
  rotate_left
  · have Hno := Lib.hid (fit_many Hfit.out h64)
    have hmI : (64 : Int) < (m : Int) := by omega
    clear h64
    have HZ := Lib.hid H3.out.badBlk
    have Hthb := Lib.hid H3.out.thereR
    have Hpost := Lib.hid (H3.out.bad Hno.out)
    go_wp2_with (first
      | ((with_reducible refine gateS 29 ?_); refine wpList_store_mid rfl 29 (.tmp 2) (.tmp 37) rfl w.heap.size 0 (confCs none 0 0 conf0).toArray rfl rfl Hthb.out conf_size54 (conf_one none 0 0 conf0) ?_))
    refine bodyPost_ret (v := .tuple #[.agg (confCs none 0 0 conf0).toArray, .bool false]) (results_row_tmp (P := Try.prog) (p := 2) (u := 3) rfl _ _ w.heap.size _ _ _ _ rfl HZ.out conf_under rfl conf_size54) rfl Hpost.out
  have hmI : ¬ (64 : Int) < (m : Int) := by omega
  go_wp2_with fail
  clear H0
  go_loopw [6, 8] (fun v i wr => ∃ (k : Nat) (vs : List VipP) (rest : List UInt8) (A6 : Option Addr) (c6 : Nat) (Av : Option Addr) (cv : Nat), k ≤ m ∧ i = .int .i64 (k : Int) ∧ v = .slice A6 rest.length c6 ∧ vs.length = k ∧ rest.length ≤ l.length ∧ rest.length ≤ c6 ∧ Hid (BS w w.heap.size A6 rest) ∧ Hid (RSt w wr Av cv { conf0 with vips := vs }) ∧ Hid (Fit1 l m vs rest)) (fun _ i _ => m - (intOf i).toNat)
  case atStart => exact ⟨0, [], r, A3, c3, none, 0, Nat.zero_le _, rfl, rfl, rfl, hrl0, hrc0, Hbr0, H3, Hfit⟩
  case round =>
    clear H3 Hfit Hbr0
    obtain ⟨k, vs, rest, A6, c6, Av, cv, hk, rfl, rfl, hvl, hrl, hrc, hbr, hat, hfit⟩ := hrel
    rename World => wr
    subst hvl
    by_cases hlt : vs.length < m
    · have hltI : (vs.length : Int) < (m : Int) := by omega
      have hrest : BS wr wr.heap.size A6 rest := (hbr.out.below hat.out.bel).more hat.out.bel.size
      obtain ⟨⟨⟨s6, bl⟩, u⟩, hga⟩ : ∃ p, p = getAddrS rest := ⟨_, rfl⟩
      have hok := getAddr_ok rest
      have hcs := getAddr_cases rest
      have hG := refGetAddr_any A6 _ c6 rest wr rfl hrest (by omega)
      rw [← hga] at hok hcs hG
      obtain ⟨y0, y1, y2, y3, y4, y5, y6, y7, y8, y9, ya, yb, yc, yd, ye, yf, hl16⟩ := len16 hok
      simp only at hl16
      subst hl16
      have HG := Lib.hid hG
      have Hga := Lib.hid hga
      have Hok := Lib.hid hok
      clear hG hga hok hrest
      have a0 := cf_c0 hat.out.box
      go_wp2_with fail
      refine HG.out.mono ?_
      rintro e w5 ⟨rfl, hb5⟩
      have Hat := Lib.hid (hat.out.below hb5)
      have hgw5 : w.heap.size + 1 < w5.heap.size := Hat.out.box.lt
      clear hb5 HG hat a0
      have Bw := Lib.hid Hat.out.bel
      obtain ⟨x50, hx50⟩ : ∃ W, W = w5.alloc (.cells (addrCs addr0).toArray 27) := ⟨_, rfl⟩
      obtain ⟨y50, hy50⟩ : ∃ W, W = x50.setCells w5.heap.size 0 (addrCs (s6, [y0, y1, y2, y3, y4, y5, y6, y7, y8, y9, ya, yb, yc, yd, ye, yf])) := ⟨_, rfl⟩
      obtain ⟨hth50, hbx50, hbe50⟩ := boxed w5 x50 y50 27 (addrCs addr0) (addrCs (s6, [y0, y1, y2, y3, y4, y5, y6, y7, y8, y9, ya, yb, yc, yd, ye, yf])) rfl hx50 hy50
      rw [addr0_litA] at hx50
      have HX50 := Lib.hid hx50
      have HY50 := Lib.hid hy50
      have Hth50 := Lib.hid hth50
      have Hbe50 := Lib.hid hbe50
      have H9n := Lib.hid hbx50
      clear hx50 hy50 hth50 hbx50 hbe50
      go_upto_region 9 with (first
        | (rw [← HX50.out]; (with_reducible refine gateS 27 ?_); refine wpList_store_mid rfl 27 (.tmp 9) (.tmp 46) rfl w5.heap.size 0 (addrCs (s6, [y0, y1, y2, y3, y4, y5, y6, y7, y8, y9, ya, yb, yc, yd, ye, yf])).toArray rfl rfl Hth50.out addr_size (addr_one (s6, [y0, y1, y2, y3, y4, y5, y6, y7, y8, y9, ya, yb, yc, yd, ye, yf])) ?_))
      rw [← HY50.out]
      clear HX50 HY50 Hth50
      have Hat' := Lib.hid (Hat.out.below Hbe50.out)
      clear Hat
      have Hat := Hat'
      clear Hat'
      have Bw' : Hid (Below w.heap.size w y50) := Bw.out.trans (Hbe50.out.mono Bw.out.size)
      clear Bw
      have Bw := Bw'
      clear Bw'
      have H9 := H9n
      clear H9n Hbe50
      clear Bw
      try simp only at hcs
      have hcs' : u = 0 ∨ (¬ u = 0 ∧ u ≤ 17) := by omega
      clear hcs
      rcases hcs' with hu | ⟨hu, hu17⟩
      · subst hu
        have hnv : rvipS rest = none := rvip_zero (by rw [← Hga.out])
        have Hno := Lib.hid (fit_vip_no hfit.out hlt hnv)
        clear hnv
        have HZ := Lib.hid Hat.out.badBlk
        have Hthb := Lib.hid Hat.out.thereR
        have Hpost := Lib.hid (Hat.out.bad Hno.out)
        go_wp2_with (first
          | ((with_reducible refine gateS 29 ?_); refine wpList_store_mid rfl 29 (.tmp 2) (.tmp 57) rfl w.heap.size 0 (confCs none 0 0 conf0).toArray rfl rfl Hthb.out conf_size54 (conf_one none 0 0 conf0) ?_))
        refine bodyPost_ret (v := .tuple #[.agg (confCs none 0 0 conf0).toArray, .bool false]) (results_row_tmp (P := Try.prog) (p := 2) (u := 3) rfl _ _ w.heap.size _ _ _ _ rfl HZ.out conf_under rfl conf_size54) rfl Hpost.out
      · have huI : ((u : Int) == 0) = false := beq_eq_false_iff_ne.2 (by omega)
        have hu0I : ¬ (u : Int) = 0 := by omega
        by_cases hlen : rest.length < u + 4
        · have hlenI : (rest.length : Int) < (u : Int) + 4 := by omega
          have hnv : rvipS rest = none := rvip_short (by rw [← Hga.out]; exact hu) (by rw [← Hga.out]; exact hlen)
          have Hno := Lib.hid (fit_vip_no hfit.out hlt hnv)
          clear hnv
          have HZ := Lib.hid Hat.out.badBlk
          have Hthb := Lib.hid Hat.out.thereR
          have Hpost := Lib.hid (Hat.out.bad Hno.out)
          go_wp2_with (first
            | ((with_reducible refine gateS 29 ?_); refine wpList_store_mid rfl 29 (.tmp 2) (.tmp 57) rfl w.heap.size 0 (confCs none 0 0 conf0).toArray rfl rfl Hthb.out conf_size54 (conf_one none 0 0 conf0) ?_))
          refine bodyPost_ret (v := .tuple #[.agg (confCs none 0 0 conf0).toArray, .bool false]) (results_row_tmp (P := Try.prog) (p := 2) (u := 3) rfl _ _ w.heap.size _ _ _ _ rfl HZ.out conf_under rfl conf_size54) rfl Hpost.out
        · have hlenI : ¬ (rest.length : Int) < (u : Int) + 4 := by omega
          obtain ⟨x0, x1, x2, x3, r2, hd⟩ := len4 (l := rest.drop u) (by rw [List.length_drop]; omega)
          have hdl : r2.length + 4 = rest.length - u := by have := congrArg List.length hd; rw [List.length_drop] at this; simp only [List.length_cons] at this; omega
          have hbs2 : BS w w.heap.size (A6.map (·.add u)) (rest.drop u) := by
            have := hbr.out.drop (k := u) hrc
            rw [if_neg (by omega)] at this
            exact this
          rw [hd] at hbs2
          have hv : rvipS rest = some (((s6, [y0, y1, y2, y3, y4, y5, y6, y7, y8, y9, ya, yb, yc, yd, ye, yf]), (x0.toNat : Int), 256 * (x1.toNat : Int) + (x2.toNat : Int), x3 != 0), r2) := by
            have h := rvip_ok (b := rest) (r := r2) (x := x0) (y := x1) (z := x2) (t := x3) (by rw [← Hga.out]; exact hu) (by rw [← Hga.out]; exact hd)
            rw [← Hga.out] at h
            exact h
          have hfit2 := fit_vip_yes hfit.out hlt hv
          have hbs3 : BS w w.heap.size (if c6 - u = 4 then A6.map (·.add u) else (A6.map (·.add u)).map (·.add 4)) r2 := by
            have := hbs2.drop (k := 4) (cap := c6 - u) (by simp only [List.length_cons]; omega)
            exact this
          obtain ⟨ad, hA6, hadb, hcell⟩ := hbs2 (by simp)
          rw [hA6] at hbs3
          have hc0' : ∀ w', Below w.heap.size w w' → w'.cell? ad = some (.int .u8 (x0.toNat : Int)) ∧ w'.cell? ⟨ad.block, ad.off + 1, none⟩ = some (.int .u8 (x1.toNat : Int)) ∧ w'.cell? ⟨ad.block, ad.off + 2, none⟩ = some (.int .u8 (x2.toNat : Int)) ∧ w'.cell? ⟨ad.block, ad.off + 3, none⟩ = some (.int .u8 (x3.toNat : Int)) := fun w' hb' =>
            ⟨(hb'.cell hadb).trans (hcell 0 x0 rfl), (hb'.cell (p := ⟨ad.block, ad.off + 1, none⟩) hadb).trans (hcell 1 x1 rfl), (hb'.cell (p := ⟨ad.block, ad.off + 2, none⟩) hadb).trans (hcell 2 x2 rfl), (hb'.cell (p := ⟨ad.block, ad.off + 3, none⟩) hadb).trans (hcell 3 x3 rfl)⟩
          have Hc := Lib.hid hc0'
          have Hbs3 := Lib.hid hbs3
          have Hfit2 := Lib.hid hfit2
          have HA6 := Lib.hid hA6
          have Hdl : Hid (rest.length - u = r2.length + 4) := by show _ = _; omega
          have hcu : ¬ c6 = u := by omega
          have hucI : (u : Int) ≤ (c6 : Int) := by omega
          have hulI : (u : Int) ≤ (rest.length : Int) := by omega
          clear hd hbs2 hv hfit2 hA6 hcell hc0' hbs3 hadb hfit
          go_upto_region 12 with fail
          rw [HA6.out, Hdl.out]
          obtain ⟨c7, hc7⟩ : ∃ c, c = c6 - u := ⟨_, rfl⟩
          have hc7l : r2.length + 4 ≤ c7 := by omega
          have hr2l : r2.length ≤ l.length := by omega
          rw [← hc7] at Hbs3 ⊢
          obtain ⟨g9, hg9⟩ : ∃ g, g = w5.heap.size := ⟨_, rfl⟩
          have hgw9 : w.heap.size + 1 < g9 := by rw [hg9]; exact hgw5
          rw [← hg9] at H9 ⊢
          have hr4 : (0 : Int) < (r2.length : Int) + 4 := by omega
          have hr41 : (1 : Int) < (r2.length : Int) + 4 := by omega
          have hr42 : (2 : Int) < (r2.length : Int) + 4 := by omega
          have hr43 : (3 : Int) < (r2.length : Int) + 4 := by omega
          have Hcs : Hid ((#[.bool s6, .int .u8 (y0.toNat : Int), .int .u8 (y1.toNat : Int), .int .u8 (y2.toNat : Int), .int .u8 (y3.toNat : Int), .int .u8 (y4.toNat : Int), .int .u8 (y5.toNat : Int), .int .u8 (y6.toNat : Int), .int .u8 (y7.toNat : Int), .int .u8 (y8.toNat : Int), .int .u8 (y9.toNat : Int), .int .u8 (ya.toNat : Int), .int .u8 (yb.toNat : Int), .int .u8 (yc.toNat : Int), .int .u8 (yd.toNat : Int), .int .u8 (ye.toNat : Int), .int .u8 (yf.toNat : Int), .int .i64 (IntKind.i64.wrap (x0.toNat : Int)), .int .i64 (IntKind.i64.wrap (IntKind.i64.wrap (256 * IntKind.i64.wrap (x1.toNat : Int)) + IntKind.i64.wrap (x2.toNat : Int))), .bool ((x3.toNat : Int) != 0)] : Array Value) = (vipCs ((s6, [y0, y1, y2, y3, y4, y5, y6, y7, y8, y9, ya, yb, yc, yd, ye, yf]), (x0.toNat : Int), 256 * (x1.toNat : Int) + (x2.toNat : Int), x3 != 0)).toArray) := by
            show _ = _
            have b0 := x0.toNat_lt
            have b1 := x1.toNat_lt
            have b2 := x2.toNat_lt
            rw [IntWalk.i64_in (x0.toNat : Int) (by omega), IntWalk.i64_in (x1.toNat : Int) (by omega), IntWalk.i64_in (x2.toNat : Int) (by omega), IntWalk.i64_in (256 * (x1.toNat : Int)) (by omega), IntWalk.i64_in (256 * (x1.toNat : Int) + (x2.toNat : Int)) (by omega), u8_bne0]
            rfl
          have HVone : Hid (∀ v ∈ [((s6, [y0, y1, y2, y3, y4, y5, y6, y7, y8, y9, ya, yb, yc, yd, ye, yf]), (x0.toNat : Int), 256 * (x1.toNat : Int) + (x2.toNat : Int), x3 != 0)], addrOk v.1) := by
            show ∀ v ∈ _, _
            intro v hv
            simp only [List.mem_singleton] at hv
            rw [hv]; rfl
          have HD9 : Hid (Blk y50.drew g9 27 (addrCs (s6, [y0, y1, y2, y3, y4, y5, y6, y7, y8, y9, ya, yb, yc, yd, ye, yf])).toArray) := H9.out.drew
          clear hc7 hg9 hcu hucI hulI hlenI hlen hdl
          refine wp_region_noPanic ?_
          refine wp_region_held_drew (S := fun w' => Below w.heap.size w w' ∧ Blk w' g9 27 (addrCs (s6, [y0, y1, y2, y3, y4, y5, y6, y7, y8, y9, ya, yb, yc, yd, ye, yf])).toArray) (by kernel_rfl) ⟨Hat.out.bel.drew, HD9.out⟩ (fun hHeld => ?_)
          refine wpAnyH_take (i := 0) (v := ?_) rfl (by kernel_rfl) (by kernel_rfl) (by kernel_rfl) (fun _ _ _ h => h) (Or.inl ⟨by rfl, ?_⟩) hHeld ?_
          rotate_left
          · intro w' hSw
            skip
            go_simp
            try with_reducible rfl
          try (simp only [Act.put, List.getElem_toArray, List.getElem_cons_succ, List.getElem_cons_zero, List.setIfInBounds_toArray, List.set_cons_zero, List.set_cons_succ])
          refine wpAnyH_take (i := 2) rfl (by kernel_rfl) (by kernel_rfl) (by kernel_rfl) (fun _ _ _ h => h) (yieldsIf_load_mid (by rfl) 27 (.tmp 9) rfl (g9) (0) rfl ([.bool s6, .int .u8 (y0.toNat : Int), .int .u8 (y1.toNat : Int), .int .u8 (y2.toNat : Int), .int .u8 (y3.toNat : Int), .int .u8 (y4.toNat : Int), .int .u8 (y5.toNat : Int), .int .u8 (y6.toNat : Int), .int .u8 (y7.toNat : Int), .int .u8 (y8.toNat : Int), .int .u8 (y9.toNat : Int), .int .u8 (ya.toNat : Int), .int .u8 (yb.toNat : Int), .int .u8 (yc.toNat : Int), .int .u8 (yd.toNat : Int), .int .u8 (ye.toNat : Int), .int .u8 (yf.toNat : Int)]) _ (fun w' hSw => blk_range hSw.2) Try.underlying27 rfl addr_size) hHeld ?_
          try (simp only [Act.put, List.getElem_toArray, List.getElem_cons_succ, List.getElem_cons_zero, List.setIfInBounds_toArray, List.set_cons_zero, List.set_cons_succ])
          refine wpAnyH_take (i := 3) (v := ?_) rfl (by kernel_rfl) (by kernel_rfl) (by kernel_rfl) (fun _ _ _ h => h) (Or.inl ⟨by rfl, ?_⟩) hHeld ?_
          rotate_left
          · intro w' hSw
            skip
            go_simp
            try with_reducible rfl
          try (simp only [Act.put, List.getElem_toArray, List.getElem_cons_succ, List.getElem_cons_zero, List.setIfInBounds_toArray, List.set_cons_zero, List.set_cons_succ])
          refine wpAnyH_take (i := 4) (v := ?_) rfl (by kernel_rfl) (by kernel_rfl) (by kernel_rfl) (fun _ _ _ h => h) (Or.inl ⟨by rfl, ?_⟩) hHeld ?_
          rotate_left
          · intro w' hSw
            skip
            go_simp
            try with_reducible rfl
          try (simp only [Act.put, List.getElem_toArray, List.getElem_cons_succ, List.getElem_cons_zero, List.setIfInBounds_toArray, List.set_cons_zero, List.set_cons_succ])
          refine wpAnyH_take (i := 5) (v := ?_) rfl (by kernel_rfl) (by kernel_rfl) (by kernel_rfl) (fun _ _ _ h => h) (Or.inl ⟨by rfl, ?_⟩) hHeld ?_
          rotate_left
          · intro w' hSw
            obtain ⟨d0, d1, d2, d3⟩ := Hc.out w' hSw.1
            go_simp
            try with_reducible rfl
          try (simp only [Act.put, List.getElem_toArray, List.getElem_cons_succ, List.getElem_cons_zero, List.setIfInBounds_toArray, List.set_cons_zero, List.set_cons_succ])
          refine wpAnyH_take (i := 6) (v := ?_) rfl (by kernel_rfl) (by kernel_rfl) (by kernel_rfl) (fun _ _ _ h => h) (Or.inl ⟨by rfl, ?_⟩) hHeld ?_
          rotate_left
          · intro w' hSw
            skip
            go_simp
            try with_reducible rfl
          try (simp only [Act.put, List.getElem_toArray, List.getElem_cons_succ, List.getElem_cons_zero, List.setIfInBounds_toArray, List.set_cons_zero, List.set_cons_succ])
          refine wpAnyH_take (i := 7) (v := ?_) rfl (by kernel_rfl) (by kernel_rfl) (by kernel_rfl) (fun _ _ _ h => h) (Or.inl ⟨by rfl, ?_⟩) hHeld ?_
          rotate_left
          · intro w' hSw
            skip
            go_simp
            try with_reducible rfl
          try (simp only [Act.put, List.getElem_toArray, List.getElem_cons_succ, List.getElem_cons_zero, List.setIfInBounds_toArray, List.set_cons_zero, List.set_cons_succ])
          refine wpAnyH_take (i := 8) (v := ?_) rfl (by kernel_rfl) (by kernel_rfl) (by kernel_rfl) (fun _ _ _ h => h) (Or.inl ⟨by rfl, ?_⟩) hHeld ?_
          rotate_left
          · intro w' hSw
            skip
            go_simp
            try with_reducible rfl
          try (simp only [Act.put, List.getElem_toArray, List.getElem_cons_succ, List.getElem_cons_zero, List.setIfInBounds_toArray, List.set_cons_zero, List.set_cons_succ])
          refine wpAnyH_take (i := 9) (v := ?_) rfl (by kernel_rfl) (by kernel_rfl) (by kernel_rfl) (fun _ _ _ h => h) (Or.inl ⟨by rfl, ?_⟩) hHeld ?_
          rotate_left
          · intro w' hSw
            obtain ⟨d0, d1, d2, d3⟩ := Hc.out w' hSw.1
            go_simp
            try with_reducible rfl
          try (simp only [Act.put, List.getElem_toArray, List.getElem_cons_succ, List.getElem_cons_zero, List.setIfInBounds_toArray, List.set_cons_zero, List.set_cons_succ])
          refine wpAnyH_take (i := 10) (v := ?_) rfl (by kernel_rfl) (by kernel_rfl) (by kernel_rfl) (fun _ _ _ h => h) (Or.inl ⟨by rfl, ?_⟩) hHeld ?_
          rotate_left
          · intro w' hSw
            skip
            go_simp
            try with_reducible rfl
          try (simp only [Act.put, List.getElem_toArray, List.getElem_cons_succ, List.getElem_cons_zero, List.setIfInBounds_toArray, List.set_cons_zero, List.set_cons_succ])
          refine wpAnyH_take (i := 11) (v := ?_) rfl (by kernel_rfl) (by kernel_rfl) (by kernel_rfl) (fun _ _ _ h => h) (Or.inl ⟨by rfl, ?_⟩) hHeld ?_
          rotate_left
          · intro w' hSw
            skip
            go_simp
            try with_reducible rfl
          try (simp only [Act.put, List.getElem_toArray, List.getElem_cons_succ, List.getElem_cons_zero, List.setIfInBounds_toArray, List.set_cons_zero, List.set_cons_succ])
          refine wpAnyH_take (i := 12) (v := ?_) rfl (by kernel_rfl) (by kernel_rfl) (by kernel_rfl) (fun _ _ _ h => h) (Or.inl ⟨by rfl, ?_⟩) hHeld ?_
          rotate_left
          · intro w' hSw
            skip
            go_simp
            try with_reducible rfl
          try (simp only [Act.put, List.getElem_toArray, List.getElem_cons_succ, List.getElem_cons_zero, List.setIfInBounds_toArray, List.set_cons_zero, List.set_cons_succ])
          refine wpAnyH_take (i := 13) (v := ?_) rfl (by kernel_rfl) (by kernel_rfl) (by kernel_rfl) (fun _ _ _ h => h) (Or.inl ⟨by rfl, ?_⟩) hHeld ?_
          rotate_left
          · intro w' hSw
            skip
            go_simp
            try with_reducible rfl
          try (simp only [Act.put, List.getElem_toArray, List.getElem_cons_succ, List.getElem_cons_zero, List.setIfInBounds_toArray, List.set_cons_zero, List.set_cons_succ])
          refine wpAnyH_take (i := 14) (v := ?_) rfl (by kernel_rfl) (by kernel_rfl) (by kernel_rfl) (fun _ _ _ h => h) (Or.inl ⟨by rfl, ?_⟩) hHeld ?_
          rotate_left
          · intro w' hSw
            obtain ⟨d0, d1, d2, d3⟩ := Hc.out w' hSw.1
            go_simp
            try with_reducible rfl
          try (simp only [Act.put, List.getElem_toArray, List.getElem_cons_succ, List.getElem_cons_zero, List.setIfInBounds_toArray, List.set_cons_zero, List.set_cons_succ])
          refine wpAnyH_take (i := 15) (v := ?_) rfl (by kernel_rfl) (by kernel_rfl) (by kernel_rfl) (fun _ _ _ h => h) (Or.inl ⟨by rfl, ?_⟩) hHeld ?_
          rotate_left
          · intro w' hSw
            skip
            go_simp
            try with_reducible rfl
          try (simp only [Act.put, List.getElem_toArray, List.getElem_cons_succ, List.getElem_cons_zero, List.setIfInBounds_toArray, List.set_cons_zero, List.set_cons_succ])
          refine wpAnyH_take (i := 16) (v := ?_) rfl (by kernel_rfl) (by kernel_rfl) (by kernel_rfl) (fun _ _ _ h => h) (Or.inl ⟨by rfl, ?_⟩) hHeld ?_
          rotate_left
          · intro w' hSw
            skip
            go_simp
            try with_reducible rfl
          try (simp only [Act.put, List.getElem_toArray, List.getElem_cons_succ, List.getElem_cons_zero, List.setIfInBounds_toArray, List.set_cons_zero, List.set_cons_succ])
          refine wpAnyH_take (i := 17) (v := ?_) rfl (by kernel_rfl) (by kernel_rfl) (by kernel_rfl) (fun _ _ _ h => h) (Or.inl ⟨by rfl, ?_⟩) hHeld ?_
          rotate_left
          · intro w' hSw
            skip
            go_simp
            try with_reducible rfl
          try (simp only [Act.put, List.getElem_toArray, List.getElem_cons_succ, List.getElem_cons_zero, List.setIfInBounds_toArray, List.set_cons_zero, List.set_cons_succ])
          refine wpAnyH_take (i := 18) (v := ?_) rfl (by kernel_rfl) (by kernel_rfl) (by kernel_rfl) (fun _ _ _ h => h) (Or.inl ⟨by rfl, ?_⟩) hHeld ?_
          rotate_left
          · intro w' hSw
            skip
            go_simp
            try with_reducible rfl
          try (simp only [Act.put, List.getElem_toArray, List.getElem_cons_succ, List.getElem_cons_zero, List.setIfInBounds_toArray, List.set_cons_zero, List.set_cons_succ])
          refine wpAnyH_take (i := 19) (v := ?_) rfl (by kernel_rfl) (by kernel_rfl) (by kernel_rfl) (fun _ _ _ h => h) (Or.inl ⟨by rfl, ?_⟩) hHeld ?_
          rotate_left
          · intro w' hSw
            obtain ⟨d0, d1, d2, d3⟩ := Hc.out w' hSw.1
            go_simp
            try with_reducible rfl
          try (simp only [Act.put, List.getElem_toArray, List.getElem_cons_succ, List.getElem_cons_zero, List.setIfInBounds_toArray, List.set_cons_zero, List.set_cons_succ])
          refine wpAnyH_take (i := 20) (v := ?_) rfl (by kernel_rfl) (by kernel_rfl) (by kernel_rfl) (fun _ _ _ h => h) (Or.inl ⟨by rfl, ?_⟩) hHeld ?_
          rotate_left
          · intro w' hSw
            skip
            go_simp
            try with_reducible rfl
          try (simp only [Act.put, List.getElem_toArray, List.getElem_cons_succ, List.getElem_cons_zero, List.setIfInBounds_toArray, List.set_cons_zero, List.set_cons_succ])
          refine wpAnyH_take (i := 21) (v := ?_) rfl (by kernel_rfl) (by kernel_rfl) (by kernel_rfl) (fun _ _ _ h => h) (Or.inl ⟨by rfl, ?_⟩) hHeld ?_
          rotate_left
          · intro w' hSw
            skip
            go_simp
            try with_reducible rfl
          try (simp only [Act.put, List.getElem_toArray, List.getElem_cons_succ, List.getElem_cons_zero, List.setIfInBounds_toArray, List.set_cons_zero, List.set_cons_succ])
          have hS : Hid (RSt w y50.drew Av cv { conf0 with vips := vs }) := Hat.out.below (Below.refl _ _).drew
          refine wpAnyH_ready (rs := [1, 22]) (by kernel_rfl) (by simp) ?_
          refine AllReadyH.cons (i := 1) rfl (fun K hK => ?_) ?_
          · have a0 := cf_c0 hS.out.box
            go_simp
            refine hK.out _ _ hHeld (fun hHeld => ?_)
            clear hK K a0
            try (simp only [Act.put, List.getElem_toArray, List.getElem_cons_succ, List.getElem_cons_zero, List.setIfInBounds_toArray, List.set_cons_zero, List.set_cons_succ])
            refine wpAnyH_ready (rs := [22]) (by kernel_rfl) (by simp) ?_
            refine AllReadyH.cons (i := 22) rfl (fun K hK => ?_) AllReadyH.nil
            go_simp
            rw [Hcs.out]
            refine hK.out _ _ ⟨(Hat.out.bel.alloc Hat.out.bel.size _).drew, (Blk.alloc H9.out _).drew⟩ (fun hHeld => ?_)
            have hS2 : Hid (RSt w (y50.alloc (.cells (vipCs ((s6, [y0, y1, y2, y3, y4, y5, y6, y7, y8, y9, ya, yb, yc, yd, ye, yf]), (x0.toNat : Int), 256 * (x1.toNat : Int) + (x2.toNat : Int), x3 != 0)).toArray 33)).drew Av cv { conf0 with vips := vs }) := (Hat.out.below ((Below.refl _ _).alloc (Nat.le_refl _) _)).below (Below.refl _ _).drew
            clear hS
            have hS := hS2
            clear hS2 hK K
            try (simp only [Act.put, List.getElem_toArray, List.getElem_cons_succ, List.getElem_cons_zero, List.setIfInBounds_toArray, List.set_cons_zero, List.set_cons_succ])
            refine wpAnyH_ready (rs := [23]) (by kernel_rfl) (by simp) ?_
            refine AllReadyH.cons (i := 23) rfl (fun K hK => ?_) AllReadyH.nil
            rw [if_pos (by rfl)]
            refine wp_append_vips _ _ _ 22 rfl w.heap.size i0 z0 48 Try.underlying22 hi0 hz0 hz1 hz2 hzc Av cv vs rfl hS.out.row _ (some ⟨y50.heap.size, 0, none⟩) 1 [((s6, [y0, y1, y2, y3, y4, y5, y6, y7, y8, y9, ya, yb, yc, yd, ye, yf]), (x0.toNat : Int), 256 * (x1.toNat : Int) + (x2.toNat : Int), x3 != 0)] HVone.out rfl (VS.blk (Blk.drew (Blk.new y50 33 (vipCs ((s6, [y0, y1, y2, y3, y4, y5, y6, y7, y8, y9, ya, yb, yc, yd, ye, yf]), (x0.toNat : Int), 256 * (x1.toNat : Int) + (x2.toNat : Int), x3 != 0)).toArray _ rfl))) (by simp only [List.length_cons, List.length_nil]; unfold maxLen; omega) (by simp only [List.length_cons, List.length_nil]; omega) hS.out.bel.size ?_
            intro A12 c12 w12 hown12 hg12 _
            have hbx := hS.out.appBox hg12
            have hAp := Lib.hid (hS.out.append hown12 hg12)
            have h12b : Below w.heap.size w w12 := hS.out.bel.grown hg12 hS.out.bel.size (fun k hk => (hS.out.row.1.lt k hk).1)
            have hA12 : Blk w12 g9 27 (addrCs (s6, [y0, y1, y2, y3, y4, y5, y6, y7, y8, y9, ya, yb, yc, yd, ye, yf])).toArray := Blk.grown hHeld.2 hg12 (by
              rcases own_blk_ne hS.out.row.1 hHeld.2 (by decide) with h | h
              · rw [show (Value.slice Av vs.length cv).ownBlock = none from h]; simp
              · exact fun e => h e.symm)
            refine hK.out _ _ ⟨h12b, hA12⟩ (fun hHeld => ?_)
            clear hK K h12b hA12 hown12 hg12 hS
            try (simp only [Act.put, List.getElem_toArray, List.getElem_cons_succ, List.getElem_cons_zero, List.setIfInBounds_toArray, List.set_cons_zero, List.set_cons_succ])
            refine wpAnyH_take (i := 24) (v := ?_) rfl (by kernel_rfl) (by kernel_rfl) (by kernel_rfl) (fun _ _ _ h => h) (Or.inl ⟨by rfl, ?_⟩) hHeld ?_
            rotate_left
            · intro w' hSw
              skip
              go_simp
              try with_reducible rfl
            try (simp only [Act.put, List.getElem_toArray, List.getElem_cons_succ, List.getElem_cons_zero, List.setIfInBounds_toArray, List.set_cons_zero, List.set_cons_succ])
            refine wpAnyH_ready (rs := [25]) (by kernel_rfl) (by simp) ?_
            refine AllReadyH.cons (i := 25) rfl (fun K hK => ?_) AllReadyH.nil
            have e0 := cf_c0 hbx
            have ef := hbx.frozen 0
            go_simp
            refine hK.out _ _ ⟨hAp.out.bel, Blk.far hHeld.2 (p := ⟨w.heap.size + 1, 0, none⟩) (by show g9 ≠ w.heap.size + 1; omega) _⟩ (fun hHeld => ?_)
            clear hK K e0 ef hbx hHeld
            try (simp only [Act.put, List.getElem_toArray, List.getElem_cons_succ, List.getElem_cons_zero, List.setIfInBounds_toArray, List.set_cons_zero, List.set_cons_succ])
            refine wpAnyH_done (by kernel_rfl) ?_ _
            refine NoPanic.normal ?_
            by_cases hc74 : c7 = 4
            · have hb13 := Hbs3.out
              rw [if_pos hc74] at hb13
              have Hb13 := Lib.hid hb13
              have h0r : r2.length = 0 := by omega
              have h4cI : (4 : Int) ≤ (c7 : Int) := by omega
              have h4rI : (4 : Int) ≤ (r2.length : Int) + 4 := by omega
              have H0r := Lib.hid h0r
              subst hc74
              clear hb13 Hbs3 Hc h0r
              go_wp2_with fail
              go_roundw
              case rel => exact ⟨vs.length + 1, vs ++ [((s6, [y0, y1, y2, y3, y4, y5, y6, y7, y8, y9, ya, yb, yc, yd, ye, yf]), (x0.toNat : Int), 256 * (x1.toNat : Int) + (x2.toNat : Int), x3 != 0)], r2, some ad, 0, A12, c12, by omega, by go_num, by rw [H0r.out], by simp, by omega, by rw [H0r.out]; omega, Hb13, hAp, Hfit2⟩
              case measure => simp [intOf]; omega
            · have hb13 := Hbs3.out
              rw [if_neg hc74] at hb13
              have Hb13 := Lib.hid hb13
              have h4cI : (4 : Int) ≤ (c7 : Int) := by omega
              have h4rI : (4 : Int) ≤ (r2.length : Int) + 4 := by omega
              clear hb13 Hbs3 Hc
              go_wp2_with fail
              go_roundw
              case rel => exact ⟨vs.length + 1, vs ++ [((s6, [y0, y1, y2, y3, y4, y5, y6, y7, y8, y9, ya, yb, yc, yd, ye, yf]), (x0.toNat : Int), 256 * (x1.toNat : Int) + (x2.toNat : Int), x3 != 0)], r2, _, _, A12, c12, by omega, by go_num, by first | rfl | simp, by simp, by omega, by omega, Hb13, hAp, Hfit2⟩
              case measure => simp [intOf]; omega
          refine AllReadyH.cons (i := 22) rfl (fun K hK => ?_) ?_
          · go_simp
            rw [Hcs.out]
            refine hK.out _ _ ⟨(Hat.out.bel.alloc Hat.out.bel.size _).drew, (Blk.alloc H9.out _).drew⟩ (fun hHeld => ?_)
            have hS2 : Hid (RSt w (y50.alloc (.cells (vipCs ((s6, [y0, y1, y2, y3, y4, y5, y6, y7, y8, y9, ya, yb, yc, yd, ye, yf]), (x0.toNat : Int), 256 * (x1.toNat : Int) + (x2.toNat : Int), x3 != 0)).toArray 33)).drew Av cv { conf0 with vips := vs }) := (Hat.out.below ((Below.refl _ _).alloc (Nat.le_refl _) _)).below (Below.refl _ _).drew
            clear hS
            have hS := hS2
            clear hS2 hK K
            try (simp only [Act.put, List.getElem_toArray, List.getElem_cons_succ, List.getElem_cons_zero, List.setIfInBounds_toArray, List.set_cons_zero, List.set_cons_succ])
            refine wpAnyH_ready (rs := [1]) (by kernel_rfl) (by simp) ?_
            refine AllReadyH.cons (i := 1) rfl (fun K hK => ?_) AllReadyH.nil
            have a0 := cf_c0 hS.out.box
            go_simp
            refine hK.out _ _ hHeld (fun hHeld => ?_)
            clear hK K a0
            try (simp only [Act.put, List.getElem_toArray, List.getElem_cons_succ, List.getElem_cons_zero, List.setIfInBounds_toArray, List.set_cons_zero, List.set_cons_succ])
            refine wpAnyH_ready (rs := [23]) (by kernel_rfl) (by simp) ?_
            refine AllReadyH.cons (i := 23) rfl (fun K hK => ?_) AllReadyH.nil
            rw [if_pos (by rfl)]
            refine wp_append_vips _ _ _ 22 rfl w.heap.size i0 z0 48 Try.underlying22 hi0 hz0 hz1 hz2 hzc Av cv vs rfl hS.out.row _ (some ⟨y50.heap.size, 0, none⟩) 1 [((s6, [y0, y1, y2, y3, y4, y5, y6, y7, y8, y9, ya, yb, yc, yd, ye, yf]), (x0.toNat : Int), 256 * (x1.toNat : Int) + (x2.toNat : Int), x3 != 0)] HVone.out rfl (VS.blk (Blk.drew (Blk.new y50 33 (vipCs ((s6, [y0, y1, y2, y3, y4, y5, y6, y7, y8, y9, ya, yb, yc, yd, ye, yf]), (x0.toNat : Int), 256 * (x1.toNat : Int) + (x2.toNat : Int), x3 != 0)).toArray _ rfl))) (by simp only [List.length_cons, List.length_nil]; unfold maxLen; omega) (by simp only [List.length_cons, List.length_nil]; omega) hS.out.bel.size ?_
            intro A12 c12 w12 hown12 hg12 _
            have hbx := hS.out.appBox hg12
            have hAp := Lib.hid (hS.out.append hown12 hg12)
            have h12b : Below w.heap.size w w12 := hS.out.bel.grown hg12 hS.out.bel.size (fun k hk => (hS.out.row.1.lt k hk).1)
            have hA12 : Blk w12 g9 27 (addrCs (s6, [y0, y1, y2, y3, y4, y5, y6, y7, y8, y9, ya, yb, yc, yd, ye, yf])).toArray := Blk.grown hHeld.2 hg12 (by
              rcases own_blk_ne hS.out.row.1 hHeld.2 (by decide) with h | h
              · rw [show (Value.slice Av vs.length cv).ownBlock = none from h]; simp
              · exact fun e => h e.symm)
            refine hK.out _ _ ⟨h12b, hA12⟩ (fun hHeld => ?_)
            clear hK K h12b hA12 hown12 hg12 hS
            try (simp only [Act.put, List.getElem_toArray, List.getElem_cons_succ, List.getElem_cons_zero, List.setIfInBounds_toArray, List.set_cons_zero, List.set_cons_succ])
            refine wpAnyH_take (i := 24) (v := ?_) rfl (by kernel_rfl) (by kernel_rfl) (by kernel_rfl) (fun _ _ _ h => h) (Or.inl ⟨by rfl, ?_⟩) hHeld ?_
            rotate_left
            · intro w' hSw
              skip
              go_simp
              try with_reducible rfl
            try (simp only [Act.put, List.getElem_toArray, List.getElem_cons_succ, List.getElem_cons_zero, List.setIfInBounds_toArray, List.set_cons_zero, List.set_cons_succ])
            refine wpAnyH_ready (rs := [25]) (by kernel_rfl) (by simp) ?_
            refine AllReadyH.cons (i := 25) rfl (fun K hK => ?_) AllReadyH.nil
            have e0 := cf_c0 hbx
            have ef := hbx.frozen 0
            go_simp
            refine hK.out _ _ ⟨hAp.out.bel, Blk.far hHeld.2 (p := ⟨w.heap.size + 1, 0, none⟩) (by show g9 ≠ w.heap.size + 1; omega) _⟩ (fun hHeld => ?_)
            clear hK K e0 ef hbx hHeld
            try (simp only [Act.put, List.getElem_toArray, List.getElem_cons_succ, List.getElem_cons_zero, List.setIfInBounds_toArray, List.set_cons_zero, List.set_cons_succ])
            refine wpAnyH_done (by kernel_rfl) ?_ _
            refine NoPanic.normal ?_
            by_cases hc74 : c7 = 4
            · have hb13 := Hbs3.out
              rw [if_pos hc74] at hb13
              have Hb13 := Lib.hid hb13
              have h0r : r2.length = 0 := by omega
              have h4cI : (4 : Int) ≤ (c7 : Int) := by omega
              have h4rI : (4 : Int) ≤ (r2.length : Int) + 4 := by omega
              have H0r := Lib.hid h0r
              subst hc74
              clear hb13 Hbs3 Hc h0r
              go_wp2_with fail
              go_roundw
              case rel => exact ⟨vs.length + 1, vs ++ [((s6, [y0, y1, y2, y3, y4, y5, y6, y7, y8, y9, ya, yb, yc, yd, ye, yf]), (x0.toNat : Int), 256 * (x1.toNat : Int) + (x2.toNat : Int), x3 != 0)], r2, some ad, 0, A12, c12, by omega, by go_num, by rw [H0r.out], by simp, by omega, by rw [H0r.out]; omega, Hb13, hAp, Hfit2⟩
              case measure => simp [intOf]; omega
            · have hb13 := Hbs3.out
              rw [if_neg hc74] at hb13
              have Hb13 := Lib.hid hb13
              have h4cI : (4 : Int) ≤ (c7 : Int) := by omega
              have h4rI : (4 : Int) ≤ (r2.length : Int) + 4 := by omega
              clear hb13 Hbs3 Hc
              go_wp2_with fail
              go_roundw
              case rel => exact ⟨vs.length + 1, vs ++ [((s6, [y0, y1, y2, y3, y4, y5, y6, y7, y8, y9, ya, yb, yc, yd, ye, yf]), (x0.toNat : Int), 256 * (x1.toNat : Int) + (x2.toNat : Int), x3 != 0)], r2, _, _, A12, c12, by omega, by go_num, by first | rfl | simp, by simp, by omega, by omega, Hb13, hAp, Hfit2⟩
              case measure => simp [intOf]; omega
          exact AllReadyH.nil
    · have hltI : ¬ (vs.length : Int) < (m : Int) := by omega
      have Hfit2 := Lib.hid (fit_mid hfit.out (by omega : vs.length = m))
      have HvR : Hid (∀ v ∈ vs, addrOk v.1) := hat.out.shape.vips
      have hvm : vs.length ≤ 64 := by omega
      go_upto_region 15 with fail
      obtain ⟨w14, hw14⟩ : ∃ W, W = wr.alloc (.cells #[] 3) := ⟨_, rfl⟩
      rw [← hw14]
      have I0 : Hid (IOwn w14 w.heap.size (some ⟨wr.heap.size, 0, none⟩) 0 []) := by rw [hw14]; exact IOwn.lit wr _ hat.out.bel.size
      have H0 : Hid (RSt w w14 Av cv (RF vs 0 0 (List.replicate 6 0) 0 0 (List.replicate 6 0) (List.replicate 16 0) (List.replicate 16 0) false 0 0 0)) := by rw [hw14]; exact hat.out.below ((Below.refl _ _).alloc (Nat.le_refl _) _)
      obtain ⟨gl, hgl⟩ : ∃ g, g = wr.heap.size := ⟨_, rfl⟩
      rw [← hgl] at I0 ⊢
      clear hw14 hgl hat hfit hlt hltI
      go_wp2_with fail
      go_loopw [6, 11, 12] (fun v r i wr => ∃ (ns : List Nat) (rest : List UInt8) (A6 : Option Addr) (c6 : Nat) (A1 : Option Addr) (c1 : Nat), ns.length ≤ 9 ∧ i = .int .i64 (ns.length : Int) ∧ v = .slice A6 rest.length c6 ∧ r = .slice A1 ns.length c1 ∧ rest.length ≤ l.length ∧ rest.length ≤ c6 ∧ Hid (BS w w.heap.size A6 rest) ∧ Hid (IOwn wr w.heap.size A1 c1 ns) ∧ Hid (RSt w wr Av cv (RF vs 0 0 (List.replicate 6 0) 0 0 (List.replicate 6 0) (List.replicate 16 0) (List.replicate 16 0) false 0 0 0)) ∧ Hid (Fit2 l vs ns rest)) (fun _ _ i _ => 9 - (intOf i).toNat)
      case atStart => exact ⟨[], rest, A6, c6, _, 0, by simp, rfl, rfl, rfl, hrl, hrc, hbr, I0, H0, Hfit2⟩
      case round =>
        clear H0 I0
        obtain ⟨ns, rest, A6, c6, A1, c1, hk, rfl, rfl, rfl, hrl, hrc, hbr, hI, hat, hfit⟩ := hrel
        rename World => wr
        by_cases hlt : ns.length < 9
        · have hltI : (ns.length : Int) < 9 := by omega
          have hN := Lib.hid ((hbr.out.below hat.out.bel).more hat.out.bel.size)
          go_wp2_with fail
          rcases hr : rnumS rest with _ | ⟨n, r⟩
          · have Hno := Lib.hid (fit_num_no hfit.out hlt hr)
            refine (rnum_no A6 _ c6 rest wr rfl hrc hN.out (by omega) hr).mono ?_
            rintro e w5 ⟨rfl, hb5⟩
            have H5 := Lib.hid (hat.out.below hb5)
            clear hr hb5 hN
            have HZ := Lib.hid H5.out.badBlk
            have Hthb := Lib.hid H5.out.thereR
            have Hpost := Lib.hid (H5.out.bad Hno.out)
            go_wp2_with (first
              | ((with_reducible refine gateS 29 ?_); refine wpList_store_mid rfl 29 (.tmp 2) (.tmp 101) rfl w.heap.size 0 (confCs none 0 0 conf0).toArray rfl rfl Hthb.out conf_size54 (conf_one none 0 0 conf0) ?_))
            refine bodyPost_ret (v := .tuple #[.agg (confCs none 0 0 conf0).toArray, .bool false]) (results_row_tmp (P := Try.prog) (p := 2) (u := 3) rfl _ _ w.heap.size _ _ _ _ rfl HZ.out conf_under rfl conf_size54) rfl Hpost.out
          · have hfit2 := Lib.hid (fit_num_yes hfit.out hlt hr)
            have hrl2 := (rnum_le hr).2
            refine (rnum_yes A6 _ c6 rest wr rfl hrc hN.out (by omega) hr).mono ?_
            rintro e w5 ⟨A7, c7, rfl, hBr, hrc7, hb5⟩
            have H5 := Lib.hid (hat.out.below hb5)
            have I5 := Lib.hid (hI.out.below hb5)
            have Hb7 := Lib.hid (hBr w _ hbr.out)
            clear hr hb5 hN hBr hbr hat hI hfit
            have Hcell : Hid ((w5.alloc (.cells #[.int .i64 (n : Int)] 3)).cell? ⟨w5.heap.size, 0, none⟩ = some (.int .i64 (n : Int))) := (Blk.new w5 3 #[.int .i64 (n : Int)] _ rfl).cell 0
            have I5a := Lib.hid (I5.out.below ((Below.refl _ _).alloc (Nat.le_refl _) (.cells #[.int .i64 (n : Int)] 3)))
            have hsz5 : w.heap.size ≤ (w5.alloc (.cells #[.int .i64 (n : Int)] 3)).heap.size := Nat.le_trans H5.out.bel.size (by simp)
            have Hsz5 := Lib.hid hsz5
            clear hsz5
            go_wp2_with (first
              | ((with_reducible refine gateB .append ?_); refine wpList_append_int rfl _ _ 76 rfl w.heap.size j0 q0 Try.underlying76 hj0 hq0 hq1 hq2 hqc A1 c1 ns n rfl I5a.out w5.heap.size 1 rfl Hcell.out (by omega) Hsz5.out ?_; intro A8 c8 w8 hI8 hg8))
            have H8 := Lib.hid ((H5.out.below ((Below.refl _ _).alloc (Nat.le_refl _) _)).keptI I5a.out hg8)
            have I8 := Lib.hid hI8
            clear hI8 hg8 H5 I5 I5a Hcell Hsz5
            go_roundw
            case rel => exact ⟨ns ++ [n], r, A7, c7, A8, c8, by rw [List.length_append]; simp only [List.length_cons, List.length_nil]; omega, by simp, rfl, by simp, by omega, hrc7, Hb7, I8, H8, hfit2⟩
            case measure => simp [intOf]; omega
        · have hltI : ¬ (ns.length : Int) < 9 := by omega
          obtain ⟨n0, n1, n2, n3, n4, n5, n6, n7, n8, rfl⟩ := nlen9 (by omega : ns.length = 9)
          obtain ⟨gl, hA1, _, _⟩ := hI.out.at_ (by simp)
          subst hA1
          clear hk hlt hltI Hfit2
          have d0 := IOwn.cell hI.out (j := 0) (n := n0) rfl
          have dx := cf_size hat.out.box
          have df := hat.out.box.frozen 1
          go_upto_region 24 with fail
          obtain ⟨w100, hw100⟩ : ∃ W, W = wr.setCell ⟨w.heap.size + 1, 1, none⟩ (.int .i64 (n0 : Int)) := ⟨_, rfl⟩
          rw [← hw100]
          have h100 := hat.out.set_ (f' := (RF vs n0 0 (List.replicate 6 0) 0 0 (List.replicate 6 0) (List.replicate 16 0) (List.replicate 16 0) false 0 0 0)) 1 (.int .i64 (n0 : Int)) (set_size _) rfl (shape_RF HvR.out rfl rfl rfl rfl)
          have i100 := hI.out.grown hat.out.box (by decide) (grownSet wr ⟨w.heap.size + 1, 1, none⟩ (.int .i64 (n0 : Int)))
          rw [← hw100] at h100 i100
          clear hw100 d0 dx df hat hI
          have H100 := Lib.hid h100
          have I100 := Lib.hid i100
          clear h100 i100
          have d0 := IOwn.cell I100.out (j := 1) (n := n1) rfl
          have dx := cf_room H100.out.box
          have df := H100.out.box.frozen 2
          go_upto_region 25 with fail
          obtain ⟨w101, hw101⟩ : ∃ W, W = w100.setCell ⟨w.heap.size + 1, 2, none⟩ (.int .i64 (n1 : Int)) := ⟨_, rfl⟩
          rw [← hw101]
          have h101 := H100.out.set_ (f' := (RF vs n0 n1 (List.replicate 6 0) 0 0 (List.replicate 6 0) (List.replicate 16 0) (List.replicate 16 0) false 0 0 0)) 2 (.int .i64 (n1 : Int)) (set_room _) rfl (shape_RF HvR.out rfl rfl rfl rfl)
          have i101 := I100.out.grown H100.out.box (by decide) (grownSet w100 ⟨w.heap.size + 1, 2, none⟩ (.int .i64 (n1 : Int)))
          rw [← hw101] at h101 i101
          clear hw101 d0 dx df H100 I100
          have H101 := Lib.hid h101
          have I101 := Lib.hid i101
          clear h101 i101
          have HDb := Lib.hid H101.out.box.drew
          have HDi : Hid (IOwn w101.drew w.heap.size (some ⟨gl, 0, none⟩) c1 [n0, n1, n2, n3, n4, n5, n6, n7, n8]) := I101.out.below (Below.refl _ _).drew
          have Hth25 : Hid (w101.drew.there (w.heap.size + 1) 3 6) := Blk.there (o := 3) (n := 6) HDb.out (by rw [List.size_toArray, conf_len H101.out.shape]; decide)
          refine wp_region_noPanic ?_
          refine wp_region_held_drew (S := fun w' => IOwn w' w.heap.size (some ⟨gl, 0, none⟩) c1 [n0, n1, n2, n3, n4, n5, n6, n7, n8]) (by kernel_rfl) HDi.out (fun hHeld => ?_)
          refine wpAnyH_take (i := 0) (v := ?_) rfl (by kernel_rfl) (by kernel_rfl) (by kernel_rfl) (fun _ _ _ h => h) (Or.inl ⟨by rfl, ?_⟩) hHeld ?_
          rotate_left
          · intro w' hSw
            skip
            go_simp
            try with_reducible rfl
          try (simp only [Act.put, List.getElem_toArray, List.getElem_cons_succ, List.getElem_cons_zero, List.setIfInBounds_toArray, List.set_cons_zero, List.set_cons_succ])
          refine wpAnyH_take (i := 1) (v := ?_) rfl (by kernel_rfl) (by kernel_rfl) (by kernel_rfl) (fun _ _ _ h => h) (Or.inl ⟨by rfl, ?_⟩) hHeld ?_
          rotate_left
          · intro w' hSw
            skip
            go_simp
            try with_reducible rfl
          try (simp only [Act.put, List.getElem_toArray, List.getElem_cons_succ, List.getElem_cons_zero, List.setIfInBounds_toArray, List.set_cons_zero, List.set_cons_succ])
          refine wpAnyH_take (i := 2) (v := ?_) rfl (by kernel_rfl) (by kernel_rfl) (by kernel_rfl) (fun _ _ _ h => h) (Or.inl ⟨by rfl, ?_⟩) hHeld ?_
          rotate_left
          · intro w' hSw
            have e2 := IOwn.cell hSw (j := 2) (n := n2) rfl
            go_simp
            try with_reducible rfl
          try (simp only [Act.put, List.getElem_toArray, List.getElem_cons_succ, List.getElem_cons_zero, List.setIfInBounds_toArray, List.set_cons_zero, List.set_cons_succ])
          refine wpAnyH_take (i := 3) (v := ?_) rfl (by kernel_rfl) (by kernel_rfl) (by kernel_rfl) (fun _ _ _ h => h) (Or.inl ⟨by rfl, ?_⟩) hHeld ?_
          rotate_left
          · intro w' hSw
            skip
            go_simp
            try with_reducible rfl
          try (simp only [Act.put, List.getElem_toArray, List.getElem_cons_succ, List.getElem_cons_zero, List.setIfInBounds_toArray, List.set_cons_zero, List.set_cons_succ])
          refine wpAnyH_take (i := 4) (v := ?_) rfl (by kernel_rfl) (by kernel_rfl) (by kernel_rfl) (fun _ _ _ h => h) (Or.inl ⟨by rfl, ?_⟩) hHeld ?_
          rotate_left
          · intro w' hSw
            skip
            go_simp
            try with_reducible rfl
          try (simp only [Act.put, List.getElem_toArray, List.getElem_cons_succ, List.getElem_cons_zero, List.setIfInBounds_toArray, List.set_cons_zero, List.set_cons_succ])
          refine wpAnyH_take (i := 5) (v := ?_) rfl (by kernel_rfl) (by kernel_rfl) (by kernel_rfl) (fun _ _ _ h => h) (Or.inl ⟨by rfl, ?_⟩) hHeld ?_
          rotate_left
          · intro w' hSw
            have e2 := IOwn.cell hSw (j := 3) (n := n3) rfl
            go_simp
            try with_reducible rfl
          try (simp only [Act.put, List.getElem_toArray, List.getElem_cons_succ, List.getElem_cons_zero, List.setIfInBounds_toArray, List.set_cons_zero, List.set_cons_succ])
          refine wpAnyH_take (i := 6) (v := ?_) rfl (by kernel_rfl) (by kernel_rfl) (by kernel_rfl) (fun _ _ _ h => h) (Or.inl ⟨by rfl, ?_⟩) hHeld ?_
          rotate_left
          · intro w' hSw
            skip
            go_simp
            try with_reducible rfl
          try (simp only [Act.put, List.getElem_toArray, List.getElem_cons_succ, List.getElem_cons_zero, List.setIfInBounds_toArray, List.set_cons_zero, List.set_cons_succ])
          refine wpAnyH_take (i := 7) (v := ?_) rfl (by kernel_rfl) (by kernel_rfl) (by kernel_rfl) (fun _ _ _ h => h) (Or.inl ⟨by rfl, ?_⟩) hHeld ?_
          rotate_left
          · intro w' hSw
            skip
            go_simp
            try with_reducible rfl
          try (simp only [Act.put, List.getElem_toArray, List.getElem_cons_succ, List.getElem_cons_zero, List.setIfInBounds_toArray, List.set_cons_zero, List.set_cons_succ])
          refine wpAnyH_take (i := 8) (v := ?_) rfl (by kernel_rfl) (by kernel_rfl) (by kernel_rfl) (fun _ _ _ h => h) (Or.inl ⟨by rfl, ?_⟩) hHeld ?_
          rotate_left
          · intro w' hSw
            have e2 := IOwn.cell hSw (j := 4) (n := n4) rfl
            go_simp
            try with_reducible rfl
          try (simp only [Act.put, List.getElem_toArray, List.getElem_cons_succ, List.getElem_cons_zero, List.setIfInBounds_toArray, List.set_cons_zero, List.set_cons_succ])
          refine wpAnyH_take (i := 9) (v := ?_) rfl (by kernel_rfl) (by kernel_rfl) (by kernel_rfl) (fun _ _ _ h => h) (Or.inl ⟨by rfl, ?_⟩) hHeld ?_
          rotate_left
          · intro w' hSw
            skip
            go_simp
            try with_reducible rfl
          try (simp only [Act.put, List.getElem_toArray, List.getElem_cons_succ, List.getElem_cons_zero, List.setIfInBounds_toArray, List.set_cons_zero, List.set_cons_succ])
          refine wpAnyH_take (i := 10) (v := ?_) rfl (by kernel_rfl) (by kernel_rfl) (by kernel_rfl) (fun _ _ _ h => h) (Or.inl ⟨by rfl, ?_⟩) hHeld ?_
          rotate_left
          · intro w' hSw
            skip
            go_simp
            try with_reducible rfl
          try (simp only [Act.put, List.getElem_toArray, List.getElem_cons_succ, List.getElem_cons_zero, List.setIfInBounds_toArray, List.set_cons_zero, List.set_cons_succ])
          refine wpAnyH_take (i := 11) (v := ?_) rfl (by kernel_rfl) (by kernel_rfl) (by kernel_rfl) (fun _ _ _ h => h) (Or.inl ⟨by rfl, ?_⟩) hHeld ?_
          rotate_left
          · intro w' hSw
            have e2 := IOwn.cell hSw (j := 5) (n := n5) rfl
            go_simp
            try with_reducible rfl
          try (simp only [Act.put, List.getElem_toArray, List.getElem_cons_succ, List.getElem_cons_zero, List.setIfInBounds_toArray, List.set_cons_zero, List.set_cons_succ])
          refine wpAnyH_take (i := 12) (v := ?_) rfl (by kernel_rfl) (by kernel_rfl) (by kernel_rfl) (fun _ _ _ h => h) (Or.inl ⟨by rfl, ?_⟩) hHeld ?_
          rotate_left
          · intro w' hSw
            skip
            go_simp
            try with_reducible rfl
          try (simp only [Act.put, List.getElem_toArray, List.getElem_cons_succ, List.getElem_cons_zero, List.setIfInBounds_toArray, List.set_cons_zero, List.set_cons_succ])
          refine wpAnyH_take (i := 13) (v := ?_) rfl (by kernel_rfl) (by kernel_rfl) (by kernel_rfl) (fun _ _ _ h => h) (Or.inl ⟨by rfl, ?_⟩) hHeld ?_
          rotate_left
          · intro w' hSw
            skip
            go_simp
            try with_reducible rfl
          try (simp only [Act.put, List.getElem_toArray, List.getElem_cons_succ, List.getElem_cons_zero, List.setIfInBounds_toArray, List.set_cons_zero, List.set_cons_succ])
          refine wpAnyH_take (i := 14) (v := ?_) rfl (by kernel_rfl) (by kernel_rfl) (by kernel_rfl) (fun _ _ _ h => h) (Or.inl ⟨by rfl, ?_⟩) hHeld ?_
          rotate_left
          · intro w' hSw
            have e2 := IOwn.cell hSw (j := 6) (n := n6) rfl
            go_simp
            try with_reducible rfl
          try (simp only [Act.put, List.getElem_toArray, List.getElem_cons_succ, List.getElem_cons_zero, List.setIfInBounds_toArray, List.set_cons_zero, List.set_cons_succ])
          refine wpAnyH_take (i := 15) (v := ?_) rfl (by kernel_rfl) (by kernel_rfl) (by kernel_rfl) (fun _ _ _ h => h) (Or.inl ⟨by rfl, ?_⟩) hHeld ?_
          rotate_left
          · intro w' hSw
            skip
            go_simp
            try with_reducible rfl
          try (simp only [Act.put, List.getElem_toArray, List.getElem_cons_succ, List.getElem_cons_zero, List.setIfInBounds_toArray, List.set_cons_zero, List.set_cons_succ])
          refine wpAnyH_take (i := 16) (v := ?_) rfl (by kernel_rfl) (by kernel_rfl) (by kernel_rfl) (fun _ _ _ h => h) (Or.inl ⟨by rfl, ?_⟩) hHeld ?_
          rotate_left
          · intro w' hSw
            skip
            go_simp
            try with_reducible rfl
          try (simp only [Act.put, List.getElem_toArray, List.getElem_cons_succ, List.getElem_cons_zero, List.setIfInBounds_toArray, List.set_cons_zero, List.set_cons_succ])
          refine wpAnyH_ready (rs := [17]) (by kernel_rfl) (by simp) ?_
          refine AllReadyH.cons (i := 17) rfl (fun K hK => ?_) AllReadyH.nil
          rw [if_pos (by rfl)]
          refine wp_store_mid _ _ _ rfl (w.heap.size + 1) 3 ([.int .i64 0, .int .i64 (n2 : Int), .int .i64 (n3 : Int), .int .i64 (n4 : Int), .int .i64 (n5 : Int), .int .i64 (n6 : Int)] : List Value).toArray rfl rfl Hth25.out idle_size (all_oneCell_toArray (by intro u hu; simp only [List.mem_cons, List.not_mem_nil, or_false] at hu; rcases hu with rfl | rfl | rfl | rfl | rfl | rfl <;> rfl)) ?_
          obtain ⟨w102, hw102⟩ : ∃ W, W = w101.drew.setCells (w.heap.size + 1) 3 [.int .i64 0, .int .i64 (n2 : Int), .int .i64 (n3 : Int), .int .i64 (n4 : Int), .int .i64 (n5 : Int), .int .i64 (n6 : Int)] := ⟨_, rfl⟩
          have b102 := Blk.setCells [.int .i64 0, .int .i64 (n2 : Int), .int .i64 (n3 : Int), .int .i64 (n4 : Int), .int .i64 (n5 : Int), .int .i64 (n6 : Int)] 3 HDb.out
          have g102 := grownCells w101.drew (w.heap.size + 1) 3 [.int .i64 0, .int .i64 (n2 : Int), .int .i64 (n3 : Int), .int .i64 (n4 : Int), .int .i64 (n5 : Int), .int .i64 (n6 : Int)] 3 (World.grownBy.refl _ _)
          rw [← hw102] at b102 g102
          rw [setL_list _ _ _ (by rw [conf_len H101.out.shape]; simp)] at b102
          have h102 : RSt w w102 Av cv (RF vs n0 n1 [0, (n2 : Int), (n3 : Int), (n4 : Int), (n5 : Int), (n6 : Int)] 0 0 (List.replicate 6 0) (List.replicate 16 0) (List.replicate 16 0) false 0 0 0) := (H101.out.below (Below.refl _ _).drew).boxed (f' := (RF vs n0 n1 [0, (n2 : Int), (n3 : Int), (n4 : Int), (n5 : Int), (n6 : Int)] 0 0 (List.replicate 6 0) (List.replicate 16 0) (List.replicate 16 0) false 0 0 0)) b102 rfl g102 (shape_RF HvR.out rfl rfl rfl rfl)
          have i102 := HDi.out.grown HDb.out (by decide) g102
          show K _ (w101.drew.setCells (w.heap.size + 1) 3 [.int .i64 0, .int .i64 (n2 : Int), .int .i64 (n3 : Int), .int .i64 (n4 : Int), .int .i64 (n5 : Int), .int .i64 (n6 : Int)])
          rw [← hw102]
          refine hK.out _ _ i102 (fun hHeld => ?_)
          clear hK K
          try (simp only [Act.put, List.getElem_toArray, List.getElem_cons_succ, List.getElem_cons_zero, List.setIfInBounds_toArray, List.set_cons_zero, List.set_cons_succ])
          refine wpAnyH_done (by kernel_rfl) ?_ _
          refine NoPanic.normal ?_
          have H102 := Lib.hid h102
          have I102 := Lib.hid i102
          clear h102 i102 b102 g102 hw102 hHeld HDb HDi Hth25 H101 I101
          have d0 := IOwn.cell I102.out (j := 7) (n := n7) rfl
          have dx := cf_rise H102.out.box (shape_RF HvR.out rfl rfl rfl rfl)
          have df := H102.out.box.frozen 9
          go_upto_region 27 with fail
          obtain ⟨w103, hw103⟩ : ∃ W, W = w102.setCell ⟨w.heap.size + 1, 9, none⟩ (.int .i64 (n7 : Int)) := ⟨_, rfl⟩
          rw [← hw103]
          have h103 := H102.out.set_ (f' := (RF vs n0 n1 [0, (n2 : Int), (n3 : Int), (n4 : Int), (n5 : Int), (n6 : Int)] n7 0 (List.replicate 6 0) (List.replicate 16 0) (List.replicate 16 0) false 0 0 0)) 9 (.int .i64 (n7 : Int)) (set_rise (shape_RF HvR.out rfl rfl rfl rfl) _) rfl (shape_RF HvR.out rfl rfl rfl rfl)
          have i103 := I102.out.grown H102.out.box (by decide) (grownSet w102 ⟨w.heap.size + 1, 9, none⟩ (.int .i64 (n7 : Int)))
          rw [← hw103] at h103 i103
          clear hw103 d0 dx df H102 I102
          have H103 := Lib.hid h103
          have I103 := Lib.hid i103
          clear h103 i103
          have d0 := IOwn.cell I103.out (j := 8) (n := n8) rfl
          have dx := cf_fall H103.out.box (shape_RF HvR.out rfl rfl rfl rfl)
          have df := H103.out.box.frozen 10
          go_upto_region 28 with fail
          obtain ⟨w104, hw104⟩ : ∃ W, W = w103.setCell ⟨w.heap.size + 1, 10, none⟩ (.int .i64 (n8 : Int)) := ⟨_, rfl⟩
          rw [← hw104]
          have h104 := H103.out.set_ (f' := (RF vs n0 n1 [0, (n2 : Int), (n3 : Int), (n4 : Int), (n5 : Int), (n6 : Int)] n7 n8 (List.replicate 6 0) (List.replicate 16 0) (List.replicate 16 0) false 0 0 0)) 10 (.int .i64 (n8 : Int)) (set_fall (shape_RF HvR.out rfl rfl rfl rfl) _) rfl (shape_RF HvR.out rfl rfl rfl rfl)
          have i104 := I103.out.grown H103.out.box (by decide) (grownSet w103 ⟨w.heap.size + 1, 10, none⟩ (.int .i64 (n8 : Int)))
          rw [← hw104] at h104 i104
          clear hw104 d0 dx df H103 I103
          have H104 := Lib.hid h104
          have I104 := Lib.hid i104
          clear h104 i104
          clear I104
          have Hcur := H104
          clear H104
          by_cases h26 : rest.length < 26
          · have h26I : (rest.length : Int) < 26 := by omega
            have Hno := Lib.hid (fit_tail_no hfit.out rfl h26)
            clear h26
            have HZ := Lib.hid Hcur.out.badBlk
            have Hthb := Lib.hid Hcur.out.thereR
            have Hpost := Lib.hid (Hcur.out.bad Hno.out)
            go_wp2_with (first
              | ((with_reducible refine gateS 29 ?_); refine wpList_store_mid rfl 29 (.tmp 2) (.tmp 143) rfl w.heap.size 0 (confCs none 0 0 conf0).toArray rfl rfl Hthb.out conf_size54 (conf_one none 0 0 conf0) ?_))
            refine bodyPost_ret (v := .tuple #[.agg (confCs none 0 0 conf0).toArray, .bool false]) (results_row_tmp (P := Try.prog) (p := 2) (u := 3) rfl _ _ w.heap.size _ _ _ _ rfl HZ.out conf_under rfl conf_size54) rfl Hpost.out
          have h26I : ¬ (rest.length : Int) < 26 := by omega
          have hq26 : 26 ≤ rest.length := by omega
          obtain ⟨ad, hA6, hadb, hcell⟩ := hbr.out (by omega)
          subst hA6
          have Hcell := Lib.hid hcell
          have Hadb := Lib.hid hadb
          have Hfit3 := Lib.hid (fit_tail_yes hfit.out rfl)
          clear hcell hadb hfit h26
          go_wp2_with fail
          go_loopw [16] (fun i wr => ∃ k : Nat, k ≤ 6 ∧ i = .int .i64 (k : Int) ∧ Hid (RSt w wr Av cv (RF vs n0 n1 [0, (n2 : Int), (n3 : Int), (n4 : Int), (n5 : Int), (n6 : Int)] n7 n8 (pad (rest.take k) 6) (List.replicate 16 0) (List.replicate 16 0) false 0 0 0))) (fun i _ => 6 - (intOf i).toNat)
          case atStart => exact ⟨0, by omega, rfl, by rw [pad_zero]; exact Hcur⟩
          case round =>
            clear Hcur
            obtain ⟨k, hk, rfl, hat⟩ := hrel
            rename World => wr
            by_cases hlt : k < 6
            · have hltI : (k : Int) < 6 := by omega
              have hk0 : (0 : Int) ≤ (k : Int) := by omega
              have hkq : (k : Int) < (rest.length : Int) := by omega
              skip
              skip
              skip
              obtain ⟨x, hx⟩ : ∃ x, rest[k]? = some x := ⟨_, List.getElem?_eq_getElem (by omega)⟩
              have d0 : wr.cell? (ad.add (k)) = some (.int .u8 (x.toNat : Int)) := (hat.out.bel.cell (by rw [block_of_add]; exact Hadb.out)).trans (Hcell.out _ x hx)
              have hzc : (wr.cell? ⟨w.heap.size + 1, 11 + k, none⟩).isSome = true := (Blk.there (o := 0) (n := 54) hat.out.box (by rw [List.size_toArray, conf_len hat.out.shape]; decide) (11 + k) (by omega) |>.1 |> (by simpa using ·))
              obtain ⟨z, hz⟩ := Option.isSome_iff_exists.1 hzc
              have df := hat.out.box.frozen (11 + k)
              have h' := hat.out.set_ (f' := (RF vs n0 n1 [0, (n2 : Int), (n3 : Int), (n4 : Int), (n5 : Int), (n6 : Int)] n7 n8 (pad (rest.take (k + 1)) 6) (List.replicate 16 0) (List.replicate 16 0) false 0 0 0)) (11 + k) (.int .u8 (x.toNat : Int)) (by
                have h1 := set_macb (A := Av) (n := (RF vs n0 n1 [0, (n2 : Int), (n3 : Int), (n4 : Int), (n5 : Int), (n6 : Int)] n7 n8 (pad (rest.take k) 6) (List.replicate 16 0) (List.replicate 16 0) false 0 0 0).vips.length) (c := cv) hat.out.shape (k := k) (by omega) x
                have h2 : (pad ((rest).take k) 6).set k x = pad ((rest).take (k + 1)) 6 := pad_setx (by exact hx) (by omega)
                refine h1.trans ?_
                rw [← h2]
                rfl) rfl (shape_RF HvR.out rfl (pad_len (by simp only [List.length_take, List.length_drop]; omega)) rfl rfl)
              have H' := Lib.hid h'
              clear h' hzc hx hat
              go_wp2_with fail
              go_roundw
              case rel => exact ⟨k + 1, by omega, by go_num, H'⟩
              case measure => simp [intOf]; omega
            · have hkN : k = 6 := by omega
              have hkI : (k : Int) = 6 := by omega
              rw [hkN] at hat
              rw [hkI]
              clear hk hlt hkN hkI
              go_wp2_with fail
              go_loopw [17] (fun i wr => ∃ k : Nat, k ≤ 4 ∧ i = .int .i64 (k : Int) ∧ Hid (RSt w wr Av cv (RF vs n0 n1 [0, (n2 : Int), (n3 : Int), (n4 : Int), (n5 : Int), (n6 : Int)] n7 n8 (pad (rest.take 6) 6) (pad ((rest.drop 6).take k) 16) (List.replicate 16 0) false 0 0 0))) (fun i _ => 4 - (intOf i).toNat)
              case atStart => exact ⟨0, by omega, rfl, by rw [pad_zero]; exact hat⟩
              case round =>
                clear hat
                obtain ⟨k, hk, rfl, hat⟩ := hrel
                rename World => wr
                by_cases hlt : k < 4
                · have hltI : (k : Int) < 4 := by omega
                  have hk0 : (0 : Int) ≤ (k : Int) := by omega
                  have hkq : 6 + (k : Int) < (rest.length : Int) := by omega
                  have hk1 : (0 : Int) ≤ 6 + (k : Int) := by omega
                  have hkt : (6 + (k : Int)).toNat = 6 + k := by omega
                  have hwk : IntKind.i64.wrap (6 + (k : Int)) = 6 + (k : Int) := IntWalk.i64_in _ (by omega)
                  obtain ⟨x, hx⟩ : ∃ x, rest[6 + k]? = some x := ⟨_, List.getElem?_eq_getElem (by omega)⟩
                  have d0 : wr.cell? (ad.add (6 + k)) = some (.int .u8 (x.toNat : Int)) := (hat.out.bel.cell (by rw [block_of_add]; exact Hadb.out)).trans (Hcell.out _ x hx)
                  have hzc : (wr.cell? ⟨w.heap.size + 1, 18 + k, none⟩).isSome = true := (Blk.there (o := 0) (n := 54) hat.out.box (by rw [List.size_toArray, conf_len hat.out.shape]; decide) (18 + k) (by omega) |>.1 |> (by simpa using ·))
                  obtain ⟨z, hz⟩ := Option.isSome_iff_exists.1 hzc
                  have df := hat.out.box.frozen (18 + k)
                  have h' := hat.out.set_ (f' := (RF vs n0 n1 [0, (n2 : Int), (n3 : Int), (n4 : Int), (n5 : Int), (n6 : Int)] n7 n8 (pad (rest.take 6) 6) (pad ((rest.drop 6).take (k + 1)) 16) (List.replicate 16 0) false 0 0 0)) (18 + k) (.int .u8 (x.toNat : Int)) (by
                    have h1 := set_fourb (A := Av) (n := (RF vs n0 n1 [0, (n2 : Int), (n3 : Int), (n4 : Int), (n5 : Int), (n6 : Int)] n7 n8 (pad (rest.take 6) 6) (pad ((rest.drop 6).take k) 16) (List.replicate 16 0) false 0 0 0).vips.length) (c := cv) hat.out.shape (k := k) (by omega) x
                    have h2 : (pad ((rest.drop 6).take k) 16).set k x = pad ((rest.drop 6).take (k + 1)) 16 := pad_setx (by rw [List.getElem?_drop]; exact hx) (by omega)
                    refine h1.trans ?_
                    rw [← h2]
                    rfl) rfl (shape_RF HvR.out rfl (pad_len (by simp only [List.length_take, List.length_drop]; omega)) (pad_len (by simp only [List.length_take, List.length_drop]; omega)) rfl)
                  have H' := Lib.hid h'
                  clear h' hzc hx hat
                  go_wp2_with fail
                  go_roundw
                  case rel => exact ⟨k + 1, by omega, by go_num, H'⟩
                  case measure => simp [intOf]; omega
                · have hkN : k = 4 := by omega
                  have hkI : (k : Int) = 4 := by omega
                  rw [hkN] at hat
                  rw [hkI]
                  clear hk hlt hkN hkI
                  go_wp2_with fail
                  go_loopw [18] (fun i wr => ∃ k : Nat, k ≤ 16 ∧ i = .int .i64 (k : Int) ∧ Hid (RSt w wr Av cv (RF vs n0 n1 [0, (n2 : Int), (n3 : Int), (n4 : Int), (n5 : Int), (n6 : Int)] n7 n8 (pad (rest.take 6) 6) (pad ((rest.drop 6).take 4) 16) (pad ((rest.drop 10).take k) 16) false 0 0 0))) (fun i _ => 16 - (intOf i).toNat)
                  case atStart => exact ⟨0, by omega, rfl, by rw [pad_zero]; exact hat⟩
                  case round =>
                    clear hat
                    obtain ⟨k, hk, rfl, hat⟩ := hrel
                    rename World => wr
                    by_cases hlt : k < 16
                    · have hltI : (k : Int) < 16 := by omega
                      have hk0 : (0 : Int) ≤ (k : Int) := by omega
                      have hkq : 10 + (k : Int) < (rest.length : Int) := by omega
                      have hk1 : (0 : Int) ≤ 10 + (k : Int) := by omega
                      have hkt : (10 + (k : Int)).toNat = 10 + k := by omega
                      have hwk : IntKind.i64.wrap (10 + (k : Int)) = 10 + (k : Int) := IntWalk.i64_in _ (by omega)
                      obtain ⟨x, hx⟩ : ∃ x, rest[10 + k]? = some x := ⟨_, List.getElem?_eq_getElem (by omega)⟩
                      have d0 : wr.cell? (ad.add (10 + k)) = some (.int .u8 (x.toNat : Int)) := (hat.out.bel.cell (by rw [block_of_add]; exact Hadb.out)).trans (Hcell.out _ x hx)
                      have hzc : (wr.cell? ⟨w.heap.size + 1, 35 + k, none⟩).isSome = true := (Blk.there (o := 0) (n := 54) hat.out.box (by rw [List.size_toArray, conf_len hat.out.shape]; decide) (35 + k) (by omega) |>.1 |> (by simpa using ·))
                      obtain ⟨z, hz⟩ := Option.isSome_iff_exists.1 hzc
                      have df := hat.out.box.frozen (35 + k)
                      have h' := hat.out.set_ (f' := (RF vs n0 n1 [0, (n2 : Int), (n3 : Int), (n4 : Int), (n5 : Int), (n6 : Int)] n7 n8 (pad (rest.take 6) 6) (pad ((rest.drop 6).take 4) 16) (pad ((rest.drop 10).take (k + 1)) 16) false 0 0 0)) (35 + k) (.int .u8 (x.toNat : Int)) (by
                        have h1 := set_sixb (A := Av) (n := (RF vs n0 n1 [0, (n2 : Int), (n3 : Int), (n4 : Int), (n5 : Int), (n6 : Int)] n7 n8 (pad (rest.take 6) 6) (pad ((rest.drop 6).take 4) 16) (pad ((rest.drop 10).take k) 16) false 0 0 0).vips.length) (c := cv) hat.out.shape (k := k) (by omega) x
                        have h2 : (pad ((rest.drop 10).take k) 16).set k x = pad ((rest.drop 10).take (k + 1)) 16 := pad_setx (by rw [List.getElem?_drop]; exact hx) (by omega)
                        refine h1.trans ?_
                        rw [← h2]
                        rfl) rfl (shape_RF HvR.out rfl (pad_len (by simp only [List.length_take, List.length_drop]; omega)) (pad_len (by simp only [List.length_take, List.length_drop]; omega)) (pad_len (by simp only [List.length_take, List.length_drop]; omega)))
                      have H' := Lib.hid h'
                      clear h' hzc hx hat
                      go_wp2_with fail
                      go_roundw
                      case rel => exact ⟨k + 1, by omega, by go_num, H'⟩
                      case measure => simp [intOf]; omega
                    · have hkN : k = 16 := by omega
                      have hkI : (k : Int) = 16 := by omega
                      rw [hkN] at hat
                      rw [hkI]
                      clear hk hlt hkN hkI
                      have dx := cf_six0 hat.out.box hat.out.shape
                      have df := hat.out.box.frozen 34
                      go_upto_region 43 with fail
                      obtain ⟨w105, hw105⟩ : ∃ W, W = wr.setCell ⟨w.heap.size + 1, 34, none⟩ (.bool true) := ⟨_, rfl⟩
                      rw [← hw105]
                      have h105 := hat.out.set_ (f' := (RF vs n0 n1 [0, (n2 : Int), (n3 : Int), (n4 : Int), (n5 : Int), (n6 : Int)] n7 n8 (pad (rest.take 6) 6) (pad ((rest.drop 6).take 4) 16) (pad ((rest.drop 10).take 16) 16) true 0 0 0)) 34 (.bool true) (set_six6 hat.out.shape true) rfl (shape_RF HvR.out rfl (pad_len (by simp only [List.length_take, List.length_drop]; omega)) (pad_len (by simp only [List.length_take, List.length_drop]; omega)) (pad_len (by simp only [List.length_take, List.length_drop]; omega)))
                      rw [← hw105] at h105
                      have H105 := Lib.hid h105
                      have h26c : (26 : Int) ≤ (c6 : Int) := by omega
                      have h26r : (26 : Int) ≤ (rest.length : Int) := by omega
                      have hbs := hbr.out.drop (k := 26) hrc
                      have hrd : (rest.drop 26).length = rest.length - 26 := List.length_drop
                      have Hrd := Lib.hid hrd
                      clear hw105 dx df h105 hat hrd
                      by_cases hc26 : c6 = 26
                      · have h0r : rest.drop 26 = [] := List.eq_nil_of_length_eq_zero (by rw [Hrd.out]; omega)
                        have hr26 : rest.length = 26 := by omega
                        have Hno := Lib.hid (fit_last_no Hfit3.out (by decide) (by rw [h0r]; rfl))
                        have HR26 := Lib.hid hr26
                        subst hc26
                        clear hbs h0r
                        go_upto_region 45 with fail
                        obtain ⟨w44, hw44⟩ : ∃ W, W = w105.alloc (.cells #[] 3) := ⟨_, rfl⟩
                        rw [← hw44]
                        have HW : Hid (RSt w w44 Av cv (RF vs n0 n1 [0, (n2 : Int), (n3 : Int), (n4 : Int), (n5 : Int), (n6 : Int)] n7 n8 (pad (rest.take 6) 6) (pad ((rest.drop 6).take 4) 16) (pad ((rest.drop 10).take 16) 16) true 0 0 0)) := by rw [hw44]; exact H105.out.below ((Below.refl _ _).alloc (Nat.le_refl _) _)
                        clear hw44 H105
                        go_wp2_with fail
                        go_loopw [6, 19, 20] (fun v r i wr => v = .slice (some ad) 0 0 ∧ i = .int .i64 0 ∧ Hid (RSt w wr Av cv (RF vs n0 n1 [0, (n2 : Int), (n3 : Int), (n4 : Int), (n5 : Int), (n6 : Int)] n7 n8 (pad (rest.take 6) 6) (pad ((rest.drop 6).take 4) 16) (pad ((rest.drop 10).take 16) 16) true 0 0 0))) (fun _ _ _ _ => 0)
                        case atStart => exact ⟨by first | rfl | (rw [HR26.out]) | simp [HR26.out], rfl, HW⟩
                        case round =>
                          obtain ⟨rfl, rfl, hat⟩ := hrel
                          rename World => wr
                          go_wp2_with fail
                          refine (rnum_no (some ad) 0 0 [] wr rfl (Nat.le_refl _) (BS.nil _ _ _) (by omega) rfl).mono ?_
                          rintro e w5 ⟨rfl, hb5⟩
                          have H5 := Lib.hid (hat.out.below hb5)
                          clear hb5
                          have HZ := Lib.hid H5.out.badBlk
                          have Hthb := Lib.hid H5.out.thereR
                          have Hpost := Lib.hid (H5.out.bad Hno.out)
                          go_wp2_with (first
                            | ((with_reducible refine gateS 29 ?_); refine wpList_store_mid rfl 29 (.tmp 2) (.tmp 198) rfl w.heap.size 0 (confCs none 0 0 conf0).toArray rfl rfl Hthb.out conf_size54 (conf_one none 0 0 conf0) ?_))
                          refine bodyPost_ret (v := .tuple #[.agg (confCs none 0 0 conf0).toArray, .bool false]) (results_row_tmp (P := Try.prog) (p := 2) (u := 3) rfl _ _ w.heap.size _ _ _ _ rfl HZ.out conf_under rfl conf_size54) rfl Hpost.out
                      · rw [if_neg hc26] at hbs
                        have Hbs := Lib.hid hbs
                        have hrc2 : (rest.drop 26).length ≤ c6 - 26 := by rw [Hrd.out]; omega
                        have hrl2 : (rest.drop 26).length ≤ l.length := by rw [Hrd.out]; omega
                        obtain ⟨r3, hr3⟩ : ∃ r, r = rest.drop 26 := ⟨_, rfl⟩
                        have Hrd3 : Hid (r3.length = rest.length - 26) := by rw [hr3]; exact Hrd
                        rw [← hr3] at Hbs hrc2 hrl2 Hfit3
                        clear hbs hr3 Hrd
                        go_upto_region 45 with fail
                        obtain ⟨w44, hw44⟩ : ∃ W, W = w105.alloc (.cells #[] 3) := ⟨_, rfl⟩
                        rw [← hw44]
                        have IW : Hid (IOwn w44 w.heap.size (some ⟨w105.heap.size, 0, none⟩) 0 []) := by rw [hw44]; exact IOwn.lit w105 _ H105.out.bel.size
                        have HW : Hid (RSt w w44 Av cv (RF vs n0 n1 [0, (n2 : Int), (n3 : Int), (n4 : Int), (n5 : Int), (n6 : Int)] n7 n8 (pad (rest.take 6) 6) (pad ((rest.drop 6).take 4) 16) (pad ((rest.drop 10).take 16) 16) true 0 0 0)) := by rw [hw44]; exact H105.out.below ((Below.refl _ _).alloc (Nat.le_refl _) _)
                        obtain ⟨gm, hgm⟩ : ∃ g, g = w105.heap.size := ⟨_, rfl⟩
                        rw [← hgm] at IW ⊢
                        obtain ⟨xs, hxs⟩ : ∃ xs, xs = rest := ⟨_, rfl⟩
                        clear hw44 hgm H105 hxs xs
                        go_wp2_with fail
                        obtain ⟨mac, hmac⟩ : ∃ x, x = rest.take 6 := ⟨_, rfl⟩
                        obtain ⟨four, hfour⟩ : ∃ x, x = (rest.drop 6).take 4 := ⟨_, rfl⟩
                        obtain ⟨six, hsix⟩ : ∃ x, x = (rest.drop 10).take 16 := ⟨_, rfl⟩
                        have Hml : Hid (mac.length = 6 ∧ four.length = 4 ∧ six.length = 16) := by
                          show _ ∧ _ ∧ _
                          rw [hmac, hfour, hsix]
                          simp only [List.length_take, List.length_drop]
                          omega
                        rw [← hmac, ← hfour, ← hsix] at HW Hfit3
                        rw [← Hrd3.out]
                        clear hmac hfour hsix
                        go_loopw [6, 19, 20] (fun v r i wr => ∃ (ns : List Nat) (rest : List UInt8) (A6 : Option Addr) (c6 : Nat) (A1 : Option Addr) (c1 : Nat), ns.length ≤ 3 ∧ i = .int .i64 (ns.length : Int) ∧ v = .slice A6 rest.length c6 ∧ r = .slice A1 ns.length c1 ∧ rest.length ≤ l.length ∧ rest.length ≤ c6 ∧ Hid (BS w w.heap.size A6 rest) ∧ Hid (IOwn wr w.heap.size A1 c1 ns) ∧ Hid (RSt w wr Av cv (RF vs n0 n1 [0, (n2 : Int), (n3 : Int), (n4 : Int), (n5 : Int), (n6 : Int)] n7 n8 (pad mac 6) (pad four 16) (pad six 16) true 0 0 0)) ∧ Hid (Fit3 l vs [n0, n1, n2, n3, n4, n5, n6, n7, n8] mac four six ns rest)) (fun _ _ i _ => 3 - (intOf i).toNat)
                        case atStart => exact ⟨[], r3, _, _, _, 0, by simp, rfl, rfl, rfl, hrl2, hrc2, Hbs, IW, HW, Hfit3⟩
                        case round =>
                          clear HW IW
                          obtain ⟨ns, rest, A6, c6, A1, c1, hk, rfl, rfl, rfl, hrl, hrc, hbr, hI, hat, hfit⟩ := hrel
                          rename World => wr
                          by_cases hlt : ns.length < 3
                          · have hltI : (ns.length : Int) < 3 := by omega
                            have hN := Lib.hid ((hbr.out.below hat.out.bel).more hat.out.bel.size)
                            go_wp2_with fail
                            rcases hr : rnumS rest with _ | ⟨n, r⟩
                            · have Hno := Lib.hid (fit_last_no hfit.out hlt hr)
                              refine (rnum_no A6 _ c6 rest wr rfl hrc hN.out (by omega) hr).mono ?_
                              rintro e w5 ⟨rfl, hb5⟩
                              have H5 := Lib.hid (hat.out.below hb5)
                              clear hr hb5 hN
                              have HZ := Lib.hid H5.out.badBlk
                              have Hthb := Lib.hid H5.out.thereR
                              have Hpost := Lib.hid (H5.out.bad Hno.out)
                              go_wp2_with (first
                                | ((with_reducible refine gateS 29 ?_); refine wpList_store_mid rfl 29 (.tmp 2) (.tmp 198) rfl w.heap.size 0 (confCs none 0 0 conf0).toArray rfl rfl Hthb.out conf_size54 (conf_one none 0 0 conf0) ?_))
                              refine bodyPost_ret (v := .tuple #[.agg (confCs none 0 0 conf0).toArray, .bool false]) (results_row_tmp (P := Try.prog) (p := 2) (u := 3) rfl _ _ w.heap.size _ _ _ _ rfl HZ.out conf_under rfl conf_size54) rfl Hpost.out
                            · have hfit2 := Lib.hid (fit_last_yes hfit.out hlt hr)
                              have hrl2 := (rnum_le hr).2
                              refine (rnum_yes A6 _ c6 rest wr rfl hrc hN.out (by omega) hr).mono ?_
                              rintro e w5 ⟨A7, c7, rfl, hBr, hrc7, hb5⟩
                              have H5 := Lib.hid (hat.out.below hb5)
                              have I5 := Lib.hid (hI.out.below hb5)
                              have Hb7 := Lib.hid (hBr w _ hbr.out)
                              clear hr hb5 hN hBr hbr hat hI hfit
                              have Hcell : Hid ((w5.alloc (.cells #[.int .i64 (n : Int)] 3)).cell? ⟨w5.heap.size, 0, none⟩ = some (.int .i64 (n : Int))) := (Blk.new w5 3 #[.int .i64 (n : Int)] _ rfl).cell 0
                              have I5a := Lib.hid (I5.out.below ((Below.refl _ _).alloc (Nat.le_refl _) (.cells #[.int .i64 (n : Int)] 3)))
                              have hsz5 : w.heap.size ≤ (w5.alloc (.cells #[.int .i64 (n : Int)] 3)).heap.size := Nat.le_trans H5.out.bel.size (by simp)
                              have Hsz5 := Lib.hid hsz5
                              clear hsz5
                              go_wp2_with (first
                                | ((with_reducible refine gateB .append ?_); refine wpList_append_int rfl _ _ 76 rfl w.heap.size j0 q0 Try.underlying76 hj0 hq0 hq1 hq2 hqc A1 c1 ns n rfl I5a.out w5.heap.size 1 rfl Hcell.out (by omega) Hsz5.out ?_; intro A8 c8 w8 hI8 hg8))
                              have H8 := Lib.hid ((H5.out.below ((Below.refl _ _).alloc (Nat.le_refl _) _)).keptI I5a.out hg8)
                              have I8 := Lib.hid hI8
                              clear hI8 hg8 H5 I5 I5a Hcell Hsz5
                              go_roundw
                              case rel => exact ⟨ns ++ [n], r, A7, c7, A8, c8, by rw [List.length_append]; simp only [List.length_cons, List.length_nil]; omega, by simp, rfl, by simp, by omega, hrc7, Hb7, I8, H8, hfit2⟩
                              case measure => simp [intOf]; omega
                          · have hltI : ¬ (ns.length : Int) < 3 := by omega
                            obtain ⟨k0, k1, k2, rfl⟩ := nlen3 (by omega : ns.length = 3)
                            obtain ⟨gk, hA1, _, _⟩ := hI.out.at_ (by simp)
                            subst hA1
                            clear hk hlt hltI
                            have d0 := IOwn.cell hI.out (j := 0) (n := k0) rfl
                            have dx := cf_most hat.out.box (shape_RF HvR.out rfl (pad_len (by have := Hml.out; omega)) (pad_len (by have := Hml.out; omega)) (pad_len (by have := Hml.out; omega)))
                            have df := hat.out.box.frozen 51
                            go_upto_region 54 with fail
                            obtain ⟨w106, hw106⟩ : ∃ W, W = wr.setCell ⟨w.heap.size + 1, 51, none⟩ (.int .i64 (k0 : Int)) := ⟨_, rfl⟩
                            rw [← hw106]
                            have h106 := hat.out.set_ (f' := (RF vs n0 n1 [0, (n2 : Int), (n3 : Int), (n4 : Int), (n5 : Int), (n6 : Int)] n7 n8 (pad mac 6) (pad four 16) (pad six 16) true k0 0 0)) 51 (.int .i64 (k0 : Int)) (set_most (shape_RF HvR.out rfl (pad_len (by have := Hml.out; omega)) (pad_len (by have := Hml.out; omega)) (pad_len (by have := Hml.out; omega))) _) rfl (shape_RF HvR.out rfl (pad_len (by have := Hml.out; omega)) (pad_len (by have := Hml.out; omega)) (pad_len (by have := Hml.out; omega)))
                            have i106 := hI.out.grown hat.out.box (by decide) (grownSet wr ⟨w.heap.size + 1, 51, none⟩ (.int .i64 (k0 : Int)))
                            rw [← hw106] at h106 i106
                            clear hw106 d0 dx df hat hI
                            have H106 := Lib.hid h106
                            have I106 := Lib.hid i106
                            clear h106 i106
                            have d0 := IOwn.cell I106.out (j := 1) (n := k1) rfl
                            have dx := cf_keep H106.out.box (shape_RF HvR.out rfl (pad_len (by have := Hml.out; omega)) (pad_len (by have := Hml.out; omega)) (pad_len (by have := Hml.out; omega)))
                            have df := H106.out.box.frozen 52
                            go_upto_region 55 with fail
                            obtain ⟨w107, hw107⟩ : ∃ W, W = w106.setCell ⟨w.heap.size + 1, 52, none⟩ (.int .i64 (k1 : Int)) := ⟨_, rfl⟩
                            rw [← hw107]
                            have h107 := H106.out.set_ (f' := (RF vs n0 n1 [0, (n2 : Int), (n3 : Int), (n4 : Int), (n5 : Int), (n6 : Int)] n7 n8 (pad mac 6) (pad four 16) (pad six 16) true k0 k1 0)) 52 (.int .i64 (k1 : Int)) (set_keep (shape_RF HvR.out rfl (pad_len (by have := Hml.out; omega)) (pad_len (by have := Hml.out; omega)) (pad_len (by have := Hml.out; omega))) _) rfl (shape_RF HvR.out rfl (pad_len (by have := Hml.out; omega)) (pad_len (by have := Hml.out; omega)) (pad_len (by have := Hml.out; omega)))
                            have i107 := I106.out.grown H106.out.box (by decide) (grownSet w106 ⟨w.heap.size + 1, 52, none⟩ (.int .i64 (k1 : Int)))
                            rw [← hw107] at h107 i107
                            clear hw107 d0 dx df H106 I106
                            have H107 := Lib.hid h107
                            have I107 := Lib.hid i107
                            clear h107 i107
                            have d0 := IOwn.cell I107.out (j := 2) (n := k2) rfl
                            have dx := cf_batch H107.out.box (shape_RF HvR.out rfl (pad_len (by have := Hml.out; omega)) (pad_len (by have := Hml.out; omega)) (pad_len (by have := Hml.out; omega)))
                            have df := H107.out.box.frozen 53
                            go_upto_region 56 with fail
                            obtain ⟨w108, hw108⟩ : ∃ W, W = w107.setCell ⟨w.heap.size + 1, 53, none⟩ (.int .i64 (k2 : Int)) := ⟨_, rfl⟩
                            rw [← hw108]
                            have h108 := H107.out.set_ (f' := (RF vs n0 n1 [0, (n2 : Int), (n3 : Int), (n4 : Int), (n5 : Int), (n6 : Int)] n7 n8 (pad mac 6) (pad four 16) (pad six 16) true k0 k1 k2)) 53 (.int .i64 (k2 : Int)) (set_batch (shape_RF HvR.out rfl (pad_len (by have := Hml.out; omega)) (pad_len (by have := Hml.out; omega)) (pad_len (by have := Hml.out; omega))) _) rfl (shape_RF HvR.out rfl (pad_len (by have := Hml.out; omega)) (pad_len (by have := Hml.out; omega)) (pad_len (by have := Hml.out; omega)))
                            have i108 := I107.out.grown H107.out.box (by decide) (grownSet w107 ⟨w.heap.size + 1, 53, none⟩ (.int .i64 (k2 : Int)))
                            rw [← hw108] at h108 i108
                            clear hw108 d0 dx df H107 I107
                            have H108 := Lib.hid h108
                            have I108 := Lib.hid i108
                            clear h108 i108
                            obtain ⟨f, hf⟩ : ∃ f, f = (RF vs n0 n1 [0, (n2 : Int), (n3 : Int), (n4 : Int), (n5 : Int), (n6 : Int)] n7 n8 (pad mac 6) (pad four 16) (pad six 16) true k0 k1 k2) := ⟨_, rfl⟩
                            have hend : ∀ f', confGetS l = some f' → f' = f := fun f' hf' => by
                              rw [fit_end hfit.out rfl hf', hf, pad_full (b := mac) Hml.out.1, pad_full (b := six) Hml.out.2.2]
                              rfl
                            have hfv : f.vips.length ≤ 64 := by rw [hf]; exact hvm
                            have HE := Lib.hid hend
                            rw [← hf] at H108
                            have hc5 : f.vips.length ≤ cv := own_le H108.out.row.1
                            have Hsh : Hid (ConfShape f) := H108.out.shape
                            have HVS : Hid (VS w108 w108.heap.size Av f.vips) := H108.out.row.vs
                            have HT : Hid (BS w108 w108.heap.size A0 l) := (HB.out.below H108.out.bel).more H108.out.bel.size
                            clear hend hf I108 hfit
                            rcases hrt : rightB f with _ | _
                            · have Hno := Lib.hid (fit_none (fun f' hf' => by
                                have h1 := HE.out f' hf'
                                subst h1
                                have h2 := rightB_iff.2 (confGet_iff.1 hf').2.1
                                rw [hrt] at h2
                                cases h2))
                              have Hrt := Lib.hid hrt
                              clear hrt
                              refine wp_region_noPanic ?_
                              refine wp_region_held_drew (S := fun w' => Below w108.heap.size w108 w') (by kernel_rfl) ((Below.refl _ _).drew) (fun hHeld => ?_)
                              refine wpAnyH_take (i := 0) rfl (by kernel_rfl) (by kernel_rfl) (by kernel_rfl) (fun _ _ _ h => h) (yieldsIf_load_mid (by rfl) 29 (.tmp 4) rfl (w.heap.size + 1) (0) rfl (confCs Av f.vips.length cv f) _ (fun w' hSw => blk_range (Blk.below H108.out.box hSw H108.out.box.lt)) Try.underlying29 rfl (conf_szL Hsh.out)) hHeld ?_
                              try (simp only [Act.put, List.getElem_toArray, List.getElem_cons_succ, List.getElem_cons_zero, List.setIfInBounds_toArray, List.set_cons_zero, List.set_cons_succ])
                              refine wpAnyH_ready (rs := [1]) (by kernel_rfl) (by simp) ?_
                              refine AllReadyH.cons (i := 1) rfl (fun K hK => ?_) AllReadyH.nil
                              go_simp
                              refine (rrightE Av cv f Hsh.out _ ((HVS.out.below hHeld).more hHeld.size) (by omega) false Hrt.out).mono ?_
                              rintro e w60 ⟨rfl, hb60⟩
                              have hBehind : Below w108.heap.size w108 w60 := hHeld.trans (hb60.mono hHeld.size)
                              clear hb60
                              go_wp2_with fail
                              refine hK.out _ _ hBehind (fun hHeld => ?_)
                              clear hK K hBehind
                              try (simp only [Act.put, List.getElem_toArray, List.getElem_cons_succ, List.getElem_cons_zero, List.setIfInBounds_toArray, List.set_cons_zero, List.set_cons_succ])
                              refine wpAnyH_take (i := 2) (v := ?_) rfl (by kernel_rfl) (by kernel_rfl) (by kernel_rfl) (fun _ _ _ h => h) (Or.inl ⟨by rfl, ?_⟩) hHeld ?_
                              rotate_left
                              · intro w' hSw
                                skip
                                go_simp
                                try with_reducible rfl
                              try (simp only [Act.put, List.getElem_toArray, List.getElem_cons_succ, List.getElem_cons_zero, List.setIfInBounds_toArray, List.set_cons_zero, List.set_cons_succ])
                              refine wpAnyH_take (i := 3) (v := ?_) rfl (by kernel_rfl) (by kernel_rfl) (by kernel_rfl) (fun _ _ _ h => h) (Or.inl ⟨by rfl, ?_⟩) hHeld ?_
                              rotate_left
                              · intro w' hSw
                                skip
                                go_simp
                                try with_reducible rfl
                              try (simp only [Act.put, List.getElem_toArray, List.getElem_cons_succ, List.getElem_cons_zero, List.setIfInBounds_toArray, List.set_cons_zero, List.set_cons_succ])
                              refine wpAnyH_take (i := 4) (v := undef) rfl (by kernel_rfl) (by kernel_rfl) (by kernel_rfl) (fun _ _ _ h => h) (Or.inr ⟨by rfl, rfl⟩) hHeld ?_
                              try (simp only [Act.put, List.getElem_toArray, List.getElem_cons_succ, List.getElem_cons_zero, List.setIfInBounds_toArray, List.set_cons_zero, List.set_cons_succ])
                              refine wpAnyH_take (i := 5) (v := undef) rfl (by kernel_rfl) (by kernel_rfl) (by kernel_rfl) (fun _ _ _ h => h) (Or.inr ⟨by rfl, rfl⟩) hHeld ?_
                              try (simp only [Act.put, List.getElem_toArray, List.getElem_cons_succ, List.getElem_cons_zero, List.setIfInBounds_toArray, List.set_cons_zero, List.set_cons_succ])
                              refine wpAnyH_take (i := 6) (v := undef) rfl (by kernel_rfl) (by kernel_rfl) (by kernel_rfl) (fun _ _ _ h => h) (Or.inr ⟨by rfl, rfl⟩) hHeld ?_
                              try (simp only [Act.put, List.getElem_toArray, List.getElem_cons_succ, List.getElem_cons_zero, List.setIfInBounds_toArray, List.set_cons_zero, List.set_cons_succ])
                              refine wpAnyH_take (i := 7) (v := undef) rfl (by kernel_rfl) (by kernel_rfl) (by kernel_rfl) (fun _ _ _ h => h) (Or.inr ⟨by rfl, rfl⟩) hHeld ?_
                              try (simp only [Act.put, List.getElem_toArray, List.getElem_cons_succ, List.getElem_cons_zero, List.setIfInBounds_toArray, List.set_cons_zero, List.set_cons_succ])
                              refine wpAnyH_take (i := 8) (v := undef) rfl (by kernel_rfl) (by kernel_rfl) (by kernel_rfl) (fun _ _ _ h => h) (Or.inr ⟨by rfl, rfl⟩) hHeld ?_
                              try (simp only [Act.put, List.getElem_toArray, List.getElem_cons_succ, List.getElem_cons_zero, List.setIfInBounds_toArray, List.set_cons_zero, List.set_cons_succ])
                              refine wpAnyH_take (i := 9) (v := undef) rfl (by kernel_rfl) (by kernel_rfl) (by kernel_rfl) (fun _ _ _ h => h) (Or.inr ⟨by rfl, rfl⟩) hHeld ?_
                              try (simp only [Act.put, List.getElem_toArray, List.getElem_cons_succ, List.getElem_cons_zero, List.setIfInBounds_toArray, List.set_cons_zero, List.set_cons_succ])
                              refine wpAnyH_take (i := 10) (v := ?_) rfl (by kernel_rfl) (by kernel_rfl) (by kernel_rfl) (fun _ _ _ h => h) (Or.inl ⟨by rfl, ?_⟩) hHeld ?_
                              rotate_left
                              · intro w' hSw
                                skip
                                go_simp
                                try with_reducible rfl
                              try (simp only [Act.put, List.getElem_toArray, List.getElem_cons_succ, List.getElem_cons_zero, List.setIfInBounds_toArray, List.set_cons_zero, List.set_cons_succ])
                              refine wpAnyH_done (by kernel_rfl) ?_ _
                              refine NoPanic.normal ?_
                              have H61 := Lib.hid (H108.out.below hHeld)
                              clear hHeld HVS HT
                              have HZ := Lib.hid H61.out.badBlk
                              have Hthb := Lib.hid H61.out.thereR
                              have Hpost := Lib.hid (H61.out.bad Hno.out)
                              go_wp2_with (first
                                | ((with_reducible refine gateS 29 ?_); refine wpList_store_mid rfl 29 (.tmp 2) (.tmp 227) rfl w.heap.size 0 (confCs none 0 0 conf0).toArray rfl rfl Hthb.out conf_size54 (conf_one none 0 0 conf0) ?_))
                              refine bodyPost_ret (v := .tuple #[.agg (confCs none 0 0 conf0).toArray, .bool false]) (results_row_tmp (P := Try.prog) (p := 2) (u := 3) rfl _ _ w.heap.size _ _ _ _ rfl HZ.out conf_under rfl conf_size54) rfl Hpost.out
                            · have Hrt := Lib.hid hrt
                              clear hrt
                              by_cases hm : confPutS f = l
                              · have Hyes : Hid (confGetS l = some f) := confGet_iff.2 ⟨hm.symm, rightB_iff.1 Hrt.out, Hsh.out⟩
                                have Hm := Lib.hid hm
                                clear hm
                                refine wp_region_noPanic ?_
                                refine wp_region_held_drew (S := fun w' => Below w108.heap.size w108 w') (by kernel_rfl) ((Below.refl _ _).drew) (fun hHeld => ?_)
                                refine wpAnyH_take (i := 0) rfl (by kernel_rfl) (by kernel_rfl) (by kernel_rfl) (fun _ _ _ h => h) (yieldsIf_load_mid (by rfl) 29 (.tmp 4) rfl (w.heap.size + 1) (0) rfl (confCs Av f.vips.length cv f) _ (fun w' hSw => blk_range (Blk.below H108.out.box hSw H108.out.box.lt)) Try.underlying29 rfl (conf_szL Hsh.out)) hHeld ?_
                                try (simp only [Act.put, List.getElem_toArray, List.getElem_cons_succ, List.getElem_cons_zero, List.setIfInBounds_toArray, List.set_cons_zero, List.set_cons_succ])
                                refine wpAnyH_ready (rs := [1]) (by kernel_rfl) (by simp) ?_
                                refine AllReadyH.cons (i := 1) rfl (fun K hK => ?_) AllReadyH.nil
                                go_simp
                                refine (rrightE Av cv f Hsh.out _ ((HVS.out.below hHeld).more hHeld.size) (by omega) true Hrt.out).mono ?_
                                rintro e w60 ⟨rfl, hb60⟩
                                have hBehind : Below w108.heap.size w108 w60 := hHeld.trans (hb60.mono hHeld.size)
                                clear hb60
                                go_wp2_with fail
                                refine hK.out _ _ hBehind (fun hHeld => ?_)
                                clear hK K hBehind
                                try (simp only [Act.put, List.getElem_toArray, List.getElem_cons_succ, List.getElem_cons_zero, List.setIfInBounds_toArray, List.set_cons_zero, List.set_cons_succ])
                                refine wpAnyH_take (i := 2) (v := ?_) rfl (by kernel_rfl) (by kernel_rfl) (by kernel_rfl) (fun _ _ _ h => h) (Or.inl ⟨by rfl, ?_⟩) hHeld ?_
                                rotate_left
                                · intro w' hSw
                                  skip
                                  go_simp
                                  try with_reducible rfl
                                try (simp only [Act.put, List.getElem_toArray, List.getElem_cons_succ, List.getElem_cons_zero, List.setIfInBounds_toArray, List.set_cons_zero, List.set_cons_succ])
                                refine wpAnyH_take (i := 3) (v := ?_) rfl (by kernel_rfl) (by kernel_rfl) (by kernel_rfl) (fun _ _ _ h => h) (Or.inl ⟨by rfl, ?_⟩) hHeld ?_
                                rotate_left
                                · intro w' hSw
                                  skip
                                  go_simp
                                  try with_reducible rfl
                                try (simp only [Act.put, List.getElem_toArray, List.getElem_cons_succ, List.getElem_cons_zero, List.setIfInBounds_toArray, List.set_cons_zero, List.set_cons_succ])
                                refine wpAnyH_take (i := 4) rfl (by kernel_rfl) (by kernel_rfl) (by kernel_rfl) (fun _ _ _ h => h) (yieldsIf_load_mid (by rfl) 29 (.tmp 4) rfl (w.heap.size + 1) (0) rfl (confCs Av f.vips.length cv f) _ (fun w' hSw => blk_range (Blk.below H108.out.box hSw H108.out.box.lt)) Try.underlying29 rfl (conf_szL Hsh.out)) hHeld ?_
                                try (simp only [Act.put, List.getElem_toArray, List.getElem_cons_succ, List.getElem_cons_zero, List.setIfInBounds_toArray, List.set_cons_zero, List.set_cons_succ])
                                refine wpAnyH_take (i := 7) (v := ?_) rfl (by kernel_rfl) (by kernel_rfl) (by kernel_rfl) (fun _ _ _ h => h) (Or.inl ⟨by rfl, ?_⟩) hHeld ?_
                                rotate_left
                                · intro w' hSw
                                  skip
                                  go_simp
                                  try with_reducible rfl
                                try (simp only [Act.put, List.getElem_toArray, List.getElem_cons_succ, List.getElem_cons_zero, List.setIfInBounds_toArray, List.set_cons_zero, List.set_cons_succ])
                                refine wpAnyH_take (i := 8) (v := ?_) rfl (by kernel_rfl) (by kernel_rfl) (by kernel_rfl) (fun _ _ _ h => h) (Or.inl ⟨by rfl, ?_⟩) hHeld ?_
                                rotate_left
                                · intro w' hSw
                                  have hcv := run_convert_bs (P := Try.prog) 40 9 5 Try.underlying40 Try.underlying5 Try.underlying9 w' _ A0 l (HT.out.below hSw) _ c0 rfl
                                  go_simp
                                  try with_reducible rfl
                                try (simp only [Act.put, List.getElem_toArray, List.getElem_cons_succ, List.getElem_cons_zero, List.setIfInBounds_toArray, List.set_cons_zero, List.set_cons_succ])
                                refine wpAnyH_ready (rs := [5]) (by kernel_rfl) (by simp) ?_
                                refine AllReadyH.cons (i := 5) rfl (fun K hK => ?_) AllReadyH.nil
                                go_simp
                                refine (rputE Av cv f Hsh.out _ hc5 ((HVS.out.below hHeld).more hHeld.size) Hrt.out l Hm.out).mono ?_
                                rintro e w62 ⟨A62, c62, rfl, hown62, hb62⟩
                                have hBehind : Below w108.heap.size w108 w62 := hHeld.trans (hb62.mono hHeld.size)
                                have Ho62 := Lib.hid (BS.of_own hown62).1
                                clear hown62 hb62
                                go_wp2_with fail
                                refine hK.out _ _ hBehind (fun hHeld => ?_)
                                clear hK K hBehind
                                try (simp only [Act.put, List.getElem_toArray, List.getElem_cons_succ, List.getElem_cons_zero, List.setIfInBounds_toArray, List.set_cons_zero, List.set_cons_succ])
                                refine wpAnyH_ready (rs := [6]) (by kernel_rfl) (by simp) ?_
                                refine AllReadyH.cons (i := 6) rfl (fun K hK => ?_) AllReadyH.nil
                                have hcv := run_convert_bs (P := Try.prog) 40 9 5 Try.underlying40 Try.underlying5 Try.underlying9 w62 _ A62 l Ho62.out _ c62 rfl
                                go_simp
                                refine hK.out _ _ hHeld (fun hHeld => ?_)
                                clear hK K hcv Ho62
                                try (simp only [Act.put, List.getElem_toArray, List.getElem_cons_succ, List.getElem_cons_zero, List.setIfInBounds_toArray, List.set_cons_zero, List.set_cons_succ])
                                refine wpAnyH_take (i := 9) (v := ?_) rfl (by kernel_rfl) (by kernel_rfl) (by kernel_rfl) (fun _ _ _ h => h) (Or.inl ⟨by rfl, ?_⟩) hHeld ?_
                                rotate_left
                                · intro w' hSw
                                  skip
                                  go_simp
                                  try with_reducible rfl
                                try (simp only [Act.put, List.getElem_toArray, List.getElem_cons_succ, List.getElem_cons_zero, List.setIfInBounds_toArray, List.set_cons_zero, List.set_cons_succ])
                                refine wpAnyH_take (i := 10) (v := ?_) rfl (by kernel_rfl) (by kernel_rfl) (by kernel_rfl) (fun _ _ _ h => h) (Or.inl ⟨by rfl, ?_⟩) hHeld ?_
                                rotate_left
                                · intro w' hSw
                                  skip
                                  go_simp
                                  try with_reducible rfl
                                try (simp only [Act.put, List.getElem_toArray, List.getElem_cons_succ, List.getElem_cons_zero, List.setIfInBounds_toArray, List.set_cons_zero, List.set_cons_succ])
                                refine wpAnyH_done (by kernel_rfl) ?_ _
                                refine NoPanic.normal ?_
                                have H61 := Lib.hid (H108.out.below hHeld)
                                clear hHeld HVS HT
                                have Hsz := Lib.hid (conf_szL Hsh.out (A := Av) (n := f.vips.length) (c := cv))
                                have HR := Lib.hid (blk_range H61.out.box)
                                have HZ := Lib.hid H61.out.goodBlk
                                have Hthg := Lib.hid H61.out.thereF
                                have Hsz2 : Hid ((Try.prog.info? 29).map (·.size) = some (confCs Av f.vips.length cv f).toArray.size) := Hsz
                                have Hpost := Lib.hid (H61.out.good Hyes.out)
                                go_wp2_with (first
                                  | ((with_reducible refine gateL 29 ?_); refine wpList_load_g (by rfl) 29 (.tmp 4) rfl (w.heap.size + 1) 0 rfl (confCs Av f.vips.length cv f) _ HR.out conf_under rfl Hsz.out ?_)
                                  | ((with_reducible refine gateS 29 ?_); refine wpList_store_mid rfl 29 (.tmp 2) (.tmp 228) rfl w.heap.size 0 (confCs Av f.vips.length cv f).toArray rfl rfl Hthg.out Hsz2.out (conf_one _ _ _ _) ?_))
                                refine bodyPost_ret (v := .tuple #[.agg (confCs Av f.vips.length cv f).toArray, .bool true]) (results_row_tmp (P := Try.prog) (p := 2) (u := 3) rfl _ _ w.heap.size _ _ _ _ rfl HZ.out conf_under rfl Hsz2.out) rfl Hpost.out
                              · have Hno := Lib.hid (fit_none (fun f' hf' => by
                                  have h1 := HE.out f' hf'
                                  subst h1
                                  exact hm (confGet_iff.1 hf').1.symm))
                                obtain ⟨m9, hm9⟩ : ∃ m, m = confPutS f := ⟨_, rfl⟩
                                rw [← hm9] at hm
                                have Hm := Lib.hid hm9.symm
                                clear hm9
                                refine wp_region_noPanic ?_
                                refine wp_region_held_drew (S := fun w' => Below w108.heap.size w108 w') (by kernel_rfl) ((Below.refl _ _).drew) (fun hHeld => ?_)
                                refine wpAnyH_take (i := 0) rfl (by kernel_rfl) (by kernel_rfl) (by kernel_rfl) (fun _ _ _ h => h) (yieldsIf_load_mid (by rfl) 29 (.tmp 4) rfl (w.heap.size + 1) (0) rfl (confCs Av f.vips.length cv f) _ (fun w' hSw => blk_range (Blk.below H108.out.box hSw H108.out.box.lt)) Try.underlying29 rfl (conf_szL Hsh.out)) hHeld ?_
                                try (simp only [Act.put, List.getElem_toArray, List.getElem_cons_succ, List.getElem_cons_zero, List.setIfInBounds_toArray, List.set_cons_zero, List.set_cons_succ])
                                refine wpAnyH_ready (rs := [1]) (by kernel_rfl) (by simp) ?_
                                refine AllReadyH.cons (i := 1) rfl (fun K hK => ?_) AllReadyH.nil
                                go_simp
                                refine (rrightE Av cv f Hsh.out _ ((HVS.out.below hHeld).more hHeld.size) (by omega) true Hrt.out).mono ?_
                                rintro e w60 ⟨rfl, hb60⟩
                                have hBehind : Below w108.heap.size w108 w60 := hHeld.trans (hb60.mono hHeld.size)
                                clear hb60
                                go_wp2_with fail
                                refine hK.out _ _ hBehind (fun hHeld => ?_)
                                clear hK K hBehind
                                try (simp only [Act.put, List.getElem_toArray, List.getElem_cons_succ, List.getElem_cons_zero, List.setIfInBounds_toArray, List.set_cons_zero, List.set_cons_succ])
                                refine wpAnyH_take (i := 2) (v := ?_) rfl (by kernel_rfl) (by kernel_rfl) (by kernel_rfl) (fun _ _ _ h => h) (Or.inl ⟨by rfl, ?_⟩) hHeld ?_
                                rotate_left
                                · intro w' hSw
                                  skip
                                  go_simp
                                  try with_reducible rfl
                                try (simp only [Act.put, List.getElem_toArray, List.getElem_cons_succ, List.getElem_cons_zero, List.setIfInBounds_toArray, List.set_cons_zero, List.set_cons_succ])
                                refine wpAnyH_take (i := 3) (v := ?_) rfl (by kernel_rfl) (by kernel_rfl) (by kernel_rfl) (fun _ _ _ h => h) (Or.inl ⟨by rfl, ?_⟩) hHeld ?_
                                rotate_left
                                · intro w' hSw
                                  skip
                                  go_simp
                                  try with_reducible rfl
                                try (simp only [Act.put, List.getElem_toArray, List.getElem_cons_succ, List.getElem_cons_zero, List.setIfInBounds_toArray, List.set_cons_zero, List.set_cons_succ])
                                refine wpAnyH_take (i := 4) rfl (by kernel_rfl) (by kernel_rfl) (by kernel_rfl) (fun _ _ _ h => h) (yieldsIf_load_mid (by rfl) 29 (.tmp 4) rfl (w.heap.size + 1) (0) rfl (confCs Av f.vips.length cv f) _ (fun w' hSw => blk_range (Blk.below H108.out.box hSw H108.out.box.lt)) Try.underlying29 rfl (conf_szL Hsh.out)) hHeld ?_
                                try (simp only [Act.put, List.getElem_toArray, List.getElem_cons_succ, List.getElem_cons_zero, List.setIfInBounds_toArray, List.set_cons_zero, List.set_cons_succ])
                                refine wpAnyH_take (i := 7) (v := ?_) rfl (by kernel_rfl) (by kernel_rfl) (by kernel_rfl) (fun _ _ _ h => h) (Or.inl ⟨by rfl, ?_⟩) hHeld ?_
                                rotate_left
                                · intro w' hSw
                                  skip
                                  go_simp
                                  try with_reducible rfl
                                try (simp only [Act.put, List.getElem_toArray, List.getElem_cons_succ, List.getElem_cons_zero, List.setIfInBounds_toArray, List.set_cons_zero, List.set_cons_succ])
                                refine wpAnyH_take (i := 8) (v := ?_) rfl (by kernel_rfl) (by kernel_rfl) (by kernel_rfl) (fun _ _ _ h => h) (Or.inl ⟨by rfl, ?_⟩) hHeld ?_
                                rotate_left
                                · intro w' hSw
                                  have hcv := run_convert_bs (P := Try.prog) 40 9 5 Try.underlying40 Try.underlying5 Try.underlying9 w' _ A0 l (HT.out.below hSw) _ c0 rfl
                                  go_simp
                                  try with_reducible rfl
                                try (simp only [Act.put, List.getElem_toArray, List.getElem_cons_succ, List.getElem_cons_zero, List.setIfInBounds_toArray, List.set_cons_zero, List.set_cons_succ])
                                refine wpAnyH_ready (rs := [5]) (by kernel_rfl) (by simp) ?_
                                refine AllReadyH.cons (i := 5) rfl (fun K hK => ?_) AllReadyH.nil
                                go_simp
                                refine (rputE Av cv f Hsh.out _ hc5 ((HVS.out.below hHeld).more hHeld.size) Hrt.out m9 Hm.out).mono ?_
                                rintro e w62 ⟨A62, c62, rfl, hown62, hb62⟩
                                have hBehind : Below w108.heap.size w108 w62 := hHeld.trans (hb62.mono hHeld.size)
                                have Ho62 := Lib.hid (BS.of_own hown62).1
                                clear hown62 hb62
                                go_wp2_with fail
                                refine hK.out _ _ hBehind (fun hHeld => ?_)
                                clear hK K hBehind
                                try (simp only [Act.put, List.getElem_toArray, List.getElem_cons_succ, List.getElem_cons_zero, List.setIfInBounds_toArray, List.set_cons_zero, List.set_cons_succ])
                                refine wpAnyH_ready (rs := [6]) (by kernel_rfl) (by simp) ?_
                                refine AllReadyH.cons (i := 6) rfl (fun K hK => ?_) AllReadyH.nil
                                have hcv := run_convert_bs (P := Try.prog) 40 9 5 Try.underlying40 Try.underlying5 Try.underlying9 w62 _ A62 m9 Ho62.out _ c62 rfl
                                go_simp
                                refine hK.out _ _ hHeld (fun hHeld => ?_)
                                clear hK K hcv Ho62
                                try (simp only [Act.put, List.getElem_toArray, List.getElem_cons_succ, List.getElem_cons_zero, List.setIfInBounds_toArray, List.set_cons_zero, List.set_cons_succ])
                                refine wpAnyH_take (i := 9) (v := ?_) rfl (by kernel_rfl) (by kernel_rfl) (by kernel_rfl) (fun _ _ _ h => h) (Or.inl ⟨by rfl, ?_⟩) hHeld ?_
                                rotate_left
                                · intro w' hSw
                                  skip
                                  go_simp
                                  try with_reducible rfl
                                try (simp only [Act.put, List.getElem_toArray, List.getElem_cons_succ, List.getElem_cons_zero, List.setIfInBounds_toArray, List.set_cons_zero, List.set_cons_succ])
                                refine wpAnyH_take (i := 10) (v := ?_) rfl (by kernel_rfl) (by kernel_rfl) (by kernel_rfl) (fun _ _ _ h => h) (Or.inl ⟨by rfl, ?_⟩) hHeld ?_
                                rotate_left
                                · intro w' hSw
                                  skip
                                  go_simp
                                  try with_reducible rfl
                                try (simp only [Act.put, List.getElem_toArray, List.getElem_cons_succ, List.getElem_cons_zero, List.setIfInBounds_toArray, List.set_cons_zero, List.set_cons_succ])
                                refine wpAnyH_done (by kernel_rfl) ?_ _
                                refine NoPanic.normal ?_
                                have H61 := Lib.hid (H108.out.below hHeld)
                                clear hHeld HVS HT
                                rw [show (!(m9 == l)) = true by rw [beq_eq_false_iff_ne.2 hm]; rfl]
                                clear hm
                                have HZ := Lib.hid H61.out.badBlk
                                have Hthb := Lib.hid H61.out.thereR
                                have Hpost := Lib.hid (H61.out.bad Hno.out)
                                go_wp2_with (first
                                  | ((with_reducible refine gateS 29 ?_); refine wpList_store_mid rfl 29 (.tmp 2) (.tmp 227) rfl w.heap.size 0 (confCs none 0 0 conf0).toArray rfl rfl Hthb.out conf_size54 (conf_one none 0 0 conf0) ?_))
                                refine bodyPost_ret (v := .tuple #[.agg (confCs none 0 0 conf0).toArray, .bool false]) (results_row_tmp (P := Try.prog) (p := 2) (u := 3) rfl _ _ w.heap.size _ _ _ _ rfl HZ.out conf_under rfl conf_size54) rfl Hpost.out
end Go.Proofs.Ytmkeljcjhcaigaa
