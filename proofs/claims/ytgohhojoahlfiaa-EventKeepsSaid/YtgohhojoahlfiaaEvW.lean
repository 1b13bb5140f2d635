/- Right of package event (printed by gen_evplain.py). -/
import Derived.Test.YtgohhojoahlfiaaEvV
namespace Go.Proofs.Ytgohhojoahlfiaa
open Go.RowKit
set_option linter.unusedVariables false
set_option linter.unusedSimpArgs false

set_option maxHeartbeats 4000000 in
set_option maxRecDepth 100000 in
theorem right_any (A : Option Addr) (c : Nat) (A2 : Option Addr) (c2 : Nat) (a : EvP) (ha0 : EvShape a) (w : World) (hf : BS w w.heap.size A a.act.frame) :
    Calls Try.prog 12 #[.agg (evCs A a.act.frame.length c A2 a.o.out.length c2 a).toArray] w fun e w' => e = .returned (.bool (rightEB a)) ∧ Below w.heap.size w w' := by
  have ha := Lib.hid ha0
  clear ha0
  obtain ⟨W, hW⟩ : ∃ W, W = w.alloc (.cells (evCs A a.act.frame.length c A2 a.o.out.length c2 a).toArray 39) := ⟨_, rfl⟩
  have HX : Hid (Blk W w.heap.size 39 (evCs A a.act.frame.length c A2 a.o.out.length c2 a).toArray) := by rw [hW]; exact Blk.new w _ _ _ rfl
  have HB : Hid (Below w.heap.size w W) := by rw [hW]; exact (Below.refl _ _).alloc (Nat.le_refl _) _
  have HF := Lib.hid ((hf.below HB.out).more HB.out.size)
  have HW := Lib.hid hW
  clear hW hf
  go_enter Try.func12, Try.ntmps12
  go_upto_region 1 with fail
  rw [← HW.out]
  clear HW
  have RXo := Lib.hid (ce_out HX.out ha.out)
  obtain ⟨x1, hx1⟩ : ∃ Z, Z = W.alloc (.cells (outCs none 0 0 out0).toArray 36) := ⟨_, rfl⟩
  obtain ⟨y1, hy1⟩ : ∃ Z, Z = x1.setCells W.heap.size 0 (outCs A2 a.o.out.length c2 a.o) := ⟨_, rfl⟩
  obtain ⟨htx1, hbx1, hex1⟩ := boxed W x1 y1 36 (outCs none 0 0 out0) (outCs A2 a.o.out.length c2 a.o) rfl hx1 hy1
  rw [out0_lit] at hx1
  have Qx1 := Lib.hid hx1
  have Qy1 := Lib.hid hy1
  have Tx1 := Lib.hid htx1
  have Bx1 := Lib.hid hbx1
  have Ex1 := Lib.hid hex1
  clear hx1 hy1 htx1 hbx1 hex1
  go_upto_region 2 with (first
      | ((with_reducible refine gateL 36 ?_); refine wpList_load_g (by rfl) 36 (.tmp 4) rfl w.heap.size 34 rfl (outCs A2 a.o.out.length c2 a.o) _ RXo.out Try.underlying36 rfl out_sz ?_)
      | (rw [← Qx1.out]; (with_reducible refine gateS 36 ?_); refine wpList_store_mid rfl 36 (.tmp 3) (.tmp 5) rfl W.heap.size 0 (outCs A2 a.o.out.length c2 a.o).toArray rfl rfl Tx1.out out_sz (out_one _ _ _ _) ?_))
  rw [← Qy1.out]
  clear Qx1 Qy1 Tx1
  have HP := Bx1
  have HXn := Lib.hid (Blk.below HX.out Ex1.out HX.out.lt)
  have HB0 : Hid (Below w.heap.size w y1) := HB.out.trans (Ex1.out.mono HB.out.size)
  have HF1 := Lib.hid ((HF.out.below Ex1.out).more Ex1.out.size)
  clear HX HF HB Ex1 Bx1 RXo
  have HX := HXn
  clear HXn
  have RXa := Lib.hid (ce_act HX.out ha.out)
  rcases h0 : (plainB a.act) with _ | _
  · have Hr : Hid (rightEB a = false) := by show _ = _; simp only [rightEB, h0, Bool.false_and, Bool.and_false]
    skip
    go_wp2_with (first
        | ((with_reducible refine gateL 33 ?_); refine wpList_load_g (by rfl) 33 (.tmp 6) rfl w.heap.size 0 rfl (actCs A a.act.frame.length c a.act) _ RXa.out Try.underlying33 rfl (act_sz ha.out.act) ?_))
    refine (plain_any A c a.act ha.out.act y1 HF1.out).mono ?_
    rintro e w5 ⟨rfl, hb5⟩
    have HX5 := Lib.hid (Blk.below HX.out hb5 HX.out.lt)
    have HP5 := Lib.hid (Blk.below HP.out hb5 HP.out.lt)
    have HB : Hid (Below w.heap.size w w5) := HB0.out.trans (hb5.mono HB0.out.size)
    clear HX HP hb5
    have HX := HX5
    have HP := HP5
    clear HX5 HP5
    rw [h0]
    have d0 := co_err HP.out; have d1 := co_reason HP.out; have d3 := co_version HP.out; have d4 := co_name HP.out; have d5 := co_out HP.out; have d6 := ce_len HX.out ha.out
    go_wp2
    go_ret
    exact ⟨by rw [Hr.out]; rfl, HB.out⟩
  · have K0 := Lib.hid h0
    clear h0
    rcases h1 : (inZ a.o.err 0 9) with _ | _
    · have Hr : Hid (rightEB a = false) := by show _ = _; simp only [rightEB, h1, Bool.false_and, Bool.and_false]
      skip
      go_wp2_with (first
          | ((with_reducible refine gateL 33 ?_); refine wpList_load_g (by rfl) 33 (.tmp 6) rfl w.heap.size 0 rfl (actCs A a.act.frame.length c a.act) _ RXa.out Try.underlying33 rfl (act_sz ha.out.act) ?_))
      refine (plain_any A c a.act ha.out.act y1 HF1.out).mono ?_
      rintro e w5 ⟨rfl, hb5⟩
      have HX5 := Lib.hid (Blk.below HX.out hb5 HX.out.lt)
      have HP5 := Lib.hid (Blk.below HP.out hb5 HP.out.lt)
      have HB : Hid (Below w.heap.size w w5) := HB0.out.trans (hb5.mono HB0.out.size)
      clear HX HP hb5
      have HX := HX5
      have HP := HP5
      clear HX5 HP5
      rw [K0.out]
      have d0 := co_err HP.out; have d1 := co_reason HP.out; have d3 := co_version HP.out; have d4 := co_name HP.out; have d5 := co_out HP.out; have d6 := ce_len HX.out ha.out
      go_wp2_with fail
      refine (ewithin_any a.o.err 9 w5).mono ?_
      rintro e w6 ⟨rfl, rfl⟩
      rw [h1]
      go_wp2
      go_ret
      exact ⟨by rw [Hr.out]; rfl, HB.out⟩
    · have K1 := Lib.hid h1
      clear h1
      rcases h2 : (inZ a.o.reason 0 10) with _ | _
      · have Hr : Hid (rightEB a = false) := by show _ = _; simp only [rightEB, h2, Bool.false_and, Bool.and_false]
        skip
        go_wp2_with (first
            | ((with_reducible refine gateL 33 ?_); refine wpList_load_g (by rfl) 33 (.tmp 6) rfl w.heap.size 0 rfl (actCs A a.act.frame.length c a.act) _ RXa.out Try.underlying33 rfl (act_sz ha.out.act) ?_))
        refine (plain_any A c a.act ha.out.act y1 HF1.out).mono ?_
        rintro e w5 ⟨rfl, hb5⟩
        have HX5 := Lib.hid (Blk.below HX.out hb5 HX.out.lt)
        have HP5 := Lib.hid (Blk.below HP.out hb5 HP.out.lt)
        have HB : Hid (Below w.heap.size w w5) := HB0.out.trans (hb5.mono HB0.out.size)
        clear HX HP hb5
        have HX := HX5
        have HP := HP5
        clear HX5 HP5
        rw [K0.out]
        have d0 := co_err HP.out; have d1 := co_reason HP.out; have d3 := co_version HP.out; have d4 := co_name HP.out; have d5 := co_out HP.out; have d6 := ce_len HX.out ha.out
        go_wp2_with fail
        refine (ewithin_any a.o.err 9 w5).mono ?_
        rintro e w6 ⟨rfl, rfl⟩
        rw [K1.out]
        go_wp2_with fail
        refine (ewithin_any a.o.reason 10 w5).mono ?_
        rintro e w6 ⟨rfl, rfl⟩
        rw [h2]
        go_wp2
        go_ret
        exact ⟨by rw [Hr.out]; rfl, HB.out⟩
      · have K2 := Lib.hid h2
        clear h2
        rcases h3 : (inZ a.o.version 0 1099511627776) with _ | _
        · have Hr : Hid (rightEB a = false) := by show _ = _; simp only [rightEB, h3, Bool.false_and, Bool.and_false]
          skip
          go_wp2_with (first
              | ((with_reducible refine gateL 33 ?_); refine wpList_load_g (by rfl) 33 (.tmp 6) rfl w.heap.size 0 rfl (actCs A a.act.frame.length c a.act) _ RXa.out Try.underlying33 rfl (act_sz ha.out.act) ?_))
          refine (plain_any A c a.act ha.out.act y1 HF1.out).mono ?_
          rintro e w5 ⟨rfl, hb5⟩
          have HX5 := Lib.hid (Blk.below HX.out hb5 HX.out.lt)
          have HP5 := Lib.hid (Blk.below HP.out hb5 HP.out.lt)
          have HB : Hid (Below w.heap.size w w5) := HB0.out.trans (hb5.mono HB0.out.size)
          clear HX HP hb5
          have HX := HX5
          have HP := HP5
          clear HX5 HP5
          rw [K0.out]
          have d0 := co_err HP.out; have d1 := co_reason HP.out; have d3 := co_version HP.out; have d4 := co_name HP.out; have d5 := co_out HP.out; have d6 := ce_len HX.out ha.out
          go_wp2_with fail
          refine (ewithin_any a.o.err 9 w5).mono ?_
          rintro e w6 ⟨rfl, rfl⟩
          rw [K1.out]
          go_wp2_with fail
          refine (ewithin_any a.o.reason 10 w5).mono ?_
          rintro e w6 ⟨rfl, rfl⟩
          rw [K2.out]
          go_wp2_with fail
          refine (ewithin_any a.o.version 1099511627776 w5).mono ?_
          rintro e w6 ⟨rfl, rfl⟩
          rw [h3]
          go_wp2
          go_ret
          exact ⟨by rw [Hr.out]; rfl, HB.out⟩
        · have K3 := Lib.hid h3
          clear h3
          rcases h4 : (decide (a.o.name.length ≤ 255)) with _ | _
          · have Hr : Hid (rightEB a = false) := by show _ = _; simp only [rightEB, h4, Bool.false_and, Bool.and_false]
            skip
            have q4 : ¬ (a.o.name.length : Int) ≤ 255 := by have := h4; have := of_decide_eq_false this; omega
            go_wp2_with (first
                | ((with_reducible refine gateL 33 ?_); refine wpList_load_g (by rfl) 33 (.tmp 6) rfl w.heap.size 0 rfl (actCs A a.act.frame.length c a.act) _ RXa.out Try.underlying33 rfl (act_sz ha.out.act) ?_))
            refine (plain_any A c a.act ha.out.act y1 HF1.out).mono ?_
            rintro e w5 ⟨rfl, hb5⟩
            have HX5 := Lib.hid (Blk.below HX.out hb5 HX.out.lt)
            have HP5 := Lib.hid (Blk.below HP.out hb5 HP.out.lt)
            have HB : Hid (Below w.heap.size w w5) := HB0.out.trans (hb5.mono HB0.out.size)
            clear HX HP hb5
            have HX := HX5
            have HP := HP5
            clear HX5 HP5
            rw [K0.out]
            have d0 := co_err HP.out; have d1 := co_reason HP.out; have d3 := co_version HP.out; have d4 := co_name HP.out; have d5 := co_out HP.out; have d6 := ce_len HX.out ha.out
            go_wp2_with fail
            refine (ewithin_any a.o.err 9 w5).mono ?_
            rintro e w6 ⟨rfl, rfl⟩
            rw [K1.out]
            go_wp2_with fail
            refine (ewithin_any a.o.reason 10 w5).mono ?_
            rintro e w6 ⟨rfl, rfl⟩
            rw [K2.out]
            go_wp2_with fail
            refine (ewithin_any a.o.version 1099511627776 w5).mono ?_
            rintro e w6 ⟨rfl, rfl⟩
            rw [K3.out]
            go_wp2
            go_ret
            exact ⟨by rw [Hr.out]; rfl, HB.out⟩
          · have K4 := Lib.hid h4
            clear h4
            rcases h5 : (decide (a.o.out.length = 0)) with _ | _
            · have Hr : Hid (rightEB a = false) := by show _ = _; simp only [rightEB, h5, Bool.false_and, Bool.and_false]
              skip
              have q4 : (a.o.name.length : Int) ≤ 255 := by have := K4.out; have := of_decide_eq_true this; omega
              have q5 : ¬ (a.o.out.length : Int) = 0 := by have := h5; have := of_decide_eq_false this; omega
              have qb5 : ((a.o.out.length : Int) == 0) = false := beq_eq_false_iff_ne.2 (by omega)
              go_wp2_with (first
                  | ((with_reducible refine gateL 33 ?_); refine wpList_load_g (by rfl) 33 (.tmp 6) rfl w.heap.size 0 rfl (actCs A a.act.frame.length c a.act) _ RXa.out Try.underlying33 rfl (act_sz ha.out.act) ?_))
              refine (plain_any A c a.act ha.out.act y1 HF1.out).mono ?_
              rintro e w5 ⟨rfl, hb5⟩
              have HX5 := Lib.hid (Blk.below HX.out hb5 HX.out.lt)
              have HP5 := Lib.hid (Blk.below HP.out hb5 HP.out.lt)
              have HB : Hid (Below w.heap.size w w5) := HB0.out.trans (hb5.mono HB0.out.size)
              clear HX HP hb5
              have HX := HX5
              have HP := HP5
              clear HX5 HP5
              rw [K0.out]
              have d0 := co_err HP.out; have d1 := co_reason HP.out; have d3 := co_version HP.out; have d4 := co_name HP.out; have d5 := co_out HP.out; have d6 := ce_len HX.out ha.out
              go_wp2_with fail
              refine (ewithin_any a.o.err 9 w5).mono ?_
              rintro e w6 ⟨rfl, rfl⟩
              rw [K1.out]
              go_wp2_with fail
              refine (ewithin_any a.o.reason 10 w5).mono ?_
              rintro e w6 ⟨rfl, rfl⟩
              rw [K2.out]
              go_wp2_with fail
              refine (ewithin_any a.o.version 1099511627776 w5).mono ?_
              rintro e w6 ⟨rfl, rfl⟩
              rw [K3.out]
              go_wp2
              go_ret
              exact ⟨by rw [Hr.out]; rfl, HB.out⟩
            · have K5 := Lib.hid h5
              clear h5
              rcases h6 : (inZ a.len 0 262144) with _ | _
              · have Hr : Hid (rightEB a = false) := by show _ = _; simp only [rightEB, h6, Bool.false_and, Bool.and_false]
                skip
                have q4 : (a.o.name.length : Int) ≤ 255 := by have := K4.out; have := of_decide_eq_true this; omega
                have q5 : (a.o.out.length : Int) = 0 := by have := K5.out; have := of_decide_eq_true this; omega
                have qb5 : ((a.o.out.length : Int) == 0) = true := by rw [q5]; rfl
                go_wp2_with (first
                    | ((with_reducible refine gateL 33 ?_); refine wpList_load_g (by rfl) 33 (.tmp 6) rfl w.heap.size 0 rfl (actCs A a.act.frame.length c a.act) _ RXa.out Try.underlying33 rfl (act_sz ha.out.act) ?_))
                refine (plain_any A c a.act ha.out.act y1 HF1.out).mono ?_
                rintro e w5 ⟨rfl, hb5⟩
                have HX5 := Lib.hid (Blk.below HX.out hb5 HX.out.lt)
                have HP5 := Lib.hid (Blk.below HP.out hb5 HP.out.lt)
                have HB : Hid (Below w.heap.size w w5) := HB0.out.trans (hb5.mono HB0.out.size)
                clear HX HP hb5
                have HX := HX5
                have HP := HP5
                clear HX5 HP5
                rw [K0.out]
                have d0 := co_err HP.out; have d1 := co_reason HP.out; have d3 := co_version HP.out; have d4 := co_name HP.out; have d5 := co_out HP.out; have d6 := ce_len HX.out ha.out
                go_wp2_with fail
                refine (ewithin_any a.o.err 9 w5).mono ?_
                rintro e w6 ⟨rfl, rfl⟩
                rw [K1.out]
                go_wp2_with fail
                refine (ewithin_any a.o.reason 10 w5).mono ?_
                rintro e w6 ⟨rfl, rfl⟩
                rw [K2.out]
                go_wp2_with fail
                refine (ewithin_any a.o.version 1099511627776 w5).mono ?_
                rintro e w6 ⟨rfl, rfl⟩
                rw [K3.out]
                go_wp2_with fail
                refine (ewithin_any a.len 262144 w5).mono ?_
                rintro e w6 ⟨rfl, rfl⟩
                rw [h6]
                go_wp2
                go_ret
                exact ⟨by rw [Hr.out]; rfl, HB.out⟩
              · have K6 := Lib.hid h6
                clear h6
                have Hr : Hid (rightEB a = true) := by show _ = _; simp only [rightEB, K0.out, K1.out, K2.out, K3.out, K4.out, K5.out, K6.out, Bool.and_true]
                skip
                have q4 : (a.o.name.length : Int) ≤ 255 := by have := K4.out; have := of_decide_eq_true this; omega
                have q5 : (a.o.out.length : Int) = 0 := by have := K5.out; have := of_decide_eq_true this; omega
                have qb5 : ((a.o.out.length : Int) == 0) = true := by rw [q5]; rfl
                go_wp2_with (first
                    | ((with_reducible refine gateL 33 ?_); refine wpList_load_g (by rfl) 33 (.tmp 6) rfl w.heap.size 0 rfl (actCs A a.act.frame.length c a.act) _ RXa.out Try.underlying33 rfl (act_sz ha.out.act) ?_))
                refine (plain_any A c a.act ha.out.act y1 HF1.out).mono ?_
                rintro e w5 ⟨rfl, hb5⟩
                have HX5 := Lib.hid (Blk.below HX.out hb5 HX.out.lt)
                have HP5 := Lib.hid (Blk.below HP.out hb5 HP.out.lt)
                have HB : Hid (Below w.heap.size w w5) := HB0.out.trans (hb5.mono HB0.out.size)
                clear HX HP hb5
                have HX := HX5
                have HP := HP5
                clear HX5 HP5
                rw [K0.out]
                have d0 := co_err HP.out; have d1 := co_reason HP.out; have d3 := co_version HP.out; have d4 := co_name HP.out; have d5 := co_out HP.out; have d6 := ce_len HX.out ha.out
                go_wp2_with fail
                refine (ewithin_any a.o.err 9 w5).mono ?_
                rintro e w6 ⟨rfl, rfl⟩
                rw [K1.out]
                go_wp2_with fail
                refine (ewithin_any a.o.reason 10 w5).mono ?_
                rintro e w6 ⟨rfl, rfl⟩
                rw [K2.out]
                go_wp2_with fail
                refine (ewithin_any a.o.version 1099511627776 w5).mono ?_
                rintro e w6 ⟨rfl, rfl⟩
                rw [K3.out]
                go_wp2_with fail
                refine (ewithin_any a.len 262144 w5).mono ?_
                rintro e w6 ⟨rfl, rfl⟩
                rw [K6.out]
                go_wp2
                go_ret
                exact ⟨by rw [Hr.out]; rfl, HB.out⟩
end Go.Proofs.Ytgohhojoahlfiaa
