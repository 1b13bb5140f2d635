/- The document's Right: is a config right? (printed by gen_rright.py) -/
import Derived.Test.YtmkeljcjhcaigaaCwC
namespace Go.Proofs.Ytmkeljcjhcaigaa
open Go.RowKit
set_option linter.unusedVariables false
set_option linter.unusedSimpArgs false

theorem vip_szA {v : VipP} (hv : addrOk v.1) : (Try.prog.info? 33).map (·.size) = some (vipCs v).toArray.size := by
  rw [List.size_toArray, vipCs_length hv]; exact vip_size
theorem vip_szL {v : VipP} (hv : addrOk v.1) : (Try.prog.info? 33).map (·.size) = some (vipCs v).length := by
  rw [vipCs_length hv]; exact vip_size
theorem vip_c17 {w : World} {g : Nat} {t : TypeId} {v : VipP} (hv : addrOk v.1) (h : Blk w g t (vipCs v).toArray) : w.cell? ⟨g, 17, none⟩ = some (.int .i64 v.2.1) := by
  rw [h.cell 17]; exact vip_at hv 0
theorem vip_c18 {w : World} {g : Nat} {t : TypeId} {v : VipP} (hv : addrOk v.1) (h : Blk w g t (vipCs v).toArray) : w.cell? ⟨g, 18, none⟩ = some (.int .i64 v.2.2.1) := by
  rw [h.cell 18]; exact vip_at hv 1
theorem vipAt_is {vs : List VipP} {k : Nat} {v : VipP} (h : vs[k]? = some v) : vipAt vs k = (vipR v && !((vs.take k).any (vipIs v.1 v.2.1 v.2.2.1))) := by
  unfold vipAt
  rw [h]
theorem vipsB_no {vs : List VipP} {k : Nat} (hk : k < vs.length) (h : vipAt vs k = false) : vipsB vs = false := by
  rcases hb : vipsB vs with _ | _
  · rfl
  · have := (vipsB_iff.1 hb).2 k hk
    rw [h] at this
    cases this
theorem right_vno {f : ConfP} (h : vipsB f.vips = false) : rightB f = false := by
  simp only [rightB, h, Bool.false_and, Bool.and_false]
theorem right_ino {f : ConfP} (h : idleB f.idle = false) : rightB f = false := by
  simp only [rightB, h, Bool.false_and, Bool.and_false]
theorem any_take_no {vs : List VipP} {k : Nat} {P : VipP → Bool} (h : ∀ j u, j < k → vs[j]? = some u → P u = false) : (vs.take k).any P = false := by
  rw [List.any_eq_false]
  intro u hu
  obtain ⟨j, hj, rfl⟩ := List.getElem_of_mem hu
  rw [List.length_take] at hj
  have := h j vs[j] (by omega) (List.getElem?_eq_getElem (by omega))
  rw [List.getElem_take, this]
  simp
theorem any_take_yes {vs : List VipP} {k j : Nat} {u : VipP} {P : VipP → Bool} (hj : j < k) (hu : vs[j]? = some u) (h : P u = true) : (vs.take k).any P = true := by
  rw [List.any_eq_true]
  exact ⟨u, List.mem_of_getElem? (by rw [List.getElem?_take]; rw [if_pos hj]; exact hu), h⟩

set_option maxHeartbeats 1000000 in
set_option maxRecDepth 100000 in
theorem refRight_any (A : Option Addr) (n c : Nat) (f : ConfP) (hs : ConfShape f) (w : World) (hn : n = f.vips.length) (hb : VS w w.heap.size A f.vips) (hl : n ≤ 1000000) :
    Calls Try.prog 17 #[confV A n c f] w fun e w' => e = .returned (.bool (rightB f)) ∧ Below w.heap.size w w' := by
  subst hn
  unfold confV
  obtain ⟨W, hW⟩ : ∃ W, W = w.alloc (.cells (confCs A f.vips.length c f).toArray 29) := ⟨_, rfl⟩
  have hX : Blk W w.heap.size 29 (confCs A f.vips.length c f).toArray := by rw [hW]; exact Blk.new w _ _ _ rfl
  have hB : Below w.heap.size w W := by rw [hW]; exact (Below.refl _ _).alloc (Nat.le_refl _) _
  have HX : Hid (∀ w', Below W.heap.size W w' → Blk w' w.heap.size 29 (confCs A f.vips.length c f).toArray) := fun w' h => Blk.below hX h hX.lt
  have HV := Lib.hid ((hb.below hB).more hB.size)
  have Hs := Lib.hid hs
  have a0 := cf_c0 hX
  have HW := Lib.hid hW
  have HB := Lib.hid hB
  clear hW hX hB hb hs
  by_cases h64 : f.vips.length ≤ 64
  rotate_left
  · have h64I : (64 : Int) < (f.vips.length : Int) := by omega
    have Hr : Hid (rightB f = false) := right_vno (by
      rcases hb : vipsB f.vips with _ | _
      · rfl
      · exact absurd (vipsB_iff.1 hb).1 h64)
    go_enter Try.func17, Try.ntmps17
    go_upto_region 1 with fail
    rw [← HW.out]
    go_wp2
    go_ret
    exact ⟨by rw [Hr.out]; rfl, HB.out⟩
  have h64I : ¬ (64 : Int) < (f.vips.length : Int) := by omega
  go_enter Try.func17, Try.ntmps17
  go_upto_region 1 with fail
  rw [← HW.out]
  go_wp2_with fail
  go_loopw [3] (fun i wr => ∃ k : Nat, k ≤ f.vips.length ∧ i = .int .i64 (k : Int) ∧ Hid (Below W.heap.size W wr) ∧ Hid (∀ j, j < k → vipAt f.vips j = true)) (fun i _ => f.vips.length - (intOf i).toNat)
  case atStart => exact ⟨0, by omega, rfl, Below.refl _ _, fun j hj => by omega⟩
  case round =>
    obtain ⟨k, hk, rfl, hbel, hat⟩ := hrel
    rename World => wo
    clear a0
    have a0 := cf_c0 (HX.out wo hbel.out)
    by_cases hlt : k < f.vips.length
    · have hltI : (k : Int) < (f.vips.length : Int) := by omega
      have hk0 : (0 : Int) ≤ (k : Int) := by omega
      obtain ⟨b1, o1, hA, hbB, hc⟩ := HV.out (by omega)
      subst hA
      have HV2 : Hid (∀ w', Below W.heap.size W w' → ∀ j v, f.vips[j]? = some v → w'.rangeAt b1 (o1 + j * 20) (vipCs v)) := fun w' h j v hv i u hu => (h.cell (p := ⟨b1, _, none⟩) hbB).trans (hc j v hv i u hu)
      obtain ⟨v, hv⟩ : ∃ v, v = f.vips[k] := ⟨_, rfl⟩
      have hv? : f.vips[k]? = some v := by rw [List.getElem?_eq_getElem hlt, hv]
      have hvo : addrOk v.1 := Hs.out.vips v (by rw [hv]; exact List.getElem_mem hlt)
      have HRv := Lib.hid (HV2.out wo hbel.out k v hv?)
      have Hvo := Lib.hid hvo
      have Hv? := Lib.hid hv?
      have Bw := hbel
      clear hv hv? hvo hc
      obtain ⟨x1, hx1⟩ : ∃ W, W = wo.alloc (.cells (vipCs vip0).toArray 33) := ⟨_, rfl⟩
      obtain ⟨y1, hy1⟩ : ∃ W, W = x1.setCells wo.heap.size 0 (vipCs v) := ⟨_, rfl⟩
      obtain ⟨hth1, hbx1, hbe1⟩ := boxed wo x1 y1 33 (vipCs vip0) (vipCs v) (by rw [vipCs_length Hvo.out, vipCs_length (v := vip0) addr0_ok]) hx1 hy1
      rw [vip0_litA] at hx1
      have HX1 := Lib.hid hx1
      have HY1 := Lib.hid hy1
      have Hth1 := Lib.hid hth1
      have Hbe1 := Lib.hid hbe1
      have H4n := Lib.hid hbx1
      clear hx1 hy1 hth1 hbx1 hbe1
      go_upto_region 7 with (first
        | (rw [← HX1.out]; (with_reducible refine gateS 33 ?_); refine wpList_store_mid rfl 33 (.tmp 4) (.tmp 23) rfl wo.heap.size 0 (vipCs v).toArray rfl rfl Hth1.out (vip_szA Hvo.out) (vip_one v) ?_)
        | ((with_reducible refine gateL 33 ?_); refine wpList_load_g (by rfl) 33 (.tmp 22) rfl b1 (o1 + k * 20) rfl (vipCs v) _ HRv.out Try.underlying33 rfl (vip_szL Hvo.out) ?_))
      rw [← HY1.out]
      clear HX1 HY1 Hth1
      have Bw' : Hid (Below W.heap.size W y1) := Bw.out.trans (Hbe1.out.mono Bw.out.size)
      clear Bw
      have Bw := Bw'
      clear Bw'
      have H4 := H4n
      clear H4n Hbe1
      go_frame
      clear a0 HRv
      have R4a := Lib.hid (vip_blk_range H4.out)
      have Haz := Lib.hid (addr_sz Hvo.out)
      go_cut [43] from 24 to 43 (fun v43 wc => ∃ b : Bool, v43 = .bool b ∧ Hid (vipR v = !b) ∧ Hid (Below y1.heap.size y1 wc))
      case first =>
        go_wp2_with (first | ((with_reducible refine gateL 27 ?_); refine wpList_load_g (by rfl) 27 (.tmp 24) rfl wo.heap.size 0 rfl (addrCs v.1) _ R4a.out Try.underlying27 rfl Haz.out ?_))
        refine (refShort_any v.1 Hvo.out y1).mono ?_
        rintro e w3 ⟨rfl, hb3⟩
        have Hc3 := Lib.hid hb3
        have H43 := Blk.below H4.out hb3 H4.out.lt
        have c17 := vip_c17 Hvo.out H43
        have c18 := vip_c18 Hvo.out H43
        clear hb3 H43
        rcases v with ⟨va, p, q, vt⟩
        simp only at c17 c18
        rcases hsh : shortB va with _ | _
        · have Hvr : Hid (vipR (va, p, q, vt) = false) := by show _ = _; simp only [vipR, hsh, Bool.false_and]
          clear hsh
          go_wp2
          go_meet
          case rel => exact ⟨true, rfl, Hvr, Hc3⟩
        have Hsh := Lib.hid hsh
        clear hsh
        by_cases hp6 : p = 6
        rotate_left
        · by_cases hp17 : p = 17
          rotate_left
          · have Hvr : Hid (vipR (va, p, q, vt) = false) := by show _ = _; simp [vipR, hp6, hp17]
            have h6 : (p == 6) = false := beq_eq_false_iff_ne.2 hp6
            have h17 : (p == 17) = false := beq_eq_false_iff_ne.2 hp17
            go_wp2
            go_meet
            case rel => exact ⟨true, rfl, Hvr, Hc3⟩
          subst hp17
          have Hvr : Hid (vipR (va, 17, q, vt) = inB q 1 65535) := by show _ = _; simp [vipR, Hsh.out]
          go_wp2_with fail
          refine (refIn_any q 1 65535 w3).mono ?_
          rintro e w4 ⟨rfl, rfl⟩
          rcases hq : inB q 1 65535 with _ | _
          · rw [hq] at Hvr
            clear hq
            go_wp2
            go_meet
            case rel => exact ⟨true, rfl, Hvr, Hc3⟩
          · rw [hq] at Hvr
            clear hq
            go_wp2
            go_meet
            case rel => exact ⟨false, rfl, Hvr, Hc3⟩
        subst hp6
        have Hvr : Hid (vipR (va, 6, q, vt) = inB q 1 65535) := by show _ = _; simp [vipR, Hsh.out]
        go_wp2_with fail
        refine (refIn_any q 1 65535 w3).mono ?_
        rintro e w4 ⟨rfl, rfl⟩
        rcases hq : inB q 1 65535 with _ | _
        · rw [hq] at Hvr
          clear hq
          go_wp2
          go_meet
          case rel => exact ⟨true, rfl, Hvr, Hc3⟩
        · rw [hq] at Hvr
          clear hq
          go_wp2
          go_meet
          case rel => exact ⟨false, rfl, Hvr, Hc3⟩
      case rest =>
        obtain ⟨bb, rfl, Hvr, Hc⟩ := hcut
        clear R4a Haz
        have H4' := Lib.hid (Blk.below H4.out Hc.out H4.out.lt)
        clear H4
        have H4 := H4'
        clear H4'
        have Bw' : Hid (Below W.heap.size W wc) := Bw.out.trans (Hc.out.mono Bw.out.size)
        clear Bw
        have Bw := Bw'
        clear Bw'
        clear Hc
        have hat2 := vipAt_is Hv?.out
        rcases bb with _ | _
        rotate_left
        · have Hr : Hid (rightB f = false) := right_vno (vipsB_no hlt (by rw [hat2, Hvr.out]; rfl))
          clear hat2
          go_wp2
          go_ret
          exact ⟨by rw [Hr.out]; rfl, HB.out.trans (Bw.out.mono HB.out.size)⟩
        rw [Hvr.out, Bool.not_false, Bool.true_and] at hat2
        have Hat2 := Lib.hid hat2
        clear hat2
        go_wp2_with fail
        go_loopw [5] (fun i wr => ∃ m : Nat, m ≤ k ∧ i = .int .i64 (m : Int) ∧ Hid (Below W.heap.size W wr) ∧ Hid (Blk wr wo.heap.size 33 (vipCs v).toArray) ∧ Hid (∀ j u, j < m → f.vips[j]? = some u → vipIs v.1 v.2.1 v.2.2.1 u = false)) (fun i _ => k - (intOf i).toNat)
        case atStart => exact ⟨0, by omega, rfl, Bw, H4, fun j u hj => by omega⟩
        case round =>
          clear Bw H4
          obtain ⟨m, hm, rfl, Bw, H4, hno⟩ := hrel
          rename World => wi
          have a0 := cf_c0 (HX.out wi Bw.out)
          by_cases hlm : m < k
          · skip
            have hlmI : (m : Int) < (k : Int) := by omega
            have hm0 : (0 : Int) ≤ (m : Int) := by omega
            have hml : m < f.vips.length := by omega
            obtain ⟨u, hu⟩ : ∃ u, u = f.vips[m] := ⟨_, rfl⟩
            have hu? : f.vips[m]? = some u := by rw [List.getElem?_eq_getElem hml, hu]
            have huo : addrOk u.1 := Hs.out.vips u (by rw [hu]; exact List.getElem_mem hml)
            have HRu := Lib.hid (HV2.out wi Bw.out m u hu?)
            have Huo := Lib.hid huo
            have Hu? := Lib.hid hu?
            clear hu hu? huo
            obtain ⟨x2, hx2⟩ : ∃ W, W = wi.alloc (.cells (vipCs vip0).toArray 33) := ⟨_, rfl⟩
            obtain ⟨y2, hy2⟩ : ∃ W, W = x2.setCells wi.heap.size 0 (vipCs u) := ⟨_, rfl⟩
            obtain ⟨hth2, hbx2, hbe2⟩ := boxed wi x2 y2 33 (vipCs vip0) (vipCs u) (by rw [vipCs_length Huo.out, vipCs_length (v := vip0) addr0_ok]) hx2 hy2
            rw [vip0_litA] at hx2
            have HX2 := Lib.hid hx2
            have HY2 := Lib.hid hy2
            have Hth2 := Lib.hid hth2
            have Hbe2 := Lib.hid hbe2
            have H6n := Lib.hid hbx2
            clear hx2 hy2 hth2 hbx2 hbe2
            have R4 := Lib.hid (blk_range H4.out)
            go_upto_region 13 with (first
              | ((with_reducible refine gateL 33 ?_); refine wpList_load_g (by rfl) 33 (.tmp 4) rfl wo.heap.size 0 rfl (vipCs v) _ R4.out Try.underlying33 rfl (vip_szL Hvo.out) ?_)
              | (rw [← HX2.out]; (with_reducible refine gateS 33 ?_); refine wpList_store_mid rfl 33 (.tmp 6) (.tmp 53) rfl wi.heap.size 0 (vipCs u).toArray rfl rfl Hth2.out (vip_szA Huo.out) (vip_one u) ?_)
              | ((with_reducible refine gateL 33 ?_); refine wpList_load_g (by rfl) 33 (.tmp 52) rfl b1 (o1 + m * 20) rfl (vipCs u) _ HRu.out Try.underlying33 rfl (vip_szL Huo.out) ?_))
            clear R4
            rw [← HY2.out]
            clear HX2 HY2 Hth2
            have H4' := Lib.hid (Blk.below H4.out Hbe2.out H4.out.lt)
            clear H4
            have H4 := H4'
            clear H4'
            have Bw' : Hid (Below W.heap.size W y2) := Bw.out.trans (Hbe2.out.mono Bw.out.size)
            clear Bw
            have Bw := Bw'
            clear Bw'
            have H6 := H6n
            clear H6n Hbe2
            go_frame
            clear a0 HRu
            have R4a := Lib.hid (vip_blk_range H4.out)
            have R6a := Lib.hid (vip_blk_range H6.out)
            have Haz := Lib.hid (addr_sz Hvo.out)
            have Hbz := Lib.hid (addr_sz Huo.out)
            have c17 := vip_c17 Hvo.out H4.out
            have c18 := vip_c18 Hvo.out H4.out
            have d17 := vip_c17 Huo.out H6.out
            have d18 := vip_c18 Huo.out H6.out
            have hEq := addr_eqIn 9997 v.1 u.1 Hvo.out Huo.out y2
            rcases he : (v.1 == u.1) with _ | _
            · rw [he] at hEq
              have HEq := Lib.hid hEq
              have hn : vipIs v.1 v.2.1 v.2.2.1 u = false := by
                have h1 : (u.1 == v.1) = false := beq_eq_false_iff_ne.2 (fun h => by rw [h] at he; simp at he)
                unfold vipIs
                rw [h1]; rfl
              have Hn := Lib.hid hn
              clear hEq he hn
              have Hno2 : Hid (∀ j y, j < m + 1 → f.vips[j]? = some y → vipIs v.1 v.2.1 v.2.2.1 y = false) := fun j y hj hy => by
                rcases Nat.lt_or_ge j m with h1 | h1
                · exact hno.out j y h1 hy
                · obtain rfl : j = m := by omega
                  rw [Hu?.out] at hy
                  injection hy with hy
                  rw [← hy]
                  exact Hn.out
              go_wp2_with (first | ((with_reducible refine gateL 27 ?_); refine wpList_load_g (by rfl) 27 (.tmp 54) rfl wo.heap.size 0 rfl (addrCs v.1) _ R4a.out Try.underlying27 rfl Haz.out ?_) | ((with_reducible refine gateL 27 ?_); refine wpList_load_g (by rfl) 27 (.tmp 56) rfl wi.heap.size 0 rfl (addrCs u.1) _ R6a.out Try.underlying27 rfl Hbz.out ?_) | ((with_reducible refine gateE 27 ?_); refine wpList_eqs_g (by rfl) 27 27 (.tmp 55) (.tmp 57) rfl (addrCs v.1).toArray (addrCs u.1).toArray rfl rfl addr_guard false HEq.out ?_))
              go_roundw
              case rel => exact ⟨m + 1, by omega, by go_num, Bw, H4, Hno2⟩
              case measure => simp [intOf]; omega
            · rw [he] at hEq
              have HEq := Lib.hid hEq
              have hvu : u.1 = v.1 := (beq_iff_eq.1 he).symm
              have Hvu := Lib.hid hvu
              clear hEq he hvu
              obtain ⟨p, hp⟩ : ∃ p, p = v.2.1 := ⟨_, rfl⟩
              obtain ⟨q, hq⟩ : ∃ p, p = v.2.2.1 := ⟨_, rfl⟩
              obtain ⟨p2, hp2⟩ : ∃ p, p = u.2.1 := ⟨_, rfl⟩
              obtain ⟨q2, hq2⟩ : ∃ p, p = u.2.2.1 := ⟨_, rfl⟩
              rw [← hp] at c17
              rw [← hq] at c18
              rw [← hp2] at d17
              rw [← hq2] at d18
              by_cases hpp : p = p2
              · by_cases hqq : q = q2
                · have Hr : Hid (rightB f = false) := right_vno (vipsB_no hlt (by
                    rw [Hat2.out, any_take_yes hlm Hu?.out (by unfold vipIs; rw [Hvu.out, ← hp2, ← hq2, ← hpp, ← hqq, hp, hq]; simp)]
                    rfl))
                  rw [← hpp] at d17
                  rw [← hqq] at d18
                  clear hp hq hp2 hq2 hpp hqq
                  go_wp2_with (first | ((with_reducible refine gateL 27 ?_); refine wpList_load_g (by rfl) 27 (.tmp 54) rfl wo.heap.size 0 rfl (addrCs v.1) _ R4a.out Try.underlying27 rfl Haz.out ?_) | ((with_reducible refine gateL 27 ?_); refine wpList_load_g (by rfl) 27 (.tmp 56) rfl wi.heap.size 0 rfl (addrCs u.1) _ R6a.out Try.underlying27 rfl Hbz.out ?_) | ((with_reducible refine gateE 27 ?_); refine wpList_eqs_g (by rfl) 27 27 (.tmp 55) (.tmp 57) rfl (addrCs v.1).toArray (addrCs u.1).toArray rfl rfl addr_guard true HEq.out ?_))
                  go_ret
                  exact ⟨by rw [Hr.out]; rfl, HB.out.trans (Bw.out.mono HB.out.size)⟩
                · have Hn : Hid (vipIs v.1 v.2.1 v.2.2.1 u = false) := by
                    show _ = _
                    have h1 : (u.2.2.1 == v.2.2.1) = false := beq_eq_false_iff_ne.2 (by rw [← hq, ← hq2]; exact fun h => hqq h.symm)
                    unfold vipIs
                    rw [h1, Bool.and_false]
                  have hqB : (q == q2) = false := beq_eq_false_iff_ne.2 hqq
                  rw [← hpp] at d17
                  clear hp hq hp2 hq2 hpp
                  have Hno2 : Hid (∀ j y, j < m + 1 → f.vips[j]? = some y → vipIs v.1 v.2.1 v.2.2.1 y = false) := fun j y hj hy => by
                    rcases Nat.lt_or_ge j m with h1 | h1
                    · exact hno.out j y h1 hy
                    · obtain rfl : j = m := by omega
                      rw [Hu?.out] at hy
                      injection hy with hy
                      rw [← hy]
                      exact Hn.out
                  go_wp2_with (first | ((with_reducible refine gateL 27 ?_); refine wpList_load_g (by rfl) 27 (.tmp 54) rfl wo.heap.size 0 rfl (addrCs v.1) _ R4a.out Try.underlying27 rfl Haz.out ?_) | ((with_reducible refine gateL 27 ?_); refine wpList_load_g (by rfl) 27 (.tmp 56) rfl wi.heap.size 0 rfl (addrCs u.1) _ R6a.out Try.underlying27 rfl Hbz.out ?_) | ((with_reducible refine gateE 27 ?_); refine wpList_eqs_g (by rfl) 27 27 (.tmp 55) (.tmp 57) rfl (addrCs v.1).toArray (addrCs u.1).toArray rfl rfl addr_guard true HEq.out ?_))
                  go_roundw
                  case rel => exact ⟨m + 1, by omega, by go_num, Bw, H4, Hno2⟩
                  case measure => simp [intOf]; omega
              · have Hn : Hid (vipIs v.1 v.2.1 v.2.2.1 u = false) := by
                  show _ = _
                  have h1 : (u.2.1 == v.2.1) = false := beq_eq_false_iff_ne.2 (by rw [← hp, ← hp2]; exact fun h => hpp h.symm)
                  unfold vipIs
                  rw [h1, Bool.and_false, Bool.false_and]
                have hpB : (p == p2) = false := beq_eq_false_iff_ne.2 hpp
                clear hp hq hp2 hq2
                have Hno2 : Hid (∀ j y, j < m + 1 → f.vips[j]? = some y → vipIs v.1 v.2.1 v.2.2.1 y = false) := fun j y hj hy => by
                  rcases Nat.lt_or_ge j m with h1 | h1
                  · exact hno.out j y h1 hy
                  · obtain rfl : j = m := by omega
                    rw [Hu?.out] at hy
                    injection hy with hy
                    rw [← hy]
                    exact Hn.out
                go_wp2_with (first | ((with_reducible refine gateL 27 ?_); refine wpList_load_g (by rfl) 27 (.tmp 54) rfl wo.heap.size 0 rfl (addrCs v.1) _ R4a.out Try.underlying27 rfl Haz.out ?_) | ((with_reducible refine gateL 27 ?_); refine wpList_load_g (by rfl) 27 (.tmp 56) rfl wi.heap.size 0 rfl (addrCs u.1) _ R6a.out Try.underlying27 rfl Hbz.out ?_) | ((with_reducible refine gateE 27 ?_); refine wpList_eqs_g (by rfl) 27 27 (.tmp 55) (.tmp 57) rfl (addrCs v.1).toArray (addrCs u.1).toArray rfl rfl addr_guard true HEq.out ?_))
                go_roundw
                case rel => exact ⟨m + 1, by omega, by go_num, Bw, H4, Hno2⟩
                case measure => simp [intOf]; omega
          · obtain rfl : m = k := by omega
            have Hat3 : Hid (∀ j, j < m + 1 → vipAt f.vips j = true) := fun j hj => by
              rcases Nat.lt_or_ge j m with h1 | h1
              · exact hat.out j h1
              · obtain rfl : j = m := by omega
                rw [Hat2.out, any_take_no hno.out]
                rfl
            clear hlm
            go_wp2_with fail
            go_roundw
            case rel => exact ⟨m + 1, by omega, by go_num, Bw, Hat3⟩
            case measure => simp [intOf]; omega
    · have hltI : ¬ (k : Int) < (f.vips.length : Int) := by omega
      have HVt : Hid (vipsB f.vips = true) := vipsB_iff.2 ⟨h64, fun j hj => hat.out j (by omega)⟩
      have hX := HX.out wo hbel.out
      have HBE : Hid (Below w.heap.size w wo) := HB.out.trans (hbel.out.mono HB.out.size)
      have hidl : f.idle.length = 6 := Hs.out.idle
      obtain ⟨z0, hz0⟩ : ∃ z, f.idle[0]? = some z := ⟨_, List.getElem?_eq_getElem (by omega)⟩
      have c3 : wo.cell? ⟨w.heap.size, 3, none⟩ = some (.int .i64 z0) := by
        have := cf_idle hX Hs.out (k := 0) (by decide)
        rw [hz0] at this
        exact this
      have Hz0 := Lib.hid hz0
      have HX2 := Lib.hid hX
      clear hz0 hX hat
      by_cases hz : z0 = 0
      rotate_left
      · have Hr : Hid (rightB f = false) := right_ino (idleB_no Hz0.out (.inr (.inr ⟨rfl, hz⟩)))
        have hzB : (z0 == 0) = false := beq_eq_false_iff_ne.2 hz
        go_wp2
        go_ret
        exact ⟨by rw [Hr.out]; rfl, HBE.out⟩
      subst hz
      go_wp2_with fail
      clear c3
      go_loopw [7] (fun i wr => ∃ k : Nat, 1 ≤ k ∧ k ≤ 6 ∧ i = .int .i64 (k : Int) ∧ wo = wr ∧ Hid (∀ j z, 1 ≤ j → j < k → f.idle[j]? = some z → 0 ≤ z ∧ z ≤ 1000000)) (fun i _ => 6 - (intOf i).toNat)
      case atStart => exact ⟨1, by omega, by omega, rfl, rfl, fun j z h1 h2 => by omega⟩
      case round =>
        obtain ⟨k3, hk1, hk6, rfl, rfl, hat⟩ := hrel
        by_cases hlt3 : k3 < 6
        · have hlt3I : (k3 : Int) < 6 := by omega
          obtain ⟨z, hz⟩ : ∃ z, f.idle[k3]? = some z := ⟨_, List.getElem?_eq_getElem (by omega)⟩
          have c3 : wo.cell? ⟨w.heap.size, 3 + k3, none⟩ = some (.int .i64 z) := by
            rw [cf_idle HX2.out Hs.out hlt3, hz]
            rfl
          have Hz := Lib.hid hz
          clear hz
          go_wp2_with fail
          refine (refIn_any z 0 1000000 wo).mono ?_
          rintro e wz ⟨rfl, rfl⟩
          rcases hi : inB z 0 1000000 with _ | _
          · have Hr : Hid (rightB f = false) := right_ino (idleB_no Hz.out (by
              by_cases h0 : z < 0
              · exact .inl h0
              · by_cases h1 : 1000000 < z
                · exact .inr (.inl h1)
                · have : inB z 0 1000000 = true := inB_iff.2 ⟨by omega, by omega⟩
                  rw [hi] at this
                  cases this))
            clear hi
            go_wp2
            go_ret
            exact ⟨by rw [Hr.out]; rfl, HBE.out⟩
          · have hib := inB_iff.1 hi
            have Hat3 : Hid (∀ j y, 1 ≤ j → j < k3 + 1 → f.idle[j]? = some y → 0 ≤ y ∧ y ≤ 1000000) := fun j y h1 hj hy => by
              rcases Nat.lt_or_ge j k3 with h2 | h2
              · exact hat.out j y h1 h2 hy
              · obtain rfl : j = k3 := by omega
                rw [Hz.out] at hy
                injection hy with hy
                rw [← hy]
                exact hib
            clear hi hib c3
            go_wp2
            go_roundw
            case rel => exact ⟨k3 + 1, by omega, by omega, by go_num, trivial, Hat3⟩
            case measure => simp [intOf]; omega
        · obtain rfl : k3 = 6 := by omega
          have HI : Hid (idleB f.idle = true) := idleB_yes (fun j z hz => by
            rcases Nat.eq_zero_or_pos j with rfl | hj
            · rw [Hz0.out] at hz
              injection hz with hz
              exact ⟨by omega, by omega, fun _ => hz.symm⟩
            · have := (List.getElem?_eq_some_iff.1 hz).1
              have := hat.out j z hj (by omega) hz
              exact ⟨this.1, this.2, fun h => by omega⟩) (by omega)
          clear hat hlt3 hk1 hk6
          have cs := cf_size HX2.out
          have cr := cf_room HX2.out
          have ci := cf_rise HX2.out Hs.out
          have cf := cf_fall HX2.out Hs.out
          have c4 := cf_four0 HX2.out Hs.out
          have HR4 := Lib.hid (cf_four HX2.out Hs.out)
          have Hasz := Lib.hid (addr_sz Hs.out.four)
          go_wp2_with fail
          refine (refIn_any f.size 2 65537 wo).mono ?_
          rintro e wz ⟨rfl, rfl⟩
          rcases h2 : inB f.size 2 65537 with _ | _
          · have Hr : Hid (rightB f = false) := by show _ = _; simp only [rightB, h2, Bool.not_true, Bool.false_and, Bool.and_false]
            clear h2
            go_wp2
            go_ret
            exact ⟨by rw [Hr.out]; rfl, HBE.out⟩
          have H2 := Lib.hid h2
          have hsz := inB_iff.1 h2
          have hp := refPrime_any f.size.toNat wo (by omega)
          rw [Int.toNat_of_nonneg (by omega)] at hp
          have Hp := Lib.hid hp
          clear h2 hp hsz
          go_wp2_with fail
          refine (Hp.out).mono ?_
          rintro e wz ⟨rfl, rfl⟩
          rcases h3 : primeB f.size.toNat with _ | _
          · have Hr : Hid (rightB f = false) := by show _ = _; simp only [rightB, h3, Bool.not_true, Bool.false_and, Bool.and_false]
            clear h3
            go_wp2
            go_ret
            exact ⟨by rw [Hr.out]; rfl, HBE.out⟩
          have H3 := Lib.hid h3
          clear h3 Hp
          go_wp2_with fail
          refine (refIn_any f.room 1 4096 wo).mono ?_
          rintro e wz ⟨rfl, rfl⟩
          rcases h4 : inB f.room 1 4096 with _ | _
          · have Hr : Hid (rightB f = false) := by show _ = _; simp only [rightB, h4, Bool.not_true, Bool.false_and, Bool.and_false]
            clear h4
            go_wp2
            go_ret
            exact ⟨by rw [Hr.out]; rfl, HBE.out⟩
          have H4 := Lib.hid h4
          clear h4
          go_wp2_with fail
          refine (refIn_any f.rise 1 100 wo).mono ?_
          rintro e wz ⟨rfl, rfl⟩
          rcases h5 : inB f.rise 1 100 with _ | _
          · have Hr : Hid (rightB f = false) := by show _ = _; simp only [rightB, h5, Bool.not_true, Bool.false_and, Bool.and_false]
            clear h5
            go_wp2
            go_ret
            exact ⟨by rw [Hr.out]; rfl, HBE.out⟩
          have H5 := Lib.hid h5
          clear h5
          go_wp2_with fail
          refine (refIn_any f.fall 1 100 wo).mono ?_
          rintro e wz ⟨rfl, rfl⟩
          rcases h6 : inB f.fall 1 100 with _ | _
          · have Hr : Hid (rightB f = false) := by show _ = _; simp only [rightB, h6, Bool.not_true, Bool.false_and, Bool.and_false]
            clear h6
            go_wp2
            go_ret
            exact ⟨by rw [Hr.out]; rfl, HBE.out⟩
          have H6 := Lib.hid h6
          clear h6
          rcases h7 : f.four.1 with _ | _
          rotate_left
          · rw [h7] at c4
            have Hr : Hid (rightB f = false) := by show _ = _; simp only [rightB, h7, Bool.not_true, Bool.false_and, Bool.and_false]
            clear h7
            go_wp2
            go_ret
            exact ⟨by rw [Hr.out]; rfl, HBE.out⟩
          rw [h7] at c4
          have H7 := Lib.hid h7
          have hsh := refShort_any f.four Hs.out.four wo
          unfold addrV at hsh
          have Hsh := Lib.hid hsh
          clear h7 hsh
          go_wp2_with (first | ((with_reducible refine gateL 27 ?_); refine wpList_load_g (by rfl) 27 (.tmp 120) rfl w.heap.size 17 rfl (addrCs f.four) _ HR4.out Try.underlying27 rfl Hasz.out ?_))
          refine Hsh.out.mono ?_
          rintro e w3 ⟨rfl, hb3⟩
          have HB3 : Hid (Below w.heap.size w w3) := HBE.out.trans (hb3.mono HBE.out.size)
          rcases h8 : shortB f.four with _ | _
          · have Hr : Hid (rightB f = false) := by show _ = _; simp only [rightB, h8, Bool.not_true, Bool.false_and, Bool.and_false]
            clear h8
            go_wp2
            go_ret
            exact ⟨by rw [Hr.out]; rfl, HB3.out⟩
          have H8 := Lib.hid h8
          have hX3 := Blk.below HX2.out hb3 HX2.out.lt
          have c6 := cf_six0 hX3 Hs.out
          have cm := cf_most hX3 Hs.out
          have ck := cf_keep hX3 Hs.out
          have cb := cf_batch hX3 Hs.out
          clear h8 hb3 hX3 Hsh cs cr ci cf c4
          rcases h9 : f.six.1 with _ | _
          · rw [h9] at c6
            have Hr : Hid (rightB f = false) := by show _ = _; simp only [rightB, h9, Bool.false_and, Bool.and_false]
            clear h9
            go_wp2
            go_ret
            exact ⟨by rw [Hr.out]; rfl, HB3.out⟩
          rw [h9] at c6
          have H9 := Lib.hid h9
          clear h9
          go_wp2_with fail
          refine (refIn_any f.most 1000 1048576 w3).mono ?_
          rintro e wz ⟨rfl, rfl⟩
          rcases h10 : inB f.most 1000 1048576 with _ | _
          · have Hr : Hid (rightB f = false) := by show _ = _; simp only [rightB, h10, Bool.not_true, Bool.false_and, Bool.and_false]
            clear h10
            go_wp2
            go_ret
            exact ⟨by rw [Hr.out]; rfl, HB3.out⟩
          have H10 := Lib.hid h10
          clear h10
          go_wp2_with fail
          refine (refIn_any f.keep 1 100 w3).mono ?_
          rintro e wz ⟨rfl, rfl⟩
          rcases h11 : inB f.keep 1 100 with _ | _
          · have Hr : Hid (rightB f = false) := by show _ = _; simp only [rightB, h11, Bool.not_true, Bool.false_and, Bool.and_false]
            clear h11
            go_wp2
            go_ret
            exact ⟨by rw [Hr.out]; rfl, HB3.out⟩
          have H11 := Lib.hid h11
          clear h11
          go_wp2_with fail
          refine (refIn_any f.batch 1 1000 w3).mono ?_
          rintro e wz ⟨rfl, rfl⟩
          rcases h12 : inB f.batch 1 1000 with _ | _
          · have Hr : Hid (rightB f = false) := by show _ = _; simp only [rightB, h12, Bool.not_true, Bool.false_and, Bool.and_false]
            clear h12
            go_wp2
            go_ret
            exact ⟨by rw [Hr.out]; rfl, HB3.out⟩
          have H12 := Lib.hid h12
          clear h12
          have Hr : Hid (rightB f = true) := by show _ = _; simp only [rightB, HI.out, HVt.out, H2.out, H3.out, H4.out, H5.out, H6.out, H7.out, H8.out, H9.out, H10.out, H11.out, H12.out]; rfl
          go_wp2
          go_ret
          exact ⟨by rw [Hr.out]; rfl, HB3.out⟩
end Go.Proofs.Ytmkeljcjhcaigaa
