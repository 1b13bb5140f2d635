/- conf.Same. -/
import Derived.Test.YtmkeljcjhcaigaaConfS
import Derived.Test.YtmkeljcjhcaigaaConfR
namespace Go.Proofs.Ytmkeljcjhcaigaa
open Go.RowKit
set_option linter.unusedVariables false
set_option linter.unusedSimpArgs false

section
variable {P : Program} (w : World)
theorem all_range_eqI : ∀ (xs ys : List Int), xs.length = ys.length → ((List.range xs.length).all fun i => xs.getD i 0 == ys.getD i 0) = (xs == ys)
  | [], [], _ => rfl
  | x :: xs, y :: ys, h => by
    have ih := all_range_eqI xs ys (by simpa using h)
    rw [List.length_cons, List.range_succ_eq_map, List.all_cons, List.all_map]
    simp only [List.getD_cons_zero, Function.comp_def, List.getD_cons_succ, ih]
    simp [List.cons_beq_cons]
  | [], _ :: _, h => by simp at h
  | _ :: _, [], h => by simp at h
theorem run_equalIn_ints (d : Nat) (t e : TypeId) (n : Nat) (ht : P.underlying t = some (.array n e)) (he : P.underlying e = some (.int .i64)) (hsz : ∀ w, (sizeOf e).run P w = .ok 1 w)
    (xs ys : List Int) (hx : xs.length = n) (hy : ys.length = n) :
    (Op.equalIn (d + 2) t (.agg (xs.map iv).toArray) (.agg (ys.map iv).toArray)).run P w = .ok (xs == ys) w := by
  rw [← all_range_eqI xs ys (hx.trans hy.symm), hx, List.range_eq_range', Op.equalIn]
  simp only [Sem.run_bind, run_underlying ht, Result.andThen_ok, hsz, Std.Legacy.Range.forIn_eq_forIn_range', Std.Legacy.Range.size, Nat.sub_zero, Nat.add_sub_cancel, Nat.div_one]
  have hl : ∀ i ∈ List.range' 0 n 1, i < n := fun i hi => by simpa using (List.mem_range'_1.1 hi).2
  generalize List.range' 0 n 1 = l at hl ⊢
  induction l with
  | nil => simp
  | cons i l ih =>
    have hi : i < n := hl i (by simp)
    have px : (part e (xs.map iv).toArray (i * 1)).run P w = .ok (iv (xs.getD i 0)) w := by
      simp [part, isAgg, run_underlying he, List.getD, List.getElem?_eq_getElem (show i < xs.length by omega)]
    have py : (part e (ys.map iv).toArray (i * 1)).run P w = .ok (iv (ys.getD i 0)) w := by
      simp [part, isAgg, run_underlying he, List.getD, List.getElem?_eq_getElem (show i < ys.length by omega)]
    have pe : (Op.equalIn (d + 1) e (iv (xs.getD i 0)) (iv (ys.getD i 0))).run P w = .ok (xs.getD i 0 == ys.getD i 0) w := by
      rw [iv, iv, run_equalIn_int w d e .i64 .i64 _ _ he]
    simp only [List.forIn_cons, Sem.run_bind, px, py, pe, Result.andThen_ok, List.all_cons]
    cases hb : (xs.getD i 0 == ys.getD i 0)
    · simp
    · simp only [Bool.not_true, Bool.false_eq_true, if_false, Sem.run_pure, Result.andThen_ok, Bool.true_and]
      exact ih fun j hj => hl j (by simp [hj])
end
theorem idle_guard : Try.prog.eqGuardType Try.prog.depth 23 = false := by kernel_rfl
theorem mac_guard : Try.prog.eqGuardType Try.prog.depth 24 = false := by kernel_rfl
theorem mac_size : (Try.prog.info? 24).map (·.size) = some 6 := by kernel_rfl
theorem mac_sz {f : ConfP} (h : ConfShape f) : (Try.prog.info? 24).map (·.size) = some (bcells f.mac).length := by rw [bcells_length, h.mac]; exact mac_size

set_option maxHeartbeats 8000000 in
set_option maxRecDepth 100000 in
theorem same_any (A : Option Addr) (n c : Nat) (f : ConfP) (A' : Option Addr) (n' c' : Nat) (g : ConfP) (hf : ConfShape f) (hg : ConfShape g) (w : World) (hn : n = f.vips.length) (hn' : n' = g.vips.length) (hb : VS w w.heap.size A f.vips) (hb' : VS w w.heap.size A' g.vips) (hl : n ≤ 1000000) (hl' : n' ≤ 1000000) :
    Calls Try.prog 18 #[confV A n c f, confV A' n' c' g] w fun e w' => e = .returned (.bool (sameB f g)) ∧ Below w.heap.size w w' := by
  subst hn hn'
  unfold confV
  obtain ⟨W, hW⟩ : ∃ W, W = (w.alloc (.cells (confCs A f.vips.length c f).toArray 29)).alloc (.cells (confCs A' g.vips.length c' g).toArray 29) := ⟨_, rfl⟩
  have hX : Blk W w.heap.size 29 (confCs A f.vips.length c f).toArray := by rw [hW]; exact Blk.alloc (Blk.new w _ _ _ rfl) _
  have hY : Blk W (w.heap.size + 1) 29 (confCs A' g.vips.length c' g).toArray := by rw [hW]; exact Blk.new _ _ _ _ (by simp)
  have hB : Below w.heap.size w W := by rw [hW]; exact ((Below.refl _ _).alloc (Nat.le_refl _) _).alloc (by simp) _
  have a0 := cf_c0 hX
  have b0 := cf_c0 hY
  have Heq := Lib.hid (eqVips_any A _ c f.vips A' _ c' g.vips hf.vips hg.vips W rfl rfl ((hb.below hB).more hB.size) ((hb'.below hB).more hB.size) hl hl')
  have HW := Lib.hid hW
  have HX := Lib.hid hX
  have HY := Lib.hid hY
  have HB := Lib.hid hB
  clear hW hX hY hB hb hb'
  go_enter Try.func18, Try.ntmps18
  go_upto_region 1 with fail
  rw [← HW.out]
  simp only [List.append_eq, List.cons_append, List.nil_append]
  go_wp2_with fail
  refine Heq.out.mono ?_
  rintro e w2 ⟨rfl, hb2⟩
  have hX2 := Blk.below HX.out hb2 HX.out.lt
  have hY2 := Blk.below HY.out hb2 HY.out.lt
  have a1 := cf_size hX2
  have b1 := cf_size hY2
  have a2 := cf_room hX2
  have b2 := cf_room hY2
  have a3 := cf_rise hX2 hf
  have a4 := cf_fall hX2 hf
  have a5 := cf_most hX2 hf
  have a6 := cf_keep hX2 hf
  have a7 := cf_batch hX2 hf
  have b3 := cf_rise hY2 hg
  have b4 := cf_fall hY2 hg
  have b5 := cf_most hY2 hg
  have b6 := cf_keep hY2 hg
  have b7 := cf_batch hY2 hg
  have HRi := Lib.hid (cf_idles hX2 hf)
  have HRi2 := Lib.hid (cf_idles hY2 hg)
  have HRm := Lib.hid (cf_macs hX2 hf)
  have HRm2 := Lib.hid (cf_macs hY2 hg)
  have HR4 := Lib.hid (cf_four hX2 hf)
  have HR42 := Lib.hid (cf_four hY2 hg)
  have HR6 := Lib.hid (cf_six hX2 hf)
  have HR62 := Lib.hid (cf_six hY2 hg)
  have Hsi := Lib.hid (idle_sz hf)
  have Hsi2 := Lib.hid (idle_sz hg)
  have Hsm := Lib.hid (mac_sz hf)
  have Hsm2 := Lib.hid (mac_sz hg)
  have Hs4 := Lib.hid (addr_sz hf.four)
  have Hs42 := Lib.hid (addr_sz hg.four)
  have Hs6 := Lib.hid (addr_sz hf.six)
  have Hs62 := Lib.hid (addr_sz hg.six)
  have Hei := Lib.hid (run_equalIn_ints (P := Try.prog) w2 9998 23 3 6 Try.underlying23 Try.underlying3 int_size1 f.idle g.idle hf.idle hg.idle)
  have Hem : Hid ((Op.equalIn 10000 24 (.agg (bcells f.mac).toArray) (.agg (bcells g.mac).toArray)).run Try.prog w2 = .ok (f.mac == g.mac) w2) := run_equalIn_bytes (P := Try.prog) w2 9998 24 5 6 Try.underlying24 Try.underlying5 u8_size1 f.mac g.mac hf.mac hg.mac
  have He4 := Lib.hid (addr_eqIn 9997 f.four g.four hf.four hg.four w2)
  have He6 := Lib.hid (addr_eqIn 9997 f.six g.six hf.six hg.six w2)
  have HBe : Hid (Below w.heap.size w w2) := HB.out.trans (hb2.mono HB.out.size)
  clear hX2 hY2 hb2 Heq HX HY HB hl hl' HW
  rcases h1 : (f.vips == g.vips) with _ | _
  · go_wp2
    go_ret
    exact ⟨by simp only [sameB, h1]; rfl, HBe.out⟩
  · have K0 := Lib.hid h1
    clear h1
    rcases h2 : (f.size == g.size) with _ | _
    · have Hr : Hid (sameB f g = false) := by show _ = _; simp only [sameB, h2, Bool.false_and, Bool.and_false]
      have hne : ¬ f.size = g.size := by simpa using h2
      clear h2
      go_wp2
      go_ret
      exact ⟨by rw [Hr.out]; rfl, HBe.out⟩
    · have K1 := Lib.hid h2
      have he1 : f.size = g.size := by simpa using h2
      clear h2
      rcases h2 : (f.room == g.room) with _ | _
      · have Hr : Hid (sameB f g = false) := by show _ = _; simp only [sameB, h2, Bool.false_and, Bool.and_false]
        have hne : ¬ f.room = g.room := by simpa using h2
        clear h2
        go_wp2
        go_ret
        exact ⟨by rw [Hr.out]; rfl, HBe.out⟩
      · have K2 := Lib.hid h2
        have he2 : f.room = g.room := by simpa using h2
        clear h2
        rcases h2 : (f.idle == g.idle) with _ | _
        · have Hr : Hid (sameB f g = false) := by show _ = _; simp only [sameB, h2, Bool.false_and, Bool.and_false]
          rw [h2] at Hei
          clear h2
          go_wp2_with
            (first
              | ((with_reducible refine gateL 23 ?_); refine wpList_load_g (by rfl) 23 (.tmp 25) rfl w.heap.size 3 rfl (f.idle.map iv) _ HRi.out Try.underlying23 rfl Hsi.out ?_)
              | ((with_reducible refine gateL 23 ?_); refine wpList_load_g (by rfl) 23 (.tmp 27) rfl (w.heap.size + 1) 3 rfl (g.idle.map iv) _ HRi2.out Try.underlying23 rfl Hsi2.out ?_)
              | ((with_reducible refine gateE 23 ?_); refine wpList_eqs_g (by rfl) 23 23 (.tmp 26) (.tmp 28) rfl (f.idle.map iv).toArray (g.idle.map iv).toArray rfl rfl idle_guard _ Hei.out ?_))
          go_ret
          exact ⟨by rw [Hr.out]; rfl, HBe.out⟩
        · have K3 := Lib.hid h2
          rw [h2] at Hei
          clear h2
          rcases h2 : (f.rise == g.rise) with _ | _
          · have Hr : Hid (sameB f g = false) := by show _ = _; simp only [sameB, h2, Bool.false_and, Bool.and_false]
            have hne : ¬ f.rise = g.rise := by simpa using h2
            clear h2
            go_wp2_with
              (first
                | ((with_reducible refine gateL 23 ?_); refine wpList_load_g (by rfl) 23 (.tmp 25) rfl w.heap.size 3 rfl (f.idle.map iv) _ HRi.out Try.underlying23 rfl Hsi.out ?_)
                | ((with_reducible refine gateL 23 ?_); refine wpList_load_g (by rfl) 23 (.tmp 27) rfl (w.heap.size + 1) 3 rfl (g.idle.map iv) _ HRi2.out Try.underlying23 rfl Hsi2.out ?_)
                | ((with_reducible refine gateE 23 ?_); refine wpList_eqs_g (by rfl) 23 23 (.tmp 26) (.tmp 28) rfl (f.idle.map iv).toArray (g.idle.map iv).toArray rfl rfl idle_guard _ Hei.out ?_))
            go_ret
            exact ⟨by rw [Hr.out]; rfl, HBe.out⟩
          · have K4 := Lib.hid h2
            have he4 : f.rise = g.rise := by simpa using h2
            clear h2
            rcases h2 : (f.fall == g.fall) with _ | _
            · have Hr : Hid (sameB f g = false) := by show _ = _; simp only [sameB, h2, Bool.false_and, Bool.and_false]
              have hne : ¬ f.fall = g.fall := by simpa using h2
              clear h2
              go_wp2_with
                (first
                  | ((with_reducible refine gateL 23 ?_); refine wpList_load_g (by rfl) 23 (.tmp 25) rfl w.heap.size 3 rfl (f.idle.map iv) _ HRi.out Try.underlying23 rfl Hsi.out ?_)
                  | ((with_reducible refine gateL 23 ?_); refine wpList_load_g (by rfl) 23 (.tmp 27) rfl (w.heap.size + 1) 3 rfl (g.idle.map iv) _ HRi2.out Try.underlying23 rfl Hsi2.out ?_)
                  | ((with_reducible refine gateE 23 ?_); refine wpList_eqs_g (by rfl) 23 23 (.tmp 26) (.tmp 28) rfl (f.idle.map iv).toArray (g.idle.map iv).toArray rfl rfl idle_guard _ Hei.out ?_))
              go_ret
              exact ⟨by rw [Hr.out]; rfl, HBe.out⟩
            · have K5 := Lib.hid h2
              have he5 : f.fall = g.fall := by simpa using h2
              clear h2
              rcases h2 : (f.mac == g.mac) with _ | _
              · have Hr : Hid (sameB f g = false) := by show _ = _; simp only [sameB, h2, Bool.false_and, Bool.and_false]
                rw [h2] at Hem
                clear h2
                go_wp2_with
                  (first
                    | ((with_reducible refine gateL 23 ?_); refine wpList_load_g (by rfl) 23 (.tmp 25) rfl w.heap.size 3 rfl (f.idle.map iv) _ HRi.out Try.underlying23 rfl Hsi.out ?_)
                    | ((with_reducible refine gateL 23 ?_); refine wpList_load_g (by rfl) 23 (.tmp 27) rfl (w.heap.size + 1) 3 rfl (g.idle.map iv) _ HRi2.out Try.underlying23 rfl Hsi2.out ?_)
                    | ((with_reducible refine gateE 23 ?_); refine wpList_eqs_g (by rfl) 23 23 (.tmp 26) (.tmp 28) rfl (f.idle.map iv).toArray (g.idle.map iv).toArray rfl rfl idle_guard _ Hei.out ?_)
                    | ((with_reducible refine gateL 24 ?_); refine wpList_load_g (by rfl) 24 (.tmp 46) rfl w.heap.size 11 rfl (bcells f.mac) _ HRm.out Try.underlying24 rfl Hsm.out ?_)
                    | ((with_reducible refine gateL 24 ?_); refine wpList_load_g (by rfl) 24 (.tmp 48) rfl (w.heap.size + 1) 11 rfl (bcells g.mac) _ HRm2.out Try.underlying24 rfl Hsm2.out ?_)
                    | ((with_reducible refine gateE 24 ?_); refine wpList_eqs_g (by rfl) 24 24 (.tmp 47) (.tmp 49) rfl (bcells f.mac).toArray (bcells g.mac).toArray rfl rfl mac_guard _ Hem.out ?_))
                go_ret
                exact ⟨by rw [Hr.out]; rfl, HBe.out⟩
              · have K6 := Lib.hid h2
                rw [h2] at Hem
                clear h2
                rcases h2 : (f.four == g.four) with _ | _
                · have Hr : Hid (sameB f g = false) := by show _ = _; simp only [sameB, h2, Bool.false_and, Bool.and_false]
                  rw [h2] at He4
                  clear h2
                  go_wp2_with
                    (first
                      | ((with_reducible refine gateL 23 ?_); refine wpList_load_g (by rfl) 23 (.tmp 25) rfl w.heap.size 3 rfl (f.idle.map iv) _ HRi.out Try.underlying23 rfl Hsi.out ?_)
                      | ((with_reducible refine gateL 23 ?_); refine wpList_load_g (by rfl) 23 (.tmp 27) rfl (w.heap.size + 1) 3 rfl (g.idle.map iv) _ HRi2.out Try.underlying23 rfl Hsi2.out ?_)
                      | ((with_reducible refine gateE 23 ?_); refine wpList_eqs_g (by rfl) 23 23 (.tmp 26) (.tmp 28) rfl (f.idle.map iv).toArray (g.idle.map iv).toArray rfl rfl idle_guard _ Hei.out ?_)
                      | ((with_reducible refine gateL 24 ?_); refine wpList_load_g (by rfl) 24 (.tmp 46) rfl w.heap.size 11 rfl (bcells f.mac) _ HRm.out Try.underlying24 rfl Hsm.out ?_)
                      | ((with_reducible refine gateL 24 ?_); refine wpList_load_g (by rfl) 24 (.tmp 48) rfl (w.heap.size + 1) 11 rfl (bcells g.mac) _ HRm2.out Try.underlying24 rfl Hsm2.out ?_)
                      | ((with_reducible refine gateE 24 ?_); refine wpList_eqs_g (by rfl) 24 24 (.tmp 47) (.tmp 49) rfl (bcells f.mac).toArray (bcells g.mac).toArray rfl rfl mac_guard _ Hem.out ?_)
                      | ((with_reducible refine gateL 27 ?_); refine wpList_load_g (by rfl) 27 (.tmp 53) rfl w.heap.size 17 rfl (addrCs f.four) _ HR4.out Try.underlying27 rfl Hs4.out ?_)
                      | ((with_reducible refine gateL 27 ?_); refine wpList_load_g (by rfl) 27 (.tmp 55) rfl (w.heap.size + 1) 17 rfl (addrCs g.four) _ HR42.out Try.underlying27 rfl Hs42.out ?_)
                      | ((with_reducible refine gateE 27 ?_); refine wpList_eqs_g (by rfl) 27 27 (.tmp 54) (.tmp 56) rfl (addrCs f.four).toArray (addrCs g.four).toArray rfl rfl addr_guard _ He4.out ?_))
                  go_ret
                  exact ⟨by rw [Hr.out]; rfl, HBe.out⟩
                · have K7 := Lib.hid h2
                  rw [h2] at He4
                  clear h2
                  rcases h2 : (f.six == g.six) with _ | _
                  · have Hr : Hid (sameB f g = false) := by show _ = _; simp only [sameB, h2, Bool.false_and, Bool.and_false]
                    rw [h2] at He6
                    clear h2
                    go_wp2_with
                      (first
                        | ((with_reducible refine gateL 23 ?_); refine wpList_load_g (by rfl) 23 (.tmp 25) rfl w.heap.size 3 rfl (f.idle.map iv) _ HRi.out Try.underlying23 rfl Hsi.out ?_)
                        | ((with_reducible refine gateL 23 ?_); refine wpList_load_g (by rfl) 23 (.tmp 27) rfl (w.heap.size + 1) 3 rfl (g.idle.map iv) _ HRi2.out Try.underlying23 rfl Hsi2.out ?_)
                        | ((with_reducible refine gateE 23 ?_); refine wpList_eqs_g (by rfl) 23 23 (.tmp 26) (.tmp 28) rfl (f.idle.map iv).toArray (g.idle.map iv).toArray rfl rfl idle_guard _ Hei.out ?_)
                        | ((with_reducible refine gateL 24 ?_); refine wpList_load_g (by rfl) 24 (.tmp 46) rfl w.heap.size 11 rfl (bcells f.mac) _ HRm.out Try.underlying24 rfl Hsm.out ?_)
                        | ((with_reducible refine gateL 24 ?_); refine wpList_load_g (by rfl) 24 (.tmp 48) rfl (w.heap.size + 1) 11 rfl (bcells g.mac) _ HRm2.out Try.underlying24 rfl Hsm2.out ?_)
                        | ((with_reducible refine gateE 24 ?_); refine wpList_eqs_g (by rfl) 24 24 (.tmp 47) (.tmp 49) rfl (bcells f.mac).toArray (bcells g.mac).toArray rfl rfl mac_guard _ Hem.out ?_)
                        | ((with_reducible refine gateL 27 ?_); refine wpList_load_g (by rfl) 27 (.tmp 53) rfl w.heap.size 17 rfl (addrCs f.four) _ HR4.out Try.underlying27 rfl Hs4.out ?_)
                        | ((with_reducible refine gateL 27 ?_); refine wpList_load_g (by rfl) 27 (.tmp 55) rfl (w.heap.size + 1) 17 rfl (addrCs g.four) _ HR42.out Try.underlying27 rfl Hs42.out ?_)
                        | ((with_reducible refine gateE 27 ?_); refine wpList_eqs_g (by rfl) 27 27 (.tmp 54) (.tmp 56) rfl (addrCs f.four).toArray (addrCs g.four).toArray rfl rfl addr_guard _ He4.out ?_)
                        | ((with_reducible refine gateL 27 ?_); refine wpList_load_g (by rfl) 27 (.tmp 60) rfl w.heap.size 34 rfl (addrCs f.six) _ HR6.out Try.underlying27 rfl Hs6.out ?_)
                        | ((with_reducible refine gateL 27 ?_); refine wpList_load_g (by rfl) 27 (.tmp 62) rfl (w.heap.size + 1) 34 rfl (addrCs g.six) _ HR62.out Try.underlying27 rfl Hs62.out ?_)
                        | ((with_reducible refine gateE 27 ?_); refine wpList_eqs_g (by rfl) 27 27 (.tmp 61) (.tmp 63) rfl (addrCs f.six).toArray (addrCs g.six).toArray rfl rfl addr_guard _ He6.out ?_))
                    go_ret
                    exact ⟨by rw [Hr.out]; rfl, HBe.out⟩
                  · have K8 := Lib.hid h2
                    rw [h2] at He6
                    clear h2
                    rcases h2 : (f.most == g.most) with _ | _
                    · have Hr : Hid (sameB f g = false) := by show _ = _; simp only [sameB, h2, Bool.false_and, Bool.and_false]
                      have hne : ¬ f.most = g.most := by simpa using h2
                      clear h2
                      go_wp2_with
                        (first
                          | ((with_reducible refine gateL 23 ?_); refine wpList_load_g (by rfl) 23 (.tmp 25) rfl w.heap.size 3 rfl (f.idle.map iv) _ HRi.out Try.underlying23 rfl Hsi.out ?_)
                          | ((with_reducible refine gateL 23 ?_); refine wpList_load_g (by rfl) 23 (.tmp 27) rfl (w.heap.size + 1) 3 rfl (g.idle.map iv) _ HRi2.out Try.underlying23 rfl Hsi2.out ?_)
                          | ((with_reducible refine gateE 23 ?_); refine wpList_eqs_g (by rfl) 23 23 (.tmp 26) (.tmp 28) rfl (f.idle.map iv).toArray (g.idle.map iv).toArray rfl rfl idle_guard _ Hei.out ?_)
                          | ((with_reducible refine gateL 24 ?_); refine wpList_load_g (by rfl) 24 (.tmp 46) rfl w.heap.size 11 rfl (bcells f.mac) _ HRm.out Try.underlying24 rfl Hsm.out ?_)
                          | ((with_reducible refine gateL 24 ?_); refine wpList_load_g (by rfl) 24 (.tmp 48) rfl (w.heap.size + 1) 11 rfl (bcells g.mac) _ HRm2.out Try.underlying24 rfl Hsm2.out ?_)
                          | ((with_reducible refine gateE 24 ?_); refine wpList_eqs_g (by rfl) 24 24 (.tmp 47) (.tmp 49) rfl (bcells f.mac).toArray (bcells g.mac).toArray rfl rfl mac_guard _ Hem.out ?_)
                          | ((with_reducible refine gateL 27 ?_); refine wpList_load_g (by rfl) 27 (.tmp 53) rfl w.heap.size 17 rfl (addrCs f.four) _ HR4.out Try.underlying27 rfl Hs4.out ?_)
                          | ((with_reducible refine gateL 27 ?_); refine wpList_load_g (by rfl) 27 (.tmp 55) rfl (w.heap.size + 1) 17 rfl (addrCs g.four) _ HR42.out Try.underlying27 rfl Hs42.out ?_)
                          | ((with_reducible refine gateE 27 ?_); refine wpList_eqs_g (by rfl) 27 27 (.tmp 54) (.tmp 56) rfl (addrCs f.four).toArray (addrCs g.four).toArray rfl rfl addr_guard _ He4.out ?_)
                          | ((with_reducible refine gateL 27 ?_); refine wpList_load_g (by rfl) 27 (.tmp 60) rfl w.heap.size 34 rfl (addrCs f.six) _ HR6.out Try.underlying27 rfl Hs6.out ?_)
                          | ((with_reducible refine gateL 27 ?_); refine wpList_load_g (by rfl) 27 (.tmp 62) rfl (w.heap.size + 1) 34 rfl (addrCs g.six) _ HR62.out Try.underlying27 rfl Hs62.out ?_)
                          | ((with_reducible refine gateE 27 ?_); refine wpList_eqs_g (by rfl) 27 27 (.tmp 61) (.tmp 63) rfl (addrCs f.six).toArray (addrCs g.six).toArray rfl rfl addr_guard _ He6.out ?_))
                      go_ret
                      exact ⟨by rw [Hr.out]; rfl, HBe.out⟩
                    · have K9 := Lib.hid h2
                      have he9 : f.most = g.most := by simpa using h2
                      clear h2
                      rcases h2 : (f.keep == g.keep) with _ | _
                      · have Hr : Hid (sameB f g = false) := by show _ = _; simp only [sameB, h2, Bool.false_and, Bool.and_false]
                        have hne : ¬ f.keep = g.keep := by simpa using h2
                        clear h2
                        go_wp2_with
                          (first
                            | ((with_reducible refine gateL 23 ?_); refine wpList_load_g (by rfl) 23 (.tmp 25) rfl w.heap.size 3 rfl (f.idle.map iv) _ HRi.out Try.underlying23 rfl Hsi.out ?_)
                            | ((with_reducible refine gateL 23 ?_); refine wpList_load_g (by rfl) 23 (.tmp 27) rfl (w.heap.size + 1) 3 rfl (g.idle.map iv) _ HRi2.out Try.underlying23 rfl Hsi2.out ?_)
                            | ((with_reducible refine gateE 23 ?_); refine wpList_eqs_g (by rfl) 23 23 (.tmp 26) (.tmp 28) rfl (f.idle.map iv).toArray (g.idle.map iv).toArray rfl rfl idle_guard _ Hei.out ?_)
                            | ((with_reducible refine gateL 24 ?_); refine wpList_load_g (by rfl) 24 (.tmp 46) rfl w.heap.size 11 rfl (bcells f.mac) _ HRm.out Try.underlying24 rfl Hsm.out ?_)
                            | ((with_reducible refine gateL 24 ?_); refine wpList_load_g (by rfl) 24 (.tmp 48) rfl (w.heap.size + 1) 11 rfl (bcells g.mac) _ HRm2.out Try.underlying24 rfl Hsm2.out ?_)
                            | ((with_reducible refine gateE 24 ?_); refine wpList_eqs_g (by rfl) 24 24 (.tmp 47) (.tmp 49) rfl (bcells f.mac).toArray (bcells g.mac).toArray rfl rfl mac_guard _ Hem.out ?_)
                            | ((with_reducible refine gateL 27 ?_); refine wpList_load_g (by rfl) 27 (.tmp 53) rfl w.heap.size 17 rfl (addrCs f.four) _ HR4.out Try.underlying27 rfl Hs4.out ?_)
                            | ((with_reducible refine gateL 27 ?_); refine wpList_load_g (by rfl) 27 (.tmp 55) rfl (w.heap.size + 1) 17 rfl (addrCs g.four) _ HR42.out Try.underlying27 rfl Hs42.out ?_)
                            | ((with_reducible refine gateE 27 ?_); refine wpList_eqs_g (by rfl) 27 27 (.tmp 54) (.tmp 56) rfl (addrCs f.four).toArray (addrCs g.four).toArray rfl rfl addr_guard _ He4.out ?_)
                            | ((with_reducible refine gateL 27 ?_); refine wpList_load_g (by rfl) 27 (.tmp 60) rfl w.heap.size 34 rfl (addrCs f.six) _ HR6.out Try.underlying27 rfl Hs6.out ?_)
                            | ((with_reducible refine gateL 27 ?_); refine wpList_load_g (by rfl) 27 (.tmp 62) rfl (w.heap.size + 1) 34 rfl (addrCs g.six) _ HR62.out Try.underlying27 rfl Hs62.out ?_)
                            | ((with_reducible refine gateE 27 ?_); refine wpList_eqs_g (by rfl) 27 27 (.tmp 61) (.tmp 63) rfl (addrCs f.six).toArray (addrCs g.six).toArray rfl rfl addr_guard _ He6.out ?_))
                        go_ret
                        exact ⟨by rw [Hr.out]; rfl, HBe.out⟩
                      · have K10 := Lib.hid h2
                        have he10 : f.keep = g.keep := by simpa using h2
                        clear h2
                        have Hr : Hid (sameB f g = (f.batch == g.batch)) := by show _ = _; simp only [sameB, K0.out, K1.out, K2.out, K3.out, K4.out, K5.out, K6.out, K7.out, K8.out, K9.out, K10.out, Bool.true_and]
                        go_wp2_with
                          (first
                            | ((with_reducible refine gateL 23 ?_); refine wpList_load_g (by rfl) 23 (.tmp 25) rfl w.heap.size 3 rfl (f.idle.map iv) _ HRi.out Try.underlying23 rfl Hsi.out ?_)
                            | ((with_reducible refine gateL 23 ?_); refine wpList_load_g (by rfl) 23 (.tmp 27) rfl (w.heap.size + 1) 3 rfl (g.idle.map iv) _ HRi2.out Try.underlying23 rfl Hsi2.out ?_)
                            | ((with_reducible refine gateE 23 ?_); refine wpList_eqs_g (by rfl) 23 23 (.tmp 26) (.tmp 28) rfl (f.idle.map iv).toArray (g.idle.map iv).toArray rfl rfl idle_guard _ Hei.out ?_)
                            | ((with_reducible refine gateL 24 ?_); refine wpList_load_g (by rfl) 24 (.tmp 46) rfl w.heap.size 11 rfl (bcells f.mac) _ HRm.out Try.underlying24 rfl Hsm.out ?_)
                            | ((with_reducible refine gateL 24 ?_); refine wpList_load_g (by rfl) 24 (.tmp 48) rfl (w.heap.size + 1) 11 rfl (bcells g.mac) _ HRm2.out Try.underlying24 rfl Hsm2.out ?_)
                            | ((with_reducible refine gateE 24 ?_); refine wpList_eqs_g (by rfl) 24 24 (.tmp 47) (.tmp 49) rfl (bcells f.mac).toArray (bcells g.mac).toArray rfl rfl mac_guard _ Hem.out ?_)
                            | ((with_reducible refine gateL 27 ?_); refine wpList_load_g (by rfl) 27 (.tmp 53) rfl w.heap.size 17 rfl (addrCs f.four) _ HR4.out Try.underlying27 rfl Hs4.out ?_)
                            | ((with_reducible refine gateL 27 ?_); refine wpList_load_g (by rfl) 27 (.tmp 55) rfl (w.heap.size + 1) 17 rfl (addrCs g.four) _ HR42.out Try.underlying27 rfl Hs42.out ?_)
                            | ((with_reducible refine gateE 27 ?_); refine wpList_eqs_g (by rfl) 27 27 (.tmp 54) (.tmp 56) rfl (addrCs f.four).toArray (addrCs g.four).toArray rfl rfl addr_guard _ He4.out ?_)
                            | ((with_reducible refine gateL 27 ?_); refine wpList_load_g (by rfl) 27 (.tmp 60) rfl w.heap.size 34 rfl (addrCs f.six) _ HR6.out Try.underlying27 rfl Hs6.out ?_)
                            | ((with_reducible refine gateL 27 ?_); refine wpList_load_g (by rfl) 27 (.tmp 62) rfl (w.heap.size + 1) 34 rfl (addrCs g.six) _ HR62.out Try.underlying27 rfl Hs62.out ?_)
                            | ((with_reducible refine gateE 27 ?_); refine wpList_eqs_g (by rfl) 27 27 (.tmp 61) (.tmp 63) rfl (addrCs f.six).toArray (addrCs g.six).toArray rfl rfl addr_guard _ He6.out ?_))
                        go_ret
                        exact ⟨by rw [Hr.out]; rfl, HBe.out⟩
end Go.Proofs.Ytmkeljcjhcaigaa
