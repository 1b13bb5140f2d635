/- conf.Right: is a config right? (printed by gen_right.py) -/
import Derived.Test.YtmkeljcjhcaigaaConfL
import Derived.Test.YtmkeljcjhcaigaaKE
namespace Go.Proofs.Ytmkeljcjhcaigaa
open Go.RowKit
set_option linter.unusedVariables false
set_option linter.unusedSimpArgs false

theorem int_size1 (w : World) : (sizeOf 3).run Try.prog w = .ok 1 w := by
  obtain ⟨i, hi⟩ := info_of_underlying Try.underlying3
  rw [run_sizeOf w hi, show Try.prog.cellsOf 3 = 1 by kernel_rfl]
theorem idle_size : (Try.prog.info? 23).map (·.size) = some 6 := by kernel_rfl
theorem idle_sz {f : ConfP} (h : ConfShape f) : (Try.prog.info? 23).map (·.size) = some (f.idle.map iv).length := by rw [List.length_map, h.idle]; exact idle_size
theorem idleB_no {l : List Int} {k : Nat} {z : Int} (h : l[k]? = some z) (hz : z < 0 ∨ 1000000 < z ∨ k = 0 ∧ z ≠ 0) : idleB l = false := by
  rcases hb : idleB l with _ | _
  · rfl
  · obtain ⟨h1, h2⟩ := idleB_all hb
    have hm := List.mem_of_getElem? h
    have := h2 z hm
    rcases hz with hz | hz | ⟨rfl, hz⟩
    · omega
    · omega
    · rw [List.head?_eq_getElem?, h] at h1
      injection h1 with h1
      exact absurd h1 hz
theorem idleB_yes {l : List Int} (h : ∀ (j : Nat) (z : Int), l[j]? = some z → 0 ≤ z ∧ z ≤ 1000000 ∧ (j = 0 → z = 0)) (hl : 0 < l.length) : idleB l = true := by
  unfold idleB
  simp only [Bool.and_eq_true, beq_iff_eq, List.all_eq_true]
  constructor
  · rw [List.head?_eq_getElem?, List.getElem?_eq_getElem hl]
    rw [(h 0 _ (List.getElem?_eq_getElem hl)).2.2 rfl]
  · intro z hz
    obtain ⟨j, hj, rfl⟩ := List.getElem_of_mem hz
    have := h j _ (List.getElem?_eq_getElem hj)
    exact inB_iff.2 ⟨this.1, this.2.1⟩

set_option maxHeartbeats 2000000 in
set_option maxRecDepth 100000 in
theorem right_any (A : Option Addr) (n c : Nat) (f : ConfP) (hs : ConfShape f) (w : World) (hn : n = f.vips.length) (hnc : n ≤ c) (hb : VS w w.heap.size A f.vips) (hl : n ≤ 1000000) :
    Calls Try.prog 16 #[confV A n c f] w fun e w' => e = .returned (.bool (rightB f)) ∧ Below w.heap.size w w' := by
  subst hn
  unfold confV
  have HV := Lib.hid hb
  have Hs := Lib.hid hs
  obtain ⟨W, hW⟩ : ∃ W, W = w.alloc (.cells (confCs A f.vips.length c f).toArray 29) := ⟨_, rfl⟩
  have hX : Blk W w.heap.size 29 (confCs A f.vips.length c f).toArray := by rw [hW]; exact Blk.new w _ _ _ rfl
  have hB : Below w.heap.size w W := by rw [hW]; exact (Below.refl _ _).alloc (Nat.le_refl _) _
  have HR3 := Lib.hid (cf_idles hX hs)
  have Hisz := Lib.hid (idle_sz hs)
  have HW := Lib.hid hW
  have HX := Lib.hid hX
  have HB := Lib.hid hB
  clear hW hX hB hb
  go_enter Try.func16, Try.ntmps16
  go_upto_region 1 with fail
  rw [← HW.out]
  go_wp2_with (first
    | (refine wpList_load_g (by rfl) 23 (.tmp 5) rfl w.heap.size 3 rfl (f.idle.map iv) _ HR3.out Try.underlying23 rfl Hisz.out ?_))
  go_loopw [7] (fun i wr => ∃ k : Nat, k ≤ 6 ∧ i = .int .i64 (k : Int) ∧ W = wr ∧ Hid (∀ j z, j < k → f.idle[j]? = some z → 0 ≤ z ∧ z ≤ 1000000 ∧ (j = 0 → z = 0))) (fun i _ => 6 - (intOf i).toNat)
  case atStart => exact ⟨0, by omega, rfl, rfl, fun j z hj => by omega⟩
  case round =>
    obtain ⟨k, hk, rfl, rfl, hat⟩ := hrel
    by_cases hlt : k < 6
    · have hltI : (k : Int) < 6 := by omega
      have hk0 : (0 : Int) ≤ (k : Int) := by omega
      have hkl : k < f.idle.length := by rw [hs.idle]; exact hlt
      obtain ⟨z, hz⟩ : ∃ z, f.idle[k]? = some z := ⟨_, List.getElem?_eq_getElem hkl⟩
      have hcell : (f.idle.map iv)[k]? = some (.int .i64 z) := by rw [List.getElem?_map, hz]; rfl
      have hidl : f.idle.length = 6 := hs.idle
      have Hno : z < 0 ∨ 1000000 < z ∨ k = 0 ∧ z ≠ 0 → Hid (rightB f = false) := fun h => by
        show _ = _
        unfold rightB
        rw [idleB_no hz h]
        rfl
      have Hz := Lib.hid hz
      clear hz
      have hz2 : (f.idle.map iv).toArray[k]? = some (.int .i64 z) := by rw [List.getElem?_toArray]; exact hcell
      have Hz2 := Lib.hid hz2
      clear hcell hz2
      have hcase : ¬ (z < 0 ∨ 1000000 < z ∨ k = 0 ∧ z ≠ 0) → Hid (∀ j y, j < k + 1 → f.idle[j]? = some y → 0 ≤ y ∧ y ≤ 1000000 ∧ (j = 0 → y = 0)) := fun h j y hj hy => by
        rcases Nat.lt_or_ge j k with h1 | h1
        · exact hat.out j y h1 hy
        · obtain rfl : j = k := by omega
          rw [Hz.out] at hy
          injection hy with hy
          subst hy
          refine ⟨by omega, by omega, fun h0 => ?_⟩
          by_cases hy0 : z = 0
          · exact hy0
          · exact absurd (.inr (.inr ⟨h0, hy0⟩)) h
      by_cases h1 : z < 0
      · have Hr := Hno (.inl h1)
        clear Hno hcase
        go_wp2_with (first | (refine wpList_index_g (by rfl) 23 3 6 .i64 (.tmp 6) (.tmp 7) rfl _ k (.int .i64 z) rfl rfl Try.underlying23 Try.underlying3 (int_size1 _) hlt Hz2.out ?_))
        go_ret
        exact ⟨by rw [Hr.out]; rfl, HB.out⟩
      · by_cases h2 : 1000000 < z
        · have Hr := Hno (.inr (.inl h2))
          clear Hno hcase
          go_wp2_with (first | (refine wpList_index_g (by rfl) 23 3 6 .i64 (.tmp 6) (.tmp 7) rfl _ k (.int .i64 z) rfl rfl Try.underlying23 Try.underlying3 (int_size1 _) hlt Hz2.out ?_))
          go_ret
          exact ⟨by rw [Hr.out]; rfl, HB.out⟩
        · by_cases h3 : k = 0
          · by_cases h4 : z = 0
            · have Hat2 := hcase (by omega)
              have h3I : (k : Int) = 0 := by omega
              clear Hno hcase hat
              go_wp2_with (first | (refine wpList_index_g (by rfl) 23 3 6 .i64 (.tmp 6) (.tmp 7) rfl _ k (.int .i64 z) rfl rfl Try.underlying23 Try.underlying3 (int_size1 _) hlt Hz2.out ?_))
              go_roundw
              case rel => exact ⟨k + 1, by omega, by go_num, trivial, Hat2⟩
              case measure => simp [intOf]; omega
            · have Hr := Hno (.inr (.inr ⟨h3, h4⟩))
              have h3I : (k : Int) = 0 := by omega
              clear Hno hcase hat
              go_wp2_with (first | (refine wpList_index_g (by rfl) 23 3 6 .i64 (.tmp 6) (.tmp 7) rfl _ k (.int .i64 z) rfl rfl Try.underlying23 Try.underlying3 (int_size1 _) hlt Hz2.out ?_))
              go_ret
              exact ⟨by rw [Hr.out]; rfl, HB.out⟩
          · have Hat2 := hcase (by omega)
            have h3I : ¬ (k : Int) = 0 := by omega
            clear Hno hcase hat
            go_wp2_with (first | (refine wpList_index_g (by rfl) 23 3 6 .i64 (.tmp 6) (.tmp 7) rfl _ k (.int .i64 z) rfl rfl Try.underlying23 Try.underlying3 (int_size1 _) hlt Hz2.out ?_))
            go_roundw
            case rel => exact ⟨k + 1, by omega, by go_num, trivial, Hat2⟩
            case measure => simp [intOf]; omega
    · have hltI : ¬ (k : Int) < 6 := by omega
      have HI : Hid (idleB f.idle = true) := idleB_yes (fun j z hz => hat.out j z (by have := (List.getElem?_eq_some_iff.1 hz).1; have := hs.idle; omega) hz) (by rw [hs.idle]; decide)
      have c0 : W.cell? ⟨w.heap.size, 0, none⟩ = some (.slice A f.vips.length c) := cf_c0 HX.out
      have Hvips := Lib.hid (vips_any A _ c f.vips hs.vips W rfl hnc ((HV.out.below HB.out).more HB.out.size) hl)
      clear hat hlt
      go_wp2_with fail
      refine Hvips.out.mono ?_
      rintro e w2 ⟨rfl, hb2⟩
      rcases h1 : vipsB f.vips with _ | _
      · have Hr : Hid (rightB f = false) := by show _ = _; simp only [rightB, h1, Bool.false_and, Bool.and_false]
        clear h1
        go_wp2
        go_ret
        exact ⟨by rw [Hr.out]; rfl, HB.out.trans (hb2.mono HB.out.size)⟩
      · have H1 := Lib.hid h1
        have hX2 := Blk.below HX.out hb2 HX.out.lt
        have cs := cf_size hX2
        have cr := cf_room hX2
        have ci := cf_rise hX2 hs
        have cf := cf_fall hX2 hs
        have c4 := cf_four0 hX2 hs
        have HR4 := Lib.hid (cf_four hX2 hs)
        have Hasz := Lib.hid (addr_sz hs.four)
        have HB2 : Hid (Below w.heap.size w w2) := HB.out.trans (hb2.mono HB.out.size)
        have HX2 := Lib.hid hX2
        clear hX2 hb2 h1 Hvips c0
        go_wp2_with fail
        refine (within_any f.size 2 65537 w2).mono ?_
        rintro e wz ⟨rfl, rfl⟩
        rcases h2 : inB f.size 2 65537 with _ | _
        · have Hr : Hid (rightB f = false) := by show _ = _; simp only [rightB, h2, Bool.false_and, Bool.and_false]
          clear h2
          go_wp2
          go_ret
          exact ⟨by rw [Hr.out]; rfl, HB2.out⟩
        · have H2 := Lib.hid h2
          have hsz := inB_iff.1 h2
          have hp := prime_any f.size.toNat w2 (by omega)
          rw [Int.toNat_of_nonneg (by omega)] at hp
          have Hp := Lib.hid hp
          clear h2 hp hsz
          go_wp2_with fail
          refine Hp.out.mono ?_
          rintro e wz ⟨rfl, rfl⟩
          rcases h3 : primeB f.size.toNat with _ | _
          · have Hr : Hid (rightB f = false) := by show _ = _; simp only [rightB, h3, Bool.false_and, Bool.and_false]
            clear h3
            go_wp2
            go_ret
            exact ⟨by rw [Hr.out]; rfl, HB2.out⟩
          · have H3 := Lib.hid h3
            clear h3 Hp
            go_wp2_with fail
            refine (within_any f.room 1 4096 w2).mono ?_
            rintro e wz ⟨rfl, rfl⟩
            rcases h4 : inB f.room 1 4096 with _ | _
            · have Hr : Hid (rightB f = false) := by show _ = _; simp only [rightB, h4, Bool.false_and, Bool.and_false]
              clear h4
              go_wp2
              go_ret
              exact ⟨by rw [Hr.out]; rfl, HB2.out⟩
            · have H4 := Lib.hid h4
              clear h4
              go_wp2_with fail
              refine (within_any f.rise 1 100 w2).mono ?_
              rintro e wz ⟨rfl, rfl⟩
              rcases h5 : inB f.rise 1 100 with _ | _
              · have Hr : Hid (rightB f = false) := by show _ = _; simp only [rightB, h5, Bool.false_and, Bool.and_false]
                clear h5
                go_wp2
                go_ret
                exact ⟨by rw [Hr.out]; rfl, HB2.out⟩
              · have H5 := Lib.hid h5
                clear h5
                go_wp2_with fail
                refine (within_any f.fall 1 100 w2).mono ?_
                rintro e wz ⟨rfl, rfl⟩
                rcases h6 : inB f.fall 1 100 with _ | _
                · have Hr : Hid (rightB f = false) := by show _ = _; simp only [rightB, h6, Bool.false_and, Bool.and_false]
                  clear h6
                  go_wp2
                  go_ret
                  exact ⟨by rw [Hr.out]; rfl, HB2.out⟩
                · have H6 := Lib.hid h6
                  clear h6
                  rcases h7 : f.four.1 with _ | _
                  rotate_left
                  · rw [h7] at c4
                    have Hr : Hid (rightB f = false) := by show _ = _; simp only [rightB, h7, Bool.not_true, Bool.false_and, Bool.and_false]
                    clear h7
                    go_wp2
                    go_ret
                    exact ⟨by rw [Hr.out]; rfl, HB2.out⟩
                  · rw [h7] at c4
                    have H7 := Lib.hid h7
                    have hsh := short_any f.four hs.four w2
                    unfold addrV at hsh
                    have Hsh := Lib.hid hsh
                    clear h7 hsh
                    go_wp2_with (first | (refine wpList_load_g (by rfl) 27 (.tmp 61) rfl w.heap.size 17 rfl (addrCs f.four) _ HR4.out Try.underlying27 rfl Hasz.out ?_))
                    refine Hsh.out.mono ?_
                    rintro e w3 ⟨rfl, hb3⟩
                    rcases h8 : shortB f.four with _ | _
                    · have Hr : Hid (rightB f = false) := by show _ = _; simp only [rightB, h8, Bool.false_and, Bool.and_false]
                      clear h8
                      go_wp2
                      go_ret
                      exact ⟨by rw [Hr.out]; rfl, HB2.out.trans (hb3.mono HB2.out.size)⟩
                    · have H8 := Lib.hid h8
                      have hX3 := Blk.below HX2.out hb3 HX2.out.lt
                      have c6 := cf_six0 hX3 hs
                      have cm := cf_most hX3 hs
                      have ck := cf_keep hX3 hs
                      have cb := cf_batch hX3 hs
                      have HB3 : Hid (Below w.heap.size w w3) := HB2.out.trans (hb3.mono HB2.out.size)
                      clear h8 hX3 hb3 cs cr ci cf c4 Hsh
                      rcases h9 : f.six.1 with _ | _
                      · rw [h9] at c6
                        have Hr : Hid (rightB f = false) := by show _ = _; simp only [rightB, h9, Bool.false_and, Bool.and_false]
                        clear h9
                        go_wp2
                        go_ret
                        exact ⟨by rw [Hr.out]; rfl, HB3.out⟩
                      · rw [h9] at c6
                        have H9 := Lib.hid h9
                        clear h9
                        go_wp2_with fail
                        refine (within_any f.most 1000 1048576 w3).mono ?_
                        rintro e wz ⟨rfl, rfl⟩
                        rcases h10 : inB f.most 1000 1048576 with _ | _
                        · have Hr : Hid (rightB f = false) := by show _ = _; simp only [rightB, h10, Bool.false_and, Bool.and_false]
                          clear h10
                          go_wp2
                          go_ret
                          exact ⟨by rw [Hr.out]; rfl, HB3.out⟩
                        · have H10 := Lib.hid h10
                          clear h10
                          go_wp2_with fail
                          refine (within_any f.keep 1 100 w3).mono ?_
                          rintro e wz ⟨rfl, rfl⟩
                          rcases h11 : inB f.keep 1 100 with _ | _
                          · have Hr : Hid (rightB f = false) := by show _ = _; simp only [rightB, h11, Bool.false_and, Bool.and_false]
                            clear h11
                            go_wp2
                            go_ret
                            exact ⟨by rw [Hr.out]; rfl, HB3.out⟩
                          · have H11 := Lib.hid h11
                            clear h11
                            go_wp2_with fail
                            refine (within_any f.batch 1 1000 w3).mono ?_
                            rintro e wz ⟨rfl, rfl⟩
                            rcases h12 : inB f.batch 1 1000 with _ | _
                            · have Hr : Hid (rightB f = false) := by show _ = _; simp only [rightB, h12, Bool.false_and, Bool.and_false]
                              clear h12
                              go_wp2
                              go_ret
                              exact ⟨by rw [Hr.out]; rfl, HB3.out⟩
                            · have H12 := Lib.hid h12
                              clear h12
                              have Hr : Hid (rightB f = true) := by show _ = _; simp only [rightB, HI.out, H1.out, H2.out, H3.out, H4.out, H5.out, H6.out, H7.out, H8.out, H9.out, H10.out, H11.out, H12.out]; rfl
                              go_wp2
                              go_ret
                              exact ⟨by rw [Hr.out]; rfl, HB3.out⟩
end Go.Proofs.Ytmkeljcjhcaigaa
