/- conf.vips: are all Vips right, and unlike? -/
import Derived.Test.YtmkeljcjhcaigaaK3
import Derived.Test.YtmkeljcjhcaigaaConfP
import Derived.Deep.Cut
import Derived.Deep.CutRange
import Derived.Deep.RegionHeld3
namespace Go.Proofs.Ytmkeljcjhcaigaa
open Go.RowKit
set_option linter.unusedVariables false
set_option linter.unusedSimpArgs false

theorem len16 {l : List UInt8} (h : l.length = 16) : ∃ y0 y1 y2 y3 y4 y5 y6 y7 y8 y9 ya yb yc yd ye yf, l = [y0, y1, y2, y3, y4, y5, y6, y7, y8, y9, ya, yb, yc, yd, ye, yf] := by
  match l, h with
  | [y0, y1, y2, y3, y4, y5, y6, y7, y8, y9, ya, yb, yc, yd, ye, yf], _ => exact ⟨_, _, _, _, _, _, _, _, _, _, _, _, _, _, _, _, rfl⟩
/-- The cells of a config with these Vips alone. -/
theorem vipFind_ok {addr : AddrP} {proto port : Int} {vs : List VipP} : (vipFind addr proto port vs).2 = vs.any (vipIs addr proto port) := by
  unfold vipFind
  rcases h : vs.findIdx? (vipIs addr proto port) with _ | i
  · rw [List.findIdx?_eq_none_iff] at h
    symm
    simp only [List.any_eq_false]
    intro x hx
    simpa using h x hx
  · obtain ⟨hi, hp, _⟩ := List.findIdx?_eq_some_iff_getElem.1 h
    symm
    simp only [List.any_eq_true]
    exact ⟨_, List.getElem_mem hi, hp⟩
theorem vipFind_addr {addr : AddrP} {proto port : Int} {vs : List VipP} (h : ∀ v ∈ vs, addrOk v.1) : addrOk (vipFind addr proto port vs).1.1 := by
  unfold vipFind
  rcases h1 : vs.findIdx? (vipIs addr proto port) with _ | i
  · exact addr0_ok
  · obtain ⟨hi, _⟩ := List.findIdx?_eq_some_iff_getElem.1 h1
    simp only [List.getElem?_eq_getElem hi, Option.getD_some]
    exact h _ (List.getElem_mem hi)

set_option maxHeartbeats 2000000 in
set_option maxRecDepth 100000 in
theorem vips_any (A : Option Addr) (n c : Nat) (vs : List VipP) (hv : ∀ v ∈ vs, addrOk v.1) (w : World) (hn : n = vs.length) (hnc : n ≤ c) (hb : VS w w.heap.size A vs) (hl : n ≤ 1000000) :
    Calls Try.prog 37 #[.slice A n c] w fun e w' => e = .returned (.bool (vipsB vs)) ∧ Below w.heap.size w w' := by
  subst hn
  have HV := Lib.hid hb
  have Hok := Lib.hid hv
  clear hb hv
  by_cases h64 : 64 < vs.length
  · have h64I : (64 : Int) < (vs.length : Int) := by omega
    have hr : vipsB vs = false := by
      rcases h : vipsB vs with _ | _
      · rfl
      · have := (vipsB_iff.1 h).1; omega
    rw [hr]
    clear hr h64
    go_enter Try.func37, Try.ntmps37
    go_wp2
    go_ret
    exact ⟨rfl, Below.refl _ _⟩
  · have h64I : ¬ (64 : Int) < (vs.length : Int) := by omega
    go_enter Try.func37, Try.ntmps37
    go_wp2
    go_loopw [12] (fun i wr => ∃ k : Nat, k ≤ vs.length ∧ i = .int .i64 (k : Int) ∧ Hid (Below w.heap.size w wr) ∧ Hid (∀ j, j < k → vipAt vs j = true)) (fun i _ => vs.length - (intOf i).toNat)
    case atStart => exact ⟨0, by omega, rfl, Below.refl _ _, fun j hj => by omega⟩
    case round =>
      obtain ⟨k, hk, rfl, hbel, hat⟩ := hrel
      by_cases hlt : k < vs.length
      · have hltI : (k : Int) < (vs.length : Int) := by omega
        have hk0 : (0 : Int) ≤ (k : Int) := by omega
        obtain ⟨b, o, hA, hbB, hc⟩ := (HV.out.below hbel.out) (by omega)
        subst hA
        obtain ⟨x, hx⟩ : ∃ x, x = vs[k] := ⟨_, rfl⟩
        have hrg := hc k x (by rw [List.getElem?_eq_getElem hlt, hx])
        have hxo : addrOk x.1 := Hok.out x (by rw [hx]; exact List.getElem_mem hlt)
        have hat2 : vipAt vs k = (vipR x && !((vs.take k).any (vipIs x.1 x.2.1 x.2.2.1))) := by
          unfold vipAt
          rw [List.getElem?_eq_getElem hlt, ← hx]
        have Hno : vipAt vs k = false → Hid (vipsB vs = false) := fun h => by
          show _ = _
          rcases h2 : vipsB vs with _ | _
          · rfl
          · rw [(vipsB_iff.1 h2).2 k hlt] at h; cases h
        have Hrg := Lib.hid hrg
        have Hsz := Lib.hid (vip_sz hxo)
        have Hasz := Lib.hid (addr_sz hxo)
        have Hat2 := Lib.hid hat2
        clear hc hrg hat2 hx
        have hszr : w.heap.size ≤ wr.heap.size := hbel.out.size
        obtain ⟨W0, hW0⟩ : ∃ W0, W0 = wr.alloc (.cells (vipCs vip0).toArray 33) := ⟨_, rfl⟩
        have hX0 : Blk W0 wr.heap.size 33 (vipCs vip0).toArray := by rw [hW0]; exact Blk.new _ _ _ _ rfl
        have Hth : Hid (W0.there wr.heap.size 0 (vipCs x).toArray.size) := hX0.there (by rw [vip0_lit, List.size_toArray, vipCs_length hxo]; decide)
        have HW0 := Lib.hid hW0
        have HX0 := Lib.hid hX0
        clear hW0 hX0
        rw [vip0_lit] at HW0
        go_upto_region 6 with (first
          | (refine wpList_load_g (by rfl) 33 (.tmp 15) rfl b (o + k * 20) rfl (vipCs x) _ Hrg.out Try.underlying33 rfl Hsz.out ?_)
          | (rw [← HW0.out]
             refine wpList_store_mid rfl 33 (.tmp 4) (.tmp 16) rfl wr.heap.size 0 (vipCs x).toArray rfl rfl Hth.out Hsz.out (vip_one x) ?_))
        obtain ⟨W1, hW1⟩ : ∃ W1, W1 = W0.setCells wr.heap.size 0 (vipCs x) := ⟨_, rfl⟩
        have hX1 : Blk W1 wr.heap.size 33 (vipCs x).toArray := by
          rw [hW1]
          have := Blk.setCells (vipCs x) 0 HX0.out
          rw [setL_whole (by rw [vipCs_length hxo]; rfl)] at this
          exact this
        have hB1 : Below w.heap.size w W1 := by rw [hW1, HW0.out]; exact below_setCells hszr _ _ (hbel.out.alloc hszr _)
        rw [← hW1]
        clear hW1 Hth HX0 HW0 Hrg
        have hsz1 : w.heap.size ≤ W1.heap.size := hB1.size
        have HX1 := Lib.hid hX1
        have HB1 := Lib.hid hB1
        have HR1 := Lib.hid (vip_blk_range hX1)
        have hs := short_any x.1 hxo W1
        unfold addrV at hs
        have Hs := Lib.hid hs
        clear hX1 hB1 hs
        go_wp2_with (first
          | (refine wpList_load_g (by rfl) 27 (.tmp 17) rfl wr.heap.size 0 rfl (addrCs x.1) _ HR1.out Try.underlying27 rfl Hasz.out ?_))
        refine Hs.out.mono ?_
        rintro e w2 ⟨rfl, hb2⟩
        have hX2 := Blk.below HX1.out hb2 HX1.out.lt
        have c17 : w2.cell? ⟨wr.heap.size, 17, none⟩ = some (.int .i64 x.2.1) := vip_blk_at hxo hX2 0
        have c18 : w2.cell? ⟨wr.heap.size, 18, none⟩ = some (.int .i64 x.2.2.1) := vip_blk_at hxo hX2 1
        have HX2 := Lib.hid hX2
        have HB2 : Hid (Below w.heap.size w w2) := HB1.out.trans (hb2.mono hsz1)
        clear hX2 hb2 Hs HR1 HX1 HB1
        obtain ⟨⟨s6, l⟩, p, q, t⟩ := x
        simp only at c17 c18
        rcases hsh : shortB (s6, l) with _ | _
        · have Hr := Hno (by rw [Hat2.out]; simp [vipR, hsh])
          clear hsh Hno
          go_wp2
          go_ret
          exact ⟨by rw [Hr.out]; rfl, HB2.out⟩
        · by_cases hpp : ¬ p = 6 ∧ ¬ p = 17
          · have Hr := Hno (by rw [Hat2.out]; simp [vipR, hsh, hpp.1, hpp.2])
            obtain ⟨hp6, hp17⟩ := hpp
            have hp6b : (p != 6) = true := by simp [hp6]
            have hp17b : (p != 17) = true := by simp [hp17]
            clear hsh Hno
            go_wp2
            go_ret
            exact ⟨by rw [Hr.out]; rfl, HB2.out⟩
          · have hp : (p == 6 || p == 17) = true := by
              by_cases h6 : p = 6
              · simp [h6]
              · by_cases h17 : p = 17
                · simp [h17]
                · exact absurd ⟨h6, h17⟩ hpp
            have hpn : (p != 6 && p != 17) = false := by
              by_cases h6 : p = 6
              · simp [h6]
              · by_cases h17 : p = 17
                · simp [h17]
                · exact absurd ⟨h6, h17⟩ hpp
            have Hpp := Lib.hid hpp
            clear hpp
            have Hp := Lib.hid hp
            clear hp hpn
            have hcase : (p = 6) ∨ (¬ p = 6 ∧ p = 17) := by
              by_cases h6 : p = 6
              · exact .inl h6
              · by_cases h17 : p = 17
                · exact .inr ⟨h6, h17⟩
                · exact absurd ⟨h6, h17⟩ Hpp.out
            have Hsh := Lib.hid hsh
            clear hsh Hpp
            have hsz2 : w.heap.size ≤ w2.heap.size := HB2.out.size
            obtain ⟨F, hF⟩ : ∃ F, F = vipFind (s6, l) p q (vs.take k) := ⟨_, rfl⟩
            have hFo : addrOk F.1.1 := by rw [hF]; exact vipFind_addr (fun v hv => Hok.out v (List.mem_of_mem_take hv))
            have hFb : F.2 = (vs.take k).any (vipIs (s6, l) p q) := by rw [hF]; exact vipFind_ok
            have HS : Hid (∀ w', Below w2.heap.size w2 w' → w'.cell? ⟨wr.heap.size, 17, none⟩ = some (.int .i64 p) ∧ w'.cell? ⟨wr.heap.size, 18, none⟩ = some (.int .i64 q)) := fun w' h => by
              have hr := Blk.below HX2.out h HX2.out.lt
              exact ⟨vip_blk_at (v := ((s6, l), p, q, t)) hxo hr 0, vip_blk_at (v := ((s6, l), p, q, t)) hxo hr 1⟩
            have HVF : Hid (∀ (cs : Array Value) w', cs[0]? = some (.slice (some ⟨b, o, none⟩) k c) → Below w2.heap.size w2 w' → Calls Try.prog 12 #[.agg cs, .agg (addrCs (s6, l)).toArray, .int .i64 p, .int .i64 q] w' fun e w'' => e = .returned (.tuple #[.agg (vipCs F.1).toArray, .bool F.2]) ∧ Below w'.heap.size w' w'') := fun cs w' hcs h => by
              have := vip_any cs (some ⟨b, o, none⟩) k c hcs (vs.take k) (fun v hv => Hok.out v (List.mem_of_mem_take hv)) (s6, l) hxo p q w' (by rw [List.length_take]; omega) (((HV.out.below (HB2.out.trans (h.mono hsz2))).more (Nat.le_trans hsz2 h.size)).take k) (by omega)
              rw [← hF] at this
              exact this
            have HRA : Hid (∀ w', Below w2.heap.size w2 w' → w'.rangeAt wr.heap.size 0 (addrCs (s6, l))) := fun w' h => vip_blk_range (v := ((s6, l), p, q, t)) (Blk.below HX2.out h HX2.out.lt)
            have HFsz := Lib.hid (vip_sz hFo)
            have HFl : Hid ((vipCs F.1).toArray.size = 20) := by show _ = _; rw [List.size_toArray, vipCs_length hFo]
            have HFb : Hid (vipAt vs k = (inB q 1 65535 && !F.2)) := by
              show _ = _
              rw [Hat2.out, hFb]
              simp only [vipR, Hsh.out, Hp.out, Bool.true_and]
            have hkc : (k : Int) ≤ (c : Int) := by omega
            clear hF hFo hFb Hat2 Hp
            rcases hcase with rfl | ⟨h6, rfl⟩
            all_goals
              go_wp2_with fail
              refine (within_any q 1 65535 w2).mono ?_
              rintro e w3 ⟨rfl, rfl⟩
              rcases hq : inB q 1 65535 with _ | _
              · have Hr := Hno (by rw [HFb.out]; simp [hq])
                clear Hno hq
                go_wp2
                go_ret
                exact ⟨by rw [Hr.out]; rfl, HB2.out⟩
              · have Hq := Lib.hid hq
                clear hq
                go_wp2_with fail
                refine wp_region_noPanic ?_
                refine wp_region_held_drew (S := fun w' => Below w2.heap.size w2 w') (by kernel_rfl) ((Below.refl _ _).drew) (fun hHeld => ?_)
                refine wpAnyH_take (i := 0) (v := ?_) rfl (by kernel_rfl) (by kernel_rfl) (by kernel_rfl) (fun _ _ _ h => h) (Or.inl ⟨by rfl, ?_⟩) hHeld ?_
                rotate_left
                · intro w' hSw
                  skip
                  go_simp
                  try with_reducible rfl
                simp only [Act.put, List.getElem_toArray, List.getElem_cons_succ, List.getElem_cons_zero, List.setIfInBounds_toArray, List.set_cons_zero, List.set_cons_succ]
                refine wpAnyH_take (i := 1) (v := ?_) rfl (by kernel_rfl) (by kernel_rfl) (by kernel_rfl) (fun _ _ _ h => h) (Or.inl ⟨by rfl, ?_⟩) hHeld ?_
                rotate_left
                · intro w' hSw
                  skip
                  go_simp
                  try with_reducible rfl
                simp only [Act.put, List.getElem_toArray, List.getElem_cons_succ, List.getElem_cons_zero, List.setIfInBounds_toArray, List.set_cons_zero, List.set_cons_succ]
                refine wpAnyH_take (i := 2) (v := ?_) rfl (by kernel_rfl) (by kernel_rfl) (by kernel_rfl) (fun _ _ _ h => h) (Or.inl ⟨by rfl, ?_⟩) hHeld ?_
                rotate_left
                · intro w' hSw
                  skip
                  go_simp
                  try with_reducible rfl
                simp only [Act.put, List.getElem_toArray, List.getElem_cons_succ, List.getElem_cons_zero, List.setIfInBounds_toArray, List.set_cons_zero, List.set_cons_succ]
                refine wpAnyH_take (i := 3) (v := ?_) rfl (by kernel_rfl) (by kernel_rfl) (by kernel_rfl) (fun _ _ _ h => h) (Or.inl ⟨by rfl, ?_⟩) hHeld ?_
                rotate_left
                · intro w' hSw
                  skip
                  go_simp
                  try with_reducible rfl
                simp only [Act.put, List.getElem_toArray, List.getElem_cons_succ, List.getElem_cons_zero, List.setIfInBounds_toArray, List.set_cons_zero, List.set_cons_succ]
                refine wpAnyH_take (i := 4) (v := ?_) rfl (by kernel_rfl) (by kernel_rfl) (by kernel_rfl) (fun _ _ _ h => h) (Or.inl ⟨by rfl, ?_⟩) hHeld ?_
                rotate_left
                · intro w' hSw
                  skip
                  go_simp
                  try with_reducible rfl
                simp only [Act.put, List.getElem_toArray, List.getElem_cons_succ, List.getElem_cons_zero, List.setIfInBounds_toArray, List.set_cons_zero, List.set_cons_succ]
                refine wpAnyH_take (i := 5) rfl (by kernel_rfl) (by kernel_rfl) (by kernel_rfl) (fun _ _ _ h => h) (yieldsIf_load_mid (by rfl) 27 (.tmp 42) rfl (wr.heap.size) (0) rfl (addrCs (s6, l)) _ (HRA.out) Try.underlying27 rfl Hasz.out) hHeld ?_
                simp only [Act.put, List.getElem_toArray, List.getElem_cons_succ, List.getElem_cons_zero, List.setIfInBounds_toArray, List.set_cons_zero, List.set_cons_succ]
                refine wpAnyH_take (i := 6) (v := ?_) rfl (by kernel_rfl) (by kernel_rfl) (by kernel_rfl) (fun _ _ _ h => h) (Or.inl ⟨by rfl, ?_⟩) hHeld ?_
                rotate_left
                · intro w' hSw
                  skip
                  go_simp
                  try with_reducible rfl
                simp only [Act.put, List.getElem_toArray, List.getElem_cons_succ, List.getElem_cons_zero, List.setIfInBounds_toArray, List.set_cons_zero, List.set_cons_succ]
                refine wpAnyH_take (i := 7) (v := ?_) rfl (by kernel_rfl) (by kernel_rfl) (by kernel_rfl) (fun _ _ _ h => h) (Or.inl ⟨by rfl, ?_⟩) hHeld ?_
                rotate_left
                · intro w' hSw
                  obtain ⟨h17', h18'⟩ := HS.out w' hSw
                  go_simp
                  try with_reducible rfl
                simp only [Act.put, List.getElem_toArray, List.getElem_cons_succ, List.getElem_cons_zero, List.setIfInBounds_toArray, List.set_cons_zero, List.set_cons_succ]
                refine wpAnyH_take (i := 8) (v := ?_) rfl (by kernel_rfl) (by kernel_rfl) (by kernel_rfl) (fun _ _ _ h => h) (Or.inl ⟨by rfl, ?_⟩) hHeld ?_
                rotate_left
                · intro w' hSw
                  skip
                  go_simp
                  try with_reducible rfl
                simp only [Act.put, List.getElem_toArray, List.getElem_cons_succ, List.getElem_cons_zero, List.setIfInBounds_toArray, List.set_cons_zero, List.set_cons_succ]
                refine wpAnyH_take (i := 9) (v := ?_) rfl (by kernel_rfl) (by kernel_rfl) (by kernel_rfl) (fun _ _ _ h => h) (Or.inl ⟨by rfl, ?_⟩) hHeld ?_
                rotate_left
                · intro w' hSw
                  obtain ⟨h17', h18'⟩ := HS.out w' hSw
                  go_simp
                  try with_reducible rfl
                simp only [Act.put, List.getElem_toArray, List.getElem_cons_succ, List.getElem_cons_zero, List.setIfInBounds_toArray, List.set_cons_zero, List.set_cons_succ]
                refine wpAnyH_ready (rs := [10, 14]) (by kernel_rfl) (by simp) ?_
                refine AllReadyH.cons (i := 10) rfl (fun K hK => ?_) ?_
                · go_simp
                  refine (HVF.out _ _ rfl hHeld).mono ?_
                  rintro e w3 ⟨rfl, hb3⟩
                  have hBehind := hHeld.trans (hb3.mono hHeld.size)
                  go_wp2_with fail
                  refine hK.out _ _ hBehind (fun hHeld => ?_)
                  clear hK K
                  try simp only [Act.put, List.getElem_toArray, List.getElem_cons_succ, List.getElem_cons_zero, List.setIfInBounds_toArray, List.set_cons_zero, List.set_cons_succ]
                  refine wpAnyH_take (i := 11) (v := ?_) rfl (by kernel_rfl) (by kernel_rfl) (by kernel_rfl) (fun _ _ _ h => h) (Or.inl ⟨by rfl, ?_⟩) hHeld ?_
                  rotate_left
                  · intro w' hSw
                    skip
                    go_simp
                    try with_reducible rfl
                  simp only [Act.put, List.getElem_toArray, List.getElem_cons_succ, List.getElem_cons_zero, List.setIfInBounds_toArray, List.set_cons_zero, List.set_cons_succ]
                  refine wpAnyH_take (i := 12) (v := ?_) rfl (by kernel_rfl) (by kernel_rfl) (by kernel_rfl) (fun _ _ _ h => h) (Or.inl ⟨by rfl, ?_⟩) hHeld ?_
                  rotate_left
                  · intro w' hSw
                    skip
                    go_simp
                    try with_reducible rfl
                  simp only [Act.put, List.getElem_toArray, List.getElem_cons_succ, List.getElem_cons_zero, List.setIfInBounds_toArray, List.set_cons_zero, List.set_cons_succ]
                  refine wpAnyH_take (i := 13) (v := ?_) rfl (by kernel_rfl) (by kernel_rfl) (by kernel_rfl) (fun _ _ _ h => h) (Or.inl ⟨by rfl, ?_⟩) hHeld ?_
                  rotate_left
                  · intro w' hSw
                    skip
                    go_simp
                    try with_reducible rfl
                  simp only [Act.put, List.getElem_toArray, List.getElem_cons_succ, List.getElem_cons_zero, List.setIfInBounds_toArray, List.set_cons_zero, List.set_cons_succ]
                  refine wpAnyH_ready (rs := [14]) (by kernel_rfl) (by simp) ?_
                  refine AllReadyH.cons (i := 14) rfl (fun K hK => ?_) ?_
                  · go_simp
                    refine hK.out _ _ (hHeld.alloc (by have := hHeld.size; omega) _) (fun hHeld => ?_)
                    clear hK K
                    try simp only [Act.put, List.getElem_toArray, List.getElem_cons_succ, List.getElem_cons_zero, List.setIfInBounds_toArray, List.set_cons_zero, List.set_cons_succ]
                    refine wpAnyH_ready (rs := [15]) (by kernel_rfl) (by simp) ?_
                    refine AllReadyH.cons (i := 15) rfl (fun K hK => ?_) ?_
                    · rw [if_pos (by rfl)]
                      refine wp_store_mid _ _ _ rfl (w3.heap.size) (0) (vipCs F.1).toArray rfl rfl (by rw [HFl.out]; exact Blk.there (o := 0) (n := 20) (Blk.new w3 33 _ _ rfl) (by decide)) (HFsz.out) (vip_one _) ?_
                      refine hK.out _ _ (below_setCells (by have := hb3.size; simp at this ⊢; omega) _ _ hHeld) (fun hHeld => ?_)
                      clear hK K
                      try simp only [Act.put, List.getElem_toArray, List.getElem_cons_succ, List.getElem_cons_zero, List.setIfInBounds_toArray, List.set_cons_zero, List.set_cons_succ]
                      refine wpAnyH_take (i := 16) (v := ?_) rfl (by kernel_rfl) (by kernel_rfl) (by kernel_rfl) (fun _ _ _ h => h) (Or.inl ⟨by rfl, ?_⟩) hHeld ?_
                      rotate_left
                      · intro w' hSw
                        skip
                        go_simp
                        try with_reducible rfl
                      simp only [Act.put, List.getElem_toArray, List.getElem_cons_succ, List.getElem_cons_zero, List.setIfInBounds_toArray, List.set_cons_zero, List.set_cons_succ]
                      refine wpAnyH_done (by kernel_rfl) ?_ _
                      refine NoPanic.normal ?_
                      have HBe : Hid (Below w.heap.size w _) := HB2.out.trans (hHeld.mono hsz2)
                      rcases hF2 : F.2 with _ | _
                      · have Hat3 : Hid (∀ j, j < k + 1 → vipAt vs j = true) := fun j hj => by
                          rcases Nat.lt_or_ge j k with h1 | h1
                          · exact hat.out j h1
                          · obtain rfl : j = k := by omega
                            rw [HFb.out, hF2, Hq.out]; rfl
                        clear hF2 Hno hat hHeld HS HVF HRA HFb
                        go_wp2
                        go_roundw
                        case rel => exact ⟨k + 1, by omega, by go_num, HBe, Hat3⟩
                        case measure => simp [intOf]; omega
                      · have Hr := Hno (by rw [HFb.out, hF2]; simp)
                        clear hF2 Hno hat hHeld HS HVF HRA HFb
                        go_wp2
                        go_ret
                        exact ⟨by rw [Hr.out]; rfl, HBe.out⟩
                    exact AllReadyH.nil
                  exact AllReadyH.nil
                refine AllReadyH.cons (i := 14) rfl (fun K hK => ?_) ?_
                · go_simp
                  refine hK.out _ _ (hHeld.alloc (by have := hHeld.size; omega) _) (fun hHeld => ?_)
                  clear hK K
                  try simp only [Act.put, List.getElem_toArray, List.getElem_cons_succ, List.getElem_cons_zero, List.setIfInBounds_toArray, List.set_cons_zero, List.set_cons_succ]
                  have hN := fun z => Blk.new w2.drew 33 z w2.heap.size rfl
                  refine wpAnyH_ready (rs := [10]) (by kernel_rfl) (by simp) ?_
                  refine AllReadyH.cons (i := 10) rfl (fun K hK => ?_) ?_
                  · go_simp
                    refine (HVF.out _ _ rfl hHeld).mono ?_
                    rintro e w3 ⟨rfl, hb3⟩
                    have hBehind := hHeld.trans (hb3.mono hHeld.size)
                    have hN3 := Blk.below (hN _) hb3 (Blk.lt (hN _))
                    go_wp2_with fail
                    refine hK.out _ _ hBehind (fun hHeld => ?_)
                    clear hK K
                    try simp only [Act.put, List.getElem_toArray, List.getElem_cons_succ, List.getElem_cons_zero, List.setIfInBounds_toArray, List.set_cons_zero, List.set_cons_succ]
                    refine wpAnyH_take (i := 11) (v := ?_) rfl (by kernel_rfl) (by kernel_rfl) (by kernel_rfl) (fun _ _ _ h => h) (Or.inl ⟨by rfl, ?_⟩) hHeld ?_
                    rotate_left
                    · intro w' hSw
                      skip
                      go_simp
                      try with_reducible rfl
                    simp only [Act.put, List.getElem_toArray, List.getElem_cons_succ, List.getElem_cons_zero, List.setIfInBounds_toArray, List.set_cons_zero, List.set_cons_succ]
                    refine wpAnyH_take (i := 12) (v := ?_) rfl (by kernel_rfl) (by kernel_rfl) (by kernel_rfl) (fun _ _ _ h => h) (Or.inl ⟨by rfl, ?_⟩) hHeld ?_
                    rotate_left
                    · intro w' hSw
                      skip
                      go_simp
                      try with_reducible rfl
                    simp only [Act.put, List.getElem_toArray, List.getElem_cons_succ, List.getElem_cons_zero, List.setIfInBounds_toArray, List.set_cons_zero, List.set_cons_succ]
                    refine wpAnyH_take (i := 13) (v := ?_) rfl (by kernel_rfl) (by kernel_rfl) (by kernel_rfl) (fun _ _ _ h => h) (Or.inl ⟨by rfl, ?_⟩) hHeld ?_
                    rotate_left
                    · intro w' hSw
                      skip
                      go_simp
                      try with_reducible rfl
                    simp only [Act.put, List.getElem_toArray, List.getElem_cons_succ, List.getElem_cons_zero, List.setIfInBounds_toArray, List.set_cons_zero, List.set_cons_succ]
                    refine wpAnyH_ready (rs := [15]) (by kernel_rfl) (by simp) ?_
                    refine AllReadyH.cons (i := 15) rfl (fun K hK => ?_) ?_
                    · rw [if_pos (by rfl)]
                      refine wp_store_mid _ _ _ rfl (w2.heap.size) (0) (vipCs F.1).toArray rfl rfl (by rw [HFl.out]; exact hN3.there (by decide)) (HFsz.out) (vip_one _) ?_
                      refine hK.out _ _ (below_setCells (Nat.le_refl _) _ _ hHeld) (fun hHeld => ?_)
                      clear hK K
                      try simp only [Act.put, List.getElem_toArray, List.getElem_cons_succ, List.getElem_cons_zero, List.setIfInBounds_toArray, List.set_cons_zero, List.set_cons_succ]
                      refine wpAnyH_take (i := 16) (v := ?_) rfl (by kernel_rfl) (by kernel_rfl) (by kernel_rfl) (fun _ _ _ h => h) (Or.inl ⟨by rfl, ?_⟩) hHeld ?_
                      rotate_left
                      · intro w' hSw
                        skip
                        go_simp
                        try with_reducible rfl
                      simp only [Act.put, List.getElem_toArray, List.getElem_cons_succ, List.getElem_cons_zero, List.setIfInBounds_toArray, List.set_cons_zero, List.set_cons_succ]
                      refine wpAnyH_done (by kernel_rfl) ?_ _
                      refine NoPanic.normal ?_
                      have HBe : Hid (Below w.heap.size w _) := HB2.out.trans (hHeld.mono hsz2)
                      rcases hF2 : F.2 with _ | _
                      · have Hat3 : Hid (∀ j, j < k + 1 → vipAt vs j = true) := fun j hj => by
                          rcases Nat.lt_or_ge j k with h1 | h1
                          · exact hat.out j h1
                          · obtain rfl : j = k := by omega
                            rw [HFb.out, hF2, Hq.out]; rfl
                        clear hF2 Hno hat hHeld HS HVF HRA HFb
                        go_wp2
                        go_roundw
                        case rel => exact ⟨k + 1, by omega, by go_num, HBe, Hat3⟩
                        case measure => simp [intOf]; omega
                      · have Hr := Hno (by rw [HFb.out, hF2]; simp)
                        clear hF2 Hno hat hHeld HS HVF HRA HFb
                        go_wp2
                        go_ret
                        exact ⟨by rw [Hr.out]; rfl, HBe.out⟩
                    exact AllReadyH.nil
                  exact AllReadyH.nil
                exact AllReadyH.nil
      · have hltI : ¬ (k : Int) < (vs.length : Int) := by omega
        have Hr : Hid (vipsB vs = true) := vipsB_iff.2 ⟨by omega, fun i hi => hat.out i (by omega)⟩
        go_wp2
        go_ret
        exact ⟨by rw [Hr.out]; rfl, hbel.out⟩
end Go.Proofs.Ytmkeljcjhcaigaa
