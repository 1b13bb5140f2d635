/- slices.Equal at Vips (printed by gen_eqvips.py). -/
import Derived.Test.YtmkeljcjhcaigaaConfP
import Derived.Test.YtmkeljcjhcaigaaKE
import Derived.Deep.RegionHeld3
namespace Go.Proofs.Ytmkeljcjhcaigaa
open Go.RowKit
set_option linter.unusedVariables false
set_option linter.unusedSimpArgs false

theorem vip_guard : Try.prog.eqGuardType Try.prog.depth 33 = false := by kernel_rfl

set_option maxHeartbeats 1600000 in
set_option maxRecDepth 100000 in
theorem eqVips_any (A : Option Addr) (n c : Nat) (vs : List VipP) (A' : Option Addr) (n' c' : Nat) (us : List VipP) (hv : ∀ v ∈ vs, addrOk v.1) (hu : ∀ v ∈ us, addrOk v.1) (w : World) (hn : n = vs.length) (hn' : n' = us.length) (hb : VS w w.heap.size A vs) (hb' : VS w w.heap.size A' us) (hl : n ≤ 1000000) (hl' : n' ≤ 1000000) :
    Calls Try.prog 42 #[.slice A n c, .slice A' n' c'] w fun e w' => e = .returned (.bool (vs == us)) ∧ Below w.heap.size w w' := by
  subst hn hn'
  have HV := Lib.hid hb
  have HU := Lib.hid hb'
  have HokV := Lib.hid hv
  have HokU := Lib.hid hu
  clear hb hb' hv hu
  by_cases hlen : vs.length = us.length
  · have hlenI : (vs.length : Int) = (us.length : Int) := by omega
    go_enter Try.func42, Try.ntmps42
    go_wp2
    go_loopw [13] (fun i wr => ∃ k : Nat, k ≤ us.length ∧ i = .int .i64 (k : Int) ∧ Hid (Below w.heap.size w wr) ∧ Hid (∀ j, j < k → vs[j]? = us[j]?)) (fun i _ => us.length - (intOf i).toNat)
    case atStart => exact ⟨0, by omega, rfl, Below.refl _ _, fun j hj => by omega⟩
    case round =>
      obtain ⟨k, hk, rfl, hbel, hat⟩ := hrel
      by_cases hlt : k < us.length
      · have hltI : (k : Int) < (us.length : Int) := by omega
        have hk0 : (0 : Int) ≤ (k : Int) := by omega
        have hlt' : k < vs.length := by omega
        obtain ⟨b1, o1, hA, hbB, hc⟩ := HV.out (by omega)
        obtain ⟨b2, o2, hA', hbB', hc'⟩ := HU.out (by omega)
        subst hA hA'
        obtain ⟨x, hx⟩ : ∃ x, x = vs[k] := ⟨_, rfl⟩
        obtain ⟨y, hy⟩ : ∃ y, y = us[k] := ⟨_, rfl⟩
        have hx? : vs[k]? = some x := by rw [List.getElem?_eq_getElem hlt', hx]
        have hy? : us[k]? = some y := by rw [List.getElem?_eq_getElem hlt, hy]
        have hxo : addrOk x.1 := HokV.out x (by rw [hx]; exact List.getElem_mem hlt')
        have hyo : addrOk y.1 := HokU.out y (by rw [hy]; exact List.getElem_mem hlt)
        have HRx : Hid (∀ w', Below wr.heap.size wr w' → w'.rangeAt b1 (o1 + k * 20) (vipCs x)) := fun w' h j u hj => ((hbel.out.trans (h.mono hbel.out.size)).cell (p := ⟨b1, _, none⟩) hbB).trans (hc k x hx? j u hj)
        have HRy : Hid (∀ w', Below wr.heap.size wr w' → w'.rangeAt b2 (o2 + k * 20) (vipCs y)) := fun w' h j u hj => ((hbel.out.trans (h.mono hbel.out.size)).cell (p := ⟨b2, _, none⟩) hbB').trans (hc' k y hy? j u hj)
        have Hsx := Lib.hid (vip_sz hxo)
        have Hsy := Lib.hid (vip_sz hyo)
        have Heq := Lib.hid (fun w => vip_eqIn 9996 x y hxo hyo w)
        have Hx? := Lib.hid hx?
        have Hy? := Lib.hid hy?
        clear hc hc' hx hy hx? hy?
        go_wp2_with fail
        refine wp_region_noPanic ?_
        refine wp_region_held_drew (S := fun w' => Below wr.heap.size wr w') (by kernel_rfl) ((Below.refl _ _).drew) (fun hHeld => ?_)
        refine wpAnyH_take (i := 0) (v := ?_) rfl (by kernel_rfl) (by kernel_rfl) (by kernel_rfl) (fun _ _ _ h => h) (Or.inl ⟨by rfl, ?_⟩) hHeld ?_
        rotate_left
        · intro w' hSw
          skip
          go_simp
          try with_reducible rfl
        simp only [Act.put, List.getElem_toArray, List.getElem_cons_succ, List.getElem_cons_zero, List.setIfInBounds_toArray, List.set_cons_zero, List.set_cons_succ]
        refine wpAnyH_take (i := 1) (v := ?_) rfl (by kernel_rfl) (by kernel_rfl) (by kernel_rfl) (fun _ _ _ h => h) (Or.inl ⟨by rfl, ?_⟩) hHeld ?_
        rotate_left
        · intro w' hSw
          skip
          go_simp
          try with_reducible rfl
        simp only [Act.put, List.getElem_toArray, List.getElem_cons_succ, List.getElem_cons_zero, List.setIfInBounds_toArray, List.set_cons_zero, List.set_cons_succ]
        refine wpAnyH_take (i := 2) (v := ?_) rfl (by kernel_rfl) (by kernel_rfl) (by kernel_rfl) (fun _ _ _ h => h) (Or.inl ⟨by rfl, ?_⟩) hHeld ?_
        rotate_left
        · intro w' hSw
          skip
          go_simp
          try with_reducible rfl
        simp only [Act.put, List.getElem_toArray, List.getElem_cons_succ, List.getElem_cons_zero, List.setIfInBounds_toArray, List.set_cons_zero, List.set_cons_succ]
        refine wpAnyH_take (i := 3) rfl (by kernel_rfl) (by kernel_rfl) (by kernel_rfl) (fun _ _ _ h => h) (yieldsIf_load_mid (by rfl) 33 (.tmp 18) rfl (b1) (o1 + k * 20) rfl (vipCs x) _ (fun w' hSw => HRx.out w' hSw) Try.underlying33 rfl Hsx.out) hHeld ?_
        simp only [Act.put, List.getElem_toArray, List.getElem_cons_succ, List.getElem_cons_zero, List.setIfInBounds_toArray, List.set_cons_zero, List.set_cons_succ]
        refine wpAnyH_take (i := 4) (v := ?_) rfl (by kernel_rfl) (by kernel_rfl) (by kernel_rfl) (fun _ _ _ h => h) (Or.inl ⟨by rfl, ?_⟩) hHeld ?_
        rotate_left
        · intro w' hSw
          skip
          go_simp
          try with_reducible rfl
        simp only [Act.put, List.getElem_toArray, List.getElem_cons_succ, List.getElem_cons_zero, List.setIfInBounds_toArray, List.set_cons_zero, List.set_cons_succ]
        refine wpAnyH_take (i := 5) (v := ?_) rfl (by kernel_rfl) (by kernel_rfl) (by kernel_rfl) (fun _ _ _ h => h) (Or.inl ⟨by rfl, ?_⟩) hHeld ?_
        rotate_left
        · intro w' hSw
          skip
          go_simp
          try with_reducible rfl
        simp only [Act.put, List.getElem_toArray, List.getElem_cons_succ, List.getElem_cons_zero, List.setIfInBounds_toArray, List.set_cons_zero, List.set_cons_succ]
        refine wpAnyH_take (i := 6) (v := ?_) rfl (by kernel_rfl) (by kernel_rfl) (by kernel_rfl) (fun _ _ _ h => h) (Or.inl ⟨by rfl, ?_⟩) hHeld ?_
        rotate_left
        · intro w' hSw
          skip
          go_simp
          try with_reducible rfl
        simp only [Act.put, List.getElem_toArray, List.getElem_cons_succ, List.getElem_cons_zero, List.setIfInBounds_toArray, List.set_cons_zero, List.set_cons_succ]
        refine wpAnyH_take (i := 7) rfl (by kernel_rfl) (by kernel_rfl) (by kernel_rfl) (fun _ _ _ h => h) (yieldsIf_load_mid (by rfl) 33 (.tmp 22) rfl (b2) (o2 + k * 20) rfl (vipCs y) _ (fun w' hSw => HRy.out w' hSw) Try.underlying33 rfl Hsy.out) hHeld ?_
        simp only [Act.put, List.getElem_toArray, List.getElem_cons_succ, List.getElem_cons_zero, List.setIfInBounds_toArray, List.set_cons_zero, List.set_cons_succ]
        refine wpAnyH_take (i := 8) rfl (by kernel_rfl) (by kernel_rfl) (by kernel_rfl) (fun _ _ _ h => h) (yieldsIf_neqs (by rfl) 33 33 (.tmp 19) (.tmp 23) rfl ((vipCs x).toArray) ((vipCs y).toArray) rfl rfl vip_guard (x == y) (Heq.out)) hHeld ?_
        simp only [Act.put, List.getElem_toArray, List.getElem_cons_succ, List.getElem_cons_zero, List.setIfInBounds_toArray, List.set_cons_zero, List.set_cons_succ]
        refine wpAnyH_done (by kernel_rfl) ?_ _
        refine NoPanic.normal ?_
        rcases hxy : (x == y) with _ | _
        · have Hr : Hid ((vs == us) = false) := by
            show _ = _
            rcases h : (vs == us) with _ | _
            · rfl
            · rw [beq_iff_eq.1 h, Hy?.out] at Hx?
              have h1 := Hx?.out
              injection h1 with h1
              rw [h1, beq_self_eq_true] at hxy
              cases hxy
          have HBe : Hid (Below w.heap.size w _) := hbel.out.trans (hHeld.mono hbel.out.size)
          clear hxy hHeld HRx HRy Heq hat
          go_wp2
          go_ret
          exact ⟨by rw [Hr.out]; rfl, HBe.out⟩
        · have Hat2 : Hid (∀ j, j < k + 1 → vs[j]? = us[j]?) := fun j hj => by
            rcases Nat.lt_or_ge j k with h1 | h1
            · exact hat.out j h1
            · obtain rfl : j = k := by omega
              rw [Hx?.out, Hy?.out, beq_iff_eq.1 hxy]
          have HBe : Hid (Below w.heap.size w _) := hbel.out.trans (hHeld.mono hbel.out.size)
          clear hxy hHeld HRx HRy Heq hat
          go_wp2
          go_roundw
          case rel => exact ⟨k + 1, by omega, by go_num, HBe, Hat2⟩
          case measure => simp [intOf]; omega
      · have hltI : ¬ (k : Int) < (us.length : Int) := by omega
        have Hr : Hid ((vs == us) = true) := by
          show _ = _
          rw [beq_iff_eq]
          apply List.ext_getElem? 
          intro j
          rcases Nat.lt_or_ge j k with h1 | h1
          · exact hat.out j h1
          · rw [List.getElem?_eq_none (by omega), List.getElem?_eq_none (by omega)]
        go_wp2
        go_ret
        exact ⟨by rw [Hr.out]; rfl, hbel.out⟩
  · have hlenI : ¬ (vs.length : Int) = (us.length : Int) := by omega
    have Hr : Hid ((vs == us) = false) := by
      show _ = _
      rcases h : (vs == us) with _ | _
      · rfl
      · exact absurd (congrArg List.length (beq_iff_eq.1 h)) hlen
    go_enter Try.func42, Try.ntmps42
    go_wp2
    go_ret
    exact ⟨by rw [Hr.out]; rfl, Below.refl _ _⟩
end Go.Proofs.Ytmkeljcjhcaigaa
