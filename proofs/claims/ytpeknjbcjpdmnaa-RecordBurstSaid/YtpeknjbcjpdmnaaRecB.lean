/- The walk of chapter 5's statement Burst. -/
import Derived.Test.YtpeknjbcjpdmnaaRecL
import Derived.Test.YtpeknjbcjpdmnaaRecW
import Derived.Test.YtpeknjbcjpdmnaaTurn
namespace Go.Proofs.Ytpeknjbcjpdmnaa
open Go.RowKit
set_option linter.unusedVariables false

set_option maxHeartbeats 1600000 in
set_option maxRecDepth 100000 in
theorem walk_recordBurst (a0 : Option Addr) (len0 cap0 : Nat) (z0 : List Int) (a1 a2 : Int) (w : World) (w0 : IsRow .u8 w a0 len0 cap0 z0) (w1 : (Lit.int .u16 a1).wf = true) (w2 : (Lit.int .u32 a2).wf = true) :
    Calls Try.prog 4 #[.slice a0 len0 cap0, .int .u16 a1, .int .u32 a2] w fun e w' => e = .returned (.bool true) ∧ Below w.heap.size w w' := by
  obtain ⟨l, rfl, _, _, hB⟩ := BS.of_row w0
  obtain ⟨q, rfl, hq⟩ := u16_of_wf w1
  obtain ⟨t, rfl, ht⟩ := u32_of_wf w2
  obtain ⟨i0, hi0, hz0, hz1, hz2⟩ := info_parts u8_infoO
  clear w0 w1 w2
  have HB := Lib.hid hB
  clear hB
  by_cases hlen : 500 < l.length ∨ l.length < 4 ∨ t = 0
  · have h1 : l.length < 4 ∨ (¬ l.length < 4 ∧ 500 < l.length) ∨ (¬ 500 < l.length ∧ ¬ l.length < 4 ∧ ((t : Int) == 0) = true) := by
      simp only [beq_iff_eq]
      omega
    clear hlen
    rcases h1 with h1 | ⟨h1, h2⟩ | ⟨h1, h2, h3⟩
    all_goals
      go_enter Try.func4, Try.ntmps4
      go_wp2_with fail
      refine (awake5_any _).mono ?_
      rintro e w1 ⟨rfl, hb1⟩
      go_wp2_with fail
      refine (awake5_any _).mono ?_
      rintro e w2 ⟨rfl, hb2⟩
      go_wp2
      go_ret
      exact ⟨rfl, bthen hb1 hb2⟩
  · have hl0 : l.length ≤ 500 := by omega
    have hl1 : 4 ≤ l.length := by omega
    have ht0 : ((t : Int) == 0) = false := by simp; omega
    have Ht0 : Hid (t ≠ 0) := fun h => hlen (.inr (.inr h))
    clear hlen
    obtain ⟨k, hk⟩ : ∃ k, q % (8 * l.length - 31) = k := ⟨_, rfl⟩
    have hk1 : k + 32 ≤ 8 * l.length := by
      have : q % (8 * l.length - 31) < 8 * l.length - 31 := Nat.mod_lt _ (by omega)
      omega
    have hki : (q : Int) % (8 * (l.length : Int) - 31) = (k : Int) := by
      rw [← hk, show (8 * (l.length : Int) - 31) = ((8 * l.length - 31 : Nat) : Int) by omega, ← Int.natCast_emod]
    clear hk
    obtain ⟨rb, hrb⟩ : ∃ rb, recB l = rb := ⟨_, rfl⟩
    have hrl : (vput l.length).length + l.length + 4 = rb.length := by rw [← hrb, recB_length]
    obtain ⟨hd, hhd⟩ : ∃ hd, (vput l.length).length = hd := ⟨_, rfl⟩
    rw [hhd] at hrl
    have hhd10 : hd ≤ 10 := by rw [← hhd]; exact vput_le (by omega)
    have hburst : Hid (∀ x : List UInt8, x.length = rb.length → val x = val rb ^^^ t * 2 ^ (8 * hd + k) → nextS x = ([], 0, 8)) := fun x hx hv => by
      rw [← hrb] at hx hv
      rw [← hhd] at hv
      exact next_burst (by omega) hx ht Ht0.out hk1 hv
    have hsz : Hid ((vput l.length).length + l.length + 4 = rb.length) := by
      show _ = _
      rw [hhd]
      exact hrl
    have Hrb := Lib.hid hrb
    have hr2 : rb.length ≤ 514 := by omega
    have hr3 : hd + l.length + 4 ≤ rb.length := by omega
    have hhd' : (rb.length : Int) - 4 - (l.length : Int) = (hd : Int) := by omega
    have Hrl := Lib.hid hrl
    have Hhd' := Lib.hid hhd'
    clear hrb hhd hrl hhd'
    go_enter Try.func4, Try.ntmps4
    go_wp2_with fail
    refine (awake5_any _).mono ?_
    rintro e w2 ⟨rfl, hb2⟩
    have hs2 := hb2.size
    go_wp2_with fail
    refine (put_eq _ _ _ l _ rfl ((HB.out.below hb2).more hb2.size) (by omega) Hrb.out).mono ?_
    rintro e w3 ⟨A3, c3, rfl, hown3, hb3⟩
    have hB3 := bthen hb2 hb3
    obtain ⟨g, cap, hv3, hg2, hg3'⟩ := hown3.form (by omega)
    have hA3 : A3 = some ⟨g, 0, none⟩ := by injection hv3
    subst hA3
    clear hv3
    have hcap : rb.length ≤ c3 := own_cap hown3
    have Hown3 := Lib.hid hown3
    clear hown3
    go_wp2_with fail
    refine (recSize_eq _ _ l.length rfl (by omega) hsz.out).mono ?_
    rintro e w4 ⟨rfl, rfl⟩
    go_wp2_with fail
    rw [hki, Hhd'.out]
    clear hki
    have hk0 : (0 : Int) ≤ (k : Int) := by omega
    go_loopw [11] (fun i wr => ∃ (j : Nat) (xs : List UInt8), j ≤ 32 ∧ i = .int .i64 (j : Int) ∧ Below w.heap.size w wr ∧ Hid (xs.length = rb.length) ∧ Hid (val xs = val rb ^^^ t % 2 ^ j * 2 ^ (8 * hd + k)) ∧ Hid (wr.ownsRow w2.heap.size 5 1 (.slice (some ⟨g, 0, none⟩) rb.length c3) rb.length (bcells xs))) (fun i _ => 32 - (intOf i).toNat)
    case atStart => exact ⟨0, rb, by omega, rfl, hB3, rfl, by simp [Hid, Nat.mod_one], Hown3⟩
    case round =>
      obtain ⟨j, xs, hj, rfl, hbel, hxl, hval, hown⟩ := hrel
      by_cases hlt : j < 32
      · have hltI : decide ((j : Int) < 32) = true := decide_eq_true (by omega)
        have hj0 : (0 : Int) ≤ (j : Int) := by omega
        have hand : bits .and .u32 ((t : Int) / 2 ^ j) 1 = ((t / 2 ^ j % 2 : Nat) : Int) := by
          have h := and1_u32 (t / 2 ^ j) (Nat.lt_of_le_of_lt (Nat.div_le_self _ _) ht)
          rw [← h]
          simp
        rcases Nat.mod_two_eq_zero_or_one (t / 2 ^ j) with hb | hb
        · have hval' : Hid (val xs = val rb ^^^ t % 2 ^ (j + 1) * 2 ^ (8 * hd + k)) := by
            show _ = _
            rw [hval.out, low_even hb]
          rw [hb] at hand
          clear hb
          go_wp2
          go_roundw
          case rel => exact ⟨j + 1, xs, by omega, by go_num, hbel, hxl, hval', hown⟩
          case measure => simp [intOf]; omega
        · have hq8 : hd + (k + j) / 8 < rb.length := by omega
          have hqx : hd + (k + j) / 8 < xs.length := by have := hxl.out; omega
          have hc := hown.out.cellAt (hd + (k + j) / 8) (by omega)
          have hc2 : (bcells xs)[hd + (k + j) / 8]? = some (.int .u8 ((xs[hd + (k + j) / 8]).toNat : Int)) := by
            rw [bcells, List.getElem?_map, List.getElem?_eq_getElem hqx]
            rfl
          rw [hc2] at hc
          have hf := hown.out.frozenAt (hd + (k + j) / 8)
          have hset := val_set xs (hd + (k + j) / 8) ((k + j) % 8) hqx (by omega)
          have hval' : Hid (val (xs.set (hd + (k + j) / 8) (UInt8.ofNat ((xs[hd + (k + j) / 8]).toNat ^^^ 2 ^ ((k + j) % 8)))) = val rb ^^^ t % 2 ^ (j + 1) * 2 ^ (8 * hd + k)) := by
            show _ = _
            rw [hset, hval.out, low_odd hb, show 8 * (hd + (k + j) / 8) + (k + j) % 8 = j + (8 * hd + k) by omega, Nat.xor_assoc]
            congr 1
            rw [Nat.mul_comm _ (2 ^ (8 * hd + k)), Nat.mul_comm _ (2 ^ (8 * hd + k)), mul_pow_xor, Nat.pow_add 2 j, Nat.mul_comm (2 ^ j)]
          rw [hb] at hand
          have hd8 := (xs[hd + (k + j) / 8]).toNat_lt
          have hp8 : 2 ^ ((k + j) % 8) < 256 := by
            have : 2 ^ ((k + j) % 8) < 2 ^ 8 := Nat.pow_lt_pow_right (by omega) (by omega)
            omega
          have hx := xor_u8' _ _ hd8 hp8
          have hw8 : (2 : Int) ^ ((k + j) % 8) % 256 = ((2 ^ ((k + j) % 8) : Nat) : Int) := by
            have e : ((2 : Int) ^ ((k + j) % 8)) = ((2 ^ ((k + j) % 8) : Nat) : Int) := by simp
            rw [e]
            exact Int.emod_eq_of_lt (Int.natCast_nonneg _) (Int.ofNat_lt.2 hp8)
          have hst := hown.out.stored (hd + (k + j) / 8) (.int .u8 (((xs[hd + (k + j) / 8]).toNat ^^^ 2 ^ ((k + j) % 8) : Nat) : Int))
          have Hx := Lib.hid hx
          have Hw8 := Lib.hid hw8
          have Hst := Lib.hid hst
          clear hx hw8 hst hset hb hc2
          go_wp2
          go_roundw
          case rel =>
            refine ⟨j + 1, xs.set (hd + (k + j) / 8) (UInt8.ofNat ((xs[hd + (k + j) / 8]).toNat ^^^ 2 ^ ((k + j) % 8))), by omega, by go_num, hbel.setCell (by simp; omega) _, ?_, hval', ?_⟩
            · show _ = _
              rw [List.length_set]
              exact hxl.out
            · show World.ownsRow _ _ _ _ _ _ _
              rw [Hw8.out, Hx.out, bcells_set, ← toNat_u8' (Nat.xor_lt_two_pow (n := 8) hd8 (by omega))]
              exact Hst.out.1
          case measure => simp [intOf]; omega
      · obtain rfl : j = 32 := by omega
        have hv : val xs = val rb ^^^ t * 2 ^ (8 * hd + k) := by rw [hval.out, Nat.mod_eq_of_lt ht]
        have hnx := hburst.out xs hxl.out hv
        have Hnx := Lib.hid hnx
        have Hxl := Lib.hid hxl.out
        have Hown := Lib.hid hown.out
        have hBx : Hid (BS wr wr.heap.size (some ⟨g, 0, none⟩) xs) := (BS.of_own Hown.out).1
        clear hxl hval hv hnx hown Hown3
        go_wp2_with fail
        refine (next_eq _ _ _ xs _ Hxl.out.symm hBx.out (le9 (by omega)) hcap Hnx.out).mono ?_
        rintro e w4 ⟨A4, c4, rfl, _, hb4⟩
        have hB4 := bthen hbel hb4
        go_wp2
        go_ret
        exact ⟨rfl, hB4⟩
end Go.Proofs.Ytpeknjbcjpdmnaa
