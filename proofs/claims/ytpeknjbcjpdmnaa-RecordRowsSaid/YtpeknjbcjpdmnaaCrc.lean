/- The walks of package crc: shift, table, More, Of; and of the document's bits, More, Of. -/
import Derived.Test.YtpeknjbcjpdmnaaCrcS
import Derived.Test.YtpeknjbcjpdmnaaProg
import Derived.WalkKit
import Derived.Outline
import Derived.Laws.Tables
import Derived.Deep.WholeRow
namespace Go.Proofs.Ytpeknjbcjpdmnaa
open Go.RowKit
set_option linter.unusedVariables false

theorem ret_u32 {a b : Int} (h : a = b) : Ending.returned (.int .u32 a) = .returned (.int .u32 b) := by rw [h]

set_option maxRecDepth 100000 in
theorem shift_any (n : Int) (w : World) (x : Nat) (hn : n = (x : Int)) (hx : x < 4294967296) :
    Calls Try.prog 42 #[.int .u32 n] w fun e w' => e = .returned (.int .u32 ((sh x : Nat) : Int)) ∧ w = w' := by
  subst hn
  have ha := and1_u32 x hx
  have hxo := xor_u32 (x / 2) poly (by omega) (by unfold poly; omega)
  rw [show ((x / 2 : Nat) : Int) = (x : Int) / 2 by omega, show ((poly : Nat) : Int) = 2197175160 from rfl] at hxo
  have Hx := Lib.hid hxo
  clear hxo
  rcases Nat.mod_two_eq_zero_or_one x with h | h
  · rw [h] at ha
    have H := Lib.hid h
    clear h
    go_enter Try.func42, Try.ntmps42
    go_wp2
    go_ret
    exact ⟨ret_u32 (by unfold sh; rw [if_neg (by have := H.out; omega)]; omega), rfl⟩
  · rw [h] at ha
    have H := Lib.hid h
    clear h
    go_enter Try.func42, Try.ntmps42
    go_wp2
    go_ret
    exact ⟨ret_u32 (by unfold sh; rw [if_pos H.out]; exact Hx.out), rfl⟩

set_option maxHeartbeats 400000 in
set_option maxRecDepth 100000 in
theorem refBits_any (n : Int) (w : World) (x : Nat) (hn : n = (x : Int)) (hx : x < 4294967296) :
    Calls Try.prog 40 #[.int .u32 n] w fun e w' => e = .returned (.int .u32 ((shN 8 x : Nat) : Int)) ∧ w = w' := by
  subst hn
  go_enter Try.func40, Try.ntmps40
  go_wp2
  go_loop [0, 3] (fun v i => ∃ k y : Nat, k ≤ 8 ∧ i = .int .i64 (k : Int) ∧ v = .int .u32 (y : Int) ∧ y < 4294967296 ∧ Hid (shN 8 x = shN (8 - k) y)) (fun _ i => 8 - (intOf i).toNat)
  case atStart => exact ⟨0, x, by omega, rfl, rfl, hx, rfl⟩
  case round =>
    obtain ⟨k, y, hk, rfl, rfl, hy, hv⟩ := hrel
    by_cases hlt : k < 8
    · have hv' : Hid (shN 8 x = shN (8 - (k + 1)) (sh y)) := by
        show _ = _
        rw [hv.out, show 8 - k = 8 - (k + 1) + 1 by omega, shN]
      have hxo := xor_u32 (y / 2) poly (by omega) (by unfold poly; omega)
      rw [show ((y / 2 : Nat) : Int) = (y : Int) / 2 by omega, show ((poly : Nat) : Int) = 2197175160 from rfl] at hxo
      have Hx := Lib.hid hxo
      clear hxo
      have Hsl := Lib.hid (sh_lt hy)
      by_cases h : y % 2 = 1
      · have hb : ((y : Int) % 2 == 1) = true := by simp; omega
        have H := Lib.hid h
        clear h
        go_wp2
        go_round
        case rel => exact ⟨k + 1, sh y, by omega, by go_num, by rw [Hx.out]; unfold sh; rw [if_pos H.out], Hsl.out, hv'⟩
        case measure => simp [intOf]; omega
      · have hb : ((y : Int) % 2 == 1) = false := by simp; omega
        have H := Lib.hid h
        clear h
        go_wp2
        go_round
        case rel => exact ⟨k + 1, sh y, by omega, by go_num, by unfold sh; rw [if_neg H.out]; go_num, Hsl.out, hv'⟩
        case measure => simp [intOf]; omega
    · obtain rfl : k = 8 := by omega
      go_wp2
      go_ret
      exact ⟨ret_u32 (by rw [hv.out]; rfl), rfl⟩

set_option maxHeartbeats 400000 in
set_option maxRecDepth 100000 in
theorem refMore_any (s : Int) (A : Option Addr) (n c : Nat) (l : List UInt8) (w : World) (B x : Nat) (hs : s = (x : Int)) (hx : x < 4294967296) (hn : n = l.length) (hb : BS w B A l) (hl : n ≤ maxLen) :
    Calls Try.prog 36 #[.int .u32 s, .slice A n c] w fun e w' => e = .returned (.int .u32 ((moreS x l : Nat) : Int)) ∧ w = w' := by
  subst hn hs
  unfold maxLen at hl
  have hB := Lib.hid hb
  clear hb
  have h0 := xor_u32 x allOnes hx allOnes_lt
  rw [show ((allOnes : Nat) : Int) = 4294967295 from rfl] at h0
  have H0 := Lib.hid h0
  clear h0
  go_enter Try.func36, Try.ntmps36
  go_wp2
  go_loop [5, 6] (fun v i => ∃ k y : Nat, k ≤ l.length ∧ i = .int .i64 (k : Int) ∧ v = .int .u32 (y : Int) ∧ y < 4294967296 ∧ Hid (crcGo (x ^^^ allOnes) l = crcGo y (l.drop k))) (fun _ i => l.length - (intOf i).toNat)
  case atStart => exact ⟨0, x ^^^ allOnes, by omega, rfl, by rw [H0.out], xor_lt32 hx allOnes_lt, rfl⟩
  case round =>
    obtain ⟨k, y, hk, rfl, rfl, hy, hv⟩ := hrel
    by_cases hlt : k < l.length
    · obtain ⟨ad, rfl, _, hc⟩ := hB.out.at_ hlt
      have hch : (l[k]).toNat < 256 := (l[k]).toNat_lt
      have hstep : Hid (crcGo y (l.drop k) = crcGo (shN 8 (y ^^^ (l[k]).toNat)) (l.drop (k + 1))) := by
        show _ = _
        rw [List.drop_eq_getElem_cons hlt]
        rfl
      generalize (l[k]).toNat = d at hc hch hstep
      have Hxo := Lib.hid (xor_u32 y d hy (by omega))
      have Hlt := Lib.hid (shN_lt 8 (xor_lt32 hy (show d < 4294967296 by omega)))
      go_wp2_with (go_at_call 40; refine (refBits_any _ _ (y ^^^ d) Hxo.out (xor_lt32 hy (by omega))).mono ?_; rintro e w' ⟨rfl, rfl⟩)
      go_round
      case rel => exact ⟨k + 1, _, by omega, by go_num, rfl, Hlt.out, hv.out.trans hstep.out⟩
      case measure => simp [intOf]; omega
    · have H1 := xor_u32 y allOnes hy allOnes_lt
      rw [show ((allOnes : Nat) : Int) = 4294967295 from rfl] at H1
      have H1' := Lib.hid H1
      clear H1
      go_wp2
      go_ret
      exact ⟨ret_u32 (by rw [H1'.out]; unfold moreS; rw [hv.out, List.drop_eq_nil_of_le (by omega)]; rfl), rfl⟩
end Go.Proofs.Ytpeknjbcjpdmnaa
