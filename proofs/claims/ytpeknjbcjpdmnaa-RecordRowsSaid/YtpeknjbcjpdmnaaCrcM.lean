/- The walks of package crc: More, Of; and of the document's Of. -/
import Derived.Test.YtpeknjbcjpdmnaaCrcT
namespace Go.Proofs.Ytpeknjbcjpdmnaa
open Go.RowKit
set_option linter.unusedVariables false

set_option maxHeartbeats 400000 in
set_option maxRecDepth 100000 in
theorem more_any (s : Int) (A : Option Addr) (n c : Nat) (l : List UInt8) (w : World) (B x : Nat) (hs : s = (x : Int)) (hx : x < 4294967296) (hn : n = l.length) (hb : BS w B A l) (hB : B ≤ w.heap.size) (hl : n ≤ maxLen) :
    Calls Try.prog 35 #[.int .u32 s, .slice A n c] w fun e w' => e = .returned (.int .u32 ((moreS x l : Nat) : Int)) ∧ Below w.heap.size w w' := by
  subst hn hs
  unfold maxLen at hl
  have h0 := xor_u32 x allOnes hx allOnes_lt
  rw [show ((allOnes : Nat) : Int) = 4294967295 from rfl] at h0
  have H0 := Lib.hid h0
  have hz : tabA 0 = #[.int .u32 0, .int .u32 0, .int .u32 0, .int .u32 0, .int .u32 0, .int .u32 0, .int .u32 0, .int .u32 0, .int .u32 0, .int .u32 0, .int .u32 0, .int .u32 0, .int .u32 0, .int .u32 0, .int .u32 0, .int .u32 0] := rfl
  have Hz := Lib.hid hz
  clear h0 hz
  have HB := Lib.hid hb
  clear hb
  go_enter Try.func35, Try.ntmps35
  go_wp2_with fail
  refine (table_any _).mono ?_
  rintro e w1 ⟨rfl, hb1⟩
  have hs1 := hb1.size
  have hnew : Hid (Blk (w1.alloc (.cells #[.int .u32 0, .int .u32 0, .int .u32 0, .int .u32 0, .int .u32 0, .int .u32 0, .int .u32 0, .int .u32 0, .int .u32 0, .int .u32 0, .int .u32 0, .int .u32 0, .int .u32 0, .int .u32 0, .int .u32 0, .int .u32 0] 65)) w1.heap.size 65 (tabA 0)) := by
    show Blk _ _ _ _
    rw [Hz.out]
    exact Blk.new _ _ _ _ rfl
  go_wp2_with (refine wpList_store_row rfl 65 _ _ rfl _ (tabA 16) rfl rfl _ _ hnew.out (by rw [tabA_size]; exact info_tab) (by rw [tabA_size, tabA_size]) (tabA_one 16) ?_)
  have hblk := Lib.hid (hnew.out.row (tabA 16))
  have hbel := below_setRow ((hb1.alloc hs1 (.cells #[.int .u32 0, .int .u32 0, .int .u32 0, .int .u32 0, .int .u32 0, .int .u32 0, .int .u32 0, .int .u32 0, .int .u32 0, .int .u32 0, .int .u32 0, .int .u32 0, .int .u32 0, .int .u32 0, .int .u32 0, .int .u32 0] 65))) hs1 (tabA 16)
  clear hnew
  generalize hW : (w1.alloc (.cells #[.int .u32 0, .int .u32 0, .int .u32 0, .int .u32 0, .int .u32 0, .int .u32 0, .int .u32 0, .int .u32 0, .int .u32 0, .int .u32 0, .int .u32 0, .int .u32 0, .int .u32 0, .int .u32 0, .int .u32 0, .int .u32 0] 65)).setRow w1.heap.size (tabA 16) = W at *
  clear hW
  have hB' := Lib.hid ((HB.out.more hB).below hbel)
  generalize w1.heap.size = g at *
  go_loop [6, 14] (fun v i => ∃ k y : Nat, k ≤ l.length ∧ i = .int .i64 (k : Int) ∧ v = .int .u32 (y : Int) ∧ y < 4294967296 ∧ Hid (crcGo (x ^^^ allOnes) l = crcGo y (l.drop k))) (fun _ i => l.length - (intOf i).toNat)
  case atStart => exact ⟨0, x ^^^ allOnes, by omega, rfl, by rw [H0.out], xor_lt32 hx allOnes_lt, rfl⟩
  case round =>
    obtain ⟨k, y, hk, rfl, rfl, hy, hv⟩ := hrel
    by_cases hlt : k < l.length
    · obtain ⟨ad, rfl, _, hc⟩ := hB'.out.at_ hlt
      have hch : (l[k]).toNat < 256 := (l[k]).toNat_lt
      have hstep : Hid (crcGo y (l.drop k) = crcGo (shN 8 (y ^^^ (l[k]).toNat)) (l.drop (k + 1))) := by
        show _ = _
        rw [List.drop_eq_getElem_cons hlt]
        rfl
      generalize (l[k]).toNat = d at hc hch hstep
      have hz0 := xor_lt32 hy (show d < 4294967296 by omega)
      have hx0 := xor_u32 y d hy (by omega)
      rw [nibble2] at hstep
      generalize y ^^^ d = z at *
      have ha0 := and15_u32 z hz0
      have hm0 : z % 16 < 16 := by omega
      have ht0 := shN_lt 4 (show z % 16 < 4294967296 by omega)
      have hc0 := (hblk.out.cell (z % 16)).trans (tabA_get hm0)
      rw [if_pos hm0] at hc0
      have hx1 := xor_u32 (shN 4 (z % 16)) (z / 16) ht0 (by omega)
      have hz1 := xor_lt32 ht0 (show z / 16 < 4294967296 by omega)
      rw [show ((z / 16 : Nat) : Int) = (z : Int) / 16 by omega] at hx1
      generalize shN 4 (z % 16) ^^^ z / 16 = z1 at *
      generalize shN 4 (z % 16) = t0 at *
      generalize z % 16 = m0 at *
      rw [nibble] at hstep
      have ha1 := and15_u32 z1 hz1
      have hm1 : z1 % 16 < 16 := by omega
      have ht1 := shN_lt 4 (show z1 % 16 < 4294967296 by omega)
      have hc1 := (hblk.out.cell (z1 % 16)).trans (tabA_get hm1)
      rw [if_pos hm1] at hc1
      have hx2 := xor_u32 (shN 4 (z1 % 16)) (z1 / 16) ht1 (by omega)
      have hz2 := xor_lt32 ht1 (show z1 / 16 < 4294967296 by omega)
      rw [show ((z1 / 16 : Nat) : Int) = (z1 : Int) / 16 by omega] at hx2
      generalize shN 4 (z1 % 16) ^^^ z1 / 16 = z2 at *
      generalize shN 4 (z1 % 16) = t1 at *
      generalize z1 % 16 = m1 at *
      go_wp2
      go_round
      case rel => exact ⟨k + 1, z2, by omega, by go_num, rfl, hz2, hv.out.trans hstep.out⟩
      case measure => simp [intOf]; omega
    · have H1 := xor_u32 y allOnes hy allOnes_lt
      rw [show ((allOnes : Nat) : Int) = 4294967295 from rfl] at H1
      have H1' := Lib.hid H1
      clear H1
      go_wp2
      go_ret
      exact ⟨ret_u32 (by rw [H1'.out]; unfold moreS; rw [hv.out, List.drop_eq_nil_of_le (by omega)]; rfl), hbel⟩

theorem of_any (A : Option Addr) (n c : Nat) (l : List UInt8) (w : World) (B : Nat) (hn : n = l.length) (hb : BS w B A l) (hB : B ≤ w.heap.size) (hl : n ≤ maxLen) :
    Calls Try.prog 25 #[.slice A n c] w fun e w' => e = .returned (.int .u32 ((ofS l : Nat) : Int)) ∧ Below w.heap.size w w' := by
  subst hn
  have Hb := Lib.hid hb
  have Hl := Lib.hid hl
  clear hb hl
  go_enter Try.func25, Try.ntmps25
  go_wp2_with fail
  refine (more_any 0 A _ c l w B 0 rfl (by omega) rfl Hb.out hB Hl.out).mono ?_
  rintro e w1 ⟨rfl, hb1⟩
  go_wp2
  go_ret
  exact ⟨rfl, hb1⟩
theorem refOf_any (A : Option Addr) (n c : Nat) (l : List UInt8) (w : World) (B : Nat) (hn : n = l.length) (hb : BS w B A l) (hl : n ≤ maxLen) :
    Calls Try.prog 28 #[.slice A n c] w fun e w' => e = .returned (.int .u32 ((ofS l : Nat) : Int)) ∧ w = w' := by
  subst hn
  have Hb := Lib.hid hb
  have Hl := Lib.hid hl
  clear hb hl
  go_enter Try.func28, Try.ntmps28
  go_wp2_with fail
  refine (refMore_any 0 A _ c l w B 0 rfl (by omega) rfl Hb.out Hl.out).mono ?_
  rintro e w1 ⟨rfl, rfl⟩
  go_wp2
  go_ret
  exact ⟨rfl, rfl⟩
end Go.Proofs.Ytpeknjbcjpdmnaa
