/- The walks of package crc: table, More, Of. -/
import Derived.Test.YtpeknjbcjpdmnaaCrc
namespace Go.Proofs.Ytpeknjbcjpdmnaa
open Go.RowKit
set_option linter.unusedVariables false

/-- The table, its first k words made. -/
def tabA (k : Nat) : Array Value := ((List.range 16).map fun j => Value.int .u32 (if j < k then ((shN 4 j : Nat) : Int) else 0)).toArray
theorem tabA_size (k : Nat) : (tabA k).size = 16 := by simp [tabA]
theorem tabA_get {k j : Nat} (hj : j < 16) : (tabA k)[j]? = some (.int .u32 (if j < k then ((shN 4 j : Nat) : Int) else 0)) := by
  simp [tabA, hj]
theorem tabA_set {k : Nat} (hk : k < 16) : (tabA k).setIfInBounds k (.int .u32 ((shN 4 k : Nat) : Int)) = tabA (k + 1) := by
  apply Array.ext_getElem?
  intro j
  rw [Array.getElem?_setIfInBounds, tabA_size]
  by_cases h : k = j
  · subst h
    rw [if_pos rfl, if_pos hk, tabA_get hk, if_pos (by omega)]
  · rw [if_neg h]
    by_cases hj : j < 16
    · rw [tabA_get hj, tabA_get hj]
      congr 3
      exact propext (by omega)
    · rw [Array.getElem?_eq_none (by rw [tabA_size]; omega), Array.getElem?_eq_none (by rw [tabA_size]; omega)]
theorem tabA_zero : tabA 0 = Array.replicate 16 (.int .u32 0) := rfl
theorem tabA_one (k : Nat) : (tabA k).all (·.oneCell') = true := by
  rw [Array.all_eq_true]
  intro i hi
  simp [tabA, Value.oneCell']
theorem info_tab : (Try.prog.info? 65).map (·.size) = some 16 := by kernel_rfl

set_option maxHeartbeats 400000 in
set_option maxRecDepth 100000 in
theorem table_any (w : World) :
    Calls Try.prog 39 #[] w fun e w' => e = .returned (.agg (tabA 16)) ∧ Below w.heap.size w w' := by
  go_enter Try.func39, Try.ntmps39
  go_wp2
  have hz : tabA 0 = #[.int .u32 0, .int .u32 0, .int .u32 0, .int .u32 0, .int .u32 0, .int .u32 0, .int .u32 0, .int .u32 0, .int .u32 0, .int .u32 0, .int .u32 0, .int .u32 0, .int .u32 0, .int .u32 0, .int .u32 0, .int .u32 0] := rfl
  have Hz := Lib.hid hz
  clear hz
  go_loopw [4] (fun i wr => ∃ k : Nat, k ≤ 16 ∧ i = .int .i64 (k : Int) ∧ Below w.heap.size w wr ∧ Hid (Blk wr (w.heap.size + 1) 65 (tabA k)) ∧ Hid (Blk wr w.heap.size 65 (tabA 0))) (fun i _ => 16 - (intOf i).toNat)
  case atStart =>
    refine ⟨0, by omega, rfl, ((Below.refl _ _).alloc (Nat.le_refl _) _).alloc (by simp) _, ?_, ?_⟩
    · show Blk _ _ _ _
      rw [Hz.out]
      exact Blk.new _ _ _ _ (by simp)
    · show Blk _ _ _ _
      rw [Hz.out]
      exact (Blk.new _ _ _ _ rfl).alloc _
  case round =>
    obtain ⟨k, hk, rfl, hbel, hblk, hblk0⟩ := hrel
    by_cases hlt : k < 16
    · have hltI : decide ((k : Int) < 16) = true := decide_eq_true (by omega)
      go_wp2
      go_loop [3, 9] (fun v j => ∃ q y : Nat, q ≤ 4 ∧ j = .int .i64 (q : Int) ∧ v = .int .u32 (y : Int) ∧ y < 4294967296 ∧ Hid (shN 4 k = shN (4 - q) y)) (fun _ j => 4 - (intOf j).toNat)
      case atStart => exact ⟨0, k, by omega, rfl, rfl, by omega, rfl⟩
      case round =>
        obtain ⟨q, y, hq, rfl, rfl, hy, hv⟩ := hrel
        by_cases hq4 : q < 4
        · have Hsl := Lib.hid (sh_lt hy)
          have hv' : Hid (shN 4 k = shN (4 - (q + 1)) (sh y)) := by
            show _ = _
            rw [hv.out, show 4 - q = 4 - (q + 1) + 1 by omega, shN]
          go_wp2_with (go_at_call 42; refine (shift_any _ _ y rfl hy).mono ?_; rintro e w' ⟨rfl, rfl⟩)
          go_round
          case rel => exact ⟨q + 1, sh y, by omega, by go_num, rfl, Hsl.out, hv'⟩
          case measure => simp [intOf]; omega
        · obtain rfl : q = 4 := by omega
          have hyk : y = shN 4 k := by rw [hv.out]; rfl
          have hc := (hblk.out.cell k).trans (tabA_get hlt)
          have hf := hblk.out.frozen k
          have Hy := Lib.hid hyk
          clear hyk
          go_wp2
          go_roundw
          case rel =>
            refine ⟨k + 1, by omega, by go_num, hbel.setCell (by simp) _, ?_, ?_⟩
            · show Blk _ _ _ _
              rw [Hy.out, ← tabA_set hlt]
              exact hblk.out.set_ k _
            · exact hblk0.out.far (by simp) _
          case measure => simp [intOf]; omega
    · obtain rfl : k = 16 := by omega
      go_wp2_with (first
        | (refine wpList_load_row rfl 65 _ rfl _ rfl _ _ _ _ hblk.out Try.underlying65 rfl (by rw [tabA_size]; exact info_tab) ?_)
        | (refine wpList_store_row rfl 65 _ _ rfl _ (tabA 16) rfl rfl _ _ hblk0.out (by rw [tabA_size]; exact info_tab) (by rw [tabA_size, tabA_size]) (tabA_one 16) ?_))
      exact bodyPost_ret (results_cell_row (P := Try.prog) rfl _ _ _ _ _ _ _ rfl (hblk0.out.row (tabA 16)) Try.underlying65 rfl (by rw [tabA_size]; exact info_tab)) rfl ⟨rfl, below_setRow hbel (Nat.le_refl _) _⟩
end Go.Proofs.Ytpeknjbcjpdmnaa
