/- Laid into one text: Crc CrcT CrcM CrcE. -/
import Derived.Test.YtgohhojoahlfiaaKA
import Derived.Test.YtgohhojoahlfiaaProg
import Derived.WalkKit
import Derived.Outline
import Derived.Laws.Tables
import Derived.Deep.WholeRow

/- The walks of package crc: shift, table, More, Of; and of the document's bits, More, Of. -/
namespace Go.Proofs.Ytgohhojoahlfiaa
open Go.RowKit
set_option linter.unusedVariables false

theorem ret_u32 {a b : Int} (h : a = b) : Ending.returned (.int .u32 a) = .returned (.int .u32 b) := by rw [h]

set_option maxRecDepth 100000 in
theorem shift_any (n : Int) (w : World) (x : Nat) (hn : n = (x : Int)) (hx : x < 4294967296) :
    Calls Try.prog 103 #[.int .u32 n] w fun e w' => e = .returned (.int .u32 ((sh x : Nat) : Int)) ∧ w = w' := by
  subst hn
  have ha := and1_u32 x hx
  have hxo := xor_u32 (x / 2) poly (by omega) (by unfold poly; omega)
  rw [show ((x / 2 : Nat) : Int) = (x : Int) / 2 by omega, show ((poly : Nat) : Int) = 2197175160 from rfl] at hxo
  have Hx := Lib.hid hxo
  clear hxo
  rcases Nat.mod_two_eq_zero_or_one x with h | h
  · rw [h] at ha
    have H := Lib.hid h
    clear h
    go_enter Try.func103, Try.ntmps103
    go_wp2
    go_ret
    exact ⟨ret_u32 (by unfold sh; rw [if_neg (by have := H.out; omega)]; omega), rfl⟩
  · rw [h] at ha
    have H := Lib.hid h
    clear h
    go_enter Try.func103, Try.ntmps103
    go_wp2
    go_ret
    exact ⟨ret_u32 (by unfold sh; rw [if_pos H.out]; exact Hx.out), rfl⟩

set_option maxHeartbeats 400000 in
set_option maxRecDepth 100000 in
theorem refBits_any (n : Int) (w : World) (x : Nat) (hn : n = (x : Int)) (hx : x < 4294967296) :
    Calls Try.prog 93 #[.int .u32 n] w fun e w' => e = .returned (.int .u32 ((shN 8 x : Nat) : Int)) ∧ w = w' := by
  subst hn
  go_enter Try.func93, Try.ntmps93
  go_wp2
  go_loop [0, 3] (fun v i => ∃ k y : Nat, k ≤ 8 ∧ i = .int .i64 (k : Int) ∧ v = .int .u32 (y : Int) ∧ y < 4294967296 ∧ Hid (shN 8 x = shN (8 - k) y)) (fun _ i => 8 - (intOf i).toNat)
  case atStart => exact ⟨0, x, by omega, rfl, rfl, hx, rfl⟩
  case round =>
    obtain ⟨k, y, hk, rfl, rfl, hy, hv⟩ := hrel
    by_cases hlt : k < 8
    · have hv' : Hid (shN 8 x = shN (8 - (k + 1)) (sh y)) := by
        show _ = _
        rw [hv.out, show 8 - k = 8 - (k + 1) + 1 by omega, shN]
      have hxo := xor_u32 (y / 2) poly (by omega) (by unfold poly; omega)
      rw [show ((y / 2 : Nat) : Int) = (y : Int) / 2 by omega, show ((poly : Nat) : Int) = 2197175160 from rfl] at hxo
      have Hx := Lib.hid hxo
      clear hxo
      have Hsl := Lib.hid (sh_lt hy)
      by_cases h : y % 2 = 1
      · have hb : ((y : Int) % 2 == 1) = true := by simp; omega
        have H := Lib.hid h
        clear h
        go_wp2
        go_round
        case rel => exact ⟨k + 1, sh y, by omega, by go_num, by rw [Hx.out]; unfold sh; rw [if_pos H.out], Hsl.out, hv'⟩
        case measure => simp [intOf]; omega
      · have hb : ((y : Int) % 2 == 1) = false := by simp; omega
        have H := Lib.hid h
        clear h
        go_wp2
        go_round
        case rel => exact ⟨k + 1, sh y, by omega, by go_num, by unfold sh; rw [if_neg H.out]; go_num, Hsl.out, hv'⟩
        case measure => simp [intOf]; omega
    · obtain rfl : k = 8 := by omega
      go_wp2
      go_ret
      exact ⟨ret_u32 (by rw [hv.out]; rfl), rfl⟩

set_option maxHeartbeats 400000 in
set_option maxRecDepth 100000 in
theorem refMore_any (s : Int) (A : Option Addr) (n c : Nat) (l : List UInt8) (w : World) (B x : Nat) (hs : s = (x : Int)) (hx : x < 4294967296) (hn : n = l.length) (hb : BS w B A l) (hl : n ≤ maxLen) :
    Calls Try.prog 76 #[.int .u32 s, .slice A n c] w fun e w' => e = .returned (.int .u32 ((moreS x l : Nat) : Int)) ∧ w = w' := by
  subst hn hs
  unfold maxLen at hl
  have hB := Lib.hid hb
  clear hb
  have h0 := xor_u32 x allOnes hx allOnes_lt
  rw [show ((allOnes : Nat) : Int) = 4294967295 from rfl] at h0
  have H0 := Lib.hid h0
  clear h0
  go_enter Try.func76, Try.ntmps76
  go_wp2
  go_loop [5, 6] (fun v i => ∃ k y : Nat, k ≤ l.length ∧ i = .int .i64 (k : Int) ∧ v = .int .u32 (y : Int) ∧ y < 4294967296 ∧ Hid (crcGo (x ^^^ allOnes) l = crcGo y (l.drop k))) (fun _ i => l.length - (intOf i).toNat)
  case atStart => exact ⟨0, x ^^^ allOnes, by omega, rfl, by rw [H0.out], xor_lt32 hx allOnes_lt, rfl⟩
  case round =>
    obtain ⟨k, y, hk, rfl, rfl, hy, hv⟩ := hrel
    by_cases hlt : k < l.length
    · obtain ⟨ad, rfl, _, hc⟩ := hB.out.at_ hlt
      have hch : (l[k]).toNat < 256 := (l[k]).toNat_lt
      have hstep : Hid (crcGo y (l.drop k) = crcGo (shN 8 (y ^^^ (l[k]).toNat)) (l.drop (k + 1))) := by
        show _ = _
        rw [List.drop_eq_getElem_cons hlt]
        rfl
      generalize (l[k]).toNat = d at hc hch hstep
      have Hxo := Lib.hid (xor_u32 y d hy (by omega))
      have Hlt := Lib.hid (shN_lt 8 (xor_lt32 hy (show d < 4294967296 by omega)))
      go_wp2_with (go_at_call 93; refine (refBits_any _ _ (y ^^^ d) Hxo.out (xor_lt32 hy (by omega))).mono ?_; rintro e w' ⟨rfl, rfl⟩)
      go_round
      case rel => exact ⟨k + 1, _, by omega, by go_num, rfl, Hlt.out, hv.out.trans hstep.out⟩
      case measure => simp [intOf]; omega
    · have H1 := xor_u32 y allOnes hy allOnes_lt
      rw [show ((allOnes : Nat) : Int) = 4294967295 from rfl] at H1
      have H1' := Lib.hid H1
      clear H1
      go_wp2
      go_ret
      exact ⟨ret_u32 (by rw [H1'.out]; unfold moreS; rw [hv.out, List.drop_eq_nil_of_le (by omega)]; rfl), rfl⟩
end Go.Proofs.Ytgohhojoahlfiaa

/- The walks of package crc: table, More, Of. -/
namespace Go.Proofs.Ytgohhojoahlfiaa
open Go.RowKit
set_option linter.unusedVariables false

/-- The table, its first k words made. -/
def tabA (k : Nat) : Array Value := ((List.range 16).map fun j => Value.int .u32 (if j < k then ((shN 4 j : Nat) : Int) else 0)).toArray
theorem tabA_size (k : Nat) : (tabA k).size = 16 := by simp [tabA]
theorem tabA_get {k j : Nat} (hj : j < 16) : (tabA k)[j]? = some (.int .u32 (if j < k then ((shN 4 j : Nat) : Int) else 0)) := by
  simp [tabA, hj]
theorem tabA_set {k : Nat} (hk : k < 16) : (tabA k).setIfInBounds k (.int .u32 ((shN 4 k : Nat) : Int)) = tabA (k + 1) := by
  apply Array.ext_getElem?
  intro j
  rw [Array.getElem?_setIfInBounds, tabA_size]
  by_cases h : k = j
  · subst h
    rw [if_pos rfl, if_pos hk, tabA_get hk, if_pos (by omega)]
  · rw [if_neg h]
    by_cases hj : j < 16
    · rw [tabA_get hj, tabA_get hj]
      congr 3
      exact propext (by omega)
    · rw [Array.getElem?_eq_none (by rw [tabA_size]; omega), Array.getElem?_eq_none (by rw [tabA_size]; omega)]
theorem tabA_zero : tabA 0 = Array.replicate 16 (.int .u32 0) := rfl
theorem tabA_one (k : Nat) : (tabA k).all (·.oneCell') = true := by
  rw [Array.all_eq_true]
  intro i hi
  simp [tabA, Value.oneCell']
theorem info_tab : (Try.prog.info? 127).map (·.size) = some 16 := by kernel_rfl

set_option maxHeartbeats 400000 in
set_option maxRecDepth 100000 in
theorem table_any (w : World) :
    Calls Try.prog 92 #[] w fun e w' => e = .returned (.agg (tabA 16)) ∧ Below w.heap.size w w' := by
  go_enter Try.func92, Try.ntmps92
  go_wp2
  have hz : tabA 0 = #[.int .u32 0, .int .u32 0, .int .u32 0, .int .u32 0, .int .u32 0, .int .u32 0, .int .u32 0, .int .u32 0, .int .u32 0, .int .u32 0, .int .u32 0, .int .u32 0, .int .u32 0, .int .u32 0, .int .u32 0, .int .u32 0] := rfl
  have Hz := Lib.hid hz
  clear hz
  go_loopw [4] (fun i wr => ∃ k : Nat, k ≤ 16 ∧ i = .int .i64 (k : Int) ∧ Below w.heap.size w wr ∧ Hid (Blk wr (w.heap.size + 1) 127 (tabA k)) ∧ Hid (Blk wr w.heap.size 127 (tabA 0))) (fun i _ => 16 - (intOf i).toNat)
  case atStart =>
    refine ⟨0, by omega, rfl, ((Below.refl _ _).alloc (Nat.le_refl _) _).alloc (by simp) _, ?_, ?_⟩
    · show Blk _ _ _ _
      rw [Hz.out]
      exact Blk.new _ _ _ _ (by simp)
    · show Blk _ _ _ _
      rw [Hz.out]
      exact (Blk.new _ _ _ _ rfl).alloc _
  case round =>
    obtain ⟨k, hk, rfl, hbel, hblk, hblk0⟩ := hrel
    by_cases hlt : k < 16
    · have hltI : decide ((k : Int) < 16) = true := decide_eq_true (by omega)
      go_wp2
      go_loop [3, 9] (fun v j => ∃ q y : Nat, q ≤ 4 ∧ j = .int .i64 (q : Int) ∧ v = .int .u32 (y : Int) ∧ y < 4294967296 ∧ Hid (shN 4 k = shN (4 - q) y)) (fun _ j => 4 - (intOf j).toNat)
      case atStart => exact ⟨0, k, by omega, rfl, rfl, by omega, rfl⟩
      case round =>
        obtain ⟨q, y, hq, rfl, rfl, hy, hv⟩ := hrel
        by_cases hq4 : q < 4
        · have Hsl := Lib.hid (sh_lt hy)
          have hv' : Hid (shN 4 k = shN (4 - (q + 1)) (sh y)) := by
            show _ = _
            rw [hv.out, show 4 - q = 4 - (q + 1) + 1 by omega, shN]
          go_wp2_with (go_at_call 103; refine (shift_any _ _ y rfl hy).mono ?_; rintro e w' ⟨rfl, rfl⟩)
          go_round
          case rel => exact ⟨q + 1, sh y, by omega, by go_num, rfl, Hsl.out, hv'⟩
          case measure => simp [intOf]; omega
        · obtain rfl : q = 4 := by omega
          have hyk : y = shN 4 k := by rw [hv.out]; rfl
          have hc := (hblk.out.cell k).trans (tabA_get hlt)
          have hf := hblk.out.frozen k
          have Hy := Lib.hid hyk
          clear hyk
          go_wp2
          go_roundw
          case rel =>
            refine ⟨k + 1, by omega, by go_num, hbel.setCell (by simp) _, ?_, ?_⟩
            · show Blk _ _ _ _
              rw [Hy.out, ← tabA_set hlt]
              exact hblk.out.set_ k _
            · exact hblk0.out.far (by simp) _
          case measure => simp [intOf]; omega
    · obtain rfl : k = 16 := by omega
      go_wp2_with (first
        | (refine wpList_load_row rfl 127 _ rfl _ rfl _ _ _ _ hblk.out Try.underlying127 rfl (by rw [tabA_size]; exact info_tab) ?_)
        | (refine wpList_store_row rfl 127 _ _ rfl _ (tabA 16) rfl rfl _ _ hblk0.out (by rw [tabA_size]; exact info_tab) (by rw [tabA_size, tabA_size]) (tabA_one 16) ?_))
      exact bodyPost_ret (results_cell_row (P := Try.prog) rfl _ _ _ _ _ _ _ rfl (hblk0.out.row (tabA 16)) Try.underlying127 rfl (by rw [tabA_size]; exact info_tab)) rfl ⟨rfl, below_setRow hbel (Nat.le_refl _) _⟩
end Go.Proofs.Ytgohhojoahlfiaa

/- The walks of package crc: More, Of; and of the document's Of. -/
namespace Go.Proofs.Ytgohhojoahlfiaa
open Go.RowKit
set_option linter.unusedVariables false

set_option maxHeartbeats 400000 in
set_option maxRecDepth 100000 in
theorem more_any (s : Int) (A : Option Addr) (n c : Nat) (l : List UInt8) (w : World) (B x : Nat) (hs : s = (x : Int)) (hx : x < 4294967296) (hn : n = l.length) (hb : BS w B A l) (hB : B ≤ w.heap.size) (hl : n ≤ maxLen) :
    Calls Try.prog 75 #[.int .u32 s, .slice A n c] w fun e w' => e = .returned (.int .u32 ((moreS x l : Nat) : Int)) ∧ Below w.heap.size w w' := by
  subst hn hs
  unfold maxLen at hl
  have h0 := xor_u32 x allOnes hx allOnes_lt
  rw [show ((allOnes : Nat) : Int) = 4294967295 from rfl] at h0
  have H0 := Lib.hid h0
  have hz : tabA 0 = #[.int .u32 0, .int .u32 0, .int .u32 0, .int .u32 0, .int .u32 0, .int .u32 0, .int .u32 0, .int .u32 0, .int .u32 0, .int .u32 0, .int .u32 0, .int .u32 0, .int .u32 0, .int .u32 0, .int .u32 0, .int .u32 0] := rfl
  have Hz := Lib.hid hz
  clear h0 hz
  have HB := Lib.hid hb
  clear hb
  go_enter Try.func75, Try.ntmps75
  go_wp2_with fail
  refine (table_any _).mono ?_
  rintro e w1 ⟨rfl, hb1⟩
  have hs1 := hb1.size
  have hnew : Hid (Blk (w1.alloc (.cells #[.int .u32 0, .int .u32 0, .int .u32 0, .int .u32 0, .int .u32 0, .int .u32 0, .int .u32 0, .int .u32 0, .int .u32 0, .int .u32 0, .int .u32 0, .int .u32 0, .int .u32 0, .int .u32 0, .int .u32 0, .int .u32 0] 127)) w1.heap.size 127 (tabA 0)) := by
    show Blk _ _ _ _
    rw [Hz.out]
    exact Blk.new _ _ _ _ rfl
  go_wp2_with (refine wpList_store_row rfl 127 _ _ rfl _ (tabA 16) rfl rfl _ _ hnew.out (by rw [tabA_size]; exact info_tab) (by rw [tabA_size, tabA_size]) (tabA_one 16) ?_)
  have hblk := Lib.hid (hnew.out.row (tabA 16))
  have hbel := below_setRow ((hb1.alloc hs1 (.cells #[.int .u32 0, .int .u32 0, .int .u32 0, .int .u32 0, .int .u32 0, .int .u32 0, .int .u32 0, .int .u32 0, .int .u32 0, .int .u32 0, .int .u32 0, .int .u32 0, .int .u32 0, .int .u32 0, .int .u32 0, .int .u32 0] 127))) hs1 (tabA 16)
  clear hnew
  generalize hW : (w1.alloc (.cells #[.int .u32 0, .int .u32 0, .int .u32 0, .int .u32 0, .int .u32 0, .int .u32 0, .int .u32 0, .int .u32 0, .int .u32 0, .int .u32 0, .int .u32 0, .int .u32 0, .int .u32 0, .int .u32 0, .int .u32 0, .int .u32 0] 127)).setRow w1.heap.size (tabA 16) = W at *
  clear hW
  have hB' := Lib.hid ((HB.out.more hB).below hbel)
  generalize w1.heap.size = g at *
  go_loop [6, 14] (fun v i => ∃ k y : Nat, k ≤ l.length ∧ i = .int .i64 (k : Int) ∧ v = .int .u32 (y : Int) ∧ y < 4294967296 ∧ Hid (crcGo (x ^^^ allOnes) l = crcGo y (l.drop k))) (fun _ i => l.length - (intOf i).toNat)
  case atStart => exact ⟨0, x ^^^ allOnes, by omega, rfl, by rw [H0.out], xor_lt32 hx allOnes_lt, rfl⟩
  case round =>
    obtain ⟨k, y, hk, rfl, rfl, hy, hv⟩ := hrel
    by_cases hlt : k < l.length
    · obtain ⟨ad, rfl, _, hc⟩ := hB'.out.at_ hlt
      have hch : (l[k]).toNat < 256 := (l[k]).toNat_lt
      have hstep : Hid (crcGo y (l.drop k) = crcGo (shN 8 (y ^^^ (l[k]).toNat)) (l.drop (k + 1))) := by
        show _ = _
        rw [List.drop_eq_getElem_cons hlt]
        rfl
      generalize (l[k]).toNat = d at hc hch hstep
      have hz0 := xor_lt32 hy (show d < 4294967296 by omega)
      have hx0 := xor_u32 y d hy (by omega)
      rw [nibble2] at hstep
      generalize y ^^^ d = z at *
      have ha0 := and15_u32 z hz0
      have hm0 : z % 16 < 16 := by omega
      have ht0 := shN_lt 4 (show z % 16 < 4294967296 by omega)
      have hc0 := (hblk.out.cell (z % 16)).trans (tabA_get hm0)
      rw [if_pos hm0] at hc0
      have hx1 := xor_u32 (shN 4 (z % 16)) (z / 16) ht0 (by omega)
      have hz1 := xor_lt32 ht0 (show z / 16 < 4294967296 by omega)
      rw [show ((z / 16 : Nat) : Int) = (z : Int) / 16 by omega] at hx1
      generalize shN 4 (z % 16) ^^^ z / 16 = z1 at *
      generalize shN 4 (z % 16) = t0 at *
      generalize z % 16 = m0 at *
      rw [nibble] at hstep
      have ha1 := and15_u32 z1 hz1
      have hm1 : z1 % 16 < 16 := by omega
      have ht1 := shN_lt 4 (show z1 % 16 < 4294967296 by omega)
      have hc1 := (hblk.out.cell (z1 % 16)).trans (tabA_get hm1)
      rw [if_pos hm1] at hc1
      have hx2 := xor_u32 (shN 4 (z1 % 16)) (z1 / 16) ht1 (by omega)
      have hz2 := xor_lt32 ht1 (show z1 / 16 < 4294967296 by omega)
      rw [show ((z1 / 16 : Nat) : Int) = (z1 : Int) / 16 by omega] at hx2
      generalize shN 4 (z1 % 16) ^^^ z1 / 16 = z2 at *
      generalize shN 4 (z1 % 16) = t1 at *
      generalize z1 % 16 = m1 at *
      go_wp2
      go_round
      case rel => exact ⟨k + 1, z2, by omega, by go_num, rfl, hz2, hv.out.trans hstep.out⟩
      case measure => simp [intOf]; omega
    · have H1 := xor_u32 y allOnes hy allOnes_lt
      rw [show ((allOnes : Nat) : Int) = 4294967295 from rfl] at H1
      have H1' := Lib.hid H1
      clear H1
      go_wp2
      go_ret
      exact ⟨ret_u32 (by rw [H1'.out]; unfold moreS; rw [hv.out, List.drop_eq_nil_of_le (by omega)]; rfl), hbel⟩

theorem of_any (A : Option Addr) (n c : Nat) (l : List UInt8) (w : World) (B : Nat) (hn : n = l.length) (hb : BS w B A l) (hB : B ≤ w.heap.size) (hl : n ≤ maxLen) :
    Calls Try.prog 41 #[.slice A n c] w fun e w' => e = .returned (.int .u32 ((ofS l : Nat) : Int)) ∧ Below w.heap.size w w' := by
  subst hn
  have Hb := Lib.hid hb
  have Hl := Lib.hid hl
  clear hb hl
  go_enter Try.func41, Try.ntmps41
  go_wp2_with fail
  refine (more_any 0 A _ c l w B 0 rfl (by omega) rfl Hb.out hB Hl.out).mono ?_
  rintro e w1 ⟨rfl, hb1⟩
  go_wp2
  go_ret
  exact ⟨rfl, hb1⟩
theorem refOf_any (A : Option Addr) (n c : Nat) (l : List UInt8) (w : World) (B : Nat) (hn : n = l.length) (hb : BS w B A l) (hl : n ≤ maxLen) :
    Calls Try.prog 42 #[.slice A n c] w fun e w' => e = .returned (.int .u32 ((ofS l : Nat) : Int)) ∧ w = w' := by
  subst hn
  have Hb := Lib.hid hb
  have Hl := Lib.hid hl
  clear hb hl
  go_enter Try.func42, Try.ntmps42
  go_wp2_with fail
  refine (refMore_any 0 A _ c l w B 0 rfl (by omega) rfl Hb.out Hl.out).mono ?_
  rintro e w1 ⟨rfl, rfl⟩
  go_wp2
  go_ret
  exact ⟨rfl, rfl⟩
end Go.Proofs.Ytgohhojoahlfiaa

/- The contracts of crc.Of and the document's, with their values named. -/
namespace Go.Proofs.Ytgohhojoahlfiaa
open Go.RowKit
set_option linter.unusedVariables false

theorem u8_info3 : (Try.prog.info? 5).map (fun i => (i.zero, i.size, i.bytes)) = some (some (.int .u8 0), 1, 1) := by kernel_rfl
theorem le_maxLen {n : Nat} (h : n ≤ 1000) : n ≤ maxLen := by unfold maxLen; omega
theorem of_eq {x : Nat} (A : Option Addr) (n c : Nat) (l : List UInt8) (w : World) (B : Nat) (hn : n = l.length) (hb : BS w B A l) (hB : B ≤ w.heap.size) (hl : n ≤ maxLen) (h : ofS l = x) :
    Calls Try.prog 41 #[.slice A n c] w fun e w' => e = .returned (.int .u32 (x : Int)) ∧ Below w.heap.size w w' := by
  subst h
  exact of_any A n c l w B hn hb hB hl
theorem refOf_eq {x : Nat} (A : Option Addr) (n c : Nat) (l : List UInt8) (w : World) (B : Nat) (hn : n = l.length) (hb : BS w B A l) (hl : n ≤ maxLen) (h : ofS l = x) :
    Calls Try.prog 42 #[.slice A n c] w fun e w' => e = .returned (.int .u32 (x : Int)) ∧ w = w' := by
  subst h
  exact refOf_any A n c l w B hn hb hl
end Go.Proofs.Ytgohhojoahlfiaa
