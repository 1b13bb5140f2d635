/- The writer: Text. -/
import Derived.Test.YtpeknjbcjpdmnabWrN
namespace Go.Proofs.Ytpeknjbcjpdmnab
open Go.RowKit
set_option linter.unusedVariables false
section
variable (base g : Nat) (A : Option Addr) (c most : Nat) (s : WSt) (w : World)
set_option maxHeartbeats 1600000 in
set_option maxRecDepth 100000 in
theorem wrText_any (X : Option Addr) (d : Nat) (b : List UInt8) (h : Wtr w base g A c most s) (hb : BS w w.heap.size X b) (hmo : most < 9223372036854775808) (hl : s.1.length ≤ 1000000000000) (hbl : b.length ≤ 1000000000) :
    Calls Try.prog 33 #[.pointer (some ⟨g, 0, none⟩), .slice X b.length d] w (WtrIs w base g A most (bytesS most s (vput b.length ++ b))) := by
  have H := Lib.hid h
  have Hmo := Lib.hid hmo
  have HX := Lib.hid hb
  have hv0 : 0 < (vput b.length).length := vput_pos b.length
  have hv := vput_le (n := b.length) (by omega)
  have hcv : IntKind.u64.wrap (b.length : Int) = (b.length : Int) := by simp [IntKind.wrap, IntKind.bits, IntKind.signed]; omega
  clear h hmo hb
  go_enter Try.func33, Try.ntmps33
  go_wp2_with fail
  refine (put_own b.length _ (by omega)).mono ?_
  rintro e w1 ⟨A1, c1, rfl, hown1, hb1⟩
  have Hb1 := Lib.hid hb1
  have Hown1 := Lib.hid hown1
  clear hown1 hb1
  go_wp2_with fail
  obtain ⟨W, hW⟩ : ∃ W, W = w1.alloc (.cells #[.slice A1 (vput b.length).length c1, .slice X b.length d] 22) := ⟨_, rfl⟩
  rw [← hW]
  have hbW : Below w1.heap.size w1 W := by rw [hW]; exact (Below.refl _ w1).alloc (Nat.le_refl _) _
  have hc0 : W.cell? ⟨w1.heap.size, 0, none⟩ = some (.slice A1 (vput b.length).length c1) := by rw [hW]; exact cell_of_row _ _ 0 _ _ _ (heap_alloc_new w1 _)
  have hc1 : W.cell? ⟨w1.heap.size, 1, none⟩ = some (.slice X b.length d) := by rw [hW]; exact cell_of_row _ _ 1 _ _ _ (heap_alloc_new w1 _)
  have HbW : Hid (Below w.heap.size w W) := Hb1.out.trans (hbW.mono Hb1.out.size)
  have hB1 : BS W W.heap.size A1 (vput b.length) := (BS.of_own (own_below Hown1.out hbW)).1
  have hB2 : BS W W.heap.size X b := (HX.out.below HbW.out).more HbW.out.size
  clear hW hbW
  refine (concat_two w1.heap.size A1 c1 (vput b.length) X d b W hc0 hc1 hB1 hB2 hv0 (by omega) (by omega)).mono ?_
  rintro e w2 ⟨A2, c2, rfl, hown2, hb2⟩
  have Hb2 : Hid (Below w.heap.size w w2) := HbW.out.trans (hb2.mono HbW.out.size)
  have HB := Lib.hid (BS.of_own hown2).1
  clear hown2 hb2 hc0 hc1 hB1 hB2
  go_wp2_with fail
  refine (wrBytes_any base g A c most s A2 _ c2 (vput b.length ++ b) w2 (H.out.below Hb2.out) (by simp) HB.out Hmo.out hl (by rw [List.length_append]; omega)).mono ?_
  intro e w3 h3
  have H3 := Lib.hid (WtrIs.from Hb2.out h3)
  obtain ⟨rfl, _⟩ := h3
  go_wp2
  go_end0
  exact H3.out
end
end Go.Proofs.Ytpeknjbcjpdmnab
