/- The walk of chapter 5's statement Long. -/
import Derived.Test.YtpeknjbcjpdmnaaRow
namespace Go.Proofs.Ytpeknjbcjpdmnaa
open Go.RowKit
set_option linter.unusedVariables false

theorem vput20 : (vput 1048576).length = 3 := by
  rw [vput_hi (by omega), List.length_cons, vput_hi (by omega), List.length_cons, vput_lo (by omega)]
  rfl
/-- The long body: so many noughts, one byte of it another one. -/
def longB (n : Nat) (c : UInt8) : List UInt8 := (List.replicate n 0).set 1000 c
theorem longB_length (n : Nat) (c : UInt8) : (longB n c).length = n := by simp [longB]
theorem longB_cells (n : Nat) (c : UInt8) : bcells (longB n c) = (List.replicate n (Value.int .u8 0)).set 1000 (.int .u8 (c.toNat : Int)) := by
  rw [longB, bcells, List.map_set, List.map_replicate]
  rfl
theorem not_rowOk {c : List UInt8} {n : Nat} {l : List UInt8} (h : l.length = n) (hn : 1048576 < n) : ¬ rowOk [c, l] := fun h1 => by
  have := h1 l (by simp)
  omega
theorem room2 {c l : List UInt8} {n : Nat} (hc : c.length = 1) (h : l.length = n) (hn : n ≤ 2000000) : room [c, l] ≤ 1000000000 := by
  simp [room]
  omega

set_option maxHeartbeats 1600000 in
set_option maxRecDepth 100000 in
theorem walk_recordLong' (N : Nat) (hN : (1048577 : Int) = (N : Int)) (a0 : Int) (w : World) (w0 : (Lit.int .u8 a0).wf = true) :
    Calls Try.prog 5 #[.int .u8 a0] w fun e w' => e = .returned (.bool true) ∧ Below w.heap.size w w' := by
  obtain ⟨m, rfl, hm⟩ : ∃ m : Nat, a0 = (m : Int) ∧ m < 256 := by
    have := u8_of_wf w0
    exact ⟨a0.toNat, by omega, by omega⟩
  obtain ⟨i0, hi0, hz0, hz1, hz2⟩ := info_parts u8_infoO
  have HN := Lib.hid hN
  have hN1 : 1048576 < N := by omega
  have hN2 : N ≤ 1048577 := by omega
  clear hN w0
  have hcm : Hid ((m : Int) = (((UInt8.ofNat m).toNat : Nat) : Int)) := by
    show _ = _
    rw [toNat_u8 hm]
  go_enter Try.func5, Try.ntmps5
  go_wp2_with fail
  refine (awake5_any _).mono ?_
  rintro e w1 ⟨rfl, hb1⟩
  have e0 : Hid ((madeCells (Value.int .u8 0).cells (N * 1)).toList = List.replicate N (.int .u8 0)) := by
    show _ = _
    rw [Nat.mul_one]
    exact toList_madeCells_one _ _
  go_wp2_with (at_make; refine wpList_make_full _ rfl _ _ 22 rfl w1.heap.size 5 i0 (.int .u8 0) 1 Try.underlying22 hi0 hz0 hz1 .i64 .i64 _ _ N rfl rfl HN.out HN.out (by rw [hz2]; omega) (by unfold maxLen; omega) (Nat.le_refl _) ?_; intro w2 hown2 hgrow2; rw [e0.out] at hown2; have hc : w2.cell? ⟨w1.heap.size, 1000, none⟩ = some (.int .u8 0) := by { rw [hown2.cellAt 1000 (by omega), List.getElem?_replicate, if_pos (by omega)] }; have hf := hown2.frozenAt 1000; have Hown2 := Lib.hid hown2; have hb2 : Below w1.heap.size w1 w2 := (Below.refl _ _).grown hgrow2 (Nat.le_refl _) (by simp); clear hown2 hgrow2)
  have hown3 := (Hown2.out.stored 1000 (.int .u8 (m : Int))).1
  have hb3 : Below w1.heap.size w1 (w2.setCell ⟨w1.heap.size, 1000, none⟩ (.int .u8 (m : Int))) := hb2.setCell (Nat.le_refl _) _
  have Hown3 : Hid ((w2.setCell ⟨w1.heap.size, 1000, none⟩ (.int .u8 (m : Int))).ownsRow w1.heap.size 5 1 (.slice (some ⟨w1.heap.size, 0, none⟩) N N) N (bcells (longB N (UInt8.ofNat m)))) := by
    show World.ownsRow _ _ _ _ _ _ _
    rw [longB_cells, ← hcm.out]
    exact hown3
  clear hown3 Hown2 hc hf hb2 e0
  generalize w2.setCell ⟨w1.heap.size, 1000, none⟩ (.int .u8 (m : Int)) = w3 at *
  obtain ⟨body, hbody⟩ : ∃ b, longB N (UInt8.ofNat m) = b := ⟨_, rfl⟩
  have hbl : Hid (N = body.length) := by show _ = _; rw [← hbody, longB_length]
  rw [hbody] at Hown3
  clear hbody
  have hBS : Hid (BS w3 w3.heap.size (some ⟨w1.heap.size, 0, none⟩) body) := (BS.of_own Hown3.out).1
  have hB3 := bthen hb1 hb3
  have hlt : Hid (1048576 = (body.take 1048576).length) := by show _ = _; have := hbl.out; rw [List.length_take]; omega
  have hrb : Hid ((recB (body.take 1048576)).length = 1048583) := by
    show _ = _
    rw [recB_length, ← hlt.out, vput20]
  obtain ⟨rb, hrbe⟩ : ∃ rb, recB (body.take 1048576) = rb := ⟨_, rfl⟩
  rw [hrbe] at hrb
  have Hrbe := Lib.hid hrbe
  clear hrbe
  refine (put_eq _ _ _ (body.take 1048576) _ hlt.out (hBS.out.take _) (Nat.le_refl _) Hrbe.out).mono ?_
  rintro e w4 ⟨A4, c4, rfl, _, hb4⟩
  rw [hrb.out]
  have hB4 := bthen hB3 hb4
  have hb34 := bthen hb3 hb4
  clear hlt hrb Hrbe
  go_wp2_with fail
  refine (recPut_long _ _ _ _ hN1).mono ?_
  rintro e w5 ⟨rfl, rfl⟩
  go_wp2_with fail
  have hBS4 := hBS.out.below hb4
  have hm4 := hb4.size
  have hls : Hid (LS ((w4.alloc (.cells #[.int .u8 (m : Int)] 5)).alloc (.cells #[.slice (some ⟨w4.heap.size, 0, none⟩) 1 1, .slice (some ⟨w1.heap.size, 0, none⟩) N N] 22)) ((w4.alloc (.cells #[.int .u8 (m : Int)] 5)).alloc (.cells #[.slice (some ⟨w4.heap.size, 0, none⟩) 1 1, .slice (some ⟨w1.heap.size, 0, none⟩) N N] 22)).heap.size (some ⟨w4.heap.size + 1, 0, none⟩) [[UInt8.ofNat m], body]) := by
    show LS _ _ _ _
    have hb := Blk.new (w4.alloc (.cells #[.int .u8 (m : Int)] 5)) 22 #[.slice (some ⟨w4.heap.size, 0, none⟩) 1 1, .slice (some ⟨w1.heap.size, 0, none⟩) N N] (w4.heap.size + 1) (by simp)
    intro _
    refine ⟨_, rfl, by simp, fun j l hj => ?_⟩
    match j, hj with
    | 0, hj =>
      simp at hj
      subst hj
      refine ⟨some ⟨w4.heap.size, 0, none⟩, 1, hb.cell 0, Nat.le_refl _, ?_⟩
      exact ((BS.one' w4 (UInt8.ofNat m) (m : Int) hcm.out 5).alloc (by simp) _).more (by simp)
    | 1, hj =>
      simp at hj
      subst hj
      refine ⟨some ⟨w1.heap.size, 0, none⟩, N, ?_, by have := hbl.out; omega, ?_⟩
      · rw [← hbl.out]
        exact hb.cell 1
      · exact ((hBS4.alloc hm4 _).alloc (by simp; omega) _).more (by simp; omega)
    | j + 2, hj => simp at hj
  have hnok : Hid (¬ rowOk [[UInt8.ofNat m], body]) := not_rowOk hbl.out.symm hN1
  have hroom : Hid (room [[UInt8.ofNat m], body] ≤ 1000000000) := room2 rfl hbl.out.symm (by omega)
  refine (row_any _ 2 2 [[UInt8.ofNat m], body] _ rfl hls.out (by omega) hroom.out).mono ?_
  rintro e w6 (⟨hok, _⟩ | ⟨_, rfl, hb6⟩)
  · exact absurd hok hnok.out
  have hB6 := Lib.hid (bthen (balloc (balloc hB4 _) _) hb6)
  clear hls hb6
  go_wp2
  go_ret
  exact ⟨rfl, hB6.out⟩

theorem walk_recordLong (a0 : Int) (w : World) (w0 : (Lit.int .u8 a0).wf = true) :
    Calls Try.prog 5 #[.int .u8 a0] w fun e w' => e = .returned (.bool true) ∧ Below w.heap.size w w' :=
  walk_recordLong' 1048577 rfl a0 w w0
end Go.Proofs.Ytpeknjbcjpdmnaa
