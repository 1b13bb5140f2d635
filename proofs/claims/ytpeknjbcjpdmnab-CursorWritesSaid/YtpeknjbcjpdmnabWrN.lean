/- The writer: Num, Text. -/
import Derived.Test.YtpeknjbcjpdmnabPutX
import Derived.Test.YtpeknjbcjpdmnabConcat
namespace Go.Proofs.Ytpeknjbcjpdmnab
open Go.RowKit
set_option linter.unusedVariables false

/-- One behind the other: what came ahead wrote the writer's block, or its row, alone. -/
theorem WtrIs.from2 {w w1 w2 : World} {base g most : Nat} {A : Option Addr} {s : WSt} {x : Ending} (hb : Off2 w w1 g (Value.slice A 0 0).ownBlock) (h : WtrIs w1 base g A most s x w2) : WtrIs w base g A most s x w2 := by
  obtain ⟨h1, A', c', h2, h3, h4⟩ := h
  refine ⟨h1, A', c', h2, hb.trans h3, ?_⟩
  rcases h4 with h | ⟨k, h, hk⟩
  · exact .inl h
  · exact .inr ⟨k, h, Nat.le_trans hb.2.2.2.1 hk⟩

/-- A number written: one that is of no size is a fault. -/
def numW (most : Nat) (s : WSt) (m : Nat) (sz : Int) (big : Bool) : WSt := bytesS most (if s.2 = 0 ∧ (sz < 1 ∨ 8 < sz) then (s.1, 1) else s) (putS (clampN sz) m big)

section
variable (base g : Nat) (A : Option Addr) (c most : Nat) (s : WSt) (w : World)
set_option maxHeartbeats 1600000 in
set_option maxRecDepth 100000 in
theorem wrNum_any (m : Nat) (sz : Int) (big : Bool) (h : Wtr w base g A c most s) (hm : m < 18446744073709551616) (hmo : most < 9223372036854775808) (hl : s.1.length ≤ 1000000000000) :
    Calls Try.prog 29 #[.pointer (some ⟨g, 0, none⟩), .int .u64 (m : Int), .int .i64 sz, .bool big] w (WtrIs w base g A most (numW most s m sz big)) := by
  obtain ⟨l, fe⟩ := s
  have h2 : w.cell? ⟨g, 2, none⟩ = some (.int .i64 (fe : Int)) := h.1.cell 2
  have hf : ∀ i, w.frozen? ⟨g, i, none⟩ = false := fun i => h.1.frozen i
  have H := Lib.hid h
  have Hm := Lib.hid hm
  have Hmo := Lib.hid hmo
  have hpl : (putS (clampN sz) m big).length ≤ 8 := by rw [putS_length]; exact clampN_le sz
  have Hpl := Lib.hid hpl
  simp only at hl
  clear h hm hmo hpl
  by_cases hfe : fe = 0
  · subst hfe
    have hst : ∀ w1, w1 = w.setCell ⟨g, 2, none⟩ (.int .i64 1) → Wtr w1 base g A c most (l, 1) ∧ Off2 w w1 g (Value.slice A 0 0).ownBlock := fun w1 e => by
      subst e
      obtain ⟨hW, hown, hbg⟩ := H.out
      have hg5 := grownSet w ⟨g, 2, none⟩ (.int .i64 1)
      exact ⟨⟨Blk.set_ hW 2 (.int .i64 1), hown.kept hg5 (own_blk_ne hown hW (by decide)), hbg⟩, Off2.of_g hg5⟩
    have Hst := Lib.hid hst
    clear hst
    by_cases h1 : sz < 1
    · have hw : numW most (l, 0) m sz big = bytesS most (l, 1) (putS (clampN sz) m big) := by unfold numW; rw [if_pos ⟨rfl, .inl h1⟩]
      have Hw := Lib.hid hw
      clear hw
      go_enter Try.func29, Try.ntmps29
      go_wp2_with fail
      obtain ⟨w1, hw1⟩ : ∃ w1, w1 = w.setCell ⟨g, 2, none⟩ (.int .i64 1) := ⟨_, rfl⟩
      rw [← hw1]
      have H1 := Lib.hid (Hst.out w1 hw1)
      clear hw1 h2 hf
      refine (octPut_x big m sz w1 Hm.out).mono ?_
      rintro e w2 ⟨A2, c2, rfl, hown2, hb2⟩
      have Hb2 := Lib.hid hb2
      have HB := Lib.hid (BS.of_own hown2).1
      clear hown2 hb2
      go_wp2_with fail
      refine (wrBytes_any base g A c most (l, 1) A2 _ c2 (putS (clampN sz) m big) w2 (H1.out.1.below Hb2.out) rfl HB.out Hmo.out hl (by have := Hpl.out; omega)).mono ?_
      intro e w3 h3
      have H3 := Lib.hid (WtrIs.from2 H1.out.2 (WtrIs.from Hb2.out h3))
      obtain ⟨rfl, _⟩ := h3
      go_wp2
      go_end0
      rw [Hw.out]
      exact H3.out
    · by_cases h8 : 8 < sz
      · have hw : numW most (l, 0) m sz big = bytesS most (l, 1) (putS (clampN sz) m big) := by unfold numW; rw [if_pos ⟨rfl, .inr h8⟩]
        have Hw := Lib.hid hw
        clear hw
        go_enter Try.func29, Try.ntmps29
        go_wp2_with fail
        obtain ⟨w1, hw1⟩ : ∃ w1, w1 = w.setCell ⟨g, 2, none⟩ (.int .i64 1) := ⟨_, rfl⟩
        rw [← hw1]
        have H1 := Lib.hid (Hst.out w1 hw1)
        clear hw1 h2 hf
        refine (octPut_x big m sz w1 Hm.out).mono ?_
        rintro e w2 ⟨A2, c2, rfl, hown2, hb2⟩
        have Hb2 := Lib.hid hb2
        have HB := Lib.hid (BS.of_own hown2).1
        clear hown2 hb2
        go_wp2_with fail
        refine (wrBytes_any base g A c most (l, 1) A2 _ c2 (putS (clampN sz) m big) w2 (H1.out.1.below Hb2.out) rfl HB.out Hmo.out hl (by have := Hpl.out; omega)).mono ?_
        intro e w3 h3
        have H3 := Lib.hid (WtrIs.from2 H1.out.2 (WtrIs.from Hb2.out h3))
        obtain ⟨rfl, _⟩ := h3
        go_wp2
        go_end0
        rw [Hw.out]
        exact H3.out
      · have hw : numW most (l, 0) m sz big = bytesS most (l, 0) (putS (clampN sz) m big) := by unfold numW; rw [if_neg (by simp only; omega)]
        have Hw := Lib.hid hw
        clear hw
        go_enter Try.func29, Try.ntmps29
        go_wp2_with fail
        refine (octPut_x big m sz w Hm.out).mono ?_
        rintro e w2 ⟨A2, c2, rfl, hown2, hb2⟩
        have Hb2 := Lib.hid hb2
        have HB := Lib.hid (BS.of_own hown2).1
        clear hown2 hb2
        go_wp2_with fail
        refine (wrBytes_any base g A c most (l, 0) A2 _ c2 (putS (clampN sz) m big) w2 (H.out.below Hb2.out) rfl HB.out Hmo.out hl (by have := Hpl.out; omega)).mono ?_
        intro e w3 h3
        have H3 := Lib.hid (WtrIs.from Hb2.out h3)
        obtain ⟨rfl, _⟩ := h3
        go_wp2
        go_end0
        rw [Hw.out]
        exact H3.out
  · have hfI : ((fe : Int) == 0) = false := by simp; omega
    have hw : numW most (l, fe) m sz big = bytesS most (l, fe) (putS (clampN sz) m big) := by unfold numW; rw [if_neg (by simp only; omega)]
    have Hw := Lib.hid hw
    clear hw
    go_enter Try.func29, Try.ntmps29
    go_wp2_with fail
    refine (octPut_x big m sz w Hm.out).mono ?_
    rintro e w2 ⟨A2, c2, rfl, hown2, hb2⟩
    have Hb2 := Lib.hid hb2
    have HB := Lib.hid (BS.of_own hown2).1
    clear hown2 hb2
    go_wp2_with fail
    refine (wrBytes_any base g A c most (l, fe) A2 _ c2 (putS (clampN sz) m big) w2 (H.out.below Hb2.out) rfl HB.out Hmo.out hl (by have := Hpl.out; omega)).mono ?_
    intro e w3 h3
    have H3 := Lib.hid (WtrIs.from Hb2.out h3)
    obtain ⟨rfl, _⟩ := h3
    go_wp2
    go_end0
    rw [Hw.out]
    exact H3.out
end
end Go.Proofs.Ytpeknjbcjpdmnab
