/- The walks of wayleaveref04.Ask. -/
import Derived.Test.YtpeknjbcjpdmnabRefAsk
import Derived.Test.YtpeknjbcjpdmnabRdC
import Derived.IntWalk
namespace Go.Proofs.Ytpeknjbcjpdmnab
open Go.RowKit
set_option linter.unusedVariables false

set_option maxHeartbeats 2000000 in
set_option maxRecDepth 100000 in
theorem ask_fault (A : Option Addr) (c : Nat) (l : List UInt8) (at_ fa fe : Nat) (kd : Int) (nn : Int) (big : Bool) (w : World) (hb : BS w w.heap.size A l) (hc : l.length ≤ c) (hl : l.length ≤ 1000000000) (ha : at_ ≤ l.length) (hfe : fe ≠ 0) :
    Calls Try.prog 24 #[.agg #[.slice A l.length c, .int .i64 (at_ : Int), .int .i64 (fa : Int), .int .i64 (fe : Int)], .int .i64 kd, .int .i64 nn, .bool big] w (AskIs w A l.length c (askS l (at_, fa, fe) kd nn big)) := by
  have HB0 := Lib.hid hb
  clear hb
  have hfI : ((fe : Int) == 0) = false := by simp; omega
  have hfI2 : ((fe : Int) != 0) = true := by simp; omega
  have HS : Hid (askS l (at_, fa, fe) kd nn big = ((at_, fa, fe), 0, [])) := if_pos hfe
  clear hfe
  obtain ⟨W, hW⟩ : ∃ W, W = (w.alloc (.cells #[.slice A l.length c, .int .i64 (at_ : Int), .int .i64 (fa : Int), .int .i64 (fe : Int)] 47)).alloc (.cells #[.slice none 0 0, .int .i64 0, .int .i64 0, .int .i64 0] 47) := ⟨_, rfl⟩
  have hX : Blk W w.heap.size 47 #[.slice A l.length c, .int .i64 (at_ : Int), .int .i64 (fa : Int), .int .i64 (fe : Int)] := by rw [hW]; exact Blk.alloc (Blk.new w _ _ _ rfl) _
  have hR : Blk W (w.heap.size + 1) 47 #[.slice none 0 0, .int .i64 0, .int .i64 0, .int .i64 0] := by rw [hW]; exact Blk.new _ _ _ _ (by simp)
  have hB : Below w.heap.size w W := by rw [hW]; exact ((Below.refl _ w).alloc (Nat.le_refl _) _).alloc (by simp) _
  have x0 : W.cell? ⟨w.heap.size, 0, none⟩ = some (.slice A l.length c) := hX.cell 0
  have x1 : W.cell? ⟨w.heap.size, 1, none⟩ = some (.int .i64 (at_ : Int)) := hX.cell 1
  have x2 : W.cell? ⟨w.heap.size, 2, none⟩ = some (.int .i64 (fa : Int)) := hX.cell 2
  have x3 : W.cell? ⟨w.heap.size, 3, none⟩ = some (.int .i64 (fe : Int)) := hX.cell 3
  have xf : ∀ i, W.frozen? ⟨w.heap.size, i, none⟩ = false := fun i => hX.frozen i
  have r0 : W.cell? ⟨w.heap.size + 1, 0, none⟩ = some (.slice none 0 0) := hR.cell 0
  have r1 : W.cell? ⟨w.heap.size + 1, 1, none⟩ = some (.int .i64 0) := hR.cell 1
  have r2 : W.cell? ⟨w.heap.size + 1, 2, none⟩ = some (.int .i64 0) := hR.cell 2
  have r3 : W.cell? ⟨w.heap.size + 1, 3, none⟩ = some (.int .i64 0) := hR.cell 3
  have rf : ∀ i, W.frozen? ⟨w.heap.size + 1, i, none⟩ = false := fun i => hR.frozen i
  have HX := Lib.hid hX
  have HR := Lib.hid hR
  have HB := Lib.hid hB
  have HW := Lib.hid hW
  clear hX hR hB hW
  go_enter Try.func24, Try.ntmps24
  go_upto_region 1 with fail
  rw [← HW.out]
  go_wp2
  exact ask_end HS.out rfl rfl rfl rfl rfl rfl rfl HR.out HB.out (World.ownsRow_nil _ _ _ _)

set_option maxHeartbeats 2000000 in
set_option maxRecDepth 100000 in
theorem ask_num (A : Option Addr) (c : Nat) (l : List UInt8) (at_ fa fe : Nat) (nn : Int) (big : Bool) (w : World) (hb : BS w w.heap.size A l) (hc : l.length ≤ c) (hl : l.length ≤ 1000000000) (ha : at_ ≤ l.length) (hfe : fe = 0) :
    Calls Try.prog 24 #[.agg #[.slice A l.length c, .int .i64 (at_ : Int), .int .i64 (fa : Int), .int .i64 (fe : Int)], .int .i64 1, .int .i64 nn, .bool big] w (AskIs w A l.length c (askS l (at_, fa, fe) 1 nn big)) := by
  have HB0 := Lib.hid hb
  clear hb
  subst hfe
  have hS : askS l (at_, fa, 0) 1 nn big = ((numS l (at_, fa, 0) nn big).1, (numS l (at_, fa, 0) nn big).2, []) := by unfold askS; rw [if_neg (by simp), if_pos rfl]
  by_cases h1 : nn < 1
  · have HS : Hid (askS l (at_, fa, 0) 1 nn big = ((at_, at_, 1), 0, [])) := by show _ = _; rw [hS]; unfold numS; rw [if_pos (.inl h1)]; rfl
    clear hS
    obtain ⟨W, hW⟩ : ∃ W, W = (w.alloc (.cells #[.slice A l.length c, .int .i64 (at_ : Int), .int .i64 (fa : Int), .int .i64 0] 47)).alloc (.cells #[.slice none 0 0, .int .i64 0, .int .i64 0, .int .i64 0] 47) := ⟨_, rfl⟩
    have hX : Blk W w.heap.size 47 #[.slice A l.length c, .int .i64 (at_ : Int), .int .i64 (fa : Int), .int .i64 0] := by rw [hW]; exact Blk.alloc (Blk.new w _ _ _ rfl) _
    have hR : Blk W (w.heap.size + 1) 47 #[.slice none 0 0, .int .i64 0, .int .i64 0, .int .i64 0] := by rw [hW]; exact Blk.new _ _ _ _ (by simp)
    have hB : Below w.heap.size w W := by rw [hW]; exact ((Below.refl _ w).alloc (Nat.le_refl _) _).alloc (by simp) _
    have x0 : W.cell? ⟨w.heap.size, 0, none⟩ = some (.slice A l.length c) := hX.cell 0
    have x1 : W.cell? ⟨w.heap.size, 1, none⟩ = some (.int .i64 (at_ : Int)) := hX.cell 1
    have x2 : W.cell? ⟨w.heap.size, 2, none⟩ = some (.int .i64 (fa : Int)) := hX.cell 2
    have x3 : W.cell? ⟨w.heap.size, 3, none⟩ = some (.int .i64 0) := hX.cell 3
    have xf : ∀ i, W.frozen? ⟨w.heap.size, i, none⟩ = false := fun i => hX.frozen i
    have r0 : W.cell? ⟨w.heap.size + 1, 0, none⟩ = some (.slice none 0 0) := hR.cell 0
    have r1 : W.cell? ⟨w.heap.size + 1, 1, none⟩ = some (.int .i64 0) := hR.cell 1
    have r2 : W.cell? ⟨w.heap.size + 1, 2, none⟩ = some (.int .i64 0) := hR.cell 2
    have r3 : W.cell? ⟨w.heap.size + 1, 3, none⟩ = some (.int .i64 0) := hR.cell 3
    have rf : ∀ i, W.frozen? ⟨w.heap.size + 1, i, none⟩ = false := fun i => hR.frozen i
    have HX := Lib.hid hX
    have HR := Lib.hid hR
    have HB := Lib.hid hB
    have HW := Lib.hid hW
    clear hX hR hB hW
    go_enter Try.func24, Try.ntmps24
    go_upto_region 1 with fail
    rw [← HW.out]
    go_wp2_with fail
    refine (refFail_any A _ c at_ fa 0 1 _).mono ?_
    rintro x w1 ⟨rfl, hb1⟩
    have HR1 := Lib.hid (Blk.below HR.out hb1 HR.out.lt)
    have Hb1 := Lib.hid (HB.out.trans (hb1.mono HB.out.size))
    have s0 : w1.cell? ⟨w.heap.size + 1, 0, none⟩ = some (.slice none 0 0) := HR1.out.cell 0
    have s1 : w1.cell? ⟨w.heap.size + 1, 1, none⟩ = some (.int .i64 0) := HR1.out.cell 1
    have s2 : w1.cell? ⟨w.heap.size + 1, 2, none⟩ = some (.int .i64 0) := HR1.out.cell 2
    have s3 : w1.cell? ⟨w.heap.size + 1, 3, none⟩ = some (.int .i64 0) := HR1.out.cell 3
    have sf : ∀ i, w1.frozen? ⟨w.heap.size + 1, i, none⟩ = false := fun i => HR1.out.frozen i
    clear hb1 x0 x1 x2 x3 xf r0 r1 r2 r3 rf
    go_wp2
    exact ask_end HS.out rfl rfl rfl rfl rfl rfl rfl HR1.out Hb1.out (World.ownsRow_nil _ _ _ _)
  · by_cases h2 : 8 < nn
    · have HS : Hid (askS l (at_, fa, 0) 1 nn big = ((at_, at_, 1), 0, [])) := by show _ = _; rw [hS]; unfold numS; rw [if_pos (.inr h2)]; rfl
      clear hS
      obtain ⟨W, hW⟩ : ∃ W, W = (w.alloc (.cells #[.slice A l.length c, .int .i64 (at_ : Int), .int .i64 (fa : Int), .int .i64 0] 47)).alloc (.cells #[.slice none 0 0, .int .i64 0, .int .i64 0, .int .i64 0] 47) := ⟨_, rfl⟩
      have hX : Blk W w.heap.size 47 #[.slice A l.length c, .int .i64 (at_ : Int), .int .i64 (fa : Int), .int .i64 0] := by rw [hW]; exact Blk.alloc (Blk.new w _ _ _ rfl) _
      have hR : Blk W (w.heap.size + 1) 47 #[.slice none 0 0, .int .i64 0, .int .i64 0, .int .i64 0] := by rw [hW]; exact Blk.new _ _ _ _ (by simp)
      have hB : Below w.heap.size w W := by rw [hW]; exact ((Below.refl _ w).alloc (Nat.le_refl _) _).alloc (by simp) _
      have x0 : W.cell? ⟨w.heap.size, 0, none⟩ = some (.slice A l.length c) := hX.cell 0
      have x1 : W.cell? ⟨w.heap.size, 1, none⟩ = some (.int .i64 (at_ : Int)) := hX.cell 1
      have x2 : W.cell? ⟨w.heap.size, 2, none⟩ = some (.int .i64 (fa : Int)) := hX.cell 2
      have x3 : W.cell? ⟨w.heap.size, 3, none⟩ = some (.int .i64 0) := hX.cell 3
      have xf : ∀ i, W.frozen? ⟨w.heap.size, i, none⟩ = false := fun i => hX.frozen i
      have r0 : W.cell? ⟨w.heap.size + 1, 0, none⟩ = some (.slice none 0 0) := hR.cell 0
      have r1 : W.cell? ⟨w.heap.size + 1, 1, none⟩ = some (.int .i64 0) := hR.cell 1
      have r2 : W.cell? ⟨w.heap.size + 1, 2, none⟩ = some (.int .i64 0) := hR.cell 2
      have r3 : W.cell? ⟨w.heap.size + 1, 3, none⟩ = some (.int .i64 0) := hR.cell 3
      have rf : ∀ i, W.frozen? ⟨w.heap.size + 1, i, none⟩ = false := fun i => hR.frozen i
      have HX := Lib.hid hX
      have HR := Lib.hid hR
      have HB := Lib.hid hB
      have HW := Lib.hid hW
      clear hX hR hB hW
      go_enter Try.func24, Try.ntmps24
      go_upto_region 1 with fail
      rw [← HW.out]
      go_wp2_with fail
      refine (refFail_any A _ c at_ fa 0 1 _).mono ?_
      rintro x w1 ⟨rfl, hb1⟩
      have HR1 := Lib.hid (Blk.below HR.out hb1 HR.out.lt)
      have Hb1 := Lib.hid (HB.out.trans (hb1.mono HB.out.size))
      have s0 : w1.cell? ⟨w.heap.size + 1, 0, none⟩ = some (.slice none 0 0) := HR1.out.cell 0
      have s1 : w1.cell? ⟨w.heap.size + 1, 1, none⟩ = some (.int .i64 0) := HR1.out.cell 1
      have s2 : w1.cell? ⟨w.heap.size + 1, 2, none⟩ = some (.int .i64 0) := HR1.out.cell 2
      have s3 : w1.cell? ⟨w.heap.size + 1, 3, none⟩ = some (.int .i64 0) := HR1.out.cell 3
      have sf : ∀ i, w1.frozen? ⟨w.heap.size + 1, i, none⟩ = false := fun i => HR1.out.frozen i
      clear hb1 x0 x1 x2 x3 xf r0 r1 r2 r3 rf
      go_wp2
      exact ask_end HS.out rfl rfl rfl rfl rfl rfl rfl HR1.out Hb1.out (World.ownsRow_nil _ _ _ _)
    · obtain ⟨j, rfl⟩ : ∃ j : Nat, nn = (j : Int) := ⟨nn.toNat, by omega⟩
      have hN : numS l (at_, fa, 0) (j : Int) big = ((cutS l (at_, fa, 0) 0 j).1, getS (cutS l (at_, fa, 0) 0 j).2 big) := by unfold numS; rw [if_neg (by omega), Int.toNat_natCast]
      by_cases hsh : l.length < at_ + j
      · have HS : Hid (askS l (at_, fa, 0) 1 (j : Int) big = ((at_, at_, 2), 0, [])) := by
          show _ = _
          have e : getS [] big = 0 := by unfold getS; split <;> rfl
          rw [hS, hN, cut_short (by rfl) (by simp only; omega), e]; rfl
        have hI : (l.length : Int) - (at_ : Int) < (j : Int) := by omega
        clear hS hN
        obtain ⟨W, hW⟩ : ∃ W, W = (w.alloc (.cells #[.slice A l.length c, .int .i64 (at_ : Int), .int .i64 (fa : Int), .int .i64 0] 47)).alloc (.cells #[.slice none 0 0, .int .i64 0, .int .i64 0, .int .i64 0] 47) := ⟨_, rfl⟩
        have hX : Blk W w.heap.size 47 #[.slice A l.length c, .int .i64 (at_ : Int), .int .i64 (fa : Int), .int .i64 0] := by rw [hW]; exact Blk.alloc (Blk.new w _ _ _ rfl) _
        have hR : Blk W (w.heap.size + 1) 47 #[.slice none 0 0, .int .i64 0, .int .i64 0, .int .i64 0] := by rw [hW]; exact Blk.new _ _ _ _ (by simp)
        have hB : Below w.heap.size w W := by rw [hW]; exact ((Below.refl _ w).alloc (Nat.le_refl _) _).alloc (by simp) _
        have x0 : W.cell? ⟨w.heap.size, 0, none⟩ = some (.slice A l.length c) := hX.cell 0
        have x1 : W.cell? ⟨w.heap.size, 1, none⟩ = some (.int .i64 (at_ : Int)) := hX.cell 1
        have x2 : W.cell? ⟨w.heap.size, 2, none⟩ = some (.int .i64 (fa : Int)) := hX.cell 2
        have x3 : W.cell? ⟨w.heap.size, 3, none⟩ = some (.int .i64 0) := hX.cell 3
        have xf : ∀ i, W.frozen? ⟨w.heap.size, i, none⟩ = false := fun i => hX.frozen i
        have r0 : W.cell? ⟨w.heap.size + 1, 0, none⟩ = some (.slice none 0 0) := hR.cell 0
        have r1 : W.cell? ⟨w.heap.size + 1, 1, none⟩ = some (.int .i64 0) := hR.cell 1
        have r2 : W.cell? ⟨w.heap.size + 1, 2, none⟩ = some (.int .i64 0) := hR.cell 2
        have r3 : W.cell? ⟨w.heap.size + 1, 3, none⟩ = some (.int .i64 0) := hR.cell 3
        have rf : ∀ i, W.frozen? ⟨w.heap.size + 1, i, none⟩ = false := fun i => hR.frozen i
        have HX := Lib.hid hX
        have HR := Lib.hid hR
        have HB := Lib.hid hB
        have HW := Lib.hid hW
        clear hX hR hB hW
        go_enter Try.func24, Try.ntmps24
        go_upto_region 1 with fail
        rw [← HW.out]
        go_wp2_with fail
        refine (refFail_any A _ c at_ fa 0 2 _).mono ?_
        rintro x w1 ⟨rfl, hb1⟩
        have HR1 := Lib.hid (Blk.below HR.out hb1 HR.out.lt)
        have Hb1 := Lib.hid (HB.out.trans (hb1.mono HB.out.size))
        have s0 : w1.cell? ⟨w.heap.size + 1, 0, none⟩ = some (.slice none 0 0) := HR1.out.cell 0
        have s1 : w1.cell? ⟨w.heap.size + 1, 1, none⟩ = some (.int .i64 0) := HR1.out.cell 1
        have s2 : w1.cell? ⟨w.heap.size + 1, 2, none⟩ = some (.int .i64 0) := HR1.out.cell 2
        have s3 : w1.cell? ⟨w.heap.size + 1, 3, none⟩ = some (.int .i64 0) := HR1.out.cell 3
        have sf : ∀ i, w1.frozen? ⟨w.heap.size + 1, i, none⟩ = false := fun i => HR1.out.frozen i
        clear hb1 x0 x1 x2 x3 xf r0 r1 r2 r3 rf
        go_wp2
        exact ask_end HS.out rfl rfl rfl rfl rfl rfl rfl HR1.out Hb1.out (World.ownsRow_nil _ _ _ _)
      · have hI : ¬ (l.length : Int) - (at_ : Int) < (j : Int) := by omega
        obtain ⟨bod, hbod⟩ : ∃ bod, (l.drop at_).take j = bod := ⟨_, rfl⟩
        obtain ⟨E, hE⟩ : ∃ E, at_ + j = E := ⟨_, rfl⟩
        have HS : Hid (askS l (at_, fa, 0) 1 (j : Int) big = ((E, fa, 0), getS bod big, [])) := by show _ = _; rw [hS, hN, cut_ok (by rfl) (by simp only; omega)]; simp only; rw [Nat.add_zero, hE, hbod]
        have hbl : bod.length = j := by rw [← hbod, List.length_take, List.length_drop]; omega
        have hw : IntKind.i64.wrap ((at_ : Int) + (j : Int)) = (at_ : Int) + (j : Int) := IntWalk.i64_in _ (by omega)
        have hEI : (at_ : Int) + (j : Int) = (E : Int) := by omega
        have hca : c ≠ at_ := by omega
        have g1 : (0 : Int) ≤ (at_ : Int) := by omega
        have g2 : (at_ : Int) ≤ (E : Int) := by omega
        have g3 : (E : Int) ≤ (c : Int) := by omega
        have HL : Hid (E - at_ = bod.length) := by show _ = _; omega
        have Hj8 : Hid (E - at_ ≤ 8) := by show _ ≤ _; omega
        have hbs0 : Hid (BS w w.heap.size (A.map (·.add at_)) bod) := by
          have := (HB0.out.drop (k := at_) (cap := c) hc).take j
          rw [if_neg hca, hbod] at this
          exact this
        have hN' := hN
        clear hS hN hN' hbod hbl
        have HE := Lib.hid hE
        clear hE
        obtain ⟨W, hW⟩ : ∃ W, W = (w.alloc (.cells #[.slice A l.length c, .int .i64 (at_ : Int), .int .i64 (fa : Int), .int .i64 0] 47)).alloc (.cells #[.slice none 0 0, .int .i64 0, .int .i64 0, .int .i64 0] 47) := ⟨_, rfl⟩
        have hX : Blk W w.heap.size 47 #[.slice A l.length c, .int .i64 (at_ : Int), .int .i64 (fa : Int), .int .i64 0] := by rw [hW]; exact Blk.alloc (Blk.new w _ _ _ rfl) _
        have hR : Blk W (w.heap.size + 1) 47 #[.slice none 0 0, .int .i64 0, .int .i64 0, .int .i64 0] := by rw [hW]; exact Blk.new _ _ _ _ (by simp)
        have hB : Below w.heap.size w W := by rw [hW]; exact ((Below.refl _ w).alloc (Nat.le_refl _) _).alloc (by simp) _
        have x0 : W.cell? ⟨w.heap.size, 0, none⟩ = some (.slice A l.length c) := hX.cell 0
        have x1 : W.cell? ⟨w.heap.size, 1, none⟩ = some (.int .i64 (at_ : Int)) := hX.cell 1
        have x2 : W.cell? ⟨w.heap.size, 2, none⟩ = some (.int .i64 (fa : Int)) := hX.cell 2
        have x3 : W.cell? ⟨w.heap.size, 3, none⟩ = some (.int .i64 0) := hX.cell 3
        have xf : ∀ i, W.frozen? ⟨w.heap.size, i, none⟩ = false := fun i => hX.frozen i
        have r0 : W.cell? ⟨w.heap.size + 1, 0, none⟩ = some (.slice none 0 0) := hR.cell 0
        have r1 : W.cell? ⟨w.heap.size + 1, 1, none⟩ = some (.int .i64 0) := hR.cell 1
        have r2 : W.cell? ⟨w.heap.size + 1, 2, none⟩ = some (.int .i64 0) := hR.cell 2
        have r3 : W.cell? ⟨w.heap.size + 1, 3, none⟩ = some (.int .i64 0) := hR.cell 3
        have rf : ∀ i, W.frozen? ⟨w.heap.size + 1, i, none⟩ = false := fun i => hR.frozen i
        have HX := Lib.hid hX
        have HR := Lib.hid hR
        have HB := Lib.hid hB
        have HW := Lib.hid hW
        clear hX hR hB hW
        go_enter Try.func24, Try.ntmps24
        go_upto_region 1 with fail
        rw [← HW.out]
        have HBW : Hid (BS W W.heap.size (A.map (·.add at_)) bod) := (hbs0.out.below HB.out).more HB.out.size
        go_wp2_with fail
        refine (refGetS_any big _ _ _ bod W HL.out HBW.out Hj8.out).mono ?_
        rintro x w1 ⟨rfl, rfl⟩
        go_wp2
        exact ask_end HS.out rfl rfl rfl rfl rfl rfl rfl (Blk.far HR.out (p := ⟨w.heap.size, 1, none⟩) (by simp) _) (HB.out.setCell (Nat.le_refl _) _) (World.ownsRow_nil _ _ _ _)

set_option maxHeartbeats 2000000 in
set_option maxRecDepth 100000 in
theorem ask_five (A : Option Addr) (c : Nat) (l : List UInt8) (at_ fa fe : Nat) (nn : Int) (big : Bool) (w : World) (hb : BS w w.heap.size A l) (hc : l.length ≤ c) (hl : l.length ≤ 1000000000) (ha : at_ ≤ l.length) (hfe : fe = 0) :
    Calls Try.prog 24 #[.agg #[.slice A l.length c, .int .i64 (at_ : Int), .int .i64 (fa : Int), .int .i64 (fe : Int)], .int .i64 5, .int .i64 nn, .bool big] w (AskIs w A l.length c (askS l (at_, fa, fe) 5 nn big)) := by
  have HB0 := Lib.hid hb
  clear hb
  subst hfe
  have hS : askS l (at_, fa, 0) 5 nn big = (endS l (at_, fa, 0), 0, []) := by unfold askS; rw [if_neg (by simp), if_neg (by omega), if_neg (by omega), if_pos rfl]
  by_cases h1 : at_ < l.length
  · have HS : Hid (askS l (at_, fa, 0) 5 nn big = ((at_, at_, 3), 0, [])) := by show _ = _; rw [hS]; unfold endS; rw [if_pos h1]; rfl
    have hI : (0 : Int) < (l.length : Int) - (at_ : Int) := by omega
    clear hS
    obtain ⟨W, hW⟩ : ∃ W, W = (w.alloc (.cells #[.slice A l.length c, .int .i64 (at_ : Int), .int .i64 (fa : Int), .int .i64 0] 47)).alloc (.cells #[.slice none 0 0, .int .i64 0, .int .i64 0, .int .i64 0] 47) := ⟨_, rfl⟩
    have hX : Blk W w.heap.size 47 #[.slice A l.length c, .int .i64 (at_ : Int), .int .i64 (fa : Int), .int .i64 0] := by rw [hW]; exact Blk.alloc (Blk.new w _ _ _ rfl) _
    have hR : Blk W (w.heap.size + 1) 47 #[.slice none 0 0, .int .i64 0, .int .i64 0, .int .i64 0] := by rw [hW]; exact Blk.new _ _ _ _ (by simp)
    have hB : Below w.heap.size w W := by rw [hW]; exact ((Below.refl _ w).alloc (Nat.le_refl _) _).alloc (by simp) _
    have x0 : W.cell? ⟨w.heap.size, 0, none⟩ = some (.slice A l.length c) := hX.cell 0
    have x1 : W.cell? ⟨w.heap.size, 1, none⟩ = some (.int .i64 (at_ : Int)) := hX.cell 1
    have x2 : W.cell? ⟨w.heap.size, 2, none⟩ = some (.int .i64 (fa : Int)) := hX.cell 2
    have x3 : W.cell? ⟨w.heap.size, 3, none⟩ = some (.int .i64 0) := hX.cell 3
    have xf : ∀ i, W.frozen? ⟨w.heap.size, i, none⟩ = false := fun i => hX.frozen i
    have r0 : W.cell? ⟨w.heap.size + 1, 0, none⟩ = some (.slice none 0 0) := hR.cell 0
    have r1 : W.cell? ⟨w.heap.size + 1, 1, none⟩ = some (.int .i64 0) := hR.cell 1
    have r2 : W.cell? ⟨w.heap.size + 1, 2, none⟩ = some (.int .i64 0) := hR.cell 2
    have r3 : W.cell? ⟨w.heap.size + 1, 3, none⟩ = some (.int .i64 0) := hR.cell 3
    have rf : ∀ i, W.frozen? ⟨w.heap.size + 1, i, none⟩ = false := fun i => hR.frozen i
    have HX := Lib.hid hX
    have HR := Lib.hid hR
    have HB := Lib.hid hB
    have HW := Lib.hid hW
    clear hX hR hB hW
    go_enter Try.func24, Try.ntmps24
    go_upto_region 1 with fail
    rw [← HW.out]
    go_wp2_with fail
    refine (refFail_any A _ c at_ fa 0 3 _).mono ?_
    rintro x w1 ⟨rfl, hb1⟩
    have HR1 := Lib.hid (Blk.below HR.out hb1 HR.out.lt)
    have Hb1 := Lib.hid (HB.out.trans (hb1.mono HB.out.size))
    have s0 : w1.cell? ⟨w.heap.size + 1, 0, none⟩ = some (.slice none 0 0) := HR1.out.cell 0
    have s1 : w1.cell? ⟨w.heap.size + 1, 1, none⟩ = some (.int .i64 0) := HR1.out.cell 1
    have s2 : w1.cell? ⟨w.heap.size + 1, 2, none⟩ = some (.int .i64 0) := HR1.out.cell 2
    have s3 : w1.cell? ⟨w.heap.size + 1, 3, none⟩ = some (.int .i64 0) := HR1.out.cell 3
    have sf : ∀ i, w1.frozen? ⟨w.heap.size + 1, i, none⟩ = false := fun i => HR1.out.frozen i
    clear hb1 x0 x1 x2 x3 xf r0 r1 r2 r3 rf
    go_wp2
    exact ask_end HS.out rfl rfl rfl rfl rfl rfl rfl HR1.out Hb1.out (World.ownsRow_nil _ _ _ _)
  · have HS : Hid (askS l (at_, fa, 0) 5 nn big = ((at_, fa, 0), 0, [])) := by show _ = _; rw [hS]; unfold endS; rw [if_neg h1]
    have hI : ¬ (0 : Int) < (l.length : Int) - (at_ : Int) := by omega
    clear hS
    obtain ⟨W, hW⟩ : ∃ W, W = (w.alloc (.cells #[.slice A l.length c, .int .i64 (at_ : Int), .int .i64 (fa : Int), .int .i64 0] 47)).alloc (.cells #[.slice none 0 0, .int .i64 0, .int .i64 0, .int .i64 0] 47) := ⟨_, rfl⟩
    have hX : Blk W w.heap.size 47 #[.slice A l.length c, .int .i64 (at_ : Int), .int .i64 (fa : Int), .int .i64 0] := by rw [hW]; exact Blk.alloc (Blk.new w _ _ _ rfl) _
    have hR : Blk W (w.heap.size + 1) 47 #[.slice none 0 0, .int .i64 0, .int .i64 0, .int .i64 0] := by rw [hW]; exact Blk.new _ _ _ _ (by simp)
    have hB : Below w.heap.size w W := by rw [hW]; exact ((Below.refl _ w).alloc (Nat.le_refl _) _).alloc (by simp) _
    have x0 : W.cell? ⟨w.heap.size, 0, none⟩ = some (.slice A l.length c) := hX.cell 0
    have x1 : W.cell? ⟨w.heap.size, 1, none⟩ = some (.int .i64 (at_ : Int)) := hX.cell 1
    have x2 : W.cell? ⟨w.heap.size, 2, none⟩ = some (.int .i64 (fa : Int)) := hX.cell 2
    have x3 : W.cell? ⟨w.heap.size, 3, none⟩ = some (.int .i64 0) := hX.cell 3
    have xf : ∀ i, W.frozen? ⟨w.heap.size, i, none⟩ = false := fun i => hX.frozen i
    have r0 : W.cell? ⟨w.heap.size + 1, 0, none⟩ = some (.slice none 0 0) := hR.cell 0
    have r1 : W.cell? ⟨w.heap.size + 1, 1, none⟩ = some (.int .i64 0) := hR.cell 1
    have r2 : W.cell? ⟨w.heap.size + 1, 2, none⟩ = some (.int .i64 0) := hR.cell 2
    have r3 : W.cell? ⟨w.heap.size + 1, 3, none⟩ = some (.int .i64 0) := hR.cell 3
    have rf : ∀ i, W.frozen? ⟨w.heap.size + 1, i, none⟩ = false := fun i => hR.frozen i
    have HX := Lib.hid hX
    have HR := Lib.hid hR
    have HB := Lib.hid hB
    have HW := Lib.hid hW
    clear hX hR hB hW
    go_enter Try.func24, Try.ntmps24
    go_upto_region 1 with fail
    rw [← HW.out]
    go_wp2
    exact ask_end HS.out rfl rfl rfl rfl rfl rfl rfl HR.out HB.out (World.ownsRow_nil _ _ _ _)

set_option maxHeartbeats 2000000 in
set_option maxRecDepth 100000 in
theorem ask_take (A : Option Addr) (c : Nat) (l : List UInt8) (at_ fa fe : Nat) (nn : Int) (big : Bool) (w : World) (hb : BS w w.heap.size A l) (hc : l.length ≤ c) (hl : l.length ≤ 1000000000) (ha : at_ ≤ l.length) (hfe : fe = 0) (hnn : nn < 9223372036854775808) :
    Calls Try.prog 24 #[.agg #[.slice A l.length c, .int .i64 (at_ : Int), .int .i64 (fa : Int), .int .i64 (fe : Int)], .int .i64 3, .int .i64 nn, .bool big] w (AskIs w A l.length c (askS l (at_, fa, fe) 3 nn big)) := by
  have HB0 := Lib.hid hb
  clear hb
  subst hfe
  obtain ⟨i0, hi0, hz0, hz1, hz2⟩ := info_parts u8_infoO
  have hS : askS l (at_, fa, 0) 3 nn big = ((takeS l (at_, fa, 0) nn).1, 0, (takeS l (at_, fa, 0) nn).2) := by unfold askS; rw [if_neg (by simp), if_neg (by omega), if_pos rfl]
  by_cases h1 : nn < 0
  · have HS : Hid (askS l (at_, fa, 0) 3 nn big = ((at_, at_, 1), 0, [])) := by show _ = _; rw [hS]; unfold takeS; rw [if_pos h1]; rfl
    clear hS hnn
    obtain ⟨W, hW⟩ : ∃ W, W = (w.alloc (.cells #[.slice A l.length c, .int .i64 (at_ : Int), .int .i64 (fa : Int), .int .i64 0] 47)).alloc (.cells #[.slice none 0 0, .int .i64 0, .int .i64 0, .int .i64 0] 47) := ⟨_, rfl⟩
    have hX : Blk W w.heap.size 47 #[.slice A l.length c, .int .i64 (at_ : Int), .int .i64 (fa : Int), .int .i64 0] := by rw [hW]; exact Blk.alloc (Blk.new w _ _ _ rfl) _
    have hR : Blk W (w.heap.size + 1) 47 #[.slice none 0 0, .int .i64 0, .int .i64 0, .int .i64 0] := by rw [hW]; exact Blk.new _ _ _ _ (by simp)
    have hB : Below w.heap.size w W := by rw [hW]; exact ((Below.refl _ w).alloc (Nat.le_refl _) _).alloc (by simp) _
    have x0 : W.cell? ⟨w.heap.size, 0, none⟩ = some (.slice A l.length c) := hX.cell 0
    have x1 : W.cell? ⟨w.heap.size, 1, none⟩ = some (.int .i64 (at_ : Int)) := hX.cell 1
    have x2 : W.cell? ⟨w.heap.size, 2, none⟩ = some (.int .i64 (fa : Int)) := hX.cell 2
    have x3 : W.cell? ⟨w.heap.size, 3, none⟩ = some (.int .i64 0) := hX.cell 3
    have xf : ∀ i, W.frozen? ⟨w.heap.size, i, none⟩ = false := fun i => hX.frozen i
    have r0 : W.cell? ⟨w.heap.size + 1, 0, none⟩ = some (.slice none 0 0) := hR.cell 0
    have r1 : W.cell? ⟨w.heap.size + 1, 1, none⟩ = some (.int .i64 0) := hR.cell 1
    have r2 : W.cell? ⟨w.heap.size + 1, 2, none⟩ = some (.int .i64 0) := hR.cell 2
    have r3 : W.cell? ⟨w.heap.size + 1, 3, none⟩ = some (.int .i64 0) := hR.cell 3
    have rf : ∀ i, W.frozen? ⟨w.heap.size + 1, i, none⟩ = false := fun i => hR.frozen i
    have HX := Lib.hid hX
    have HR := Lib.hid hR
    have HB := Lib.hid hB
    have HW := Lib.hid hW
    clear hX hR hB hW
    go_enter Try.func24, Try.ntmps24
    go_upto_region 1 with fail
    rw [← HW.out]
    go_wp2_with fail
    refine (refFail_any A _ c at_ fa 0 1 _).mono ?_
    rintro x w1 ⟨rfl, hb1⟩
    have HR1 := Lib.hid (Blk.below HR.out hb1 HR.out.lt)
    have Hb1 := Lib.hid (HB.out.trans (hb1.mono HB.out.size))
    have s0 : w1.cell? ⟨w.heap.size + 1, 0, none⟩ = some (.slice none 0 0) := HR1.out.cell 0
    have s1 : w1.cell? ⟨w.heap.size + 1, 1, none⟩ = some (.int .i64 0) := HR1.out.cell 1
    have s2 : w1.cell? ⟨w.heap.size + 1, 2, none⟩ = some (.int .i64 0) := HR1.out.cell 2
    have s3 : w1.cell? ⟨w.heap.size + 1, 3, none⟩ = some (.int .i64 0) := HR1.out.cell 3
    have sf : ∀ i, w1.frozen? ⟨w.heap.size + 1, i, none⟩ = false := fun i => HR1.out.frozen i
    clear hb1 x0 x1 x2 x3 xf r0 r1 r2 r3 rf
    go_wp2
    exact ask_end HS.out rfl rfl rfl rfl rfl rfl rfl HR1.out Hb1.out (World.ownsRow_nil _ _ _ _)
  · obtain ⟨j, rfl⟩ : ∃ j : Nat, nn = (j : Int) := ⟨nn.toNat, by omega⟩
    have hN : takeS l (at_, fa, 0) (j : Int) = cutS l (at_, fa, 0) 0 j := by unfold takeS; rw [if_neg h1, Int.toNat_natCast]
    by_cases hsh : l.length < at_ + j
    · have HS : Hid (askS l (at_, fa, 0) 3 (j : Int) big = ((at_, at_, 2), 0, [])) := by show _ = _; rw [hS, hN, cut_short (by rfl) (by simp only; omega)]; rfl
      have hI : (l.length : Int) - (at_ : Int) < (j : Int) := by omega
      clear hS hN hnn
      obtain ⟨W, hW⟩ : ∃ W, W = (w.alloc (.cells #[.slice A l.length c, .int .i64 (at_ : Int), .int .i64 (fa : Int), .int .i64 0] 47)).alloc (.cells #[.slice none 0 0, .int .i64 0, .int .i64 0, .int .i64 0] 47) := ⟨_, rfl⟩
      have hX : Blk W w.heap.size 47 #[.slice A l.length c, .int .i64 (at_ : Int), .int .i64 (fa : Int), .int .i64 0] := by rw [hW]; exact Blk.alloc (Blk.new w _ _ _ rfl) _
      have hR : Blk W (w.heap.size + 1) 47 #[.slice none 0 0, .int .i64 0, .int .i64 0, .int .i64 0] := by rw [hW]; exact Blk.new _ _ _ _ (by simp)
      have hB : Below w.heap.size w W := by rw [hW]; exact ((Below.refl _ w).alloc (Nat.le_refl _) _).alloc (by simp) _
      have x0 : W.cell? ⟨w.heap.size, 0, none⟩ = some (.slice A l.length c) := hX.cell 0
      have x1 : W.cell? ⟨w.heap.size, 1, none⟩ = some (.int .i64 (at_ : Int)) := hX.cell 1
      have x2 : W.cell? ⟨w.heap.size, 2, none⟩ = some (.int .i64 (fa : Int)) := hX.cell 2
      have x3 : W.cell? ⟨w.heap.size, 3, none⟩ = some (.int .i64 0) := hX.cell 3
      have xf : ∀ i, W.frozen? ⟨w.heap.size, i, none⟩ = false := fun i => hX.frozen i
      have r0 : W.cell? ⟨w.heap.size + 1, 0, none⟩ = some (.slice none 0 0) := hR.cell 0
      have r1 : W.cell? ⟨w.heap.size + 1, 1, none⟩ = some (.int .i64 0) := hR.cell 1
      have r2 : W.cell? ⟨w.heap.size + 1, 2, none⟩ = some (.int .i64 0) := hR.cell 2
      have r3 : W.cell? ⟨w.heap.size + 1, 3, none⟩ = some (.int .i64 0) := hR.cell 3
      have rf : ∀ i, W.frozen? ⟨w.heap.size + 1, i, none⟩ = false := fun i => hR.frozen i
      have HX := Lib.hid hX
      have HR := Lib.hid hR
      have HB := Lib.hid hB
      have HW := Lib.hid hW
      clear hX hR hB hW
      go_enter Try.func24, Try.ntmps24
      go_upto_region 1 with fail
      rw [← HW.out]
      go_wp2_with fail
      refine (refFail_any A _ c at_ fa 0 2 _).mono ?_
      rintro x w1 ⟨rfl, hb1⟩
      have HR1 := Lib.hid (Blk.below HR.out hb1 HR.out.lt)
      have Hb1 := Lib.hid (HB.out.trans (hb1.mono HB.out.size))
      have s0 : w1.cell? ⟨w.heap.size + 1, 0, none⟩ = some (.slice none 0 0) := HR1.out.cell 0
      have s1 : w1.cell? ⟨w.heap.size + 1, 1, none⟩ = some (.int .i64 0) := HR1.out.cell 1
      have s2 : w1.cell? ⟨w.heap.size + 1, 2, none⟩ = some (.int .i64 0) := HR1.out.cell 2
      have s3 : w1.cell? ⟨w.heap.size + 1, 3, none⟩ = some (.int .i64 0) := HR1.out.cell 3
      have sf : ∀ i, w1.frozen? ⟨w.heap.size + 1, i, none⟩ = false := fun i => HR1.out.frozen i
      clear hb1 x0 x1 x2 x3 xf r0 r1 r2 r3 rf
      go_wp2
      exact ask_end HS.out rfl rfl rfl rfl rfl rfl rfl HR1.out Hb1.out (World.ownsRow_nil _ _ _ _)
    · have hI : ¬ (l.length : Int) - (at_ : Int) < (j : Int) := by omega
      obtain ⟨bod, hbod⟩ : ∃ bod, (l.drop at_).take j = bod := ⟨_, rfl⟩
      obtain ⟨E, hE⟩ : ∃ E, at_ + j = E := ⟨_, rfl⟩
      have HS : Hid (askS l (at_, fa, 0) 3 (j : Int) big = ((E, fa, 0), 0, bod)) := by show _ = _; rw [hS, hN, cut_ok (by rfl) (by simp only; omega)]; simp only; rw [Nat.add_zero, hE, hbod]
      have hbl : bod.length = j := by rw [← hbod, List.length_take, List.length_drop]; omega
      have hblm : bod.length ≤ 1000000000 := by omega
      have hw : IntKind.i64.wrap ((at_ : Int) + (j : Int)) = (at_ : Int) + (j : Int) := IntWalk.i64_in _ (by omega)
      have hEI : (at_ : Int) + (j : Int) = (E : Int) := by omega
      have g1 : (0 : Int) ≤ (at_ : Int) := by omega
      have g2 : (at_ : Int) ≤ (E : Int) := by omega
      have g3 : (E : Int) ≤ (c : Int) := by omega
      have HL : Hid (E - at_ = bod.length) := by show _ = _; omega
      have hbs0 : BS w w.heap.size (if c = at_ then A else A.map (·.add at_)) bod := by
        have := (HB0.out.drop (k := at_) (cap := c) hc).take j
        rw [hbod] at this
        exact this
      have HbP : Hid (c = at_ → BS w w.heap.size A bod) := fun e => by rw [if_pos e] at hbs0; exact hbs0
      have HbN : Hid (¬ c = at_ → BS w w.heap.size (A.map (·.add at_)) bod) := fun e => by rw [if_neg e] at hbs0; exact hbs0
      have HbI := Lib.hid hbs0
      clear hbs0
      clear hS hN hbod hbl hnn hE
      obtain ⟨W, hW⟩ : ∃ W, W = (w.alloc (.cells #[.slice A l.length c, .int .i64 (at_ : Int), .int .i64 (fa : Int), .int .i64 0] 47)).alloc (.cells #[.slice none 0 0, .int .i64 0, .int .i64 0, .int .i64 0] 47) := ⟨_, rfl⟩
      have hX : Blk W w.heap.size 47 #[.slice A l.length c, .int .i64 (at_ : Int), .int .i64 (fa : Int), .int .i64 0] := by rw [hW]; exact Blk.alloc (Blk.new w _ _ _ rfl) _
      have hR : Blk W (w.heap.size + 1) 47 #[.slice none 0 0, .int .i64 0, .int .i64 0, .int .i64 0] := by rw [hW]; exact Blk.new _ _ _ _ (by simp)
      have hB : Below w.heap.size w W := by rw [hW]; exact ((Below.refl _ w).alloc (Nat.le_refl _) _).alloc (by simp) _
      have x0 : W.cell? ⟨w.heap.size, 0, none⟩ = some (.slice A l.length c) := hX.cell 0
      have x1 : W.cell? ⟨w.heap.size, 1, none⟩ = some (.int .i64 (at_ : Int)) := hX.cell 1
      have x2 : W.cell? ⟨w.heap.size, 2, none⟩ = some (.int .i64 (fa : Int)) := hX.cell 2
      have x3 : W.cell? ⟨w.heap.size, 3, none⟩ = some (.int .i64 0) := hX.cell 3
      have xf : ∀ i, W.frozen? ⟨w.heap.size, i, none⟩ = false := fun i => hX.frozen i
      have r0 : W.cell? ⟨w.heap.size + 1, 0, none⟩ = some (.slice none 0 0) := hR.cell 0
      have r1 : W.cell? ⟨w.heap.size + 1, 1, none⟩ = some (.int .i64 0) := hR.cell 1
      have r2 : W.cell? ⟨w.heap.size + 1, 2, none⟩ = some (.int .i64 0) := hR.cell 2
      have r3 : W.cell? ⟨w.heap.size + 1, 3, none⟩ = some (.int .i64 0) := hR.cell 3
      have rf : ∀ i, W.frozen? ⟨w.heap.size + 1, i, none⟩ = false := fun i => hR.frozen i
      have HX := Lib.hid hX
      have HR := Lib.hid hR
      have HB := Lib.hid hB
      have HW := Lib.hid hW
      clear hX hR hB hW
      go_enter Try.func24, Try.ntmps24
      go_upto_region 1 with fail
      rw [← HW.out]
      have y0 : ∀ o, (W.alloc o).cell? ⟨w.heap.size, 0, none⟩ = some (.slice A l.length c) := fun o => Blk.cell (Blk.alloc HX.out o) 0
      have y1 : ∀ o, (W.alloc o).cell? ⟨w.heap.size, 1, none⟩ = some (.int .i64 (at_ : Int)) := fun o => Blk.cell (Blk.alloc HX.out o) 1
      go_wp2_with
        (at_builtin
         refine wpList_append_bytes _ rfl _ _ 22 rfl w.heap.size 5 i0 (.int .u8 0) 1 Try.underlying22 hi0 hz0 hz1 hz2 rfl (.slice (some ⟨W.heap.size, 0, none⟩) 0 0) [] rfl (own_none W _ _ HB.out.size _ rfl) (W.alloc (.cells #[] 5)).heap.size _ _ _ bod rfl HL.out ?_ ?_ ?_ ?_ ?_
         · go_loud (first | exact BS.more (BS.below HbI.out (HB.out.trans (((Below.refl _ W).alloc (Nat.le_refl _) (.cells #[] 5)).mono HB.out.size))) (Nat.le_trans HB.out.size (by simp)) | exact BS.more (BS.below (HbP.out (by assumption)) (HB.out.trans (((Below.refl _ W).alloc (Nat.le_refl _) (.cells #[] 5)).mono HB.out.size))) (Nat.le_trans HB.out.size (by simp)) | exact BS.more (BS.below (HbN.out (by assumption)) (HB.out.trans (((Below.refl _ W).alloc (Nat.le_refl _) (.cells #[] 5)).mono HB.out.size))) (Nat.le_trans HB.out.size (by simp)))
         · go_loud (simp; unfold maxLen; omega)
         · go_loud (simp; omega)
         · go_loud (exact Nat.le_trans HB.out.size (by simp))
         intro A5 c5 w5 hown5 hg5 _
         have Hg5 : Hid (Below W.heap.size W w5) := ((Below.refl _ W).alloc (Nat.le_refl _) (.cells #[] 5)).grown hg5 (by simp) (fun k hk => by simp [Value.ownBlock] at hk; omega)
         have hown5' : w5.ownsRow w.heap.size 5 1 (.slice A5 bod.length c5) bod.length (bcells bod) := by simpa using hown5
         have Hown5 := Lib.hid hown5'
         have HX5 := Lib.hid (Blk.below HX.out Hg5.out HX.out.lt)
         have HR5 := Lib.hid (Blk.below HR.out Hg5.out HR.out.lt)
         have HB5 := Lib.hid (HB.out.trans (Hg5.out.mono HB.out.size))
         have u0 : w5.cell? ⟨w.heap.size, 0, none⟩ = some (.slice A l.length c) := HX5.out.cell 0
         have u1 : w5.cell? ⟨w.heap.size, 1, none⟩ = some (.int .i64 (at_ : Int)) := HX5.out.cell 1
         have u2 : w5.cell? ⟨w.heap.size, 2, none⟩ = some (.int .i64 (fa : Int)) := HX5.out.cell 2
         have u3 : w5.cell? ⟨w.heap.size, 3, none⟩ = some (.int .i64 0) := HX5.out.cell 3
         have uf : ∀ i, w5.frozen? ⟨w.heap.size, i, none⟩ = false := fun i => HX5.out.frozen i
         have s0 : w5.cell? ⟨w.heap.size + 1, 0, none⟩ = some (.slice none 0 0) := HR5.out.cell 0
         have s1 : w5.cell? ⟨w.heap.size + 1, 1, none⟩ = some (.int .i64 0) := HR5.out.cell 1
         have s2 : w5.cell? ⟨w.heap.size + 1, 2, none⟩ = some (.int .i64 0) := HR5.out.cell 2
         have s3 : w5.cell? ⟨w.heap.size + 1, 3, none⟩ = some (.int .i64 0) := HR5.out.cell 3
         have sf : ∀ i, w5.frozen? ⟨w.heap.size + 1, i, none⟩ = false := fun i => HR5.out.frozen i
         clear hown5 hown5' hg5 x0 x1 x2 x3 xf r0 r1 r2 r3 rf y0 y1)
      all_goals
        exact ask_end (b := bod) HS.out rfl rfl rfl (by simp) rfl rfl rfl (Blk.far HR5.out (p := ⟨w.heap.size, 1, none⟩) (by simp) _) (HB5.out.setCell (Nat.le_refl _) _) (Hown5.out.kept (grownSet w5 ⟨w.heap.size, 1, none⟩ _) (own_blk_ne Hown5.out HX5.out (by decide)))

end Go.Proofs.Ytpeknjbcjpdmnab
