/- The walks of wayleaveref04.Ask: a varint, a text; all kinds. -/
import Derived.Test.YtpeknjbcjpdmnabRefAskW
namespace Go.Proofs.Ytpeknjbcjpdmnab
open Go.RowKit
set_option linter.unusedVariables false

set_option maxHeartbeats 1000000 in
set_option maxRecDepth 100000 in
theorem ask_varN (A : Option Addr) (c : Nat) (l : List UInt8) (at_ fa fe : Nat) (nn : Int) (big : Bool) (w : World) (hb : BS w w.heap.size A l) (hc : l.length ≤ c) (hl : l.length ≤ 1000000000) (ha : at_ ≤ l.length) (hca : ¬ c = at_) (hfe : fe = 0) :
    Calls Try.prog 24 #[.agg #[.slice A l.length c, .int .i64 (at_ : Int), .int .i64 (fa : Int), .int .i64 (fe : Int)], .int .i64 2, .int .i64 nn, .bool big] w (AskIs w A l.length c (askS l (at_, fa, fe) 2 nn big)) := by
  have HB0 := Lib.hid hb
  clear hb
  subst hfe
  have hS : askS l (at_, fa, 0) 2 nn big = ((varS l (at_, fa, 0)).1, (varS l (at_, fa, 0)).2, []) := by unfold askS; rw [if_neg (by simp), if_neg (by omega), if_neg (by omega), if_neg (by omega), if_pos rfl]
  rcases hv : vgetS (l.drop at_) with ⟨q, k, e⟩
  have Hv := Lib.hid hv
  have hsl : BS w w.heap.size (if c = at_ then A else A.map (·.add at_)) (l.drop at_) := HB0.out.drop hc
  have HcP : Hid (c = at_ → BS w w.heap.size A (l.drop at_)) := fun e => by rw [if_pos e] at hsl; exact hsl
  have HcN : Hid (¬ c = at_ → BS w w.heap.size (A.map (·.add at_)) (l.drop at_)) := fun e => by rw [if_neg e] at hsl; exact hsl
  have HcI := Lib.hid hsl
  clear hsl
  have Hgl : Hid (l.length - at_ = (l.drop at_).length) := by show _ = _; rw [List.length_drop]
  have Hgm : Hid (l.length - at_ ≤ maxLen) := by show _ ≤ maxLen; unfold maxLen; omega
  have g1 : (0 : Int) ≤ (at_ : Int) := by omega
  have gal : (at_ : Int) ≤ (l.length : Int) := by omega
  by_cases he : e = 0
  · subst he
    have hkl := (vget_only hv).2.2.1
    rw [List.length_drop] at hkl
    obtain ⟨E, hE⟩ : ∃ E, at_ + k = E := ⟨_, rfl⟩
    have hpk : peekS l (at_, fa, 0) = ((at_, fa, 0), q, k) := by unfold peekS; rw [if_neg (by simp)]; simp only; rw [hv, if_neg (by simp)]
    have HS : Hid (askS l (at_, fa, 0) 2 nn big = ((E, fa, 0), q, [])) := by show _ = _; rw [hS]; unfold varS; rw [hpk]; simp only; rw [hE]
    have hw : IntKind.i64.wrap ((at_ : Int) + (k : Int)) = (at_ : Int) + (k : Int) := IntWalk.i64_in _ (by omega)
    have hEI : (at_ : Int) + (k : Int) = (E : Int) := by omega
    have hEb : (E : Int) ≤ 1000000000 := by omega
    have hEb0 : (0 : Int) ≤ (E : Int) := by omega
    clear hS hpk hv hE hkl
    obtain ⟨W, hW⟩ : ∃ W, W = (w.alloc (.cells #[.slice A l.length c, .int .i64 (at_ : Int), .int .i64 (fa : Int), .int .i64 0] 47)).alloc (.cells #[.slice none 0 0, .int .i64 0, .int .i64 0, .int .i64 0] 47) := ⟨_, rfl⟩
    have hX : Blk W w.heap.size 47 #[.slice A l.length c, .int .i64 (at_ : Int), .int .i64 (fa : Int), .int .i64 0] := by rw [hW]; exact Blk.alloc (Blk.new w _ _ _ rfl) _
    have hR : Blk W (w.heap.size + 1) 47 #[.slice none 0 0, .int .i64 0, .int .i64 0, .int .i64 0] := by rw [hW]; exact Blk.new _ _ _ _ (by simp)
    have hB : Below w.heap.size w W := by rw [hW]; exact ((Below.refl _ w).alloc (Nat.le_refl _) _).alloc (by simp) _
    have x0 : W.cell? ⟨w.heap.size, 0, none⟩ = some (.slice A l.length c) := hX.cell 0
    have x1 : W.cell? ⟨w.heap.size, 1, none⟩ = some (.int .i64 (at_ : Int)) := hX.cell 1
    have x2 : W.cell? ⟨w.heap.size, 2, none⟩ = some (.int .i64 (fa : Int)) := hX.cell 2
    have x3 : W.cell? ⟨w.heap.size, 3, none⟩ = some (.int .i64 0) := hX.cell 3
    have xf : ∀ i, W.frozen? ⟨w.heap.size, i, none⟩ = false := fun i => hX.frozen i
    have r0 : W.cell? ⟨w.heap.size + 1, 0, none⟩ = some (.slice none 0 0) := hR.cell 0
    have r1 : W.cell? ⟨w.heap.size + 1, 1, none⟩ = some (.int .i64 0) := hR.cell 1
    have r2 : W.cell? ⟨w.heap.size + 1, 2, none⟩ = some (.int .i64 0) := hR.cell 2
    have r3 : W.cell? ⟨w.heap.size + 1, 3, none⟩ = some (.int .i64 0) := hR.cell 3
    have rf : ∀ i, W.frozen? ⟨w.heap.size + 1, i, none⟩ = false := fun i => hR.frozen i
    have HX := Lib.hid hX
    have HR := Lib.hid hR
    have HB := Lib.hid hB
    have HW := Lib.hid hW
    clear hX hR hB hW
    go_enter Try.func24, Try.ntmps24
    go_upto_region 1 with fail
    rw [← HW.out]
    go_wp2_with
      (go_at_call 51
       refine (refGet_eq _ _ _ (l.drop at_) W W.heap.size Hgl.out (BS.more (BS.below (HcN.out hca) HB.out) HB.out.size) Hgm.out Hv.out).mono ?_
       rintro x w1 ⟨rfl, rfl⟩)
    exact ask_end HS.out rfl rfl rfl rfl rfl rfl rfl (Blk.far HR.out (p := ⟨w.heap.size, 1, none⟩) (by simp) _) (HB.out.setCell (Nat.le_refl _) _) (World.ownsRow_nil _ _ _ _)
  · have hbad := vget_bad hv he
    obtain ⟨rfl, rfl, _⟩ := hbad
    have hpk : peekS l (at_, fa, 0) = ((at_, at_, e), 0, 0) := by unfold peekS; rw [if_neg (by simp)]; simp only; rw [hv, if_pos he]; rfl
    have HS : Hid (askS l (at_, fa, 0) 2 nn big = ((at_, at_, e), 0, [])) := by show _ = _; rw [hS]; unfold varS; rw [hpk]; rfl
    have heI : ((e : Int) != 0) = true := by simp; omega
    clear hS hpk hv he
    obtain ⟨W, hW⟩ : ∃ W, W = (w.alloc (.cells #[.slice A l.length c, .int .i64 (at_ : Int), .int .i64 (fa : Int), .int .i64 0] 47)).alloc (.cells #[.slice none 0 0, .int .i64 0, .int .i64 0, .int .i64 0] 47) := ⟨_, rfl⟩
    have hX : Blk W w.heap.size 47 #[.slice A l.length c, .int .i64 (at_ : Int), .int .i64 (fa : Int), .int .i64 0] := by rw [hW]; exact Blk.alloc (Blk.new w _ _ _ rfl) _
    have hR : Blk W (w.heap.size + 1) 47 #[.slice none 0 0, .int .i64 0, .int .i64 0, .int .i64 0] := by rw [hW]; exact Blk.new _ _ _ _ (by simp)
    have hB : Below w.heap.size w W := by rw [hW]; exact ((Below.refl _ w).alloc (Nat.le_refl _) _).alloc (by simp) _
    have x0 : W.cell? ⟨w.heap.size, 0, none⟩ = some (.slice A l.length c) := hX.cell 0
    have x1 : W.cell? ⟨w.heap.size, 1, none⟩ = some (.int .i64 (at_ : Int)) := hX.cell 1
    have x2 : W.cell? ⟨w.heap.size, 2, none⟩ = some (.int .i64 (fa : Int)) := hX.cell 2
    have x3 : W.cell? ⟨w.heap.size, 3, none⟩ = some (.int .i64 0) := hX.cell 3
    have xf : ∀ i, W.frozen? ⟨w.heap.size, i, none⟩ = false := fun i => hX.frozen i
    have r0 : W.cell? ⟨w.heap.size + 1, 0, none⟩ = some (.slice none 0 0) := hR.cell 0
    have r1 : W.cell? ⟨w.heap.size + 1, 1, none⟩ = some (.int .i64 0) := hR.cell 1
    have r2 : W.cell? ⟨w.heap.size + 1, 2, none⟩ = some (.int .i64 0) := hR.cell 2
    have r3 : W.cell? ⟨w.heap.size + 1, 3, none⟩ = some (.int .i64 0) := hR.cell 3
    have rf : ∀ i, W.frozen? ⟨w.heap.size + 1, i, none⟩ = false := fun i => hR.frozen i
    have HX := Lib.hid hX
    have HR := Lib.hid hR
    have HB := Lib.hid hB
    have HW := Lib.hid hW
    clear hX hR hB hW
    go_enter Try.func24, Try.ntmps24
    go_upto_region 1 with fail
    rw [← HW.out]
    go_wp2_with
      (go_at_call 51
       refine (refGet_eq _ _ _ (l.drop at_) W W.heap.size Hgl.out (BS.more (BS.below (HcN.out hca) HB.out) HB.out.size) Hgm.out Hv.out).mono ?_
       rintro x w1 ⟨rfl, rfl⟩)
    refine (refFail_any A _ c at_ fa 0 e _).mono ?_
    rintro x w1 ⟨rfl, hb1⟩
    have HR1 := Lib.hid (Blk.below HR.out hb1 HR.out.lt)
    have Hb1 := Lib.hid (HB.out.trans (hb1.mono HB.out.size))
    have s0 : w1.cell? ⟨w.heap.size + 1, 0, none⟩ = some (.slice none 0 0) := HR1.out.cell 0
    have s1 : w1.cell? ⟨w.heap.size + 1, 1, none⟩ = some (.int .i64 0) := HR1.out.cell 1
    have s2 : w1.cell? ⟨w.heap.size + 1, 2, none⟩ = some (.int .i64 0) := HR1.out.cell 2
    have s3 : w1.cell? ⟨w.heap.size + 1, 3, none⟩ = some (.int .i64 0) := HR1.out.cell 3
    have sf : ∀ i, w1.frozen? ⟨w.heap.size + 1, i, none⟩ = false := fun i => HR1.out.frozen i
    clear hb1 x0 x1 x2 x3 xf r0 r1 r2 r3 rf
    go_wp2
    exact ask_end HS.out rfl rfl rfl rfl rfl rfl rfl HR1.out Hb1.out (World.ownsRow_nil _ _ _ _)

set_option maxHeartbeats 1000000 in
set_option maxRecDepth 100000 in
theorem ask_textN (A : Option Addr) (c : Nat) (l : List UInt8) (at_ fa fe : Nat) (kd : Int) (nn : Int) (big : Bool) (w : World) (hb : BS w w.heap.size A l) (hc : l.length ≤ c) (hl : l.length ≤ 1000000000) (ha : at_ ≤ l.length) (hca : ¬ c = at_) (hfe : fe = 0) (k1 : kd ≠ 1) (k2 : kd ≠ 2) (k3 : kd ≠ 3) (k5 : kd ≠ 5) (hnn : nn < 9223372036854775808) :
    Calls Try.prog 24 #[.agg #[.slice A l.length c, .int .i64 (at_ : Int), .int .i64 (fa : Int), .int .i64 (fe : Int)], .int .i64 kd, .int .i64 nn, .bool big] w (AskIs w A l.length c (askS l (at_, fa, fe) kd nn big)) := by
  have HB0 := Lib.hid hb
  clear hb
  subst hfe
  obtain ⟨i0, hi0, hz0, hz1, hz2⟩ := info_parts u8_infoO
  have hS : askS l (at_, fa, 0) kd nn big = ((textS l (at_, fa, 0) nn).1, 0, (textS l (at_, fa, 0) nn).2) := by unfold askS; rw [if_neg (by simp), if_neg k1, if_neg k3, if_neg k5, if_neg k2]
  have m1 : (kd == 1) = false := by simp; exact k1
  have m2 : (kd == 2) = false := by simp; exact k2
  have m3 : (kd == 3) = false := by simp; exact k3
  have m5 : (kd == 5) = false := by simp; exact k5
  clear k1 k2 k3 k5
  rcases hv : vgetS (l.drop at_) with ⟨q, k, e⟩
  have Hv := Lib.hid hv
  have hsl : BS w w.heap.size (if c = at_ then A else A.map (·.add at_)) (l.drop at_) := HB0.out.drop hc
  have HcP : Hid (c = at_ → BS w w.heap.size A (l.drop at_)) := fun e => by rw [if_pos e] at hsl; exact hsl
  have HcN : Hid (¬ c = at_ → BS w w.heap.size (A.map (·.add at_)) (l.drop at_)) := fun e => by rw [if_neg e] at hsl; exact hsl
  have HcI := Lib.hid hsl
  clear hsl
  have Hgl : Hid (l.length - at_ = (l.drop at_).length) := by show _ = _; rw [List.length_drop]
  have Hgm : Hid (l.length - at_ ≤ maxLen) := by show _ ≤ maxLen; unfold maxLen; omega
  have g1 : (0 : Int) ≤ (at_ : Int) := by omega
  have gal : (at_ : Int) ≤ (l.length : Int) := by omega
  by_cases he : e = 0
  · subst he
    have hvo := vget_only hv
    have hkl := hvo.2.2.1
    have hq64 := hvo.1
    rw [List.length_drop] at hkl
    have hpk : peekS l (at_, fa, 0) = ((at_, fa, 0), q, k) := by unfold peekS; rw [if_neg (by simp)]; simp only; rw [hv, if_neg (by simp)]
    clear hvo hv
    by_cases h0 : nn < 0
    · have HS : Hid (askS l (at_, fa, 0) kd nn big = ((at_, at_, 4), 0, [])) := by show _ = _; rw [hS]; unfold textS; rw [hpk, if_pos (.inl h0)]; rfl
      clear hS hpk hnn hq64
      obtain ⟨W, hW⟩ : ∃ W, W = (w.alloc (.cells #[.slice A l.length c, .int .i64 (at_ : Int), .int .i64 (fa : Int), .int .i64 0] 47)).alloc (.cells #[.slice none 0 0, .int .i64 0, .int .i64 0, .int .i64 0] 47) := ⟨_, rfl⟩
      have hX : Blk W w.heap.size 47 #[.slice A l.length c, .int .i64 (at_ : Int), .int .i64 (fa : Int), .int .i64 0] := by rw [hW]; exact Blk.alloc (Blk.new w _ _ _ rfl) _
      have hR : Blk W (w.heap.size + 1) 47 #[.slice none 0 0, .int .i64 0, .int .i64 0, .int .i64 0] := by rw [hW]; exact Blk.new _ _ _ _ (by simp)
      have hB : Below w.heap.size w W := by rw [hW]; exact ((Below.refl _ w).alloc (Nat.le_refl _) _).alloc (by simp) _
      have x0 : W.cell? ⟨w.heap.size, 0, none⟩ = some (.slice A l.length c) := hX.cell 0
      have x1 : W.cell? ⟨w.heap.size, 1, none⟩ = some (.int .i64 (at_ : Int)) := hX.cell 1
      have x2 : W.cell? ⟨w.heap.size, 2, none⟩ = some (.int .i64 (fa : Int)) := hX.cell 2
      have x3 : W.cell? ⟨w.heap.size, 3, none⟩ = some (.int .i64 0) := hX.cell 3
      have xf : ∀ i, W.frozen? ⟨w.heap.size, i, none⟩ = false := fun i => hX.frozen i
      have r0 : W.cell? ⟨w.heap.size + 1, 0, none⟩ = some (.slice none 0 0) := hR.cell 0
      have r1 : W.cell? ⟨w.heap.size + 1, 1, none⟩ = some (.int .i64 0) := hR.cell 1
      have r2 : W.cell? ⟨w.heap.size + 1, 2, none⟩ = some (.int .i64 0) := hR.cell 2
      have r3 : W.cell? ⟨w.heap.size + 1, 3, none⟩ = some (.int .i64 0) := hR.cell 3
      have rf : ∀ i, W.frozen? ⟨w.heap.size + 1, i, none⟩ = false := fun i => hR.frozen i
      have HX := Lib.hid hX
      have HR := Lib.hid hR
      have HB := Lib.hid hB
      have HW := Lib.hid hW
      clear hX hR hB hW
      go_enter Try.func24, Try.ntmps24
      go_upto_region 1 with fail
      rw [← HW.out]
      go_wp2_with
        (go_at_call 51
         refine (refGet_eq _ _ _ (l.drop at_) W W.heap.size Hgl.out (BS.more (BS.below (HcN.out hca) HB.out) HB.out.size) Hgm.out Hv.out).mono ?_
         rintro x w1 ⟨rfl, rfl⟩)
      refine (refFail_any A _ c at_ fa 0 4 _).mono ?_
      rintro x w1 ⟨rfl, hb1⟩
      have HR1 := Lib.hid (Blk.below HR.out hb1 HR.out.lt)
      have Hb1 := Lib.hid (HB.out.trans (hb1.mono HB.out.size))
      have s0 : w1.cell? ⟨w.heap.size + 1, 0, none⟩ = some (.slice none 0 0) := HR1.out.cell 0
      have s1 : w1.cell? ⟨w.heap.size + 1, 1, none⟩ = some (.int .i64 0) := HR1.out.cell 1
      have s2 : w1.cell? ⟨w.heap.size + 1, 2, none⟩ = some (.int .i64 0) := HR1.out.cell 2
      have s3 : w1.cell? ⟨w.heap.size + 1, 3, none⟩ = some (.int .i64 0) := HR1.out.cell 3
      have sf : ∀ i, w1.frozen? ⟨w.heap.size + 1, i, none⟩ = false := fun i => HR1.out.frozen i
      clear hb1 x0 x1 x2 x3 xf r0 r1 r2 r3 rf
      go_wp2
      exact ask_end HS.out rfl rfl rfl rfl rfl rfl rfl HR1.out Hb1.out (World.ownsRow_nil _ _ _ _)
    · obtain ⟨mm, rfl⟩ : ∃ mm : Nat, nn = (mm : Int) := ⟨nn.toNat, by omega⟩
      have hwm : IntKind.u64.wrap (mm : Int) = (mm : Int) := wrap_u64_nat mm (by omega)
      by_cases h4 : (mm : Int) < (q : Int)
      · have HS : Hid (askS l (at_, fa, 0) kd (mm : Int) big = ((at_, at_, 4), 0, [])) := by show _ = _; rw [hS]; unfold textS; rw [hpk, if_pos (.inr h4)]; rfl
        clear hS hpk hnn hq64
        obtain ⟨W, hW⟩ : ∃ W, W = (w.alloc (.cells #[.slice A l.length c, .int .i64 (at_ : Int), .int .i64 (fa : Int), .int .i64 0] 47)).alloc (.cells #[.slice none 0 0, .int .i64 0, .int .i64 0, .int .i64 0] 47) := ⟨_, rfl⟩
        have hX : Blk W w.heap.size 47 #[.slice A l.length c, .int .i64 (at_ : Int), .int .i64 (fa : Int), .int .i64 0] := by rw [hW]; exact Blk.alloc (Blk.new w _ _ _ rfl) _
        have hR : Blk W (w.heap.size + 1) 47 #[.slice none 0 0, .int .i64 0, .int .i64 0, .int .i64 0] := by rw [hW]; exact Blk.new _ _ _ _ (by simp)
        have hB : Below w.heap.size w W := by rw [hW]; exact ((Below.refl _ w).alloc (Nat.le_refl _) _).alloc (by simp) _
        have x0 : W.cell? ⟨w.heap.size, 0, none⟩ = some (.slice A l.length c) := hX.cell 0
        have x1 : W.cell? ⟨w.heap.size, 1, none⟩ = some (.int .i64 (at_ : Int)) := hX.cell 1
        have x2 : W.cell? ⟨w.heap.size, 2, none⟩ = some (.int .i64 (fa : Int)) := hX.cell 2
        have x3 : W.cell? ⟨w.heap.size, 3, none⟩ = some (.int .i64 0) := hX.cell 3
        have xf : ∀ i, W.frozen? ⟨w.heap.size, i, none⟩ = false := fun i => hX.frozen i
        have r0 : W.cell? ⟨w.heap.size + 1, 0, none⟩ = some (.slice none 0 0) := hR.cell 0
        have r1 : W.cell? ⟨w.heap.size + 1, 1, none⟩ = some (.int .i64 0) := hR.cell 1
        have r2 : W.cell? ⟨w.heap.size + 1, 2, none⟩ = some (.int .i64 0) := hR.cell 2
        have r3 : W.cell? ⟨w.heap.size + 1, 3, none⟩ = some (.int .i64 0) := hR.cell 3
        have rf : ∀ i, W.frozen? ⟨w.heap.size + 1, i, none⟩ = false := fun i => hR.frozen i
        have HX := Lib.hid hX
        have HR := Lib.hid hR
        have HB := Lib.hid hB
        have HW := Lib.hid hW
        clear hX hR hB hW
        go_enter Try.func24, Try.ntmps24
        go_upto_region 1 with fail
        rw [← HW.out]
        go_wp2_with
          (go_at_call 51
           refine (refGet_eq _ _ _ (l.drop at_) W W.heap.size Hgl.out (BS.more (BS.below (HcN.out hca) HB.out) HB.out.size) Hgm.out Hv.out).mono ?_
           rintro x w1 ⟨rfl, rfl⟩)
        refine (refFail_any A _ c at_ fa 0 4 _).mono ?_
        rintro x w1 ⟨rfl, hb1⟩
        have HR1 := Lib.hid (Blk.below HR.out hb1 HR.out.lt)
        have Hb1 := Lib.hid (HB.out.trans (hb1.mono HB.out.size))
        have s0 : w1.cell? ⟨w.heap.size + 1, 0, none⟩ = some (.slice none 0 0) := HR1.out.cell 0
        have s1 : w1.cell? ⟨w.heap.size + 1, 1, none⟩ = some (.int .i64 0) := HR1.out.cell 1
        have s2 : w1.cell? ⟨w.heap.size + 1, 2, none⟩ = some (.int .i64 0) := HR1.out.cell 2
        have s3 : w1.cell? ⟨w.heap.size + 1, 3, none⟩ = some (.int .i64 0) := HR1.out.cell 3
        have sf : ∀ i, w1.frozen? ⟨w.heap.size + 1, i, none⟩ = false := fun i => HR1.out.frozen i
        clear hb1 x0 x1 x2 x3 xf r0 r1 r2 r3 rf
        go_wp2
        exact ask_end HS.out rfl rfl rfl rfl rfl rfl rfl HR1.out Hb1.out (World.ownsRow_nil _ _ _ _)
      · have hT : textS l (at_, fa, 0) (mm : Int) = cutS l (at_, fa, 0) k q := by unfold textS; rw [hpk, if_neg (by simp only; omega)]
        have hwk : IntKind.i64.wrap ((l.length : Int) - (at_ : Int) - (k : Int)) = (l.length : Int) - (at_ : Int) - (k : Int) := IntWalk.i64_in _ (by omega)
        obtain ⟨lf, hlf⟩ : ∃ lf, l.length - at_ - k = lf := ⟨_, rfl⟩
        have hlfI : (l.length : Int) - (at_ : Int) - (k : Int) = (lf : Int) := by omega
        have hwl : IntKind.u64.wrap (lf : Int) = (lf : Int) := wrap_u64_nat lf (by omega)
        by_cases hsh : l.length < at_ + k + q
        · have HS : Hid (askS l (at_, fa, 0) kd (mm : Int) big = ((at_, at_, 2), 0, [])) := by show _ = _; rw [hS, hT, cut_short (by rfl) (by simp only; omega)]; rfl
          have hI : (lf : Int) < (q : Int) := by omega
          clear hS hpk hT hnn hq64
          obtain ⟨W, hW⟩ : ∃ W, W = (w.alloc (.cells #[.slice A l.length c, .int .i64 (at_ : Int), .int .i64 (fa : Int), .int .i64 0] 47)).alloc (.cells #[.slice none 0 0, .int .i64 0, .int .i64 0, .int .i64 0] 47) := ⟨_, rfl⟩
          have hX : Blk W w.heap.size 47 #[.slice A l.length c, .int .i64 (at_ : Int), .int .i64 (fa : Int), .int .i64 0] := by rw [hW]; exact Blk.alloc (Blk.new w _ _ _ rfl) _
          have hR : Blk W (w.heap.size + 1) 47 #[.slice none 0 0, .int .i64 0, .int .i64 0, .int .i64 0] := by rw [hW]; exact Blk.new _ _ _ _ (by simp)
          have hB : Below w.heap.size w W := by rw [hW]; exact ((Below.refl _ w).alloc (Nat.le_refl _) _).alloc (by simp) _
          have x0 : W.cell? ⟨w.heap.size, 0, none⟩ = some (.slice A l.length c) := hX.cell 0
          have x1 : W.cell? ⟨w.heap.size, 1, none⟩ = some (.int .i64 (at_ : Int)) := hX.cell 1
          have x2 : W.cell? ⟨w.heap.size, 2, none⟩ = some (.int .i64 (fa : Int)) := hX.cell 2
          have x3 : W.cell? ⟨w.heap.size, 3, none⟩ = some (.int .i64 0) := hX.cell 3
          have xf : ∀ i, W.frozen? ⟨w.heap.size, i, none⟩ = false := fun i => hX.frozen i
          have r0 : W.cell? ⟨w.heap.size + 1, 0, none⟩ = some (.slice none 0 0) := hR.cell 0
          have r1 : W.cell? ⟨w.heap.size + 1, 1, none⟩ = some (.int .i64 0) := hR.cell 1
          have r2 : W.cell? ⟨w.heap.size + 1, 2, none⟩ = some (.int .i64 0) := hR.cell 2
          have r3 : W.cell? ⟨w.heap.size + 1, 3, none⟩ = some (.int .i64 0) := hR.cell 3
          have rf : ∀ i, W.frozen? ⟨w.heap.size + 1, i, none⟩ = false := fun i => hR.frozen i
          have HX := Lib.hid hX
          have HR := Lib.hid hR
          have HB := Lib.hid hB
          have HW := Lib.hid hW
          clear hX hR hB hW
          go_enter Try.func24, Try.ntmps24
          go_upto_region 1 with fail
          rw [← HW.out]
          go_wp2_with
            (go_at_call 51
             refine (refGet_eq _ _ _ (l.drop at_) W W.heap.size Hgl.out (BS.more (BS.below (HcN.out hca) HB.out) HB.out.size) Hgm.out Hv.out).mono ?_
             rintro x w1 ⟨rfl, rfl⟩)
          refine (refFail_any A _ c at_ fa 0 2 _).mono ?_
          rintro x w1 ⟨rfl, hb1⟩
          have HR1 := Lib.hid (Blk.below HR.out hb1 HR.out.lt)
          have Hb1 := Lib.hid (HB.out.trans (hb1.mono HB.out.size))
          have s0 : w1.cell? ⟨w.heap.size + 1, 0, none⟩ = some (.slice none 0 0) := HR1.out.cell 0
          have s1 : w1.cell? ⟨w.heap.size + 1, 1, none⟩ = some (.int .i64 0) := HR1.out.cell 1
          have s2 : w1.cell? ⟨w.heap.size + 1, 2, none⟩ = some (.int .i64 0) := HR1.out.cell 2
          have s3 : w1.cell? ⟨w.heap.size + 1, 3, none⟩ = some (.int .i64 0) := HR1.out.cell 3
          have sf : ∀ i, w1.frozen? ⟨w.heap.size + 1, i, none⟩ = false := fun i => HR1.out.frozen i
          clear hb1 x0 x1 x2 x3 xf r0 r1 r2 r3 rf
          go_wp2
          exact ask_end HS.out rfl rfl rfl rfl rfl rfl rfl HR1.out Hb1.out (World.ownsRow_nil _ _ _ _)
        · have hI : ¬ (lf : Int) < (q : Int) := by omega
          obtain ⟨a2, ha2⟩ : ∃ a2, at_ + k = a2 := ⟨_, rfl⟩
          obtain ⟨bod, hbod⟩ : ∃ bod, (l.drop a2).take q = bod := ⟨_, rfl⟩
          obtain ⟨E, hE⟩ : ∃ E, a2 + q = E := ⟨_, rfl⟩
          have HS : Hid (askS l (at_, fa, 0) kd (mm : Int) big = ((E, fa, 0), 0, bod)) := by show _ = _; rw [hS, hT, cut_ok (by rfl) (by simp only; omega)]; simp only; rw [ha2, hE, hbod]
          have hbl : bod.length = q := by rw [← hbod, List.length_take, List.length_drop]; omega
          have hblm : bod.length ≤ 1000000000 := by omega
          have hw1 : IntKind.i64.wrap ((at_ : Int) + (k : Int)) = (at_ : Int) + (k : Int) := IntWalk.i64_in _ (by omega)
          have haI : (at_ : Int) + (k : Int) = (a2 : Int) := by omega
          have hwq : IntKind.i64.wrap (q : Int) = (q : Int) := IntWalk.i64_in _ (by omega)
          have hw2 : IntKind.i64.wrap ((a2 : Int) + (q : Int)) = (a2 : Int) + (q : Int) := IntWalk.i64_in _ (by omega)
          have hEI : (a2 : Int) + (q : Int) = (E : Int) := by omega
          have hEb : (E : Int) ≤ 1000000000 := by omega
          have hab : (a2 : Int) ≤ 1000000000 := by omega
          have g0 : (0 : Int) ≤ (a2 : Int) := by omega
          have g2 : (a2 : Int) ≤ (E : Int) := by omega
          have g3 : (E : Int) ≤ (c : Int) := by omega
          have HL : Hid (E - a2 = bod.length) := by show _ = _; omega
          have hbs0 : BS w w.heap.size (if c = a2 then A else A.map (·.add a2)) bod := by
            have := (HB0.out.drop (k := a2) (cap := c) hc).take q
            rw [hbod] at this
            exact this
          have HbP : Hid (c = a2 → BS w w.heap.size A bod) := fun e => by rw [if_pos e] at hbs0; exact hbs0
          have HbN : Hid (¬ c = a2 → BS w w.heap.size (A.map (·.add a2)) bod) := fun e => by rw [if_neg e] at hbs0; exact hbs0
          have HbI := Lib.hid hbs0
          clear hbs0 hS hpk hT hbod hbl hnn hq64 hlf hE ha2
          obtain ⟨W, hW⟩ : ∃ W, W = (w.alloc (.cells #[.slice A l.length c, .int .i64 (at_ : Int), .int .i64 (fa : Int), .int .i64 0] 47)).alloc (.cells #[.slice none 0 0, .int .i64 0, .int .i64 0, .int .i64 0] 47) := ⟨_, rfl⟩
          have hX : Blk W w.heap.size 47 #[.slice A l.length c, .int .i64 (at_ : Int), .int .i64 (fa : Int), .int .i64 0] := by rw [hW]; exact Blk.alloc (Blk.new w _ _ _ rfl) _
          have hR : Blk W (w.heap.size + 1) 47 #[.slice none 0 0, .int .i64 0, .int .i64 0, .int .i64 0] := by rw [hW]; exact Blk.new _ _ _ _ (by simp)
          have hB : Below w.heap.size w W := by rw [hW]; exact ((Below.refl _ w).alloc (Nat.le_refl _) _).alloc (by simp) _
          have x0 : W.cell? ⟨w.heap.size, 0, none⟩ = some (.slice A l.length c) := hX.cell 0
          have x1 : W.cell? ⟨w.heap.size, 1, none⟩ = some (.int .i64 (at_ : Int)) := hX.cell 1
          have x2 : W.cell? ⟨w.heap.size, 2, none⟩ = some (.int .i64 (fa : Int)) := hX.cell 2
          have x3 : W.cell? ⟨w.heap.size, 3, none⟩ = some (.int .i64 0) := hX.cell 3
          have xf : ∀ i, W.frozen? ⟨w.heap.size, i, none⟩ = false := fun i => hX.frozen i
          have r0 : W.cell? ⟨w.heap.size + 1, 0, none⟩ = some (.slice none 0 0) := hR.cell 0
          have r1 : W.cell? ⟨w.heap.size + 1, 1, none⟩ = some (.int .i64 0) := hR.cell 1
          have r2 : W.cell? ⟨w.heap.size + 1, 2, none⟩ = some (.int .i64 0) := hR.cell 2
          have r3 : W.cell? ⟨w.heap.size + 1, 3, none⟩ = some (.int .i64 0) := hR.cell 3
          have rf : ∀ i, W.frozen? ⟨w.heap.size + 1, i, none⟩ = false := fun i => hR.frozen i
          have HX := Lib.hid hX
          have HR := Lib.hid hR
          have HB := Lib.hid hB
          have HW := Lib.hid hW
          clear hX hR hB hW
          go_enter Try.func24, Try.ntmps24
          go_upto_region 1 with fail
          rw [← HW.out]
          have y0 : ∀ o, (W.alloc o).cell? ⟨w.heap.size, 0, none⟩ = some (.slice A l.length c) := fun o => Blk.cell (Blk.alloc HX.out o) 0
          have y1 : ∀ o, (W.alloc o).cell? ⟨w.heap.size, 1, none⟩ = some (.int .i64 (at_ : Int)) := fun o => Blk.cell (Blk.alloc HX.out o) 1
          go_wp2_with
            (first
            | (go_at_call 51
               refine (refGet_eq _ _ _ (l.drop at_) W W.heap.size Hgl.out (BS.more (BS.below (HcN.out hca) HB.out) HB.out.size) Hgm.out Hv.out).mono ?_
               rintro x w1 ⟨rfl, rfl⟩)
            | (at_builtin
               refine wpList_append_bytes _ rfl _ _ 22 rfl w.heap.size 5 i0 (.int .u8 0) 1 Try.underlying22 hi0 hz0 hz1 hz2 rfl (.slice (some ⟨W.heap.size, 0, none⟩) 0 0) [] rfl (own_none W _ _ HB.out.size _ rfl) (W.alloc (.cells #[] 5)).heap.size _ _ _ bod rfl HL.out ?_ ?_ ?_ ?_ ?_
               · go_loud (first | exact BS.more (BS.below HbI.out (HB.out.trans (((Below.refl _ W).alloc (Nat.le_refl _) (.cells #[] 5)).mono HB.out.size))) (Nat.le_trans HB.out.size (by simp)) | exact BS.more (BS.below (HbP.out (by assumption)) (HB.out.trans (((Below.refl _ W).alloc (Nat.le_refl _) (.cells #[] 5)).mono HB.out.size))) (Nat.le_trans HB.out.size (by simp)) | exact BS.more (BS.below (HbN.out (by assumption)) (HB.out.trans (((Below.refl _ W).alloc (Nat.le_refl _) (.cells #[] 5)).mono HB.out.size))) (Nat.le_trans HB.out.size (by simp)))
               · go_loud (simp; unfold maxLen; omega)
               · go_loud (simp; omega)
               · go_loud (exact Nat.le_trans HB.out.size (by simp))
               intro A5 c5 w5 hown5 hg5 _
               have Hg5 : Hid (Below W.heap.size W w5) := ((Below.refl _ W).alloc (Nat.le_refl _) (.cells #[] 5)).grown hg5 (by simp) (fun k hk => by simp [Value.ownBlock] at hk; omega)
               have hown5' : w5.ownsRow w.heap.size 5 1 (.slice A5 bod.length c5) bod.length (bcells bod) := by simpa using hown5
               have Hown5 := Lib.hid hown5'
               have HX5 := Lib.hid (Blk.below HX.out Hg5.out HX.out.lt)
               have HR5 := Lib.hid (Blk.below HR.out Hg5.out HR.out.lt)
               have HB5 := Lib.hid (HB.out.trans (Hg5.out.mono HB.out.size))
               have u0 : w5.cell? ⟨w.heap.size, 0, none⟩ = some (.slice A l.length c) := HX5.out.cell 0
               have u1 : w5.cell? ⟨w.heap.size, 1, none⟩ = some (.int .i64 (at_ : Int)) := HX5.out.cell 1
               have u2 : w5.cell? ⟨w.heap.size, 2, none⟩ = some (.int .i64 (fa : Int)) := HX5.out.cell 2
               have u3 : w5.cell? ⟨w.heap.size, 3, none⟩ = some (.int .i64 0) := HX5.out.cell 3
               have uf : ∀ i, w5.frozen? ⟨w.heap.size, i, none⟩ = false := fun i => HX5.out.frozen i
               have s0 : w5.cell? ⟨w.heap.size + 1, 0, none⟩ = some (.slice none 0 0) := HR5.out.cell 0
               have s1 : w5.cell? ⟨w.heap.size + 1, 1, none⟩ = some (.int .i64 0) := HR5.out.cell 1
               have s2 : w5.cell? ⟨w.heap.size + 1, 2, none⟩ = some (.int .i64 0) := HR5.out.cell 2
               have s3 : w5.cell? ⟨w.heap.size + 1, 3, none⟩ = some (.int .i64 0) := HR5.out.cell 3
               have sf : ∀ i, w5.frozen? ⟨w.heap.size + 1, i, none⟩ = false := fun i => HR5.out.frozen i
               clear hown5 hown5' hg5 x0 x1 x2 x3 xf r0 r1 r2 r3 rf y0 y1))
          all_goals
              exact ask_end (b := bod) HS.out rfl rfl rfl (by simp) rfl rfl rfl (Blk.far HR5.out (p := ⟨w.heap.size, 1, none⟩) (by simp) _) (HB5.out.setCell (Nat.le_refl _) _) (Hown5.out.kept (grownSet w5 ⟨w.heap.size, 1, none⟩ _) (own_blk_ne Hown5.out HX5.out (by decide)))
  · have hbad := vget_bad hv he
    obtain ⟨rfl, rfl, _⟩ := hbad
    have hpk : peekS l (at_, fa, 0) = ((at_, at_, e), 0, 0) := by unfold peekS; rw [if_neg (by simp)]; simp only; rw [hv, if_pos he]; rfl
    have HS : Hid (askS l (at_, fa, 0) kd nn big = ((at_, at_, e), 0, [])) := by
      show _ = _
      rw [hS]
      unfold textS
      rw [hpk]
      split
      · unfold failS; rw [if_neg (by simpa using he)]
      · rw [cut_fault (by simpa using he)]
    have heI : ((e : Int) != 0) = true := by simp; omega
    clear hS hpk hv he hnn
    obtain ⟨W, hW⟩ : ∃ W, W = (w.alloc (.cells #[.slice A l.length c, .int .i64 (at_ : Int), .int .i64 (fa : Int), .int .i64 0] 47)).alloc (.cells #[.slice none 0 0, .int .i64 0, .int .i64 0, .int .i64 0] 47) := ⟨_, rfl⟩
    have hX : Blk W w.heap.size 47 #[.slice A l.length c, .int .i64 (at_ : Int), .int .i64 (fa : Int), .int .i64 0] := by rw [hW]; exact Blk.alloc (Blk.new w _ _ _ rfl) _
    have hR : Blk W (w.heap.size + 1) 47 #[.slice none 0 0, .int .i64 0, .int .i64 0, .int .i64 0] := by rw [hW]; exact Blk.new _ _ _ _ (by simp)
    have hB : Below w.heap.size w W := by rw [hW]; exact ((Below.refl _ w).alloc (Nat.le_refl _) _).alloc (by simp) _
    have x0 : W.cell? ⟨w.heap.size, 0, none⟩ = some (.slice A l.length c) := hX.cell 0
    have x1 : W.cell? ⟨w.heap.size, 1, none⟩ = some (.int .i64 (at_ : Int)) := hX.cell 1
    have x2 : W.cell? ⟨w.heap.size, 2, none⟩ = some (.int .i64 (fa : Int)) := hX.cell 2
    have x3 : W.cell? ⟨w.heap.size, 3, none⟩ = some (.int .i64 0) := hX.cell 3
    have xf : ∀ i, W.frozen? ⟨w.heap.size, i, none⟩ = false := fun i => hX.frozen i
    have r0 : W.cell? ⟨w.heap.size + 1, 0, none⟩ = some (.slice none 0 0) := hR.cell 0
    have r1 : W.cell? ⟨w.heap.size + 1, 1, none⟩ = some (.int .i64 0) := hR.cell 1
    have r2 : W.cell? ⟨w.heap.size + 1, 2, none⟩ = some (.int .i64 0) := hR.cell 2
    have r3 : W.cell? ⟨w.heap.size + 1, 3, none⟩ = some (.int .i64 0) := hR.cell 3
    have rf : ∀ i, W.frozen? ⟨w.heap.size + 1, i, none⟩ = false := fun i => hR.frozen i
    have HX := Lib.hid hX
    have HR := Lib.hid hR
    have HB := Lib.hid hB
    have HW := Lib.hid hW
    clear hX hR hB hW
    go_enter Try.func24, Try.ntmps24
    go_upto_region 1 with fail
    rw [← HW.out]
    go_wp2_with
      (go_at_call 51
       refine (refGet_eq _ _ _ (l.drop at_) W W.heap.size Hgl.out (BS.more (BS.below (HcN.out hca) HB.out) HB.out.size) Hgm.out Hv.out).mono ?_
       rintro x w1 ⟨rfl, rfl⟩)
    refine (refFail_any A _ c at_ fa 0 e _).mono ?_
    rintro x w1 ⟨rfl, hb1⟩
    have HR1 := Lib.hid (Blk.below HR.out hb1 HR.out.lt)
    have Hb1 := Lib.hid (HB.out.trans (hb1.mono HB.out.size))
    have s0 : w1.cell? ⟨w.heap.size + 1, 0, none⟩ = some (.slice none 0 0) := HR1.out.cell 0
    have s1 : w1.cell? ⟨w.heap.size + 1, 1, none⟩ = some (.int .i64 0) := HR1.out.cell 1
    have s2 : w1.cell? ⟨w.heap.size + 1, 2, none⟩ = some (.int .i64 0) := HR1.out.cell 2
    have s3 : w1.cell? ⟨w.heap.size + 1, 3, none⟩ = some (.int .i64 0) := HR1.out.cell 3
    have sf : ∀ i, w1.frozen? ⟨w.heap.size + 1, i, none⟩ = false := fun i => HR1.out.frozen i
    clear hb1 x0 x1 x2 x3 xf r0 r1 r2 r3 rf
    go_wp2
    exact ask_end HS.out rfl rfl rfl rfl rfl rfl rfl HR1.out Hb1.out (World.ownsRow_nil _ _ _ _)

set_option maxHeartbeats 1000000 in
set_option maxRecDepth 100000 in
theorem ask_varE (A : Option Addr) (l : List UInt8) (at_ fa fe : Nat) (nn : Int) (big : Bool) (w : World) (hb : BS w w.heap.size A l) (hc : l.length ≤ at_) (hl : l.length ≤ 1000000000) (ha : at_ ≤ l.length) (hfe : fe = 0) :
    Calls Try.prog 24 #[.agg #[.slice A l.length at_, .int .i64 (at_ : Int), .int .i64 (fa : Int), .int .i64 (fe : Int)], .int .i64 2, .int .i64 nn, .bool big] w (AskIs w A l.length at_ (askS l (at_, fa, fe) 2 nn big)) := by
  have HB0 := Lib.hid hb
  clear hb
  subst hfe
  have hS : askS l (at_, fa, 0) 2 nn big = ((varS l (at_, fa, 0)).1, (varS l (at_, fa, 0)).2, []) := by unfold askS; rw [if_neg (by simp), if_neg (by omega), if_neg (by omega), if_neg (by omega), if_pos rfl]
  rcases hv : vgetS (l.drop at_) with ⟨q, k, e⟩
  have Hv := Lib.hid hv
  have hsl : BS w w.heap.size (if at_ = at_ then A else A.map (·.add at_)) (l.drop at_) := HB0.out.drop hc
  have HcP : Hid (at_ = at_ → BS w w.heap.size A (l.drop at_)) := fun e => by rw [if_pos e] at hsl; exact hsl
  have HcN : Hid (¬ at_ = at_ → BS w w.heap.size (A.map (·.add at_)) (l.drop at_)) := fun e => by rw [if_neg e] at hsl; exact hsl
  have HcI := Lib.hid hsl
  clear hsl
  have Hgl : Hid (0 = (l.drop at_).length) := by show _ = _; rw [List.length_drop]; omega
  have Hgm : Hid (0 ≤ maxLen) := by show _ ≤ maxLen; unfold maxLen; omega
  have g1 : (0 : Int) ≤ (at_ : Int) := by omega
  have gal : (at_ : Int) ≤ (l.length : Int) := by omega
  by_cases he : e = 0
  · exfalso
    subst he
    have h1 := vget_only hv
    have h2 := h1.2.1
    have h3 := h1.2.2.1
    rw [List.length_drop] at h3
    omega
  · have hbad := vget_bad hv he
    obtain ⟨rfl, rfl, _⟩ := hbad
    have hpk : peekS l (at_, fa, 0) = ((at_, at_, e), 0, 0) := by unfold peekS; rw [if_neg (by simp)]; simp only; rw [hv, if_pos he]; rfl
    have HS : Hid (askS l (at_, fa, 0) 2 nn big = ((at_, at_, e), 0, [])) := by show _ = _; rw [hS]; unfold varS; rw [hpk]; rfl
    have heI : ((e : Int) != 0) = true := by simp; omega
    clear hS hpk hv he
    obtain ⟨W, hW⟩ : ∃ W, W = (w.alloc (.cells #[.slice A l.length at_, .int .i64 (at_ : Int), .int .i64 (fa : Int), .int .i64 0] 47)).alloc (.cells #[.slice none 0 0, .int .i64 0, .int .i64 0, .int .i64 0] 47) := ⟨_, rfl⟩
    have hX : Blk W w.heap.size 47 #[.slice A l.length at_, .int .i64 (at_ : Int), .int .i64 (fa : Int), .int .i64 0] := by rw [hW]; exact Blk.alloc (Blk.new w _ _ _ rfl) _
    have hR : Blk W (w.heap.size + 1) 47 #[.slice none 0 0, .int .i64 0, .int .i64 0, .int .i64 0] := by rw [hW]; exact Blk.new _ _ _ _ (by simp)
    have hB : Below w.heap.size w W := by rw [hW]; exact ((Below.refl _ w).alloc (Nat.le_refl _) _).alloc (by simp) _
    have x0 : W.cell? ⟨w.heap.size, 0, none⟩ = some (.slice A l.length at_) := hX.cell 0
    have x1 : W.cell? ⟨w.heap.size, 1, none⟩ = some (.int .i64 (at_ : Int)) := hX.cell 1
    have x2 : W.cell? ⟨w.heap.size, 2, none⟩ = some (.int .i64 (fa : Int)) := hX.cell 2
    have x3 : W.cell? ⟨w.heap.size, 3, none⟩ = some (.int .i64 0) := hX.cell 3
    have xf : ∀ i, W.frozen? ⟨w.heap.size, i, none⟩ = false := fun i => hX.frozen i
    have r0 : W.cell? ⟨w.heap.size + 1, 0, none⟩ = some (.slice none 0 0) := hR.cell 0
    have r1 : W.cell? ⟨w.heap.size + 1, 1, none⟩ = some (.int .i64 0) := hR.cell 1
    have r2 : W.cell? ⟨w.heap.size + 1, 2, none⟩ = some (.int .i64 0) := hR.cell 2
    have r3 : W.cell? ⟨w.heap.size + 1, 3, none⟩ = some (.int .i64 0) := hR.cell 3
    have rf : ∀ i, W.frozen? ⟨w.heap.size + 1, i, none⟩ = false := fun i => hR.frozen i
    have HX := Lib.hid hX
    have HR := Lib.hid hR
    have HB := Lib.hid hB
    have HW := Lib.hid hW
    clear hX hR hB hW
    go_enter Try.func24, Try.ntmps24
    go_upto_region 1 with fail
    rw [← HW.out]
    go_wp2_with
      (go_at_call 51
       refine (refGet_eq _ _ _ (l.drop at_) W W.heap.size Hgl.out (BS.more (BS.below (HcP.out rfl) HB.out) HB.out.size) Hgm.out Hv.out).mono ?_
       rintro x w1 ⟨rfl, rfl⟩)
    refine (refFail_any A _ at_ at_ fa 0 e _).mono ?_
    rintro x w1 ⟨rfl, hb1⟩
    have HR1 := Lib.hid (Blk.below HR.out hb1 HR.out.lt)
    have Hb1 := Lib.hid (HB.out.trans (hb1.mono HB.out.size))
    have s0 : w1.cell? ⟨w.heap.size + 1, 0, none⟩ = some (.slice none 0 0) := HR1.out.cell 0
    have s1 : w1.cell? ⟨w.heap.size + 1, 1, none⟩ = some (.int .i64 0) := HR1.out.cell 1
    have s2 : w1.cell? ⟨w.heap.size + 1, 2, none⟩ = some (.int .i64 0) := HR1.out.cell 2
    have s3 : w1.cell? ⟨w.heap.size + 1, 3, none⟩ = some (.int .i64 0) := HR1.out.cell 3
    have sf : ∀ i, w1.frozen? ⟨w.heap.size + 1, i, none⟩ = false := fun i => HR1.out.frozen i
    clear hb1 x0 x1 x2 x3 xf r0 r1 r2 r3 rf
    go_wp2
    exact ask_end HS.out rfl rfl rfl rfl rfl rfl rfl HR1.out Hb1.out (World.ownsRow_nil _ _ _ _)

set_option maxHeartbeats 1000000 in
set_option maxRecDepth 100000 in
theorem ask_textE (A : Option Addr) (l : List UInt8) (at_ fa fe : Nat) (kd : Int) (nn : Int) (big : Bool) (w : World) (hb : BS w w.heap.size A l) (hc : l.length ≤ at_) (hl : l.length ≤ 1000000000) (ha : at_ ≤ l.length) (hfe : fe = 0) (k1 : kd ≠ 1) (k2 : kd ≠ 2) (k3 : kd ≠ 3) (k5 : kd ≠ 5) (hnn : nn < 9223372036854775808) :
    Calls Try.prog 24 #[.agg #[.slice A l.length at_, .int .i64 (at_ : Int), .int .i64 (fa : Int), .int .i64 (fe : Int)], .int .i64 kd, .int .i64 nn, .bool big] w (AskIs w A l.length at_ (askS l (at_, fa, fe) kd nn big)) := by
  have HB0 := Lib.hid hb
  clear hb
  subst hfe
  obtain ⟨i0, hi0, hz0, hz1, hz2⟩ := info_parts u8_infoO
  have hS : askS l (at_, fa, 0) kd nn big = ((textS l (at_, fa, 0) nn).1, 0, (textS l (at_, fa, 0) nn).2) := by unfold askS; rw [if_neg (by simp), if_neg k1, if_neg k3, if_neg k5, if_neg k2]
  have m1 : (kd == 1) = false := by simp; exact k1
  have m2 : (kd == 2) = false := by simp; exact k2
  have m3 : (kd == 3) = false := by simp; exact k3
  have m5 : (kd == 5) = false := by simp; exact k5
  clear k1 k2 k3 k5
  rcases hv : vgetS (l.drop at_) with ⟨q, k, e⟩
  have Hv := Lib.hid hv
  have hsl : BS w w.heap.size (if at_ = at_ then A else A.map (·.add at_)) (l.drop at_) := HB0.out.drop hc
  have HcP : Hid (at_ = at_ → BS w w.heap.size A (l.drop at_)) := fun e => by rw [if_pos e] at hsl; exact hsl
  have HcN : Hid (¬ at_ = at_ → BS w w.heap.size (A.map (·.add at_)) (l.drop at_)) := fun e => by rw [if_neg e] at hsl; exact hsl
  have HcI := Lib.hid hsl
  clear hsl
  have Hgl : Hid (0 = (l.drop at_).length) := by show _ = _; rw [List.length_drop]; omega
  have Hgm : Hid (0 ≤ maxLen) := by show _ ≤ maxLen; unfold maxLen; omega
  have g1 : (0 : Int) ≤ (at_ : Int) := by omega
  have gal : (at_ : Int) ≤ (l.length : Int) := by omega
  by_cases he : e = 0
  · exfalso
    subst he
    have h1 := vget_only hv
    have h2 := h1.2.1
    have h3 := h1.2.2.1
    rw [List.length_drop] at h3
    omega
  · have hbad := vget_bad hv he
    obtain ⟨rfl, rfl, _⟩ := hbad
    have hpk : peekS l (at_, fa, 0) = ((at_, at_, e), 0, 0) := by unfold peekS; rw [if_neg (by simp)]; simp only; rw [hv, if_pos he]; rfl
    have HS : Hid (askS l (at_, fa, 0) kd nn big = ((at_, at_, e), 0, [])) := by
      show _ = _
      rw [hS]
      unfold textS
      rw [hpk]
      split
      · unfold failS; rw [if_neg (by simpa using he)]
      · rw [cut_fault (by simpa using he)]
    have heI : ((e : Int) != 0) = true := by simp; omega
    clear hS hpk hv he hnn
    obtain ⟨W, hW⟩ : ∃ W, W = (w.alloc (.cells #[.slice A l.length at_, .int .i64 (at_ : Int), .int .i64 (fa : Int), .int .i64 0] 47)).alloc (.cells #[.slice none 0 0, .int .i64 0, .int .i64 0, .int .i64 0] 47) := ⟨_, rfl⟩
    have hX : Blk W w.heap.size 47 #[.slice A l.length at_, .int .i64 (at_ : Int), .int .i64 (fa : Int), .int .i64 0] := by rw [hW]; exact Blk.alloc (Blk.new w _ _ _ rfl) _
    have hR : Blk W (w.heap.size + 1) 47 #[.slice none 0 0, .int .i64 0, .int .i64 0, .int .i64 0] := by rw [hW]; exact Blk.new _ _ _ _ (by simp)
    have hB : Below w.heap.size w W := by rw [hW]; exact ((Below.refl _ w).alloc (Nat.le_refl _) _).alloc (by simp) _
    have x0 : W.cell? ⟨w.heap.size, 0, none⟩ = some (.slice A l.length at_) := hX.cell 0
    have x1 : W.cell? ⟨w.heap.size, 1, none⟩ = some (.int .i64 (at_ : Int)) := hX.cell 1
    have x2 : W.cell? ⟨w.heap.size, 2, none⟩ = some (.int .i64 (fa : Int)) := hX.cell 2
    have x3 : W.cell? ⟨w.heap.size, 3, none⟩ = some (.int .i64 0) := hX.cell 3
    have xf : ∀ i, W.frozen? ⟨w.heap.size, i, none⟩ = false := fun i => hX.frozen i
    have r0 : W.cell? ⟨w.heap.size + 1, 0, none⟩ = some (.slice none 0 0) := hR.cell 0
    have r1 : W.cell? ⟨w.heap.size + 1, 1, none⟩ = some (.int .i64 0) := hR.cell 1
    have r2 : W.cell? ⟨w.heap.size + 1, 2, none⟩ = some (.int .i64 0) := hR.cell 2
    have r3 : W.cell? ⟨w.heap.size + 1, 3, none⟩ = some (.int .i64 0) := hR.cell 3
    have rf : ∀ i, W.frozen? ⟨w.heap.size + 1, i, none⟩ = false := fun i => hR.frozen i
    have HX := Lib.hid hX
    have HR := Lib.hid hR
    have HB := Lib.hid hB
    have HW := Lib.hid hW
    clear hX hR hB hW
    go_enter Try.func24, Try.ntmps24
    go_upto_region 1 with fail
    rw [← HW.out]
    go_wp2_with
      (go_at_call 51
       refine (refGet_eq _ _ _ (l.drop at_) W W.heap.size Hgl.out (BS.more (BS.below (HcP.out rfl) HB.out) HB.out.size) Hgm.out Hv.out).mono ?_
       rintro x w1 ⟨rfl, rfl⟩)
    refine (refFail_any A _ at_ at_ fa 0 e _).mono ?_
    rintro x w1 ⟨rfl, hb1⟩
    have HR1 := Lib.hid (Blk.below HR.out hb1 HR.out.lt)
    have Hb1 := Lib.hid (HB.out.trans (hb1.mono HB.out.size))
    have s0 : w1.cell? ⟨w.heap.size + 1, 0, none⟩ = some (.slice none 0 0) := HR1.out.cell 0
    have s1 : w1.cell? ⟨w.heap.size + 1, 1, none⟩ = some (.int .i64 0) := HR1.out.cell 1
    have s2 : w1.cell? ⟨w.heap.size + 1, 2, none⟩ = some (.int .i64 0) := HR1.out.cell 2
    have s3 : w1.cell? ⟨w.heap.size + 1, 3, none⟩ = some (.int .i64 0) := HR1.out.cell 3
    have sf : ∀ i, w1.frozen? ⟨w.heap.size + 1, i, none⟩ = false := fun i => HR1.out.frozen i
    clear hb1 x0 x1 x2 x3 xf r0 r1 r2 r3 rf
    go_wp2
    exact ask_end HS.out rfl rfl rfl rfl rfl rfl rfl HR1.out Hb1.out (World.ownsRow_nil _ _ _ _)

theorem ask_any (A : Option Addr) (c : Nat) (l : List UInt8) (s : St) (kd nn : Int) (big : Bool) (w : World) (hb : BS w w.heap.size A l) (hc : l.length ≤ c) (hl : l.length ≤ 1000000000) (ok : okS l s) (hnn : nn < 9223372036854775808) :
    Calls Try.prog 24 #[.agg #[.slice A l.length c, .int .i64 (s.1 : Int), .int .i64 (s.2.1 : Int), .int .i64 (s.2.2 : Int)], .int .i64 kd, .int .i64 nn, .bool big] w (AskIs w A l.length c (askS l s kd nn big)) := by
  obtain ⟨at_, fa, fe⟩ := s
  have ha : at_ ≤ l.length := ok.1
  by_cases hfe : fe = 0
  · by_cases k1 : kd = 1
    · subst k1; exact ask_num A c l at_ fa fe nn big w hb hc hl ha hfe
    · by_cases k3 : kd = 3
      · subst k3; exact ask_take A c l at_ fa fe nn big w hb hc hl ha hfe hnn
      · by_cases k5 : kd = 5
        · subst k5; exact ask_five A c l at_ fa fe nn big w hb hc hl ha hfe
        · by_cases k2 : kd = 2
          · subst k2
            by_cases hca : c = at_
            · subst hca; exact ask_varE A l c fa fe nn big w hb hc hl ha hfe
            · exact ask_varN A c l at_ fa fe nn big w hb hc hl ha hca hfe
          · by_cases hca : c = at_
            · subst hca; exact ask_textE A l c fa fe kd nn big w hb hc hl ha hfe k1 k2 k3 k5 hnn
            · exact ask_textN A c l at_ fa fe kd nn big w hb hc hl ha hca hfe k1 k2 k3 k5 hnn
  · exact ask_fault A c l at_ fa fe kd nn big w hb hc hl ha hfe
end Go.Proofs.Ytpeknjbcjpdmnab
