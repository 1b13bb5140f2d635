/- The document's Put, of a right event (printed by gen_evpu.py). -/
import Derived.Test.YtgohhojoahlfiaaEvPt
import Derived.Deep.Cut
import Derived.Deep.CutRange
namespace Go.Proofs.Ytgohhojoahlfiaa
open Go.RowKit
set_option linter.unusedVariables false
set_option linter.unusedSimpArgs false

/-- Two boxes, and the row. -/
structure RSt (B : Nat) (w0 wr : World) (g1 : Nat) (t1 : TypeId) (cs1 : Array Value) (g2 : Nat) (t2 : TypeId) (cs2 : Array Value) (A : Option Addr) (c : Nat) (m : List UInt8) : Prop where
  b1 : Blk wr g1 t1 cs1
  b2 : Blk wr g2 t2 cs2
  n1 : t1 ≠ 5
  n2 : t2 ≠ 5
  own : wr.ownsRow B 5 1 (.slice A m.length c) m.length (bcells m)
  gu : GU B w0 wr
  le : B ≤ wr.heap.size
section
variable {B : Nat} {w0 wr w' : World} {g1 g2 : Nat} {t1 t2 : TypeId} {cs1 cs2 : Array Value} {A A' : Option Addr} {c c' : Nat} {m m' : List UInt8}
theorem RSt.step (h : RSt B w0 wr g1 t1 cs1 g2 t2 cs2 A c m) (hg : GU B wr w') (ho : w'.ownsRow B 5 1 (.slice A' m'.length c') m'.length (bcells m')) : RSt B w0 w' g1 t1 cs1 g2 t2 cs2 A' c' m' :=
  ⟨hg.blk h.b1 h.n1, hg.blk h.b2 h.n2, h.n1, h.n2, ho, h.gu.trans hg, Nat.le_trans h.le hg.size⟩
theorem RSt.below (h : RSt B w0 wr g1 t1 cs1 g2 t2 cs2 A c m) (hb : Below wr.heap.size wr w') : RSt B w0 w' g1 t1 cs1 g2 t2 cs2 A c m := h.step (GU.of_below hb) (own_below h.own hb)
theorem RSt.alloc (h : RSt B w0 wr g1 t1 cs1 g2 t2 cs2 A c m) (o : Obj) : RSt B w0 (wr.alloc o) g1 t1 cs1 g2 t2 cs2 A c m := h.below ((Below.refl _ _).alloc (Nat.le_refl _) _)
theorem RSt.drew (h : RSt B w0 wr g1 t1 cs1 g2 t2 cs2 A c m) : RSt B w0 wr.drew g1 t1 cs1 g2 t2 cs2 A c m := h.below (Below.refl _ _).drew
theorem RSt.grow (h : RSt B w0 wr g1 t1 cs1 g2 t2 cs2 A c m) (hg : wr.grownBy w' (Value.slice A m.length c).ownBlock) (ho : w'.ownsRow B 5 1 (.slice A' m'.length c') m'.length (bcells m')) : RSt B w0 w' g1 t1 cs1 g2 t2 cs2 A' c' m' := h.step (GU.of_grown h.own hg) ho
theorem RSt.bs (h : RSt B w0 wr g1 t1 cs1 g2 t2 cs2 A c m) {X : Option Addr} {l : List UInt8} (hx : BS w0 B X l) (hB : B ≤ w0.heap.size) : BS wr wr.heap.size X l := (hx.below (h.gu.below hB)).more h.le
end
theorem own_lit (w : World) (l : List UInt8) (B : Nat) (hB : B ≤ w.heap.size) (hl : l.length ≤ 1000) (cs : Array Value) (h : cs = (bcells l).toArray) : (w.alloc (.cells cs 5)).ownsRow B 5 1 (.slice (some ⟨w.heap.size, 0, none⟩) l.length l.length) l.length (bcells l) := by
  subst h
  have hx : Blk (w.alloc (.cells (bcells l).toArray 5)) w.heap.size 5 (bcells l).toArray := Blk.new w _ _ _ rfl
  have hlen : (bcells l).length = l.length := bcells_length l
  exact ⟨by rw [hlen, Nat.mul_one], .inr ⟨w.heap.size, l.length, (bcells l).toArray, rfl, hB, hx, Nat.le_refl _, by unfold maxLen; omega, by rw [List.size_toArray, hlen, Nat.mul_one], by rw [Nat.mul_one, ← hlen, List.take_length]⟩⟩
theorem rtextN (B : Nat) (A : Option Addr) (n c : Nat) (m x : List UInt8) (w : World) (hn : n = m.length) (hB : B ≤ w.heap.size) (hown : w.ownsRow B 5 1 (.slice A m.length c) m.length (bcells m)) (hx : x.length ≤ 1000000) (hm : m.length ≤ 1000000) :
    Calls Try.prog 50 #[.slice A n c, .string ⟨x.toArray⟩] w (RowIs B w (m ++ textB x)) := by
  subst hn
  exact rtextD_any B A c m x w hB hown hx hm
theorem putS1_is (p : Nat) : putS 1 p true = [UInt8.ofNat (p % 256)] := rfl
theorem u8_of {z : Int} (h0 : 0 ≤ z) (h1 : z ≤ 255) : z = ((UInt8.ofNat (z.toNat % 256)).toNat : Int) := by rw [UInt8.toNat_ofNat']; omega
theorem refPutS (n s : Nat) (w : World) (hn : n < 18446744073709551616) (hs : s = 4) : Calls Try.prog 54 #[.int .u64 (n : Int), .int .i64 4, .bool false] w fun e w' => ∃ A c, e = .returned (.slice A (putS 4 n false).length c) ∧ w'.ownsRow w.heap.size 5 1 (.slice A (putS 4 n false).length c) (putS 4 n false).length (bcells (putS 4 n false)) ∧ Below w.heap.size w w' :=
  refPut_x false n 4 w hn

set_option maxHeartbeats 1000000 in
set_option maxRecDepth 100000 in
theorem rputE_any (A : Option Addr) (c : Nat) (A2 : Option Addr) (c2 : Nat) (e : EvP) (hs0 : EvShape e) (hr : rightEB e = true) (w : World) (hf0 : BS w w.heap.size A e.act.frame) :
    Calls Try.prog 21 #[.agg (evCs A e.act.frame.length c A2 e.o.out.length c2 e).toArray] w (RowIs w.heap.size w (evBytes e)) := by
  obtain ⟨i0, hi0, hz0, hz1, hz2⟩ := info_parts u8_infoO
  have hs := Lib.hid hs0
  have Hf := Lib.hid hf0
  obtain ⟨B, hB⟩ : ∃ B, B = w.heap.size := ⟨_, rfl⟩
  have HB := Lib.hid hB
  have hlen := evBytes_len hs0 hr
  simp only [rightEB, plainB, toldB, Bool.and_eq_true, decide_eq_true_eq, inZ_iff] at hr
  obtain ⟨⟨hk, hop, _, hfr, hon, hnm, hbn, hbp⟩, he, hre, hv, hon2, ho, hl⟩ := hr
  have Hoo := Lib.hid ho
  clear ho
  obtain ⟨hk1, hk2⟩ := hk
  obtain ⟨he1, he2⟩ := he
  obtain ⟨hre1, hre2⟩ := hre
  obtain ⟨hv1, hv2⟩ := hv
  obtain ⟨hl1, hl2⟩ := hl
  have hop' : e.act.kind = 2 → 1 ≤ e.act.op ∧ e.act.op ≤ 5 := fun h => by
    have h2 := hop
    rw [h] at h2
    simp only [bne_self_eq_false, Bool.false_or] at h2
    exact inZ_iff.1 h2
  have Hop := Lib.hid hop'
  have htold : Hid (toldB e.act.back = true) := by
    show _ = _
    unfold toldB
    simp only [Bool.and_eq_true, decide_eq_true_eq, inZ_iff]
    exact ⟨hbn, hbp⟩
  obtain ⟨W0, hW⟩ : ∃ W, W = w.alloc (.cells (evCs A e.act.frame.length c A2 e.o.out.length c2 e).toArray 39) := ⟨_, rfl⟩
  obtain ⟨W1, hW1⟩ : ∃ W, W = W0.alloc (.cells (actCs none 0 0 act0).toArray 33) := ⟨_, rfl⟩
  obtain ⟨W2, hW2⟩ : ∃ W, W = W1.setCells W0.heap.size 0 (actCs A e.act.frame.length c e.act) := ⟨_, rfl⟩
  have hX : Blk W0 B 39 (evCs A e.act.frame.length c A2 e.o.out.length c2 e).toArray := by rw [hW, hB]; exact Blk.new w _ _ _ rfl
  have hB0 : Below w.heap.size w W0 := by rw [hW]; exact (Below.refl _ _).alloc (Nat.le_refl _) _
  obtain ⟨hth, hbx, hbe⟩ := boxed W0 W1 W2 33 (actCs none 0 0 act0) (actCs A e.act.frame.length c e.act) (by rw [act_len hs.out.act, act_len act0_shape]) hW1 hW2
  obtain ⟨g2, hg2⟩ : ∃ z, z = W0.heap.size := ⟨_, rfl⟩
  obtain ⟨m0, hm0⟩ : ∃ m, m = putS 1 e.act.kind.toNat true := ⟨_, rfl⟩
  have hm0l : m0.length = 1 := by rw [hm0]; exact putS_length _ _ _
  obtain ⟨W3, hW3⟩ : ∃ W, W = W2.alloc (.cells #[.int .u8 e.act.kind] 5) := ⟨_, rfl⟩
  have hBle : B ≤ W2.heap.size := by rw [hB]; exact Nat.le_trans hB0.size hbe.size
  have hcs : (#[.int .u8 e.act.kind] : Array Value) = (bcells m0).toArray := by
    rw [hm0, putS1_is]
    simp only [bcells, List.map_cons, List.map_nil, u8v]
    rw [← u8_of (by omega) (by omega)]
  have hg3 : GU B w W3 := by
    rw [hW3]
    exact ((GU.of_below hB0).trans (GU.of_below (hbe.mono (Nat.le_refl _)))).trans (GU.alloc _ _)
  have h3 : RSt B w W3 B 39 (evCs A e.act.frame.length c A2 e.o.out.length c2 e).toArray g2 33 (actCs A e.act.frame.length c e.act).toArray (some ⟨W2.heap.size, 0, none⟩) 1 m0 := by
    refine ⟨?_, ?_, by decide, by decide, ?_, hg3, by rw [hW3]; simp; omega⟩
    · rw [hW3]; exact Blk.alloc (Blk.below hX hbe hX.lt) _
    · rw [hW3, hg2]; exact Blk.alloc hbx _
    · have := own_lit W2 m0 B hBle (by omega) _ hcs
      rw [hW3]
      rw [hm0l] at this ⊢
      exact this
  have H3 := Lib.hid h3
  have HW := Lib.hid hW
  rw [act0_lit] at hW1
  have HW1 := Lib.hid hW1
  have HW2 := Lib.hid hW2
  have HW3 := Lib.hid hW3
  have Hth := Lib.hid hth
  have Hm0 := Lib.hid hm0
  have Hg2 := Lib.hid hg2
  have RA := Lib.hid (ce_act hX hs.out)
  have d0 : W2.cell? ⟨W0.heap.size, 0, none⟩ = some (.int .i64 e.act.kind) := ca_kind hbx
  have Hszw : Hid (B ≤ w.heap.size) := by show _ ≤ _; omega
  clear hW hW1 hW2 hW3 hX hB0 hth hbx hbe hm0 hBle hcs hg3 h3 hs0 hf0 hop hop' hbp hg2
  rw [← hB]
  have HBw := Lib.hid hB
  clear hB
  go_enter Try.func21, Try.ntmps21
  go_upto_region 1 with fail
  rw [← HW.out, ← HBw.out]
  clear HW
  go_upto_region 2 with (first
    | ((with_reducible refine gateL 33 ?_); refine wpList_load_g (by rfl) 33 (.tmp 6) rfl B 0 rfl (actCs A e.act.frame.length c e.act) _ RA.out act_under rfl (act_sz hs.out.act) ?_)
    | (rw [← HW1.out]; (with_reducible refine gateS 33 ?_); refine wpList_store_mid rfl 33 (.tmp 3) (.tmp 7) rfl W0.heap.size 0 (actCs A e.act.frame.length c e.act).toArray rfl rfl Hth.out (act_sz hs.out.act) (act_one _ _ _ _) ?_))
  rw [← HW2.out]
  go_upto_region 3 with fail
  rw [← HW3.out, ← Hg2.out]
  clear HW1 HW2 HW3 Hth RA d0
  obtain ⟨A0, hA0⟩ : ∃ z : Option Addr, z = some ⟨W2.heap.size, 0, none⟩ := ⟨_, rfl⟩
  rw [← hA0] at H3 ⊢
  have d0 := ca_kind H3.out.b2
  have HmL : Hid (m0.length = 1) := hm0l
  clear hA0 Hg2
  obtain ⟨m1, hm1⟩ : ∃ m, m = m0 ++ (if e.act.kind = 1 then textB e.act.frame else []) := ⟨_, rfl⟩
  obtain ⟨m2, hm2⟩ : ∃ m, m = m1 ++ (if e.act.kind = 2 then putS 1 e.act.op.toNat true ++ (if e.act.op = 1 then backBytes e.act.back else textB e.act.oname ++ (if e.act.op = 3 then wput e.act.owt else [])) else []) := ⟨_, rfl⟩
  obtain ⟨m3, hm3⟩ : ∃ m, m = m2 ++ (if e.act.kind = 3 then textB e.act.name ++ flagB e.act.well else []) := ⟨_, rfl⟩
  have hm3a : m3 = actBytes e.act := by
    rw [hm3, hm2, hm1, Hm0.out]
    unfold actBytes
    by_cases k1 : e.act.kind = 1
    · simp [k1]
    · by_cases k2 : e.act.kind = 2
      · simp [k2]
      · by_cases k3 : e.act.kind = 3
        · simp [k3]
        · simp [k1, k2, k3]
  have hl1' : m1.length ≤ 131100 := by
    rw [hm1, List.length_append, hm0l]
    split
    · have := textB_len (x := e.act.frame) (by omega); omega
    · simp only [List.length_nil]; omega
  have hl3 : m3.length ≤ 150000 := by
    have h2 : m3.length ≤ (evBytes e).length := by rw [hm3a]; unfold evBytes; rw [List.length_append]; omega
    have hb := backBytes_len hs.out.act.back (by omega)
    have ht1 := textB_len (x := e.act.oname) (by omega)
    have ht2 := textB_len (x := e.act.name) (by omega)
    rw [hm3, hm2, hm1, List.length_append, List.length_append, List.length_append, hm0l]
    by_cases k1 : e.act.kind = 1
    · have := textB_len (x := e.act.frame) (by omega)
      simp only [k1, if_true, show ¬ ((1 : Int) = 2) by omega, show ¬ ((1 : Int) = 3) by omega, if_false, List.length_nil]
      omega
    · rw [if_neg k1]
      by_cases k2 : e.act.kind = 2
      · rw [if_pos k2, if_neg (by omega : ¬ e.act.kind = 3), List.length_append, putS_length]
        split
        · simp only [List.length_nil]; omega
        · rw [List.length_append]
          split
          · rw [wput_len]; simp only [List.length_nil]; omega
          · simp only [List.length_nil]; omega
      · rw [if_neg k2]
        split
        · rw [List.length_append, flagB_len]; simp only [List.length_nil]; omega
        · simp only [List.length_nil]; omega
  have hl2 : m2.length ≤ m3.length := by rw [hm3, List.length_append]; omega
  have Hm1 := Lib.hid hm1
  have Hm2 := Lib.hid hm2
  have Hm3 := Lib.hid hm3
  have Hm3a := Lib.hid hm3a
  clear hm1 hm2 hm3 hm3a hm0l
  go_upto_if 14 with fail
  go_cut [4] from 14 to 19 (fun v4 wc => ∃ A' c', v4 = .slice A' m1.length c' ∧ Hid (RSt B w wc B 39 (evCs A e.act.frame.length c A2 e.o.out.length c2 e).toArray g2 33 (actCs A e.act.frame.length c e.act).toArray A' c' m1))
  case first =>
    rcases k1 : (e.act.kind == 1) with _ | _
    · have hq : Hid (m1 = m0) := by show _ = _; rw [Hm1.out, if_neg (by simpa using k1), List.append_nil]
      go_wp2_with fail
      go_meet
      case rel => exact ⟨A0, 1, by rw [hq.out, HmL.out], by rw [hq.out]; exact H3⟩
    · have hq : Hid (m1 = m0 ++ textB e.act.frame) := by show _ = _; rw [Hm1.out, if_pos (by simpa using k1)]
      have d1 := ca_frame H3.out.b2
      have hconv := run_convert_bs (P := Try.prog) 22 9 5 Try.underlying22 Try.underlying5 Try.underlying9 W3 _ A e.act.frame (H3.out.bs (by rw [HBw.out]; exact Hf.out) Hszw.out) e.act.frame.length c rfl
      go_wp2_with fail
      clear hconv
      refine (rtextN B A0 1 1 m0 e.act.frame W3 HmL.out.symm H3.out.le H3.out.own (by omega) (by have := HmL.out; omega)).mono ?_
      rintro e9 w4 ⟨A4, c4, rfl, hown4, hg4⟩
      have h4 := H3.out.step hg4 hown4
      rw [← hq.out] at h4 ⊢
      have H4 := Lib.hid h4
      clear h4 hown4 hg4
      go_wp2_with fail
      go_meet
      case rel => exact ⟨A4, c4, rfl, H4⟩
  case rest =>
    obtain ⟨A5, c5, rfl, H5⟩ := hcut
    have d0' := ca_kind H5.out.b2
    clear d0 H3 HmL
    go_upto_if 22 with fail
    go_cut [4] from 22 to 53 (fun v4 wc => ∃ A' c', v4 = .slice A' m2.length c' ∧ Hid (RSt B w wc B 39 (evCs A e.act.frame.length c A2 e.o.out.length c2 e).toArray g2 33 (actCs A e.act.frame.length c e.act).toArray A' c' m2))
    case first =>
      rcases k2 : (e.act.kind == 2) with _ | _
      · have hq : Hid (m2 = m1) := by show _ = _; rw [Hm2.out, if_neg (by simpa using k2), List.append_nil]
        go_wp2_with fail
        go_meet
        case rel => exact ⟨A5, c5, by rw [hq.out], by rw [hq.out]; exact H5⟩
      · have hk : e.act.kind = 2 := by simpa using k2
        obtain ⟨ho1, ho5⟩ := Hop.out hk
        have d2 := ca_op H5.out.b2
        have hle5 := H5.out.le
        obtain ⟨L1, hL1⟩ : ∃ L1, L1 = putS 1 e.act.op.toNat true := ⟨_, rfl⟩
        have HL1l : Hid (L1.length = 1) := by rw [hL1]; exact putS_length _ _ _
        have Hcs : Hid ((#[.int .u8 e.act.op] : Array Value) = (bcells L1).toArray) := by
          show _ = _
          rw [hL1, putS1_is]
          simp only [bcells, List.map_cons, List.map_nil, u8v]
          rw [← u8_of (by omega) (by omega)]
        have Hm2b : Hid (m2 = m1 ++ (L1 ++ (if e.act.op = 1 then backBytes e.act.back else textB e.act.oname ++ (if e.act.op = 3 then wput e.act.owt else [])))) := by show _ = _; rw [Hm2.out, if_pos hk, hL1]
        have Hm1s : Hid (m1.length = 1) := by show _ = _; rw [Hm1.out, if_neg (by omega), List.append_nil, Hm0.out]; exact putS_length _ _ _
        clear hL1 hk
        go_upto_region 7 with (at_builtin; refine wpList_append_bytes _ rfl (.tmp 23) (.tmp 28) 22 rfl B 5 i0 (.int .u8 0) 1 Try.underlying22 hi0 hz0 hz1 hz2 rfl (.slice A5 m1.length c5) m1 rfl (H5.out.alloc _).own _ (some ⟨wc.heap.size, 0, none⟩) 1 1 L1 rfl HL1l.out.symm (BS.lit wc L1 _ Hcs.out _ _) (by rw [HL1l.out]; unfold maxLen; omega) (by rw [HL1l.out]; omega) (by rw [show (wc.alloc _).heap.size = wc.heap.size + 1 by simp]; omega) ?_; intro A6 c6 w6 hown6 hg6 _)
        have h6 := (H5.out.alloc _).grow hg6 hown6
        obtain ⟨m6, hm6⟩ : ∃ z, z = m1 ++ L1 := ⟨_, rfl⟩
        have hm6l : m6.length ≤ 2 := by rw [hm6, List.length_append, HL1l.out, Hm1s.out]; decide
        rw [← hm6] at h6
        try rw [show (m1.length + 1 : Nat) = (m1 ++ L1).length by rw [List.length_append, HL1l.out]]
        try rw [← List.length_append]
        rw [← hm6]
        have Hm2c : Hid (m2 = m6 ++ (if e.act.op = 1 then backBytes e.act.back else textB e.act.oname ++ (if e.act.op = 3 then wput e.act.owt else []))) := by show _ = _; rw [Hm2b.out, hm6, List.append_assoc]
        have H6 := Lib.hid h6
        have d3 := ca_op h6.b2
        clear h6 hown6 hg6 hm6 H5 d2 d0' Hcs HL1l Hm2b
        rcases k3 : (e.act.op == 1) with _ | _
        · have hn1 : ¬ e.act.op = 1 := by simpa using k3
          have d4 := ca_oname H6.out.b2 hs.out.act
          go_wp2_with fail
          refine (rtextD_any B A6 c6 m6 e.act.oname w6 H6.out.le H6.out.own (by omega) (by omega)).mono ?_
          rintro e9 w7 ⟨A7, c7, rfl, hown7, hg7⟩
          have h7 := H6.out.step hg7 hown7
          obtain ⟨m7, hm7⟩ : ∃ z, z = m6 ++ textB e.act.oname := ⟨_, rfl⟩
          have hm7l : m7.length ≤ 300 := by rw [hm7, List.length_append]; have := textB_len (x := e.act.oname) (by omega); omega
          rw [← hm7] at h7 ⊢
          have Hm2d : Hid (m2 = m7 ++ (if e.act.op = 3 then wput e.act.owt else [])) := by show _ = _; rw [Hm2c.out, if_neg hn1, hm7, List.append_assoc]
          have H7 := Lib.hid h7
          have d5 := ca_op h7.b2
          clear h7 hown7 hg7 hm7 H6 d3 d4 Hm2c
          rcases k4 : (e.act.op == 3) with _ | _
          · have hq : Hid (m2 = m7) := by show _ = _; rw [Hm2d.out, if_neg (by simpa using k4), List.append_nil]
            go_wp2_with fail
            go_meet
            case rel => exact ⟨A7, c7, by rw [hq.out], by rw [hq.out]; exact H7⟩
          · have hq : Hid (m2 = m7 ++ wput e.act.owt) := by show _ = _; rw [Hm2d.out, if_pos (by simpa using k4)]
            have d6 := ca_owt H7.out.b2 hs.out.act
            have hwt := hs.out.act.owt
            go_wp2_with fail
            refine (refWPut_any e.act.owt w7 hwt).mono ?_
            rintro e9 w8 ⟨A8, c8, rfl, hown8, hb8⟩
            have h8 := H7.out.below hb8
            have H8 := Lib.hid h8
            have hw8 := wput_len e.act.owt
            have HW8 := Lib.hid (BS.of_own (l := wput e.act.owt) (n := (wput e.act.owt).length) (by rw [hw8]; exact hown8)).1
            have hle8 := h8.le
            clear h8 hown8 hb8 H7 d5 d6
            go_wp2_with (at_builtin; refine wpList_append_bytes _ rfl _ _ 22 rfl B 5 i0 (.int .u8 0) 1 Try.underlying22 hi0 hz0 hz1 hz2 rfl (.slice A7 m7.length c7) m7 rfl H8.out.own _ A8 8 c8 (wput e.act.owt) rfl hw8.symm HW8.out (by rw [hw8]; unfold maxLen; omega) (by rw [hw8]; omega) hle8 ?_; intro A9 c9 w9 hown9 hg9 _)
            have h9 := H8.out.grow hg9 hown9
            have Hlen : Hid (m2.length = m7.length + 8) := by show _ = _; rw [hq.out, List.length_append, hw8]
            rw [← hq.out] at h9
            have H9 := Lib.hid h9
            clear h9 hown9 hg9
            go_meet
            case rel => exact ⟨A9, c9, by rw [Hlen.out]; first | done | rfl | simp [hw8], H9⟩
        · have hn1 : e.act.op = 1 := by simpa using k3
          have hq : Hid (m2 = m6 ++ backBytes e.act.back) := by show _ = _; rw [Hm2c.out, if_pos hn1]
          have RB := Lib.hid (ca_back H6.out.b2 hs.out.act)
          go_wp2_with (first
            | ((with_reducible refine gateL 29 ?_); refine wpList_load_g (by rfl) 29 (.tmp 36) rfl g2 3 rfl (backCs e.act.back) _ RB.out back_under rfl (back_sz hs.out.act.back) ?_))
          refine (rbackD_any B A6 c6 m6 e.act.back hs.out.act.back htold.out w6 H6.out.le H6.out.own (by omega)).mono ?_
          rintro e9 w7 ⟨A7, c7, rfl, hown7, hg7⟩
          have h7 := H6.out.step hg7 hown7
          rw [← hq.out] at h7 ⊢
          have H7 := Lib.hid h7
          have d5 := ca_op h7.b2
          clear h7 hown7 hg7 H6 d3 RB
          have k4 : (e.act.op == 3) = false := by simp [hn1]
          go_wp2_with fail
          go_meet
          case rel => exact ⟨A7, c7, rfl, H7⟩
    case rest =>
      obtain ⟨A6, c6, rfl, H6⟩ := hcut
      clear d0' H5
      have d0 := ca_kind H6.out.b2
      go_upto_if 56 with fail
      go_cut [4] from 56 to 63 (fun v4 wc => ∃ A' c', v4 = .slice A' m3.length c' ∧ Hid (RSt B w wc B 39 (evCs A e.act.frame.length c A2 e.o.out.length c2 e).toArray g2 33 (actCs A e.act.frame.length c e.act).toArray A' c' m3))
      case first =>
        rcases k2 : (e.act.kind == 3) with _ | _
        · have hq : Hid (m3 = m2) := by show _ = _; rw [Hm3.out, if_neg (by simpa using k2), List.append_nil]
          go_wp2_with fail
          go_meet
          case rel => exact ⟨A6, c6, by rw [hq.out], by rw [hq.out]; exact H6⟩
        · have hq : Hid (m3 = m2 ++ (textB e.act.name ++ flagB e.act.well)) := by show _ = _; rw [Hm3.out, if_pos (by simpa using k2)]
          clear d0
          go_upto_region 13 with fail
          refine wp_region_noPanic ?_
          refine wp_region_held_drew (S := fun w' => Blk w' g2 33 (actCs A e.act.frame.length c e.act).toArray) (by kernel_rfl) (H6.out.drew.b2) (fun hHeld => ?_)
          refine wpAnyH_take (i := 0) (v := ?_) rfl (by kernel_rfl) (by kernel_rfl) (by kernel_rfl) (fun _ _ _ h => h) (Or.inl ⟨by rfl, ?_⟩) hHeld ?_
          rotate_left
          · intro w' hSw
            skip
            go_simp
            try with_reducible rfl
          try (simp only [Act.put, List.getElem_toArray, List.getElem_cons_succ, List.getElem_cons_zero, List.setIfInBounds_toArray, List.set_cons_zero, List.set_cons_succ])
          refine wpAnyH_take (i := 1) (v := ?_) rfl (by kernel_rfl) (by kernel_rfl) (by kernel_rfl) (fun _ _ _ h => h) (Or.inl ⟨by rfl, ?_⟩) hHeld ?_
          rotate_left
          · intro w' hSw
            skip
            go_simp
            try with_reducible rfl
          try (simp only [Act.put, List.getElem_toArray, List.getElem_cons_succ, List.getElem_cons_zero, List.setIfInBounds_toArray, List.set_cons_zero, List.set_cons_succ])
          refine wpAnyH_take (i := 2) (v := ?_) rfl (by kernel_rfl) (by kernel_rfl) (by kernel_rfl) (fun _ _ _ h => h) (Or.inl ⟨by rfl, ?_⟩) hHeld ?_
          rotate_left
          · intro w' hSw
            have d1 := ca_name hSw hs.out.act
            go_simp
            try with_reducible rfl
          try (simp only [Act.put, List.getElem_toArray, List.getElem_cons_succ, List.getElem_cons_zero, List.setIfInBounds_toArray, List.set_cons_zero, List.set_cons_succ])
          refine wpAnyH_take (i := 4) (v := ?_) rfl (by kernel_rfl) (by kernel_rfl) (by kernel_rfl) (fun _ _ _ h => h) (Or.inl ⟨by rfl, ?_⟩) hHeld ?_
          rotate_left
          · intro w' hSw
            skip
            go_simp
            try with_reducible rfl
          try (simp only [Act.put, List.getElem_toArray, List.getElem_cons_succ, List.getElem_cons_zero, List.setIfInBounds_toArray, List.set_cons_zero, List.set_cons_succ])
          refine wpAnyH_take (i := 5) (v := ?_) rfl (by kernel_rfl) (by kernel_rfl) (by kernel_rfl) (fun _ _ _ h => h) (Or.inl ⟨by rfl, ?_⟩) hHeld ?_
          rotate_left
          · intro w' hSw
            have d1 := ca_well hSw hs.out.act
            go_simp
            try with_reducible rfl
          try (simp only [Act.put, List.getElem_toArray, List.getElem_cons_succ, List.getElem_cons_zero, List.setIfInBounds_toArray, List.set_cons_zero, List.set_cons_succ])
          refine wpAnyH_ready (rs := [3]) (by kernel_rfl) (by simp) ?_
          refine AllReadyH.cons (i := 3) rfl (fun K hK => ?_) AllReadyH.nil
          go_simp
          refine (rtextD_any B A6 c6 m2 e.act.name _ H6.out.drew.le H6.out.drew.own (by omega) (by omega)).mono ?_
          rintro e9 w7 ⟨A7, c7, rfl, hown7, hg7⟩
          have h7 := H6.out.drew.step hg7 hown7
          obtain ⟨m7, hm7⟩ : ∃ z, z = m2 ++ textB e.act.name := ⟨_, rfl⟩
          have Hq7 : Hid (m3 = m7 ++ flagB e.act.well) := by show _ = _; rw [hq.out, hm7, List.append_assoc]
          rw [← hm7] at h7 ⊢
          have H7 := Lib.hid h7
          have hBehind := h7.b2
          have hm7l : m7.length ≤ m3.length := by rw [Hq7.out, List.length_append]; omega
          clear h7 hown7 hg7 hm7
          go_wp2_with fail
          refine hK.out _ _ hBehind (fun hHeld => ?_)
          clear hK K hBehind
          try (simp only [Act.put, List.getElem_toArray, List.getElem_cons_succ, List.getElem_cons_zero, List.setIfInBounds_toArray, List.set_cons_zero, List.set_cons_succ])
          refine wpAnyH_ready (rs := [6]) (by kernel_rfl) (by simp) ?_
          refine AllReadyH.cons (i := 6) rfl (fun K hK => ?_) AllReadyH.nil
          go_simp
          refine (rflagD_any B A7 c7 m7 e.act.well _ H7.out.le H7.out.own (by omega)).mono ?_
          rintro e9 w8 ⟨A8, c8, rfl, hown8, hg8⟩
          have h8 := H7.out.step hg8 hown8
          rw [← Hq7.out] at h8 ⊢
          have H8 := Lib.hid h8
          have hBehind := h8.b2
          clear h8 hown8 hg8
          go_wp2_with fail
          refine hK.out _ _ hBehind (fun hHeld => ?_)
          clear hK K hBehind
          try (simp only [Act.put, List.getElem_toArray, List.getElem_cons_succ, List.getElem_cons_zero, List.setIfInBounds_toArray, List.set_cons_zero, List.set_cons_succ])
          refine wpAnyH_take (i := 7) (v := ?_) rfl (by kernel_rfl) (by kernel_rfl) (by kernel_rfl) (fun _ _ _ h => h) (Or.inl ⟨by rfl, ?_⟩) hHeld ?_
          rotate_left
          · intro w' hSw
            skip
            go_simp
            try with_reducible rfl
          try (simp only [Act.put, List.getElem_toArray, List.getElem_cons_succ, List.getElem_cons_zero, List.setIfInBounds_toArray, List.set_cons_zero, List.set_cons_succ])
          refine wpAnyH_done (by kernel_rfl) ?_ _
          refine NoPanic.normal ?_
          go_wp2_with fail
          go_meet
          case rel => exact ⟨A8, c8, rfl, H8⟩
      case rest =>
        obtain ⟨A7, c7, rfl, H7⟩ := hcut
        clear d0 H6
        obtain ⟨X1, hX1⟩ : ∃ W, W = wc.alloc (.cells (outCs none 0 0 out0).toArray 36) := ⟨_, rfl⟩
        obtain ⟨X2, hX2⟩ : ∃ W, W = X1.setCells wc.heap.size 0 (outCs A2 e.o.out.length c2 e.o) := ⟨_, rfl⟩
        obtain ⟨hth, hbx, hbe⟩ := boxed wc X1 X2 36 (outCs none 0 0 out0) (outCs A2 e.o.out.length c2 e.o) rfl hX1 hX2
        rw [out0_lit] at hX1
        obtain ⟨g5, hg5⟩ : ∃ z, z = wc.heap.size := ⟨_, rfl⟩
        have h8 : RSt B w X2 B 39 (evCs A e.act.frame.length c A2 e.o.out.length c2 e).toArray g5 36 (outCs A2 e.o.out.length c2 e.o).toArray A7 c7 m3 := by
          have h := H7.out.below hbe
          exact ⟨h.b1, by rw [hg5]; exact hbx, h.n1, by decide, h.own, h.gu, h.le⟩
        have H8 := Lib.hid h8
        have HX1 := Lib.hid hX1
        have HX2 := Lib.hid hX2
        have Hth := Lib.hid hth
        have Hg5 := Lib.hid hg5
        have RO := Lib.hid (ce_out H7.out.b1 hs.out)
        clear hX1 hX2 hth hbx hbe hg5 h8
        go_upto_region 15 with (first
          | ((with_reducible refine gateL 36 ?_); refine wpList_load_g (by rfl) 36 (.tmp 64) rfl B 34 rfl (outCs A2 e.o.out.length c2 e.o) _ RO.out Try.underlying36 rfl out_sz ?_)
          | (rw [← HX1.out]; (with_reducible refine gateS 36 ?_); refine wpList_store_mid rfl 36 (.tmp 5) (.tmp 65) rfl wc.heap.size 0 (outCs A2 e.o.out.length c2 e.o).toArray rfl rfl Hth.out out_sz (out_one _ _ _ _) ?_))
        rw [← HX2.out, ← Hg5.out]
        clear HX1 HX2 Hth Hg5 RO H7
        obtain ⟨L2, hL2⟩ : ∃ L2, L2 = putS 1 e.o.err.toNat true ++ putS 1 e.o.reason.toNat true := ⟨_, rfl⟩
        have HL2l : Hid (L2.length = 2) := by rw [hL2]; exact rfl
        have Hcs : Hid ((#[.int .u8 (IntKind.u8.wrap e.o.err), .int .u8 (IntKind.u8.wrap e.o.reason)] : Array Value) = (bcells L2).toArray) := by
          show _ = _
          rw [IntWalk.u8_in _ (by omega), IntWalk.u8_in _ (by omega), hL2, putS1_is, putS1_is]
          simp only [bcells, List.map_cons, List.map_nil, u8v, List.cons_append, List.nil_append]
          rw [← u8_of (by omega) (by omega), ← u8_of (by omega) (by omega)]
        have HL2 := Lib.hid hL2
        clear hL2
        refine wp_region_noPanic ?_
        refine wp_region_held_drew (S := fun w' => Blk w' g5 36 (outCs A2 e.o.out.length c2 e.o).toArray) (by kernel_rfl) (H8.out.drew.b2) (fun hHeld => ?_)
        refine wpAnyH_take (i := 0) (v := ?_) rfl (by kernel_rfl) (by kernel_rfl) (by kernel_rfl) (fun _ _ _ h => h) (Or.inl ⟨by rfl, ?_⟩) hHeld ?_
        rotate_left
        · intro w' hSw
          skip
          go_simp
          try with_reducible rfl
        try (simp only [Act.put, List.getElem_toArray, List.getElem_cons_succ, List.getElem_cons_zero, List.setIfInBounds_toArray, List.set_cons_zero, List.set_cons_succ])
        refine wpAnyH_take (i := 1) (v := ?_) rfl (by kernel_rfl) (by kernel_rfl) (by kernel_rfl) (fun _ _ _ h => h) (Or.inl ⟨by rfl, ?_⟩) hHeld ?_
        rotate_left
        · intro w' hSw
          skip
          go_simp
          try with_reducible rfl
        try (simp only [Act.put, List.getElem_toArray, List.getElem_cons_succ, List.getElem_cons_zero, List.setIfInBounds_toArray, List.set_cons_zero, List.set_cons_succ])
        refine wpAnyH_take (i := 2) (v := ?_) rfl (by kernel_rfl) (by kernel_rfl) (by kernel_rfl) (fun _ _ _ h => h) (Or.inl ⟨by rfl, ?_⟩) hHeld ?_
        rotate_left
        · intro w' hSw
          have d1 := co_err hSw
          go_simp
          try with_reducible rfl
        try (simp only [Act.put, List.getElem_toArray, List.getElem_cons_succ, List.getElem_cons_zero, List.setIfInBounds_toArray, List.set_cons_zero, List.set_cons_succ])
        refine wpAnyH_take (i := 3) (v := ?_) rfl (by kernel_rfl) (by kernel_rfl) (by kernel_rfl) (fun _ _ _ h => h) (Or.inl ⟨by rfl, ?_⟩) hHeld ?_
        rotate_left
        · intro w' hSw
          skip
          go_simp
          try with_reducible rfl
        try (simp only [Act.put, List.getElem_toArray, List.getElem_cons_succ, List.getElem_cons_zero, List.setIfInBounds_toArray, List.set_cons_zero, List.set_cons_succ])
        refine wpAnyH_take (i := 4) (v := ?_) rfl (by kernel_rfl) (by kernel_rfl) (by kernel_rfl) (fun _ _ _ h => h) (Or.inl ⟨by rfl, ?_⟩) hHeld ?_
        rotate_left
        · intro w' hSw
          skip
          go_simp
          try with_reducible rfl
        try (simp only [Act.put, List.getElem_toArray, List.getElem_cons_succ, List.getElem_cons_zero, List.setIfInBounds_toArray, List.set_cons_zero, List.set_cons_succ])
        refine wpAnyH_take (i := 5) (v := ?_) rfl (by kernel_rfl) (by kernel_rfl) (by kernel_rfl) (fun _ _ _ h => h) (Or.inl ⟨by rfl, ?_⟩) hHeld ?_
        rotate_left
        · intro w' hSw
          have d1 := co_reason hSw
          go_simp
          try with_reducible rfl
        try (simp only [Act.put, List.getElem_toArray, List.getElem_cons_succ, List.getElem_cons_zero, List.setIfInBounds_toArray, List.set_cons_zero, List.set_cons_succ])
        refine wpAnyH_take (i := 6) (v := ?_) rfl (by kernel_rfl) (by kernel_rfl) (by kernel_rfl) (fun _ _ _ h => h) (Or.inl ⟨by rfl, ?_⟩) hHeld ?_
        rotate_left
        · intro w' hSw
          skip
          go_simp
          try with_reducible rfl
        try (simp only [Act.put, List.getElem_toArray, List.getElem_cons_succ, List.getElem_cons_zero, List.setIfInBounds_toArray, List.set_cons_zero, List.set_cons_succ])
        refine wpAnyH_take (i := 9) (v := ?_) rfl (by kernel_rfl) (by kernel_rfl) (by kernel_rfl) (fun _ _ _ h => h) (Or.inl ⟨by rfl, ?_⟩) hHeld ?_
        rotate_left
        · intro w' hSw
          skip
          go_simp
          try with_reducible rfl
        try (simp only [Act.put, List.getElem_toArray, List.getElem_cons_succ, List.getElem_cons_zero, List.setIfInBounds_toArray, List.set_cons_zero, List.set_cons_succ])
        refine wpAnyH_take (i := 10) (v := ?_) rfl (by kernel_rfl) (by kernel_rfl) (by kernel_rfl) (fun _ _ _ h => h) (Or.inl ⟨by rfl, ?_⟩) hHeld ?_
        rotate_left
        · intro w' hSw
          have d1 := co_hit hSw
          go_simp
          try with_reducible rfl
        try (simp only [Act.put, List.getElem_toArray, List.getElem_cons_succ, List.getElem_cons_zero, List.setIfInBounds_toArray, List.set_cons_zero, List.set_cons_succ])
        refine wpAnyH_ready (rs := [7]) (by kernel_rfl) (by simp) ?_
        refine AllReadyH.cons (i := 7) rfl (fun K hK => ?_) AllReadyH.nil
        go_simp
        obtain ⟨y1, hy1⟩ : ∃ W, W = (X2.alloc (.cells #[.int .u8 (IntKind.u8.wrap e.o.err), .int .u8 (IntKind.u8.wrap e.o.reason)] 5)).drew := ⟨_, rfl⟩
        have h9 : RSt B w y1 B 39 (evCs A e.act.frame.length c A2 e.o.out.length c2 e).toArray g5 36 (outCs A2 e.o.out.length c2 e.o).toArray A7 c7 m3 := by rw [hy1]; exact (H8.out.alloc _).drew
        have hbs : BS y1 y1.heap.size (some ⟨X2.heap.size, 0, none⟩) L2 := by rw [hy1]; exact (BS.lit' X2 L2 _ Hcs.out _ _ X2.heap.size rfl).more (by simp)
        rw [← hy1]
        have H9 := Lib.hid h9
        have Hbs := Lib.hid hbs
        have hBehind := h9.b2
        clear h9 hbs hy1
        go_wp2_with fail
        refine hK.out _ _ hBehind (fun hHeld => ?_)
        clear hK K hBehind
        try (simp only [Act.put, List.getElem_toArray, List.getElem_cons_succ, List.getElem_cons_zero, List.setIfInBounds_toArray, List.set_cons_zero, List.set_cons_succ])
        refine wpAnyH_ready (rs := [8]) (by kernel_rfl) (by simp) ?_
        refine AllReadyH.cons (i := 8) rfl (fun K hK => ?_) AllReadyH.nil
        refine step_append_bytes _ rfl _ _ 22 rfl B 5 i0 (.int .u8 0) 1 Try.underlying22 hi0 hz0 hz1 hz2 rfl (.slice A7 m3.length c7) m3 rfl H9.out.own _ (some ⟨X2.heap.size, 0, none⟩) 2 2 L2 rfl HL2l.out.symm Hbs.out (by rw [HL2l.out]; unfold maxLen; omega) (by rw [HL2l.out]; omega) H9.out.le ?_
        intro A9 c9 y2 hown9 hg9 _
        have hA := H9.out.grow hg9 hown9
        obtain ⟨m4, hm4⟩ : ∃ z, z = m3 ++ L2 := ⟨_, rfl⟩
        have hm4l : m4.length ≤ 150002 := by rw [hm4, List.length_append, HL2l.out]; omega
        rw [← hm4] at hA ⊢
        have HA := Lib.hid hA
        have Hm4 := Lib.hid hm4
        have hBehind := hA.b2
        clear hA hown9 hg9 hm4
        go_wp2_with fail
        refine hK.out _ _ hBehind (fun hHeld => ?_)
        clear hK K hBehind
        try (simp only [Act.put, List.getElem_toArray, List.getElem_cons_succ, List.getElem_cons_zero, List.setIfInBounds_toArray, List.set_cons_zero, List.set_cons_succ])
        refine wpAnyH_ready (rs := [11]) (by kernel_rfl) (by simp) ?_
        refine AllReadyH.cons (i := 11) rfl (fun K hK => ?_) AllReadyH.nil
        go_simp
        refine (rflagD_any B A9 c9 m4 e.o.hit _ HA.out.le HA.out.own (by omega)).mono ?_
        rintro e9 w8 ⟨A8, c8, rfl, hown8, hg8⟩
        have h8 := HA.out.step hg8 hown8
        obtain ⟨m5, hm5⟩ : ∃ z, z = m4 ++ flagB e.o.hit := ⟨_, rfl⟩
        have hm5l : m5.length ≤ 150003 := by rw [hm5, List.length_append, flagB_len]; omega
        rw [← hm5] at h8 ⊢
        have HC := Lib.hid h8
        have Hm5 := Lib.hid hm5
        have hBehind := h8.b2
        clear h8 hown8 hg8 hm5 HA
        go_wp2_with fail
        refine hK.out _ _ hBehind (fun hHeld => ?_)
        clear hK K hBehind
        try (simp only [Act.put, List.getElem_toArray, List.getElem_cons_succ, List.getElem_cons_zero, List.setIfInBounds_toArray, List.set_cons_zero, List.set_cons_succ])
        refine wpAnyH_take (i := 12) (v := ?_) rfl (by kernel_rfl) (by kernel_rfl) (by kernel_rfl) (fun _ _ _ h => h) (Or.inl ⟨by rfl, ?_⟩) hHeld ?_
        rotate_left
        · intro w' hSw
          skip
          go_simp
          try with_reducible rfl
        try (simp only [Act.put, List.getElem_toArray, List.getElem_cons_succ, List.getElem_cons_zero, List.setIfInBounds_toArray, List.set_cons_zero, List.set_cons_succ])
        refine wpAnyH_done (by kernel_rfl) ?_ _
        refine NoPanic.normal ?_
        go_upto_region 16 with fail
        obtain ⟨n1, hn1⟩ : ∃ n, n = e.o.version.toNat := ⟨_, rfl⟩
        have Hn1 := Lib.hid hn1
        have dv := co_version HC.out.b2
        have hvw : IntKind.u64.wrap e.o.version = (n1 : Int) := by rw [IntWalk.u64_in _ (by omega)]; omega
        have hnb : n1 ≤ 1099511627776 := by omega
        clear hn1
        go_wp2_with fail
        refine (rputV_own n1 w8 (by omega)).mono ?_
        rintro e9 v1 ⟨AA1, cc1, rfl, hown1, hb1⟩
        have hh1 := HC.out.below hb1
        have HH1 := Lib.hid hh1
        have hvl := vput_le (n := n1) (by omega)
        have HV1 := Lib.hid (BS.of_own hown1).1
        have hle1 := hh1.le
        clear hh1 hown1 hb1 HC dv hvw hnb
        go_upto_region 17 with (at_builtin; refine wpList_append_bytes _ rfl _ _ 22 rfl B 5 i0 (.int .u8 0) 1 Try.underlying22 hi0 hz0 hz1 hz2 rfl (.slice A8 m5.length c8) m5 rfl HH1.out.own _ AA1 _ cc1 (vput n1) rfl rfl HV1.out (by unfold maxLen; omega) (by omega) hle1 ?_; intro B1 d1' u1 hown1' hg1' _)
        have hi1 := HH1.out.grow hg1' hown1'
        obtain ⟨m6, hm6⟩ : ∃ z, z = m5 ++ vput n1 := ⟨_, rfl⟩
        have hm6l : m6.length ≤ 150020 := by rw [hm6, List.length_append]; omega
        rw [← hm6] at hi1
        rw [← List.length_append, ← hm6]
        have HI1 := Lib.hid hi1
        have Hm6 := Lib.hid hm6
        clear hi1 hown1' hg1' hm6 HH1 HV1 hvl
        have dn := co_name HI1.out.b2
        go_wp2_with fail
        refine (rtextD_any B B1 d1' m6 e.o.name u1 HI1.out.le HI1.out.own (by omega) (by omega)).mono ?_
        rintro e9 w9 ⟨A9, c9, rfl, hown9, hg9⟩
        have h9 := HI1.out.step hg9 hown9
        obtain ⟨m7, hm7⟩ : ∃ z, z = m6 ++ textB e.o.name := ⟨_, rfl⟩
        have hm7l : m7.length ≤ 150300 := by rw [hm7, List.length_append]; have := textB_len (x := e.o.name) (by omega); omega
        rw [← hm7] at h9 ⊢
        have HD := Lib.hid h9
        have Hm7 := Lib.hid hm7
        clear h9 hown9 hg9 hm7 HI1 dn
        go_upto_region 18 with fail
        obtain ⟨n2, hn2⟩ : ∃ n, n = e.len.toNat := ⟨_, rfl⟩
        have Hn2 := Lib.hid hn2
        have dv := ce_len HD.out.b1 hs.out
        have hvw : IntKind.u64.wrap e.len = (n2 : Int) := by rw [IntWalk.u64_in _ (by omega)]; omega
        have hnb : n2 ≤ 1099511627776 := by omega
        clear hn2
        go_wp2_with fail
        refine (rputV_own n2 w9 (by omega)).mono ?_
        rintro e9 v2 ⟨AA2, cc2, rfl, hown2, hb2⟩
        have hh2 := HD.out.below hb2
        have HH2 := Lib.hid hh2
        have hvl := vput_le (n := n2) (by omega)
        have HV2 := Lib.hid (BS.of_own hown2).1
        have hle2 := hh2.le
        clear hh2 hown2 hb2 HD dv hvw hnb
        go_upto_region 19 with (at_builtin; refine wpList_append_bytes _ rfl _ _ 22 rfl B 5 i0 (.int .u8 0) 1 Try.underlying22 hi0 hz0 hz1 hz2 rfl (.slice A9 m7.length c9) m7 rfl HH2.out.own _ AA2 _ cc2 (vput n2) rfl rfl HV2.out (by unfold maxLen; omega) (by omega) hle2 ?_; intro B2 d2' u2 hown2' hg2' _)
        have hi2 := HH2.out.grow hg2' hown2'
        obtain ⟨m8, hm8⟩ : ∃ z, z = m7 ++ vput n2 := ⟨_, rfl⟩
        have hm8l : m8.length ≤ 150320 := by rw [hm8, List.length_append]; omega
        rw [← hm8] at hi2
        rw [← List.length_append, ← hm8]
        have HI2 := Lib.hid hi2
        have Hm8 := Lib.hid hm8
        clear hi2 hown2' hg2' hm8 HH2 HV2 hvl
        have dv := ce_sum HI2.out.b1 hs.out
        have hsl := hs.out.sum
        have hvw : IntKind.u64.wrap (e.sum : Int) = (e.sum : Int) := IntWalk.u64_in _ (by omega)
        go_wp2_with fail
        refine (refPutS e.sum 4 u2 (by omega) rfl).mono ?_
        rintro e9 v3 ⟨AA3, cc3, rfl, hown3, hb3⟩
        have hh3 := HI2.out.below hb3
        have HH3 := Lib.hid hh3
        have hvl : (putS 4 e.sum false).length = 4 := putS_length _ _ _
        have HV3 := Lib.hid (BS.of_own hown3).1
        have hle3 := hh3.le
        obtain ⟨L4, hL4⟩ : ∃ z, z = putS 4 e.sum false := ⟨_, rfl⟩
        rw [← hL4] at hvl HV3 ⊢
        have HL4 := Lib.hid hL4
        have Hvl := Lib.hid hvl
        clear hvl
        clear hh3 hown3 hb3 HI2 dv hvw hL4
        go_wp2_with (at_builtin; refine wpList_append_bytes _ rfl _ _ 22 rfl B 5 i0 (.int .u8 0) 1 Try.underlying22 hi0 hz0 hz1 hz2 rfl (.slice B2 m8.length d2') m8 rfl HH3.out.own _ AA3 _ cc3 L4 rfl rfl HV3.out (by rw [Hvl.out]; unfold maxLen; omega) (by rw [Hvl.out]; omega) hle3 ?_; intro B3 d3' u3 hown3' hg3' _)
        have hi3 := HH3.out.grow hg3' hown3'
        obtain ⟨m9, hm9⟩ : ∃ z, z = m8 ++ L4 := ⟨_, rfl⟩
        rw [← hm9] at hi3
        rw [← List.length_append, ← hm9]
        have hfin : evBytes e = m9 := by
          rw [hm9, HL4.out, Hm8.out, Hn2.out, Hm7.out, Hm6.out, Hn1.out, Hm5.out, Hm4.out, HL2.out, Hm3a.out]
          unfold evBytes
          simp only [List.append_assoc]
        go_ret
        rw [hfin]
        exact ⟨B3, d3', rfl, hi3.own, hi3.gu⟩
end Go.Proofs.Ytgohhojoahlfiaa
