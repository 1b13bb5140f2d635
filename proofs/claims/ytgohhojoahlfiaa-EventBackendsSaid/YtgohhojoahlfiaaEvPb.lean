/- The walks of the document's Part: weight, Take (printed by gen_evpb.py). -/
import Derived.Test.YtgohhojoahlfiaaEvPa
import Derived.Test.YtgohhojoahlfiaaEvO
namespace Go.Proofs.Ytgohhojoahlfiaa
open Go.RowKit
set_option linter.unusedVariables false
set_option linter.unusedSimpArgs false

theorem weightP_len (st : PS) : (weightP st).1.1.length ≤ st.1.length := takeP_lenL st 8
theorem flagP_len (st : PS) : (flagP st).1.1.length ≤ st.1.length := takeP_lenL st 1
theorem textP_len (st : PS) (m : Nat) : (textP st m).1.1.length ≤ st.1.length := Nat.le_trans (takeP_lenL _ _) (numP_len _ _)
theorem backP_len (st : PS) : (backP st).1.1.length ≤ st.1.length := by
  rcases h1 : textP st 255 with ⟨s1, nm⟩
  rcases h2 : flagP s1 with ⟨s2, sx⟩
  rcases h3 : takeP s2 24 with ⟨s3, x⟩
  rcases h4 : weightP s3 with ⟨s4, wt⟩
  rcases h5 : flagP s4 with ⟨s5, dr⟩
  have l1 := textP_len st 255
  have l2 := flagP_len s1
  have l3 := takeP_lenL s2 24
  have l4 := weightP_len s3
  have l5 := flagP_len s4
  rw [h1] at l1
  rw [h2] at l2
  rw [h3] at l3
  rw [h4] at l4
  rw [h5] at l5
  unfold backP
  simp only [h1, h2, h3, h4, h5]
  exact Nat.le_trans l5 (Nat.le_trans l4 (Nat.le_trans l3 (Nat.le_trans l2 l1)))
theorem takeBP_len (st : PS) : (takeBP st).1.1.length ≤ st.1.length := backP_len st
theorem textP_lenV (st : PS) (m : Nat) : (textP st m).2.length ≤ m := by
  unfold textP
  rw [takeP_len]
  exact numP_le st m
/-- What weight answers. -/
def PWtIs (B g : Nat) (st : PS) (w : World) (e : Ending) (w' : World) : Prop :=
  e = .returned (.float .f64 (weightP st).2) ∧ PW w' B g (weightP st).1 ∧ w.grownBy w' (some g)
set_option maxHeartbeats 1000000 in
set_option maxRecDepth 100000 in
theorem pweight_any (B g : Nat) (st : PS) (w : World) (h : PW w B g st) (hr : st.1.length ≤ 1000000000) :
    Calls Try.prog 64 #[.pointer (some ⟨g, 0, none⟩)] w (PWtIs B g st w) := by
  have HP := Lib.hid h
  clear h
  go_enter Try.func64, Try.ntmps64
  go_wp2_with fail
  refine (ptake_any B g st 8 w HP.out (by decide) hr).mono ?_
  rintro e w2 ⟨A, c, rfl, hown, hp2, hg2⟩
  obtain ⟨st2, hst2⟩ : ∃ z, z = (takeP st 8).1 := ⟨_, rfl⟩
  obtain ⟨x, hx⟩ : ∃ z, z = (takeP st 8).2 := ⟨_, rfl⟩
  have hl := takeP_len st 8
  rw [← hx] at hl hown
  rw [← hst2] at hp2
  obtain ⟨q, hq⟩ : ∃ q, q = wgetS x := ⟨_, rfl⟩
  obtain ⟨wt, ok⟩ := q
  have Hw : Hid (weightP st = ((st2.1, st2.2 || !ok), wt)) := by show _ = _; unfold weightP; rw [← hst2, ← hx, ← hq]
  have hc := own_le hown
  have Hb := Lib.hid (BS.of_own hown).1
  have Hp2 := Lib.hid hp2
  have Hg2 := Lib.hid hg2
  have Hl := Lib.hid hl
  have Hq := Lib.hid hq
  clear hst2 hx hl hown hp2 hg2 hq
  go_wp2_with fail
  refine (refWGet_any A 8 c x w2 Hl.out.symm Hb.out (by decide) hc).mono ?_
  rintro e w3 ⟨he, hb3⟩
  rw [← Hq.out] at he
  subst he
  have Hp3 := Lib.hid (Hp2.out.below hb3)
  have Hg3 : Hid (w.grownBy w3 (some g)) := grownTrans Hg2.out (grownOf hb3)
  clear hb3 Hp2 Hg2
  rcases ok with _ | _
  · obtain ⟨W4, hW4⟩ : ∃ W, W = w3.setCell ⟨g, 1, none⟩ (.bool true) := ⟨_, rfl⟩
    have Hp4 : Hid (PW W4 B g (st2.1, true)) := by rw [hW4]; exact Hp3.out.bad_
    have Hg4 : Hid (w.grownBy W4 (some g)) := by rw [hW4]; exact grownTrans Hg3.out (grownSet w3 ⟨g, 1, none⟩ (.bool true))
    have HW4 := Lib.hid hW4
    obtain ⟨A3, c3, hX3, _⟩ := Hp3.out
    have d1 : w3.cell? ⟨g, 1, none⟩ = some (.bool st2.2) := hX3.cell 1
    have df := hX3.frozen 1
    have HX3 := Lib.hid hX3
    clear hW4 hX3
    go_upto_region 4 with fail
    rw [← HW4.out]
    clear d1 df
    go_wp2
    go_ret
    exact ⟨by rw [Hw.out]; first | done | rfl, by rw [Hw.out]; simp only [Bool.not_false, Bool.or_true]; exact Hp4.out, Hg4.out⟩
  · go_wp2
    go_ret
    exact ⟨by rw [Hw.out]; first | done | rfl, by rw [Hw.out]; simp only [Bool.not_true, Bool.or_false]; exact Hp3.out, Hg3.out⟩
theorem grown_new {w wr w' : World} {g q : Nat} (h : w.grownBy wr (some g)) (hs : wr.grownBy w' (some q)) (hq : w.heap.size ≤ q) : w.grownBy w' (some g) :=
  ⟨hs.os.trans h.os, hs.tape.trans h.tape, hs.output.trans h.output, Nat.le_trans h.size hs.size, fun k hk hne => (hs.block k (Nat.lt_of_lt_of_le hk h.size) (fun e => by injection e with e; omega)).trans (h.block k hk hne)⟩
/-- The boxes of Take. -/
structure TSt (w wr : World) (B g bx : Nat) (st : PS) (b : BackP) : Prop where
  pw : PW wr B g st
  res : Blk wr w.heap.size 29 (backCs back0).toArray
  box : Blk wr bx 29 (backCs b).toArray
  gr : w.grownBy wr (some g)
  shape : BackShape b
  gt : w.heap.size < bx
  gl : g < w.heap.size
section
variable {w wr w' : World} {B g bx : Nat} {st st' : PS} {b b' : BackP}
theorem TSt.after (h : TSt w wr B g bx st b) (hp : PW w' B g st') (hg : wr.grownBy w' (some g)) : TSt w w' B g bx st' b := by
  have h1 := h.gt; have h2 := h.gl
  exact ⟨hp, Blk.grown h.res hg (fun e => by injection e with e; omega), Blk.grown h.box hg (fun e => by injection e with e; omega), grownTrans h.gr hg, h.shape, h1, h2⟩
theorem TSt.below (h : TSt w wr B g bx st b) (hb : Below wr.heap.size wr w') : TSt w w' B g bx st b := h.after (h.pw.below hb) (grownOf hb)
theorem TSt.set_ (h : TSt w wr B g bx st b) (k : Nat) (u : Value) (e : (backCs b).toArray.setIfInBounds k u = (backCs b').toArray) (hs : BackShape b') : TSt w (wr.setCell ⟨bx, k, none⟩ u) B g bx st b' := by
  have h1 := h.gt; have h2 := h.gl
  have h3 := h.pw.le
  have hg : wr.grownBy (wr.setCell ⟨bx, k, none⟩ u) (some bx) := grownSet wr ⟨bx, k, none⟩ u
  refine ⟨h.pw.off hg (fun e => by injection e with e; omega) (fun k hk => by injection hk with hk; omega), Blk.grown h.res hg (fun e => by injection e with e; omega), ?_, grown_new h.gr hg (by omega), hs, h1, h2⟩
  have := Blk.set_ h.box k u
  rw [e] at this
  exact this
theorem TSt.goodBlk (h : TSt w wr B g bx st b) : Blk (wr.setCells w.heap.size 0 (backCs b)) w.heap.size 29 (backCs b).toArray := by
  have := Blk.setCells (backCs b) 0 h.res
  rw [setL_whole (by rw [back_len h.shape, back_len back0_shape])] at this
  exact this
theorem TSt.zeroBlk (h : TSt w wr B g bx st b) : Blk (wr.setCells w.heap.size 0 (backCs back0)) w.heap.size 29 (backCs back0).toArray := by
  have := Blk.setCells (backCs back0) 0 h.res
  rw [setL_whole rfl] at this
  exact this
theorem TSt.good (h : TSt w wr B g bx st b) (cs : List Value) : PW (wr.setCells w.heap.size 0 cs) B g st ∧ w.grownBy (wr.setCells w.heap.size 0 cs) (some g) := by
  have h1 := h.gt; have h2 := h.gl
  have h3 := h.pw.le
  have hg : wr.grownBy (wr.setCells w.heap.size 0 cs) (some w.heap.size) := grownCells _ w.heap.size 0 _ 0 (World.grownBy.refl _ _)
  exact ⟨h.pw.off hg (fun e => by injection e with e; omega) (fun k hk => by injection hk with hk; omega), grown_new h.gr hg (Nat.le_refl _)⟩
end
/-- A row whose cells stand in block ba, off the boxes. -/
def XC (wr : World) (ba bx : Nat) (x : List UInt8) : Prop := ba < wr.heap.size ∧ ba ≠ bx ∧ ∀ (j : Nat) (u : UInt8), x[j]? = some u → wr.cell? ⟨ba, j, none⟩ = some (.int .u8 (u.toNat : Int))
theorem XC.set_ {wr : World} {ba bx : Nat} {x : List UInt8} (h : XC wr ba bx x) (k : Nat) (u : Value) : XC (wr.setCell ⟨bx, k, none⟩ u) ba bx x :=
  ⟨Nat.lt_of_lt_of_le h.1 (grownSet wr ⟨bx, k, none⟩ u).size, h.2.1, fun j v hj => by rw [World.cell?_setCell_other _ _ _ _ (fun e => h.2.1 (by injection e with e; exact e.symm))]; exact h.2.2 j v hj⟩
theorem padT_setx {x : List UInt8} {k N : Nat} {u : UInt8} (hk : x[k]? = some u) (h16 : k < N) : (pad (x.take k) N).set k u = pad (x.take (k + 1)) N := by
  obtain ⟨hl, e⟩ := List.getElem?_eq_some_iff.1 hk
  have h1 : (x.take k).length = k := by simp; omega
  have h2 : (x.take (k + 1)).length = k + 1 := by simp; omega
  unfold pad
  rw [h1, h2, List.set_append_right _ _ (by omega), h1, Nat.sub_self, show N - k = (N - (k + 1)) + 1 by omega, List.replicate_succ, List.set_cons_zero, List.take_add_one, hk, List.append_assoc]
  rfl
theorem bset_addr {b : BackP} (h : BackShape b) {k : Nat} (hk : k < 16) (x : UInt8) : (backCs b).toArray.setIfInBounds (2 + k) (.int .u8 (x.toNat : Int)) = (backCs { b with addr := (b.addr.1, b.addr.2.set k x) }).toArray := by
  have h16 : b.addr.2.length = 16 := h.addr
  rw [List.setIfInBounds_toArray, show 2 + k = (k + 1) + 1 by omega, backCs, List.set_cons_succ, addrCs, List.cons_append, List.set_cons_succ, List.set_append_left _ _ (by rw [bcells_length]; omega)]
  congr 1
  simp only [backCs, addrCs, List.cons_append]
  rw [show (bcells b.addr.2).set k (.int .u8 (x.toNat : Int)) = bcells (b.addr.2.set k x) from (bcells_set _ _ _).symm]
theorem bset_mac {b : BackP} (h : BackShape b) {k : Nat} (hk : k < 6) (x : UInt8) : (backCs b).toArray.setIfInBounds (19 + k) (.int .u8 (x.toNat : Int)) = (backCs { b with mac := b.mac.set k x }).toArray := by
  have h16 := addrCs_length h.addr
  have h6 := h.mac
  rw [List.setIfInBounds_toArray, show 19 + k = (17 + (k + 1)) + 1 by omega, backCs, List.set_cons_succ, List.set_append_right _ _ (by omega), h16, Nat.add_sub_cancel_left, List.set_cons_succ, List.set_append_left _ _ (by rw [bcells_length]; omega)]
  congr 1
  simp only [backCs]
  rw [show (bcells b.mac).set k (.int .u8 (x.toNat : Int)) = bcells (b.mac.set k x) from (bcells_set _ _ _).symm]
/-- What Take answers. -/
def PTkIs (B g : Nat) (st : PS) (w : World) (e : Ending) (w' : World) : Prop :=
  e = .returned (.agg (backCs (takeBP st).2).toArray) ∧ PW w' B g (takeBP st).1 ∧ w.grownBy w' (some g)

set_option maxHeartbeats 2000000 in
set_option maxRecDepth 100000 in
theorem pTake_any (B g : Nat) (st : PS) (w : World) (h : PW w B g st) (hr : st.1.length ≤ 1000000000) :
    Calls Try.prog 31 #[.pointer (some ⟨g, 0, none⟩)] w (PTkIs B g st w) := by
  have hgl := h.lt
  rcases h1 : textP st 255 with ⟨s1, nm⟩
  rcases h2 : flagP s1 with ⟨s2, sx⟩
  rcases h3 : takeP s2 24 with ⟨s3, x⟩
  rcases h4 : weightP s3 with ⟨s4, wt⟩
  rcases h5 : flagP s4 with ⟨s5, dr⟩
  have hb : backP st = (s5, backOf nm sx x wt dr) := by
    unfold backP
    simp only [h1, h2, h3, h4, h5]
  have l1 := textP_len st 255
  have l2 := flagP_len s1
  have l3 := takeP_lenL s2 24
  have l4 := weightP_len s3
  rw [h1] at l1
  rw [h2] at l2
  rw [h3] at l3
  rw [h4] at l4
  have hx := takeP_len s2 24
  rw [h3] at hx
  have hwt := weightP_lt s3
  rw [h4] at hwt
  simp only at l1 l2 l3 l4 hx hwt
  have Hx := Lib.hid hx
  have Hwt := Lib.hid hwt
  have K1 := Lib.hid h1
  have K2 := Lib.hid h2
  have K3 := Lib.hid h3
  have K4 := Lib.hid h4
  have K5 := Lib.hid h5
  have Hb := Lib.hid hb
  have Hgl := Lib.hid hgl
  obtain ⟨W0, hW0⟩ : ∃ W, W = w.alloc (.cells (backCs back0).toArray 29) := ⟨_, rfl⟩
  have hbw : Below w.heap.size w W0 := by rw [hW0]; exact (Below.refl _ _).alloc (Nat.le_refl _) _
  have hX0 : Blk W0 w.heap.size 29 (backCs back0).toArray := by rw [hW0]; exact Blk.new w _ _ _ rfl
  have HX0 := Lib.hid hX0
  have Hp0 := Lib.hid (h.below hbw)
  have Hbw := Lib.hid hbw
  rw [back0_lit] at hW0
  have HW0 := Lib.hid hW0
  clear h1 h2 h3 h4 h5 hb hx hwt hgl hW0 hbw hX0 h
  go_enter Try.func31, Try.ntmps31
  go_upto_region 1 with fail
  rw [← HW0.out]
  clear HW0
  go_wp2_with fail
  refine (ptext_any B g st 255 W0 Hp0.out (by decide) hr).mono ?_
  unfold PTextIs
  rw [K1.out]
  rintro e w1 ⟨rfl, hp1, hg1⟩
  obtain ⟨b1, hb1⟩ : ∃ b : BackP, b = { back0 with name := nm } := ⟨_, rfl⟩
  have hS1 : BackShape b1 := by rw [hb1]; exact ⟨rfl, rfl, by show (0 : Nat) < 18446744073709551616; decide⟩
  obtain ⟨W2, hW2⟩ : ∃ W, W = w1.alloc (.cells (backCs back0).toArray 29) := ⟨_, rfl⟩
  obtain ⟨W3, hW3⟩ : ∃ W, W = W2.setCells w1.heap.size 0 (backCs b1) := ⟨_, rfl⟩
  obtain ⟨hth, hbx, hbe⟩ := boxed w1 W2 W3 29 (backCs back0) (backCs b1) (by rw [back_len hS1, back_len back0_shape]) hW2 hW3
  have hX1 : Blk w1 w.heap.size 29 (backCs back0).toArray := Blk.grown HX0.out hg1 (fun e => by injection e with e; have := Hgl.out; omega)
  have hst : TSt w W3 B g w1.heap.size s1 b1 := ⟨hp1.below hbe, Blk.below hX1 hbe hX1.lt, hbx, grownTrans (grownOf Hbw.out) (grownTrans hg1 (grownOf hbe)), hS1, hX1.lt, Hgl.out⟩
  have Hst := Lib.hid hst
  have Hlit : Hid ((backCs b1).toArray = #[.string ⟨nm.toArray⟩, .bool false, .int .u8 0, .int .u8 0, .int .u8 0, .int .u8 0, .int .u8 0, .int .u8 0, .int .u8 0, .int .u8 0, .int .u8 0, .int .u8 0, .int .u8 0, .int .u8 0, .int .u8 0, .int .u8 0, .int .u8 0, .int .u8 0, .int .i64 0, .int .u8 0, .int .u8 0, .int .u8 0, .int .u8 0, .int .u8 0, .int .u8 0, .float .f64 0, .bool false]) := by show _ = _; rw [hb1]; rfl
  rw [back0_lit] at hW2
  have HW2 := Lib.hid hW2
  have HW3 := Lib.hid hW3
  have Hth := Lib.hid hth
  have Hsz : Hid ((Try.prog.info? 29).map (·.size) = some (backCs b1).toArray.size) := back_sz hS1
  have Hb1 := Lib.hid hb1
  clear hp1 hg1 hS1 hW2 hW3 hth hbx hbe hX1 hst hb1 HX0 Hp0 Hbw
  go_upto_region 2 with (first
    | (rw [← HW2.out]; (with_reducible refine gateS 29 ?_); rw [← Hlit.out]; refine wpList_store_mid rfl 29 (.tmp 3) (.tmp 9) rfl w1.heap.size 0 (backCs b1).toArray rfl rfl Hth.out Hsz.out (back_one _) ?_))
  rw [← HW3.out]
  clear HW2 HW3 Hth Hsz Hlit
  obtain ⟨bx, hbxn⟩ : ∃ z, z = w1.heap.size := ⟨_, rfl⟩
  rw [← hbxn] at Hst ⊢
  clear hbxn
  go_wp2_with fail
  refine (pflag_any B g s1 W3 Hst.out.pw (by omega)).mono ?_
  unfold PFlagIs
  rw [K2.out]
  rintro e w4 ⟨rfl, hp4, hg4⟩
  have H4 := Lib.hid (Hst.out.after hp4 hg4)
  clear hp4 hg4 Hst
  obtain ⟨b2, hb2⟩ : ∃ b : BackP, b = { back0 with name := nm, addr := (sx, List.replicate 16 0) } := ⟨_, rfl⟩
  have hS2 : BackShape b2 := by rw [hb2]; exact ⟨rfl, rfl, by show (0 : Nat) < 18446744073709551616; decide⟩
  have dx := cb_six H4.out.box H4.out.shape
  have df := H4.out.box.frozen 1
  have hst2 := H4.out.set_ (b' := b2) 1 (.bool sx) (by rw [bset_six, Hb1.out, hb2]; rfl) hS2
  obtain ⟨W5, hW5⟩ : ∃ W, W = w4.setCell ⟨bx, 1, none⟩ (.bool sx) := ⟨_, rfl⟩
  rw [← hW5] at hst2
  have H5 := Lib.hid hst2
  have HW5 := Lib.hid hW5
  have Hb2 := Lib.hid hb2
  clear hS2 hst2 hW5 hb2
  go_upto_region 3 with fail
  rw [← HW5.out]
  clear dx df HW5 H4
  go_wp2_with fail
  refine (ptake_any B g s2 24 W5 H5.out.pw (by decide) (by omega)).mono ?_
  unfold PTakeIs
  rw [K3.out]
  rintro e w6 ⟨A6, c6, rfl, hown6, hp6, hg6⟩
  have hc6 := own_le hown6
  obtain ⟨ba, cap, hv, hba, hba2⟩ := hown6.form (by decide)
  injection hv with hA hn hc'
  subst hA hc'
  have hst6 := H5.out.after hp6 hg6
  have hxc : XC w6 ba bx x := by
    refine ⟨hba2, ?_, fun j u hj => ?_⟩
    · intro e
      have := H5.out.box.lt
      omega
    · obtain ⟨ad, hA, _, hcell⟩ := (BS.of_own (l := x) hown6).1 (by rw [Hx.out]; decide)
      injection hA with hA
      subst hA
      have := hcell j u hj
      rw [show (⟨ba, 0, none⟩ : Addr).add j = ⟨ba, j, none⟩ by unfold Addr.add; split <;> simp_all] at this
      exact this
  have H6 := Lib.hid hst6
  have HXC := Lib.hid hxc
  clear hown6 hp6 hg6 hba hba2 hst6 hxc H5
  go_upto_region 4 with fail
  go_wp2_with fail
  go_loopw [5] (fun i wr => ∃ k : Nat, k ≤ 16 ∧ i = .int .i64 (k : Int) ∧ Hid (TSt w wr B g bx s3 { b2 with addr := (sx, pad (x.take k) 16) }) ∧ Hid (XC wr ba bx x)) (fun i _ => 16 - (intOf i).toNat)
  case atStart => exact ⟨0, by omega, rfl, by have := H6; rw [show ({ b2 with addr := (sx, pad (x.take 0) 16) } : BackP) = b2 by rw [Hb2.out]; rfl]; exact H6, HXC⟩
  case round =>
    clear H6 HXC
    obtain ⟨k, hk, rfl, hat, hxc⟩ := hrel
    rename World => wr
    by_cases hlt : k < 16
    · have hltI : (k : Int) < 16 := by omega
      have hk0 : (0 : Int) ≤ (k : Int) := by omega
      have hkq : (k : Int) < 24 := by omega
      skip
      skip
      skip
      obtain ⟨u, hu⟩ : ∃ u, x[k]? = some u := ⟨_, List.getElem?_eq_getElem (by have := Hx.out; omega)⟩
      have d0 := hxc.out.2.2 _ u hu
      have hzc : (wr.cell? ⟨bx, 2 + k, none⟩).isSome = true := (Blk.there (o := 0) (n := 27) hat.out.box (by rw [List.size_toArray, back_len hat.out.shape]; decide) (2 + k) (by omega) |>.1 |> (by simpa using ·))
      obtain ⟨z, hz⟩ := Option.isSome_iff_exists.1 hzc
      have df := hat.out.box.frozen (2 + k)
      have h' := hat.out.set_ (b' := { b2 with addr := (sx, pad (x.take (k + 1)) 16) }) (2 + k) (.int .u8 (u.toNat : Int)) (by
        have h1 := bset_addr hat.out.shape (k := k) (by omega) u
        refine h1.trans ?_
        simp only
        rw [padT_setx hu (by omega)]) ⟨by show (pad _ _).length = 16; exact pad_len (by rw [List.length_take]; omega), hat.out.shape.mac, hat.out.shape.wt⟩
      have hx' := hxc.out.set_ (2 + k) (.int .u8 (u.toNat : Int))
      have H' := Lib.hid h'
      have HX' := Lib.hid hx'
      clear h' hx' hzc hat hxc
      go_wp2_with fail
      go_roundw
      case rel => exact ⟨k + 1, by omega, by go_num, H', HX'⟩
      case measure => simp [intOf]; omega
    · have hkN : k = 16 := by omega
      have hkI : (k : Int) = 16 := by omega
      rw [hkN] at hat
      rw [hkI]
      clear hk hlt hkN hkI
      obtain ⟨p16, hp16⟩ : ∃ u, x[16]? = some u := ⟨_, List.getElem?_eq_getElem (by have := Hx.out; omega)⟩
      obtain ⟨p17, hp17⟩ : ∃ u, x[17]? = some u := ⟨_, List.getElem?_eq_getElem (by have := Hx.out; omega)⟩
      have t16 := p16.toNat_lt
      have t17 := p17.toNat_lt
      obtain ⟨po, hpo⟩ : ∃ p : Int, p = 256 * (p16.toNat : Int) + (p17.toNat : Int) := ⟨_, rfl⟩
      have Hpo : Hid (po = ((256 * (x.getD 16 0).toNat + (x.getD 17 0).toNat : Nat) : Int)) := by
        show _ = _
        rw [List.getD_eq_getElem?_getD, List.getD_eq_getElem?_getD, hp16, hp17, hpo]
        simp
      obtain ⟨b3, hb3⟩ : ∃ b : BackP, b = { b2 with addr := (sx, pad (x.take 16) 16), port := po } := ⟨_, rfl⟩
      have hS3 : BackShape b3 := by rw [hb3]; exact ⟨hat.out.shape.addr, hat.out.shape.mac, hat.out.shape.wt⟩
      have Hpo2 := Lib.hid hpo
      have Hb3 := Lib.hid hb3
      have H16 := Lib.hid hp16
      have H17 := Lib.hid hp17
      have HS3 := Lib.hid hS3
      clear hpo hb3 hp16 hp17 hS3
      go_upto_region 8 with fail
      refine wp_region_noPanic ?_
      refine wp_region_held_drew (S := fun w' => XC w' ba bx x) (by kernel_rfl) (hxc.out) (fun hHeld => ?_)
      refine wpAnyH_take (i := 0) (v := ?_) rfl (by kernel_rfl) (by kernel_rfl) (by kernel_rfl) (fun _ _ _ h => h) (Or.inl ⟨by rfl, ?_⟩) hHeld ?_
      rotate_left
      · intro w' hSw
        skip
        go_simp
        try with_reducible rfl
      try (simp only [Act.put, List.getElem_toArray, List.getElem_cons_succ, List.getElem_cons_zero, List.setIfInBounds_toArray, List.set_cons_zero, List.set_cons_succ])
      refine wpAnyH_take (i := 1) (v := ?_) rfl (by kernel_rfl) (by kernel_rfl) (by kernel_rfl) (fun _ _ _ h => h) (Or.inl ⟨by rfl, ?_⟩) hHeld ?_
      rotate_left
      · intro w' hSw
        skip
        go_simp
        try with_reducible rfl
      try (simp only [Act.put, List.getElem_toArray, List.getElem_cons_succ, List.getElem_cons_zero, List.setIfInBounds_toArray, List.set_cons_zero, List.set_cons_succ])
      refine wpAnyH_take (i := 2) (v := ?_) rfl (by kernel_rfl) (by kernel_rfl) (by kernel_rfl) (fun _ _ _ h => h) (Or.inl ⟨by rfl, ?_⟩) hHeld ?_
      rotate_left
      · intro w' hSw
        have e9 := (hSw : XC w' ba bx x).2.2 16 p16 H16.out
        go_simp
        try with_reducible rfl
      try (simp only [Act.put, List.getElem_toArray, List.getElem_cons_succ, List.getElem_cons_zero, List.setIfInBounds_toArray, List.set_cons_zero, List.set_cons_succ])
      refine wpAnyH_take (i := 3) (v := ?_) rfl (by kernel_rfl) (by kernel_rfl) (by kernel_rfl) (fun _ _ _ h => h) (Or.inl ⟨by rfl, ?_⟩) hHeld ?_
      rotate_left
      · intro w' hSw
        have hwm : IntKind.i64.wrap (p16.toNat : Int) = (p16.toNat : Int) := IntWalk.i64_in _ (by omega)
        go_simp
        try with_reducible rfl
      try (simp only [Act.put, List.getElem_toArray, List.getElem_cons_succ, List.getElem_cons_zero, List.setIfInBounds_toArray, List.set_cons_zero, List.set_cons_succ])
      refine wpAnyH_take (i := 4) (v := ?_) rfl (by kernel_rfl) (by kernel_rfl) (by kernel_rfl) (fun _ _ _ h => h) (Or.inl ⟨by rfl, ?_⟩) hHeld ?_
      rotate_left
      · intro w' hSw
        have hwm : IntKind.i64.wrap (256 * (p16.toNat : Int)) = 256 * (p16.toNat : Int) := IntWalk.i64_in _ (by omega)
        go_simp
        try with_reducible rfl
      try (simp only [Act.put, List.getElem_toArray, List.getElem_cons_succ, List.getElem_cons_zero, List.setIfInBounds_toArray, List.set_cons_zero, List.set_cons_succ])
      refine wpAnyH_take (i := 5) (v := ?_) rfl (by kernel_rfl) (by kernel_rfl) (by kernel_rfl) (fun _ _ _ h => h) (Or.inl ⟨by rfl, ?_⟩) hHeld ?_
      rotate_left
      · intro w' hSw
        skip
        go_simp
        try with_reducible rfl
      try (simp only [Act.put, List.getElem_toArray, List.getElem_cons_succ, List.getElem_cons_zero, List.setIfInBounds_toArray, List.set_cons_zero, List.set_cons_succ])
      refine wpAnyH_take (i := 6) (v := ?_) rfl (by kernel_rfl) (by kernel_rfl) (by kernel_rfl) (fun _ _ _ h => h) (Or.inl ⟨by rfl, ?_⟩) hHeld ?_
      rotate_left
      · intro w' hSw
        skip
        go_simp
        try with_reducible rfl
      try (simp only [Act.put, List.getElem_toArray, List.getElem_cons_succ, List.getElem_cons_zero, List.setIfInBounds_toArray, List.set_cons_zero, List.set_cons_succ])
      refine wpAnyH_take (i := 7) (v := ?_) rfl (by kernel_rfl) (by kernel_rfl) (by kernel_rfl) (fun _ _ _ h => h) (Or.inl ⟨by rfl, ?_⟩) hHeld ?_
      rotate_left
      · intro w' hSw
        have e9 := (hSw : XC w' ba bx x).2.2 17 p17 H17.out
        go_simp
        try with_reducible rfl
      try (simp only [Act.put, List.getElem_toArray, List.getElem_cons_succ, List.getElem_cons_zero, List.setIfInBounds_toArray, List.set_cons_zero, List.set_cons_succ])
      refine wpAnyH_take (i := 8) (v := ?_) rfl (by kernel_rfl) (by kernel_rfl) (by kernel_rfl) (fun _ _ _ h => h) (Or.inl ⟨by rfl, ?_⟩) hHeld ?_
      rotate_left
      · intro w' hSw
        have hwm : IntKind.i64.wrap (p17.toNat : Int) = (p17.toNat : Int) := IntWalk.i64_in _ (by omega)
        go_simp
        try with_reducible rfl
      try (simp only [Act.put, List.getElem_toArray, List.getElem_cons_succ, List.getElem_cons_zero, List.setIfInBounds_toArray, List.set_cons_zero, List.set_cons_succ])
      refine wpAnyH_take (i := 9) (v := ?_) rfl (by kernel_rfl) (by kernel_rfl) (by kernel_rfl) (fun _ _ _ h => h) (Or.inl ⟨by rfl, ?_⟩) hHeld ?_
      rotate_left
      · intro w' hSw
        have hwm : IntKind.i64.wrap (256 * (p16.toNat : Int) + (p17.toNat : Int)) = po := by rw [IntWalk.i64_in _ (by omega)]; exact Hpo2.out.symm
        go_simp
        try with_reducible rfl
      try (simp only [Act.put, List.getElem_toArray, List.getElem_cons_succ, List.getElem_cons_zero, List.setIfInBounds_toArray, List.set_cons_zero, List.set_cons_succ])
      refine wpAnyH_take (i := 10) (v := ?_) rfl (by kernel_rfl) (by kernel_rfl) (by kernel_rfl) (fun _ _ _ h => h) (Or.inl ⟨by rfl, ?_⟩) hHeld ?_
      rotate_left
      · intro w' hSw
        skip
        go_simp
        try with_reducible rfl
      try (simp only [Act.put, List.getElem_toArray, List.getElem_cons_succ, List.getElem_cons_zero, List.setIfInBounds_toArray, List.set_cons_zero, List.set_cons_succ])
      refine wpAnyH_ready (rs := [11]) (by kernel_rfl) (by simp) ?_
      refine AllReadyH.cons (i := 11) rfl (fun K hK => ?_) AllReadyH.nil
      have dx : wr.drew.cell? ⟨bx, 18, none⟩ = some (.int .i64 b2.port) := cb_port (b := { b2 with addr := (sx, pad (x.take 16) 16) }) (Blk.drew hat.out.box) hat.out.shape
      have df := (Blk.drew hat.out.box).frozen 18
      go_simp
      obtain ⟨W7, hW7⟩ : ∃ W, W = (wr.setCell ⟨bx, 18, none⟩ (.int .i64 po)).drew := ⟨_, rfl⟩
      have h7 : TSt w W7 B g bx s3 b3 := by
        rw [hW7]
        exact (hat.out.set_ 18 (.int .i64 po) (by rw [bset_port hat.out.shape, Hb3.out]) HS3.out).below (Below.refl _ _).drew
      have hx7 : XC W7 ba bx x := by
        rw [hW7]
        exact hxc.out.set_ 18 (.int .i64 po)
      rw [← hW7]
      have H7 := Lib.hid h7
      have HX7 := Lib.hid hx7
      have hBehind := hx7
      clear h7 hx7 hW7 dx df
      go_wp2_with fail
      refine hK.out _ _ hBehind (fun hHeld => ?_)
      clear hK K hBehind
      try (simp only [Act.put, List.getElem_toArray, List.getElem_cons_succ, List.getElem_cons_zero, List.setIfInBounds_toArray, List.set_cons_zero, List.set_cons_succ])
      refine wpAnyH_done (by kernel_rfl) ?_ _
      refine NoPanic.normal ?_
      go_wp2_with fail
      clear hat hxc
      go_loopw [6] (fun i wr => ∃ k : Nat, k ≤ 6 ∧ i = .int .i64 (k : Int) ∧ Hid (TSt w wr B g bx s3 { b3 with mac := pad ((x.drop 18).take k) 6 }) ∧ Hid (XC wr ba bx x)) (fun i _ => 6 - (intOf i).toNat)
      case atStart => exact ⟨0, by omega, rfl, by have := H7; rw [show ({ b3 with mac := pad ((x.drop 18).take 0) 6 } : BackP) = b3 by rw [Hb3.out, Hb2.out]; rfl]; exact H7, HX7⟩
      case round =>
        clear H7 HX7
        obtain ⟨k, hk, rfl, hat, hxc⟩ := hrel
        rename World => wr
        by_cases hlt : k < 6
        · have hltI : (k : Int) < 6 := by omega
          have hk0 : (0 : Int) ≤ (k : Int) := by omega
          have hkq : 18 + (k : Int) < 24 := by omega
          have hk1 : (0 : Int) ≤ 18 + (k : Int) := by omega
          have hkt : (18 + (k : Int)).toNat = 18 + k := by omega
          have hwk : IntKind.i64.wrap (18 + (k : Int)) = 18 + (k : Int) := IntWalk.i64_in _ (by omega)
          obtain ⟨u, hu⟩ : ∃ u, x[18 + k]? = some u := ⟨_, List.getElem?_eq_getElem (by have := Hx.out; omega)⟩
          have d0 := hxc.out.2.2 _ u hu
          have hzc : (wr.cell? ⟨bx, 19 + k, none⟩).isSome = true := (Blk.there (o := 0) (n := 27) hat.out.box (by rw [List.size_toArray, back_len hat.out.shape]; decide) (19 + k) (by omega) |>.1 |> (by simpa using ·))
          obtain ⟨z, hz⟩ := Option.isSome_iff_exists.1 hzc
          have df := hat.out.box.frozen (19 + k)
          have h' := hat.out.set_ (b' := { b3 with mac := pad ((x.drop 18).take (k + 1)) 6 }) (19 + k) (.int .u8 (u.toNat : Int)) (by
            have h1 := bset_mac hat.out.shape (k := k) (by omega) u
            refine h1.trans ?_
            simp only
            rw [padT_setx (by rw [List.getElem?_drop]; exact hu) (by omega)]) ⟨hat.out.shape.addr, by show (pad _ _).length = 6; exact pad_len (by rw [List.length_take]; omega), hat.out.shape.wt⟩
          have hx' := hxc.out.set_ (19 + k) (.int .u8 (u.toNat : Int))
          have H' := Lib.hid h'
          have HX' := Lib.hid hx'
          clear h' hx' hzc hat hxc
          go_wp2_with fail
          go_roundw
          case rel => exact ⟨k + 1, by omega, by go_num, H', HX'⟩
          case measure => simp [intOf]; omega
        · have hkN : k = 6 := by omega
          have hkI : (k : Int) = 6 := by omega
          rw [hkN] at hat
          rw [hkI]
          clear hk hlt hkN hkI
          obtain ⟨b4, hb4⟩ : ∃ b : BackP, b = { b3 with mac := pad ((x.drop 18).take 6) 6 } := ⟨_, rfl⟩
          rw [← hb4] at hat
          have Hb4 := Lib.hid hb4
          clear hb4 hxc
          go_wp2_with fail
          refine (pweight_any B g s3 wr hat.out.pw (by omega)).mono ?_
          unfold PWtIs
          rw [K4.out]
          rintro e w8 ⟨rfl, hp8, hg8⟩
          have H8 := Lib.hid (hat.out.after hp8 hg8)
          clear hp8 hg8 hat
          obtain ⟨b5, hb5⟩ : ∃ b : BackP, b = { b4 with wt := wt } := ⟨_, rfl⟩
          have hS5 : BackShape b5 := by rw [hb5]; exact ⟨H8.out.shape.addr, H8.out.shape.mac, Hwt.out⟩
          have dx := cb_wt H8.out.box H8.out.shape
          have df := H8.out.box.frozen 25
          have hsf := fun (a : Addr) (m : Mode) (n : Nat) (w : World) => run_store_f64 a n m w
          have hst9 := H8.out.set_ (b' := b5) 25 (.float .f64 wt) (by rw [bset_wt H8.out.shape, hb5]) hS5
          obtain ⟨W9, hW9⟩ : ∃ W, W = w8.setCell ⟨bx, 25, none⟩ (.float .f64 wt) := ⟨_, rfl⟩
          rw [← hW9] at hst9
          have H9 := Lib.hid hst9
          have HW9 := Lib.hid hW9
          have Hb5 := Lib.hid hb5
          clear hS5 hst9 hW9 hb5
          go_upto_region 14 with fail
          rw [← HW9.out]
          clear dx df hsf HW9 H8
          go_wp2_with fail
          refine (pflag_any B g s4 W9 H9.out.pw (by omega)).mono ?_
          unfold PFlagIs
          rw [K5.out]
          rintro e w10 ⟨rfl, hp10, hg10⟩
          have HA := Lib.hid (H9.out.after hp10 hg10)
          clear hp10 hg10 H9
          obtain ⟨b6, hb6⟩ : ∃ b : BackP, b = backOf nm sx x wt dr := ⟨_, rfl⟩
          have hb6' : { b5 with drain := dr } = b6 := by
            have hxl := Hx.out
            have q1 : pad (x.take 16) 16 = x.take 16 := by simp [pad, hxl]
            have q2 : pad ((x.drop 18).take 6) 6 = (x.drop 18).take 6 := by simp [pad, hxl]
            rw [hb6, Hb5.out, Hb4.out, Hb3.out, Hb2.out, Hpo.out, q1, q2]
            rfl
          have hS6 : BackShape b6 := by rw [← hb6']; exact ⟨HA.out.shape.addr, HA.out.shape.mac, HA.out.shape.wt⟩
          have dx := cb_drain HA.out.box HA.out.shape
          have df := HA.out.box.frozen 26
          have hst11 := HA.out.set_ (b' := b6) 26 (.bool dr) (by rw [bset_drain HA.out.shape, hb6']) hS6
          obtain ⟨W11, hW11⟩ : ∃ W, W = w10.setCell ⟨bx, 26, none⟩ (.bool dr) := ⟨_, rfl⟩
          rw [← hW11] at hst11
          have HB := Lib.hid hst11
          have HW11 := Lib.hid hW11
          rw [← hb6] at Hb
          clear hst11 hW11 hb6 hb6' hS6
          go_upto_region 15 with fail
          rw [← HW11.out]
          clear dx df HW11 HA
          obtain ⟨A12, c12, hX12, _⟩ := HB.out.pw
          have d1 : W11.cell? ⟨g, 1, none⟩ = some (.bool s5.2) := hX12.cell 1
          clear hX12
          rcases hbd : s5.2 with _ | _
          · have Htk : Hid (takeBP st = (s5, b6)) := by show _ = _; unfold takeBP; rw [Hb.out]; simp [hbd]
            rw [hbd] at d1
            clear hbd
            have RF := Lib.hid (blk_range HB.out.box)
            have Hthr : Hid (W11.there w.heap.size 0 (backCs b6).toArray.size) := HB.out.res.there (by rw [List.size_toArray, List.size_toArray, back_len HB.out.shape, back_len back0_shape]; decide)
            have Hszr : Hid ((Try.prog.info? 29).map (·.size) = some (backCs b6).toArray.size) := back_sz HB.out.shape
            have HG := Lib.hid HB.out.goodBlk
            have HE := Lib.hid (HB.out.good (backCs b6))
            go_wp2_with (first
              | ((with_reducible refine gateL 29 ?_); refine wpList_load_g (by rfl) 29 (.tmp 3) rfl bx 0 rfl (backCs b6) _ RF.out back_under rfl (back_sz HB.out.shape) ?_)
              | ((with_reducible refine gateS 29 ?_); refine wpList_store_mid rfl 29 (.tmp 2) (.tmp 62) rfl w.heap.size 0 (backCs b6).toArray rfl rfl Hthr.out Hszr.out (back_one _) ?_))
            refine bodyPost_ret (v := .agg (backCs b6).toArray) (results_row1 (P := Try.prog) (p := 2) rfl _ _ w.heap.size _ _ _ rfl HG.out back_under rfl Hszr.out) rfl ⟨by rw [Htk.out], by rw [Htk.out]; exact HE.out.1, HE.out.2⟩
          · have Htk : Hid (takeBP st = (s5, back0)) := by show _ = _; unfold takeBP; rw [Hb.out]; simp [hbd]
            rw [hbd] at d1
            clear hbd
            have Hthr : Hid (W11.there w.heap.size 0 (backCs back0).toArray.size) := HB.out.res.there (by rw [List.size_toArray, back_len back0_shape]; decide)
            have Hszr : Hid ((Try.prog.info? 29).map (·.size) = some (backCs back0).toArray.size) := back_sz back0_shape
            have HG := Lib.hid HB.out.zeroBlk
            have HE := Lib.hid (HB.out.good (backCs back0))
            go_wp2_with (first
              | ((with_reducible refine gateS 29 ?_); rw [← back0_lit]; refine wpList_store_mid rfl 29 (.tmp 2) (.tmp 61) rfl w.heap.size 0 (backCs back0).toArray rfl rfl Hthr.out Hszr.out (back_one _) ?_))
            refine bodyPost_ret (v := .agg (backCs back0).toArray) (results_row1 (P := Try.prog) (p := 2) rfl _ _ w.heap.size _ _ _ rfl HG.out back_under rfl Hszr.out) rfl ⟨by rw [Htk.out], by rw [Htk.out]; exact HE.out.1, HE.out.2⟩
end Go.Proofs.Ytgohhojoahlfiaa
