/- The walk of the document's Get (printed by gen_evpg.py). -/
import Derived.Test.YtgohhojoahlfiaaEvPb
import Derived.Test.YtgohhojoahlfiaaEvRr
import Derived.Test.YtgohhojoahlfiaaEvN
import Derived.Deep.Cut
import Derived.Deep.CutRange
namespace Go.Proofs.Ytgohhojoahlfiaa
open Go.RowKit
set_option linter.unusedVariables false
set_option linter.unusedSimpArgs false

/-- Bytes behind the box. -/
def FR (wr : World) (bx : Nat) (A : Option Addr) (l : List UInt8) : Prop := 0 < l.length → ∃ ba, A = some ⟨ba, 0, none⟩ ∧ bx < ba ∧ ba < wr.heap.size ∧ ∀ (j : Nat) (u : UInt8), l[j]? = some u → wr.cell? ⟨ba, j, none⟩ = some (.int .u8 (u.toNat : Int))
section
variable {wr w' : World} {bx : Nat} {A : Option Addr} {l : List UInt8}
theorem FR.nil (wr : World) (bx : Nat) (A : Option Addr) : FR wr bx A [] := fun h => absurd h (by simp)
theorem FR.grown (h : FR wr bx A l) {row : Option Nat} (hg : wr.grownBy w' row) (hr : ∀ k, row = some k → k ≤ bx) : FR w' bx A l := fun hp => by
  obtain ⟨ba, h1, h2, h3, h4⟩ := h hp
  exact ⟨ba, h1, h2, Nat.lt_of_lt_of_le h3 hg.size, fun j u hj => (World.cell?_of_block (hg.block ba h3 (fun e => by have := hr _ e.symm; omega))).trans (h4 j u hj)⟩
theorem FR.bs (h : FR wr bx A l) : BS wr wr.heap.size A l := fun hp => by
  obtain ⟨ba, h1, h2, h3, h4⟩ := h hp
  refine ⟨⟨ba, 0, none⟩, h1, h3, fun j u hj => ?_⟩
  rw [show (⟨ba, 0, none⟩ : Addr).add j = ⟨ba, j, none⟩ by unfold Addr.add; split <;> simp_all]
  exact h4 j u hj
end
theorem own_xc {w : World} {base bx n c : Nat} {A : Option Addr} {x : List UInt8} (h : w.ownsRow base 5 1 (.slice A n c) n (bcells x)) (hx : x.length = n) (hn : 0 < n) (hb : bx < base) : ∃ ba, A = some ⟨ba, 0, none⟩ ∧ XC w ba bx x ∧ n ≤ c := by
  have hc := own_le h
  obtain ⟨ba, cap, hv, h1, h2⟩ := h.form hn
  injection hv with hA _ _
  subst hA
  refine ⟨ba, rfl, ⟨h2, by omega, fun j u hj => ?_⟩, hc⟩
  obtain ⟨ad, hA, _, hcell⟩ := (BS.of_own (l := x) h).1 (by omega)
  injection hA with hA
  subst hA
  have := hcell j u hj
  rw [show (⟨ba, 0, none⟩ : Addr).add j = ⟨ba, j, none⟩ by unfold Addr.add; split <;> simp_all] at this
  exact this
/-- An event with no more than its act. -/
def evOfA (a : ActP) : EvP := { ev0 with act := a }
theorem evOfA_shape {a : ActP} (h : ActShape a) : EvShape (evOfA a) := ⟨h, by show (0 : Nat) < 4294967296; decide⟩
/-- The boxes of Get. -/
structure GSt (w wr : World) (g bx : Nat) (st : PS) (A : Option Addr) (c : Nat) (b : EvP) : Prop where
  pw : PW wr w.heap.size g st
  res : Blk wr w.heap.size 39 (evCs none 0 0 none 0 0 ev0).toArray
  box : Blk wr bx 39 (evCs A b.act.frame.length c none 0 0 b).toArray
  fr : FR wr bx A b.act.frame
  bel : Below w.heap.size w wr
  shape : EvShape b
  gl : w.heap.size < g
  gb : g < bx
section
variable {w wr w' : World} {g bx : Nat} {st st' : PS} {A A' : Option Addr} {c c' : Nat} {b b' : EvP}
theorem GSt.after (h : GSt w wr g bx st A c b) (hp : PW w' w.heap.size g st') (hg : wr.grownBy w' (some g)) : GSt w w' g bx st' A c b := by
  have h1 := h.gl; have h2 := h.gb
  exact ⟨hp, Blk.grown h.res hg (fun e => by injection e with e; omega), Blk.grown h.box hg (fun e => by injection e with e; omega), h.fr.grown hg (fun k hk => by injection hk with hk; omega), h.bel.grown hg h.bel.size (fun k hk => by injection hk with hk; omega), h.shape, h1, h2⟩
theorem GSt.below (h : GSt w wr g bx st A c b) (hb : Below wr.heap.size wr w') : GSt w w' g bx st A c b := h.after (h.pw.below hb) (grownOf hb)
theorem GSt.put (h : GSt w wr g bx st A c b) (hb : Blk w' bx 39 (evCs A' b'.act.frame.length c' none 0 0 b').toArray) (hg : wr.grownBy w' (some bx)) (hs : EvShape b') (hf : FR w' bx A' b'.act.frame) : GSt w w' g bx st A' c' b' := by
  have h1 := h.gl; have h2 := h.gb
  exact ⟨h.pw.off hg (fun e => by injection e with e; omega) (fun k hk => by injection hk with hk; omega), Blk.grown h.res hg (fun e => by injection e with e; omega), hb, hf, h.bel.grown hg h.bel.size (fun k hk => by injection hk with hk; omega), hs, h1, h2⟩
theorem GSt.set_ (h : GSt w wr g bx st A c b) (k : Nat) (u : Value) (e : (evCs A b.act.frame.length c none 0 0 b).toArray.setIfInBounds k u = (evCs A b'.act.frame.length c none 0 0 b').toArray) (hs : EvShape b') (hf : b'.act.frame = b.act.frame) : GSt w (wr.setCell ⟨bx, k, none⟩ u) g bx st A c b' := by
  refine h.put ?_ (grownSet _ ⟨bx, k, none⟩ u) hs (by rw [hf]; exact h.fr.grown (grownSet _ ⟨bx, k, none⟩ u) (fun k hk => by injection hk with hk; exact Nat.le_of_eq hk.symm))
  have := Blk.set_ h.box k u
  rw [e] at this
  exact this
theorem GSt.sets (h : GSt w wr g bx st A c b) (k : Nat) (vs : List Value) (e : setL (evCs A b.act.frame.length c none 0 0 b).toArray k vs = (evCs A b'.act.frame.length c none 0 0 b').toArray) (hs : EvShape b') (hf : b'.act.frame = b.act.frame) : GSt w (wr.setCells bx k vs) g bx st A c b' := by
  have hg : wr.grownBy (wr.setCells bx k vs) (some bx) := grownCells _ bx k vs k (World.grownBy.refl _ _)
  refine h.put ?_ hg hs (by rw [hf]; exact h.fr.grown hg (fun k hk => by injection hk with hk; exact Nat.le_of_eq hk.symm))
  have := Blk.setCells vs k h.box
  rw [e] at this
  exact this
theorem GSt.setFrame (h : GSt w wr g bx st A c b) (fr : List UInt8) (n : Nat) (hn : n = fr.length) (hf : FR wr bx A' fr) : GSt w (wr.setCell ⟨bx, 1, none⟩ (.slice A' n c')) g bx st A' c' { b with act := { b.act with frame := fr } } := by
  subst hn
  refine h.put ?_ (grownSet _ ⟨bx, 1, none⟩ _) ⟨⟨h.shape.act.back, h.shape.act.owt⟩, h.shape.sum⟩ (hf.grown (grownSet _ ⟨bx, 1, none⟩ _) (fun k hk => by injection hk with hk; exact Nat.le_of_eq hk.symm))
  have := Blk.set_ h.box 1 (.slice A' fr.length c')
  rw [eset_frame] at this
  exact this
end
section
variable {A A2 : Option Addr} {n c n2 c2 : Nat} {e : EvP}
theorem eset_act (h : EvShape e) {i : Nat} (hi : i < 34) (v : Value) (a' : ActP) (e1 : (actCs A n c e.act).toArray.setIfInBounds i v = (actCs A n c a').toArray) : (evCs A n c A2 n2 c2 e).toArray.setIfInBounds i v = (evCs A n c A2 n2 c2 { e with act := a' }).toArray := by
  have h1 := act_len (A := A) (n := n) (c := c) h.act
  rw [List.setIfInBounds_toArray] at e1 ⊢
  have e2 : (actCs A n c e.act).set i v = actCs A n c a' := by simpa using e1
  rw [evCs, List.set_append_left _ _ (by omega), e2]
  rfl
theorem aset_kind (a : ActP) (v : Int) : (actCs A n c a).toArray.setIfInBounds 0 (.int .i64 v) = (actCs A n c { a with kind := v }).toArray := by
  rw [List.setIfInBounds_toArray]; rfl
theorem eset_backs (h : EvShape e) (bk : BackP) (hb : BackShape bk) : setL (evCs A n c A2 n2 c2 e).toArray 3 (backCs bk) = (evCs A n c A2 n2 c2 { e with act := { e.act with back := bk } }).toArray := by
  have h1 := act_len (A := A) (n := n) (c := c) h.act
  have h2 := back_len hb
  have h3 := aset_back (A := A) (n := n) (c := c) h.act bk hb
  rw [setL_list _ _ _ (by rw [h1, h2]; decide)] at h3
  rw [setL_list _ _ _ (by rw [ev_len h, h2]; decide)]
  have h4 : (actCs A n c e.act).take 3 ++ (backCs bk ++ (actCs A n c e.act).drop (3 + (backCs bk).length)) = actCs A n c { e.act with back := bk } := by simpa using h3
  congr 1
  rw [evCs, List.take_append_of_le_length (by rw [h1]; decide), List.drop_append_of_le_length (by rw [h1, h2]; decide), evCs, ← h4]
  simp only [List.append_assoc]
end
theorem GSt.setA {w wr : World} {g bx : Nat} {st : PS} {A : Option Addr} {c : Nat} {a : ActP} (h : GSt w wr g bx st A c (evOfA a)) {i : Nat} (hi : i < 34) (v : Value) (a' : ActP) (e1 : (actCs A a.frame.length c a).toArray.setIfInBounds i v = (actCs A a'.frame.length c a').toArray) (hs : ActShape a') (hf : a'.frame = a.frame) : GSt w (wr.setCell ⟨bx, i, none⟩ v) g bx st A c (evOfA a') := by
  refine h.set_ i v ?_ (evOfA_shape hs) hf
  rw [hf] at e1
  have e2 := eset_act (A := A) (n := a.frame.length) (c := c) (A2 := none) (n2 := 0) (c2 := 0) h.shape hi v a' e1
  refine e2.trans ?_
  show (evCs A a.frame.length c none 0 0 (evOfA a')).toArray = (evCs A a'.frame.length c none 0 0 (evOfA a')).toArray
  rw [hf]
/-- What the document's Get answers. -/
def RGIs (w : World) (l : List UInt8) (x : Ending) (w' : World) : Prop :=
  Below w.heap.size w w' ∧ (getP l = none → x = .returned (.tuple #[.agg (evCs none 0 0 none 0 0 ev0).toArray, .bool false])) ∧
  (∀ f, getP l = some f → ∃ A c, x = .returned (.tuple #[.agg (evCs A f.act.frame.length c none 0 0 f).toArray, .bool true]) ∧ BS w' w'.heap.size A f.act.frame)

set_option maxHeartbeats 1500000 in
set_option maxRecDepth 100000 in
theorem rgetE_any (A0 : Option Addr) (n0 c0 : Nat) (l : List UInt8) (w : World) (hn0 : n0 = l.length) (hc0 : n0 ≤ c0) (hb0 : BS w w.heap.size A0 l) (hl : l.length ≤ 1000000000) :
    Calls Try.prog 23 #[.slice A0 n0 c0] w (RGIs w l) := by
  subst hn0
  rcases hk0 : oneP (l, false) with ⟨s1, k⟩
  have l1 : s1.1.length ≤ l.length := by have := oneP_len (l, false); rw [hk0] at this; exact this
  have lk : k ≤ 255 := by
    have h : k = ((takeP (l, false) 1).2.headD 0).toNat := by have := congrArg Prod.snd hk0; exact this.symm
    rw [h]
    have := ((takeP (l, false) 1).2.headD 0).toNat_lt
    omega
  obtain ⟨a1, ha1⟩ : ∃ a : ActP, a = { act0 with kind := (k : Int) } := ⟨_, rfl⟩
  have hS1 : ActShape a1 := by rw [ha1]; exact ⟨back0_shape, by show (0 : Nat) < 18446744073709551616; decide⟩
  obtain ⟨pA, hpA⟩ : ∃ p : PS × ActP, p = if (k : Int) = 1 then ((textP s1 131072).1, { a1 with frame := (textP s1 131072).2 }) else (s1, a1) := ⟨_, rfl⟩
  obtain ⟨pB, hpB⟩ : ∃ p : PS × ActP, p = if (k : Int) = 2 then
      (if ((oneP s1).2 : Int) = 1 then ((takeBP (oneP s1).1).1, { a1 with op := ((oneP s1).2 : Int), back := (takeBP (oneP s1).1).2 })
       else if ((oneP s1).2 : Int) = 3 then ((weightP (textP (oneP s1).1 255).1).1, { a1 with op := ((oneP s1).2 : Int), oname := (textP (oneP s1).1 255).2, owt := (weightP (textP (oneP s1).1 255).1).2 })
       else ((textP (oneP s1).1 255).1, { a1 with op := ((oneP s1).2 : Int), oname := (textP (oneP s1).1 255).2 })) else pA := ⟨_, rfl⟩
  obtain ⟨pC, hpC⟩ : ∃ p : PS × ActP, p = if (k : Int) = 3 then ((flagP (textP s1 255).1).1, { a1 with name := (textP s1 255).2, well := (flagP (textP s1 255).1).2 }) else pB := ⟨_, rfl⟩
  have hC : pC = actPP (l, false) := by
    unfold actPP
    simp only [hk0]
    by_cases k1 : (k : Int) = 1
    · simp only [if_pos k1]
      rw [hpC, if_neg (by omega), hpB, if_neg (by omega), hpA, if_pos k1, ha1]
    · simp only [if_neg k1]
      by_cases k2 : (k : Int) = 2
      · simp only [if_pos k2]
        rw [hpC, if_neg (by omega), hpB, if_pos k2]
        by_cases j1 : ((oneP s1).2 : Int) = 1
        · simp only [if_pos j1]
          rw [ha1]
        · simp only [if_neg j1]
          by_cases j3 : ((oneP s1).2 : Int) = 3
          · simp only [if_pos j3]
            rw [ha1]
          · simp only [if_neg j3]
            rw [ha1]
      · simp only [if_neg k2]
        by_cases k3 : (k : Int) = 3
        · simp only [if_pos k3]
          rw [hpC, if_pos k3, ha1]
        · simp only [if_neg k3]
          rw [hpC, if_neg k3, hpB, if_neg k2, hpA, if_neg k1, ha1]
  have lA : pA.1.1.length ≤ l.length := by
    rw [hpA]
    split
    · exact Nat.le_trans (textP_len _ _) l1
    · exact l1
  have lj := oneP_len s1
  have lB : pB.1.1.length ≤ l.length := by
    rw [hpB]
    split
    · split
      · have h : (takeBP (oneP s1).1).1.1.length ≤ (oneP s1).1.1.length := takeBP_len _
        exact Nat.le_trans h (Nat.le_trans lj l1)
      · split
        · exact Nat.le_trans (weightP_len _) (Nat.le_trans (textP_len _ _) (Nat.le_trans lj l1))
        · exact Nat.le_trans (textP_len _ _) (Nat.le_trans lj l1)
    · exact lA
  have lC : pC.1.1.length ≤ l.length := by
    rw [hpC]
    split
    · exact Nat.le_trans (flagP_len _) (Nat.le_trans (textP_len _ _) l1)
    · exact lB
  have K0 := Lib.hid hk0
  have HpA := Lib.hid hpA
  have HpB := Lib.hid hpB
  have HpC := Lib.hid hpC
  have HC := Lib.hid hC
  have Ha1 := Lib.hid ha1
  have HS1 := Lib.hid hS1
  have Hb0 := Lib.hid hb0
  obtain ⟨W0, hW0⟩ : ∃ W, W = w.alloc (.cells (evCs none 0 0 none 0 0 ev0).toArray 39) := ⟨_, rfl⟩
  obtain ⟨W1, hW1⟩ : ∃ W, W = W0.alloc (.cells #[.slice A0 l.length c0, .bool false] 68) := ⟨_, rfl⟩
  obtain ⟨Wz, hWz⟩ : ∃ W, W = W1.alloc (.cells (evCs none 0 0 none 0 0 ev0).toArray 39) := ⟨_, rfl⟩
  obtain ⟨W2, hW2⟩ : ∃ W, W = Wz.setCells W1.heap.size 0 (evCs none 0 0 none 0 0 ev0) := ⟨_, rfl⟩
  obtain ⟨hth, hbxx, hbe⟩ := boxed W1 Wz W2 39 (evCs none 0 0 none 0 0 ev0) (evCs none 0 0 none 0 0 ev0) rfl hWz hW2
  have hs0 : W0.heap.size = w.heap.size + 1 := by rw [hW0]; simp
  have hs1 : W1.heap.size = w.heap.size + 2 := by rw [hW1]; simp [hs0]
  have hB0 : Below w.heap.size w W0 := by rw [hW0]; exact (Below.refl _ _).alloc (Nat.le_refl _) _
  have hB1 : Below w.heap.size w W1 := by rw [hW1]; exact hB0.alloc hB0.size _
  have hB2 : Below w.heap.size w W2 := hB1.trans (hbe.mono hB1.size)
  obtain ⟨g, hg⟩ : ∃ z, z = W0.heap.size := ⟨_, rfl⟩
  obtain ⟨bx, hbx⟩ : ∃ z, z = W1.heap.size := ⟨_, rfl⟩
  have hX0 : Blk W0 w.heap.size 39 (evCs none 0 0 none 0 0 ev0).toArray := by rw [hW0]; exact Blk.new w _ _ _ rfl
  have hX2 : Blk W2 w.heap.size 39 (evCs none 0 0 none 0 0 ev0).toArray := by
    have h : Blk W1 w.heap.size 39 (evCs none 0 0 none 0 0 ev0).toArray := by rw [hW1]; exact Blk.alloc hX0 _
    exact Blk.below h hbe h.lt
  have hP2 : Blk W2 g 68 #[.slice A0 l.length c0, .bool false] := by
    have h : Blk W1 g 68 #[.slice A0 l.length c0, .bool false] := by rw [hW1, hg]; exact Blk.new _ _ _ _ rfl
    exact Blk.below h hbe h.lt
  have hE2 : Blk W2 bx 39 (evCs none 0 0 none 0 0 ev0).toArray := by rw [hbx]; exact hbxx
  have h2 : GSt w W2 g bx (l, false) none 0 (evOfA act0) := ⟨⟨A0, c0, hP2, hb0.below hB2, hc0, by omega⟩, hX2, hE2, FR.nil _ _ _, hB2, ev0_shape, by omega, by omega⟩
  have H2 := Lib.hid h2
  rw [ev0_lit] at hW0 hWz
  have HWz := Lib.hid hWz
  have Hth := Lib.hid hth
  have HW0 := Lib.hid hW0
  have HW1 := Lib.hid hW1
  have HW2 := Lib.hid hW2
  have Hg := Lib.hid hg
  have Hbx := Lib.hid hbx
  clear hk0 hpA hpB hpC hC ha1 hS1 hb0 hW0 hW1 hW2 hWz hth hbxx hbe hs0 hs1 hB0 hB1 hB2 hX0 hX2 hP2 hE2 h2 hg hbx
  go_enter Try.func23, Try.ntmps23
  go_upto_region 1 with fail
  rw [← HW0.out]
  go_upto_region 2 with fail
  rw [← HW1.out]
  go_upto_region 3 with (first
    | (rw [← HWz.out]; (with_reducible refine gateS 39 ?_); refine wpList_store_mid rfl 39 (.tmp 5) (.tmp 10) rfl W1.heap.size 0 (evCs none 0 0 none 0 0 ev0).toArray rfl rfl Hth.out (ev_sz ev0_shape) (ev_one _ _ _ _ _ _ _) ?_))
  rw [← HW2.out, ← Hbx.out, ← Hg.out]
  clear HW0 HW1 HW2 Hg Hbx HWz Hth
  go_wp2_with fail
  refine (pone_any w.heap.size g (l, false) W2 H2.out.pw (by omega)).mono ?_
  unfold POneIs
  rw [K0.out]
  rintro e9 w3 ⟨ba, cq, rfl, d0, hle, hcq, hba, hp9, hg9⟩
  have h9 := H2.out.after hp9 hg9
  have hwk : IntKind.i64.wrap (k : Int) = (k : Int) := IntWalk.i64_in _ (by omega)
  have H3 := Lib.hid h9
  clear hp9 hg9 h9 H2
  have dx := show w3.cell? ⟨bx, 0, none⟩ = some (.int .i64 0) from ce_act H3.out.box H3.out.shape 0 _ rfl
  have df := H3.out.box.frozen 0
  have hst := H3.out.setA (i := 0) (by decide) (.int .i64 (k : Int)) a1 (by rw [aset_kind, Ha1.out]; first | done | rfl) HS1.out (by rw [Ha1.out]; first | done | rfl)
  obtain ⟨W4, hW4⟩ : ∃ W, W = w3.setCell ⟨bx, 0, none⟩ (.int .i64 (k : Int)) := ⟨_, rfl⟩
  rw [← hW4] at hst
  have H4 := Lib.hid hst
  have QW4 := Lib.hid hW4
  clear hst hW4
  go_upto_region 4 with fail
  rw [← QW4.out]
  clear dx df QW4 H3 d0 hwk hle hcq hba
  have HkdA : Hid (pA.2.kind = (k : Int)) := by
    show _ = _
    rw [HpA.out]
    split
    · rw [Ha1.out]
    · rw [Ha1.out]
  have HkdB : Hid (pB.2.kind = (k : Int)) := by
    show _ = _
    rw [HpB.out]
    split
    · split
      · rw [Ha1.out]
      · split
        · rw [Ha1.out]
        · rw [Ha1.out]
    · exact HkdA.out
  have hka : a1.kind = (k : Int) := by rw [Ha1.out]
  have dk : W4.cell? ⟨bx, 0, none⟩ = some (.int .i64 (k : Int)) := by
    have h : W4.cell? ⟨bx, 0, none⟩ = some (.int .i64 a1.kind) := ce_act H4.out.box H4.out.shape 0 _ rfl
    rw [hka] at h
    exact h
  clear hka
  go_upto_if 21 with fail
  go_cut [4] from 21 to 26 (fun v4 wc => v4 = .pointer (some ⟨g, 0, none⟩) ∧ ∃ A c, Hid (GSt w wc g bx pA.1 A c (evOfA pA.2)))
  case first =>
    rcases k1 : ((k : Int) == 1) with _ | _
    · have hq : Hid (pA = (s1, a1)) := by show _ = _; rw [HpA.out, if_neg (by simpa using k1)]
      go_wp2_with fail
      go_meet
      case rel => exact ⟨rfl, none, 0, by rw [hq.out]; exact H4⟩
    · rcases ht : textP s1 131072 with ⟨sA, fr⟩
      have lfr : fr.length ≤ 131072 := by have := textP_lenV s1 131072; rw [ht] at this; exact this
      have hq : Hid (pA = (sA, { a1 with frame := fr })) := by show _ = _; rw [HpA.out, if_pos (by simpa using k1), ht]
      have Kt := Lib.hid ht
      clear ht
      go_wp2_with fail
      refine (ptext_any w.heap.size g s1 131072 W4 H4.out.pw (by decide) (by omega)).mono ?_
      unfold PTextIs
      rw [Kt.out]
      rintro e9 w5 ⟨rfl, hp9, hg9⟩
      have H5 := Lib.hid (H4.out.after hp9 hg9)
      clear hp9 hg9 H4 dk
      have hcv := conv_bytes w5 fr
      obtain ⟨cc, hcc⟩ : ∃ z, z = grownCap w5 fr.length 0 5 := ⟨_, rfl⟩
      obtain ⟨W6, hW6⟩ : ∃ W, W = Lib.bytesWorld w5 5 ⟨fr.toArray⟩ := ⟨_, rfl⟩
      have hfr : FR W6 bx (some ⟨w5.heap.size, 0, none⟩) fr := fun hp => by
        refine ⟨w5.heap.size, rfl, H5.out.box.lt, by rw [hW6, Lib.bytesWorld_size]; omega, fun j u hj => ?_⟩
        obtain ⟨ad, hA, _, hcell⟩ := (bytesWorld_bs w5 5 fr) hp
        injection hA with hA
        subst hA
        have := hcell j u hj
        rw [show (⟨w5.heap.size, 0, none⟩ : Addr).add j = ⟨w5.heap.size, j, none⟩ by unfold Addr.add; split <;> simp_all] at this
        rw [hW6]
        exact this
      have h6 : GSt w W6 g bx sA none 0 (evOfA a1) := by rw [hW6]; exact H5.out.below (bytesWorld_below _ _ _)
      have h7 := h6.setFrame (c' := cc) fr fr.length rfl hfr
      rw [← hcc, ← hW6] at hcv
      have dx : W6.cell? ⟨bx, 1, none⟩ = some (.slice none (evOfA a1).act.frame.length 0) := ce_act h6.box h6.shape 1 _ rfl
      have df := h6.box.frozen 1
      obtain ⟨W7, hW7⟩ : ∃ W, W = W6.setCell ⟨bx, 1, none⟩ (.slice (some ⟨w5.heap.size, 0, none⟩) fr.length cc) := ⟨_, rfl⟩
      rw [← hW7] at h7
      have H7 := Lib.hid h7
      have HW7 := Lib.hid hW7
      clear h6 h7 hW6 hW7 hfr hcc
      go_wp2_with fail
      rw [← HW7.out]
      go_meet
      case rel => exact ⟨rfl, _, cc, by rw [hq.out]; exact H7⟩
  case rest =>
    obtain ⟨rfl, AA, cA, HA⟩ := hcut
    clear dk H4
    have dk : wc.cell? ⟨bx, 0, none⟩ = some (.int .i64 (k : Int)) := by
      have h : wc.cell? ⟨bx, 0, none⟩ = some (.int .i64 pA.2.kind) := ce_act HA.out.box HA.out.shape 0 _ rfl
      rw [HkdA.out] at h
      exact h
    go_upto_if 30 with fail
    go_cut [4] from 30 to 63 (fun v4 wc => v4 = .pointer (some ⟨g, 0, none⟩) ∧ ∃ A c, Hid (GSt w wc g bx pB.1 A c (evOfA pB.2)))
    case first =>
      rcases k2 : ((k : Int) == 2) with _ | _
      · have hq : Hid (pB = pA) := by show _ = _; rw [HpB.out, if_neg (by simpa using k2)]
        go_wp2_with fail
        go_meet
        case rel => exact ⟨rfl, AA, cA, by rw [hq.out]; exact HA⟩
      · have hk2 : (k : Int) = 2 := by simpa using k2
        have hpa : pA = (s1, a1) := by rw [HpA.out, if_neg (by omega)]
        rw [hpa] at HA
        rcases hj : oneP s1 with ⟨s2, j⟩
        have l2 : s2.1.length ≤ l.length := by have := oneP_len s1; rw [hj] at this; exact Nat.le_trans this l1
        have lj2 : j ≤ 255 := by
          have h : j = ((takeP s1 1).2.headD 0).toNat := by have := congrArg Prod.snd hj; exact this.symm
          rw [h]
          have := ((takeP s1 1).2.headD 0).toNat_lt
          omega
        have Hq0 := Lib.hid HpB.out
        have Hq : Hid (pB = if (j : Int) = 1 then ((takeBP s2).1, { a1 with op := (j : Int), back := (takeBP s2).2 })
           else if (j : Int) = 3 then ((weightP (textP s2 255).1).1, { a1 with op := (j : Int), oname := (textP s2 255).2, owt := (weightP (textP s2 255).1).2 })
           else ((textP s2 255).1, { a1 with op := (j : Int), oname := (textP s2 255).2 })) := by
          show _ = _
          rw [HpB.out, if_pos hk2]
          simp only [hj]
        have Kj := Lib.hid hj
        clear hk2 hpa hj Hq0 dk
        go_wp2_with fail
        refine (pone_any w.heap.size g s1 wc HA.out.pw (by omega)).mono ?_
        unfold POneIs
        rw [Kj.out]
        rintro e9 w5 ⟨ba, cq, rfl, d0, hle, hcq, hba, hp9, hg9⟩
        have h9 := HA.out.after hp9 hg9
        have hwk : IntKind.i64.wrap (j : Int) = (j : Int) := IntWalk.i64_in _ (by omega)
        have H5 := Lib.hid h9
        clear hp9 hg9 h9 HA
        obtain ⟨a2, ha2⟩ : ∃ a : ActP, a = { a1 with op := (j : Int) } := ⟨_, rfl⟩
        have Ha2 := Lib.hid ha2
        have HS2 : Hid (ActShape a2) := by rw [ha2]; exact ⟨HS1.out.back, HS1.out.owt⟩
        clear ha2
        have dx := show w5.cell? ⟨bx, 2, none⟩ = some (.int .i64 a1.op) from ce_act H5.out.box H5.out.shape 2 _ rfl
        have df := H5.out.box.frozen 2
        have hst := H5.out.setA (i := 2) (by decide) (.int .i64 (j : Int)) a2 (by rw [aset_op1, Ha2.out]; first | done | rfl) HS2.out (by rw [Ha2.out]; first | done | rfl)
        obtain ⟨W6, hW6⟩ : ∃ W, W = w5.setCell ⟨bx, 2, none⟩ (.int .i64 (j : Int)) := ⟨_, rfl⟩
        rw [← hW6] at hst
        have H6 := Lib.hid hst
        have QW6 := Lib.hid hW6
        clear hst hW6
        go_upto_region 8 with fail
        rw [← QW6.out]
        clear dx df QW6 H5 d0 hwk hle hcq hba
        have hja : a2.op = (j : Int) := by rw [Ha2.out]
        have dj : W6.cell? ⟨bx, 2, none⟩ = some (.int .i64 (j : Int)) := by
          have h : W6.cell? ⟨bx, 2, none⟩ = some (.int .i64 a2.op) := ce_act H6.out.box H6.out.shape 2 _ rfl
          rw [hja] at h
          exact h
        have Hja := Lib.hid hja
        clear hja
        rcases j1 : ((j : Int) == 1) with _ | _
        · rcases ht : textP s2 255 with ⟨s3, nm⟩
          have l3 : s3.1.length ≤ l.length := by have := textP_len s2 255; rw [ht] at this; exact Nat.le_trans this l2
          have Kt := Lib.hid ht
          have Hq2 : Hid (pB = if (j : Int) = 3 then ((weightP s3).1, { a1 with op := (j : Int), oname := nm, owt := (weightP s3).2 }) else (s3, { a1 with op := (j : Int), oname := nm })) := by show _ = _; rw [Hq.out, if_neg (by simpa using j1), ht]
          clear ht Hq
          go_wp2_with fail
          refine (ptext_any w.heap.size g s2 255 W6 H6.out.pw (by decide) (by omega)).mono ?_
          unfold PTextIs
          rw [Kt.out]
          rintro e9 w7 ⟨rfl, hp9, hg9⟩
          have H7 := Lib.hid (H6.out.after hp9 hg9)
          clear hp9 hg9 H6 dj
          obtain ⟨a3, ha3⟩ : ∃ a : ActP, a = { a1 with op := (j : Int), oname := nm } := ⟨_, rfl⟩
          have Ha3 := Lib.hid ha3
          have HS3 : Hid (ActShape a3) := by rw [ha3]; exact ⟨HS1.out.back, HS1.out.owt⟩
          clear ha3
          have dx := show w7.cell? ⟨bx, 30, none⟩ = some (.string ⟨a2.oname.toArray⟩) from ce_act H7.out.box H7.out.shape 30 _ (act_30 H7.out.shape.act 0)
          have df := H7.out.box.frozen 30
          have hst := H7.out.setA (i := 30) (by decide) (.string ⟨nm.toArray⟩) a3 (by rw [aset_oname (a := a2) H7.out.shape.act, Ha3.out, Ha2.out]; first | done | rfl) HS3.out (by rw [Ha3.out, Ha2.out]; first | done | rfl)
          obtain ⟨W8, hW8⟩ : ∃ W, W = w7.setCell ⟨bx, 30, none⟩ (.string ⟨nm.toArray⟩) := ⟨_, rfl⟩
          rw [← hW8] at hst
          have H8 := Lib.hid hst
          have QW8 := Lib.hid hW8
          clear hst hW8
          go_upto_region 11 with fail
          rw [← QW8.out]
          clear dx df QW8 H7
          have dj : W8.cell? ⟨bx, 2, none⟩ = some (.int .i64 (j : Int)) := by
            have h : W8.cell? ⟨bx, 2, none⟩ = some (.int .i64 a3.op) := ce_act H8.out.box H8.out.shape 2 _ rfl
            rw [show a3.op = (j : Int) by rw [Ha3.out]] at h
            exact h
          rcases j3 : ((j : Int) == 3) with _ | _
          · have hq : Hid (pB = (s3, a3)) := by show _ = _; rw [Hq2.out, if_neg (by simpa using j3), Ha3.out]
            go_wp2_with fail
            go_meet
            case rel => exact ⟨rfl, AA, cA, by rw [hq.out]; exact H8⟩
          · rcases hw : weightP s3 with ⟨s4, wt⟩
            have lw := weightP_lt s3
            rw [hw] at lw
            have Kw := Lib.hid hw
            obtain ⟨a4, ha4⟩ : ∃ a : ActP, a = { a1 with op := (j : Int), oname := nm, owt := wt } := ⟨_, rfl⟩
            have Ha4 := Lib.hid ha4
            have HS4 : Hid (ActShape a4) := by rw [ha4]; exact ⟨HS1.out.back, lw⟩
            have hq : Hid (pB = (s4, a4)) := by show _ = _; rw [Hq2.out, if_pos (by simpa using j3), hw, ha4]
            clear ha4 hw Hq2
            go_wp2_with fail
            refine (pweight_any w.heap.size g s3 W8 H8.out.pw (by omega)).mono ?_
            unfold PWtIs
            rw [Kw.out]
            rintro e9 w9 ⟨rfl, hp9, hg9⟩
            have H9 := Lib.hid (H8.out.after hp9 hg9)
            clear hp9 hg9 H8 dj
            have dx := show w9.cell? ⟨bx, 31, none⟩ = some (.float .f64 a3.owt) from ce_act H9.out.box H9.out.shape 31 _ (act_30 H9.out.shape.act 1)
            have df := H9.out.box.frozen 31
            have hsf := fun (a : Addr) (m : Mode) (n : Nat) (w : World) => run_store_f64 a n m w
            have hst := H9.out.setA (i := 31) (by decide) (.float .f64 wt) a4 (by rw [aset_owt (a := a3) H9.out.shape.act, Ha4.out, Ha3.out]; first | done | rfl) HS4.out (by rw [Ha4.out, Ha3.out]; first | done | rfl)
            obtain ⟨Wa, hWa⟩ : ∃ W, W = w9.setCell ⟨bx, 31, none⟩ (.float .f64 wt) := ⟨_, rfl⟩
            rw [← hWa] at hst
            have Ha := Lib.hid hst
            have QWa := Lib.hid hWa
            clear hst hWa
            go_wp2_with fail
            rw [← QWa.out]
            clear dx df QWa H9 hsf
            go_meet
            case rel => exact ⟨rfl, AA, cA, by rw [hq.out]; exact Ha⟩
        · have hj1 : (j : Int) = 1 := by simpa using j1
          rcases ht : takeBP s2 with ⟨s3, bk⟩
          have Hbs : Hid (BackShape bk) := by have := takeBP_shape s2; rw [ht] at this; exact this
          have Kt := Lib.hid ht
          obtain ⟨a3, ha3⟩ : ∃ a : ActP, a = { a1 with op := (j : Int), back := bk } := ⟨_, rfl⟩
          have Ha3 := Lib.hid ha3
          have HS3 : Hid (ActShape a3) := by rw [ha3]; exact ⟨Hbs.out, HS1.out.owt⟩
          have hq : Hid (pB = (s3, a3)) := by show _ = _; rw [Hq.out, if_pos hj1, ht, ha3]
          clear ht ha3 Hq
          go_wp2_with fail
          refine (pTake_any w.heap.size g s2 W6 H6.out.pw (by omega)).mono ?_
          unfold PTkIs
          rw [Kt.out]
          rintro e9 w7 ⟨rfl, hp9, hg9⟩
          have H7 := Lib.hid (H6.out.after hp9 hg9)
          clear hp9 hg9 H6 dj
          obtain ⟨W8, hW8⟩ : ∃ W, W = w7.setCells bx 3 (backCs bk) := ⟨_, rfl⟩
          have hth : w7.there bx 3 (backCs bk).toArray.size := H7.out.box.there (by rw [List.size_toArray, List.size_toArray, back_len Hbs.out, ev_len H7.out.shape]; decide)
          have h8 : GSt w W8 g bx s3 AA cA (evOfA a3) := by
            rw [hW8]
            refine H7.out.sets 3 _ ?_ (evOfA_shape HS3.out) (by rw [Ha3.out]; show a1.frame = a2.frame; rw [Ha2.out])
            rw [eset_backs H7.out.shape bk Hbs.out, Ha3.out, Ha2.out]
            rfl
          have H8 := Lib.hid h8
          have HW8 := Lib.hid hW8
          have Hth := Lib.hid hth
          clear h8 hW8 hth
          go_upto_region 11 with (first
            | ((with_reducible refine gateS 29 ?_); refine wpList_store_mid rfl 29 (.tmp 48) (.tmp 45) rfl bx 3 (backCs bk).toArray rfl rfl Hth.out (back_sz Hbs.out) (back_one _) ?_))
          rw [← HW8.out]
          clear HW8 Hth H7
          have dj : W8.cell? ⟨bx, 2, none⟩ = some (.int .i64 (j : Int)) := by
            have h : W8.cell? ⟨bx, 2, none⟩ = some (.int .i64 a3.op) := ce_act H8.out.box H8.out.shape 2 _ rfl
            rw [show a3.op = (j : Int) by rw [Ha3.out]] at h
            exact h
          have j3 : ((j : Int) == 3) = false := by simp [hj1]
          clear hj1
          go_wp2_with fail
          go_meet
          case rel => exact ⟨rfl, AA, cA, by rw [hq.out]; exact H8⟩
    case rest =>
      obtain ⟨rfl, AB, cB, HB⟩ := hcut
      clear dk HA
      have dk : wc.cell? ⟨bx, 0, none⟩ = some (.int .i64 (k : Int)) := by
        have h : wc.cell? ⟨bx, 0, none⟩ = some (.int .i64 pB.2.kind) := ce_act HB.out.box HB.out.shape 0 _ rfl
        rw [HkdB.out] at h
        exact h
      go_upto_if 67 with fail
      go_cut [4] from 67 to 75 (fun v4 wc => v4 = .pointer (some ⟨g, 0, none⟩) ∧ ∃ A c, Hid (GSt w wc g bx pC.1 A c (evOfA pC.2)))
      case first =>
        rcases k3 : ((k : Int) == 3) with _ | _
        · have hq : Hid (pC = pB) := by show _ = _; rw [HpC.out, if_neg (by simpa using k3)]
          go_wp2_with fail
          go_meet
          case rel => exact ⟨rfl, AB, cB, by rw [hq.out]; exact HB⟩
        · have hk3 : (k : Int) = 3 := by simpa using k3
          have hpb : pB = (s1, a1) := by rw [HpB.out, if_neg (by omega), HpA.out, if_neg (by omega)]
          rw [hpb] at HB
          rcases ht : textP s1 255 with ⟨s2, nm⟩
          rcases hf : flagP s2 with ⟨s3, we⟩
          have l2 : s2.1.length ≤ l.length := by have := textP_len s1 255; rw [ht] at this; exact Nat.le_trans this l1
          have Kt := Lib.hid ht
          have Kf := Lib.hid hf
          obtain ⟨a2, ha2⟩ : ∃ a : ActP, a = { a1 with name := nm } := ⟨_, rfl⟩
          obtain ⟨a3, ha3⟩ : ∃ a : ActP, a = { a1 with name := nm, well := we } := ⟨_, rfl⟩
          have hq : Hid (pC = (s3, a3)) := by show _ = _; rw [HpC.out, if_pos hk3, ht]; simp only [hf]; rw [ha3]
          have Ha2 := Lib.hid ha2
          have Ha3 := Lib.hid ha3
          have HS2 : Hid (ActShape a2) := by rw [ha2]; exact ⟨HS1.out.back, HS1.out.owt⟩
          have HS3 : Hid (ActShape a3) := by rw [ha3]; exact ⟨HS1.out.back, HS1.out.owt⟩
          clear hk3 hpb ht hf ha2 ha3 dk
          go_wp2_with fail
          refine (ptext_any w.heap.size g s1 255 wc HB.out.pw (by decide) (by omega)).mono ?_
          unfold PTextIs
          rw [Kt.out]
          rintro e9 w5 ⟨rfl, hp9, hg9⟩
          have H5 := Lib.hid (HB.out.after hp9 hg9)
          clear hp9 hg9 HB
          have dx := show w5.cell? ⟨bx, 32, none⟩ = some (.string ⟨a1.name.toArray⟩) from ce_act H5.out.box H5.out.shape 32 _ (act_30 H5.out.shape.act 2)
          have df := H5.out.box.frozen 32
          have hst := H5.out.setA (i := 32) (by decide) (.string ⟨nm.toArray⟩) a2 (by rw [aset_name (a := a1) H5.out.shape.act, Ha2.out]; first | done | rfl) HS2.out (by rw [Ha2.out]; first | done | rfl)
          obtain ⟨W6, hW6⟩ : ∃ W, W = w5.setCell ⟨bx, 32, none⟩ (.string ⟨nm.toArray⟩) := ⟨_, rfl⟩
          rw [← hW6] at hst
          have H6 := Lib.hid hst
          have QW6 := Lib.hid hW6
          clear hst hW6
          go_upto_region 15 with fail
          rw [← QW6.out]
          clear dx df QW6 H5
          go_wp2_with fail
          refine (pflag_any w.heap.size g s2 W6 H6.out.pw (by omega)).mono ?_
          unfold PFlagIs
          rw [Kf.out]
          rintro e9 w7 ⟨rfl, hp9, hg9⟩
          have H7 := Lib.hid (H6.out.after hp9 hg9)
          clear hp9 hg9 H6
          have dx := show w7.cell? ⟨bx, 33, none⟩ = some (.bool a2.well) from ce_act H7.out.box H7.out.shape 33 _ (act_30 H7.out.shape.act 3)
          have df := H7.out.box.frozen 33
          have hst := H7.out.setA (i := 33) (by decide) (.bool we) a3 (by rw [aset_well (a := a2) H7.out.shape.act, Ha3.out, Ha2.out]; first | done | rfl) HS3.out (by rw [Ha3.out, Ha2.out]; first | done | rfl)
          obtain ⟨W8, hW8⟩ : ∃ W, W = w7.setCell ⟨bx, 33, none⟩ (.bool we) := ⟨_, rfl⟩
          rw [← hW8] at hst
          have H8 := Lib.hid hst
          have QW8 := Lib.hid hW8
          clear hst hW8
          go_wp2_with fail
          rw [← QW8.out]
          clear dx df QW8 H7
          go_meet
          case rel => exact ⟨rfl, AB, cB, by rw [hq.out]; exact H8⟩
      case rest =>
        obtain ⟨rfl, Af, cf, HCC⟩ := hcut
        clear dk HB
        rcases t1 : takeP pC.1 2 with ⟨u1, x2⟩
        rcases t3 : flagP u1 with ⟨u3, hit⟩
        rcases t4 : numP u3 1099511627776 with ⟨u4, ve⟩
        rcases t5 : textP u4 255 with ⟨u5, nm⟩
        rcases t6 : numP u5 262144 with ⟨u6, ln⟩
        rcases t7 : takeP u6 4 with ⟨u7, y4⟩
        obtain ⟨ac, hac⟩ : ∃ a, a = pC.2 := ⟨_, rfl⟩
        obtain ⟨eF, heF⟩ : ∃ f : EvP, f = { act := ac, o := { err := ((x2.getD 0 0).toNat : Int), reason := ((x2.getD 1 0).toNat : Int), hit := hit, version := (ve : Int), name := nm, out := [] }, len := (ln : Int), sum := val y4 } := ⟨_, rfl⟩
        have hev : evPP (l, false) = (u7, eF) := by
          have ho : outPP pC.1 = (u7, { err := ((x2.getD 0 0).toNat : Int), reason := ((x2.getD 1 0).toNat : Int), hit := hit, version := (ve : Int), name := nm, out := [] }, ln, val y4) := by
            unfold outPP
            simp only [t1, t3, t4, t5, t6, t7]
          unfold evPP
          rw [← HC.out, ho, heF, hac]
        have m1 := takeP_lenL pC.1 2
        have m3 := flagP_len u1
        have m4 := numP_len u3 1099511627776
        have m5 := textP_len u4 255
        have m6 := numP_len u5 262144
        have v4 := numP_le u3 1099511627776
        have v6 := numP_le u5 262144
        have x2l := takeP_len pC.1 2
        have y4l := takeP_len u6 4
        rw [t1] at m1 x2l
        rw [t3] at m3
        rw [t4] at m4 v4
        rw [t5] at m5
        rw [t6] at m6 v6
        rw [t7] at y4l
        simp only at m1 m3 m4 m5 m6 v4 v6 x2l y4l
        obtain ⟨b0, b1, hx2⟩ := len_two x2l
        have hb0 := b0.toNat_lt
        have hb1 := b1.toNat_lt
        have y4v : val y4 < 4294967296 := by have := val_ltE y4; rw [y4l] at this; exact this
        have Kt1 := Lib.hid t1
        have Kt3 := Lib.hid t3
        have Kt4 := Lib.hid t4
        have Kt5 := Lib.hid t5
        have Kt6 := Lib.hid t6
        have Kt7 := Lib.hid t7
        have Hev := Lib.hid hev
        have HeF := Lib.hid heF
        have Hx2l := Lib.hid x2l
        have Hy4l := Lib.hid y4l
        have Hx2 := Lib.hid hx2
        have Hsh : Hid (ActShape ac) := by rw [hac]; exact HCC.out.shape.act
        rw [← hac] at HCC
        clear t1 t3 t4 t5 t6 t7 hev heF x2l y4l hx2 hac
        go_wp2_with fail
        refine (ptake_any w.heap.size g pC.1 2 wc HCC.out.pw (by decide) (by omega)).mono ?_
        unfold PTakeIs
        rw [Kt1.out]
        rintro e9 w1 ⟨A9, c9, rfl, hown9, hp9, hg9⟩
        obtain ⟨ba, hA9, hxc, hc9⟩ := own_xc (bx := bx) hown9 Hx2l.out (by decide) HCC.out.box.lt
        subst hA9
        have H1 := Lib.hid (HCC.out.after hp9 hg9)
        have HX1 := Lib.hid hxc
        clear hown9 hp9 hg9 hxc HCC
        go_upto_region 17 with fail
        have q0 : w1.cell? ⟨ba, 0, none⟩ = some (.int .u8 (b0.toNat : Int)) := HX1.out.2.2 0 b0 (by rw [Hx2.out]; rfl)
        have hwk : IntKind.i64.wrap (b0.toNat : Int) = (b0.toNat : Int) := IntWalk.i64_in _ (by omega)
        obtain ⟨e1, he1⟩ : ∃ f : EvP, f = { evOfA ac with o := { out0 with err := (b0.toNat : Int) } } := ⟨_, rfl⟩
        have HE1 := Lib.hid he1
        have hS : EvShape e1 := by rw [he1]; exact ⟨Hsh.out, by show (0 : Nat) < 4294967296; decide⟩
        have HX2 := Lib.hid (HX1.out.set_ 34 (.int .i64 (b0.toNat : Int)))
        have HE0 : Hid (evOfA ac = evOfA ac) := rfl
        have dx := show w1.cell? ⟨bx, 34, none⟩ = some (.int .i64 (evOfA ac).o.err) from ce_34 H1.out.box H1.out.shape 0
        have df := H1.out.box.frozen 34
        have hst := H1.out.set_ (b' := e1) 34 (.int .i64 (b0.toNat : Int)) (by rw [eset_err H1.out.shape, HE1.out, HE0.out]; first | done | rfl) hS (by rw [HE1.out, HE0.out]; first | done | rfl)
        obtain ⟨W2, hW2⟩ : ∃ W, W = w1.setCell ⟨bx, 34, none⟩ (.int .i64 (b0.toNat : Int)) := ⟨_, rfl⟩
        rw [← hW2] at hst
        rw [← hW2] at HX2
        have HX := HX2
        clear HX1 HX2
        have H2 := Lib.hid hst
        have QW2 := Lib.hid hW2
        clear hst hW2
        go_upto_region 18 with fail
        rw [← QW2.out]
        clear dx df QW2 H1 q0 hwk hS he1
        have q1 : W2.cell? ⟨ba, 1, none⟩ = some (.int .u8 (b1.toNat : Int)) := HX.out.2.2 1 b1 (by rw [Hx2.out]; rfl)
        have hwk : IntKind.i64.wrap (b1.toNat : Int) = (b1.toNat : Int) := IntWalk.i64_in _ (by omega)
        obtain ⟨e2, he2⟩ : ∃ f : EvP, f = { evOfA ac with o := { out0 with err := (b0.toNat : Int), reason := (b1.toNat : Int) } } := ⟨_, rfl⟩
        have HE2 := Lib.hid he2
        have hS : EvShape e2 := by rw [he2]; exact ⟨Hsh.out, by show (0 : Nat) < 4294967296; decide⟩
        have dx := show W2.cell? ⟨bx, 35, none⟩ = some (.int .i64 e1.o.reason) from ce_34 H2.out.box H2.out.shape 1
        have df := H2.out.box.frozen 35
        have hst := H2.out.set_ (b' := e2) 35 (.int .i64 (b1.toNat : Int)) (by rw [eset_reason H2.out.shape, HE2.out, HE1.out]; first | done | rfl) hS (by rw [HE2.out, HE1.out]; first | done | rfl)
        obtain ⟨W3, hW3⟩ : ∃ W, W = W2.setCell ⟨bx, 35, none⟩ (.int .i64 (b1.toNat : Int)) := ⟨_, rfl⟩
        rw [← hW3] at hst
        have H3 := Lib.hid hst
        have QW3 := Lib.hid hW3
        clear hst hW3
        go_upto_region 19 with fail
        rw [← QW3.out]
        clear dx df QW3 H2 q1 hwk hS he2
        clear HX
        go_wp2_with fail
        refine (pflag_any w.heap.size g u1 W3 H3.out.pw (by omega)).mono ?_
        unfold PFlagIs
        rw [Kt3.out]
        rintro e9 w4 ⟨rfl, hp9, hg9⟩
        have H4 := Lib.hid (H3.out.after hp9 hg9)
        clear hp9 hg9 H3
        obtain ⟨e3, he3⟩ : ∃ f : EvP, f = { evOfA ac with o := { out0 with err := (b0.toNat : Int), reason := (b1.toNat : Int), hit := hit } } := ⟨_, rfl⟩
        have HE3 := Lib.hid he3
        have hS : EvShape e3 := by rw [he3]; exact ⟨Hsh.out, by show (0 : Nat) < 4294967296; decide⟩
        have dx := show w4.cell? ⟨bx, 36, none⟩ = some (.bool e2.o.hit) from ce_34 H4.out.box H4.out.shape 2
        have df := H4.out.box.frozen 36
        have hst := H4.out.set_ (b' := e3) 36 (.bool hit) (by rw [eset_hit H4.out.shape, HE3.out, HE2.out]; first | done | rfl) hS (by rw [HE3.out, HE2.out]; first | done | rfl)
        obtain ⟨W5, hW5⟩ : ∃ W, W = w4.setCell ⟨bx, 36, none⟩ (.bool hit) := ⟨_, rfl⟩
        rw [← hW5] at hst
        have H5 := Lib.hid hst
        have QW5 := Lib.hid hW5
        clear hst hW5
        go_upto_region 20 with fail
        rw [← QW5.out]
        clear dx df QW5 H4 hS he3
        go_wp2_with fail
        refine (pnum_any w.heap.size g u3 1099511627776 W5 H5.out.pw (by decide) (by omega)).mono ?_
        unfold PNumIs
        rw [Kt4.out]
        rintro e9 w6 ⟨rfl, hp9, hg9⟩
        have H6 := Lib.hid (H5.out.after hp9 hg9)
        clear hp9 hg9 H5
        obtain ⟨e4, he4⟩ : ∃ f : EvP, f = { evOfA ac with o := { out0 with err := (b0.toNat : Int), reason := (b1.toNat : Int), hit := hit, version := (ve : Int) } } := ⟨_, rfl⟩
        have HE4 := Lib.hid he4
        have hS : EvShape e4 := by rw [he4]; exact ⟨Hsh.out, by show (0 : Nat) < 4294967296; decide⟩
        have dx := show w6.cell? ⟨bx, 37, none⟩ = some (.int .i64 e3.o.version) from ce_34 H6.out.box H6.out.shape 3
        have df := H6.out.box.frozen 37
        have hst := H6.out.set_ (b' := e4) 37 (.int .i64 (ve : Int)) (by rw [eset_version H6.out.shape, HE4.out, HE3.out]; first | done | rfl) hS (by rw [HE4.out, HE3.out]; first | done | rfl)
        obtain ⟨W7, hW7⟩ : ∃ W, W = w6.setCell ⟨bx, 37, none⟩ (.int .i64 (ve : Int)) := ⟨_, rfl⟩
        rw [← hW7] at hst
        have H7 := Lib.hid hst
        have QW7 := Lib.hid hW7
        clear hst hW7
        go_upto_region 21 with fail
        rw [← QW7.out]
        clear dx df QW7 H6 hS he4
        go_wp2_with fail
        refine (ptext_any w.heap.size g u4 255 W7 H7.out.pw (by decide) (by omega)).mono ?_
        unfold PTextIs
        rw [Kt5.out]
        rintro e9 w8 ⟨rfl, hp9, hg9⟩
        have H8 := Lib.hid (H7.out.after hp9 hg9)
        clear hp9 hg9 H7
        obtain ⟨e5, he5⟩ : ∃ f : EvP, f = { evOfA ac with o := { out0 with err := (b0.toNat : Int), reason := (b1.toNat : Int), hit := hit, version := (ve : Int), name := nm } } := ⟨_, rfl⟩
        have HE5 := Lib.hid he5
        have hS : EvShape e5 := by rw [he5]; exact ⟨Hsh.out, by show (0 : Nat) < 4294967296; decide⟩
        have dx := show w8.cell? ⟨bx, 38, none⟩ = some (.string ⟨e4.o.name.toArray⟩) from ce_34 H8.out.box H8.out.shape 4
        have df := H8.out.box.frozen 38
        have hst := H8.out.set_ (b' := e5) 38 (.string ⟨nm.toArray⟩) (by rw [eset_name H8.out.shape, HE5.out, HE4.out]; first | done | rfl) hS (by rw [HE5.out, HE4.out]; first | done | rfl)
        obtain ⟨W9, hW9⟩ : ∃ W, W = w8.setCell ⟨bx, 38, none⟩ (.string ⟨nm.toArray⟩) := ⟨_, rfl⟩
        rw [← hW9] at hst
        have H9 := Lib.hid hst
        have QW9 := Lib.hid hW9
        clear hst hW9
        go_upto_region 22 with fail
        rw [← QW9.out]
        clear dx df QW9 H8 hS he5
        go_wp2_with fail
        refine (pnum_any w.heap.size g u5 262144 W9 H9.out.pw (by decide) (by omega)).mono ?_
        unfold PNumIs
        rw [Kt6.out]
        rintro e9 wa ⟨rfl, hp9, hg9⟩
        have Ha := Lib.hid (H9.out.after hp9 hg9)
        clear hp9 hg9 H9
        obtain ⟨e6, he6⟩ : ∃ f : EvP, f = { evOfA ac with o := { out0 with err := (b0.toNat : Int), reason := (b1.toNat : Int), hit := hit, version := (ve : Int), name := nm }, len := (ln : Int) } := ⟨_, rfl⟩
        have HE6 := Lib.hid he6
        have hS : EvShape e6 := by rw [he6]; exact ⟨Hsh.out, by show (0 : Nat) < 4294967296; decide⟩
        have dx := show wa.cell? ⟨bx, 40, none⟩ = some (.int .i64 e5.len) from ce_34 Ha.out.box Ha.out.shape 6
        have df := Ha.out.box.frozen 40
        have hst := Ha.out.set_ (b' := e6) 40 (.int .i64 (ln : Int)) (by rw [eset_len Ha.out.shape, HE6.out, HE5.out]; first | done | rfl) hS (by rw [HE6.out, HE5.out]; first | done | rfl)
        obtain ⟨Wb, hWb⟩ : ∃ W, W = wa.setCell ⟨bx, 40, none⟩ (.int .i64 (ln : Int)) := ⟨_, rfl⟩
        rw [← hWb] at hst
        have Hb := Lib.hid hst
        have QWb := Lib.hid hWb
        clear hst hWb
        go_upto_region 23 with fail
        rw [← QWb.out]
        clear dx df QWb Ha hS he6
        go_wp2_with fail
        refine (ptake_any w.heap.size g u6 4 Wb Hb.out.pw (by decide) (by omega)).mono ?_
        unfold PTakeIs
        rw [Kt7.out]
        rintro e9 wd ⟨A9, c9', rfl, hown9, hp9, hg9⟩
        have Hd := Lib.hid (Hb.out.after hp9 hg9)
        have Hy := Lib.hid (BS.of_own hown9).1
        clear hown9 hp9 hg9 Hb
        go_wp2_with fail
        refine (refGetLe_any A9 4 c9' y4 wd Hy4l.out.symm Hy.out (by decide)).mono ?_
        rintro e9 wd' ⟨rfl, rfl⟩
        have hS : EvShape eF := by rw [HeF.out]; exact ⟨Hsh.out, y4v⟩
        have hwk : IntKind.u32.wrap ((val y4 : Nat) : Int) = ((val y4 : Nat) : Int) := IntWalk.u32_in _ (by omega)
        obtain ⟨sm, hsm⟩ : ∃ z, z = val y4 := ⟨_, rfl⟩
        rw [← hsm] at hwk y4v ⊢
        have Hsm := Lib.hid hsm
        clear hsm
        have HeF2 : Hid (eF = { e6 with sum := sm }) := by show _ = _; rw [HeF.out, HE6.out, Hsm.out, Hx2.out]; rfl
        clear Hy
        have dx := show wd.cell? ⟨bx, 41, none⟩ = some (.int .u32 (e6.sum : Int)) from ce_34 Hd.out.box Hd.out.shape 7
        have df := Hd.out.box.frozen 41
        have hst := Hd.out.set_ (b' := eF) 41 (.int .u32 (sm : Int)) (by rw [eset_sum Hd.out.shape, HeF2.out]) hS (by rw [HeF2.out])
        obtain ⟨We, hWe⟩ : ∃ W, W = wd.setCell ⟨bx, 41, none⟩ (.int .u32 (sm : Int)) := ⟨_, rfl⟩
        rw [← hWe] at hst
        have HF := Lib.hid hst
        have QWe := Lib.hid hWe
        clear hst hWe hS
        go_upto_region 24 with fail
        rw [← QWe.out]
        clear dx df QWe Hd hwk
        obtain ⟨Ap, cp, hXp, hbp, hcp, hBp⟩ := HF.out.pw
        have d1 : We.cell? ⟨g, 1, none⟩ = some (.bool u7.2) := hXp.cell 1
        have d2 : We.cell? ⟨g, 0, none⟩ = some (.slice Ap u7.1.length cp) := hXp.cell 0
        have Hgp : Hid (getP l = if u7.2 = false ∧ u7.1.length = 0 ∧ rightEB eF = true then some eF else none) := by show _ = _; unfold getP; rw [Hev.out]
        have Ho0 : Hid (eF.o.out = []) := by show _ = _; rw [HeF.out]
        obtain ⟨ub, hub⟩ : ∃ z, z = u7.2 := ⟨_, rfl⟩
        obtain ⟨un, hun⟩ : ∃ z, z = u7.1.length := ⟨_, rfl⟩
        rw [← hub] at d1 Hgp
        rw [← hun] at d2 Hgp
        clear hXp hbp hcp hBp hub hun
        rcases ub with _ | _
        rotate_left
        · have Hno : Hid (getP l = none) := by show _ = _; rw [Hgp.out, if_neg (fun h => by cases h.1)]
          have Hthr : Hid (We.there w.heap.size 0 (evCs none 0 0 none 0 0 ev0).toArray.size) := HF.out.res.there (by decide)
          have hG : Blk (We.setCells w.heap.size 0 (evCs none 0 0 none 0 0 ev0)) w.heap.size 39 (evCs none 0 0 none 0 0 ev0).toArray := by
            have := Blk.setCells (evCs none 0 0 none 0 0 ev0) 0 HF.out.res
            rw [setL_whole rfl] at this
            exact this
          have HG := Lib.hid hG
          clear hG
          go_wp2_with (first
            | ((with_reducible refine gateS 39 ?_); rw [← ev0_lit]; refine wpList_store_mid rfl 39 (.tmp 2) (.tmp 127) rfl w.heap.size 0 (evCs none 0 0 none 0 0 ev0).toArray rfl rfl Hthr.out (ev_sz ev0_shape) (ev_one _ _ _ _ _ _ _) ?_))
          refine bodyPost_ret (v := .tuple #[.agg (evCs none 0 0 none 0 0 ev0).toArray, .bool false]) (results_row_tmp (P := Try.prog) (p := 2) (u := 3) rfl _ _ w.heap.size _ _ _ _ rfl HG.out ev_under rfl (ev_sz ev0_shape)) rfl ?_
          exact ⟨below_setCells (Nat.le_refl _) _ _ HF.out.bel, fun _ => rfl, fun f hf => by rw [Hno.out] at hf; cases hf⟩
        rcases Nat.eq_zero_or_pos un with h0 | h0
        rotate_left
        · have hI : (0 : Int) < (un : Int) := by omega
          have Hno : Hid (getP l = none) := by show _ = _; rw [Hgp.out, if_neg (fun h => by have := h.2.1; omega)]
          have Hthr : Hid (We.there w.heap.size 0 (evCs none 0 0 none 0 0 ev0).toArray.size) := HF.out.res.there (by decide)
          have hG : Blk (We.setCells w.heap.size 0 (evCs none 0 0 none 0 0 ev0)) w.heap.size 39 (evCs none 0 0 none 0 0 ev0).toArray := by
            have := Blk.setCells (evCs none 0 0 none 0 0 ev0) 0 HF.out.res
            rw [setL_whole rfl] at this
            exact this
          have HG := Lib.hid hG
          clear hG
          go_wp2_with (first
            | ((with_reducible refine gateS 39 ?_); rw [← ev0_lit]; refine wpList_store_mid rfl 39 (.tmp 2) (.tmp 127) rfl w.heap.size 0 (evCs none 0 0 none 0 0 ev0).toArray rfl rfl Hthr.out (ev_sz ev0_shape) (ev_one _ _ _ _ _ _ _) ?_))
          refine bodyPost_ret (v := .tuple #[.agg (evCs none 0 0 none 0 0 ev0).toArray, .bool false]) (results_row_tmp (P := Try.prog) (p := 2) (u := 3) rfl _ _ w.heap.size _ _ _ _ rfl HG.out ev_under rfl (ev_sz ev0_shape)) rfl ?_
          exact ⟨below_setCells (Nat.le_refl _) _ _ HF.out.bel, fun _ => rfl, fun f hf => by rw [Hno.out] at hf; cases hf⟩
        subst h0
        have RF := Lib.hid (blk_range HF.out.box)
        obtain ⟨t, ht⟩ : ∃ t, rightEB eF = t := ⟨_, rfl⟩
        have Ht := Lib.hid ht
        clear ht
        have Hri : Hid (Calls Try.prog 13 #[.agg (evCs Af eF.act.frame.length cf none 0 0 eF).toArray] We fun e w' => e = .returned (.bool t) ∧ Below We.heap.size We w') := by
          have h := refRightE_any Af cf none 0 eF HF.out.shape We HF.out.fr.bs
          rw [show eF.o.out.length = 0 by rw [Ho0.out]; rfl, Ht.out] at h
          exact h
        go_wp2_with (first
          | ((with_reducible refine gateL 39 ?_); refine wpList_load_g (by rfl) 39 (.tmp 5) rfl bx 0 rfl (evCs Af eF.act.frame.length cf none 0 0 eF) _ RF.out ev_under rfl (ev_sz HF.out.shape) ?_))
        refine Hri.out.mono ?_
        rintro e9 wf ⟨rfl, hb9⟩
        have HL := Lib.hid (HF.out.below hb9)
        clear hb9 HF RF Hri d1 d2
        rcases t with _ | _
        · skip
          have Hno : Hid (getP l = none) := by show _ = _; rw [Hgp.out, if_neg (fun h => by have := h.2.2; rw [Ht.out] at this; cases this)]
          have Hthr : Hid (wf.there w.heap.size 0 (evCs none 0 0 none 0 0 ev0).toArray.size) := HL.out.res.there (by decide)
          have hG : Blk (wf.setCells w.heap.size 0 (evCs none 0 0 none 0 0 ev0)) w.heap.size 39 (evCs none 0 0 none 0 0 ev0).toArray := by
            have := Blk.setCells (evCs none 0 0 none 0 0 ev0) 0 HL.out.res
            rw [setL_whole rfl] at this
            exact this
          have HG := Lib.hid hG
          clear hG
          go_wp2_with (first
            | ((with_reducible refine gateS 39 ?_); rw [← ev0_lit]; refine wpList_store_mid rfl 39 (.tmp 2) (.tmp 127) rfl w.heap.size 0 (evCs none 0 0 none 0 0 ev0).toArray rfl rfl Hthr.out (ev_sz ev0_shape) (ev_one _ _ _ _ _ _ _) ?_))
          refine bodyPost_ret (v := .tuple #[.agg (evCs none 0 0 none 0 0 ev0).toArray, .bool false]) (results_row_tmp (P := Try.prog) (p := 2) (u := 3) rfl _ _ w.heap.size _ _ _ _ rfl HG.out ev_under rfl (ev_sz ev0_shape)) rfl ?_
          exact ⟨below_setCells (Nat.le_refl _) _ _ HL.out.bel, fun _ => rfl, fun f hf => by rw [Hno.out] at hf; cases hf⟩
        · have Hyes : Hid (getP l = some eF) := by show _ = _; rw [Hgp.out]; simp [Ht.out]
          have RF := Lib.hid (blk_range HL.out.box)
          have Hthr : Hid (wf.there w.heap.size 0 (evCs Af eF.act.frame.length cf none 0 0 eF).toArray.size) := HL.out.res.there (by rw [List.size_toArray, List.size_toArray, ev_len HL.out.shape, ev_len ev0_shape]; decide)
          have Hszr : Hid ((Try.prog.info? 39).map (·.size) = some (evCs Af eF.act.frame.length cf none 0 0 eF).toArray.size) := ev_sz HL.out.shape
          have hG : Blk (wf.setCells w.heap.size 0 (evCs Af eF.act.frame.length cf none 0 0 eF)) w.heap.size 39 (evCs Af eF.act.frame.length cf none 0 0 eF).toArray := by
            have := Blk.setCells (evCs Af eF.act.frame.length cf none 0 0 eF) 0 HL.out.res
            rw [setL_whole (by rw [ev_len HL.out.shape, ev_len ev0_shape])] at this
            exact this
          have HG := Lib.hid hG
          have HfB := Lib.hid (HL.out.fr.grown (grownCells wf w.heap.size 0 (evCs Af eF.act.frame.length cf none 0 0 eF) 0 (World.grownBy.refl _ _)) (fun k hk => by injection hk with hk; have := HL.out.gl; have := HL.out.gb; omega)).bs
          clear hG
          go_wp2_with (first
            | ((with_reducible refine gateL 39 ?_); refine wpList_load_g (by rfl) 39 (.tmp 5) rfl bx 0 rfl (evCs Af eF.act.frame.length cf none 0 0 eF) _ RF.out ev_under rfl (ev_sz HL.out.shape) ?_)
            | ((with_reducible refine gateS 39 ?_); refine wpList_store_mid rfl 39 (.tmp 2) (.tmp 128) rfl w.heap.size 0 (evCs Af eF.act.frame.length cf none 0 0 eF).toArray rfl rfl Hthr.out Hszr.out (ev_one _ _ _ _ _ _ _) ?_))
          refine bodyPost_ret (v := .tuple #[.agg (evCs Af eF.act.frame.length cf none 0 0 eF).toArray, .bool true]) (results_row_tmp (P := Try.prog) (p := 2) (u := 3) rfl _ _ w.heap.size _ _ _ _ rfl HG.out ev_under rfl Hszr.out) rfl ?_
          unfold RGIs
          rw [Hyes.out]
          refine ⟨below_setCells (Nat.le_refl _) _ _ HL.out.bel, (fun hf => by cases hf), fun f hf => ?_⟩
          injection hf with hf
          subst hf
          exact ⟨Af, cf, rfl, HfB.out⟩
end Go.Proofs.Ytgohhojoahlfiaa
