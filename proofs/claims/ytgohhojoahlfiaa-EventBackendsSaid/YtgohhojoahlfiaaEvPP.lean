/- The document's Part, in plain Lean: what is left, and whether something was wrong; what an event is read as. No program in sight. -/
import Derived.Test.YtgohhojoahlfiaaEvK2
namespace Go.Proofs.Ytgohhojoahlfiaa
open Go.RowKit
set_option linter.unusedVariables false
set_option linter.unusedSimpArgs false

abbrev PS : Type := List UInt8 × Bool
def takeP (st : PS) (n : Nat) : PS × List UInt8 := if st.2 = true ∨ st.1.length < n then ((st.1, true), List.replicate n 0) else ((st.1.drop n, false), st.1.take n)
def numP (st : PS) (m : Nat) : PS × Nat := if st.2 = true ∨ (vgetS st.1).2.2 ≠ 0 ∨ m < (vgetS st.1).1 then ((st.1, true), 0) else ((st.1.drop (vgetS st.1).2.1, false), (vgetS st.1).1)
def textP (st : PS) (m : Nat) : PS × List UInt8 := takeP (numP st m).1 (numP st m).2
def oneP (st : PS) : PS × Nat := ((takeP st 1).1, ((takeP st 1).2.headD 0).toNat)
def flagP (st : PS) : PS × Bool := (((oneP st).1.1, (oneP st).1.2 || decide (1 < (oneP st).2)), (oneP st).2 == 1)
def weightP (st : PS) : PS × Nat := (((takeP st 8).1.1, (takeP st 8).1.2 || !(wgetS (takeP st 8).2).2), (wgetS (takeP st 8).2).1)
def backOf (nm : List UInt8) (six : Bool) (x : List UInt8) (wt : Nat) (dr : Bool) : BackP :=
  { name := nm, addr := (six, x.take 16), port := ((256 * (x.getD 16 0).toNat + (x.getD 17 0).toNat : Nat) : Int), mac := (x.drop 18).take 6, wt := wt, drain := dr }
def backP (st : PS) : PS × BackP :=
  let t1 := textP st 255
  let t2 := flagP t1.1
  let t3 := takeP t2.1 24
  let t4 := weightP t3.1
  let t5 := flagP t4.1
  (t5.1, backOf t1.2 t2.2 t3.2 t4.2 t5.2)
def takeBP (st : PS) : PS × BackP := ((backP st).1, if (backP st).1.2 = true then back0 else (backP st).2)
def actPP (st : PS) : PS × ActP :=
  let t1 := oneP st
  if (t1.2 : Int) = 1 then
    let t2 := textP t1.1 131072
    (t2.1, { act0 with kind := (t1.2 : Int), frame := t2.2 })
  else if (t1.2 : Int) = 2 then
    let t2 := oneP t1.1
    if (t2.2 : Int) = 1 then
      let t3 := takeBP t2.1
      (t3.1, { act0 with kind := (t1.2 : Int), op := (t2.2 : Int), back := t3.2 })
    else
      let t3 := textP t2.1 255
      if (t2.2 : Int) = 3 then
        let t4 := weightP t3.1
        (t4.1, { act0 with kind := (t1.2 : Int), op := (t2.2 : Int), oname := t3.2, owt := t4.2 })
      else (t3.1, { act0 with kind := (t1.2 : Int), op := (t2.2 : Int), oname := t3.2 })
  else if (t1.2 : Int) = 3 then
    let t2 := textP t1.1 255
    let t3 := flagP t2.1
    (t3.1, { act0 with kind := (t1.2 : Int), name := t2.2, well := t3.2 })
  else (t1.1, { act0 with kind := (t1.2 : Int) })
def outPP (st : PS) : PS × OutP × Nat × Nat :=
  let t1 := takeP st 2
  let t3 := flagP t1.1
  let t4 := numP t3.1 1099511627776
  let t5 := textP t4.1 255
  let t6 := numP t5.1 262144
  let t7 := takeP t6.1 4
  (t7.1, { err := ((t1.2.getD 0 0).toNat : Int), reason := ((t1.2.getD 1 0).toNat : Int), hit := t3.2, version := (t4.2 : Int), name := t5.2, out := [] }, t6.2, val t7.2)
def evPP (st : PS) : PS × EvP := ((outPP (actPP st).1).1, { act := (actPP st).2, o := (outPP (actPP st).1).2.1, len := ((outPP (actPP st).1).2.2.1 : Int), sum := (outPP (actPP st).1).2.2.2 })
def getP (l : List UInt8) : Option EvP := if (evPP (l, false)).1.2 = false ∧ (evPP (l, false)).1.1.length = 0 ∧ rightEB (evPP (l, false)).2 = true then some (evPP (l, false)).2 else none

structure EP (st : PS) (x : List UInt8) (st' : PS) : Prop where
  a : st.2 = false
  b : st'.2 = false
  eq : st.1 = x ++ st'.1
section
variable {st st' st'' : PS} {x y r : List UInt8}
theorem EP.trans (h : EP st x st') (k : EP st' y st'') : EP st (x ++ y) st'' := ⟨h.a, k.b, by rw [h.eq, k.eq, List.append_assoc]⟩
theorem takeP_len (st : PS) (n : Nat) : (takeP st n).2.length = n := by
  unfold takeP
  split
  · simp
  · rename_i h
    simp only [List.length_take]
    omega
theorem takeP_F : takeP (x ++ r, false) x.length = ((r, false), x) := by
  unfold takeP
  rw [if_neg (by simp)]
  simp
theorem takeP_B {n : Nat} (h : (takeP st n).1.2 = false) : EP st (takeP st n).2 (takeP st n).1 := by
  unfold takeP at h ⊢
  split at h
  · cases h
  · rename_i h0
    rw [if_neg h0]
    refine ⟨?_, rfl, ?_⟩
    · rcases hs : st.2 with _ | _
      · rfl
      · exact absurd (Or.inl hs) h0
    · simp
theorem numP_F {n m : Nat} (hn : n < 18446744073709551616) (hm : n ≤ m) : numP (vput n ++ r, false) m = ((r, false), n) := by
  unfold numP
  simp only [vget_back n hn r]
  rw [if_neg (by simp; omega)]
  simp
theorem numP_B {m : Nat} (h : (numP st m).1.2 = false) : EP st (vput (numP st m).2) (numP st m).1 ∧ (numP st m).2 ≤ m := by
  unfold numP at h ⊢
  split at h
  · cases h
  · rename_i h0
    rw [if_neg h0]
    have h1 : st.2 = false := by
      rcases hs : st.2 with _ | _
      · rfl
      · exact absurd (Or.inl hs) h0
    have h2 : (vgetS st.1).2.2 = 0 := by
      by_cases h : (vgetS st.1).2.2 = 0
      · exact h
      · exact absurd (Or.inr (Or.inl h)) h0
    have h3 : ¬ m < (vgetS st.1).1 := fun h => h0 (Or.inr (Or.inr h))
    rcases hg : vgetS st.1 with ⟨v, k, e⟩
    rw [hg] at h2 h3
    simp only at h2 h3
    subst h2
    obtain ⟨_, _, _, _, hv⟩ := vget_only hg
    refine ⟨⟨h1, rfl, ?_⟩, by omega⟩
    simp only
    rw [hv, List.take_append_drop]
theorem textP_F {m : Nat} (hx : x.length < 18446744073709551616) (hm : x.length ≤ m) : textP (textB x ++ r, false) m = ((r, false), x) := by
  unfold textP textB
  rw [List.append_assoc, numP_F hx hm]
  exact takeP_F
theorem textP_B {m : Nat} (h : (textP st m).1.2 = false) : EP st (textB (textP st m).2) (textP st m).1 ∧ (textP st m).2.length ≤ m := by
  unfold textP at h ⊢
  have h2 := takeP_B h
  have hl := takeP_len (numP st m).1 (numP st m).2
  obtain ⟨h1, hm⟩ := numP_B h2.a
  refine ⟨?_, by omega⟩
  unfold textB
  rw [hl]
  exact h1.trans h2
theorem oneP_F {z : Int} (h0 : 0 ≤ z) (h1 : z ≤ 255) : ∃ k : Nat, oneP (putS 1 z.toNat true ++ r, false) = ((r, false), k) ∧ (k : Int) = z := by
  have h := takeP_F (x := putS 1 z.toNat true) (r := r)
  rw [putS_length] at h
  refine ⟨z.toNat, ?_, by omega⟩
  unfold oneP
  rw [h, show putS 1 z.toNat true = [UInt8.ofNat (z.toNat % 256)] from rfl]
  simp only [List.headD_cons]
  rw [UInt8.toNat_ofNat', show z.toNat % 256 % 2 ^ 8 = z.toNat by omega]
theorem oneP_B (h : (oneP st).1.2 = false) : EP st (putS 1 ((oneP st).2 : Int).toNat true) (oneP st).1 ∧ (oneP st).2 ≤ 255 := by
  unfold oneP at h ⊢
  have h1 := takeP_B h
  have hl := takeP_len st 1
  obtain ⟨c, hc⟩ := len_one hl
  rw [hc] at h1 ⊢
  have := c.toNat_lt
  refine ⟨?_, by simp only [List.headD_cons]; omega⟩
  rw [show putS 1 (((([c] : List UInt8).headD 0).toNat : Nat) : Int).toNat true = [c] by
    simp only [List.headD_cons, Int.toNat_natCast]
    rw [show putS 1 c.toNat true = [UInt8.ofNat (c.toNat % 256)] from rfl, Nat.mod_eq_of_lt (by omega), UInt8.ofNat_toNat]]
  exact h1
theorem flagP_F {b : Bool} : flagP (flagB b ++ r, false) = ((r, false), b) := by
  have h := takeP_F (x := flagB b) (r := r)
  rw [flagB_len] at h
  unfold flagP oneP
  rw [h]
  cases b
  · simp [flagB]
  · simp [flagB]
theorem flagP_B (h : (flagP st).1.2 = false) : EP st (flagB (flagP st).2) (flagP st).1 := by
  unfold flagP at h ⊢
  simp only [Bool.or_eq_false_iff, decide_eq_false_iff_not] at h
  obtain ⟨h1, _⟩ := oneP_B h.1
  have e : putS 1 ((oneP st).2 : Int).toNat true = flagB ((oneP st).2 == 1) := by
    rcases (by omega : (oneP st).2 = 0 ∨ (oneP st).2 = 1) with e | e
    · rw [e]; rfl
    · rw [e]; rfl
  rw [e] at h1
  exact ⟨h1.a, by simp only [Bool.or_eq_false_iff, decide_eq_false_iff_not]; exact h, h1.eq⟩
theorem weightP_F {n : Nat} (hn : n < 18446744073709551616) (hc : wbits n = n) : weightP (wput n ++ r, false) = ((r, false), n) := by
  have h := takeP_F (x := wput n) (r := r)
  rw [wput_len] at h
  unfold weightP wgetS
  rw [h]
  simp only [beN_wput hn hc, wput_len, hc, and_self, if_true, Bool.not_true, Bool.or_false]
theorem weightP_B (h : (weightP st).1.2 = false) : EP st (wput (weightP st).2) (weightP st).1 ∧ wbits (weightP st).2 = (weightP st).2 := by
  unfold weightP at h ⊢
  simp only [Bool.or_eq_false_iff] at h
  have h1 := takeP_B h.1
  have hl := takeP_len st 8
  obtain ⟨x, hx⟩ : ∃ x, x = (takeP st 8).2 := ⟨_, rfl⟩
  rw [← hx] at h1 hl h ⊢
  have h2 := h.2
  unfold wgetS at h2 ⊢
  by_cases hw : x.length = 8 ∧ wbits (beN x) = beN x
  · rw [if_pos hw]
    refine ⟨⟨h1.a, by simp only [Bool.not_true, Bool.or_false]; exact h.1, ?_⟩, hw.2⟩
    have : wput (beN x) = x := by
      unfold wput
      rw [hw.2]
      have := putS_getS x true
      rw [hl] at this
      exact this
    simp only [this]
    exact h1.eq
  · rw [if_neg hw] at h2
    simp at h2
theorem weightP_lt (st : PS) : (weightP st).2 < 18446744073709551616 := wget_lt _
theorem back_mid {b : BackP} (hs : BackShape b) (hp : 0 ≤ b.port ∧ b.port ≤ 65535) : backOf b.name b.addr.1 (b.addr.2 ++ (putS 2 b.port.toNat true ++ b.mac)) b.wt b.drain = b := by
  have h16 : b.addr.2.length = 16 := hs.addr
  have h6 := hs.mac
  have e2 : putS 2 b.port.toNat true = [UInt8.ofNat (b.port.toNat / 256 % 256), UInt8.ofNat (b.port.toNat % 256)] := rfl
  have g16 : (b.addr.2 ++ (putS 2 b.port.toNat true ++ b.mac)).getD 16 0 = UInt8.ofNat (b.port.toNat / 256 % 256) := by
    rw [List.getD_eq_getElem?_getD, List.getElem?_append_right (by omega), h16, e2]; rfl
  have g17 : (b.addr.2 ++ (putS 2 b.port.toNat true ++ b.mac)).getD 17 0 = UInt8.ofNat (b.port.toNat % 256) := by
    rw [List.getD_eq_getElem?_getD, List.getElem?_append_right (by omega), h16, e2]; rfl
  unfold backOf
  rw [g16, g17, List.take_left' h16, show 18 = 16 + 2 from rfl, ← List.drop_drop, List.drop_left' h16, List.drop_left' (putS_length _ _ _), List.take_of_length_le (by omega), UInt8.toNat_ofNat', UInt8.toNat_ofNat']
  have hpp : ((256 * (b.port.toNat / 256 % 256 % 2 ^ 8) + b.port.toNat % 256 % 2 ^ 8 : Nat) : Int) = b.port := by omega
  rw [hpp]
theorem backP_F {b : BackP} (hs : BackShape b) (ht : toldB b = true) (hc : canB b) : backP (backBytes b ++ r, false) = ((r, false), b) := by
  unfold toldB at ht
  simp only [Bool.and_eq_true, decide_eq_true_eq, inZ_iff] at ht
  obtain ⟨hn, hp⟩ := ht
  have h16 : b.addr.2.length = 16 := hs.addr
  have h6 := hs.mac
  have h3 := takeP_F (x := b.addr.2 ++ (putS 2 b.port.toNat true ++ b.mac)) (r := wput b.wt ++ (flagB b.drain ++ r))
  rw [show (b.addr.2 ++ (putS 2 b.port.toNat true ++ b.mac)).length = 24 by rw [List.length_append, List.length_append, h16, putS_length, h6]] at h3
  unfold backBytes
  unfold backP
  rw [show (textB b.name ++ (flagB b.addr.1 ++ (b.addr.2 ++ (putS 2 b.port.toNat true ++ (b.mac ++ (wput b.wt ++ flagB b.drain)))))) ++ r = textB b.name ++ (flagB b.addr.1 ++ ((b.addr.2 ++ (putS 2 b.port.toNat true ++ b.mac)) ++ (wput b.wt ++ (flagB b.drain ++ r)))) by simp only [List.append_assoc]]
  simp only [textP_F (x := b.name) (m := 255) (by omega) (by omega), flagP_F, h3, weightP_F hs.wt hc]
  rw [back_mid hs hp]
theorem backOf_shape {nm : List UInt8} {six : Bool} {x : List UInt8} {wt : Nat} {dr : Bool} (hx : x.length = 24) (hw : wt < 18446744073709551616) : BackShape (backOf nm six x wt dr) :=
  ⟨by show (x.take 16).length = 16; rw [List.length_take, hx]; rfl, by show ((x.drop 18).take 6).length = 6; rw [List.length_take, List.length_drop, hx]; rfl, hw⟩
theorem backP_shape (st : PS) : BackShape (backP st).2 := by
  unfold backP
  exact backOf_shape (takeP_len _ _) (weightP_lt _)
theorem mid_bytes {x : List UInt8} (hx : x.length = 24) : x.take 16 ++ (putS 2 (((256 * (x.getD 16 0).toNat + (x.getD 17 0).toNat : Nat) : Int)).toNat true ++ (x.drop 18).take 6) = x := by
  have h1 : x = x.take 16 ++ x.drop 16 := (List.take_append_drop 16 x).symm
  have h2 : x.drop 16 = (x.drop 16).take 2 ++ x.drop 18 := by rw [show (18 : Nat) = 16 + 2 from rfl, ← List.drop_drop, List.take_append_drop]
  have h3 : (x.drop 18).take 6 = x.drop 18 := List.take_of_length_le (by rw [List.length_drop, hx]; decide)
  have h4 : (x.drop 16).take 2 = [x.getD 16 0, x.getD 17 0] := by
    have l2 : ((x.drop 16).take 2).length = 2 := by rw [List.length_take, List.length_drop, hx]; rfl
    obtain ⟨a, b, hab⟩ := len_two l2
    have e0 : ((x.drop 16).take 2)[0]? = some a := by rw [hab]; rfl
    have e1 : ((x.drop 16).take 2)[1]? = some b := by rw [hab]; rfl
    rw [List.getElem?_take, if_pos (by decide), List.getElem?_drop] at e0 e1
    rw [hab, List.getD_eq_getElem?_getD, List.getD_eq_getElem?_getD, e0, e1]
    rfl
  have h5 : putS 2 (((256 * (x.getD 16 0).toNat + (x.getD 17 0).toNat : Nat) : Int)).toNat true = [x.getD 16 0, x.getD 17 0] := by
    have a1 := (x.getD 16 0).toNat_lt
    have a2 := (x.getD 17 0).toNat_lt
    rw [Int.toNat_natCast, show ∀ p, putS 2 p true = [UInt8.ofNat (p / 256 % 256), UInt8.ofNat (p % 256)] from fun p => rfl,
      show (256 * (x.getD 16 0).toNat + (x.getD 17 0).toNat) / 256 % 256 = (x.getD 16 0).toNat by omega, show (256 * (x.getD 16 0).toNat + (x.getD 17 0).toNat) % 256 = (x.getD 17 0).toNat by omega, UInt8.ofNat_toNat, UInt8.ofNat_toNat]
  rw [h5, h3, ← h4, ← h2, ← h1]
theorem backP_B (h : (backP st).1.2 = false) : EP st (backBytes (backP st).2) (backP st).1 ∧ toldB (backP st).2 = true ∧ canB (backP st).2 := by
  rcases h1 : textP st 255 with ⟨s1, nm⟩
  rcases h2 : flagP s1 with ⟨s2, sx⟩
  rcases h3 : takeP s2 24 with ⟨s3, x⟩
  rcases h4 : weightP s3 with ⟨s4, wt⟩
  rcases h5 : flagP s4 with ⟨s5, dr⟩
  have hb : backP st = (s5, backOf nm sx x wt dr) := by
    unfold backP
    simp only [h1, h2, h3, h4, h5]
  rw [hb] at h ⊢
  simp only at h ⊢
  have F5 := flagP_B (st := s4) (by rw [h5]; exact h)
  rw [h5] at F5
  have F4 := weightP_B (st := s3) (by rw [h4]; exact F5.a)
  rw [h4] at F4
  obtain ⟨E4, hcan⟩ := F4
  have F3 := takeP_B (st := s2) (n := 24) (by rw [h3]; exact E4.a)
  rw [h3] at F3
  have hx := takeP_len s2 24
  rw [h3] at hx
  have F2 := flagP_B (st := s1) (by rw [h2]; exact F3.a)
  rw [h2] at F2
  have F1 := textP_B (st := st) (m := 255) (by rw [h1]; exact F2.a)
  rw [h1] at F1
  obtain ⟨E1, hnm⟩ := F1
  simp only at F5 E4 hcan F3 hx F2 E1 hnm
  have a1 := (x.getD 16 0).toNat_lt
  have a2 := (x.getD 17 0).toNat_lt
  refine ⟨?_, ?_, hcan⟩
  · have E := E1.trans (F2.trans (F3.trans (E4.trans F5)))
    have e : backBytes (backOf nm sx x wt dr) = textB nm ++ (flagB sx ++ (x ++ (wput wt ++ flagB dr))) := by
      unfold backBytes backOf
      simp only
      have hm := mid_bytes hx
      conv => rhs; rw [← hm]
      simp only [List.append_assoc]
    rw [e]
    exact E
  · unfold toldB backOf
    simp only [Bool.and_eq_true, decide_eq_true_eq, inZ_iff]
    exact ⟨hnm, by omega, by omega⟩
theorem takeBP_F {b : BackP} (hs : BackShape b) (ht : toldB b = true) (hc : canB b) : takeBP (backBytes b ++ r, false) = ((r, false), b) := by
  unfold takeBP
  rw [backP_F hs ht hc]
  simp
theorem takeBP_shape (st : PS) : BackShape (takeBP st).2 := by
  unfold takeBP
  simp only
  split
  · exact back0_shape
  · exact backP_shape st
theorem takeBP_B (h : (takeBP st).1.2 = false) : EP st (backBytes (takeBP st).2) (takeBP st).1 ∧ toldB (takeBP st).2 = true ∧ canB (takeBP st).2 := by
  have h1 : (backP st).1.2 = false := h
  have e : takeBP st = backP st := by
    unfold takeBP
    rw [h1]
    simp
  rw [e]
  exact backP_B h1
theorem actPP_F {a : ActP} (hs : ActShape a) (hp : plainB a = true) (hc : canA a) : actPP (actBytes a ++ r, false) = ((r, false), a) := by
  have ho := plain_only hp hc
  simp only [plainB, Bool.and_eq_true, decide_eq_true_eq, inZ_iff] at hp
  obtain ⟨⟨hk1, hk4⟩, hop, _, hfr, hon, hnm, hbt⟩ := hp
  unfold actBytes
  rw [List.append_assoc]
  obtain ⟨k, hk, hkz⟩ := oneP_F (r := (if a.kind = 1 then textB a.frame else if a.kind = 2 then putS 1 a.op.toNat true ++ (if a.op = 1 then backBytes a.back else textB a.oname ++ (if a.op = 3 then wput a.owt else [])) else if a.kind = 3 then textB a.name ++ flagB a.well else []) ++ r) (z := a.kind) (by omega) (by omega)
  unfold actPP
  simp only [hk]
  rw [hkz]
  by_cases k1 : a.kind = 1
  · have hA : a = { act0 with kind := a.kind, frame := a.frame } := by
      have := ho
      unfold onlyA at this
      rw [if_pos k1] at this
      exact this
    simp only [if_pos k1, textP_F (x := a.frame) (m := 131072) (by omega) (by omega)]
    exact Prod.ext rfl hA.symm
  · by_cases k2 : a.kind = 2
    · have hoz : 1 ≤ a.op ∧ a.op ≤ 5 := by
        rw [k2] at hop
        simp only [bne_self_eq_false, Bool.false_or] at hop
        exact inZ_iff.1 hop
      simp only [if_neg k1, if_pos k2]
      rw [List.append_assoc]
      obtain ⟨j, hj, hjz⟩ := oneP_F (r := (if a.op = 1 then backBytes a.back else textB a.oname ++ (if a.op = 3 then wput a.owt else [])) ++ r) (z := a.op) (by omega) (by omega)
      simp only [hj]
      rw [hjz]
      by_cases k3 : a.op = 1
      · have hA : a = { act0 with kind := a.kind, op := a.op, back := a.back } := by
          have := ho
          unfold onlyA at this
          rw [if_neg k1, if_pos k2, if_pos k3] at this
          exact this
        simp only [if_pos k3, takeBP_F hs.back hbt hc.2]
        exact Prod.ext rfl hA.symm
      · simp only [if_neg k3]
        rw [List.append_assoc]
        simp only [textP_F (x := a.oname) (m := 255) (by omega) (by omega)]
        by_cases k4 : a.op = 3
        · have hA : a = { act0 with kind := a.kind, op := a.op, oname := a.oname, owt := a.owt } := by
            have := ho
            unfold onlyA at this
            rw [if_neg k1, if_pos k2, if_neg k3, if_pos k4] at this
            exact this
          simp only [if_pos k4, weightP_F hs.owt hc.1]
          exact Prod.ext rfl hA.symm
        · have hA : a = { act0 with kind := a.kind, op := a.op, oname := a.oname } := by
            have := ho
            unfold onlyA at this
            rw [if_neg k1, if_pos k2, if_neg k3, if_neg k4] at this
            exact this
          simp only [if_neg k4, List.nil_append]
          exact Prod.ext rfl hA.symm
    · by_cases k3 : a.kind = 3
      · have hA : a = { act0 with kind := a.kind, name := a.name, well := a.well } := by
          have := ho
          unfold onlyA at this
          rw [if_neg k1, if_neg k2, if_pos k3] at this
          exact this
        simp only [if_neg k1, if_neg k2, if_pos k3]
        rw [List.append_assoc]
        simp only [textP_F (x := a.name) (m := 255) (by omega) (by omega), flagP_F]
        exact Prod.ext rfl hA.symm
      · have hA : a = { act0 with kind := a.kind } := by
          have := ho
          unfold onlyA at this
          rw [if_neg k1, if_neg k2, if_neg k3] at this
          exact this
        simp only [if_neg k1, if_neg k2, if_neg k3, List.nil_append]
        exact Prod.ext rfl hA.symm
theorem actPP_B (h : (actPP st).1.2 = false) : EP st (actBytes (actPP st).2) (actPP st).1 ∧ canA (actPP st).2 ∧ ActShape (actPP st).2 := by
  have h0 : (0 : Nat) < 18446744073709551616 := by decide
  rcases h1 : oneP st with ⟨s1, k⟩
  have B1 := oneP_B (st := st)
  rw [h1] at B1
  simp only at B1
  by_cases k1 : (k : Int) = 1
  · rcases h2 : textP s1 131072 with ⟨s2, fr⟩
    have hA : actPP st = (s2, { act0 with kind := (k : Int), frame := fr }) := by
      unfold actPP
      simp only [h1, h2, if_pos k1]
    rw [hA] at h ⊢
    simp only at h ⊢
    have F2 := textP_B (st := s1) (m := 131072) (by rw [h2]; exact h)
    rw [h2] at F2
    refine ⟨?_, ⟨wbits0, canB0⟩, ⟨back0_shape, h0⟩⟩
    simp only [actBytes, if_pos k1]
    exact (B1 F2.1.a).1.trans F2.1
  · by_cases k2 : (k : Int) = 2
    · rcases h2 : oneP s1 with ⟨s2, j⟩
      have B2 := oneP_B (st := s1)
      rw [h2] at B2
      simp only at B2
      by_cases k3 : (j : Int) = 1
      · rcases h3 : takeBP s2 with ⟨s3, bk⟩
        have hA : actPP st = (s3, { act0 with kind := (k : Int), op := (j : Int), back := bk }) := by
          unfold actPP
          simp only [h1, h2, h3, if_neg k1, if_pos k2, if_pos k3]
        rw [hA] at h ⊢
        simp only at h ⊢
        have F3 := takeBP_B (st := s2) (by rw [h3]; exact h)
        have hsh := takeBP_shape s2
        rw [h3] at F3 hsh
        obtain ⟨E3, _, hcb⟩ := F3
        refine ⟨?_, ⟨wbits0, hcb⟩, ⟨hsh, h0⟩⟩
        simp only [actBytes, if_neg k1, if_pos k2, if_pos k3]
        exact (B1 (B2 E3.a).1.a).1.trans ((B2 E3.a).1.trans E3)
      · rcases h3 : textP s2 255 with ⟨s3, nm⟩
        by_cases k4 : (j : Int) = 3
        · rcases h4 : weightP s3 with ⟨s4, wt⟩
          have hA : actPP st = (s4, { act0 with kind := (k : Int), op := (j : Int), oname := nm, owt := wt }) := by
            unfold actPP
            simp only [h1, h2, h3, h4, if_neg k1, if_pos k2, if_neg k3, if_pos k4]
          rw [hA] at h ⊢
          simp only at h ⊢
          have F4 := weightP_B (st := s3) (by rw [h4]; exact h)
          have hlt := weightP_lt s3
          rw [h4] at F4 hlt
          obtain ⟨E4, hcw⟩ := F4
          have F3 := textP_B (st := s2) (m := 255) (by rw [h3]; exact E4.a)
          rw [h3] at F3
          refine ⟨?_, ⟨hcw, canB0⟩, ⟨back0_shape, hlt⟩⟩
          simp only [actBytes, if_neg k1, if_pos k2, if_neg k3, if_pos k4]
          have E2 := (B2 F3.1.a).1
          exact (B1 E2.a).1.trans (E2.trans (F3.1.trans E4))
        · have hA : actPP st = (s3, { act0 with kind := (k : Int), op := (j : Int), oname := nm }) := by
            unfold actPP
            simp only [h1, h2, h3, if_neg k1, if_pos k2, if_neg k3, if_neg k4]
          rw [hA] at h ⊢
          simp only at h ⊢
          have F3 := textP_B (st := s2) (m := 255) (by rw [h3]; exact h)
          rw [h3] at F3
          refine ⟨?_, ⟨wbits0, canB0⟩, ⟨back0_shape, h0⟩⟩
          simp only [actBytes, if_neg k1, if_pos k2, if_neg k3, if_neg k4, List.append_nil]
          have E2 := (B2 F3.1.a).1
          exact (B1 E2.a).1.trans (E2.trans F3.1)
    · by_cases k3 : (k : Int) = 3
      · rcases h2 : textP s1 255 with ⟨s2, nm⟩
        rcases h3 : flagP s2 with ⟨s3, we⟩
        have hA : actPP st = (s3, { act0 with kind := (k : Int), name := nm, well := we }) := by
          unfold actPP
          simp only [h1, h2, h3, if_neg k1, if_neg k2, if_pos k3]
        rw [hA] at h ⊢
        simp only at h ⊢
        have E3 := flagP_B (st := s2) (by rw [h3]; exact h)
        rw [h3] at E3
        have F2 := textP_B (st := s1) (m := 255) (by rw [h2]; exact E3.a)
        rw [h2] at F2
        refine ⟨?_, ⟨wbits0, canB0⟩, ⟨back0_shape, h0⟩⟩
        simp only [actBytes, if_neg k1, if_neg k2, if_pos k3]
        exact (B1 F2.1.a).1.trans (F2.1.trans E3)
      · have hA : actPP st = (s1, { act0 with kind := (k : Int) }) := by
          unfold actPP
          simp only [h1, if_neg k1, if_neg k2, if_neg k3]
        rw [hA] at h ⊢
        simp only at h ⊢
        refine ⟨?_, ⟨wbits0, canB0⟩, ⟨back0_shape, h0⟩⟩
        simp only [actBytes, if_neg k1, if_neg k2, if_neg k3, List.append_nil]
        exact (B1 h).1
def outBytes (o : OutP) (ln su : Nat) : List UInt8 := putS 1 o.err.toNat true ++ (putS 1 o.reason.toNat true ++ (flagB o.hit ++ (vput o.version.toNat ++ (textB o.name ++ (vput ln ++ putS 4 su false)))))
theorem outPP_F {o : OutP} {ln su : Nat} (h1 : 0 ≤ o.err ∧ o.err ≤ 9) (h2 : 0 ≤ o.reason ∧ o.reason ≤ 10) (h3 : 0 ≤ o.version ∧ o.version ≤ 1099511627776) (h4 : o.name.length ≤ 255) (h5 : o.out = []) (h6 : ln ≤ 262144) (h7 : su < 4294967296) :
    outPP (outBytes o ln su ++ r, false) = ((r, false), o, ln, su) := by
  unfold outBytes
  have e1 : ∀ p, putS 1 p true = [UInt8.ofNat (p % 256)] := fun _ => rfl
  have t2 := takeP_F (x := putS 1 o.err.toNat true ++ putS 1 o.reason.toNat true) (r := flagB o.hit ++ (vput o.version.toNat ++ (textB o.name ++ (vput ln ++ (putS 4 su false ++ r)))))
  rw [show (putS 1 o.err.toNat true ++ putS 1 o.reason.toNat true).length = 2 from rfl] at t2
  have t4 := takeP_F (x := putS 4 su false) (r := r)
  rw [putS_length] at t4
  unfold outPP
  rw [show (putS 1 o.err.toNat true ++ (putS 1 o.reason.toNat true ++ (flagB o.hit ++ (vput o.version.toNat ++ (textB o.name ++ (vput ln ++ putS 4 su false)))))) ++ r = (putS 1 o.err.toNat true ++ putS 1 o.reason.toNat true) ++ (flagB o.hit ++ (vput o.version.toNat ++ (textB o.name ++ (vput ln ++ (putS 4 su false ++ r))))) by simp only [List.append_assoc]]
  simp only [t2, flagP_F, numP_F (n := o.version.toNat) (m := 1099511627776) (by omega) (by omega), textP_F (x := o.name) (m := 255) (by omega) (by omega), numP_F (n := ln) (m := 262144) (by omega) (by omega), t4]
  have hv : val (putS 4 su false) = su := getS_putS (k := 4) (by omega) false
  have g0 : (((putS 1 o.err.toNat true ++ putS 1 o.reason.toNat true).getD 0 0).toNat : Int) = o.err := by
    rw [e1, e1]
    simp only [List.cons_append, List.nil_append, List.getD_cons_zero]
    rw [UInt8.toNat_ofNat']
    omega
  have g1 : (((putS 1 o.err.toNat true ++ putS 1 o.reason.toNat true).getD 1 0).toNat : Int) = o.reason := by
    rw [e1, e1]
    simp only [List.cons_append, List.nil_append, List.getD_cons_succ, List.getD_cons_zero]
    rw [UInt8.toNat_ofNat']
    omega
  have g2 : ((o.version.toNat : Nat) : Int) = o.version := by omega
  simp only [hv, g0, g1, g2]
  rw [← h5]
theorem outPP_B (h : (outPP st).1.2 = false) : EP st (outBytes (outPP st).2.1 (outPP st).2.2.1 (outPP st).2.2.2) (outPP st).1 ∧ (outPP st).2.2.2 < 4294967296 := by
  rcases h1 : takeP st 2 with ⟨s1, x⟩
  rcases h3 : flagP s1 with ⟨s3, hit⟩
  rcases h4 : numP s3 1099511627776 with ⟨s4, ve⟩
  rcases h5 : textP s4 255 with ⟨s5, nm⟩
  rcases h6 : numP s5 262144 with ⟨s6, ln⟩
  rcases h7 : takeP s6 4 with ⟨s7, y⟩
  have hA : outPP st = (s7, { err := ((x.getD 0 0).toNat : Int), reason := ((x.getD 1 0).toNat : Int), hit := hit, version := (ve : Int), name := nm, out := [] }, ln, val y) := by
    unfold outPP
    simp only [h1, h3, h4, h5, h6, h7]
  rw [hA] at h ⊢
  simp only at h ⊢
  have E7 := takeP_B (st := s6) (n := 4) (by rw [h7]; exact h)
  have l7 := takeP_len s6 4
  rw [h7] at E7 l7
  have F6 := numP_B (st := s5) (m := 262144) (by rw [h6]; exact E7.a)
  rw [h6] at F6
  have F5 := textP_B (st := s4) (m := 255) (by rw [h5]; exact F6.1.a)
  rw [h5] at F5
  have F4 := numP_B (st := s3) (m := 1099511627776) (by rw [h4]; exact F5.1.a)
  rw [h4] at F4
  have E3 := flagP_B (st := s1) (by rw [h3]; exact F4.1.a)
  rw [h3] at E3
  have E1 := takeP_B (st := st) (n := 2) (by rw [h1]; exact E3.a)
  have l1 := takeP_len st 2
  rw [h1] at E1 l1
  simp only at E7 l7 F6 F5 F4 E3 E1 l1
  obtain ⟨a, b, rfl⟩ := len_two l1
  have ha := a.toNat_lt
  have hb := b.toNat_lt
  refine ⟨?_, ?_⟩
  · have E := E1.trans (E3.trans (F4.1.trans (F5.1.trans (F6.1.trans E7))))
    have e1 : ∀ c : UInt8, putS 1 c.toNat true = [c] := fun c => by
      have := c.toNat_lt
      rw [show ∀ p, putS 1 p true = [UInt8.ofNat (p % 256)] from fun _ => rfl, Nat.mod_eq_of_lt (by omega), UInt8.ofNat_toNat]
    have e4 : putS 4 (val y) false = y := by
      have := putS_getS y false
      rw [l7] at this
      exact this
    unfold outBytes
    simp only [List.getD_cons_zero, List.getD_cons_succ, e1, e4, Int.toNat_natCast]
    exact E
  · have := val_ltE y
    rw [l7] at this
    exact this
theorem evBytes_split (e : EvP) : evBytes e = actBytes e.act ++ outBytes e.o e.len.toNat e.sum := rfl
end
theorem getP_F {e : EvP} (hs : EvShape e) (hr : rightEB e = true) (hc : canE e) : getP (evBytes e) = some e := by
  have hr' := hr
  simp only [rightEB, Bool.and_eq_true, decide_eq_true_eq, inZ_iff] at hr
  obtain ⟨hp, he, hre, hv, hn, ho, hl0, hl9⟩ := hr
  have h1 := actPP_F (r := outBytes e.o e.len.toNat e.sum) hs.act hp hc
  have h2 := outPP_F (r := []) (o := e.o) (ln := e.len.toNat) (su := e.sum) he hre hv hn (List.eq_nil_of_length_eq_zero ho) (by omega) hs.sum
  rw [List.append_nil] at h2
  have h3 : evPP (evBytes e, false) = (([], false), e) := by
    unfold evPP
    rw [evBytes_split, h1]
    simp only [h2]
    have hl : ((e.len.toNat : Nat) : Int) = e.len := by omega
    rw [hl]
  unfold getP
  rw [h3, if_pos ⟨rfl, rfl, hr'⟩]
theorem getP_B {l : List UInt8} {f : EvP} (h : getP l = some f) : l = evBytes f ∧ rightEB f = true ∧ EvShape f ∧ canE f := by
  unfold getP at h
  split at h
  · rename_i hc
    injection h with h
    obtain ⟨h1, h2, h3⟩ := hc
    rw [h] at h3
    obtain ⟨E2, hsu⟩ := outPP_B (st := (actPP (l, false)).1) h1
    obtain ⟨E1, hcan, hsh⟩ := actPP_B (st := (l, false)) E2.a
    have E := E1.trans E2
    have hnil : (outPP (actPP (l, false)).1).1.1 = [] := List.eq_nil_of_length_eq_zero h2
    have hq := E.eq
    rw [hnil, List.append_nil] at hq
    subst h
    refine ⟨?_, h3, ⟨hsh, hsu⟩, hcan⟩
    rw [evBytes_split]
    exact hq
  · cases h
/-- The document's Get and the program's. -/
theorem getP_is (l : List UInt8) : getP l = evGetS l := by
  rcases h : getP l with _ | f
  · rcases h2 : evGetS l with _ | d
    · rfl
    · obtain ⟨e1, e2, e3, e4⟩ := evGet_B h2
      rw [e1, getP_F e3 e2 e4] at h
      cases h
  · obtain ⟨e1, e2, e3, e4⟩ := getP_B h
    rw [e1, evGet_F e3 e2 e4]
end Go.Proofs.Ytgohhojoahlfiaa
