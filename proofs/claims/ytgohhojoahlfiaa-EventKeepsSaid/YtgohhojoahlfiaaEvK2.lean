/- An event's bytes, read: there and back, and never of a part, 2. No program in sight. -/
import Derived.Test.YtgohhojoahlfiaaEvG
namespace Go.Proofs.Ytgohhojoahlfiaa
open Go.RowKit
set_option linter.unusedVariables false
set_option linter.unusedSimpArgs false

def canA (a : ActP) : Prop := wbits a.owt = a.owt ∧ canB a.back
def canE (e : EvP) : Prop := canA e.act
theorem wbits0 : wbits 0 = 0 := by decide
theorem canB0 : canB back0 := wbits0
theorem sameBack_eq {a b : BackP} (h : sameBackB a b = true) (ha : canB a) (hb : canB b) : a = b := by
  simp only [sameBackB, Bool.and_eq_true, beq_iff_eq] at h
  obtain ⟨h1, h2, h3, h4, h5, h6⟩ := h
  unfold canB at ha hb
  rw [ha, hb] at h5
  cases a
  cases b
  simp_all
theorem sameAct_eq {a b : ActP} (h : sameActB a b = true) (ha : canA a) (hb : canA b) : a = b := by
  simp only [sameActB, Bool.and_eq_true, beq_iff_eq] at h
  obtain ⟨h1, h2, h3, h4, h5, h6, h7, h8⟩ := h
  rw [ha.1, hb.1] at h5
  have h6 := sameBack_eq h6 ha.2 hb.2
  cases a
  cases b
  simp_all
theorem only_can {a : ActP} (h : canA a) : canA (onlyA a) := by
  unfold onlyA
  split
  · exact ⟨wbits0, canB0⟩
  · split
    · split
      · exact ⟨wbits0, h.2⟩
      · split
        · exact ⟨h.1, canB0⟩
        · exact ⟨wbits0, canB0⟩
    · split
      · exact ⟨wbits0, canB0⟩
      · exact ⟨wbits0, canB0⟩
theorem plain_only {a : ActP} (h : plainB a = true) (hc : canA a) : a = onlyA a := by
  simp only [plainB, Bool.and_eq_true] at h
  exact sameAct_eq h.2.2.1 hc (only_can hc)
theorem back0_told : toldB back0 = true := by decide
section
variable {l : List UInt8} {s : St} {r : List UInt8} {bad : Bool}
theorem one_F {z : Int} (h0 : 0 ≤ z) (h1 : z ≤ 255) (h : s.2.2 = 0) (hl : s.1 ≤ l.length) (e : l.drop s.1 = putS 1 z.toNat true ++ r) : ∃ k : Nat, numS l s 1 true = (adv s (putS 1 z.toNat true).length, k) ∧ (k : Int) = z := by
  refine ⟨_, num_F (n := 1) h hl (by rw [putS_length]; rfl) (by rw [putS_length]; decide) (by rw [putS_length]; decide) true e, ?_⟩
  rw [getS_putS (by omega)]
  omega
theorem one_B (h : (numS l s 1 true).1.2.2 = 0) : Eats l s (putS 1 ((numS l s 1 true).2 : Int).toNat true) (numS l s 1 true).1 := by
  obtain ⟨x, hx, he, ev⟩ := num_B (n := 1) (by decide) (by decide) true h
  rw [ev, num_onep hx]
  exact he
theorem act_F {a : ActP} (hs : ActShape a) (hp : plainB a = true) (hc : canA a) (h : s.2.2 = 0) (hl : s.1 ≤ l.length) (e : l.drop s.1 = actBytes a ++ r) : actS l s bad = (adv s (actBytes a).length, bad, a) := by
  have ho := plain_only hp hc
  simp only [plainB, Bool.and_eq_true, decide_eq_true_eq, inZ_iff] at hp
  obtain ⟨⟨hk1, hk4⟩, hop, _, hfr, hon, hnm, hbt⟩ := hp
  unfold actBytes at e
  rw [List.append_assoc] at e
  obtain ⟨k, hk, hkz⟩ := one_F (by omega) (by omega) h hl e
  have E1 := Eats.of h hl e
  have e1 := E1.rest e
  unfold actS
  simp only [hk]
  rw [hkz]
  by_cases k1 : a.kind = 1
  · rw [if_pos k1] at e1 ⊢
    have h2 := text_F (m := 131072) E1.ok' E1.le' (by omega) (by omega) e1
    have hA : a = { act0 with kind := a.kind, frame := a.frame } := by
      have := ho
      unfold onlyA at this
      rw [if_pos k1] at this
      exact this
    simp only [h2]
    refine Prod.ext ?_ (Prod.ext rfl hA.symm)
    simp only [adv_adv, actBytes, if_pos k1, List.length_append]
  · rw [if_neg k1] at e1 ⊢
    by_cases k2 : a.kind = 2
    · rw [if_pos k2] at e1 ⊢
      have hoz : 1 ≤ a.op ∧ a.op ≤ 5 := by
        rw [k2] at hop
        simp only [bne_self_eq_false, Bool.false_or] at hop
        exact inZ_iff.1 hop
      rw [List.append_assoc] at e1
      obtain ⟨j, hj, hjz⟩ := one_F (by omega) (by omega) E1.ok' E1.le' e1
      have E2 := Eats.of E1.ok' E1.le' e1
      have e2 := E2.rest e1
      simp only [hj]
      rw [hjz]
      by_cases k3 : a.op = 1
      · rw [if_pos k3] at e2 ⊢
        have h3 := back_F (bad := bad) hs.back hbt hc.2 E2.ok' E2.le' e2
        have hA : a = { act0 with kind := a.kind, op := a.op, back := a.back } := by
          have := ho
          unfold onlyA at this
          rw [if_neg k1, if_pos k2, if_pos k3] at this
          exact this
        simp only [h3]
        refine Prod.ext ?_ (Prod.ext rfl hA.symm)
        simp only [adv_adv, actBytes, if_neg k1, if_pos k2, if_pos k3, List.length_append, Nat.add_assoc]
      · rw [if_neg k3] at e2 ⊢
        rw [List.append_assoc] at e2
        have h3 := text_F (m := 255) E2.ok' E2.le' (by omega) (by omega) e2
        have E3 := Eats.of E2.ok' E2.le' e2
        have e3 := E3.rest e2
        simp only [h3]
        by_cases k4 : a.op = 3
        · rw [if_pos k4] at e3 ⊢
          have h4 := weight_F (bad := bad) E3.ok' E3.le' hs.owt hc.1 e3
          have hA : a = { act0 with kind := a.kind, op := a.op, oname := a.oname, owt := a.owt } := by
            have := ho
            unfold onlyA at this
            rw [if_neg k1, if_pos k2, if_neg k3, if_pos k4] at this
            exact this
          simp only [h4]
          refine Prod.ext ?_ (Prod.ext rfl hA.symm)
          simp only [adv_adv, actBytes, if_neg k1, if_pos k2, if_neg k3, if_pos k4, List.length_append, Nat.add_assoc]
        · rw [if_neg k4] at ⊢
          have hA : a = { act0 with kind := a.kind, op := a.op, oname := a.oname } := by
            have := ho
            unfold onlyA at this
            rw [if_neg k1, if_pos k2, if_neg k3, if_neg k4] at this
            exact this
          refine Prod.ext ?_ (Prod.ext rfl hA.symm)
          simp only [adv_adv, actBytes, if_neg k1, if_pos k2, if_neg k3, if_neg k4, List.length_append, List.length_nil, Nat.add_zero, Nat.add_assoc]
    · rw [if_neg k2] at e1 ⊢
      by_cases k3 : a.kind = 3
      · rw [if_pos k3] at e1 ⊢
        rw [List.append_assoc] at e1
        have h3 := text_F (m := 255) E1.ok' E1.le' (by omega) (by omega) e1
        have E3 := Eats.of E1.ok' E1.le' e1
        have e3 := E3.rest e1
        have h4 := flag_F (bad := bad) E3.ok' E3.le' e3
        have hA : a = { act0 with kind := a.kind, name := a.name, well := a.well } := by
          have := ho
          unfold onlyA at this
          rw [if_neg k1, if_neg k2, if_pos k3] at this
          exact this
        simp only [h3, h4]
        refine Prod.ext ?_ (Prod.ext rfl hA.symm)
        simp only [adv_adv, actBytes, if_neg k1, if_neg k2, if_pos k3, List.length_append, Nat.add_assoc]
      · rw [if_neg k3] at ⊢
        have hA : a = { act0 with kind := a.kind } := by
          have := ho
          unfold onlyA at this
          rw [if_neg k1, if_neg k2, if_neg k3] at this
          exact this
        refine Prod.ext ?_ (Prod.ext rfl hA.symm)
        simp only [adv_adv, actBytes, if_neg k1, if_neg k2, if_neg k3, List.length_append, List.length_nil, Nat.add_zero]
theorem okE {x : List UInt8} {s' : St} (ok : okS l s) (E : Eats l s x s') : okS l s' := ⟨E.le', by rw [E.at_]; exact ok.2.1, by rw [E.ok']; decide⟩
theorem act_B (ok : okS l s) (h : (actS l s bad).1.2.2 = 0) (hb : (actS l s bad).2.1 = false) : bad = false ∧ Eats l s (actBytes (actS l s bad).2.2) (actS l s bad).1 ∧ canA (actS l s bad).2.2 := by
  rcases h1 : numS l s 1 true with ⟨s1, k⟩
  have B1 := one_B (l := l) (s := s)
  rw [h1] at B1
  simp only at B1
  by_cases k1 : (k : Int) = 1
  · rcases h2 : textS l s1 131072 with ⟨s2, fr⟩
    have hA : actS l s bad = (s2, bad, { act0 with kind := (k : Int), frame := fr }) := by
      unfold actS
      simp only [h1, h2, if_pos k1]
    rw [hA] at h hb ⊢
    simp only at h hb ⊢
    have ok1 : okS l s1 := by have := ok_num ok 1 true; rw [h1] at this; exact this
    have F2 := text_B (l := l) (s := s1) (m := 131072) (by rw [h2]; exact h) ok1.1
    rw [h2] at F2
    refine ⟨hb, ?_, wbits0, canB0⟩
    have E1 := B1 F2.1.ok
    simp only [actBytes, if_pos k1]
    exact E1.trans F2.1
  · by_cases k2 : (k : Int) = 2
    · rcases h2 : numS l s1 1 true with ⟨s2, j⟩
      have B2 := one_B (l := l) (s := s1)
      rw [h2] at B2
      simp only at B2
      have ok1 : okS l s1 := by have := ok_num ok 1 true; rw [h1] at this; exact this
      have ok2 : okS l s2 := by have := ok_num ok1 1 true; rw [h2] at this; exact this
      by_cases k3 : (j : Int) = 1
      · rcases h3 : backS l s2 bad with ⟨s3, b3, bk⟩
        have hA : actS l s bad = (s3, b3, { act0 with kind := (k : Int), op := (j : Int), back := bk }) := by
          unfold actS
          simp only [h1, h2, h3, if_neg k1, if_pos k2, if_pos k3]
        rw [hA] at h hb ⊢
        simp only at h hb ⊢
        have F3 := back_B (l := l) (s := s2) (bad := bad) ok2 (by rw [h3]; exact h) (by rw [h3]; exact hb)
        rw [h3] at F3
        obtain ⟨hbad, E3, _, hcb, _⟩ := F3
        have E2 := B2 E3.ok
        have E1 := B1 E2.ok
        refine ⟨hbad, ?_, wbits0, hcb⟩
        simp only [actBytes, if_neg k1, if_pos k2, if_pos k3]
        exact E1.trans (E2.trans E3)
      · rcases h3 : textS l s2 255 with ⟨s3, nm⟩
        by_cases k4 : (j : Int) = 3
        · rcases h4 : weightS l s3 bad with ⟨s4, b4, wt⟩
          have hA : actS l s bad = (s4, b4, { act0 with kind := (k : Int), op := (j : Int), oname := nm, owt := wt }) := by
            unfold actS
            simp only [h1, h2, h3, h4, if_neg k1, if_pos k2, if_neg k3, if_pos k4]
          rw [hA] at h hb ⊢
          simp only at h hb ⊢
          have F4 := weight_B (l := l) (s := s3) (bad := bad) (by rw [h4]; exact h) (by rw [h4]; exact hb)
          rw [h4] at F4
          obtain ⟨hbad, E4, hcw⟩ := F4
          have F3 := text_B (l := l) (s := s2) (m := 255) (by rw [h3]; exact E4.ok) ok2.1
          rw [h3] at F3
          have E2 := B2 F3.1.ok
          have E1 := B1 E2.ok
          refine ⟨hbad, ?_, hcw, canB0⟩
          simp only [actBytes, if_neg k1, if_pos k2, if_neg k3, if_pos k4]
          exact E1.trans (E2.trans (F3.1.trans E4))
        · have hA : actS l s bad = (s3, bad, { act0 with kind := (k : Int), op := (j : Int), oname := nm }) := by
            unfold actS
            simp only [h1, h2, h3, if_neg k1, if_pos k2, if_neg k3, if_neg k4]
          rw [hA] at h hb ⊢
          simp only at h hb ⊢
          have F3 := text_B (l := l) (s := s2) (m := 255) (by rw [h3]; exact h) ok2.1
          rw [h3] at F3
          have E2 := B2 F3.1.ok
          have E1 := B1 E2.ok
          refine ⟨hb, ?_, wbits0, canB0⟩
          simp only [actBytes, if_neg k1, if_pos k2, if_neg k3, if_neg k4, List.append_nil]
          exact E1.trans (E2.trans F3.1)
    · by_cases k3 : (k : Int) = 3
      · rcases h2 : textS l s1 255 with ⟨s2, nm⟩
        rcases h3 : flagS l s2 bad with ⟨s3, b3, we⟩
        have ok1 : okS l s1 := by have := ok_num ok 1 true; rw [h1] at this; exact this
        have hA : actS l s bad = (s3, b3, { act0 with kind := (k : Int), name := nm, well := we }) := by
          unfold actS
          simp only [h1, h2, h3, if_neg k1, if_neg k2, if_pos k3]
        rw [hA] at h hb ⊢
        simp only at h hb ⊢
        have F3 := flag_B (l := l) (s := s2) (bad := bad) (by rw [h3]; exact h) (by rw [h3]; exact hb)
        rw [h3] at F3
        obtain ⟨hbad, E3⟩ := F3
        have F2 := text_B (l := l) (s := s1) (m := 255) (by rw [h2]; exact E3.ok) ok1.1
        rw [h2] at F2
        have E1 := B1 F2.1.ok
        refine ⟨hbad, ?_, wbits0, canB0⟩
        simp only [actBytes, if_neg k1, if_neg k2, if_pos k3]
        exact E1.trans (F2.1.trans E3)
      · have hA : actS l s bad = (s1, bad, { act0 with kind := (k : Int) }) := by
          unfold actS
          simp only [h1, if_neg k1, if_neg k2, if_neg k3]
        rw [hA] at h hb ⊢
        simp only at h hb ⊢
        refine ⟨hb, ?_, wbits0, canB0⟩
        simp only [actBytes, if_neg k1, if_neg k2, if_neg k3, List.append_nil]
        exact B1 h
end

/-! An event. -/
/-- What is read ahead of the end. -/
def evRd (l : List UInt8) : St × Bool × EvP :=
  let t0 := actS l (0, 0, 0) false
  let t1 := numS l t0.1 1 true
  let t2 := numS l t1.1 1 true
  let t3 := flagS l t2.1 t0.2.1
  let t4 := varS l t3.1
  let t5 := textS l t4.1 255
  let t6 := varS l t5.1
  let t7 := numS l t6.1 4 false
  (t7.1, t3.2.1, { act := t0.2.2, o := { err := (t1.2 : Int), reason := (t2.2 : Int), hit := t3.2.2, version := ((min t4.2 1099511627777 : Nat) : Int), name := t5.2, out := [] }, len := ((min t6.2 262145 : Nat) : Int), sum := t7.2 })
theorem evS_is (l : List UInt8) : evS l = (endS l (evRd l).1, (evRd l).2) := by
  rcases h0 : actS l (0, 0, 0) false with ⟨s0, b0, ac⟩
  rcases h1 : numS l s0 1 true with ⟨s1, q1⟩
  rcases h2 : numS l s1 1 true with ⟨s2, q2⟩
  rcases h3 : flagS l s2 b0 with ⟨s3, b3, hit⟩
  rcases h4 : varS l s3 with ⟨s4, v4⟩
  rcases h5 : textS l s4 255 with ⟨s5, nm⟩
  rcases h6 : varS l s5 with ⟨s6, v6⟩
  rcases h7 : numS l s6 4 false with ⟨s7, q7⟩
  unfold evS evRd
  simp only [h0, h1, h2, h3, h4, h5, h6, h7]
theorem ok_flag {l : List UInt8} {s : St} {bad : Bool} (ok : okS l s) : okS l (flagS l s bad).1 := ok_num ok 1 true
theorem ok_weight {l : List UInt8} {s : St} {bad : Bool} (ok : okS l s) : okS l (weightS l s bad).1 := ok_take ok 8
theorem ok_back {l : List UInt8} {s : St} {bad : Bool} (ok : okS l s) : okS l (backS l s bad).1 := by
  rcases h1 : textS l s 255 with ⟨s1, nm⟩
  rcases h2 : flagS l s1 bad with ⟨s2, b2, sx⟩
  rcases h3 : takeS l s2 16 with ⟨s3, ad⟩
  rcases h4 : numS l s3 2 true with ⟨s4, po⟩
  rcases h5 : takeS l s4 6 with ⟨s5, mc⟩
  rcases h6 : weightS l s5 b2 with ⟨s6, b6, wt⟩
  rcases h7 : flagS l s6 b6 with ⟨s7, b7, dr⟩
  unfold backS
  simp only [h1, h2, h3, h4, h5, h6, h7]
  have o1 := ok_text ok 255
  rw [h1] at o1
  have o2 := ok_flag (bad := bad) o1
  rw [h2] at o2
  have o3 := ok_take o2 16
  rw [h3] at o3
  have o4 := ok_num o3 2 true
  rw [h4] at o4
  have o5 := ok_take o4 6
  rw [h5] at o5
  have o6 := ok_weight (bad := b2) o5
  rw [h6] at o6
  have o7 := ok_flag (bad := b6) o6
  rw [h7] at o7
  exact o7
theorem act_parts (l : List UInt8) (s : St) (bad : Bool) (Q : St → Bool → ActP → Prop)
    (h1 : Q (textS l (numS l s 1 true).1 131072).1 bad { act0 with kind := ((numS l s 1 true).2 : Int), frame := (textS l (numS l s 1 true).1 131072).2 })
    (h2 : Q (backS l (numS l (numS l s 1 true).1 1 true).1 bad).1 (backS l (numS l (numS l s 1 true).1 1 true).1 bad).2.1 { act0 with kind := ((numS l s 1 true).2 : Int), op := ((numS l (numS l s 1 true).1 1 true).2 : Int), back := (backS l (numS l (numS l s 1 true).1 1 true).1 bad).2.2 })
    (h3 : Q (weightS l (textS l (numS l (numS l s 1 true).1 1 true).1 255).1 bad).1 (weightS l (textS l (numS l (numS l s 1 true).1 1 true).1 255).1 bad).2.1 { act0 with kind := ((numS l s 1 true).2 : Int), op := ((numS l (numS l s 1 true).1 1 true).2 : Int), oname := (textS l (numS l (numS l s 1 true).1 1 true).1 255).2, owt := (weightS l (textS l (numS l (numS l s 1 true).1 1 true).1 255).1 bad).2.2 })
    (h4 : Q (textS l (numS l (numS l s 1 true).1 1 true).1 255).1 bad { act0 with kind := ((numS l s 1 true).2 : Int), op := ((numS l (numS l s 1 true).1 1 true).2 : Int), oname := (textS l (numS l (numS l s 1 true).1 1 true).1 255).2 })
    (h5 : Q (flagS l (textS l (numS l s 1 true).1 255).1 bad).1 (flagS l (textS l (numS l s 1 true).1 255).1 bad).2.1 { act0 with kind := ((numS l s 1 true).2 : Int), name := (textS l (numS l s 1 true).1 255).2, well := (flagS l (textS l (numS l s 1 true).1 255).1 bad).2.2 })
    (h6 : Q (numS l s 1 true).1 bad { act0 with kind := ((numS l s 1 true).2 : Int) }) : Q (actS l s bad).1 (actS l s bad).2.1 (actS l s bad).2.2 := by
  unfold actS
  by_cases k1 : ((numS l s 1 true).2 : Int) = 1
  · simp only [if_pos k1]; exact h1
  · simp only [if_neg k1]
    by_cases k2 : ((numS l s 1 true).2 : Int) = 2
    · simp only [if_pos k2]
      by_cases k3 : ((numS l (numS l s 1 true).1 1 true).2 : Int) = 1
      · simp only [if_pos k3]; exact h2
      · simp only [if_neg k3]
        by_cases k4 : ((numS l (numS l s 1 true).1 1 true).2 : Int) = 3
        · simp only [if_pos k4]; exact h3
        · simp only [if_neg k4]; exact h4
    · simp only [if_neg k2]
      by_cases k3 : ((numS l s 1 true).2 : Int) = 3
      · simp only [if_pos k3]; exact h5
      · simp only [if_neg k3]; exact h6
theorem ok_act {l : List UInt8} {s : St} {bad : Bool} (ok : okS l s) : okS l (actS l s bad).1 := by
  have ok1 := ok_num ok 1 true
  have ok2 := ok_num ok1 1 true
  have a1 := ok_text ok1 131072
  have a3 := ok_text ok2 255
  have a5 := ok_text ok1 255
  have a2 := ok_back (bad := bad) ok2
  have a4 := ok_weight (bad := bad) a3
  have a6 := ok_flag (bad := bad) a5
  exact act_parts l s bad (fun x _ _ => okS l x) a1 a2 a4 a3 a6 ok1
theorem act_shapeS (l : List UInt8) (s : St) (bad : Bool) : ActShape (actS l s bad).2.2 := by
  have h0 : (0 : Nat) < 18446744073709551616 := by decide
  exact act_parts l s bad (fun _ _ x => ActShape x) ⟨back0_shape, h0⟩ ⟨back_shape _ _ _, h0⟩ ⟨back0_shape, wget_lt _⟩ ⟨back0_shape, h0⟩ ⟨back0_shape, h0⟩ ⟨back0_shape, h0⟩
section
variable {l r : List UInt8}
theorem evRd_F {e : EvP} (hs : EvShape e) (hr : rightEB e = true) (hc : canE e) (h : l = evBytes e ++ r) : evRd l = (adv (0, 0, 0) (evBytes e).length, false, e) := by
  simp only [rightEB, Bool.and_eq_true, decide_eq_true_eq, inZ_iff] at hr
  obtain ⟨hp, ⟨he0, he9⟩, ⟨hr0, hr9⟩, ⟨hv0, hv9⟩, hn, ho, hl0, hl9⟩ := hr
  have e0 : l.drop ((0, 0, 0) : St).1 = actBytes e.act ++ (putS 1 e.o.err.toNat true ++ (putS 1 e.o.reason.toNat true ++ (flagB e.o.hit ++ (vput e.o.version.toNat ++ (textB e.o.name ++ (vput e.len.toNat ++ (putS 4 e.sum false ++ r))))))) := by
    rw [h]
    simp [evBytes, List.append_assoc]
  have h0 := act_F (bad := false) hs.act hp hc (s := (0, 0, 0)) rfl (Nat.zero_le _) e0
  have E0 := Eats.of (s := (0, 0, 0)) rfl (Nat.zero_le _) e0
  have e1 := E0.rest e0
  obtain ⟨k1, h1, z1⟩ := one_F he0 (by omega) E0.ok' E0.le' e1
  have E1 := Eats.of E0.ok' E0.le' e1
  have e2 := E1.rest e1
  obtain ⟨k2, h2, z2⟩ := one_F hr0 (by omega) E1.ok' E1.le' e2
  have E2 := Eats.of E1.ok' E1.le' e2
  have e3 := E2.rest e2
  have h3 := flag_F (bad := false) E2.ok' E2.le' e3
  have E3 := Eats.of E2.ok' E2.le' e3
  have e4 := E3.rest e3
  have h4 := var_F E3.ok' E3.le' (by omega) e4
  have E4 := Eats.of E3.ok' E3.le' e4
  have e5 := E4.rest e4
  have h5 := text_F (m := 255) E4.ok' E4.le' (by omega) (by omega) e5
  have E5 := Eats.of E4.ok' E4.le' e5
  have e6 := E5.rest e5
  have h6 := var_F E5.ok' E5.le' (by omega) e6
  have E6 := Eats.of E5.ok' E5.le' e6
  have e7 := E6.rest e6
  have h7 := num_F (n := 4) E6.ok' E6.le' (by rw [putS_length]; rfl) (by rw [putS_length]; decide) (by rw [putS_length]; decide) false e7
  have hsum := hs.sum
  rw [getS_putS (by omega)] at h7
  unfold evRd
  simp only [h0, h1, h2, h3, h4, h5, h6, h7]
  refine Prod.ext ?_ (Prod.ext rfl ?_)
  · simp only [adv_adv, evBytes, List.length_append, Nat.add_assoc]
  · have m4 : ((min e.o.version.toNat 1099511627777 : Nat) : Int) = e.o.version := by omega
    have m6 : ((min e.len.toNat 262145 : Nat) : Int) = e.len := by omega
    simp only [z1, z2, m4, m6]
    have hout : e.o.out = [] := List.eq_nil_of_length_eq_zero ho
    rw [← hout]
theorem evGet_F {e : EvP} (hs : EvShape e) (hr : rightEB e = true) (hc : canE e) : evGetS (evBytes e) = some e := by
  have h := evRd_F (r := []) hs hr hc (by rw [List.append_nil] : evBytes e = evBytes e ++ [])
  unfold evGetS
  rw [evS_is, h]
  simp only
  rw [endS_F (by simp [adv]), if_pos]
  rw [hr]
  rfl
theorem evGet_B {f : EvP} (h : evGetS l = some f) : l = evBytes f ∧ rightEB f = true ∧ EvShape f ∧ canE f := by
  unfold evGetS at h
  split at h
  · rename_i hc
    injection h with h
    rw [Bool.and_eq_true] at hc
    obtain ⟨hok, hr⟩ := hc
    rw [h] at hr
    unfold okayB at hok
    simp only [Bool.and_eq_true, Bool.not_eq_true', decide_eq_true_eq] at hok
    obtain ⟨hbad, _, hz⟩ := hok
    rw [evS_is] at hbad hz h
    simp only at hbad hz h
    obtain ⟨hge, hend⟩ := endS_B hz
    rw [hend] at hz
    have ok0 : okS l (0, 0, 0) := ⟨Nat.zero_le _, Nat.zero_le _, Nat.zero_le _⟩
    rcases h0 : actS l (0, 0, 0) false with ⟨s0, b0, ac⟩
    rcases h1 : numS l s0 1 true with ⟨s1, q1⟩
    rcases h2 : numS l s1 1 true with ⟨s2, q2⟩
    rcases h3 : flagS l s2 b0 with ⟨s3, b3, hit⟩
    rcases h4 : varS l s3 with ⟨s4, v4⟩
    rcases h5 : textS l s4 255 with ⟨s5, nm⟩
    rcases h6 : varS l s5 with ⟨s6, v6⟩
    rcases h7 : numS l s6 4 false with ⟨s7, q7⟩
    have hA : evRd l = (s7, b3, { act := ac, o := { err := (q1 : Int), reason := (q2 : Int), hit := hit, version := ((min v4 1099511627777 : Nat) : Int), name := nm, out := [] }, len := ((min v6 262145 : Nat) : Int), sum := q7 }) := by
      unfold evRd
      simp only [h0, h1, h2, h3, h4, h5, h6, h7]
    rw [hA] at hbad hz hge h
    simp only at hbad hz hge h
    subst h
    simp only [rightEB, Bool.and_eq_true, decide_eq_true_eq, inZ_iff] at hr
    have hr' := hr
    obtain ⟨hp, he, hre, ⟨hv0, hv9⟩, hn, ho, hl0, hl9⟩ := hr'
    have okA : okS l s0 := by
      have := ok_act (l := l) (bad := false) ok0
      rw [h0] at this
      exact this
    have ok1 : okS l s1 := by have := ok_num okA 1 true; rw [h1] at this; exact this
    have ok2 : okS l s2 := by have := ok_num ok1 1 true; rw [h2] at this; exact this
    have ok3 : okS l s3 := by have := ok_num ok2 1 true; unfold flagS at h3; injection h3 with h3; rw [← h3]; exact this
    have ok4 : okS l s4 := by have := ok_var ok3; rw [h4] at this; exact this
    have ok5 : okS l s5 := by have := ok_text ok4 255; rw [h5] at this; exact this
    obtain ⟨x7, hx7, E7, y7⟩ := num_B (l := l) (s := s6) (n := 4) (by decide) (by decide) false (by rw [h7]; exact hz)
    rw [h7] at E7 y7
    simp only at E7 y7
    have F6 := var_B (l := l) (s := s5) (by rw [h6]; exact E7.ok) ok5.1
    rw [h6] at F6
    obtain ⟨_, E6⟩ := F6
    have F5 := text_B (l := l) (s := s4) (m := 255) (by rw [h5]; exact E6.ok) ok4.1
    rw [h5] at F5
    obtain ⟨E5, _⟩ := F5
    have F4 := var_B (l := l) (s := s3) (by rw [h4]; exact E5.ok) ok3.1
    rw [h4] at F4
    obtain ⟨_, E4⟩ := F4
    have F3 := flag_B (l := l) (s := s2) (bad := b0) (by rw [h3]; exact E4.ok) (by rw [h3]; exact hbad)
    rw [h3] at F3
    obtain ⟨hb0, E3⟩ := F3
    have E2 := one_B (l := l) (s := s1) (by rw [h2]; exact E3.ok)
    rw [h2] at E2
    have E1 := one_B (l := l) (s := s0) (by rw [h1]; exact E2.ok)
    rw [h1] at E1
    have F0 := act_B (l := l) (s := (0, 0, 0)) (bad := false) ok0 (by rw [h0]; exact E1.ok) (by rw [h0]; exact hb0)
    rw [h0] at F0
    obtain ⟨_, E0, hcan⟩ := F0
    simp only at E6 E5 E4 E3 E2 E1 E0 hcan
    have hsh0 := act_shapeS l (0, 0, 0) false
    rw [h0] at hsh0
    have m4 : ((min v4 1099511627777 : Nat) : Int) = (v4 : Int) := by omega
    have m6 : ((min v6 262145 : Nat) : Int) = (v6 : Int) := by omega
    have hx7' : x7.length = 4 := hx7
    have hq7 : q7 < 4294967296 := by have := num_le4 l s6; rw [h7] at this; exact this
    have hput : putS 4 q7 false = x7 := by
      rw [y7]
      have := putS_getS x7 false
      rw [hx7'] at this
      exact this
    refine ⟨?_, ?_, ⟨hsh0, hq7⟩, hcan⟩
    · have E := E0.trans (E1.trans (E2.trans (E3.trans (E4.trans (E5.trans (E6.trans E7))))))
      have hE := E.eq
      have hto := E.to
      rw [hto] at hge
      simp only [adv, Nat.zero_add] at hge hE
      rw [List.drop_zero, List.drop_of_length_le hge, List.append_nil] at hE
      unfold evBytes
      simp only [m4, m6, Int.toNat_natCast, hput]
      exact hE
    · simp only [rightEB, Bool.and_eq_true, decide_eq_true_eq, inZ_iff]
      exact hr
  · cases h
theorem evGet_iff {f : EvP} : evGetS l = some f ↔ l = evBytes f ∧ rightEB f = true ∧ EvShape f ∧ canE f :=
  ⟨evGet_B, fun ⟨h1, h2, h3, h4⟩ => by rw [h1]; exact evGet_F h3 h2 h4⟩
theorem ev_prefix {e d : EvP} {r' : List UInt8} (hs : EvShape e) (hr : rightEB e = true) (hc : canE e) (hs' : EvShape d) (hr' : rightEB d = true) (hc' : canE d) (h : evBytes e ++ r = evBytes d ++ r') : e = d ∧ r = r' := by
  have h1 := evRd_F hs hr hc (l := evBytes e ++ r) (r := r) rfl
  have h2 := evRd_F hs' hr' hc' h
  rw [h1] at h2
  simp only [Prod.mk.injEq] at h2
  obtain ⟨_, _, rfl⟩ := h2
  exact ⟨rfl, List.append_cancel_left h⟩
end
/-- The event that comes back: its weights as they are told. -/
def normB (b : BackP) : BackP := { b with wt := wbits b.wt }
def normA (a : ActP) : ActP := { a with back := normB a.back, owt := wbits a.owt }
def normE (e : EvP) : EvP := { e with act := normA e.act }
theorem norm_can (e : EvP) : canE (normE e) := ⟨wbits_idem _, wbits_idem _⟩
theorem norm_shape {e : EvP} (h : EvShape e) : EvShape (normE e) := ⟨⟨⟨h.act.back.addr, h.act.back.mac, wbits_lt h.act.back.wt⟩, wbits_lt h.act.owt⟩, h.sum⟩
theorem norm_wput (n : Nat) : wput (wbits n) = wput n := by unfold wput; rw [wbits_idem]
theorem norm_bytes (e : EvP) : evBytes (normE e) = evBytes e := by
  unfold evBytes normE actBytes normA backBytes normB
  simp only [norm_wput]
theorem norm_same (e : EvP) : sameEvB (normE e) e = true := by
  simp [sameEvB, sameActB, sameBackB, normE, normA, normB, wbits_idem]
theorem norm_plain (a : ActP) : plainB (normA a) = plainB a := by
  have h : sameActB (normA a) (onlyA (normA a)) = sameActB a (onlyA a) := by
    unfold onlyA normA
    simp only
    split
    · simp [sameActB, sameBackB, normB, wbits_idem]
    · split
      · split
        · simp [sameActB, sameBackB, normB, wbits_idem]
        · split
          · simp [sameActB, sameBackB, normB, wbits_idem]
          · simp [sameActB, sameBackB, normB, wbits_idem]
      · split
        · simp [sameActB, sameBackB, normB, wbits_idem]
        · simp [sameActB, sameBackB, normB, wbits_idem]
  unfold plainB
  rw [h]
  rfl
theorem norm_right (e : EvP) : rightEB (normE e) = rightEB e := by
  unfold rightEB
  rw [show (normE e).act = normA e.act from rfl, norm_plain]
  rfl
/-- What is laid is read, its weights as they are told. -/
theorem evGet_own {e : EvP} (hs : EvShape e) (hr : rightEB e = true) : evGetS (evBytes e) = some (normE e) := by
  rw [← norm_bytes]
  exact evGet_F (norm_shape hs) (by rw [norm_right]; exact hr) (norm_can e)
theorem evGet_cut {e : EvP} (hs : EvShape e) (hr : rightEB e = true) {k : Nat} (hk : k < (evBytes e).length) : evGetS ((evBytes e).take k) = none := by
  rcases h : evGetS ((evBytes e).take k) with _ | d
  · rfl
  · obtain ⟨h1, h2, h3, h4⟩ := evGet_B h
    have h5 := ev_prefix (e := d) (d := normE e) (r := (evBytes e).drop k) (r' := []) h3 h2 h4 (norm_shape hs) (by rw [norm_right]; exact hr) (norm_can e) (by rw [← h1, List.take_append_drop, List.append_nil, norm_bytes])
    have h6 := congrArg List.length h5.2
    rw [List.length_drop, List.length_nil] at h6
    omega
theorem evGet_more {e : EvP} (hs : EvShape e) (hr : rightEB e = true) {r : List UInt8} (hne : r ≠ []) : evGetS (evBytes e ++ r) = none := by
  rcases h : evGetS (evBytes e ++ r) with _ | d
  · rfl
  · obtain ⟨h1, h2, h3, h4⟩ := evGet_B h
    have h5 := ev_prefix (e := normE e) (d := d) (r := r) (r' := []) (norm_shape hs) (by rw [norm_right]; exact hr) (norm_can e) h3 h2 h4 (by rw [norm_bytes, h1, List.append_nil])
    exact absurd h5.2 hne
theorem evBytes_pos (e : EvP) : 0 < (evBytes e).length := by
  unfold evBytes
  have : (actBytes e.act).length ≠ 0 := by unfold actBytes; rw [List.length_append, putS_length]; omega
  rw [List.length_append]
  omega
end Go.Proofs.Ytgohhojoahlfiaa
