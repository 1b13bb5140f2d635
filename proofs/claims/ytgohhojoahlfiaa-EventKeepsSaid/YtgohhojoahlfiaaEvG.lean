/- An event's bytes, read: there and back, and never of a part. No program in sight. -/
import Derived.Test.YtgohhojoahlfiaaEvE
import Derived.Test.YtgohhojoahlfiaaEvN
namespace Go.Proofs.Ytgohhojoahlfiaa
open Go.RowKit
set_option linter.unusedVariables false
set_option linter.unusedSimpArgs false

theorem getS_putS {k m : Nat} (h : m < 256 ^ k) (big : Bool) : getS (putS k m big) big = m := by
  unfold getS putS
  cases big
  · simp only [Bool.false_eq_true, if_false]
    exact leB_val k m h
  · simp only [if_true]
    rw [beN_reverse]
    exact leB_val k m h
theorem putS_getS (l : List UInt8) (big : Bool) : putS l.length (getS l big) big = l := by
  unfold getS putS
  cases big
  · simp only [Bool.false_eq_true, if_false]
    exact leB_of_val
  · simp only [if_true]
    have e := beN_reverse l.reverse
    rw [List.reverse_reverse] at e
    have e2 := leB_of_val (l := l.reverse)
    rw [List.length_reverse, ← e] at e2
    rw [e2, List.reverse_reverse]
section
variable {l : List UInt8} {s : St} {x r : List UInt8} {bad : Bool}
theorem peek_B (h : (peekS l s).1.2.2 = 0) : ∃ n k, peekS l s = (s, n, k) ∧ s.2.2 = 0 ∧ vgetS (l.drop s.1) = (n, k, 0) := by
  have h0 : s.2.2 = 0 := by
    unfold peekS at h
    split at h
    · exact h
    · omega
  have hv : (vgetS (l.drop s.1)).2.2 = 0 := by
    unfold peekS at h
    rw [if_neg (by omega)] at h
    split at h
    · exact absurd h (failS_no (by assumption))
    · omega
  rcases hg : vgetS (l.drop s.1) with ⟨m, k, e⟩
  rw [hg] at hv
  simp only at hv
  subst hv
  refine ⟨m, k, ?_, h0, rfl⟩
  unfold peekS
  rw [if_neg (by omega), hg]
  simp
theorem text_F (h : s.2.2 = 0) (hl : s.1 ≤ l.length) {m : Int} (hm : (x.length : Int) ≤ m) (hx : x.length < 18446744073709551616) (e : l.drop s.1 = textB x ++ r) : textS l s m = (adv s (textB x).length, x) := by
  have hlen := congrArg List.length e
  rw [List.length_drop] at hlen
  unfold textB at e hlen ⊢
  rw [List.append_assoc] at e
  have hg : vgetS (l.drop s.1) = (x.length, (vput x.length).length, 0) := by rw [e]; exact vget_back _ hx _
  have hp : peekS l s = (s, x.length, (vput x.length).length) := by
    unfold peekS
    rw [if_neg (by omega), hg]
    simp
  unfold textS
  rw [hp]
  simp only
  rw [if_neg (by omega)]
  unfold cutS
  simp only [List.length_append] at hlen ⊢
  rw [if_neg (by omega), if_neg (by omega), ← List.drop_drop, e, List.drop_left, List.take_left]
  simp [adv, Nat.add_assoc]
theorem text_B {m : Int} (h : (textS l s m).1.2.2 = 0) (hl : s.1 ≤ l.length) : Eats l s (textB (textS l s m).2) (textS l s m).1 ∧ ((textS l s m).2.length : Int) ≤ m := by
  unfold textS at h ⊢
  split at h
  · exact absurd h (failS_no (by decide))
  · rename_i h0
    rw [if_neg h0]
    have hp0 : (peekS l s).1.2.2 = 0 := by
      by_cases hz : (peekS l s).1.2.2 = 0
      · exact hz
      · unfold cutS at h
        rw [if_pos hz] at h
        exact h
    obtain ⟨n, k, hp, hs, hg⟩ := peek_B hp0
    obtain ⟨hn, hk1, hkl, hk, hv⟩ := vget_only hg
    rw [hp] at h h0 ⊢
    simp only at h h0 ⊢
    rw [List.length_drop] at hkl
    unfold cutS at h ⊢
    rw [if_neg (by omega)] at h ⊢
    split at h
    · exact absurd h (failS_no (by decide))
    · rename_i h1
      rw [if_neg h1]
      simp only
      have hxl : ((l.drop (s.1 + k)).take n).length = n := by rw [List.length_take, List.length_drop]; omega
      have e : l.drop s.1 = textB ((l.drop (s.1 + k)).take n) ++ l.drop (s.1 + k + n) := by
        unfold textB
        have d1 : l.drop (s.1 + k + n) = ((l.drop s.1).drop k).drop n := by rw [List.drop_drop, List.drop_drop, Nat.add_assoc]
        have d2 : l.drop (s.1 + k) = (l.drop s.1).drop k := by rw [List.drop_drop]
        rw [hxl, hv, d1, d2, List.append_assoc, List.take_append_drop, List.take_append_drop]
      have E := Eats.of hs hl e
      have hE : (textB ((l.drop (s.1 + k)).take n)).length = k + n := by unfold textB; rw [List.length_append, hxl, ← hk]
      rw [hE] at E
      refine ⟨?_, by rw [hxl]; omega⟩
      have ha : adv s (k + n) = (s.1 + k + n, s.2.1, s.2.2) := by simp [adv, Nat.add_assoc]
      rw [← ha]
      exact E
theorem flag_F (h : s.2.2 = 0) (hl : s.1 ≤ l.length) {b : Bool} (e : l.drop s.1 = flagB b ++ r) : flagS l s bad = (adv s (flagB b).length, bad, b) := by
  have hn := num_F (n := 1) h hl (by rw [flagB_len]; rfl) (by rw [flagB_len]; decide) (by rw [flagB_len]; decide) true e
  unfold flagS
  rw [hn]
  cases b
  · simp [flagB, getS_one]
  · simp [flagB, getS_one]
theorem flag_B (h : (flagS l s bad).1.2.2 = 0) (hb : (flagS l s bad).2.1 = false) : bad = false ∧ Eats l s (flagB (flagS l s bad).2.2) (flagS l s bad).1 := by
  unfold flagS at h hb ⊢
  obtain ⟨x, hx, he, ev⟩ := num_B (n := 1) (by decide) (by decide) true h
  obtain ⟨c, rfl⟩ := len_one hx
  rw [getS_one] at ev
  simp only [ev, Bool.or_eq_false_iff, decide_eq_false_iff_not] at hb ⊢
  refine ⟨hb.1, ?_⟩
  have hc : c = 0 ∨ c = 1 := by
    rcases (by omega : c.toNat = 0 ∨ c.toNat = 1) with h1 | h1
    · exact .inl (UInt8.toNat_inj.1 h1)
    · exact .inr (UInt8.toNat_inj.1 h1)
  rcases hc with rfl | rfl
  · exact he
  · exact he
theorem beN_wput {n : Nat} (hn : n < 18446744073709551616) (hc : wbits n = n) : beN (wput n) = n := by
  unfold wput
  rw [hc]
  exact getS_putS (k := 8) (m := n) (by omega) true
theorem weight_F (h : s.2.2 = 0) (hl : s.1 ≤ l.length) {n : Nat} (hn : n < 18446744073709551616) (hc : wbits n = n) (e : l.drop s.1 = wput n ++ r) : weightS l s bad = (adv s (wput n).length, bad, n) := by
  unfold weightS
  rw [take_F (n := 8) h hl (by rw [wput_len]; rfl) e]
  unfold wgetS
  simp only [beN_wput hn hc, wput_len, hc, and_self, if_true, Bool.not_true, Bool.or_false]
theorem weight_B (h : (weightS l s bad).1.2.2 = 0) (hb : (weightS l s bad).2.1 = false) : bad = false ∧ Eats l s (wput (weightS l s bad).2.2) (weightS l s bad).1 ∧ wbits (weightS l s bad).2.2 = (weightS l s bad).2.2 := by
  unfold weightS at h hb ⊢
  obtain ⟨x, hx, he, ev⟩ := take_B (n := 8) (by decide) h
  have hx8 : x.length = 8 := hx
  simp only [ev, Bool.or_eq_false_iff] at hb ⊢
  refine ⟨hb.1, ?_⟩
  have h2 := hb.2
  unfold wgetS at h2 ⊢
  by_cases hw : x.length = 8 ∧ wbits (beN x) = beN x
  · rw [if_pos hw]
    refine ⟨?_, hw.2⟩
    have : wput (beN x) = x := by
      unfold wput
      rw [hw.2]
      have := putS_getS x true
      rw [hx8] at this
      exact this
    simp only [this]
    exact he
  · rw [if_neg hw] at h2
    simp at h2

/-! A backend. -/
def canB (b : BackP) : Prop := wbits b.wt = b.wt
theorem putS_two {p : Int} (h : 0 ≤ p ∧ p ≤ 65535) : ((getS (putS 2 p.toNat true) true : Nat) : Int) = p := by
  rw [getS_putS (by omega)]
  omega
theorem back_F {b : BackP} (hs : BackShape b) (ht : toldB b = true) (hc : canB b) (h : s.2.2 = 0) (hl : s.1 ≤ l.length) (e : l.drop s.1 = backBytes b ++ r) : backS l s bad = (adv s (backBytes b).length, bad, b) := by
  unfold toldB at ht
  simp only [Bool.and_eq_true, decide_eq_true_eq, inZ_iff] at ht
  obtain ⟨hn, hp⟩ := ht
  have h16 : b.addr.2.length = 16 := hs.addr
  have h6 := hs.mac
  unfold backBytes at e
  simp only [List.append_assoc] at e
  have h1 := text_F (m := 255) h hl (by omega) (by omega) e
  have E1 := Eats.of h hl e
  have e1 := E1.rest e
  have h2 := flag_F (bad := bad) E1.ok' E1.le' e1
  have E2 := Eats.of E1.ok' E1.le' e1
  have e2 := E2.rest e1
  have h3 := take_F (n := 16) E2.ok' E2.le' (by rw [h16]; rfl) e2
  have E3 := Eats.of E2.ok' E2.le' e2
  have e3 := E3.rest e2
  have h4 := num_F (n := 2) E3.ok' E3.le' (by rw [putS_length]; rfl) (by rw [putS_length]; decide) (by rw [putS_length]; decide) true e3
  have E4 := Eats.of E3.ok' E3.le' e3
  have e4 := E4.rest e3
  have h5 := take_F (n := 6) E4.ok' E4.le' (by rw [h6]; rfl) e4
  have E5 := Eats.of E4.ok' E4.le' e4
  have e5 := E5.rest e4
  have h7 := weight_F (bad := bad) E5.ok' E5.le' hs.wt hc e5
  have E6 := Eats.of E5.ok' E5.le' e5
  have e6 := E6.rest e5
  have h8 := flag_F (bad := bad) E6.ok' E6.le' e6
  unfold backS
  simp only [h1, h2, h3, h4, h5, h7, h8]
  have p1 : pad b.addr.2 16 = b.addr.2 := by simp [pad, h16]
  have p2 : pad b.mac 6 = b.mac := by simp [pad, h6]
  rw [p1, p2, putS_two hp]
  simp only [adv_adv, backBytes, List.length_append, Nat.add_assoc]
theorem num_two {x : List UInt8} (hx : x.length = 2) : putS 2 ((getS x true : Nat) : Int).toNat true = x := by
  have := putS_getS x true
  rw [hx] at this
  rw [Int.toNat_natCast]
  exact this
theorem num_onep {x : List UInt8} (hx : x.length = 1) : putS 1 ((getS x true : Nat) : Int).toNat true = x := by
  have := putS_getS x true
  rw [hx] at this
  rw [Int.toNat_natCast]
  exact this
theorem back_B (ok : okS l s) (h : (backS l s bad).1.2.2 = 0) (hb : (backS l s bad).2.1 = false) :
    bad = false ∧ Eats l s (backBytes (backS l s bad).2.2) (backS l s bad).1 ∧ toldB (backS l s bad).2.2 = true ∧ canB (backS l s bad).2.2 ∧ okS l (backS l s bad).1 := by
  rcases h1 : textS l s 255 with ⟨s1, nm⟩
  rcases h2 : flagS l s1 bad with ⟨s2, b2, sx⟩
  rcases h3 : takeS l s2 16 with ⟨s3, ad⟩
  rcases h4 : numS l s3 2 true with ⟨s4, po⟩
  rcases h5 : takeS l s4 6 with ⟨s5, mc⟩
  rcases h6 : weightS l s5 b2 with ⟨s6, b6, wt⟩
  rcases h7 : flagS l s6 b6 with ⟨s7, b7, dr⟩
  have hb7 : backS l s bad = (s7, b7, { name := nm, addr := (sx, pad ad 16), port := (po : Int), mac := pad mc 6, wt := wt, drain := dr }) := by
    unfold backS
    simp only [h1, h2, h3, h4, h5, h6, h7]
  rw [hb7] at h hb ⊢
  simp only at h hb ⊢
  have F7 := flag_B (l := l) (s := s6) (bad := b6) (by rw [h7]; exact h) (by rw [h7]; exact hb)
  rw [h7] at F7
  obtain ⟨hb6, E7⟩ := F7
  have F6 := weight_B (l := l) (s := s5) (bad := b2) (by rw [h6]; exact E7.ok) (by rw [h6]; exact hb6)
  rw [h6] at F6
  obtain ⟨hb2, E6, hcan⟩ := F6
  obtain ⟨x5, hx5, E5, y5⟩ := take_B (l := l) (s := s4) (n := 6) (by decide) (by rw [h5]; exact E6.ok)
  rw [h5] at E5 y5
  obtain ⟨x4, hx4, E4, y4⟩ := num_B (l := l) (s := s3) (n := 2) (by decide) (by decide) true (by rw [h4]; exact E5.ok)
  rw [h4] at E4 y4
  obtain ⟨x3, hx3, E3, y3⟩ := take_B (l := l) (s := s2) (n := 16) (by decide) (by rw [h3]; exact E4.ok)
  rw [h3] at E3 y3
  have F2 := flag_B (l := l) (s := s1) (bad := bad) (by rw [h2]; exact E3.ok) (by rw [h2]; exact hb2)
  rw [h2] at F2
  obtain ⟨hbad, E2⟩ := F2
  have F1 := text_B (l := l) (s := s) (m := 255) (by rw [h1]; exact E2.ok) ok.1
  rw [h1] at F1
  obtain ⟨E1, hnm⟩ := F1
  simp only at y3 y4 y5 E1 E2 E3 E4 E5 E6 E7 hnm hcan
  subst y3 y4 y5
  have hx3' : ad.length = 16 := hx3
  have hx4' : x4.length = 2 := hx4
  have hx5' : mc.length = 6 := hx5
  have p1 : pad ad 16 = ad := by simp [pad, hx3']
  have p2 : pad mc 6 = mc := by simp [pad, hx5']
  have hp : getS x4 true ≤ 65535 := by
    obtain ⟨a, b, rfl⟩ := len_two hx4'
    rw [getS_two]
    have := a.toNat_lt; have := b.toNat_lt
    omega
  rw [p1, p2]
  refine ⟨hbad, ?_, ?_, hcan, ⟨E7.le', ?_, ?_⟩⟩
  · unfold backBytes
    simp only
    rw [num_two hx4']
    exact E1.trans (E2.trans (E3.trans (E4.trans (E5.trans (E6.trans E7)))))
  · unfold toldB
    simp only [Bool.and_eq_true, decide_eq_true_eq, inZ_iff]
    exact ⟨by omega, by omega, by omega⟩
  · rw [E7.at_, E6.at_, E5.at_, E4.at_, E3.at_, E2.at_, E1.at_]
    exact ok.2.1
  · rw [E7.ok']
    decide
end
end Go.Proofs.Ytgohhojoahlfiaa
