/- What a reader eats: the plain laws of its steps, forward (the bytes stand there) and backward (no fault came). No program in sight. -/
import Derived.Test.YtgohhojoahlfiaaK2
namespace Go.Proofs.Ytgohhojoahlfiaa
open Go.RowKit
set_option linter.unusedVariables false

/-- The state, so many bytes on. -/
def adv (s : St) (k : Nat) : St := (s.1 + k, s.2.1, s.2.2)
theorem adv_adv (s : St) (a b : Nat) : adv (adv s a) b = adv s (a + b) := by simp [adv, Nat.add_assoc]
theorem adv_zero (s : St) : adv s 0 = s := rfl

/-- From s to s' the bytes x are eaten. -/
structure Eats (l : List UInt8) (s : St) (x : List UInt8) (s' : St) : Prop where
  ok : s.2.2 = 0
  to : s' = adv s x.length
  le : s.1 + x.length ≤ l.length
  eq : l.drop s.1 = x ++ l.drop (s.1 + x.length)
section
variable {l : List UInt8} {s s' s'' : St} {x y : List UInt8}
theorem Eats.trans (h : Eats l s x s') (k : Eats l s' y s'') : Eats l s (x ++ y) s'' := by
  obtain ⟨h1, rfl, h3, h4⟩ := h
  obtain ⟨k1, rfl, k3, k4⟩ := k
  simp only [adv] at k3 k4
  refine ⟨h1, by rw [adv_adv, List.length_append], by rw [List.length_append]; omega, ?_⟩
  rw [h4, k4, List.length_append, List.append_assoc, Nat.add_assoc]
theorem Eats.nil (h : s.2.2 = 0) (hl : s.1 ≤ l.length) : Eats l s [] s := ⟨h, rfl, by simpa using hl, by simp⟩
theorem Eats.of (h : s.2.2 = 0) (hl : s.1 ≤ l.length) {r : List UInt8} (e : l.drop s.1 = x ++ r) : Eats l s x (adv s x.length) := by
  have hlen := congrArg List.length e
  rw [List.length_drop, List.length_append] at hlen
  refine ⟨h, rfl, by omega, ?_⟩
  rw [e, ← List.drop_drop, e, List.drop_left]
theorem Eats.ok' (h : Eats l s x s') : s'.2.2 = 0 := by rw [h.to]; exact h.ok
theorem Eats.le' (h : Eats l s x s') : s'.1 ≤ l.length := by rw [h.to]; exact h.le
theorem Eats.at_ (h : Eats l s x s') : s'.2.1 = s.2.1 := by rw [h.to]; rfl
theorem Eats.rest (h : Eats l s x s') {r : List UInt8} (e : l.drop s.1 = x ++ r) : l.drop s'.1 = r := by
  have h4 := h.eq
  rw [e] at h4
  rw [h.to]
  exact (List.append_cancel_left h4).symm
theorem Eats.take (h : Eats l s x s') : x = (l.drop s.1).take x.length := by rw [h.eq]; simp

theorem failS_no {e : Nat} (he : e ≠ 0) : (failS s e).2.2 ≠ 0 := by
  unfold failS
  split
  · exact he
  · assumption
theorem cut_F (h : s.2.2 = 0) (hl : s.1 ≤ l.length) {r : List UInt8} (e : l.drop s.1 = x ++ r) : cutS l s 0 x.length = (adv s x.length, x) := by
  have hlen := congrArg List.length e
  rw [List.length_drop, List.length_append] at hlen
  unfold cutS
  rw [if_neg (by omega), if_neg (by omega), Nat.add_zero, e, List.take_left]
  rfl
theorem cut_B {n : Nat} (h : (cutS l s 0 n).1.2.2 = 0) : ∃ x, x.length = n ∧ Eats l s x (cutS l s 0 n).1 ∧ (cutS l s 0 n).2 = x := by
  unfold cutS at h ⊢
  split at h
  · contradiction
  · rename_i h0
    split at h
    · exact absurd h (failS_no (by decide))
    · rename_i h1
      rw [if_neg h0, if_neg h1]
      refine ⟨(l.drop s.1).take n, by rw [List.length_take, List.length_drop]; omega, ?_, by simp⟩
      have hx : ((l.drop s.1).take n).length = n := by rw [List.length_take, List.length_drop]; omega
      refine ⟨by omega, by simp [adv, hx], by rw [hx]; omega, ?_⟩
      rw [hx, ← List.drop_drop, List.take_append_drop]

theorem take_F (h : s.2.2 = 0) (hl : s.1 ≤ l.length) {r : List UInt8} {n : Int} (hn : n = (x.length : Int)) (e : l.drop s.1 = x ++ r) : takeS l s n = (adv s x.length, x) := by
  subst hn
  unfold takeS
  rw [if_neg (by omega)]
  exact cut_F h hl e
theorem take_B {n : Int} (hn : 0 ≤ n) (h : (takeS l s n).1.2.2 = 0) : ∃ x, x.length = n.toNat ∧ Eats l s x (takeS l s n).1 ∧ (takeS l s n).2 = x := by
  unfold takeS at h ⊢
  rw [if_neg (by omega)] at h ⊢
  exact cut_B h
theorem num_F (h : s.2.2 = 0) (hl : s.1 ≤ l.length) {r : List UInt8} {n : Int} (hn : n = (x.length : Int)) (h1 : 1 ≤ x.length) (h8 : x.length ≤ 8) (big : Bool) (e : l.drop s.1 = x ++ r) : numS l s n big = (adv s x.length, getS x big) := by
  subst hn
  unfold numS
  rw [if_neg (by omega), Int.toNat_natCast, cut_F h hl e]
theorem num_B {n : Int} (h1 : 1 ≤ n) (h8 : n ≤ 8) (big : Bool) (h : (numS l s n big).1.2.2 = 0) : ∃ x, x.length = n.toNat ∧ Eats l s x (numS l s n big).1 ∧ (numS l s n big).2 = getS x big := by
  unfold numS at h ⊢
  rw [if_neg (by omega)] at h ⊢
  obtain ⟨x, hx, he, e⟩ := cut_B h
  exact ⟨x, hx, he, by rw [e]⟩
theorem var_F (h : s.2.2 = 0) (hl : s.1 ≤ l.length) {r : List UInt8} {m : Nat} (hm : m < 18446744073709551616) (e : l.drop s.1 = vput m ++ r) : varS l s = (adv s (vput m).length, m) := by
  have hg : vgetS (l.drop s.1) = (m, (vput m).length, 0) := by rw [e]; exact vget_back m hm r
  unfold varS peekS
  rw [if_neg (by omega), hg]
  simp [adv]
theorem var_B (h : (varS l s).1.2.2 = 0) (hl : s.1 ≤ l.length) : (varS l s).2 < 18446744073709551616 ∧ Eats l s (vput (varS l s).2) (varS l s).1 := by
  have hp : (peekS l s).1.2.2 = 0 := h
  have h0 : s.2.2 = 0 := by
    unfold peekS at hp
    split at hp
    · exact hp
    · omega
  have hv : (vgetS (l.drop s.1)).2.2 = 0 := by
    unfold peekS at hp
    rw [if_neg (by omega)] at hp
    split at hp
    · exact absurd hp (failS_no (by assumption))
    · omega
  rcases hg : vgetS (l.drop s.1) with ⟨m, k, e⟩
  rw [hg] at hv
  simp only at hv
  subst hv
  have hk := vget_only hg
  have hpe : peekS l s = (s, m, k) := by
    unfold peekS
    rw [if_neg (by omega), hg]
    simp
  have hvs : varS l s = (adv s k, m) := by
    unfold varS
    rw [hpe]
    rfl
  rw [hvs]
  refine ⟨hk.1, ?_⟩
  have e : l.drop s.1 = vput m ++ (l.drop s.1).drop k := by rw [hk.2.2.2.2, List.take_append_drop]
  have := Eats.of h0 hl e
  rw [← hk.2.2.2.1] at this
  exact this
theorem endS_B (h : (endS l s).2.2 = 0) : s.1 ≥ l.length ∧ endS l s = s := by
  unfold endS at h ⊢
  split at h
  · exact absurd h (failS_no (by decide))
  · rename_i h1
    rw [if_neg h1]
    exact ⟨by omega, rfl⟩
theorem endS_F (h : l.length ≤ s.1) : endS l s = s := by
  unfold endS
  rw [if_neg (by omega)]
end
theorem getS_one (c : UInt8) : getS [c] true = c.toNat := by simp [getS, beN]
theorem getS_two (a b : UInt8) : getS [a, b] true = a.toNat * 256 + b.toNat := by simp [getS, beN]
theorem len_one {x : List UInt8} (h : x.length = 1) : ∃ c, x = [c] := by
  match x, h with
  | [c], _ => exact ⟨c, rfl⟩
theorem len_two {x : List UInt8} (h : x.length = 2) : ∃ a b, x = [a, b] := by
  match x, h with
  | [a, b], _ => exact ⟨a, b, rfl⟩
end Go.Proofs.Ytgohhojoahlfiaa
