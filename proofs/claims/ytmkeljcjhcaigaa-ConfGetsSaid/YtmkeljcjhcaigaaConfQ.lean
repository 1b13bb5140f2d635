/- A config read out of its bytes, in plain Lean: what the program's reader gives; what is read has just these bytes; what is laid is read as it was. No program in sight. -/
import Derived.Test.YtmkeljcjhcaigaaConfP
import Derived.Test.YtmkeljcjhcaigaaEat
namespace Go.Proofs.Ytmkeljcjhcaigaa
open Go.RowKit
set_option linter.unusedVariables false

/-- Bytes, and noughts behind them up to a length. -/
def pad (b : List UInt8) (k : Nat) : List UInt8 := b ++ List.replicate (k - b.length) 0
theorem pad_len {b : List UInt8} {k : Nat} (h : b.length ≤ k) : (pad b k).length = k := by simp [pad]; omega
theorem pad_full {b : List UInt8} {k : Nat} (h : b.length = k) : pad b k = b := by simp [pad, h]

def takeAddrS (l : List UInt8) (s : St) : St × Option AddrP :=
  if (numS l s 1 true).2 = 6 then ((takeS l (numS l s 1 true).1 16).1, if (takeS l (numS l s 1 true).1 16).2.length = 16 then some (true, (takeS l (numS l s 1 true).1 16).2) else none)
  else if (numS l s 1 true).2 = 4 then ((takeS l (numS l s 1 true).1 4).1, if (takeS l (numS l s 1 true).1 4).2.length = 4 then some (false, pad (takeS l (numS l s 1 true).1 4).2 16) else none)
  else ((numS l s 1 true).1, none)
/-- The state behind a Vip's address, protocol, port, mark. -/
def vipS1 (l : List UInt8) (s : St) : St := (takeAddrS l s).1
def vipS2 (l : List UInt8) (s : St) : St := (numS l (vipS1 l s) 1 true).1
def vipS3 (l : List UInt8) (s : St) : St := (numS l (vipS2 l s) 2 true).1
def vipS4 (l : List UInt8) (s : St) : St := (numS l (vipS3 l s) 1 true).1
def vipOf (l : List UInt8) (s : St) (a : AddrP) : VipP := (a, ((numS l (vipS1 l s) 1 true).2 : Int), ((numS l (vipS2 l s) 2 true).2 : Int), (numS l (vipS3 l s) 1 true).2 == 1)
def vipS (l : List UInt8) (s : St) : Option VipP := match (takeAddrS l s).2 with | some a => if (numS l (vipS3 l s) 1 true).2 ≤ 1 then some (vipOf l s a) else none | none => none
def vipsS (l : List UInt8) : Nat → St → Option (St × List VipP)
  | 0, s => some (s, [])
  | k + 1, s => match vipS l s with | none => none | some v => (vipsS l k (vipS4 l s)).map fun p => (p.1, v :: p.2)
def numsS (l : List UInt8) : Nat → St → St × List Nat
  | 0, s => (s, [])
  | k + 1, s => ((numsS l k (numberS l s).1).1, (numberS l s).2 :: (numsS l k (numberS l s).1).2)
theorem numsS_len (l : List UInt8) : ∀ (k : Nat) (s : St), (numsS l k s).2.length = k
  | 0, _ => rfl
  | k + 1, s => by simp [numsS, numsS_len l k]

def confOf (vs : List VipP) (ns : List Nat) (mac four six : List UInt8) (ms : List Nat) : ConfP :=
  { vips := vs, size := (ns.getD 0 0 : Nat), room := (ns.getD 1 0 : Nat), idle := 0 :: ((ns.drop 2).take 5).map Int.ofNat, rise := (ns.getD 7 0 : Nat), fall := (ns.getD 8 0 : Nat), mac := mac, four := (false, four), six := (true, six), most := (ms.getD 0 0 : Nat), keep := (ms.getD 1 0 : Nat), batch := (ms.getD 2 0 : Nat) }
/-- The Vips, as many as are told. -/
def manyS (l : List UInt8) (m : St × Nat) : Option (St × List VipP) := if m.2 ≤ 64 then vipsS l m.2 m.1 else some (m.1, [])
/-- What stands behind the Vips. -/
def confBack (l : List UInt8) (s : St) (vs : List VipP) : St × ConfP :=
  let n := numsS l 9 s
  let a := takeS l n.1 6
  let b := takeS l a.1 4
  let c := takeS l b.1 16
  let z := numsS l 3 c.1
  (z.1, confOf vs n.2 (pad a.2 6) (pad b.2 16) (pad c.2 16) z.2)
def confPreS (l : List UInt8) : Option (St × ConfP × Nat) :=
  match manyS l (numberS l (0, 0, 0)) with
  | none => none
  | some p => some ((confBack l p.1 p.2).1, (confBack l p.1 p.2).2, (numberS l (0, 0, 0)).2)
def confGetS (l : List UInt8) : Option ConfP :=
  match confPreS l with
  | none => none
  | some p => if (endS l p.1).2.1 = 0 ∧ (endS l p.1).2.2 = 0 ∧ p.2.1.vips.length = p.2.2 ∧ rightB p.2.1 = true then some p.2.1 else none

section
variable {l : List UInt8} {s : St}
theorem addr_pad {a : AddrP} (ha : addrOk a) (h : tailB a.2 = true) : pad (a.2.take 4) 16 = a.2 := by
  have hl : a.2.length = 16 := ha
  have h4 : (a.2.take 4).length = 4 := by simp [hl]
  have hd : a.2.drop 4 = List.replicate 12 0 := by
    rw [List.eq_replicate_iff]
    refine ⟨by simp [hl], fun b hb => ?_⟩
    unfold tailB at h
    rw [List.all_eq_true] at h
    simpa using h b hb
  rw [pad, h4, show 16 - 4 = 12 from rfl, ← hd, List.take_append_drop]
theorem pad_tail {b : List UInt8} (h : b.length = 4) : tailB (pad b 16) = true ∧ (pad b 16).take 4 = b := by
  constructor
  · unfold tailB pad
    rw [← h, List.drop_left]
    simp
  · unfold pad
    rw [← h, List.take_left]

theorem takeAddr_F (h0 : s.2.2 = 0) (hl : s.1 ≤ l.length) {a : AddrP} (ha : addrOk a) (hs : shortB a = true) {r : List UInt8} (e : l.drop s.1 = putAddrS a ++ r) : takeAddrS l s = (adv s (putAddrS a).length, some a) := by
  have hla : a.2.length = 16 := ha
  rcases a with ⟨six, b⟩
  simp only at hla
  cases six
  · have hb : shortB (false, b) = tailB b := rfl
    rw [hb] at hs
    have hp : putAddrS (false, b) = [4] ++ b.take 4 := rfl
    rw [hp, List.append_assoc] at e
    have h1 := num_F (n := 1) h0 hl rfl (by simp) (by simp) true e
    have E1 := Eats.of h0 hl e
    have e2 := E1.rest e
    have hb4 : (b.take 4).length = 4 := by simp [hla]
    have h2 := take_F (n := 4) E1.ok' E1.le' (by rw [hb4]; rfl) e2
    have hg : getS [(4 : UInt8)] true = 4 := getS_one 4
    unfold takeAddrS
    rw [h1, hg, if_neg (show ¬ ((4 : Nat) = 6) by decide), if_pos rfl]
    simp only
    rw [h2, hb4, if_pos rfl, addr_pad (a := (false, b)) ha hs, hp, List.length_append, hb4, adv_adv]
  · have hp : putAddrS (true, b) = [6] ++ b := rfl
    rw [hp, List.append_assoc] at e
    have h1 := num_F (n := 1) h0 hl rfl (by simp) (by simp) true e
    have E1 := Eats.of h0 hl e
    have e2 := E1.rest e
    have h2 := take_F (n := 16) E1.ok' E1.le' (by rw [hla]; rfl) e2
    have hg : getS [(6 : UInt8)] true = 6 := getS_one 6
    unfold takeAddrS
    rw [h1, hg, if_pos rfl]
    simp only
    rw [h2, hla, if_pos rfl, hp, List.length_append, hla, adv_adv]

theorem takeAddr_B {a : AddrP} (h : (takeAddrS l s).2 = some a) (h0 : (takeAddrS l s).1.2.2 = 0) : Eats l s (putAddrS a) (takeAddrS l s).1 ∧ addrOk a ∧ shortB a = true := by
  unfold takeAddrS at h h0 ⊢
  split at h
  · rename_i h6
    rw [if_pos h6] at h0 ⊢
    obtain ⟨x, hx, E2, e2⟩ := take_B (n := 16) (by decide) h0
    obtain ⟨y, hy, E1, e1⟩ := num_B (n := 1) (by decide) (by decide) true E2.ok
    obtain ⟨c, rfl⟩ := len_one hy
    rw [e1, getS_one] at h6
    have hc : c = 6 := by rw [← UInt8.toNat_inj]; exact h6
    subst hc
    simp only at h
    rw [e2, if_pos (show x.length = 16 from hx)] at h
    injection h with h
    subst h
    refine ⟨?_, hx, rfl⟩
    exact E1.trans E2
  · rename_i h6
    rw [if_neg h6] at h0 ⊢
    split at h
    · rename_i h4
      rw [if_pos h4] at h0 ⊢
      obtain ⟨x, hx, E2, e2⟩ := take_B (n := 4) (by decide) h0
      obtain ⟨y, hy, E1, e1⟩ := num_B (n := 1) (by decide) (by decide) true E2.ok
      obtain ⟨c, rfl⟩ := len_one hy
      rw [e1, getS_one] at h4
      have hc : c = 4 := by rw [← UInt8.toNat_inj]; exact h4
      subst hc
      simp only at h
      rw [e2, if_pos (show x.length = 4 from hx)] at h
      injection h with h
      subst h
      have hx4 : x.length = 4 := hx
      refine ⟨?_, pad_len (by omega), ?_⟩
      · have := E1.trans E2
        have hp : putAddrS (false, pad x 16) = [4] ++ x := by simp [putAddrS, (pad_tail hx4).2]
        rw [hp]
        exact this
      · simp [shortB, (pad_tail hx4).1]
    · cases h

theorem u8n (n : Nat) (h : n < 256) : (UInt8.ofNat n).toNat = n := by rw [UInt8.toNat_ofNat']; exact Nat.mod_eq_of_lt (by omega)
theorem ofNat_toNat8 (c : UInt8) : UInt8.ofNat c.toNat = c := by simp
theorem vip_F (h0 : s.2.2 = 0) (hl : s.1 ≤ l.length) {v : VipP} (ha : addrOk v.1) (hr : vipR v = true) {r : List UInt8} (e : l.drop s.1 = vipBytes v ++ r) : vipS l s = some v ∧ vipS4 l s = adv s (vipBytes v).length := by
  rcases v with ⟨a, p, q, t⟩
  simp only [vipR, Bool.and_eq_true, Bool.or_eq_true, beq_iff_eq] at hr
  obtain ⟨⟨hs, hp⟩, hq⟩ := hr
  have hq' : 1 ≤ q ∧ q ≤ 65535 := by simpa [inB] using hq
  have hb : vipBytes (a, p, q, t) = putAddrS a ++ ([UInt8.ofNat p.toNat] ++ ([UInt8.ofNat (q.toNat / 256), UInt8.ofNat q.toNat] ++ [if t then 1 else 0])) := rfl
  rw [hb] at e ⊢
  simp only [List.append_assoc] at e
  have h1 := takeAddr_F h0 hl ha hs e
  have E1 := Eats.of h0 hl e
  have e1 := E1.rest e
  have h2 := num_F (n := 1) E1.ok' E1.le' rfl (by simp) (by simp) true e1
  have E2 := Eats.of E1.ok' E1.le' e1
  have e2 := E2.rest e1
  have h3 := num_F (n := 2) E2.ok' E2.le' rfl (by simp) (by simp) true e2
  have E3 := Eats.of E2.ok' E2.le' e2
  have e3 := E3.rest e2
  have h4 := num_F (n := 1) E3.ok' E3.le' rfl (by simp) (by simp) true e3
  have g1 : getS [UInt8.ofNat p.toNat] true = p.toNat := by rw [getS_one, u8n _ (by omega)]
  have g2 : getS [UInt8.ofNat (q.toNat / 256), UInt8.ofNat q.toNat] true = q.toNat := by
    rw [getS_two, u8n _ (by omega), UInt8.toNat_ofNat']
    omega
  have hv1 : vipS1 l s = adv s (putAddrS a).length := by unfold vipS1; rw [h1]
  have hv2 : vipS2 l s = adv (adv s (putAddrS a).length) 1 := by unfold vipS2; rw [hv1, h2]; rfl
  have hv3 : vipS3 l s = adv (adv (adv s (putAddrS a).length) 1) 2 := by unfold vipS3; rw [hv2]; exact congrArg Prod.fst h3
  have h3' : numS l (adv (adv s (putAddrS a).length) 1) 2 true = _ := h3
  have h4' : numS l (adv (adv (adv s (putAddrS a).length) 1) 2) 1 true = _ := h4
  have hv4 : vipS4 l s = adv (adv (adv (adv s (putAddrS a).length) 1) 2) 1 := by unfold vipS4; rw [hv3]; exact congrArg Prod.fst h4
  constructor
  · have ht : (numS l (vipS3 l s) 1 true).2 = if t then 1 else 0 := by
      rw [hv3, h4', getS_one]
      cases t <;> rfl
    unfold vipS
    rw [h1]
    simp only
    rw [ht, if_pos (by split <;> omega)]
    unfold vipOf
    rw [ht, hv1, hv2, h2, h3', g1, g2]
    have i1 : ((p.toNat : Nat) : Int) = p := by omega
    have i2 : ((q.toNat : Nat) : Int) = q := by omega
    rw [i1, i2]
    cases t <;> rfl
  · rw [hv4, adv_adv, adv_adv, adv_adv]
    simp

theorem vip_B {v : VipP} (h : vipS l s = some v) (h0 : (vipS4 l s).2.2 = 0) : Eats l s (vipBytes v) (vipS4 l s) ∧ addrOk v.1 := by
  obtain ⟨x4, hx4, E4, e4⟩ := num_B (n := 1) (by decide) (by decide) true h0
  obtain ⟨x3, hx3, E3, e3⟩ := num_B (n := 2) (by decide) (by decide) true E4.ok
  obtain ⟨x2, hx2, E2, e2⟩ := num_B (n := 1) (by decide) (by decide) true E3.ok
  unfold vipS at h
  split at h
  · rename_i a ha
    split at h
    · rename_i ht
      injection h with h
      obtain ⟨E1, hok, hsh⟩ := takeAddr_B ha E2.ok
      obtain ⟨c4, rfl⟩ := len_one hx4
      obtain ⟨c3, d3, rfl⟩ := len_two hx3
      obtain ⟨c2, rfl⟩ := len_one hx2
      have t4 : (numS l (vipS3 l s) 1 true).2 = c4.toNat := by rw [e4, getS_one]
      have t3 : (numS l (vipS2 l s) 2 true).2 = c3.toNat * 256 + d3.toNat := by rw [e3, getS_two]
      have t2 : (numS l (vipS1 l s) 1 true).2 = c2.toNat := by rw [e2, getS_one]
      have hv : v = (a, (c2.toNat : Int), ((c3.toNat * 256 + d3.toNat : Nat) : Int), c4.toNat == 1) := by
        rw [← h]
        unfold vipOf
        rw [t4, t3, t2]
      subst hv
      refine ⟨?_, hok⟩
      have hd := d3.toNat_lt
      have hb : vipBytes (a, (c2.toNat : Int), ((c3.toNat * 256 + d3.toNat : Nat) : Int), c4.toNat == 1) = putAddrS a ++ ([c2] ++ ([c3, d3] ++ [c4])) := by
        have k1 : (c3.toNat * 256 + d3.toNat) / 256 = c3.toNat := by omega
        have k2 : UInt8.ofNat (c3.toNat * 256 + d3.toNat) = d3 := by
          rw [← UInt8.toNat_inj, UInt8.toNat_ofNat']
          omega
        have k3 : (if (c4.toNat == 1) = true then (1 : UInt8) else 0) = c4 := by
          rw [t4] at ht
          rw [← UInt8.toNat_inj]
          split
          · rename_i h1; simp at h1; rw [h1]; rfl
          · rename_i h1; simp at h1
            have : c4.toNat = 0 := by omega
            rw [this]; rfl
        simp only [vipBytes, Int.toNat_natCast, k1, k2, k3, ofNat_toNat8]
        rfl
      rw [hb]
      exact E1.trans (E2.trans (E3.trans E4))
    · cases h
  · cases h
end
end Go.Proofs.Ytmkeljcjhcaigaa
