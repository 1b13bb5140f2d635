/- The document's Get of a config, in plain Lean: what is known of the rest of the bytes if they are a config's. No program in sight. -/
import Derived.Test.YtmkeljcjhcaigaaCadP
namespace Go.Proofs.Ytmkeljcjhcaigaa
open Go.RowKit
set_option linter.unusedVariables false

/-- The number of a varint that a config may have, and what is behind it. -/
def rnumS (b : List UInt8) : Option (Nat × List UInt8) := if (vgetS b).2.2 = 0 ∧ (vgetS b).1 ≤ 1048577 then some ((vgetS b).1, b.drop (vgetS b).2.1) else none
theorem rnum_F {n : Nat} (hn : n ≤ 1048577) (r : List UInt8) : rnumS (vput n ++ r) = some (n, r) := by
  unfold rnumS
  rw [vget_back n (by omega) r]
  simp [hn]
theorem rnum_le {b r : List UInt8} {n : Nat} (h : rnumS b = some (n, r)) : n ≤ 1048577 ∧ r.length ≤ b.length := by
  unfold rnumS at h
  split at h
  · rename_i h2
    simp only [Option.some.injEq, Prod.mk.injEq] at h
    obtain ⟨h3, h4⟩ := h
    subst h3 h4
    exact ⟨h2.2, by simp⟩
  · cases h
theorem getAddr_F {a : AddrP} (ha : addrOk a) (hs : shortB a = true) (r : List UInt8) : getAddrS (putAddrS a ++ r) = (a, (putAddrS a).length) := by
  have h1 := takeAddr_F (l := putAddrS a ++ r) (s := (0, 0, 0)) rfl (Nat.zero_le _) ha hs (r := r) (by simp)
  have h2 := take_at (l := putAddrS a ++ r) (n := 0) (Nat.zero_le _)
  rw [List.drop_zero] at h2
  rcases h : getAddrS (putAddrS a ++ r) with ⟨x, u⟩
  rw [h, h1] at h2
  by_cases hu : u = 0
  · obtain ⟨h3, _⟩ := h2.2 hu
    cases h3
  · have h3 := h2.1 (Nat.pos_of_ne_zero hu)
    simp only [adv, Prod.mk.injEq, Option.some.injEq, Nat.zero_add, and_true] at h3
    rw [← h3.1, ← h3.2]
theorem getAddr_cases (b : List UInt8) : (getAddrS b).2 = 0 ∨ (getAddrS b).2 = 5 ∨ (getAddrS b).2 = 17 := by
  rcases b with _ | ⟨c, r⟩
  · exact Or.inl rfl
  · simp only [getAddrS]
    by_cases h6 : c = 6
    · rw [if_pos h6]; split <;> simp
    · rw [if_neg h6]
      by_cases h4 : c = 4
      · rw [if_pos h4]; split <;> simp
      · rw [if_neg h4]; simp
/-- The Vip whose bytes stand ahead, and what is behind it. -/
def rvipS (b : List UInt8) : Option (VipP × List UInt8) :=
  match (getAddrS b).2, b.drop (getAddrS b).2 with
  | 0, _ => none
  | _ + 1, x :: y :: z :: t :: r => some (((getAddrS b).1, (x.toNat : Int), 256 * (y.toNat : Int) + (z.toNat : Int), t != 0), r)
  | _ + 1, _ => none
theorem rvip_F {v : VipP} (ha : addrOk v.1) (hr : vipR v = true) (r : List UInt8) : rvipS (vipBytes v ++ r) = some (v, r) := by
  obtain ⟨a, p, q, t⟩ := v
  simp only [vipR, Bool.and_eq_true, Bool.or_eq_true, beq_iff_eq, inB_iff] at hr
  obtain ⟨⟨h1, h2⟩, h3, h4⟩ := hr
  have hg := getAddr_F ha h1 ([UInt8.ofNat p.toNat, UInt8.ofNat (q.toNat / 256), UInt8.ofNat q.toNat, if t then 1 else 0] ++ r)
  unfold rvipS vipBytes
  rw [List.append_assoc, hg]
  have hpos : (putAddrS a).length ≠ 0 := by unfold putAddrS; split <;> simp
  obtain ⟨k, hk⟩ := Nat.exists_eq_succ_of_ne_zero hpos
  simp only [List.drop_left']
  rw [hk]
  simp only [List.cons_append, List.nil_append]
  have e1 : ((UInt8.ofNat p.toNat).toNat : Int) = p := by rw [UInt8.toNat_ofNat']; omega
  have e2 : 256 * ((UInt8.ofNat (q.toNat / 256)).toNat : Int) + ((UInt8.ofNat q.toNat).toNat : Int) = q := by rw [UInt8.toNat_ofNat', UInt8.toNat_ofNat']; omega
  rw [e1, e2]
  cases t <;> rfl
theorem rvip_le {b r : List UInt8} {v : VipP} (h : rvipS b = some (v, r)) : addrOk v.1 ∧ r.length ≤ b.length := by
  have ho := getAddr_ok b
  unfold rvipS at h
  split at h
  · cases h
  · rename_i k x y z t r' hk hd
    simp only [Option.some.injEq, Prod.mk.injEq] at h
    obtain ⟨h1, h2⟩ := h
    subst h1 h2
    refine ⟨ho, ?_⟩
    have := congrArg List.length hd
    simp only [List.length_drop, List.length_cons] at this
    omega
  · cases h

/-- What stands behind the Vips; behind the numbers. -/
def tailV (f : ConfP) : List UInt8 := vputs (confNums f) ++ (f.mac ++ (f.four.2.take 4 ++ (f.six.2 ++ vputs (confLast f))))
def tailN (f : ConfP) : List UInt8 := f.mac ++ (f.four.2.take 4 ++ (f.six.2 ++ vputs (confLast f)))
/-- If the bytes are a config's: its Vips are those read, and more of which the rest has the bytes. -/
def Fit1 (l : List UInt8) (m : Nat) (vs : List VipP) (rest : List UInt8) : Prop :=
  ∀ f, confGetS l = some f → m = f.vips.length ∧ ∃ us, f.vips = vs ++ us ∧ rest = us.flatMap vipBytes ++ tailV f
def Fit2 (l : List UInt8) (vs : List VipP) (ns : List Nat) (rest : List UInt8) : Prop :=
  ∀ f, confGetS l = some f → f.vips = vs ∧ ∃ us, confNums f = ns ++ us ∧ rest = vputs us ++ tailN f
def Fit3 (l : List UInt8) (vs : List VipP) (ns : List Nat) (mac four six : List UInt8) (ms : List Nat) (rest : List UInt8) : Prop :=
  ∀ f, confGetS l = some f → f.vips = vs ∧ confNums f = ns ∧ f.mac = mac ∧ f.four.2.take 4 = four ∧ f.six.2 = six ∧ ∃ us, confLast f = ms ++ us ∧ rest = vputs us
theorem fit_none {l : List UInt8} (h : ∀ f, confGetS l ≠ some f) : confGetS l = none := by
  rcases e : confGetS l with _ | f
  · rfl
  · exact absurd e (h f)
theorem fit_start {l r : List UInt8} {m : Nat} (h : rnumS l = some (m, r)) : Fit1 l m [] r := by
  intro f hf
  obtain ⟨h1, h2, h3⟩ := confGet_iff.1 hf
  have hv := (right_vips h3 h2).1
  rw [h1] at h
  unfold confPutS at h
  rw [rnum_F (by omega)] at h
  simp only [Option.some.injEq, Prod.mk.injEq] at h
  exact ⟨h.1.symm, f.vips, rfl, h.2.symm⟩
theorem fit_start_no {l : List UInt8} (h : rnumS l = none) : confGetS l = none := by
  refine fit_none fun f hf => ?_
  obtain ⟨h1, h2, h3⟩ := confGet_iff.1 hf
  have hv := (right_vips h3 h2).1
  rw [h1] at h
  unfold confPutS at h
  rw [rnum_F (by omega)] at h
  cases h
theorem fit_many {l r : List UInt8} {m : Nat} {vs : List VipP} (h : Fit1 l m vs r) (hm : ¬ m ≤ 64) : confGetS l = none := by
  refine fit_none fun f hf => ?_
  obtain ⟨h1, h2, h3⟩ := confGet_iff.1 hf
  have hv := (right_vips h3 h2).1
  have := (h f hf).1
  omega
theorem fit_vip {l r : List UInt8} {m : Nat} {vs : List VipP} (h : Fit1 l m vs r) (hk : vs.length < m) {f : ConfP} (hf : confGetS l = some f) : ∃ v us, f.vips = (vs ++ [v]) ++ us ∧ r = vipBytes v ++ (us.flatMap vipBytes ++ tailV f) ∧ m = f.vips.length ∧ addrOk v.1 ∧ vipR v = true := by
  obtain ⟨h1, h2, h3⟩ := confGet_iff.1 hf
  have hv := (right_vips h3 h2).2
  obtain ⟨k1, us, k2, k3⟩ := h f hf
  rcases us with _ | ⟨v, us⟩
  · rw [k2] at k1; simp at k1; omega
  · have hm : v ∈ f.vips := by rw [k2]; simp
    exact ⟨v, us, by rw [k2]; simp, by rw [k3]; simp, k1, hv v hm⟩
theorem fit_vip_no {l r : List UInt8} {m : Nat} {vs : List VipP} (h : Fit1 l m vs r) (hk : vs.length < m) (hn : rvipS r = none) : confGetS l = none := by
  refine fit_none fun f hf => ?_
  obtain ⟨v, us, _, h2, _, h4, h5⟩ := fit_vip h hk hf
  rw [h2, rvip_F h4 h5] at hn
  cases hn
theorem fit_vip_yes {l r r' : List UInt8} {m : Nat} {vs : List VipP} {v : VipP} (h : Fit1 l m vs r) (hk : vs.length < m) (hn : rvipS r = some (v, r')) : Fit1 l m (vs ++ [v]) r' := by
  intro f hf
  obtain ⟨v', us, h1, h2, h3, h4, h5⟩ := fit_vip h hk hf
  rw [h2, rvip_F h4 h5] at hn
  simp only [Option.some.injEq, Prod.mk.injEq] at hn
  obtain ⟨rfl, rfl⟩ := hn
  exact ⟨h3, us, h1, rfl⟩
theorem fit_mid {l r : List UInt8} {m : Nat} {vs : List VipP} (h : Fit1 l m vs r) (hk : vs.length = m) : Fit2 l vs [] r := by
  intro f hf
  obtain ⟨k1, us, k2, k3⟩ := h f hf
  have : us = [] := by
    rw [k2] at k1
    simp at k1
    exact List.length_eq_zero_iff.1 (by omega)
  subst this
  rw [List.append_nil] at k2
  exact ⟨k2, confNums f, rfl, by rw [k3]; rfl⟩
theorem fit_num {l r : List UInt8} {vs : List VipP} {ns : List Nat} (h : Fit2 l vs ns r) (hk : ns.length < 9) {f : ConfP} (hf : confGetS l = some f) : f.vips = vs ∧ ∃ n us, confNums f = (ns ++ [n]) ++ us ∧ r = vput n ++ (vputs us ++ tailN f) ∧ n ≤ 1048577 := by
  obtain ⟨h1, h2, h3⟩ := confGet_iff.1 hf
  obtain ⟨k1, us, k2, k3⟩ := h f hf
  have hl := confNums_len h3
  have hle := confNums_le h3 h2
  rcases us with _ | ⟨n, us⟩
  · rw [k2] at hl; simp at hl; omega
  · have hm : n ∈ confNums f := by rw [k2]; simp
    exact ⟨k1, n, us, by rw [k2]; simp, by rw [k3, vputs, List.append_assoc], hle n hm⟩
theorem fit_num_no {l r : List UInt8} {vs : List VipP} {ns : List Nat} (h : Fit2 l vs ns r) (hk : ns.length < 9) (hn : rnumS r = none) : confGetS l = none := by
  refine fit_none fun f hf => ?_
  obtain ⟨_, n, us, h1, h2, h3⟩ := fit_num h hk hf
  rw [h2, rnum_F h3] at hn
  cases hn
theorem fit_num_yes {l r r' : List UInt8} {vs : List VipP} {ns : List Nat} {n : Nat} (h : Fit2 l vs ns r) (hk : ns.length < 9) (hn : rnumS r = some (n, r')) : Fit2 l vs (ns ++ [n]) r' := by
  intro f hf
  obtain ⟨h0, n', us, h1, h2, h3⟩ := fit_num h hk hf
  rw [h2, rnum_F h3] at hn
  simp only [Option.some.injEq, Prod.mk.injEq] at hn
  obtain ⟨rfl, rfl⟩ := hn
  exact ⟨h0, us, h1, rfl⟩
theorem fit_tail {l r : List UInt8} {vs : List VipP} {ns : List Nat} (h : Fit2 l vs ns r) (hk : ns.length = 9) {f : ConfP} (hf : confGetS l = some f) : f.vips = vs ∧ confNums f = ns ∧ r = tailN f ∧ f.mac.length = 6 ∧ (f.four.2.take 4).length = 4 ∧ f.six.2.length = 16 := by
  obtain ⟨h1, h2, h3⟩ := confGet_iff.1 hf
  obtain ⟨k1, us, k2, k3⟩ := h f hf
  have hl := confNums_len h3
  have : us = [] := by
    rw [k2] at hl
    simp at hl
    exact List.length_eq_zero_iff.1 (by omega)
  subst this
  rw [List.append_nil] at k2
  have h4 : f.four.2.length = 16 := h3.four
  exact ⟨k1, k2, k3, h3.mac, by rw [List.length_take]; omega, h3.six⟩
theorem fit_tail_no {l r : List UInt8} {vs : List VipP} {ns : List Nat} (h : Fit2 l vs ns r) (hk : ns.length = 9) (hr : r.length < 26) : confGetS l = none := by
  refine fit_none fun f hf => ?_
  obtain ⟨_, _, h1, h2, h3, h4⟩ := fit_tail h hk hf
  rw [h1, tailN] at hr
  simp only [List.length_append] at hr
  omega
theorem fit_tail_yes {l r : List UInt8} {vs : List VipP} {ns : List Nat} (h : Fit2 l vs ns r) (hk : ns.length = 9) : Fit3 l vs ns (r.take 6) ((r.drop 6).take 4) ((r.drop 10).take 16) [] (r.drop 26) := by
  intro f hf
  obtain ⟨k1, k2, h1, h2, h3, h4⟩ := fit_tail h hk hf
  have e6 : r.drop 6 = f.four.2.take 4 ++ (f.six.2 ++ vputs (confLast f)) := by rw [h1, tailN, List.drop_left' h2]
  have e10 : r.drop 10 = f.six.2 ++ vputs (confLast f) := by rw [show 10 = 6 + 4 from rfl, ← List.drop_drop, e6, List.drop_left' h3]
  have e26 : r.drop 26 = vputs (confLast f) := by rw [show 26 = 10 + 16 from rfl, ← List.drop_drop, e10, List.drop_left' h4]
  refine ⟨k1, k2, ?_, ?_, ?_, confLast f, rfl, e26⟩
  · rw [h1, tailN, List.take_left' h2]
  · rw [e6, List.take_left' h3]
  · rw [e10, List.take_left' h4]
theorem fit_last {l r : List UInt8} {vs : List VipP} {ns ms : List Nat} {x y z : List UInt8} (h : Fit3 l vs ns x y z ms r) (hk : ms.length < 3) {f : ConfP} (hf : confGetS l = some f) : f.vips = vs ∧ confNums f = ns ∧ f.mac = x ∧ f.four.2.take 4 = y ∧ f.six.2 = z ∧ ∃ n us, confLast f = (ms ++ [n]) ++ us ∧ r = vput n ++ vputs us ∧ n ≤ 1048577 := by
  obtain ⟨h1, h2, h3⟩ := confGet_iff.1 hf
  obtain ⟨k1, k2, k3, k4, k5, us, k6, k7⟩ := h f hf
  have hl : (confLast f).length = 3 := rfl
  have hle := confLast_le h2
  rcases us with _ | ⟨n, us⟩
  · rw [k6] at hl; simp at hl; omega
  · have hm : n ∈ confLast f := by rw [k6]; simp
    exact ⟨k1, k2, k3, k4, k5, n, us, by rw [k6]; simp, by rw [k7, vputs], hle n hm⟩
theorem fit_last_no {l r : List UInt8} {vs : List VipP} {ns ms : List Nat} {x y z : List UInt8} (h : Fit3 l vs ns x y z ms r) (hk : ms.length < 3) (hn : rnumS r = none) : confGetS l = none := by
  refine fit_none fun f hf => ?_
  obtain ⟨_, _, _, _, _, n, us, h1, h2, h3⟩ := fit_last h hk hf
  rw [h2, rnum_F h3] at hn
  cases hn
theorem fit_last_yes {l r r' : List UInt8} {vs : List VipP} {ns ms : List Nat} {n : Nat} {x y z : List UInt8} (h : Fit3 l vs ns x y z ms r) (hk : ms.length < 3) (hn : rnumS r = some (n, r')) : Fit3 l vs ns x y z (ms ++ [n]) r' := by
  intro f hf
  obtain ⟨k1, k2, k3, k4, k5, n', us, h1, h2, h3⟩ := fit_last h hk hf
  rw [h2, rnum_F h3] at hn
  simp only [Option.some.injEq, Prod.mk.injEq] at hn
  obtain ⟨rfl, rfl⟩ := hn
  exact ⟨k1, k2, k3, k4, k5, us, h1, rfl⟩
/-- All read: if the bytes are a config's, then of what was read. -/
theorem fit_end {l r : List UInt8} {vs : List VipP} {ns ms : List Nat} {x y z : List UInt8} (h : Fit3 l vs ns x y z ms r) (hk : ms.length = 3) {f : ConfP} (hf : confGetS l = some f) : f = confOf vs ns x (pad y 16) z ms := by
  obtain ⟨h1, h2, h3⟩ := confGet_iff.1 hf
  obtain ⟨k1, k2, k3, k4, k5, us, k6, k7⟩ := h f hf
  have hl : (confLast f).length = 3 := rfl
  have : us = [] := by
    rw [k6] at hl
    simp at hl
    exact List.length_eq_zero_iff.1 (by omega)
  subst this
  rw [List.append_nil] at k6
  have hs := h2.fours
  have h6 := h2.four6
  have ht : tailB f.four.2 = true := by
    unfold shortB at hs
    rw [h6] at hs
    simpa using hs
  have h4 := addr_pad h3.four ht
  rw [k4] at h4
  rw [h4, ← k1, ← k2, ← k3, ← k5, ← k6]
  exact (conf_of_parts h3 h2).symm
end Go.Proofs.Ytmkeljcjhcaigaa
