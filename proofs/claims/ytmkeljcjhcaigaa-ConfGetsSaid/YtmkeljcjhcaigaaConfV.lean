/- A config read out of its bytes, in plain Lean: there and back, and never of a part. No program in sight. -/
import Derived.Test.YtmkeljcjhcaigaaConfU
namespace Go.Proofs.Ytmkeljcjhcaigaa
open Go.RowKit
set_option linter.unusedVariables false
set_option linter.unusedSimpArgs false

section
variable {l : List UInt8} {s : St}
theorem confBack_F {f : ConfP} (hs : ConfShape f) (hr : RightC f) (h0 : s.2.2 = 0) (hl : s.1 ≤ l.length) {r : List UInt8}
    (e : l.drop s.1 = vputs (confNums f) ++ (f.mac ++ (f.four.2.take 4 ++ (f.six.2 ++ (vputs (confLast f) ++ r))))) :
    confBack l s f.vips = (adv s (vputs (confNums f) ++ (f.mac ++ (f.four.2.take 4 ++ (f.six.2 ++ vputs (confLast f))))).length, f) := by
  have hf : f.four.2.length = 16 := hs.four
  have h6 : f.six.2.length = 16 := hs.six
  have hm := hs.mac
  have hf4 : (f.four.2.take 4).length = 4 := by simp [hf]
  have h1 := nums_F (confNums f) s h0 hl (confNums_le hs hr) e
  rw [confNums_len hs] at h1
  have E1 := Eats.of h0 hl e
  have e1 := E1.rest e
  have h2 := take_F (n := 6) E1.ok' E1.le' (by rw [hm]; rfl) e1
  have E2 := Eats.of E1.ok' E1.le' e1
  have e2 := E2.rest e1
  have h3 := take_F (n := 4) E2.ok' E2.le' (by rw [hf4]; rfl) e2
  have E3 := Eats.of E2.ok' E2.le' e2
  have e3 := E3.rest e2
  have h4 := take_F (n := 16) E3.ok' E3.le' (by rw [h6]; rfl) e3
  have E4 := Eats.of E3.ok' E3.le' e3
  have e4 := E4.rest e3
  have h5 := nums_F (confLast f) _ E4.ok' E4.le' (confLast_le hr) e4
  rw [show (confLast f).length = 3 from rfl] at h5
  have ht : tailB f.four.2 = true := by
    have := hr.fours
    unfold shortB at this
    rw [hr.four6] at this
    simpa using this
  unfold confBack
  simp only [h1, h2, h3, h4, h5]
  rw [pad_full hm, pad_full h6, addr_pad hs.four ht, conf_of_parts hs hr, adv_adv, adv_adv, adv_adv, adv_adv]
  simp only [List.length_append, Nat.add_assoc]

theorem right_vips {f : ConfP} (hs : ConfShape f) (hr : RightC f) : f.vips.length ≤ 64 ∧ ∀ v ∈ f.vips, addrOk v.1 ∧ vipR v = true :=
  ⟨(vipsB_all hr.vips).1, fun v hv => ⟨hs.vips v hv, (vipsB_all hr.vips).2 v hv⟩⟩

theorem confPre_F {f : ConfP} (hs : ConfShape f) (hr : RightC f) (r : List UInt8) : confPreS (confPutS f ++ r) = some (adv (0, 0, 0) (confPutS f).length, f, f.vips.length) := by
  obtain ⟨hv64, hv⟩ := right_vips hs hr
  obtain ⟨l, hl⟩ : ∃ l, l = confPutS f ++ r := ⟨_, rfl⟩
  have e0 : l.drop ((0, 0, 0) : St).1 = vput f.vips.length ++ (f.vips.flatMap vipBytes ++ (vputs (confNums f) ++ (f.mac ++ (f.four.2.take 4 ++ (f.six.2 ++ (vputs (confLast f) ++ r)))))) := by
    rw [hl]
    simp [confPutS, List.append_assoc]
  rw [← hl]
  have h1 := number_F (s := (0, 0, 0)) rfl (Nat.zero_le _) (by omega : f.vips.length ≤ 1048577) e0
  have E1 := Eats.of (s := (0, 0, 0)) rfl (Nat.zero_le _) e0
  have e1 := E1.rest e0
  have h2 := vips_F f.vips _ E1.ok' E1.le' hv e1
  have E2 := Eats.of E1.ok' E1.le' e1
  have e2 := E2.rest e1
  have h3 := confBack_F hs hr E2.ok' E2.le' e2
  unfold confPreS manyS
  rw [h1]
  simp only
  rw [if_pos hv64, h2]
  simp only
  rw [h3, adv_adv, adv_adv]
  simp only [confPutS, List.length_append, Nat.add_assoc]

theorem confOf_nums {vs : List VipP} {ns : List Nat} {mac four six : List UInt8} {ms : List Nat} (h : ns.length = 9) : confNums (confOf vs ns mac four six ms) = ns := by
  match ns, h with
  | [a, b, c, d, e, f, g, i, j], _ => rfl
theorem confOf_last {vs : List VipP} {ns : List Nat} {mac four six : List UInt8} {ms : List Nat} (h : ms.length = 3) : confLast (confOf vs ns mac four six ms) = ms := by
  match ms, h with
  | [a, b, c], _ => rfl

theorem confBack_B {vs : List VipP} (ok : okS l s) (h0 : (confBack l s vs).1.2.2 = 0) (hr : RightC (confBack l s vs).2) :
    Eats l s (vputs (confNums (confBack l s vs).2) ++ ((confBack l s vs).2.mac ++ ((confBack l s vs).2.four.2.take 4 ++ ((confBack l s vs).2.six.2 ++ vputs (confLast (confBack l s vs).2))))) (confBack l s vs).1 ∧ ((∀ v ∈ vs, addrOk v.1) → ConfShape (confBack l s vs).2) := by
  obtain ⟨s1, ns, h1⟩ : ∃ s1 ns, numsS l 9 s = (s1, ns) := ⟨_, _, rfl⟩
  obtain ⟨s2, mac, h2⟩ : ∃ s2 mac, takeS l s1 6 = (s2, mac) := ⟨_, _, rfl⟩
  obtain ⟨s3, four, h3⟩ : ∃ s3 four, takeS l s2 4 = (s3, four) := ⟨_, _, rfl⟩
  obtain ⟨s4, six, h4⟩ : ∃ s4 six, takeS l s3 16 = (s4, six) := ⟨_, _, rfl⟩
  obtain ⟨s5, ms, h5⟩ : ∃ s5 ms, numsS l 3 s4 = (s5, ms) := ⟨_, _, rfl⟩
  have hb : confBack l s vs = (s5, confOf vs ns (pad mac 6) (pad four 16) (pad six 16) ms) := by
    unfold confBack
    simp only [h1, h2, h3, h4, h5]
  rw [hb] at h0 hr ⊢
  simp only at h0 hr ⊢
  have hns : ns.length = 9 := by have := numsS_len l 9 s; rw [h1] at this; exact this
  have hms : ms.length = 3 := by have := numsS_len l 3 s4; rw [h5] at this; exact this
  have e1 := confOf_nums (vs := vs) (mac := pad mac 6) (four := pad four 16) (six := pad six 16) (ms := ms) hns
  have e2 := confOf_last (vs := vs) (mac := pad mac 6) (four := pad four 16) (six := pad six 16) (ns := ns) hms
  have ok1 : okS l s1 := by have := ok_nums 9 s ok; rw [h1] at this; exact this
  have ok2 : okS l s2 := by have := ok_take ok1 6; rw [h2] at this; exact this
  have ok3 : okS l s3 := by have := ok_take ok2 4; rw [h3] at this; exact this
  have ok4 : okS l s4 := by have := ok_take ok3 16; rw [h4] at this; exact this
  have hlast : ∀ n ∈ ms, n ≤ 1048576 := by
    intro n hn
    rw [← e2] at hn
    have := hr.most; have := hr.keep; have := hr.batch
    simp only [confLast, List.mem_cons, List.mem_nil_iff, or_false] at hn
    rcases hn with rfl | rfl | rfl <;> omega
  have hnums : ∀ n ∈ ns, n ≤ 1048576 := by
    intro n hn
    rw [← e1] at hn
    have := hr.size; have := hr.room; have := hr.rise; have := hr.fall
    simp only [confNums, List.mem_cons, List.mem_append, List.mem_map, List.mem_nil_iff, or_false] at hn
    rcases hn with rfl | rfl | ⟨z, hz, rfl⟩ | rfl | rfl
    · omega
    · omega
    · have := (idleB_all hr.idle).2 z (List.mem_of_mem_drop hz); omega
    · omega
    · omega
  have E5 := nums_B 3 s4 ok4 (by rw [h5]; exact h0) (by rw [h5]; exact hlast)
  rw [h5] at E5
  obtain ⟨x4, hx4, E4, y4⟩ := take_B (l := l) (s := s3) (n := 16) (by decide) (by rw [h4]; exact E5.ok)
  rw [h4] at E4 y4
  obtain ⟨x3, hx3, E3, y3⟩ := take_B (l := l) (s := s2) (n := 4) (by decide) (by rw [h3]; exact E4.ok)
  rw [h3] at E3 y3
  obtain ⟨x2, hx2, E2, y2⟩ := take_B (l := l) (s := s1) (n := 6) (by decide) (by rw [h2]; exact E3.ok)
  rw [h2] at E2 y2
  have E1 := nums_B 9 s ok (by rw [h1]; exact E2.ok) (by rw [h1]; exact hnums)
  rw [h1] at E1
  simp only at y2 y3 y4
  subst y2 y3 y4
  have hx2' : mac.length = 6 := hx2
  have hx3' : four.length = 4 := hx3
  have hx4' : six.length = 16 := hx4
  have g1 : (confOf vs ns (pad mac 6) (pad four 16) (pad six 16) ms).mac = mac := pad_full hx2'
  have g2 : (confOf vs ns (pad mac 6) (pad four 16) (pad six 16) ms).four.2.take 4 = four := (pad_tail hx3').2
  have g3 : (confOf vs ns (pad mac 6) (pad four 16) (pad six 16) ms).six.2 = six := pad_full hx4'
  rw [e1, e2, g1, g2, g3]
  refine ⟨E1.trans (E2.trans (E3.trans (E4.trans E5))), fun hv => ?_⟩
  refine ⟨hv, ?_, ?_, ?_, ?_⟩
  · match ns, hns with
    | [a, b, c, d, e, f, g, i, j], _ => rfl
  · show (pad mac 6).length = 6
    exact pad_len (by omega)
  · show (pad four 16).length = 16
    exact pad_len (by omega)
  · show (pad six 16).length = 16
    exact pad_len (by omega)

theorem confPre_B {f : ConfP} {many : Nat} (h : confPreS l = some (s, f, many)) (h0 : s.2.2 = 0) (hm : f.vips.length = many) (hr : RightC f) : Eats l (0, 0, 0) (confPutS f) s ∧ ConfShape f := by
  have ok0 : okS l (0, 0, 0) := ⟨Nat.zero_le _, Nat.zero_le _, Nat.zero_le _⟩
  unfold confPreS at h
  split at h
  · cases h
  · rename_i p hp
    simp only [Option.some.injEq, Prod.mk.injEq] at h
    obtain ⟨h1, h2, h3⟩ := h
    have hv64 := (vipsB_all hr.vips).1
    have hvs : (confBack l p.1 p.2).2.vips = p.2 := rfl
    have hn : (numberS l (0, 0, 0)).2 = p.2.length := by rw [h3, ← hm, ← h2, hvs]
    unfold manyS at hp
    rw [if_pos (by rw [hn, ← hvs, h2]; exact hv64)] at hp
    have okn := ok_number ok0
    have okp : ∀ (k : Nat) (s s' : St) (vs : List VipP), okS l s → vipsS l k s = some (s', vs) → okS l s' := by
      intro k
      induction k with
      | zero =>
        intro s s' vs ok h
        simp only [vipsS, Option.some.injEq, Prod.mk.injEq] at h
        rw [← h.1]; exact ok
      | succ k ih =>
        intro s s' vs ok h
        unfold vipsS at h
        split at h
        · cases h
        · rcases hr : vipsS l k (vipS4 l s) with _ | ⟨s2, ws⟩
          · rw [hr] at h; cases h
          · rw [hr] at h
            simp only [Option.map_some, Option.some.injEq, Prod.mk.injEq] at h
            rw [← h.1]
            exact ih _ _ _ (ok_vip4 ok) hr
    have okp2 : okS l p.1 := okp _ _ p.1 p.2 okn hp
    rw [← h2] at hr
    have hb0 : (confBack l p.1 p.2).1.2.2 = 0 := by rw [h1]; exact h0
    obtain ⟨E3, hsh⟩ := confBack_B okp2 hb0 hr
    have hsz : p.1.2.2 = 0 := E3.ok
    obtain ⟨_, E2, hv⟩ := vips_B _ _ p.1 p.2 okn hp hsz
    have hsh := hsh hv
    have E1 := number_B (l := l) (s := (0, 0, 0)) E2.ok (Nat.zero_le _) (by rw [hn, ← hvs, h2]; omega)
    rw [hn] at E1
    rw [h1, h2] at E3
    rw [h2] at hsh
    refine ⟨?_, hsh⟩
    have hp2 : p.2 = f.vips := by rw [← hvs, h2]
    rw [hp2] at E1 E2
    exact E1.trans (E2.trans E3)

/-- What is read is right, and has just these bytes. -/
theorem confGet_B {f : ConfP} (h : confGetS l = some f) : l = confPutS f ∧ RightC f ∧ ConfShape f := by
  unfold confGetS at h
  split at h
  · cases h
  · rename_i p hp
    split at h
    · rename_i hc
      injection h with h
      obtain ⟨h1, h2, h3, h4⟩ := hc
      obtain ⟨h5, h6⟩ := endS_B h2
      rw [h6] at h2
      obtain ⟨s, d, many⟩ := p
      simp only at h h2 h3 h4 h5
      subst h
      have hr := rightB_iff.1 h4
      obtain ⟨E, hsh⟩ := confPre_B hp h2 h3 hr
      refine ⟨?_, hr, hsh⟩
      have e := E.eq
      have hle := E.le
      rw [E.to] at h5
      simp only [adv, Nat.zero_add] at h5 hle
      simp only [List.drop_zero, Nat.zero_add] at e
      rw [List.drop_of_length_le (by omega), List.append_nil] at e
      exact e
    · cases h
/-- A right config is read as it was. -/
theorem confGet_F {f : ConfP} (hs : ConfShape f) (hr : RightC f) : confGetS (confPutS f) = some f := by
  have h := confPre_F hs hr []
  rw [List.append_nil] at h
  unfold confGetS
  rw [h]
  simp only
  rw [endS_F (by simp [adv])]
  simp only [adv]
  rw [if_pos ⟨trivial, trivial, trivial, rightB_iff.2 hr⟩]
/-- No right config's bytes begin another one's. -/
theorem confPut_prefix {f d : ConfP} (hs : ConfShape f) (hr : RightC f) (hs' : ConfShape d) (hr' : RightC d) {r : List UInt8} (h : confPutS d = confPutS f ++ r) : f = d ∧ r = [] := by
  have h1 := confPre_F hs hr r
  have h2 := confPre_F hs' hr' []
  rw [List.append_nil, h, h1] at h2
  simp only [Option.some.injEq, Prod.mk.injEq] at h2
  have hd := h2.2.1
  subst hd
  refine ⟨rfl, ?_⟩
  have := congrArg List.length h
  rw [List.length_append] at this
  exact List.eq_nil_of_length_eq_zero (by omega)
theorem confGet_iff {l : List UInt8} {f : ConfP} : confGetS l = some f ↔ l = confPutS f ∧ RightC f ∧ ConfShape f :=
  ⟨confGet_B, fun ⟨h1, h2, h3⟩ => by rw [h1]; exact confGet_F h3 h2⟩
end
end Go.Proofs.Ytmkeljcjhcaigaa
