/- A config read out of its bytes, in plain Lean: the whole. No program in sight. -/
import Derived.Test.YtmkeljcjhcaigaaConfQ
namespace Go.Proofs.Ytmkeljcjhcaigaa
open Go.RowKit
set_option linter.unusedVariables false

section
variable {l : List UInt8} {s : St}
theorem ok_takeAddr (h : okS l s) : okS l (takeAddrS l s).1 := by
  unfold takeAddrS
  split
  · exact ok_take (ok_num h _ _) _
  · split
    · exact ok_take (ok_num h _ _) _
    · exact ok_num h _ _
theorem ok_vip4 (h : okS l s) : okS l (vipS4 l s) := ok_num (ok_num (ok_num (ok_takeAddr h) _ _) _ _) _ _
theorem ok_number (h : okS l s) : okS l (numberS l s).1 := ok_var h
theorem vips_F : ∀ (vs : List VipP) (s : St), s.2.2 = 0 → s.1 ≤ l.length → (∀ v ∈ vs, addrOk v.1 ∧ vipR v = true) → ∀ {r : List UInt8}, l.drop s.1 = vs.flatMap vipBytes ++ r → vipsS l vs.length s = some (adv s (vs.flatMap vipBytes).length, vs)
  | [], s, _, _, _, _, _ => rfl
  | v :: vs, s, h0, hl, hv, r, e => by
    rw [List.flatMap_cons, List.append_assoc] at e
    obtain ⟨h1, h2⟩ := vip_F h0 hl (hv v (by simp)).1 (hv v (by simp)).2 e
    have E1 := Eats.of h0 hl e
    have ih := vips_F vs _ E1.ok' E1.le' (fun u hu => hv u (by simp [hu])) (E1.rest e)
    rw [List.length_cons, vipsS, h1]
    simp only
    rw [h2, ih]
    simp [adv_adv]
theorem vips_B : ∀ (k : Nat) (s s' : St) (vs : List VipP), okS l s → vipsS l k s = some (s', vs) → s'.2.2 = 0 → vs.length = k ∧ Eats l s (vs.flatMap vipBytes) s' ∧ ∀ v ∈ vs, addrOk v.1
  | 0, s, s', vs, ok, h, h0 => by
    simp only [vipsS, Option.some.injEq, Prod.mk.injEq] at h
    obtain ⟨rfl, rfl⟩ := h
    exact ⟨rfl, Eats.nil h0 ok.1, by simp⟩
  | k + 1, s, s', vs, ok, h, h0 => by
    unfold vipsS at h
    split at h
    · cases h
    · rename_i v hv
      rcases hr : vipsS l k (vipS4 l s) with _ | ⟨s2, ws⟩
      · rw [hr] at h; cases h
      · rw [hr] at h
        simp only [Option.map_some, Option.some.injEq, Prod.mk.injEq] at h
        obtain ⟨rfl, rfl⟩ := h
        obtain ⟨h1, E2, h3⟩ := vips_B k _ _ _ (ok_vip4 ok) hr h0
        obtain ⟨E1, h4⟩ := vip_B hv E2.ok
        refine ⟨by simp [h1], ?_, ?_⟩
        · rw [List.flatMap_cons]; exact E1.trans E2
        · intro u hu
          rcases List.mem_cons.1 hu with rfl | hu
          · exact h4
          · exact h3 u hu

theorem number_F (h0 : s.2.2 = 0) (hl : s.1 ≤ l.length) {m : Nat} (hm : m ≤ 1048577) {r : List UInt8} (e : l.drop s.1 = vput m ++ r) : numberS l s = (adv s (vput m).length, m) := by
  unfold numberS
  rw [var_F h0 hl (by omega) e, Nat.min_eq_left hm]
theorem number_B (h0 : (numberS l s).1.2.2 = 0) (hl : s.1 ≤ l.length) (hm : (numberS l s).2 ≤ 1048576) : Eats l s (vput (numberS l s).2) (numberS l s).1 := by
  have h := var_B (l := l) (s := s) h0 hl
  have e : (numberS l s).2 = (varS l s).2 := by
    unfold numberS at hm ⊢
    simp only at hm ⊢
    omega
  rw [e]
  exact h.2
theorem nums_F : ∀ (ns : List Nat) (s : St), s.2.2 = 0 → s.1 ≤ l.length → (∀ n ∈ ns, n ≤ 1048577) → ∀ {r : List UInt8}, l.drop s.1 = vputs ns ++ r → numsS l ns.length s = (adv s (vputs ns).length, ns)
  | [], s, _, _, _, _, _ => rfl
  | n :: ns, s, h0, hl, hn, r, e => by
    rw [vputs, List.append_assoc] at e
    have h1 := number_F h0 hl (hn n (by simp)) e
    have E1 := Eats.of h0 hl e
    have ih := nums_F ns _ E1.ok' E1.le' (fun u hu => hn u (by simp [hu])) (E1.rest e)
    rw [List.length_cons, numsS, h1]
    simp only
    rw [ih]
    simp [adv_adv, vputs]
theorem ok_nums : ∀ (k : Nat) (s : St), okS l s → okS l (numsS l k s).1
  | 0, s, h => h
  | k + 1, s, h => ok_nums k _ (ok_number h)
theorem nums_B : ∀ (k : Nat) (s : St), okS l s → (numsS l k s).1.2.2 = 0 → (∀ n ∈ (numsS l k s).2, n ≤ 1048576) → Eats l s (vputs (numsS l k s).2) (numsS l k s).1
  | 0, s, ok, h0, _ => Eats.nil h0 ok.1
  | k + 1, s, ok, h0, hn => by
    have E2 := nums_B k (numberS l s).1 (ok_number ok) h0 (fun n h => hn n (by simp [numsS, h]))
    have E1 := number_B (l := l) (s := s) E2.ok ok.1 (hn _ (by simp [numsS]))
    exact E1.trans E2
end

/-- What a right config has. -/
structure RightC (f : ConfP) : Prop where
  idle : idleB f.idle = true
  vips : vipsB f.vips = true
  size : 2 ≤ f.size ∧ f.size ≤ 65537
  prime : primeB f.size.toNat = true
  room : 1 ≤ f.room ∧ f.room ≤ 4096
  rise : 1 ≤ f.rise ∧ f.rise ≤ 100
  fall : 1 ≤ f.fall ∧ f.fall ≤ 100
  four6 : f.four.1 = false
  fours : shortB f.four = true
  six6 : f.six.1 = true
  most : 1000 ≤ f.most ∧ f.most ≤ 1048576
  keep : 1 ≤ f.keep ∧ f.keep ≤ 100
  batch : 1 ≤ f.batch ∧ f.batch ≤ 1000
theorem rightB_iff {f : ConfP} : rightB f = true ↔ RightC f := by
  unfold rightB
  simp only [Bool.and_eq_true, inB_iff, Bool.not_eq_true']
  constructor
  · rintro ⟨h1, h2, h3, h4, h5, h6, h7, h8, h9, h10, h11, h12, h13⟩
    exact ⟨h1, h2, h3, h4, h5, h6, h7, h8, h9, h10, h11, h12, h13⟩
  · rintro ⟨h1, h2, h3, h4, h5, h6, h7, h8, h9, h10, h11, h12, h13⟩
    exact ⟨h1, h2, h3, h4, h5, h6, h7, h8, h9, h10, h11, h12, h13⟩
theorem vipsB_all {vs : List VipP} (h : vipsB vs = true) : vs.length ≤ 64 ∧ ∀ v ∈ vs, vipR v = true := by
  rw [vipsB_iff] at h
  refine ⟨h.1, fun v hv => ?_⟩
  obtain ⟨i, hi, rfl⟩ := List.getElem_of_mem hv
  have := h.2 i hi
  unfold vipAt at this
  rw [List.getElem?_eq_getElem hi] at this
  simp only [Bool.and_eq_true] at this
  exact this.1
section
variable {l : List UInt8}
theorem conf_of_parts {f : ConfP} (hs : ConfShape f) (hr : RightC f) : confOf f.vips (confNums f) f.mac f.four.2 f.six.2 (confLast f) = f := by
  obtain ⟨vips, size, room, idle, rise, fall, mac, ⟨four1, four2⟩, ⟨six1, six2⟩, most, keep, batch⟩ := f
  have hi := hs.idle
  have h4 := hr.four6
  have h6 := hr.six6
  have hid := idleB_all hr.idle
  have := hr.size; have := hr.room; have := hr.rise; have := hr.fall; have := hr.most; have := hr.keep; have := hr.batch
  simp only at *
  subst h4 h6
  match idle, hi with
  | [a, b, c, d, e, g], _ =>
    obtain ⟨hz, hall⟩ := hid
    simp only [List.head?_cons, Option.some.injEq] at hz
    subst hz
    have hb := hall b (by simp); have hc := hall c (by simp); have hd := hall d (by simp); have he := hall e (by simp); have hg := hall g (by simp)
    simp only [confOf, confNums, confLast, List.drop_succ_cons, List.drop_zero, List.map_cons, List.map_nil, List.cons_append, List.nil_append, List.getD_cons_zero, List.getD_cons_succ, List.take_succ_cons, List.take_zero, ConfP.mk.injEq, List.cons.injEq, Int.ofNat_eq_natCast]
    refine ⟨trivial, by omega, by omega, ⟨trivial, by omega, by omega, by omega, by omega, by omega, trivial⟩, by omega, by omega, trivial, trivial, trivial, by omega, by omega, by omega⟩
theorem confNums_len {f : ConfP} (hs : ConfShape f) : (confNums f).length = 9 := by simp [confNums, hs.idle]
theorem confNums_le {f : ConfP} (hs : ConfShape f) (hr : RightC f) : ∀ n ∈ confNums f, n ≤ 1048577 := by
  intro n hn
  have := hr.size; have := hr.room; have := hr.rise; have := hr.fall
  simp only [confNums, List.mem_cons, List.mem_append, List.mem_map, List.mem_nil_iff, or_false] at hn
  rcases hn with rfl | rfl | ⟨z, hz, rfl⟩ | rfl | rfl
  · omega
  · omega
  · have := (idleB_all hr.idle).2 z (List.mem_of_mem_drop hz); omega
  · omega
  · omega
theorem confLast_le {f : ConfP} (hr : RightC f) : ∀ n ∈ confLast f, n ≤ 1048577 := by
  intro n hn
  have := hr.most; have := hr.keep; have := hr.batch
  simp only [confLast, List.mem_cons, List.mem_nil_iff, or_false] at hn
  rcases hn with rfl | rfl | rfl <;> omega
end
end Go.Proofs.Ytmkeljcjhcaigaa
