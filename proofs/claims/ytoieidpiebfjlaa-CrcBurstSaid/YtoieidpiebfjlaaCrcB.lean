/- The walk of chapter 3's statement Burst. -/
import Derived.Test.YtoieidpiebfjlaaCrcL
namespace Go.Proofs.Ytoieidpiebfjlaa
open Go.RowKit
set_option linter.unusedVariables false

theorem xor_u8' (a b : Nat) (ha : a < 256) (hb : b < 256) : bits .xor .u8 (a : Int) (b : Int) = ((a ^^^ b : Nat) : Int) := by
  have hx : a ^^^ b < 2 ^ 8 := Nat.xor_lt_two_pow (by omega) (by omega)
  show IntKind.u8.wrap ((BitVec.ofInt 8 (a : Int) ^^^ BitVec.ofInt 8 (b : Int)).toNat : Int) = _
  rw [BitVec.toNat_xor, BitVec.ofInt_natCast, BitVec.ofInt_natCast, BitVec.toNat_ofNat, BitVec.toNat_ofNat, Nat.mod_eq_of_lt (by omega), Nat.mod_eq_of_lt (by omega)]
  simp [IntKind.wrap, IntKind.bits, IntKind.signed]
  omega

theorem mul_pow_xor (k a b : Nat) : 2 ^ k * (a ^^^ b) = 2 ^ k * a ^^^ 2 ^ k * b := by
  simp only [Nat.mul_comm (2 ^ k), ← Nat.shiftLeft_eq, Nat.shiftLeft_xor_distrib]

theorem wrap_u8' (n : Nat) (h : n < 256) : IntKind.u8.wrap (n : Int) = (n : Int) := by
  simp [IntKind.wrap, IntKind.bits, IntKind.signed]; omega
theorem toNat_u8' {n : Nat} (h : n < 2 ^ 8) : ((n : Nat) : Int) = ((UInt8.ofNat n).toNat : Int) := by
  rw [UInt8.toNat_ofNat']
  rw [Nat.mod_eq_of_lt h]
theorem bcells_set (l : List UInt8) (j : Nat) (c : UInt8) : bcells (l.set j c) = (bcells l).set j (.int .u8 (c.toNat : Int)) := by
  rw [bcells, List.map_set]
  rfl
/-- A bit of one byte turned: that bit of the whole. -/
theorem val_set : ∀ (l : List UInt8) (j t : Nat) (h : j < l.length), t < 8 → val (l.set j (UInt8.ofNat ((l[j]).toNat ^^^ 2 ^ t))) = val l ^^^ 2 ^ (8 * j + t)
  | c :: l, 0, t, _, ht => by
    have hc : c.toNat < 2 ^ 8 := c.toNat_lt
    have h2 : 2 ^ t < 2 ^ 8 := Nat.pow_lt_pow_right (by omega) ht
    have hx : c.toNat ^^^ 2 ^ t < 2 ^ 8 := Nat.xor_lt_two_pow hc h2
    have e : (UInt8.ofNat (c.toNat ^^^ 2 ^ t)).toNat = c.toNat ^^^ 2 ^ t := by
      rw [UInt8.toNat_ofNat']
      exact Nat.mod_eq_of_lt hx
    simp only [List.set_cons_zero, List.getElem_cons_zero, val]
    rw [e, show 256 = 2 ^ 8 from rfl, ← xor_low 8 _ _ hx, ← xor_low 8 _ _ hc, Nat.mul_zero, Nat.zero_add, Nat.xor_assoc, Nat.xor_assoc, Nat.xor_comm (2 ^ t)]
  | c :: l, j + 1, t, h, ht => by
    have hc : c.toNat < 2 ^ 8 := c.toNat_lt
    have ih := val_set l j t (by simpa using h) ht
    simp only [List.set_cons_succ, List.getElem_cons_succ, val]
    rw [ih, show 256 = 2 ^ 8 from rfl, ← xor_low 8 _ _ hc, ← xor_low 8 _ _ hc, Nat.xor_assoc]
    congr 1
    rw [show 8 * (j + 1) + t = 8 + (8 * j + t) by omega, Nat.pow_add 2 8, mul_pow_xor]

theorem low_odd {t i : Nat} (h : t / 2 ^ i % 2 = 1) : t % 2 ^ (i + 1) = t % 2 ^ i ^^^ 2 ^ i := by
  have h1 := xor_low i (t % 2 ^ i) 1 (Nat.mod_lt _ (Nat.two_pow_pos i))
  rw [Nat.mul_one] at h1
  rw [h1, Nat.pow_succ, Nat.mod_mul, h, Nat.mul_one]
theorem low_even {t i : Nat} (h : t / 2 ^ i % 2 = 0) : t % 2 ^ (i + 1) = t % 2 ^ i := by
  rw [Nat.pow_succ, Nat.mod_mul, h, Nat.mul_zero, Nat.add_zero]

/-- A burst is seen. -/
theorem ofS_burst {x b : List UInt8} {t k : Nat} (hl : x.length = b.length) (hv : val x = val b ^^^ t * 2 ^ k) (ht : t < 4294967296) (h0 : t ≠ 0) (hk : k + 32 ≤ 8 * b.length) : ofS x ≠ ofS b := by
  intro h
  rw [ofS_val, ofS_val, hl, hv] at h
  have h1 := congrArg (· ^^^ allOnes) h
  simp only [xor_xor_self] at h1
  rw [← Nat.xor_assoc, shN_xor] at h1
  have h2 := congrArg (shN (8 * b.length) (allOnes ^^^ val b) ^^^ ·) h1
  simp only [← Nat.xor_assoc, Nat.xor_self, Nat.zero_xor] at h2
  rw [show 8 * b.length = k + (8 * b.length - k) by omega, shN_add, Nat.mul_comm t, shN_pow] at h2
  exact shN_ne _ ht h0 h2

set_option maxHeartbeats 800000 in
set_option maxRecDepth 100000 in
theorem walk_crcBurst (a0 : Option Addr) (len0 cap0 : Nat) (z0 : List Int) (a1 a2 : Int) (w : World) (w0 : IsRow .u8 w a0 len0 cap0 z0) (w1 : (Lit.int .u16 a1).wf = true) (w2 : (Lit.int .u32 a2).wf = true) :
    Calls Try.prog 12 #[.slice a0 len0 cap0, .int .u16 a1, .int .u32 a2] w fun e w' => e = .returned (.bool true) ∧ Below w.heap.size w w' := by
  obtain ⟨l, rfl, _, _, hB⟩ := BS.of_row w0
  obtain ⟨q, rfl, hq⟩ := u16_of_wf w1
  obtain ⟨t, rfl, ht⟩ := u32_of_wf w2
  obtain ⟨i0, hi0, hz0, hz1, hz2⟩ := info_parts u8_info3
  clear w0 w1 w2
  have HB := Lib.hid hB
  clear hB
  by_cases hlen : 500 < l.length ∨ l.length < 4 ∨ t = 0
  · have h1 : 500 < l.length ∨ (¬ 500 < l.length ∧ l.length < 4) ∨ (¬ 500 < l.length ∧ ¬ l.length < 4 ∧ ((t : Int) == 0) = true) := by
      simp only [beq_iff_eq]
      omega
    clear hlen
    rcases h1 with h1 | ⟨h1, h2⟩ | ⟨h1, h2, h3⟩
    all_goals
      go_enter Try.func12, Try.ntmps12
      go_wp2_with fail
      refine (awake3_any _).mono ?_
      rintro e w1 ⟨rfl, hb1⟩
      go_wp2_with fail
      refine (awake3_any _).mono ?_
      rintro e w2 ⟨rfl, hb2⟩
      go_wp2
      go_ret
      exact ⟨rfl, bthen hb1 hb2⟩
  · have hl0 : l.length ≤ 500 := by omega
    have hl1 : 4 ≤ l.length := by omega
    have ht0 : ((t : Int) == 0) = false := by simp; omega
    have Ht0 : Hid (t ≠ 0) := fun h => hlen (.inr (.inr h))
    clear hlen
    obtain ⟨o, ho⟩ : ∃ o, ofS l = o := ⟨_, rfl⟩
    have Ho := Lib.hid ho
    clear ho
    obtain ⟨k, hk⟩ : ∃ k, q % (8 * l.length - 31) = k := ⟨_, rfl⟩
    have hk1 : k + 32 ≤ 8 * l.length := by
      have : q % (8 * l.length - 31) < 8 * l.length - 31 := Nat.mod_lt _ (by omega)
      omega
    have hki : (q : Int) % (8 * (l.length : Int) - 31) = (k : Int) := by
      rw [← hk, show (8 * (l.length : Int) - 31) = ((8 * l.length - 31 : Nat) : Int) by omega, ← Int.natCast_emod]
    clear hk
    go_enter Try.func12, Try.ntmps12
    go_wp2_with fail
    refine (awake3_any _).mono ?_
    rintro e w2 ⟨rfl, hb2⟩
    have hs2 := hb2.size
    go_wp2_with (at_builtin; refine wpList_append_bytes _ rfl _ _ 22 rfl w2.heap.size 5 i0 (.int .u8 0) 1 Try.underlying22 hi0 hz0 hz1 hz2 rfl (.slice (some ⟨w2.heap.size, 0, none⟩) 0 0) [] rfl (own_none _ _ _ (Nat.le_refl _) _ rfl) w.heap.size a0 _ cap0 l rfl rfl ((HB.out.below hb2).alloc hs2 _) (by simp [maxLen]; omega) (by simp; omega) (by simp) ?_; intro A3 c3 w3 hown3 hg3 _; have hb3 : Below w2.heap.size w2 w3 := ((Below.refl _ _).alloc (Nat.le_refl _) _).grown hg3 (by simp) (by intro k hk; simp [Value.ownBlock] at hk; omega))
    rw [hki]
    clear hki
    have hB3 := bthen hb2 hb3
    obtain ⟨g, cap, hv3, hg2, hg3'⟩ := hown3.form (by simp; omega)
    have hA3 : A3 = some ⟨g, 0, none⟩ := by injection hv3
    have hc3 : c3 = cap := by injection hv3
    subst hA3 hc3
    clear hv3
    have hk0 : (0 : Int) ≤ (k : Int) := by omega
    have hown3' : Hid (w3.ownsRow w2.heap.size 5 1 (.slice (some ⟨g, 0, none⟩) l.length c3) l.length (bcells l)) := by simpa [Hid] using hown3
    clear hown3 hg3
    have hcap : l.length ≤ c3 := by
      obtain ⟨A, c, e, h1, _⟩ := own_slice hown3'.out
      injection e with _ _ e
      omega
    go_loopw [9] (fun i wr => ∃ (j : Nat) (xs : List UInt8), j ≤ 32 ∧ i = .int .i64 (j : Int) ∧ Below w.heap.size w wr ∧ Hid (xs.length = l.length) ∧ Hid (val xs = val l ^^^ t % 2 ^ j * 2 ^ k) ∧ Hid (wr.ownsRow w2.heap.size 5 1 (.slice (some ⟨g, 0, none⟩) l.length c3) l.length (bcells xs))) (fun i _ => 32 - (intOf i).toNat)
    case atStart => exact ⟨0, l, by omega, rfl, hB3, rfl, by simp [Hid, Nat.mod_one], hown3'⟩
    case round =>
      obtain ⟨j, xs, hj, rfl, hbel, hxl, hval, hown⟩ := hrel
      by_cases hlt : j < 32
      · have hltI : decide ((j : Int) < 32) = true := decide_eq_true (by omega)
        have hj0 : (0 : Int) ≤ (j : Int) := by omega
        have hand : bits .and .u32 ((t : Int) / 2 ^ j) 1 = ((t / 2 ^ j % 2 : Nat) : Int) := by
          have h := and1_u32 (t / 2 ^ j) (Nat.lt_of_le_of_lt (Nat.div_le_self _ _) ht)
          rw [← h]
          simp
        rcases Nat.mod_two_eq_zero_or_one (t / 2 ^ j) with hb | hb
        · have hval' : Hid (val xs = val l ^^^ t % 2 ^ (j + 1) * 2 ^ k) := by
            show _ = _
            rw [hval.out, low_even hb]
          rw [hb] at hand
          clear hb
          go_wp2
          go_roundw
          case rel => exact ⟨j + 1, xs, by omega, by go_num, hbel, hxl, hval', hown⟩
          case measure => simp [intOf]; omega
        · have hq8 : (k + j) / 8 < l.length := by omega
          have hqx : (k + j) / 8 < xs.length := by have := hxl.out; omega
          have hc := hown.out.cellAt ((k + j) / 8) (by omega)
          have hc2 : (bcells xs)[(k + j) / 8]? = some (.int .u8 ((xs[(k + j) / 8]).toNat : Int)) := by
            rw [bcells, List.getElem?_map, List.getElem?_eq_getElem hqx]
            rfl
          rw [hc2] at hc
          have hf := hown.out.frozenAt ((k + j) / 8)
          have hset := val_set xs ((k + j) / 8) ((k + j) % 8) hqx (by omega)
          have hval' : Hid (val (xs.set ((k + j) / 8) (UInt8.ofNat ((xs[(k + j) / 8]).toNat ^^^ 2 ^ ((k + j) % 8)))) = val l ^^^ t % 2 ^ (j + 1) * 2 ^ k) := by
            show _ = _
            rw [hset, hval.out, low_odd hb, show 8 * ((k + j) / 8) + (k + j) % 8 = j + k by omega, Nat.xor_assoc]
            congr 1
            rw [Nat.mul_comm _ (2 ^ k), Nat.mul_comm _ (2 ^ k), mul_pow_xor, Nat.pow_add, Nat.mul_comm (2 ^ j)]
          rw [hb] at hand
          have hd8 := (xs[(k + j) / 8]).toNat_lt
          have hp8 : 2 ^ ((k + j) % 8) < 256 := by
            have : 2 ^ ((k + j) % 8) < 2 ^ 8 := Nat.pow_lt_pow_right (by omega) (by omega)
            omega
          have hx := xor_u8' _ _ hd8 hp8
          clear hset hb hc2
          have hw8 : (2 : Int) ^ ((k + j) % 8) % 256 = ((2 ^ ((k + j) % 8) : Nat) : Int) := by
            have e : ((2 : Int) ^ ((k + j) % 8)) = ((2 ^ ((k + j) % 8) : Nat) : Int) := by simp
            rw [e]
            exact Int.emod_eq_of_lt (Int.natCast_nonneg _) (Int.ofNat_lt.2 hp8)
          have hst := hown.out.stored ((k + j) / 8) (.int .u8 (((xs[(k + j) / 8]).toNat ^^^ 2 ^ ((k + j) % 8) : Nat) : Int))
          have Hx := Lib.hid hx
          have Hw8 := Lib.hid hw8
          have Hst := Lib.hid hst
          clear hx hw8 hst
          go_wp2
          go_roundw
          case rel =>
            refine ⟨j + 1, xs.set ((k + j) / 8) (UInt8.ofNat ((xs[(k + j) / 8]).toNat ^^^ 2 ^ ((k + j) % 8))), by omega, by go_num, hbel.setCell (by simp; omega) _, ?_, hval', ?_⟩
            · show _ = _
              rw [List.length_set]
              exact hxl.out
            · show World.ownsRow _ _ _ _ _ _ _
              rw [Hw8.out, Hx.out, bcells_set, ← toNat_u8' (Nat.xor_lt_two_pow (n := 8) hd8 (by omega))]
              exact Hst.out.1
          case measure => simp [intOf]; omega
      · obtain rfl : j = 32 := by omega
        have hv : val xs = val l ^^^ t * 2 ^ k := by rw [hval.out, Nat.mod_eq_of_lt ht]
        have hne := ofS_burst hxl.out hv ht Ht0.out hk1
        have hsame : (xs == l) = false := beq_eq_false_iff_ne.2 (fun e => hne (by rw [e]))
        obtain ⟨p, hp⟩ : ∃ p, ofS xs = p := ⟨_, rfl⟩
        rw [hp, Ho.out] at hne
        have hpo : ((p : Int) != (o : Int)) = true := by rw [bne_iff_ne]; omega
        have Hp := Lib.hid hp
        have Hxl := Lib.hid hxl.out
        have Hown := Lib.hid hown.out
        have hxs : xs.length = l.length := hxl.out
        have hBx : Hid (BS wr wr.heap.size (some ⟨g, 0, none⟩) xs) := (BS.of_own Hown.out).1
        clear hxl hval hv hp hne hown hown3' hxs
        go_wp2_with fail
        refine (of_eq _ _ _ xs _ _ Hxl.out.symm hBx.out (Nat.le_refl _) (le_maxLen (by omega)) Hp.out).mono ?_
        rintro e w4 ⟨rfl, hb4⟩
        have hB4 := bthen hbel hb4
        go_wp2_with fail
        refine (of_eq _ _ _ l _ _ rfl (HB.out.below hB4) hB4.size (le_maxLen (by omega)) Ho.out).mono ?_
        rintro e w5 ⟨rfl, hb5⟩
        have hB5 := bthen hB4 hb5
        go_wp2_with fail
        refine (same_any _ _ _ xs _ _ _ l _ wr.heap.size w.heap.size Hxl.out.symm rfl (hBx.out.below (bthen hb4 hb5)) (HB.out.below hB5)).mono ?_
        rintro e w6 ⟨rfl, rfl⟩
        go_wp2
        go_ret
        exact ⟨rfl, hB5⟩
end Go.Proofs.Ytoieidpiebfjlaa
