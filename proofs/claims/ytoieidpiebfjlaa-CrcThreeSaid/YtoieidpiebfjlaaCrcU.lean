/- The walk of chapter 3's statement Three. -/
import Derived.Test.YtoieidpiebfjlaaCrcL
import Derived.Deep.RegionHeld3
namespace Go.Proofs.Ytoieidpiebfjlaa
open Go.RowKit
set_option linter.unusedVariables false

theorem xor_u8 (a b : Nat) (ha : a < 256) (hb : b < 256) : bits .xor .u8 (a : Int) (b : Int) = ((a ^^^ b : Nat) : Int) := by
  have hx : a ^^^ b < 2 ^ 8 := Nat.xor_lt_two_pow (by omega) (by omega)
  show IntKind.u8.wrap ((BitVec.ofInt 8 (a : Int) ^^^ BitVec.ofInt 8 (b : Int)).toNat : Int) = _
  rw [BitVec.toNat_xor, BitVec.ofInt_natCast, BitVec.ofInt_natCast, BitVec.toNat_ofNat, BitVec.toNat_ofNat, Nat.mod_eq_of_lt (by omega), Nat.mod_eq_of_lt (by omega)]
  simp [IntKind.wrap, IntKind.bits, IntKind.signed]
  omega
theorem xor_u8b (a b : UInt8) : bits .xor .u8 (a.toNat : Int) (b.toNat : Int) = ((a ^^^ b).toNat : Int) := by
  rw [xor_u8 _ _ a.toNat_lt b.toNat_lt]
  simp

def zip3 (a b c : List UInt8) : List UInt8 := (a.zip (b.zip c)).map fun x => x.1 ^^^ x.2.1 ^^^ x.2.2
theorem zip3_length {a b c : List UInt8} (h1 : b.length = a.length) (h2 : c.length = a.length) : (zip3 a b c).length = a.length := by
  simp [zip3]
  omega
theorem zip3_get {a b c : List UInt8} {k : Nat} (h1 : k < a.length) (h2 : k < b.length) (h3 : k < c.length) : (zip3 a b c)[k]? = some (a[k] ^^^ b[k] ^^^ c[k]) := by
  rw [List.getElem?_eq_getElem (by simp [zip3]; omega)]
  simp [zip3]
theorem ofS_three {a b c : List UInt8} (h1 : b.length = a.length) (h2 : c.length = a.length) : ofS (zip3 a b c) = ofS a ^^^ ofS b ^^^ ofS c := by
  have hv : val (zip3 a b c) = val a ^^^ val b ^^^ val c := val_three a b c h1 h2
  rw [ofS_val, ofS_val, ofS_val, ofS_val, zip3_length h1 h2, h1, h2, hv]
  simp only [shN_xor]
  generalize shN (8 * a.length) (val a) = p
  generalize shN (8 * a.length) (val b) = q
  generalize shN (8 * a.length) (val c) = r
  generalize shN (8 * a.length) allOnes = s
  apply Nat.eq_of_testBit_eq
  intro i
  simp only [Nat.testBit_xor]
  cases Nat.testBit s i <;> cases Nat.testBit p i <;> cases Nat.testBit q i <;> cases Nat.testBit r i <;> cases Nat.testBit allOnes i <;> rfl

theorem take_next {α : Type} {xs : List α} {k : Nat} {v : α} (h : xs[k]? = some v) : xs.take (k + 1) = xs.take k ++ [v] := by rw [List.take_add_one, h]; rfl
theorem cell_alloc {w : World} {p : Addr} {v : Value} (h : w.cell? p = some v) (o : Obj) : (w.alloc o).cell? p = some v :=
  (World.cell?_alloc_lt w o p (World.block_lt_of_cell? w _ h)).trans h

set_option maxHeartbeats 1600000 in
set_option maxRecDepth 100000 in
theorem walk_crcThree (a0 : Option Addr) (len0 cap0 : Nat) (z0 : List Int) (a1 : Option Addr) (len1 cap1 : Nat) (z1 : List Int) (a2 : Option Addr) (len2 cap2 : Nat) (z2 : List Int) (w : World) (w0 : IsRow .u8 w a0 len0 cap0 z0) (w1 : IsRow .u8 w a1 len1 cap1 z1) (w2 : IsRow .u8 w a2 len2 cap2 z2) :
    Calls Try.prog 13 #[.slice a0 len0 cap0, .slice a1 len1 cap1, .slice a2 len2 cap2] w fun e w' => e = .returned (.bool true) ∧ Below w.heap.size w w' := by
  obtain ⟨l, rfl, _, _, hB⟩ := BS.of_row w0
  obtain ⟨m, rfl, _, _, hC⟩ := BS.of_row w1
  obtain ⟨n, rfl, _, _, hD⟩ := BS.of_row w2
  obtain ⟨i0, hi0, hz0, hz1, hz2⟩ := info_parts u8_info3
  clear w0 w1 w2
  have HB := Lib.hid hB
  have HC := Lib.hid hC
  have HD := Lib.hid hD
  clear hB hC hD
  by_cases hlen : 500 < l.length ∨ m.length ≠ l.length ∨ n.length ≠ l.length
  · have h1 : 500 < l.length ∨ (¬ 500 < l.length ∧ ((m.length : Int) != (l.length : Int)) = true) ∨ (¬ 500 < l.length ∧ ((m.length : Int) != (l.length : Int)) = false ∧ ((n.length : Int) != (l.length : Int)) = true) := by
      simp only [bne_iff_ne, bne_eq_false_iff_eq, ne_eq]
      omega
    clear hlen
    rcases h1 with h1 | ⟨h1, h2⟩ | ⟨h1, h2, h3⟩
    all_goals
      go_enter Try.func13, Try.ntmps13
      go_wp2_with fail
      refine (awake3_any _).mono ?_
      rintro e w1 ⟨rfl, hb1⟩
      go_wp2_with fail
      refine (awake3_any _).mono ?_
      rintro e w2 ⟨rfl, hb2⟩
      go_wp2
      go_ret
      exact ⟨rfl, bthen hb1 hb2⟩
  · have hl0 : l.length ≤ 500 := by omega
    have hml : m.length = l.length := by omega
    have hnl : n.length = l.length := by omega
    clear hlen
    obtain ⟨o, ho⟩ : ∃ o, ofS l = o := ⟨_, rfl⟩
    obtain ⟨p, hp⟩ : ∃ p, ofS m = p := ⟨_, rfl⟩
    obtain ⟨q, hq⟩ : ∃ q, ofS n = q := ⟨_, rfl⟩
    have ho32 : o < 4294967296 := by rw [← ho]; exact ofS_lt l
    have hp32 : p < 4294967296 := by rw [← hp]; exact ofS_lt m
    have hq32 : q < 4294967296 := by rw [← hq]; exact ofS_lt n
    have hx := ofS_three hml hnl
    rw [ho, hp, hq] at hx
    have hx1 := xor_u32 o p ho32 hp32
    have hx2 := xor_u32 (o ^^^ p) q (xor_lt32 ho32 hp32) hq32
    generalize o ^^^ p ^^^ q = u at *
    generalize o ^^^ p = v at *
    obtain ⟨xs, hxs⟩ : ∃ xs, zip3 l m n = xs := ⟨_, rfl⟩
    rw [hxs] at hx
    have hget : ∀ k (h : k < l.length) (h1 : k < m.length) (h2 : k < n.length), xs[k]? = some (l[k] ^^^ m[k] ^^^ n[k]) := fun k h h1 h2 => by rw [← hxs]; exact zip3_get h h1 h2
    have hxl : xs.length = l.length := by rw [← hxs]; exact zip3_length hml hnl
    have Hget := Lib.hid hget
    have Hml := Lib.hid hml
    have Hnl := Lib.hid hnl
    have Hxl := Lib.hid hxl
    have Hx := Lib.hid hx
    have Ho := Lib.hid ho
    have Hp := Lib.hid hp
    have Hq := Lib.hid hq
    clear hget hx ho hp hq hxl hxs
    have hmb : ((m.length : Int) != (l.length : Int)) = false := by simp [hml]
    have hnb : ((n.length : Int) != (l.length : Int)) = false := by simp [hnl]
    have hml' : l.length ≤ m.length := by omega
    have hnl' : l.length ≤ n.length := by omega
    have hml2 : m.length ≤ 500 := by omega
    have hnl2 : n.length ≤ 500 := by omega
    clear hml hnl
    go_enter Try.func13, Try.ntmps13
    go_wp2_with fail
    refine (awake3_any _).mono ?_
    rintro e w2 ⟨rfl, hb2⟩
    have hs2 := hb2.size
    go_wp2_with fail
    go_loopw [7, 8] (fun x i wr => ∃ (tk : List UInt8) (A : Option Addr) (c : Nat), tk.length ≤ l.length ∧ i = .int .i64 (tk.length : Int) ∧ x = .slice A tk.length c ∧ Below w.heap.size w wr ∧ Hid (tk = xs.take tk.length) ∧ Hid (wr.ownsRow w2.heap.size 5 1 (.slice A tk.length c) tk.length (bcells tk)) ∧ w2.heap.size ≤ wr.heap.size) (fun _ i _ => l.length - (intOf i).toNat)
    case atStart => exact ⟨[], none, 0, by simp, rfl, rfl, hb2, rfl, World.ownsRow_nil _ _ _ _, Nat.le_refl _⟩
    case round =>
      obtain ⟨tk, A, c, hk, rfl, rfl, hbel, htk, hown, hsz⟩ := hrel
      by_cases hlt : tk.length < l.length
      · have hltk : tk.length ≤ 500 := by omega
        obtain ⟨ad0, rfl, hn0, hc0⟩ := (HB.out.below hbel).at_ hlt
        obtain ⟨ad1, rfl, hn1, hc1⟩ := (HC.out.below hbel).at_ (show tk.length < m.length by omega)
        obtain ⟨ad2, rfl, hn2, hc2⟩ := (HD.out.below hbel).at_ (show tk.length < n.length by omega)
        have hg := Hget.out tk.length hlt (by omega) (by omega)
        have hx1 := xor_u8b l[tk.length] m[tk.length]
        have hx2 := xor_u8b (l[tk.length] ^^^ m[tk.length]) n[tk.length]
        have Hg := Lib.hid hg
        clear hg
        generalize l[tk.length] ^^^ m[tk.length] ^^^ n[tk.length] = v3 at *
        generalize l[tk.length] ^^^ m[tk.length] = v2 at *
        generalize (l[tk.length]).toNat = d0 at *
        generalize (m[tk.length]).toNat = d1 at *
        generalize (n[tk.length]).toNat = d2 at *
        have hk0 : (0 : Int) ≤ (tk.length : Int) := by omega
        have hkl : (tk.length : Int) < (l.length : Int) := by omega
        have hkm : (tk.length : Int) < (m.length : Int) := by omega
        have hkn : (tk.length : Int) < (n.length : Int) := by omega
        have hrow : ∀ g, (Value.slice A tk.length c).ownBlock = some g → w2.heap.size ≤ g := fun g hg => (hown.out.lt g hg).1
        go_wp2_with fail
        go_region_held3 (fun w' => w'.cell? (ad0.add tk.length) = some (.int .u8 (d0 : Int)) ∧ w'.cell? (ad1.add tk.length) = some (.int .u8 (d1 : Int)) ∧ w'.cell? (ad2.add tk.length) = some (.int .u8 (d2 : Int)))
          (first | exact ⟨hc0, hc1, hc2⟩ | exact ⟨cell_alloc hc0 _, cell_alloc hc1 _, cell_alloc hc2 _⟩ | exact hS)
          ((refine step_append_bytes _ (by rfl) _ _ 22 (by rfl) w2.heap.size 5 i0 (.int .u8 0) 1 Try.underlying22 hi0 hz0 hz1 hz2 rfl (.slice A tk.length c) tk (by rfl) ((hown.out.alloc _).drew) _ _ 1 _ [v3] (by rfl) (by rfl) (BS.drew (BS.one' _ _ _ rfl _)) (by simp [maxLen]; omega) (by simp; omega) (by simp; omega) ?_; intro A4 c4 w4 hown4 hg4 _; have hS : w4.cell? (ad0.add tk.length) = some (.int .u8 (d0 : Int)) ∧ w4.cell? (ad1.add tk.length) = some (.int .u8 (d1 : Int)) ∧ w4.cell? (ad2.add tk.length) = some (.int .u8 (d2 : Int)) := ⟨hg4.cell (cell_alloc hc0 _) (fun e => by have := hrow _ e.symm; rw [block_of_add] at this; omega), hg4.cell (cell_alloc hc1 _) (fun e => by have := hrow _ e.symm; rw [block_of_add] at this; omega), hg4.cell (cell_alloc hc2 _) (fun e => by have := hrow _ e.symm; rw [block_of_add] at this; omega)⟩))
        clear hS hc0 hc1 hc2 hx1 hx2
        have hlen4 : (tk ++ [v3]).length = tk.length + 1 := by simp
        have Hlen4 := Lib.hid hlen4
        clear hlen4
        go_wp2
        go_roundw
        case rel =>
          refine ⟨tk ++ [v3], A4, c4, by simp; omega, by simp, by simp, (hbel.alloc hbel.size _).drew.grown hg4 (by simp; omega) (fun g hg => Nat.le_trans hs2 (hrow g hg)), ?_, ?_, ?_⟩
          · show _ = _
            rw [Hlen4.out, take_next Hg.out, ← htk.out]
          · simpa [Hid] using hown4
          · have := hg4.size
            simp at this
            omega
        case measure => simp [intOf]; omega
      · have hle : xs.length ≤ tk.length := by rw [Hxl.out]; omega
        have hxe := htk.out
        rw [List.take_of_length_le hle] at hxe
        subst hxe
        have hll : tk.length = l.length := by omega
        have Hll := Lib.hid hll
        have hll2 : tk.length ≤ 500 := by omega
        clear htk hll
        go_wp2_with fail
        refine (of_eq _ _ _ tk _ _ rfl (BS.of_own hown.out).1 (Nat.le_refl _) (le_maxLen (by omega)) Hx.out).mono ?_
        rintro e w3 ⟨rfl, hb3⟩
        have hB3 := bthen hbel hb3
        go_wp2_with fail
        refine (of_eq _ _ _ l _ _ rfl (HB.out.below hB3) hB3.size (le_maxLen (by omega)) Ho.out).mono ?_
        rintro e w4 ⟨rfl, hb4⟩
        have hB4 := bthen hB3 hb4
        go_wp2_with fail
        refine (of_eq _ _ _ m _ _ rfl (HC.out.below hB4) hB4.size (le_maxLen (by omega)) Hp.out).mono ?_
        rintro e w5 ⟨rfl, hb5⟩
        have hB5 := bthen hB4 hb5
        go_wp2_with fail
        refine (of_eq _ _ _ n _ _ rfl (HD.out.below hB5) hB5.size (le_maxLen (by omega)) Hq.out).mono ?_
        rintro e w6 ⟨rfl, hb6⟩
        have hB6 := bthen hB5 hb6
        go_wp2
        go_ret
        exact ⟨rfl, hB6⟩
end Go.Proofs.Ytoieidpiebfjlaa
