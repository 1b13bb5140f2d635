/- An address read at a place, in plain Lean: the program's reader and the document's GetAddr say the same; what is laid is read. No program in sight but the contracts. -/
import Derived.Test.YtmkeljcjhcaigaaCwC
import Derived.Test.YtmkeljcjhcaigaaConfW
namespace Go.Proofs.Ytmkeljcjhcaigaa
open Go.RowKit
set_option linter.unusedVariables false

theorem addr_szA {a : AddrP} (ha : addrOk a) : (Try.prog.info? 27).map (·.size) = some (addrCs a).toArray.size := by
  rw [List.size_toArray]; exact addr_sz ha
theorem getAddr_ok (l : List UInt8) : addrOk (getAddrS l).1 := by
  rcases l with _ | ⟨c, r⟩
  · rfl
  · simp only [getAddrS]
    split
    · split
      · show (r.take 16).length = 16
        rw [List.length_take]; omega
      · rfl
    · split
      · split
        · exact pad_len (by rw [List.length_take]; omega)
        · rfl
      · rfl
theorem num_none {l : List UInt8} {n : Nat} (h : l.drop n = []) : numS l (n, 0, 0) 1 true = (failS (n, 0, 0) 2, 0) := by
  have hl : l.length ≤ n := List.drop_eq_nil_iff.1 h
  unfold numS
  rw [if_neg (by decide)]
  have hc : cutS l (n, 0, 0) 0 (1 : Int).toNat = (failS (n, 0, 0) 2, []) := by
    unfold cutS
    rw [if_neg (by simp), if_pos (show l.length < n + 0 + (1 : Int).toNat by have : (1 : Int).toNat = 1 := rfl; omega)]
  rw [hc]
  rfl
theorem take_few {l : List UInt8} {s : St} {k : Nat} (h0 : s.2.2 = 0) (h : l.length < s.1 + k) : (takeS l s (k : Int)).2 = [] := by
  unfold takeS cutS
  rw [if_neg (by omega), if_neg (by simp [h0]), Int.toNat_natCast, if_pos (by omega)]
theorem take_at {l : List UInt8} {n : Nat} (hn : n ≤ l.length) :
    (0 < (getAddrS (l.drop n)).2 → takeAddrS l (n, 0, 0) = ((n + (getAddrS (l.drop n)).2, 0, 0), some (getAddrS (l.drop n)).1)) ∧
    ((getAddrS (l.drop n)).2 = 0 → (takeAddrS l (n, 0, 0)).2 = none ∧ (getAddrS (l.drop n)).1 = addr0) := by
  rcases hd : l.drop n with _ | ⟨c, r⟩
  · refine ⟨fun h => absurd h (by simp [getAddrS]), fun _ => ⟨?_, rfl⟩⟩
    unfold takeAddrS
    rw [num_none hd]
    rfl
  · have hlen : l.length = n + (r.length + 1) := by
      have := congrArg List.length hd
      rw [List.length_drop, List.length_cons] at this
      omega
    have e1 : l.drop (n, (0 : Nat), (0 : Nat)).1 = [c] ++ r := hd
    have h1 := num_F (s := (n, 0, 0)) (n := 1) rfl hn rfl (by simp) (by simp) true e1
    have E1 := Eats.of (s := (n, 0, 0)) rfl hn e1
    have e2 := E1.rest e1
    rw [getS_one] at h1
    unfold takeAddrS
    rw [h1]
    simp only
    by_cases h6 : c = 6
    · subst h6
      rw [if_pos (show (6 : UInt8).toNat = 6 from rfl)]
      by_cases h16 : 16 ≤ r.length
      · have e3 : l.drop (adv (n, 0, 0) [(6 : UInt8)].length).1 = r.take 16 ++ r.drop 16 := by rw [List.take_append_drop]; exact e2
        have hl16 : (r.take 16).length = 16 := by rw [List.length_take]; omega
        have h2 := take_F (n := 16) E1.ok' E1.le' (by rw [hl16]; rfl) e3
        rw [h2, hl16, if_pos rfl]
        have hg : getAddrS (6 :: r) = ((true, r.take 16), 17) := by simp [getAddrS, h16]
        rw [hg]
        exact ⟨fun _ => rfl, fun h => by cases h⟩
      · have hs := take_few (l := l) (s := adv (n, 0, 0) [(6 : UInt8)].length) (k := 16) E1.ok' (by show l.length < (n + 1) + 16; omega)
        have hg : getAddrS (6 :: r) = (addr0, 0) := by simp [getAddrS, h16]
        have hs' : (takeS l (adv (n, 0, 0) [(6 : UInt8)].length) 16).2 = [] := hs
        rw [hs', hg]
        exact ⟨fun h => absurd h (by simp), fun _ => ⟨rfl, rfl⟩⟩
    · have h6n : ¬ c.toNat = 6 := fun h => h6 (by rw [← UInt8.toNat_inj]; exact h)
      rw [if_neg h6n]
      by_cases h4 : c = 4
      · subst h4
        rw [if_pos (show (4 : UInt8).toNat = 4 from rfl)]
        by_cases h5 : 4 ≤ r.length
        · have e3 : l.drop (adv (n, 0, 0) [(4 : UInt8)].length).1 = r.take 4 ++ r.drop 4 := by rw [List.take_append_drop]; exact e2
          have hl4 : (r.take 4).length = 4 := by rw [List.length_take]; omega
          have h2 := take_F (n := 4) E1.ok' E1.le' (by rw [hl4]; rfl) e3
          rw [h2, hl4, if_pos rfl]
          have hg : getAddrS (4 :: r) = ((false, pad (r.take 4) 16), 5) := by simp [getAddrS, h5]
          rw [hg]
          exact ⟨fun _ => rfl, fun h => by cases h⟩
        · have hs := take_few (l := l) (s := adv (n, 0, 0) [(4 : UInt8)].length) (k := 4) E1.ok' (by show l.length < (n + 1) + 4; omega)
          have hg : getAddrS (4 :: r) = (addr0, 0) := by simp [getAddrS, h5]
          have hs' : (takeS l (adv (n, 0, 0) [(4 : UInt8)].length) 4).2 = [] := hs
          rw [hs', hg]
          exact ⟨fun h => absurd h (by simp), fun _ => ⟨rfl, rfl⟩⟩
      · have h4n : ¬ c.toNat = 4 := fun h => h4 (by rw [← UInt8.toNat_inj]; exact h)
        rw [if_neg h4n]
        have hg : getAddrS (c :: r) = (addr0, 0) := by simp [getAddrS, h6, h4]
        rw [hg]
        exact ⟨fun h => absurd h (by simp), fun _ => ⟨rfl, rfl⟩⟩
/-- The address as it comes back. -/
def shA (a : AddrP) : AddrP := if a.1 then a else (false, pad (a.2.take 4) 16)
theorem shA_ok {a : AddrP} (h : addrOk a) : addrOk (shA a) := by
  unfold shA
  split
  · exact h
  · have hl : a.2.length = 16 := h
    exact pad_len (by rw [List.length_take]; omega)
theorem shA_short {a : AddrP} (h : addrOk a) (hs : shortB a = true) : shA a = a := by
  unfold shA
  split
  · rfl
  · rename_i h6
    rcases a with ⟨b, x⟩
    simp only [Bool.not_eq_true] at h6
    subst h6
    have : tailB x = true := hs
    rw [addr_pad (a := (false, x)) h this]
theorem put_take {a : AddrP} (h : addrOk a) : takeAddrS (putAddrS a) (0, 0, 0) = (((putAddrS a).length, 0, 0), some (shA a)) := by
  have hl : a.2.length = 16 := h
  have ht := (take_at (l := putAddrS a) (n := 0) (Nat.zero_le _)).1
  rw [List.drop_zero] at ht
  have hg : getAddrS (putAddrS a) = (shA a, (putAddrS a).length) := by
    rcases a with ⟨_ | _, x⟩
    · simp only at hl
      show getAddrS (4 :: x.take 4) = ((false, pad (x.take 4) 16), (4 :: x.take 4).length)
      have h4 : (x.take 4).length = 4 := by rw [List.length_take]; omega
      simp [getAddrS, hl, List.take_take]
    · simp only at hl
      show getAddrS (6 :: x) = ((true, x), (6 :: x).length)
      have : x.take 16 = x := List.take_of_length_le (by omega)
      simp [getAddrS, hl, this]
  rw [hg] at ht
  have := ht (by unfold putAddrS; split <;> simp)
  rw [this, Nat.zero_add]
end Go.Proofs.Ytmkeljcjhcaigaa
