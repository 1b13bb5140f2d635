/- The walk of octet.Put, the lowest byte first. -/
import Derived.Test.YtpeknjbcjpdmnabBlk
import Derived.Test.YtpeknjbcjpdmnabCrcS
import Derived.Test.YtpeknjbcjpdmnabProg
import Derived.WalkKit
import Derived.Outline
namespace Go.Proofs.Ytpeknjbcjpdmnab
open Go.RowKit
set_option linter.unusedVariables false

/-- So many bytes of a number, the lowest one first. -/
def leB : Nat → Nat → List UInt8
  | 0, _ => []
  | k + 1, m => UInt8.ofNat (m % 256) :: leB k (m / 256)
theorem leB_length : ∀ (k m : Nat), (leB k m).length = k
  | 0, _ => rfl
  | k + 1, m => by rw [leB, List.length_cons, leB_length k]
theorem leB_get : ∀ (k m i : Nat), i < k → (leB k m)[i]? = some (UInt8.ofNat (m / 256 ^ i % 256))
  | k + 1, m, 0, _ => by simp [leB]
  | k + 1, m, i + 1, h => by
    rw [leB, List.getElem?_cons_succ, leB_get k (m / 256) i (by omega), Nat.div_div_eq_div_mul, Nat.pow_succ, Nat.mul_comm 256]
theorem leB_val : ∀ (k m : Nat), m < 256 ^ k → val (leB k m) = m
  | 0, m, h => by simp at h; subst h; rfl
  | k + 1, m, h => by
    rw [Nat.pow_succ] at h
    have ht : (UInt8.ofNat (m % 256)).toNat = m % 256 := by
      rw [UInt8.toNat_ofNat']
      exact Nat.mod_eq_of_lt (by omega)
    rw [leB, val, leB_val k (m / 256) (by omega), ht]
    omega
theorem val_inj : ∀ (a b : List UInt8), a.length = b.length → val a = val b → a = b
  | [], [], _, _ => rfl
  | x :: a, y :: b, hl, hv => by
    have hx := x.toNat_lt
    have hy := y.toNat_lt
    simp only [val] at hv
    have h1 : x.toNat = y.toNat := by omega
    have h2 : val a = val b := by omega
    rw [UInt8.toNat.inj h1, val_inj a b (by simpa using hl) h2]
  | [], _ :: _, h, _ => by simp at h
  | _ :: _, [], h, _ => by simp at h
theorem leB_of_val {l : List UInt8} : leB l.length (val l) = l :=
  val_inj _ _ (leB_length _ _) (leB_val _ _ (by
    have : ∀ l : List UInt8, val l < 256 ^ l.length := by
      intro l
      induction l with
      | nil => simp [val]
      | cons c l ih =>
        have := c.toNat_lt
        rw [val, List.length_cons, Nat.pow_succ]
        omega
    exact this l))

/-- The first i bytes laid, the others still 0. -/
def leP (k m i : Nat) : List UInt8 := (List.range k).map fun j => if j < i then UInt8.ofNat (m / 256 ^ j % 256) else 0
theorem leP_length (k m i : Nat) : (leP k m i).length = k := by simp [leP]
theorem leP_get {k m i j : Nat} (h : j < k) : (leP k m i)[j]? = some (if j < i then UInt8.ofNat (m / 256 ^ j % 256) else 0) := by
  simp [leP, h]
theorem leP_set {k m i : Nat} (h : i < k) : (leP k m i).set i (UInt8.ofNat (m / 256 ^ i % 256)) = leP k m (i + 1) := by
  apply List.ext_getElem?
  intro j
  rw [List.getElem?_set, leP_length]
  by_cases hij : i = j
  · subst hij
    rw [if_pos rfl, if_pos h, leP_get h, if_pos (by omega)]
  · rw [if_neg hij]
    by_cases hj : j < k
    · rw [leP_get hj, leP_get hj]
      congr 2
      exact propext (by omega)
    · rw [List.getElem?_eq_none (by rw [leP_length]; omega), List.getElem?_eq_none (by rw [leP_length]; omega)]
theorem leP_all (k m : Nat) : leP k m k = leB k m := by
  apply List.ext_getElem?
  intro j
  by_cases hj : j < k
  · rw [leP_get hj, leB_get k m j hj, if_pos hj]
  · rw [List.getElem?_eq_none (by rw [leP_length]; omega), List.getElem?_eq_none (by rw [leB_length]; omega)]
theorem leP_zero (k m : Nat) : bcells (leP k m 0) = List.replicate k (.int .u8 0) := by
  apply List.ext_getElem?
  intro j
  rw [bcells, List.getElem?_map, List.getElem?_replicate]
  by_cases hj : j < k
  · rw [leP_get hj, if_pos hj]
    rfl
  · rw [List.getElem?_eq_none (by rw [leP_length]; omega), if_neg hj]
    rfl
theorem bcells_set' (l : List UInt8) (j : Nat) (c : UInt8) : bcells (l.set j c) = (bcells l).set j (.int .u8 (c.toNat : Int)) := by
  rw [bcells, List.map_set]
  rfl
theorem shr_byte {m i : Nat} : (m : Int) / 2 ^ (8 * i) % 256 = ((UInt8.ofNat (m / 256 ^ i % 256)).toNat : Int) := by
  have hp : (2 : Nat) ^ (8 * i) = 256 ^ i := by rw [Nat.pow_mul]
  have ht : (UInt8.ofNat (m / 256 ^ i % 256)).toNat = m / 256 ^ i % 256 := by
    rw [UInt8.toNat_ofNat']
    exact Nat.mod_eq_of_lt (by omega)
  rw [ht, ← hp]
  simp
theorem u8_infoO : (Try.prog.info? 5).map (fun i => (i.zero, i.size, i.bytes)) = some (some (.int .u8 0), 1, 1) := by kernel_rfl

set_option maxHeartbeats 800000 in
set_option maxRecDepth 100000 in
theorem octPutLe_any (n s : Int) (w : World) (m k : Nat) (hn : n = (m : Int)) (hs : s = (k : Int)) (hm : m < 18446744073709551616) (hk : k ≤ 8) :
    Calls Try.prog 42 #[.int .u64 n, .int .i64 s, .bool false] w fun e w' => ∃ v, e = .returned v ∧ w'.ownsRow w.heap.size 5 1 v k (bcells (leB k m)) ∧ Below w.heap.size w w' := by
  subst hn hs
  obtain ⟨i0, hi0, hz0, hz1, hz2⟩ := info_parts u8_infoO
  have hk0 : (0 : Int) ≤ (k : Int) := by omega
  have hk8 : (k : Int) ≤ 8 := by omega
  go_enter Try.func42, Try.ntmps42
  go_wp2_with (at_make; refine wpList_make_full _ rfl _ _ 22 rfl w.heap.size 5 i0 (.int .u8 0) 1 Try.underlying22 hi0 hz0 hz1 .i64 .i64 _ _ k rfl rfl (by omega) (by omega) (by rw [hz2]; omega) (by unfold maxLen; omega) (Nat.le_refl _) ?_; intro w1 hown1 hgrow1)
  have hb0 : Below w.heap.size w w1 := (Below.refl _ _).grown hgrow1 (Nat.le_refl _) (by simp)
  have hown0 : w1.ownsRow w.heap.size 5 1 (.slice (some ⟨w.heap.size, 0, none⟩) k k) k (bcells (leP k m 0)) := by
    rw [leP_zero]
    have e : (madeCells (Value.int .u8 0).cells (k * 1)).toList = List.replicate k (.int .u8 0) := by
      rw [Nat.mul_one]
      exact toList_madeCells_one _ _
    rw [← e]
    exact hown1
  have Hown0 := Lib.hid hown0
  clear hown1 hown0 hgrow1
  go_loopw [15] (fun i wr => ∃ j : Nat, j ≤ k ∧ i = .int .i64 (j : Int) ∧ Below w.heap.size w wr ∧ Hid (wr.ownsRow w.heap.size 5 1 (.slice (some ⟨w.heap.size, 0, none⟩) k k) k (bcells (leP k m j)))) (fun i _ => k - (intOf i).toNat)
  case atStart => exact ⟨0, by omega, rfl, hb0, Hown0⟩
  case round =>
    obtain ⟨j, hj, rfl, hbel, hown⟩ := hrel
    by_cases hlt : j < k
    · have hltI : decide ((j : Int) < (k : Int)) = true := decide_eq_true (by omega)
      have hc := hown.out.cellAt j (by omega)
      have hc2 : (bcells (leP k m j))[j]? = some (.int .u8 0) := by
        rw [bcells, List.getElem?_map, leP_get hlt, if_neg (by omega)]
        rfl
      rw [hc2] at hc
      have hf := hown.out.frozenAt j
      have hst := hown.out.stored j (.int .u8 ((UInt8.ofNat (m / 256 ^ j % 256)).toNat : Int))
      rw [← bcells_set', leP_set hlt, ← shr_byte] at hst
      have Hst := Lib.hid hst
      clear hst hc2
      go_wp2
      go_roundw
      case rel => exact ⟨j + 1, by omega, by go_num, hbel.setCell (Nat.le_refl _) _, Hst.out.1⟩
      case measure => simp [intOf]; omega
    · obtain rfl : j = k := by omega
      go_wp2
      go_ret
      exact ⟨_, rfl, by rw [← leP_all]; exact hown.out, hbel⟩
end Go.Proofs.Ytpeknjbcjpdmnab
