/- Numbers as rows of bytes, the lowest first; no program in sight, but for the bytes' type. -/
import Derived.Test.YtgohhojoahlfiaaKA
import Derived.Test.YtgohhojoahlfiaaProg
import Derived.WalkKit
import Derived.Outline
namespace Go.Proofs.Ytgohhojoahlfiaa
open Go.RowKit
set_option linter.unusedVariables false

/-- So many bytes of a number, the lowest one first. -/
def leB : Nat → Nat → List UInt8
  | 0, _ => []
  | k + 1, m => UInt8.ofNat (m % 256) :: leB k (m / 256)
theorem leB_length : ∀ (k m : Nat), (leB k m).length = k
  | 0, _ => rfl
  | k + 1, m => by rw [leB, List.length_cons, leB_length k]
theorem leB_get : ∀ (k m i : Nat), i < k → (leB k m)[i]? = some (UInt8.ofNat (m / 256 ^ i % 256))
  | k + 1, m, 0, _ => by simp [leB]
  | k + 1, m, i + 1, h => by
    rw [leB, List.getElem?_cons_succ, leB_get k (m / 256) i (by omega), Nat.div_div_eq_div_mul, Nat.pow_succ, Nat.mul_comm 256]
theorem leB_val : ∀ (k m : Nat), m < 256 ^ k → val (leB k m) = m
  | 0, m, h => by simp at h; subst h; rfl
  | k + 1, m, h => by
    rw [Nat.pow_succ] at h
    have ht : (UInt8.ofNat (m % 256)).toNat = m % 256 := by
      rw [UInt8.toNat_ofNat']
      exact Nat.mod_eq_of_lt (by omega)
    rw [leB, val, leB_val k (m / 256) (by omega), ht]
    omega
theorem val_inj : ∀ (a b : List UInt8), a.length = b.length → val a = val b → a = b
  | [], [], _, _ => rfl
  | x :: a, y :: b, hl, hv => by
    have hx := x.toNat_lt
    have hy := y.toNat_lt
    simp only [val] at hv
    have h1 : x.toNat = y.toNat := by omega
    have h2 : val a = val b := by omega
    rw [UInt8.toNat.inj h1, val_inj a b (by simpa using hl) h2]
  | [], _ :: _, h, _ => by simp at h
  | _ :: _, [], h, _ => by simp at h
theorem leB_of_val {l : List UInt8} : leB l.length (val l) = l :=
  val_inj _ _ (leB_length _ _) (leB_val _ _ (by
    have : ∀ l : List UInt8, val l < 256 ^ l.length := by
      intro l
      induction l with
      | nil => simp [val]
      | cons c l ih =>
        have := c.toNat_lt
        rw [val, List.length_cons, Nat.pow_succ]
        omega
    exact this l))

/-- The first i bytes laid, the others still 0. -/
def leP (k m i : Nat) : List UInt8 := (List.range k).map fun j => if j < i then UInt8.ofNat (m / 256 ^ j % 256) else 0
theorem leP_length (k m i : Nat) : (leP k m i).length = k := by simp [leP]
theorem leP_get {k m i j : Nat} (h : j < k) : (leP k m i)[j]? = some (if j < i then UInt8.ofNat (m / 256 ^ j % 256) else 0) := by
  simp [leP, h]
theorem leP_set {k m i : Nat} (h : i < k) : (leP k m i).set i (UInt8.ofNat (m / 256 ^ i % 256)) = leP k m (i + 1) := by
  apply List.ext_getElem?
  intro j
  rw [List.getElem?_set, leP_length]
  by_cases hij : i = j
  · subst hij
    rw [if_pos rfl, if_pos h, leP_get h, if_pos (by omega)]
  · rw [if_neg hij]
    by_cases hj : j < k
    · rw [leP_get hj, leP_get hj]
      congr 2
      exact propext (by omega)
    · rw [List.getElem?_eq_none (by rw [leP_length]; omega), List.getElem?_eq_none (by rw [leP_length]; omega)]
theorem leP_all (k m : Nat) : leP k m k = leB k m := by
  apply List.ext_getElem?
  intro j
  by_cases hj : j < k
  · rw [leP_get hj, leB_get k m j hj, if_pos hj]
  · rw [List.getElem?_eq_none (by rw [leP_length]; omega), List.getElem?_eq_none (by rw [leB_length]; omega)]
theorem leP_zero (k m : Nat) : bcells (leP k m 0) = List.replicate k (.int .u8 0) := by
  apply List.ext_getElem?
  intro j
  rw [bcells, List.getElem?_map, List.getElem?_replicate]
  by_cases hj : j < k
  · rw [leP_get hj, if_pos hj]
    rfl
  · rw [List.getElem?_eq_none (by rw [leP_length]; omega), if_neg hj]
    rfl
theorem bcells_set' (l : List UInt8) (j : Nat) (c : UInt8) : bcells (l.set j c) = (bcells l).set j (.int .u8 (c.toNat : Int)) := by
  rw [bcells, List.map_set]
  rfl
theorem shr_byte {m i : Nat} : (m : Int) / 2 ^ (8 * i) % 256 = ((UInt8.ofNat (m / 256 ^ i % 256)).toNat : Int) := by
  have hp : (2 : Nat) ^ (8 * i) = 256 ^ i := by rw [Nat.pow_mul]
  have ht : (UInt8.ofNat (m / 256 ^ i % 256)).toNat = m / 256 ^ i % 256 := by
    rw [UInt8.toNat_ofNat']
    exact Nat.mod_eq_of_lt (by omega)
  rw [ht, ← hp]
  simp
theorem u8_infoO : (Try.prog.info? 5).map (fun i => (i.zero, i.size, i.bytes)) = some (some (.int .u8 0), 1, 1) := by kernel_rfl
end Go.Proofs.Ytgohhojoahlfiaa
