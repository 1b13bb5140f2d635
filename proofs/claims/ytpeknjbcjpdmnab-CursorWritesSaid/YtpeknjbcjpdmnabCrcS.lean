/- CRC-32C in plain Lean, on numbers: a step is linear over bits; the sum of a text is so many steps from one great number. No program in sight. -/
import Derived.Test.YtpeknjbcjpdmnabBlk
namespace Go.Proofs.Ytpeknjbcjpdmnab

def poly : Nat := 2197175160
/-- One bit. -/
def sh (x : Nat) : Nat := if x % 2 = 1 then x / 2 ^^^ poly else x / 2
/-- So many bits. -/
def shN : Nat → Nat → Nat
  | 0, x => x
  | k + 1, x => shN k (sh x)
def allOnes : Nat := 4294967295

theorem xor_left_comm (a b c : Nat) : a ^^^ (b ^^^ c) = b ^^^ (a ^^^ c) := by rw [← Nat.xor_assoc, Nat.xor_comm a b, Nat.xor_assoc]
theorem xor_mod2 (a b : Nat) : (a ^^^ b) % 2 = (a + b) % 2 := by
  have h : (a ^^^ b) % 2 ^ 1 = (a % 2 ^ 1) ^^^ (b % 2 ^ 1) := Nat.xor_mod_two_pow
  rw [Nat.pow_one] at h
  rw [h]
  rcases Nat.mod_two_eq_zero_or_one a with ha | ha <;> rcases Nat.mod_two_eq_zero_or_one b with hb | hb <;> rw [ha, hb]
  · have : (a + b) % 2 = 0 := by omega
    rw [this]; rfl
  · have : (a + b) % 2 = 1 := by omega
    rw [this]; rfl
  · have : (a + b) % 2 = 1 := by omega
    rw [this]; rfl
  · have : (a + b) % 2 = 0 := by omega
    rw [this]; rfl
theorem xor_half (a b : Nat) : (a ^^^ b) / 2 = a / 2 ^^^ b / 2 := by
  have h : (a ^^^ b) / 2 ^ 1 = (a / 2 ^ 1) ^^^ (b / 2 ^ 1) := Nat.xor_div_two_pow
  rwa [Nat.pow_one] at h

theorem sh_xor (a b : Nat) : sh (a ^^^ b) = sh a ^^^ sh b := by
  unfold sh
  rw [xor_mod2, xor_half]
  rcases Nat.mod_two_eq_zero_or_one a with ha | ha <;> rcases Nat.mod_two_eq_zero_or_one b with hb | hb
  · rw [if_neg (by omega), if_neg (by omega), if_neg (by omega)]
  · rw [if_pos (by omega), if_neg (by omega), if_pos (by omega), Nat.xor_assoc]
  · rw [if_pos (by omega), if_pos (by omega), if_neg (by omega), Nat.xor_assoc, Nat.xor_assoc, Nat.xor_comm poly]
  · rw [if_neg (by omega), if_pos (by omega), if_pos (by omega), Nat.xor_assoc, xor_left_comm poly, Nat.xor_self, Nat.xor_zero]
theorem shN_xor : ∀ (k a b : Nat), shN k (a ^^^ b) = shN k a ^^^ shN k b
  | 0, _, _ => rfl
  | k + 1, a, b => by rw [shN, sh_xor, shN_xor k, shN, shN]
theorem shN_add : ∀ (j k x : Nat), shN (j + k) x = shN k (shN j x)
  | 0, k, x => by rw [Nat.zero_add]; rfl
  | j + 1, k, x => by rw [Nat.add_right_comm, shN, shN_add j k, shN]
theorem sh_zero : sh 0 = 0 := rfl
theorem shN_zero : ∀ k, shN k 0 = 0
  | 0 => rfl
  | k + 1 => by rw [shN, sh_zero, shN_zero k]
theorem sh_lt {x : Nat} (h : x < 4294967296) : sh x < 4294967296 := by
  unfold sh
  split
  · have : x / 2 ^^^ poly < 2 ^ 32 := Nat.xor_lt_two_pow (by omega) (by unfold poly; omega)
    omega
  · omega
theorem shN_lt : ∀ (k : Nat) {x : Nat}, x < 4294967296 → shN k x < 4294967296
  | 0, _, h => h
  | k + 1, _, h => shN_lt k (sh_lt h)
theorem sh_double (x : Nat) : sh (2 * x) = x := by
  unfold sh
  rw [if_neg (by omega)]
  omega
theorem shN_pow : ∀ (k x : Nat), shN k (2 ^ k * x) = x
  | 0, x => by simp [shN]
  | k + 1, x => by rw [shN, Nat.pow_succ, Nat.mul_comm (2 ^ k) 2, Nat.mul_assoc, sh_double, shN_pow k]
/-- Nothing but 0 goes to 0. -/
theorem sh_ne {x : Nat} (h : x < 4294967296) (h0 : x ≠ 0) : sh x ≠ 0 := by
  unfold sh
  split
  · intro e
    have : x / 2 = poly := by
      have := congrArg (· ^^^ poly) e
      simp only [Nat.xor_assoc, Nat.xor_self, Nat.xor_zero, Nat.zero_xor] at this
      exact this
    unfold poly at this
    omega
  · omega
theorem shN_ne : ∀ (k : Nat) {x : Nat}, x < 4294967296 → x ≠ 0 → shN k x ≠ 0
  | 0, _, _, h0 => h0
  | k + 1, _, h, h0 => shN_ne k (sh_lt h) (sh_ne h h0)

/-- Low bits and high bits, apart. -/
theorem xor_low : ∀ (k a q : Nat), a < 2 ^ k → a ^^^ (2 ^ k * q) = a + 2 ^ k * q
  | 0, a, q, h => by
    obtain rfl : a = 0 := by simpa using h
    simp
  | k + 1, a, q, h => by
    have e : 2 ^ (k + 1) * q = 2 * (2 ^ k * q) := by rw [Nat.pow_succ, Nat.mul_comm (2 ^ k) 2, Nat.mul_assoc]
    rw [Nat.pow_succ] at h
    have ih := xor_low k (a / 2) q (by omega)
    have h1 := xor_half a (2 * (2 ^ k * q))
    have h2 := xor_mod2 a (2 * (2 ^ k * q))
    rw [show 2 * (2 ^ k * q) / 2 = 2 ^ k * q by omega, ih] at h1
    rw [e]
    omega
theorem split_low (k x : Nat) : x = x % 2 ^ k ^^^ (2 ^ k * (x / 2 ^ k)) := by
  rw [xor_low k _ _ (Nat.mod_lt _ (Nat.two_pow_pos k))]
  exact (Nat.mod_add_div x (2 ^ k)).symm
/-- Four bits at once, by a table. -/
theorem nibble (x : Nat) : shN 4 x = shN 4 (x % 16) ^^^ x / 16 := by
  conv => lhs; rw [split_low 4 x]
  rw [shN_xor, shN_pow]
theorem nibble2 (x : Nat) : shN 8 x = shN 4 (shN 4 (x % 16) ^^^ x / 16) := by rw [← nibble, ← shN_add]

/-- From a state, through a text. -/
def crcGo (w : Nat) (l : List UInt8) : Nat := l.foldl (fun w c => shN 8 (w ^^^ c.toNat)) w
def moreS (s : Nat) (l : List UInt8) : Nat := crcGo (s ^^^ allOnes) l ^^^ allOnes
def ofS (l : List UInt8) : Nat := moreS 0 l

/-- A text as one number, its first byte the lowest. -/
def val : List UInt8 → Nat
  | [] => 0
  | c :: l => c.toNat + 256 * val l

theorem crcGo_val : ∀ (l : List UInt8) (w : Nat), crcGo w l = shN (8 * l.length) (w ^^^ val l)
  | [], w => by simp [crcGo, val, shN]
  | c :: l, w => by
    have hc : c.toNat < 2 ^ 8 := c.toNat_lt
    show crcGo (shN 8 (w ^^^ c.toNat)) l = _
    rw [crcGo_val l, List.length_cons, Nat.mul_add, Nat.mul_one, Nat.add_comm, shN_add, val]
    congr 1
    rw [show 256 = 2 ^ 8 from rfl, ← xor_low 8 _ _ hc, ← Nat.xor_assoc, shN_xor 8 (w ^^^ c.toNat), shN_pow]
theorem crcGo_append (w : Nat) (a b : List UInt8) : crcGo w (a ++ b) = crcGo (crcGo w a) b := by simp [crcGo]
theorem crcGo_lt : ∀ (l : List UInt8) {w : Nat}, w < 4294967296 → crcGo w l < 4294967296
  | [], _, h => h
  | c :: l, w, h => crcGo_lt l (shN_lt 8 (by
      have hc : c.toNat < 256 := c.toNat_lt
      have : w ^^^ c.toNat < 2 ^ 32 := Nat.xor_lt_two_pow (by omega) (by omega)
      omega))
theorem allOnes_lt : allOnes < 4294967296 := by unfold allOnes; omega
theorem xor_lt32 {a b : Nat} (ha : a < 4294967296) (hb : b < 4294967296) : a ^^^ b < 4294967296 := by
  have : a ^^^ b < 2 ^ 32 := Nat.xor_lt_two_pow (by omega) (by omega)
  omega
theorem moreS_lt {s : Nat} (h : s < 4294967296) (l : List UInt8) : moreS s l < 4294967296 := xor_lt32 (crcGo_lt l (xor_lt32 h allOnes_lt)) allOnes_lt
theorem ofS_lt (l : List UInt8) : ofS l < 4294967296 := moreS_lt (by omega) l
theorem ofS_eq (l : List UInt8) : ofS l = crcGo allOnes l ^^^ allOnes := by unfold ofS moreS; rw [Nat.zero_xor]
theorem ofS_val (l : List UInt8) : ofS l = shN (8 * l.length) (allOnes ^^^ val l) ^^^ allOnes := by rw [ofS_eq, crcGo_val]

theorem xor_xor_self (a b : Nat) : a ^^^ b ^^^ b = a := by rw [Nat.xor_assoc, Nat.xor_self, Nat.xor_zero]
theorem ofS_append (a b : List UInt8) : ofS (a ++ b) = moreS (ofS a) b := by
  unfold moreS
  rw [ofS_eq, ofS_eq, crcGo_append, xor_xor_self]
theorem moreS_nil (s : Nat) : moreS s [] = s := by
  unfold moreS crcGo
  rw [List.foldl_nil, xor_xor_self]
theorem ofS_nil : ofS [] = 0 := by unfold ofS; rw [moreS_nil]
theorem ofS_join (a b : List UInt8) : ofS (a ++ b) = shN (8 * b.length) (ofS a) ^^^ ofS b := by
  rw [ofS_append, ofS_val b]
  unfold moreS
  rw [crcGo_val, Nat.xor_assoc (ofS a), shN_xor, Nat.xor_assoc]

/-! ### Texts turned by one another -/
theorem val_three : ∀ (a b c : List UInt8), b.length = a.length → c.length = a.length →
    val ((a.zip (b.zip c)).map fun x => x.1 ^^^ x.2.1 ^^^ x.2.2) = val a ^^^ val b ^^^ val c
  | [], [], [], _, _ => rfl
  | x :: a, y :: b, z :: c, h1, h2 => by
    have ih := val_three a b c (by simpa using h1) (by simpa using h2)
    have hx : x.toNat < 2 ^ 8 := x.toNat_lt
    have hy : y.toNat < 2 ^ 8 := y.toNat_lt
    have hz : z.toNat < 2 ^ 8 := z.toNat_lt
    have hxyz : (x ^^^ y ^^^ z).toNat = x.toNat ^^^ y.toNat ^^^ z.toNat := by simp
    have hlt : x.toNat ^^^ y.toNat ^^^ z.toNat < 2 ^ 8 := Nat.xor_lt_two_pow (Nat.xor_lt_two_pow hx hy) hz
    simp only [List.zip_cons_cons, List.map_cons, val]
    rw [ih, hxyz, show 256 = 2 ^ 8 from rfl, ← xor_low 8 _ _ hlt, ← xor_low 8 _ _ hx, ← xor_low 8 _ _ hy, ← xor_low 8 _ _ hz]
    have hm : 2 ^ 8 * (val a ^^^ val b ^^^ val c) = (2 ^ 8 * val a) ^^^ (2 ^ 8 * val b) ^^^ (2 ^ 8 * val c) := by
      simp only [Nat.mul_comm (2 ^ 8), ← Nat.shiftLeft_eq, Nat.shiftLeft_xor_distrib]
    rw [hm]
    simp only [Nat.xor_assoc, xor_left_comm]
  | [], _ :: _, _, h, _ => by simp at h
  | [], [], _ :: _, _, h => by simp at h
  | _ :: _, [], _, h, _ => by simp at h
  | _ :: _, _ :: _, [], _, h => by simp at h
end Go.Proofs.Ytpeknjbcjpdmnab
