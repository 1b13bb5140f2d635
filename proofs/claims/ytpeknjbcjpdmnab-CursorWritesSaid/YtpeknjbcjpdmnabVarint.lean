/- The walk of 'varint.Get'. -/
import Derived.Test.YtpeknjbcjpdmnabVarintS
import Derived.Test.YtpeknjbcjpdmnabProg
import Derived.WalkKit
import Derived.Outline
import Derived.Deep.QuietTactic
import Derived.BigQuiet
namespace Go.Proofs.Ytpeknjbcjpdmnab
open Go.RowKit
set_option linter.unusedVariables false

def GetIs (w : World) (l : List UInt8) (e : Ending) (w' : World) : Prop :=
  e = .returned (.tuple #[.int .u64 ((vgetS l).1 : Int), .int .i64 ((vgetS l).2.1 : Int), .int .i64 ((vgetS l).2.2 : Int)]) ∧ w = w'
theorem getIs_of {w : World} {l : List UInt8} {x y z : Int} {a b c : Nat} (h : vgetS l = (a, b, c)) (hx : x = (a : Int)) (hy : y = (b : Int)) (hz : z = (c : Int)) :
    GetIs w l (.returned (.tuple #[.int .u64 x, .int .i64 y, .int .i64 z])) w := by
  subst hx hy hz
  exact ⟨by rw [h], rfl⟩

set_option maxHeartbeats 400000 in
set_option maxRecDepth 100000 in
theorem get_any (A : Option Addr) (n c : Nat) (l : List UInt8) (w : World) (B : Nat) (hn : n = l.length) (hb : BS w B A l) (hl : n ≤ maxLen) :
    Calls Try.prog 56 #[.slice A n c] w (GetIs w l) := by
  subst hn
  unfold maxLen at hl
  have hB := Lib.hid hb
  clear hb
  go_enter Try.func56, Try.ntmps56
  go_wp2
  go_loop [5, 10] (fun n i => ∃ k acc : Nat, k ≤ l.length ∧ k ≤ 9 ∧ i = .int .i64 (k : Int) ∧ n = .int .u64 (acc : Int) ∧ Hid (acc < 128 ^ k) ∧ Hid (vgetS l = vget k acc (l.drop k))) (fun _ i => l.length - (intOf i).toNat)
  case atStart => exact ⟨0, 0, by omega, by omega, rfl, rfl, by simp [Hid], rfl⟩
  case round =>
    obtain ⟨k, acc, hk, hk9, rfl, rfl, hacc, hv⟩ := hrel
    by_cases hlt : k < l.length
    · obtain ⟨ad, rfl, _, hc⟩ := hB.out.at_ hlt
      have hch := u8_lt l[k]
      generalize hcc : (l[k]).toNat = d at hc hch
      have Hcc := Lib.hid hcc
      clear hcc
      by_cases h9 : k = 9
      · have h9' : ((k : Int) == 9) = true := by simp; omega
        have hor := fun h => vor (d := d) hacc.out hch (by omega) (fun _ => h)
        have Hor := Lib.hid hor
        have H9 := Lib.hid h9
        clear hor h9
        by_cases h1 : 1 < d
        · go_wp2
          go_ret3
          exact getIs_of (hv.out.trans (vget_form hlt Hcc.out (by have := H9.out; omega))) rfl rfl rfl
        · have hk0 : 0 < k := by have := H9.out; omega
          by_cases h0 : d = 0
          · subst h0
            go_wp2
            go_ret3
            exact getIs_of (hv.out.trans (vget_form hlt Hcc.out (by have := H9.out; omega))) rfl rfl rfl
          · have h0' : ((d : Int) == 0) = false := by simp; omega
            go_wp2
            go_ret3
            exact getIs_of (hv.out.trans (vget_done hlt Hcc.out (by omega) (by omega) (by omega))) (Hor.out (by omega)) rfl rfl
      · have h9' : ((k : Int) == 9) = false := by simp; omega
        have Hor := Lib.hid (vor (d := d) hacc.out hch (by omega) (fun h => absurd h h9))
        by_cases h1 : d < 128
        · by_cases h0 : d = 0
          · subst h0
            by_cases hk0 : 0 < k
            · go_wp2
              go_ret3
              exact getIs_of (hv.out.trans (vget_form hlt Hcc.out (by omega))) rfl rfl rfl
            · go_wp2
              go_ret3
              exact getIs_of (hv.out.trans (vget_done hlt Hcc.out (by omega) (by omega) (by omega))) Hor.out (by omega) rfl
          · have h0' : ((d : Int) == 0) = false := by simp; omega
            go_wp2
            go_ret3
            exact getIs_of (hv.out.trans (vget_done hlt Hcc.out (by omega) (by omega) (by omega))) Hor.out (by omega) rfl
        · go_wp2
          go_round
          case rel => exact ⟨k + 1, _, by omega, by omega, by go_num, by rw [Hor.out], vget_lt hacc.out, hv.out.trans (vget_next hlt Hcc.out (by omega) (by omega))⟩
          case measure => simp [intOf]; omega
    · go_wp2
      go_ret3
      exact getIs_of (hv.out.trans (vget_end (by omega))) rfl rfl rfl
end Go.Proofs.Ytpeknjbcjpdmnab
