/- The walk of 'wayleaveref01.Same': are two texts of bytes the same. -/
import Derived.Test.YtpeknjbcjpdmnabBase
import Derived.Test.YtpeknjbcjpdmnabProg
import Derived.WalkKit
import Derived.Outline
namespace Go.Proofs.Ytpeknjbcjpdmnab
open Go.RowKit
set_option linter.unusedVariables false

theorem same_any (A : Option Addr) (n c : Nat) (l : List UInt8) (A' : Option Addr) (n' c' : Nat) (l' : List UInt8) (w : World) (B B' : Nat) (hn : n = l.length) (hn' : n' = l'.length) (hb : BS w B A l) (hb' : BS w B' A' l') :
    Calls Try.prog 17 #[.slice A n c, .slice A' n' c'] w fun e w' => e = .returned (.bool (l == l')) ∧ w = w' := by
  subst hn hn'
  have h1 := run_convert_bs (P := Try.prog) 22 9 5 Try.underlying22 Try.underlying5 Try.underlying9 w B A l hb _ c rfl
  have h2 := run_convert_bs (P := Try.prog) 22 9 5 Try.underlying22 Try.underlying5 Try.underlying9 w B' A' l' hb' _ c' rfl
  clear hb hb'
  go_enter Try.func17, Try.ntmps17
  go_wp2
  go_ret
  exact ⟨rfl, rfl⟩
end Go.Proofs.Ytpeknjbcjpdmnab
