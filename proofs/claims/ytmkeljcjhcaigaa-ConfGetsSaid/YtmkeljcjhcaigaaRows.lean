/-
  No cell of these rows narrows 'for every input' (looked for: loops, veiled, ifaces, maps, wideKeys, modest, calm, conditions, laid).
  DERIVED. THE GIVEN ROWS OF THIS SEAT. 7 by the template 'for every input the law returns true; each argument reads behind the call as it read before'; 0 by the template 'total and deterministic' (their statements: YtmkeljcjhcaigaaTotals.lean).
  GIVEN WITH THE SEED: the statements are not yours to turn. If you find one false, say at which input.
  Laid BY PROGRAM, IN A SANDBOX (cutbox-rows.mjs): the forced cells as the released guide's own fill.sh prints them over the translation 84065ed66562ebf7… (all of the seat's roots in one cut). By AI agents, Wed Nov 11 2026. No macro, syntax, notation, axiom, sorry.
-/
import Derived.Test.YtmkeljcjhcaigaaChecked
import GoSem.Claim
import GoSem.ClaimJoined
import GoSem.ClaimMapViews
import Derived.JoinedTies
import Derived.KernelRfl
namespace Go.Proofs.Ytmkeljcjhcaigaa
/- THE CELL 'sum', in the pinned program and in every row, IS THE sha256 OF THE DUMP (.gsa) THAT YtmkeljcjhcaigaaProg.lean LOADS. Nothing in Lean hashes anything: it is a label: what it is worth is what the hold of that sum in a sandbox is worth. -/
noncomputable def Try.pinned : Pinned := { name := "ytmkeljcjhcaigaa", sum := "84065ed66562ebf7fbc8a0fdafb1fc41d8bb09df929e96017e15803b9562ea2e", checked := Try.checked }
namespace Rows
def none {H : Type} : Left H := { results := [], args := [] }

/-- 'wayleavelaw22.ConfRights': WHATEVER THE INPUT: true; the input reads as it did. -/
def confRightsSpec : ChangeSpec := { name := "confRights", fn := fun _ => fun
  | [d1, d2, d3, d4, d5] => { results := [.lit (.bool true)], args := [d1, d2, d3, d4, d5] }
  | _ => none }
def confRightsRow : OpenClaim := { program := "ytmkeljcjhcaigaa", sum := "84065ed66562ebf7fbc8a0fdafb1fc41d8bb09df929e96017e15803b9562ea2e", func := "wayleave/wayleavelaw22.ConfRights", spec := "confRights", unfollowed := true, recurses := true, apart := false }
def ConfRightsSaid : Prop := confRightsRow.holds Try.pinned (OpenSpec.ofChange confRightsSpec)

/-- ITS FALSE NEIGHBOUR: 'it returns false'. Refute it at one input. -/
def confRightsWrong : ChangeSpec := { name := "confRights", fn := fun _ => fun
  | [d1, d2, d3, d4, d5] => { results := [.lit (.bool false)], args := [d1, d2, d3, d4, d5] }
  | _ => none }
def ConfRightsWrongFalsely : Prop := confRightsRow.holds Try.pinned (OpenSpec.ofChange confRightsWrong)

/-- 'wayleavelaw22.ConfPuts': WHATEVER THE INPUT: true; the input reads as it did. -/
def confPutsSpec : ChangeSpec := { name := "confPuts", fn := fun _ => fun
  | [d] => { results := [.lit (.bool true)], args := [d] }
  | _ => none }
def confPutsRow : OpenClaim := { program := "ytmkeljcjhcaigaa", sum := "84065ed66562ebf7fbc8a0fdafb1fc41d8bb09df929e96017e15803b9562ea2e", func := "wayleave/wayleavelaw22.ConfPuts", spec := "confPuts", unfollowed := true, recurses := true, apart := false }
def ConfPutsSaid : Prop := confPutsRow.holds Try.pinned (OpenSpec.ofChange confPutsSpec)

/-- ITS FALSE NEIGHBOUR: 'it returns false'. Refute it at one input. -/
def confPutsWrong : ChangeSpec := { name := "confPuts", fn := fun _ => fun
  | [d] => { results := [.lit (.bool false)], args := [d] }
  | _ => none }
def ConfPutsWrongFalsely : Prop := confPutsRow.holds Try.pinned (OpenSpec.ofChange confPutsWrong)

/-- 'wayleavelaw22.ConfGets': WHATEVER THE INPUT: true; the input reads as it did. -/
def confGetsSpec : ChangeSpec := { name := "confGets", fn := fun _ => fun
  | [d] => { results := [.lit (.bool true)], args := [d] }
  | _ => none }
def confGetsRow : OpenClaim := { program := "ytmkeljcjhcaigaa", sum := "84065ed66562ebf7fbc8a0fdafb1fc41d8bb09df929e96017e15803b9562ea2e", func := "wayleave/wayleavelaw22.ConfGets", spec := "confGets", unfollowed := true, recurses := true, apart := false }
def ConfGetsSaid : Prop := confGetsRow.holds Try.pinned (OpenSpec.ofChange confGetsSpec)

/-- ITS FALSE NEIGHBOUR: 'it returns false'. Refute it at one input. -/
def confGetsWrong : ChangeSpec := { name := "confGets", fn := fun _ => fun
  | [d] => { results := [.lit (.bool false)], args := [d] }
  | _ => none }
def ConfGetsWrongFalsely : Prop := confGetsRow.holds Try.pinned (OpenSpec.ofChange confGetsWrong)

/-- 'wayleavelaw22.ConfBack': WHATEVER THE INPUT: true; the input reads as it did. -/
def confBackSpec : ChangeSpec := { name := "confBack", fn := fun _ => fun
  | [d1, d2] => { results := [.lit (.bool true)], args := [d1, d2] }
  | _ => none }
def confBackRow : OpenClaim := { program := "ytmkeljcjhcaigaa", sum := "84065ed66562ebf7fbc8a0fdafb1fc41d8bb09df929e96017e15803b9562ea2e", func := "wayleave/wayleavelaw22.ConfBack", spec := "confBack", unfollowed := true, recurses := true, apart := false }
def ConfBackSaid : Prop := confBackRow.holds Try.pinned (OpenSpec.ofChange confBackSpec)

/-- ITS FALSE NEIGHBOUR: 'it returns false'. Refute it at one input. -/
def confBackWrong : ChangeSpec := { name := "confBack", fn := fun _ => fun
  | [d1, d2] => { results := [.lit (.bool false)], args := [d1, d2] }
  | _ => none }
def ConfBackWrongFalsely : Prop := confBackRow.holds Try.pinned (OpenSpec.ofChange confBackWrong)

/-- 'wayleavelaw22.ConfCuts': WHATEVER THE INPUT: true; the input reads as it did. -/
def confCutsSpec : ChangeSpec := { name := "confCuts", fn := fun _ => fun
  | [d1, d2, d3] => { results := [.lit (.bool true)], args := [d1, d2, d3] }
  | _ => none }
def confCutsRow : OpenClaim := { program := "ytmkeljcjhcaigaa", sum := "84065ed66562ebf7fbc8a0fdafb1fc41d8bb09df929e96017e15803b9562ea2e", func := "wayleave/wayleavelaw22.ConfCuts", spec := "confCuts", unfollowed := true, recurses := true, apart := false }
def ConfCutsSaid : Prop := confCutsRow.holds Try.pinned (OpenSpec.ofChange confCutsSpec)

/-- ITS FALSE NEIGHBOUR: 'it returns false'. Refute it at one input. -/
def confCutsWrong : ChangeSpec := { name := "confCuts", fn := fun _ => fun
  | [d1, d2, d3] => { results := [.lit (.bool false)], args := [d1, d2, d3] }
  | _ => none }
def ConfCutsWrongFalsely : Prop := confCutsRow.holds Try.pinned (OpenSpec.ofChange confCutsWrong)

/-- 'wayleavelaw22.ConfKeeps': WHATEVER THE INPUT: true; the input reads as it did. -/
def confKeepsSpec : ChangeSpec := { name := "confKeeps", fn := fun _ => fun
  | [d] => { results := [.lit (.bool true)], args := [d] }
  | _ => none }
def confKeepsRow : OpenClaim := { program := "ytmkeljcjhcaigaa", sum := "84065ed66562ebf7fbc8a0fdafb1fc41d8bb09df929e96017e15803b9562ea2e", func := "wayleave/wayleavelaw22.ConfKeeps", spec := "confKeeps", unfollowed := true, recurses := true, apart := false }
def ConfKeepsSaid : Prop := confKeepsRow.holds Try.pinned (OpenSpec.ofChange confKeepsSpec)

/-- ITS FALSE NEIGHBOUR: 'it returns false'. Refute it at one input. -/
def confKeepsWrong : ChangeSpec := { name := "confKeeps", fn := fun _ => fun
  | [d] => { results := [.lit (.bool false)], args := [d] }
  | _ => none }
def ConfKeepsWrongFalsely : Prop := confKeepsRow.holds Try.pinned (OpenSpec.ofChange confKeepsWrong)

/-- 'wayleavelaw22.ConfAddrs': WHATEVER THE INPUT: true; the input reads as it did. -/
def confAddrsSpec : ChangeSpec := { name := "confAddrs", fn := fun _ => fun
  | [d1, d2, d3] => { results := [.lit (.bool true)], args := [d1, d2, d3] }
  | _ => none }
def confAddrsRow : OpenClaim := { program := "ytmkeljcjhcaigaa", sum := "84065ed66562ebf7fbc8a0fdafb1fc41d8bb09df929e96017e15803b9562ea2e", func := "wayleave/wayleavelaw22.ConfAddrs", spec := "confAddrs", unfollowed := true, recurses := true, apart := false }
def ConfAddrsSaid : Prop := confAddrsRow.holds Try.pinned (OpenSpec.ofChange confAddrsSpec)

/-- ITS FALSE NEIGHBOUR: 'it returns false'. Refute it at one input. -/
def confAddrsWrong : ChangeSpec := { name := "confAddrs", fn := fun _ => fun
  | [d1, d2, d3] => { results := [.lit (.bool false)], args := [d1, d2, d3] }
  | _ => none }
def ConfAddrsWrongFalsely : Prop := confAddrsRow.holds Try.pinned (OpenSpec.ofChange confAddrsWrong)

/- THE SECOND FORM. 'bulk': how many values and letters a reading holds, each counted each time it is reached (what is shared counts as often as it is met; a slice's spare places count too). A statement '..UptoSaid' is the law's where the arguments, and the package variables that the reading takes, are together of bulk at most 1048576: NARROWER than '..Said'. Prove '..Said' where nothing that the law and all that it calls make is longer than what came in: it says more and counts as full. Else prove '..UptoSaid'. A law counts once. -/
mutual
def uptoBulk {H : Type} : DataW H → Nat
  | .lit (.string bytes) => bytes.length + 1
  | .lit _ => 1
  | .nil => 1
  | .ptr d => uptoBulk d + 1
  | .slice elems spare => uptoBulkAll elems + uptoBulkAll spare + 1
  | .agg parts => uptoBulkAll parts + 1
  | .iface _ d => uptoBulk d + 1
  | .map entries => uptoBulkEntries entries + 1
  | .held _ => 1
def uptoBulkAll {H : Type} : List (DataW H) → Nat
  | [] => 0
  | d :: r => uptoBulk d + uptoBulkAll r
def uptoBulkEntries {H : Type} : List (Lit × DataW H) → Nat
  | [] => 0
  | x :: r => uptoBulkEntry x + uptoBulkEntries r
def uptoBulkEntry {H : Type} : Lit × DataW H → Nat
  | (.string bytes, d) => bytes.length + uptoBulk d + 1
  | (_, d) => uptoBulk d + 1
 end
def uptoSmall : (H : Type) → List (DataW H) → Bool := fun _ ds => decide (uptoBulkAll ds ≤ 1048576)
def OpenSpec.upto (s : _root_.Go.ChangeSpec) : _root_.Go.OpenSpec := { _root_.Go.OpenSpec.ofChange s with cond := some uptoSmall }

/-- 'wayleavelaw22.ConfRights', WHERE WHAT IT READS IS OF BULK AT MOST 1048576: true; the input reads as it did. -/
def confRightsUptoRow : OpenClaim := { program := "ytmkeljcjhcaigaa", sum := "84065ed66562ebf7fbc8a0fdafb1fc41d8bb09df929e96017e15803b9562ea2e", func := "wayleave/wayleavelaw22.ConfRights", spec := "confRights", unfollowed := true, recurses := true, apart := false, narrowed := true }
def ConfRightsUptoSaid : Prop := confRightsUptoRow.holds Try.pinned (OpenSpec.upto confRightsSpec)

/-- 'wayleavelaw22.ConfPuts', WHERE WHAT IT READS IS OF BULK AT MOST 1048576: true; the input reads as it did. -/
def confPutsUptoRow : OpenClaim := { program := "ytmkeljcjhcaigaa", sum := "84065ed66562ebf7fbc8a0fdafb1fc41d8bb09df929e96017e15803b9562ea2e", func := "wayleave/wayleavelaw22.ConfPuts", spec := "confPuts", unfollowed := true, recurses := true, apart := false, narrowed := true }
def ConfPutsUptoSaid : Prop := confPutsUptoRow.holds Try.pinned (OpenSpec.upto confPutsSpec)

/-- 'wayleavelaw22.ConfGets', WHERE WHAT IT READS IS OF BULK AT MOST 1048576: true; the input reads as it did. -/
def confGetsUptoRow : OpenClaim := { program := "ytmkeljcjhcaigaa", sum := "84065ed66562ebf7fbc8a0fdafb1fc41d8bb09df929e96017e15803b9562ea2e", func := "wayleave/wayleavelaw22.ConfGets", spec := "confGets", unfollowed := true, recurses := true, apart := false, narrowed := true }
def ConfGetsUptoSaid : Prop := confGetsUptoRow.holds Try.pinned (OpenSpec.upto confGetsSpec)

/-- 'wayleavelaw22.ConfBack', WHERE WHAT IT READS IS OF BULK AT MOST 1048576: true; the input reads as it did. -/
def confBackUptoRow : OpenClaim := { program := "ytmkeljcjhcaigaa", sum := "84065ed66562ebf7fbc8a0fdafb1fc41d8bb09df929e96017e15803b9562ea2e", func := "wayleave/wayleavelaw22.ConfBack", spec := "confBack", unfollowed := true, recurses := true, apart := false, narrowed := true }
def ConfBackUptoSaid : Prop := confBackUptoRow.holds Try.pinned (OpenSpec.upto confBackSpec)

/-- 'wayleavelaw22.ConfCuts', WHERE WHAT IT READS IS OF BULK AT MOST 1048576: true; the input reads as it did. -/
def confCutsUptoRow : OpenClaim := { program := "ytmkeljcjhcaigaa", sum := "84065ed66562ebf7fbc8a0fdafb1fc41d8bb09df929e96017e15803b9562ea2e", func := "wayleave/wayleavelaw22.ConfCuts", spec := "confCuts", unfollowed := true, recurses := true, apart := false, narrowed := true }
def ConfCutsUptoSaid : Prop := confCutsUptoRow.holds Try.pinned (OpenSpec.upto confCutsSpec)

/-- 'wayleavelaw22.ConfKeeps', WHERE WHAT IT READS IS OF BULK AT MOST 1048576: true; the input reads as it did. -/
def confKeepsUptoRow : OpenClaim := { program := "ytmkeljcjhcaigaa", sum := "84065ed66562ebf7fbc8a0fdafb1fc41d8bb09df929e96017e15803b9562ea2e", func := "wayleave/wayleavelaw22.ConfKeeps", spec := "confKeeps", unfollowed := true, recurses := true, apart := false, narrowed := true }
def ConfKeepsUptoSaid : Prop := confKeepsUptoRow.holds Try.pinned (OpenSpec.upto confKeepsSpec)

/-- 'wayleavelaw22.ConfAddrs', WHERE WHAT IT READS IS OF BULK AT MOST 1048576: true; the input reads as it did. -/
def confAddrsUptoRow : OpenClaim := { program := "ytmkeljcjhcaigaa", sum := "84065ed66562ebf7fbc8a0fdafb1fc41d8bb09df929e96017e15803b9562ea2e", func := "wayleave/wayleavelaw22.ConfAddrs", spec := "confAddrs", unfollowed := true, recurses := true, apart := false, narrowed := true }
def ConfAddrsUptoSaid : Prop := confAddrsUptoRow.holds Try.pinned (OpenSpec.upto confAddrsSpec)

end Rows
end Go.Proofs.Ytmkeljcjhcaigaa
