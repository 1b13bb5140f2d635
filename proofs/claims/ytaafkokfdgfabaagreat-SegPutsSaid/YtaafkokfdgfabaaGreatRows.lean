/-
  No cell of these rows narrows 'for every input' (looked for: loops, veiled, ifaces, maps, wideKeys, modest, calm, conditions, laid).
  DERIVED. THE GIVEN ROWS OF THIS SEAT. 6 by the template 'for every input the law returns true; each argument reads behind the call as it read before'; 0 by the template 'total and deterministic' (their statements: YtaafkokfdgfabaaGreatTotals.lean).
  GIVEN WITH THE SEED: the statements are not yours to turn. If you find one false, say at which input.
  Laid BY PROGRAM, IN A SANDBOX (cutbox-rows.mjs): the forced cells as the released guide's own fill.sh prints them over the translation 7e7a4c8aaa3aad5b… (all of the seat's roots in one cut). By AI agents, Wed Nov 11 2026. No macro, syntax, notation, axiom, sorry.
-/
import Derived.Test.YtaafkokfdgfabaaGreatChecked
import GoSem.Claim
import GoSem.ClaimJoined
import GoSem.ClaimMapViews
import Derived.JoinedTies
import Derived.KernelRfl
namespace Go.Proofs.YtaafkokfdgfabaaGreat
/- THE CELL 'sum', in the pinned program and in every row, IS THE sha256 OF THE DUMP (.gsa) THAT YtaafkokfdgfabaaGreatProg.lean LOADS. Nothing in Lean hashes anything: it is a label: what it is worth is what the hold of that sum in a sandbox is worth. -/
noncomputable def Tryz.pinned : Pinned := { name := "ytaafkokfdgfabaagreat", sum := "7e7a4c8aaa3aad5b3501a76e3efe44e15829a8f1308c94a968aba500bd19c975", checked := Tryz.checked }
namespace Rows
def none {H : Type} : Left H := { results := [], args := [] }

/-- 'wayleavelaw30.SegPuts': WHATEVER THE INPUT: true; the input reads as it did. -/
def segPutsSpec : ChangeSpec := { name := "segPuts", fn := fun _ => fun
  | [d] => { results := [.lit (.bool true)], args := [d] }
  | _ => none }
def segPutsRow : OpenClaim := { program := "ytaafkokfdgfabaagreat", sum := "7e7a4c8aaa3aad5b3501a76e3efe44e15829a8f1308c94a968aba500bd19c975", func := "wayleave/wayleavelaw30.SegPuts", spec := "segPuts", inPlace := ["math.Float64bits", "internal/bytealg.Compare", "math.Float64frombits"], unfollowed := true, recurses := true, plainKeys := false, apart := false }
def SegPutsSaid : Prop := segPutsRow.holds Tryz.pinned (OpenSpec.ofChange segPutsSpec)

/-- ITS FALSE NEIGHBOUR: 'it returns false'. Refute it at one input. -/
def segPutsWrong : ChangeSpec := { name := "segPuts", fn := fun _ => fun
  | [d] => { results := [.lit (.bool false)], args := [d] }
  | _ => none }
def SegPutsWrongFalsely : Prop := segPutsRow.holds Tryz.pinned (OpenSpec.ofChange segPutsWrong)

/-- 'wayleavelaw30.SegBack': WHATEVER THE INPUT: true; the input reads as it did. -/
def segBackSpec : ChangeSpec := { name := "segBack", fn := fun _ => fun
  | [d1, d2] => { results := [.lit (.bool true)], args := [d1, d2] }
  | _ => none }
def segBackRow : OpenClaim := { program := "ytaafkokfdgfabaagreat", sum := "7e7a4c8aaa3aad5b3501a76e3efe44e15829a8f1308c94a968aba500bd19c975", func := "wayleave/wayleavelaw30.SegBack", spec := "segBack", inPlace := ["math.Float64bits", "internal/bytealg.Compare", "math.Float64frombits"], unfollowed := true, recurses := true, plainKeys := false, apart := false }
def SegBackSaid : Prop := segBackRow.holds Tryz.pinned (OpenSpec.ofChange segBackSpec)

/-- ITS FALSE NEIGHBOUR: 'it returns false'. Refute it at one input. -/
def segBackWrong : ChangeSpec := { name := "segBack", fn := fun _ => fun
  | [d1, d2] => { results := [.lit (.bool false)], args := [d1, d2] }
  | _ => none }
def SegBackWrongFalsely : Prop := segBackRow.holds Tryz.pinned (OpenSpec.ofChange segBackWrong)

/-- 'wayleavelaw30.SegTorn': WHATEVER THE INPUT: true; the input reads as it did. -/
def segTornSpec : ChangeSpec := { name := "segTorn", fn := fun _ => fun
  | [d1, d2] => { results := [.lit (.bool true)], args := [d1, d2] }
  | _ => none }
def segTornRow : OpenClaim := { program := "ytaafkokfdgfabaagreat", sum := "7e7a4c8aaa3aad5b3501a76e3efe44e15829a8f1308c94a968aba500bd19c975", func := "wayleave/wayleavelaw30.SegTorn", spec := "segTorn", inPlace := ["math.Float64bits", "internal/bytealg.Compare", "math.Float64frombits"], unfollowed := true, recurses := true, plainKeys := false, apart := false }
def SegTornSaid : Prop := segTornRow.holds Tryz.pinned (OpenSpec.ofChange segTornSpec)

/-- ITS FALSE NEIGHBOUR: 'it returns false'. Refute it at one input. -/
def segTornWrong : ChangeSpec := { name := "segTorn", fn := fun _ => fun
  | [d1, d2] => { results := [.lit (.bool false)], args := [d1, d2] }
  | _ => none }
def SegTornWrongFalsely : Prop := segTornRow.holds Tryz.pinned (OpenSpec.ofChange segTornWrong)

/-- 'wayleavelaw30.SegGrows': WHATEVER THE INPUT: true; the input reads as it did. -/
def segGrowsSpec : ChangeSpec := { name := "segGrows", fn := fun _ => fun
  | [d1, d2, d3] => { results := [.lit (.bool true)], args := [d1, d2, d3] }
  | _ => none }
def segGrowsRow : OpenClaim := { program := "ytaafkokfdgfabaagreat", sum := "7e7a4c8aaa3aad5b3501a76e3efe44e15829a8f1308c94a968aba500bd19c975", func := "wayleave/wayleavelaw30.SegGrows", spec := "segGrows", inPlace := ["math.Float64bits", "internal/bytealg.Compare", "math.Float64frombits"], unfollowed := true, recurses := true, plainKeys := false, apart := false }
def SegGrowsSaid : Prop := segGrowsRow.holds Tryz.pinned (OpenSpec.ofChange segGrowsSpec)

/-- ITS FALSE NEIGHBOUR: 'it returns false'. Refute it at one input. -/
def segGrowsWrong : ChangeSpec := { name := "segGrows", fn := fun _ => fun
  | [d1, d2, d3] => { results := [.lit (.bool false)], args := [d1, d2, d3] }
  | _ => none }
def SegGrowsWrongFalsely : Prop := segGrowsRow.holds Tryz.pinned (OpenSpec.ofChange segGrowsWrong)

/-- 'wayleavelaw30.SegNames': WHATEVER THE INPUT: true; the input reads as it did. -/
def segNamesSpec : ChangeSpec := { name := "segNames", fn := fun _ => fun
  | [d1, d2, d3] => { results := [.lit (.bool true)], args := [d1, d2, d3] }
  | _ => none }
def segNamesRow : OpenClaim := { program := "ytaafkokfdgfabaagreat", sum := "7e7a4c8aaa3aad5b3501a76e3efe44e15829a8f1308c94a968aba500bd19c975", func := "wayleave/wayleavelaw30.SegNames", spec := "segNames", inPlace := ["math.Float64bits", "internal/bytealg.Compare", "math.Float64frombits"], unfollowed := true, recurses := true, plainKeys := false, apart := false }
def SegNamesSaid : Prop := segNamesRow.holds Tryz.pinned (OpenSpec.ofChange segNamesSpec)

/-- ITS FALSE NEIGHBOUR: 'it returns false'. Refute it at one input. -/
def segNamesWrong : ChangeSpec := { name := "segNames", fn := fun _ => fun
  | [d1, d2, d3] => { results := [.lit (.bool false)], args := [d1, d2, d3] }
  | _ => none }
def SegNamesWrongFalsely : Prop := segNamesRow.holds Tryz.pinned (OpenSpec.ofChange segNamesWrong)

/-- 'wayleavelaw30.SegKeeps': WHATEVER THE INPUT: true; the input reads as it did. -/
def segKeepsSpec : ChangeSpec := { name := "segKeeps", fn := fun _ => fun
  | [d] => { results := [.lit (.bool true)], args := [d] }
  | _ => none }
def segKeepsRow : OpenClaim := { program := "ytaafkokfdgfabaagreat", sum := "7e7a4c8aaa3aad5b3501a76e3efe44e15829a8f1308c94a968aba500bd19c975", func := "wayleave/wayleavelaw30.SegKeeps", spec := "segKeeps", inPlace := ["math.Float64bits", "internal/bytealg.Compare", "math.Float64frombits"], unfollowed := true, recurses := true, plainKeys := false, apart := false }
def SegKeepsSaid : Prop := segKeepsRow.holds Tryz.pinned (OpenSpec.ofChange segKeepsSpec)

/-- ITS FALSE NEIGHBOUR: 'it returns false'. Refute it at one input. -/
def segKeepsWrong : ChangeSpec := { name := "segKeeps", fn := fun _ => fun
  | [d] => { results := [.lit (.bool false)], args := [d] }
  | _ => none }
def SegKeepsWrongFalsely : Prop := segKeepsRow.holds Tryz.pinned (OpenSpec.ofChange segKeepsWrong)

/- THE SECOND FORM. 'bulk': how many values and letters a reading holds, each counted each time it is reached (what is shared counts as often as it is met; a slice's spare places count too). A statement '..UptoSaid' is the law's where the arguments, and the package variables that the reading takes, are together of bulk at most 1048576: NARROWER than '..Said'. Prove '..Said' where nothing that the law and all that it calls make is longer than what came in: it says more and counts as full. Else prove '..UptoSaid'. A law counts once. -/
mutual
def uptoBulk {H : Type} : DataW H → Nat
  | .lit (.string bytes) => bytes.length + 1
  | .lit _ => 1
  | .nil => 1
  | .ptr d => uptoBulk d + 1
  | .slice elems spare => uptoBulkAll elems + uptoBulkAll spare + 1
  | .agg parts => uptoBulkAll parts + 1
  | .iface _ d => uptoBulk d + 1
  | .map entries => uptoBulkEntries entries + 1
  | .held _ => 1
def uptoBulkAll {H : Type} : List (DataW H) → Nat
  | [] => 0
  | d :: r => uptoBulk d + uptoBulkAll r
def uptoBulkEntries {H : Type} : List (Lit × DataW H) → Nat
  | [] => 0
  | x :: r => uptoBulkEntry x + uptoBulkEntries r
def uptoBulkEntry {H : Type} : Lit × DataW H → Nat
  | (.string bytes, d) => bytes.length + uptoBulk d + 1
  | (_, d) => uptoBulk d + 1
 end
def uptoSmall : (H : Type) → List (DataW H) → Bool := fun _ ds => decide (uptoBulkAll ds ≤ 1048576)
def OpenSpec.upto (s : _root_.Go.ChangeSpec) : _root_.Go.OpenSpec := { _root_.Go.OpenSpec.ofChange s with cond := some uptoSmall }

/-- 'wayleavelaw30.SegPuts', WHERE WHAT IT READS IS OF BULK AT MOST 1048576: true; the input reads as it did. -/
def segPutsUptoRow : OpenClaim := { program := "ytaafkokfdgfabaagreat", sum := "7e7a4c8aaa3aad5b3501a76e3efe44e15829a8f1308c94a968aba500bd19c975", func := "wayleave/wayleavelaw30.SegPuts", spec := "segPuts", inPlace := ["math.Float64bits", "internal/bytealg.Compare", "math.Float64frombits"], unfollowed := true, recurses := true, plainKeys := false, apart := false, narrowed := true }
def SegPutsUptoSaid : Prop := segPutsUptoRow.holds Tryz.pinned (OpenSpec.upto segPutsSpec)

/-- 'wayleavelaw30.SegBack', WHERE WHAT IT READS IS OF BULK AT MOST 1048576: true; the input reads as it did. -/
def segBackUptoRow : OpenClaim := { program := "ytaafkokfdgfabaagreat", sum := "7e7a4c8aaa3aad5b3501a76e3efe44e15829a8f1308c94a968aba500bd19c975", func := "wayleave/wayleavelaw30.SegBack", spec := "segBack", inPlace := ["math.Float64bits", "internal/bytealg.Compare", "math.Float64frombits"], unfollowed := true, recurses := true, plainKeys := false, apart := false, narrowed := true }
def SegBackUptoSaid : Prop := segBackUptoRow.holds Tryz.pinned (OpenSpec.upto segBackSpec)

/-- 'wayleavelaw30.SegTorn', WHERE WHAT IT READS IS OF BULK AT MOST 1048576: true; the input reads as it did. -/
def segTornUptoRow : OpenClaim := { program := "ytaafkokfdgfabaagreat", sum := "7e7a4c8aaa3aad5b3501a76e3efe44e15829a8f1308c94a968aba500bd19c975", func := "wayleave/wayleavelaw30.SegTorn", spec := "segTorn", inPlace := ["math.Float64bits", "internal/bytealg.Compare", "math.Float64frombits"], unfollowed := true, recurses := true, plainKeys := false, apart := false, narrowed := true }
def SegTornUptoSaid : Prop := segTornUptoRow.holds Tryz.pinned (OpenSpec.upto segTornSpec)

/-- 'wayleavelaw30.SegGrows', WHERE WHAT IT READS IS OF BULK AT MOST 1048576: true; the input reads as it did. -/
def segGrowsUptoRow : OpenClaim := { program := "ytaafkokfdgfabaagreat", sum := "7e7a4c8aaa3aad5b3501a76e3efe44e15829a8f1308c94a968aba500bd19c975", func := "wayleave/wayleavelaw30.SegGrows", spec := "segGrows", inPlace := ["math.Float64bits", "internal/bytealg.Compare", "math.Float64frombits"], unfollowed := true, recurses := true, plainKeys := false, apart := false, narrowed := true }
def SegGrowsUptoSaid : Prop := segGrowsUptoRow.holds Tryz.pinned (OpenSpec.upto segGrowsSpec)

/-- 'wayleavelaw30.SegNames', WHERE WHAT IT READS IS OF BULK AT MOST 1048576: true; the input reads as it did. -/
def segNamesUptoRow : OpenClaim := { program := "ytaafkokfdgfabaagreat", sum := "7e7a4c8aaa3aad5b3501a76e3efe44e15829a8f1308c94a968aba500bd19c975", func := "wayleave/wayleavelaw30.SegNames", spec := "segNames", inPlace := ["math.Float64bits", "internal/bytealg.Compare", "math.Float64frombits"], unfollowed := true, recurses := true, plainKeys := false, apart := false, narrowed := true }
def SegNamesUptoSaid : Prop := segNamesUptoRow.holds Tryz.pinned (OpenSpec.upto segNamesSpec)

/-- 'wayleavelaw30.SegKeeps', WHERE WHAT IT READS IS OF BULK AT MOST 1048576: true; the input reads as it did. -/
def segKeepsUptoRow : OpenClaim := { program := "ytaafkokfdgfabaagreat", sum := "7e7a4c8aaa3aad5b3501a76e3efe44e15829a8f1308c94a968aba500bd19c975", func := "wayleave/wayleavelaw30.SegKeeps", spec := "segKeeps", inPlace := ["math.Float64bits", "internal/bytealg.Compare", "math.Float64frombits"], unfollowed := true, recurses := true, plainKeys := false, apart := false, narrowed := true }
def SegKeepsUptoSaid : Prop := segKeepsUptoRow.holds Tryz.pinned (OpenSpec.upto segKeepsSpec)

end Rows
end Go.Proofs.YtaafkokfdgfabaaGreat
