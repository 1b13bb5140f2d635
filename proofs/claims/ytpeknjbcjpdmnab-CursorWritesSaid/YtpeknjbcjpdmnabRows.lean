/-
  No cell of these rows narrows 'for every input' (looked for: loops, veiled, ifaces, maps, wideKeys, modest, calm, conditions, laid).
  DERIVED. THE GIVEN ROWS OF THIS SEAT. 7 by the template 'for every input the law returns true; each argument reads behind the call as it read before'; 0 by the template 'total and deterministic' (their statements: YtpeknjbcjpdmnabTotals.lean).
  GIVEN WITH THE SEED: the statements are not yours to turn. If you find one false, say at which input.
  Laid BY PROGRAM, IN A SANDBOX (cutbox-rows.mjs): the forced cells as the released guide's own fill.sh prints them over the translation 4cbcdbec06cf0ac8… (all of the seat's roots in one cut). By AI agents, Wed Nov 11 2026. No macro, syntax, notation, axiom, sorry.
-/
import Derived.Test.YtpeknjbcjpdmnabChecked
import GoSem.Claim
import GoSem.ClaimJoined
import GoSem.ClaimMapViews
import Derived.JoinedTies
import Derived.KernelRfl
namespace Go.Proofs.Ytpeknjbcjpdmnab
/- THE CELL 'sum', in the pinned program and in every row, IS THE sha256 OF THE DUMP (.gsa) THAT YtpeknjbcjpdmnabProg.lean LOADS. Nothing in Lean hashes anything: it is a label: what it is worth is what the hold of that sum in a sandbox is worth. -/
noncomputable def Try.pinned : Pinned := { name := "ytpeknjbcjpdmnab", sum := "4cbcdbec06cf0ac8ae85f7f2482b2b35b737606afe2b0d14355e8a98415843c0", checked := Try.checked }
namespace Rows
def none {H : Type} : Left H := { results := [], args := [] }

/-- 'wayleavelaw04.CursorScans': WHATEVER THE INPUT: true; the input reads as it did. -/
def cursorScansSpec : ChangeSpec := { name := "cursorScans", fn := fun _ => fun
  | [d1, d2] => { results := [.lit (.bool true)], args := [d1, d2] }
  | _ => none }
def cursorScansRow : OpenClaim := { program := "ytpeknjbcjpdmnab", sum := "4cbcdbec06cf0ac8ae85f7f2482b2b35b737606afe2b0d14355e8a98415843c0", func := "wayleave/wayleavelaw04.CursorScans", spec := "cursorScans", unfollowed := true, recurses := true, apart := false }
def CursorScansSaid : Prop := cursorScansRow.holds Try.pinned (OpenSpec.ofChange cursorScansSpec)

/-- ITS FALSE NEIGHBOUR: 'it returns false'. Refute it at one input. -/
def cursorScansWrong : ChangeSpec := { name := "cursorScans", fn := fun _ => fun
  | [d1, d2] => { results := [.lit (.bool false)], args := [d1, d2] }
  | _ => none }
def CursorScansWrongFalsely : Prop := cursorScansRow.holds Try.pinned (OpenSpec.ofChange cursorScansWrong)

/-- 'wayleavelaw04.CursorLays': WHATEVER THE INPUT: true; the input reads as it did. -/
def cursorLaysSpec : ChangeSpec := { name := "cursorLays", fn := fun _ => fun
  | [d1, d2] => { results := [.lit (.bool true)], args := [d1, d2] }
  | _ => none }
def cursorLaysRow : OpenClaim := { program := "ytpeknjbcjpdmnab", sum := "4cbcdbec06cf0ac8ae85f7f2482b2b35b737606afe2b0d14355e8a98415843c0", func := "wayleave/wayleavelaw04.CursorLays", spec := "cursorLays", unfollowed := true, recurses := true, apart := false }
def CursorLaysSaid : Prop := cursorLaysRow.holds Try.pinned (OpenSpec.ofChange cursorLaysSpec)

/-- ITS FALSE NEIGHBOUR: 'it returns false'. Refute it at one input. -/
def cursorLaysWrong : ChangeSpec := { name := "cursorLays", fn := fun _ => fun
  | [d1, d2] => { results := [.lit (.bool false)], args := [d1, d2] }
  | _ => none }
def CursorLaysWrongFalsely : Prop := cursorLaysRow.holds Try.pinned (OpenSpec.ofChange cursorLaysWrong)

/-- 'wayleavelaw04.CursorBack': WHATEVER THE INPUT: true; the input reads as it did. -/
def cursorBackSpec : ChangeSpec := { name := "cursorBack", fn := fun _ => fun
  | [d1, d2, d3, d4] => { results := [.lit (.bool true)], args := [d1, d2, d3, d4] }
  | _ => none }
def cursorBackRow : OpenClaim := { program := "ytpeknjbcjpdmnab", sum := "4cbcdbec06cf0ac8ae85f7f2482b2b35b737606afe2b0d14355e8a98415843c0", func := "wayleave/wayleavelaw04.CursorBack", spec := "cursorBack", unfollowed := true, recurses := true, apart := false }
def CursorBackSaid : Prop := cursorBackRow.holds Try.pinned (OpenSpec.ofChange cursorBackSpec)

/-- ITS FALSE NEIGHBOUR: 'it returns false'. Refute it at one input. -/
def cursorBackWrong : ChangeSpec := { name := "cursorBack", fn := fun _ => fun
  | [d1, d2, d3, d4] => { results := [.lit (.bool false)], args := [d1, d2, d3, d4] }
  | _ => none }
def CursorBackWrongFalsely : Prop := cursorBackRow.holds Try.pinned (OpenSpec.ofChange cursorBackWrong)

/-- 'wayleavelaw04.CursorOnly': WHATEVER THE INPUT: true; the input reads as it did. -/
def cursorOnlySpec : ChangeSpec := { name := "cursorOnly", fn := fun _ => fun
  | [d1, d2] => { results := [.lit (.bool true)], args := [d1, d2] }
  | _ => none }
def cursorOnlyRow : OpenClaim := { program := "ytpeknjbcjpdmnab", sum := "4cbcdbec06cf0ac8ae85f7f2482b2b35b737606afe2b0d14355e8a98415843c0", func := "wayleave/wayleavelaw04.CursorOnly", spec := "cursorOnly", unfollowed := true, recurses := true, apart := false }
def CursorOnlySaid : Prop := cursorOnlyRow.holds Try.pinned (OpenSpec.ofChange cursorOnlySpec)

/-- ITS FALSE NEIGHBOUR: 'it returns false'. Refute it at one input. -/
def cursorOnlyWrong : ChangeSpec := { name := "cursorOnly", fn := fun _ => fun
  | [d1, d2] => { results := [.lit (.bool false)], args := [d1, d2] }
  | _ => none }
def CursorOnlyWrongFalsely : Prop := cursorOnlyRow.holds Try.pinned (OpenSpec.ofChange cursorOnlyWrong)

/-- 'wayleavelaw04.CursorKeeps': WHATEVER THE INPUT: true; the input reads as it did. -/
def cursorKeepsSpec : ChangeSpec := { name := "cursorKeeps", fn := fun _ => fun
  | [d1, d2] => { results := [.lit (.bool true)], args := [d1, d2] }
  | _ => none }
def cursorKeepsRow : OpenClaim := { program := "ytpeknjbcjpdmnab", sum := "4cbcdbec06cf0ac8ae85f7f2482b2b35b737606afe2b0d14355e8a98415843c0", func := "wayleave/wayleavelaw04.CursorKeeps", spec := "cursorKeeps", unfollowed := true, recurses := true, apart := false }
def CursorKeepsSaid : Prop := cursorKeepsRow.holds Try.pinned (OpenSpec.ofChange cursorKeepsSpec)

/-- ITS FALSE NEIGHBOUR: 'it returns false'. Refute it at one input. -/
def cursorKeepsWrong : ChangeSpec := { name := "cursorKeeps", fn := fun _ => fun
  | [d1, d2] => { results := [.lit (.bool false)], args := [d1, d2] }
  | _ => none }
def CursorKeepsWrongFalsely : Prop := cursorKeepsRow.holds Try.pinned (OpenSpec.ofChange cursorKeepsWrong)

/-- 'wayleavelaw04.CursorReads': WHATEVER THE INPUT: true; the input reads as it did. -/
def cursorReadsSpec : ChangeSpec := { name := "cursorReads", fn := fun _ => fun
  | [d1, d2] => { results := [.lit (.bool true)], args := [d1, d2] }
  | _ => none }
def cursorReadsRow : OpenClaim := { program := "ytpeknjbcjpdmnab", sum := "4cbcdbec06cf0ac8ae85f7f2482b2b35b737606afe2b0d14355e8a98415843c0", func := "wayleave/wayleavelaw04.CursorReads", spec := "cursorReads", unfollowed := true, recurses := true, apart := false }
def CursorReadsSaid : Prop := cursorReadsRow.holds Try.pinned (OpenSpec.ofChange cursorReadsSpec)

/-- ITS FALSE NEIGHBOUR: 'it returns false'. Refute it at one input. -/
def cursorReadsWrong : ChangeSpec := { name := "cursorReads", fn := fun _ => fun
  | [d1, d2] => { results := [.lit (.bool false)], args := [d1, d2] }
  | _ => none }
def CursorReadsWrongFalsely : Prop := cursorReadsRow.holds Try.pinned (OpenSpec.ofChange cursorReadsWrong)

/-- 'wayleavelaw04.CursorWrites': WHATEVER THE INPUT: true; the input reads as it did. -/
def cursorWritesSpec : ChangeSpec := { name := "cursorWrites", fn := fun _ => fun
  | [d1, d2] => { results := [.lit (.bool true)], args := [d1, d2] }
  | _ => none }
def cursorWritesRow : OpenClaim := { program := "ytpeknjbcjpdmnab", sum := "4cbcdbec06cf0ac8ae85f7f2482b2b35b737606afe2b0d14355e8a98415843c0", func := "wayleave/wayleavelaw04.CursorWrites", spec := "cursorWrites", unfollowed := true, recurses := true, apart := false }
def CursorWritesSaid : Prop := cursorWritesRow.holds Try.pinned (OpenSpec.ofChange cursorWritesSpec)

/-- ITS FALSE NEIGHBOUR: 'it returns false'. Refute it at one input. -/
def cursorWritesWrong : ChangeSpec := { name := "cursorWrites", fn := fun _ => fun
  | [d1, d2] => { results := [.lit (.bool false)], args := [d1, d2] }
  | _ => none }
def CursorWritesWrongFalsely : Prop := cursorWritesRow.holds Try.pinned (OpenSpec.ofChange cursorWritesWrong)

/- THE SECOND FORM. 'bulk': how many values and letters a reading holds, each counted each time it is reached (what is shared counts as often as it is met; a slice's spare places count too). A statement '..UptoSaid' is the law's where the arguments, and the package variables that the reading takes, are together of bulk at most 1048576: NARROWER than '..Said'. Prove '..Said' where nothing that the law and all that it calls make is longer than what came in: it says more and counts as full. Else prove '..UptoSaid'. A law counts once. -/
mutual
def uptoBulk {H : Type} : DataW H → Nat
  | .lit (.string bytes) => bytes.length + 1
  | .lit _ => 1
  | .nil => 1
  | .ptr d => uptoBulk d + 1
  | .slice elems spare => uptoBulkAll elems + uptoBulkAll spare + 1
  | .agg parts => uptoBulkAll parts + 1
  | .iface _ d => uptoBulk d + 1
  | .map entries => uptoBulkEntries entries + 1
  | .held _ => 1
def uptoBulkAll {H : Type} : List (DataW H) → Nat
  | [] => 0
  | d :: r => uptoBulk d + uptoBulkAll r
def uptoBulkEntries {H : Type} : List (Lit × DataW H) → Nat
  | [] => 0
  | x :: r => uptoBulkEntry x + uptoBulkEntries r
def uptoBulkEntry {H : Type} : Lit × DataW H → Nat
  | (.string bytes, d) => bytes.length + uptoBulk d + 1
  | (_, d) => uptoBulk d + 1
 end
def uptoSmall : (H : Type) → List (DataW H) → Bool := fun _ ds => decide (uptoBulkAll ds ≤ 1048576)
def OpenSpec.upto (s : _root_.Go.ChangeSpec) : _root_.Go.OpenSpec := { _root_.Go.OpenSpec.ofChange s with cond := some uptoSmall }

/-- 'wayleavelaw04.CursorScans', WHERE WHAT IT READS IS OF BULK AT MOST 1048576: true; the input reads as it did. -/
def cursorScansUptoRow : OpenClaim := { program := "ytpeknjbcjpdmnab", sum := "4cbcdbec06cf0ac8ae85f7f2482b2b35b737606afe2b0d14355e8a98415843c0", func := "wayleave/wayleavelaw04.CursorScans", spec := "cursorScans", unfollowed := true, recurses := true, apart := false, narrowed := true }
def CursorScansUptoSaid : Prop := cursorScansUptoRow.holds Try.pinned (OpenSpec.upto cursorScansSpec)

/-- 'wayleavelaw04.CursorLays', WHERE WHAT IT READS IS OF BULK AT MOST 1048576: true; the input reads as it did. -/
def cursorLaysUptoRow : OpenClaim := { program := "ytpeknjbcjpdmnab", sum := "4cbcdbec06cf0ac8ae85f7f2482b2b35b737606afe2b0d14355e8a98415843c0", func := "wayleave/wayleavelaw04.CursorLays", spec := "cursorLays", unfollowed := true, recurses := true, apart := false, narrowed := true }
def CursorLaysUptoSaid : Prop := cursorLaysUptoRow.holds Try.pinned (OpenSpec.upto cursorLaysSpec)

/-- 'wayleavelaw04.CursorBack', WHERE WHAT IT READS IS OF BULK AT MOST 1048576: true; the input reads as it did. -/
def cursorBackUptoRow : OpenClaim := { program := "ytpeknjbcjpdmnab", sum := "4cbcdbec06cf0ac8ae85f7f2482b2b35b737606afe2b0d14355e8a98415843c0", func := "wayleave/wayleavelaw04.CursorBack", spec := "cursorBack", unfollowed := true, recurses := true, apart := false, narrowed := true }
def CursorBackUptoSaid : Prop := cursorBackUptoRow.holds Try.pinned (OpenSpec.upto cursorBackSpec)

/-- 'wayleavelaw04.CursorOnly', WHERE WHAT IT READS IS OF BULK AT MOST 1048576: true; the input reads as it did. -/
def cursorOnlyUptoRow : OpenClaim := { program := "ytpeknjbcjpdmnab", sum := "4cbcdbec06cf0ac8ae85f7f2482b2b35b737606afe2b0d14355e8a98415843c0", func := "wayleave/wayleavelaw04.CursorOnly", spec := "cursorOnly", unfollowed := true, recurses := true, apart := false, narrowed := true }
def CursorOnlyUptoSaid : Prop := cursorOnlyUptoRow.holds Try.pinned (OpenSpec.upto cursorOnlySpec)

/-- 'wayleavelaw04.CursorKeeps', WHERE WHAT IT READS IS OF BULK AT MOST 1048576: true; the input reads as it did. -/
def cursorKeepsUptoRow : OpenClaim := { program := "ytpeknjbcjpdmnab", sum := "4cbcdbec06cf0ac8ae85f7f2482b2b35b737606afe2b0d14355e8a98415843c0", func := "wayleave/wayleavelaw04.CursorKeeps", spec := "cursorKeeps", unfollowed := true, recurses := true, apart := false, narrowed := true }
def CursorKeepsUptoSaid : Prop := cursorKeepsUptoRow.holds Try.pinned (OpenSpec.upto cursorKeepsSpec)

/-- 'wayleavelaw04.CursorReads', WHERE WHAT IT READS IS OF BULK AT MOST 1048576: true; the input reads as it did. -/
def cursorReadsUptoRow : OpenClaim := { program := "ytpeknjbcjpdmnab", sum := "4cbcdbec06cf0ac8ae85f7f2482b2b35b737606afe2b0d14355e8a98415843c0", func := "wayleave/wayleavelaw04.CursorReads", spec := "cursorReads", unfollowed := true, recurses := true, apart := false, narrowed := true }
def CursorReadsUptoSaid : Prop := cursorReadsUptoRow.holds Try.pinned (OpenSpec.upto cursorReadsSpec)

/-- 'wayleavelaw04.CursorWrites', WHERE WHAT IT READS IS OF BULK AT MOST 1048576: true; the input reads as it did. -/
def cursorWritesUptoRow : OpenClaim := { program := "ytpeknjbcjpdmnab", sum := "4cbcdbec06cf0ac8ae85f7f2482b2b35b737606afe2b0d14355e8a98415843c0", func := "wayleave/wayleavelaw04.CursorWrites", spec := "cursorWrites", unfollowed := true, recurses := true, apart := false, narrowed := true }
def CursorWritesUptoSaid : Prop := cursorWritesUptoRow.holds Try.pinned (OpenSpec.upto cursorWritesSpec)

end Rows
end Go.Proofs.Ytpeknjbcjpdmnab
