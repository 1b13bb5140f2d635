/-
  No cell of these rows narrows 'for every input' (looked for: loops, veiled, ifaces, maps, wideKeys, modest, calm, conditions, laid).
  DERIVED. THE GIVEN ROWS OF THIS SEAT. 11 by the template 'for every input the law returns true; each argument reads behind the call as it read before'; 0 by the template 'total and deterministic' (their statements: YtoieidpiebfjlaaTotals.lean).
  GIVEN WITH THE SEED: the statements are not yours to turn. If you find one false, say at which input.
  Laid BY PROGRAM, IN A SANDBOX (cutbox-rows.mjs): the forced cells as the released guide's own fill.sh prints them over the translation 2a759e141283318b… (all of the seat's roots in one cut). By AI agents, Wed Nov 11 2026. No macro, syntax, notation, axiom, sorry.
-/
import Derived.Test.YtoieidpiebfjlaaChecked
import GoSem.Claim
import GoSem.ClaimJoined
import GoSem.ClaimMapViews
import Derived.JoinedTies
import Derived.KernelRfl
namespace Go.Proofs.Ytoieidpiebfjlaa
/- THE CELL 'sum', in the pinned program and in every row, IS THE sha256 OF THE DUMP (.gsa) THAT YtoieidpiebfjlaaProg.lean LOADS. Nothing in Lean hashes anything: it is a label: what it is worth is what the hold of that sum in a sandbox is worth. -/
noncomputable def Try.pinned : Pinned := { name := "ytoieidpiebfjlaa", sum := "2a759e141283318b03927dca60546bf320ded9b90a73184ba97e46e4b7e9624c", checked := Try.checked }
namespace Rows
def none {H : Type} : Left H := { results := [], args := [] }

/-- 'wayleavelaw02.VarintReads': WHATEVER THE INPUT: true; the input reads as it did. -/
def varintReadsSpec : ChangeSpec := { name := "varintReads", fn := fun _ => fun
  | [d] => { results := [.lit (.bool true)], args := [d] }
  | _ => none }
def varintReadsRow : OpenClaim := { program := "ytoieidpiebfjlaa", sum := "2a759e141283318b03927dca60546bf320ded9b90a73184ba97e46e4b7e9624c", func := "wayleave/wayleavelaw02.VarintReads", spec := "varintReads", apart := false }
def VarintReadsSaid : Prop := varintReadsRow.holds Try.pinned (OpenSpec.ofChange varintReadsSpec)

/-- ITS FALSE NEIGHBOUR: 'it returns false'. Refute it at one input. -/
def varintReadsWrong : ChangeSpec := { name := "varintReads", fn := fun _ => fun
  | [d] => { results := [.lit (.bool false)], args := [d] }
  | _ => none }
def VarintReadsWrongFalsely : Prop := varintReadsRow.holds Try.pinned (OpenSpec.ofChange varintReadsWrong)

/-- 'wayleavelaw02.VarintPuts': WHATEVER THE INPUT: true; the input reads as it did. -/
def varintPutsSpec : ChangeSpec := { name := "varintPuts", fn := fun _ => fun
  | [d] => { results := [.lit (.bool true)], args := [d] }
  | _ => none }
def varintPutsRow : OpenClaim := { program := "ytoieidpiebfjlaa", sum := "2a759e141283318b03927dca60546bf320ded9b90a73184ba97e46e4b7e9624c", func := "wayleave/wayleavelaw02.VarintPuts", spec := "varintPuts", apart := false }
def VarintPutsSaid : Prop := varintPutsRow.holds Try.pinned (OpenSpec.ofChange varintPutsSpec)

/-- ITS FALSE NEIGHBOUR: 'it returns false'. Refute it at one input. -/
def varintPutsWrong : ChangeSpec := { name := "varintPuts", fn := fun _ => fun
  | [d] => { results := [.lit (.bool false)], args := [d] }
  | _ => none }
def VarintPutsWrongFalsely : Prop := varintPutsRow.holds Try.pinned (OpenSpec.ofChange varintPutsWrong)

/-- 'wayleavelaw02.VarintBack': WHATEVER THE INPUT: true; the input reads as it did. -/
def varintBackSpec : ChangeSpec := { name := "varintBack", fn := fun _ => fun
  | [d1, d2, d3] => { results := [.lit (.bool true)], args := [d1, d2, d3] }
  | _ => none }
def varintBackRow : OpenClaim := { program := "ytoieidpiebfjlaa", sum := "2a759e141283318b03927dca60546bf320ded9b90a73184ba97e46e4b7e9624c", func := "wayleave/wayleavelaw02.VarintBack", spec := "varintBack", apart := false }
def VarintBackSaid : Prop := varintBackRow.holds Try.pinned (OpenSpec.ofChange varintBackSpec)

/-- ITS FALSE NEIGHBOUR: 'it returns false'. Refute it at one input. -/
def varintBackWrong : ChangeSpec := { name := "varintBack", fn := fun _ => fun
  | [d1, d2, d3] => { results := [.lit (.bool false)], args := [d1, d2, d3] }
  | _ => none }
def VarintBackWrongFalsely : Prop := varintBackRow.holds Try.pinned (OpenSpec.ofChange varintBackWrong)

/-- 'wayleavelaw02.VarintOnly': WHATEVER THE INPUT: true; the input reads as it did. -/
def varintOnlySpec : ChangeSpec := { name := "varintOnly", fn := fun _ => fun
  | [d] => { results := [.lit (.bool true)], args := [d] }
  | _ => none }
def varintOnlyRow : OpenClaim := { program := "ytoieidpiebfjlaa", sum := "2a759e141283318b03927dca60546bf320ded9b90a73184ba97e46e4b7e9624c", func := "wayleave/wayleavelaw02.VarintOnly", spec := "varintOnly", apart := false }
def VarintOnlySaid : Prop := varintOnlyRow.holds Try.pinned (OpenSpec.ofChange varintOnlySpec)

/-- ITS FALSE NEIGHBOUR: 'it returns false'. Refute it at one input. -/
def varintOnlyWrong : ChangeSpec := { name := "varintOnly", fn := fun _ => fun
  | [d] => { results := [.lit (.bool false)], args := [d] }
  | _ => none }
def VarintOnlyWrongFalsely : Prop := varintOnlyRow.holds Try.pinned (OpenSpec.ofChange varintOnlyWrong)

/-- 'wayleavelaw02.VarintOrder': WHATEVER THE INPUT: true; the input reads as it did. -/
def varintOrderSpec : ChangeSpec := { name := "varintOrder", fn := fun _ => fun
  | [d1, d2] => { results := [.lit (.bool true)], args := [d1, d2] }
  | _ => none }
def varintOrderRow : OpenClaim := { program := "ytoieidpiebfjlaa", sum := "2a759e141283318b03927dca60546bf320ded9b90a73184ba97e46e4b7e9624c", func := "wayleave/wayleavelaw02.VarintOrder", spec := "varintOrder", apart := false }
def VarintOrderSaid : Prop := varintOrderRow.holds Try.pinned (OpenSpec.ofChange varintOrderSpec)

/-- ITS FALSE NEIGHBOUR: 'it returns false'. Refute it at one input. -/
def varintOrderWrong : ChangeSpec := { name := "varintOrder", fn := fun _ => fun
  | [d1, d2] => { results := [.lit (.bool false)], args := [d1, d2] }
  | _ => none }
def VarintOrderWrongFalsely : Prop := varintOrderRow.holds Try.pinned (OpenSpec.ofChange varintOrderWrong)

/-- 'wayleavelaw02.VarintFolds': WHATEVER THE INPUT: true; the input reads as it did. -/
def varintFoldsSpec : ChangeSpec := { name := "varintFolds", fn := fun _ => fun
  | [d1, d2, d3] => { results := [.lit (.bool true)], args := [d1, d2, d3] }
  | _ => none }
def varintFoldsRow : OpenClaim := { program := "ytoieidpiebfjlaa", sum := "2a759e141283318b03927dca60546bf320ded9b90a73184ba97e46e4b7e9624c", func := "wayleave/wayleavelaw02.VarintFolds", spec := "varintFolds", apart := false }
def VarintFoldsSaid : Prop := varintFoldsRow.holds Try.pinned (OpenSpec.ofChange varintFoldsSpec)

/-- ITS FALSE NEIGHBOUR: 'it returns false'. Refute it at one input. -/
def varintFoldsWrong : ChangeSpec := { name := "varintFolds", fn := fun _ => fun
  | [d1, d2, d3] => { results := [.lit (.bool false)], args := [d1, d2, d3] }
  | _ => none }
def VarintFoldsWrongFalsely : Prop := varintFoldsRow.holds Try.pinned (OpenSpec.ofChange varintFoldsWrong)

/-- 'wayleavelaw03.CrcOf': WHATEVER THE INPUT: true; the input reads as it did. -/
def crcOfSpec : ChangeSpec := { name := "crcOf", fn := fun _ => fun
  | [d1, d2] => { results := [.lit (.bool true)], args := [d1, d2] }
  | _ => none }
def crcOfRow : OpenClaim := { program := "ytoieidpiebfjlaa", sum := "2a759e141283318b03927dca60546bf320ded9b90a73184ba97e46e4b7e9624c", func := "wayleave/wayleavelaw03.CrcOf", spec := "crcOf", apart := false }
def CrcOfSaid : Prop := crcOfRow.holds Try.pinned (OpenSpec.ofChange crcOfSpec)

/-- ITS FALSE NEIGHBOUR: 'it returns false'. Refute it at one input. -/
def crcOfWrong : ChangeSpec := { name := "crcOf", fn := fun _ => fun
  | [d1, d2] => { results := [.lit (.bool false)], args := [d1, d2] }
  | _ => none }
def CrcOfWrongFalsely : Prop := crcOfRow.holds Try.pinned (OpenSpec.ofChange crcOfWrong)

/-- 'wayleavelaw03.CrcMore': WHATEVER THE INPUT: true; the input reads as it did. -/
def crcMoreSpec : ChangeSpec := { name := "crcMore", fn := fun _ => fun
  | [d1, d2] => { results := [.lit (.bool true)], args := [d1, d2] }
  | _ => none }
def crcMoreRow : OpenClaim := { program := "ytoieidpiebfjlaa", sum := "2a759e141283318b03927dca60546bf320ded9b90a73184ba97e46e4b7e9624c", func := "wayleave/wayleavelaw03.CrcMore", spec := "crcMore", apart := false }
def CrcMoreSaid : Prop := crcMoreRow.holds Try.pinned (OpenSpec.ofChange crcMoreSpec)

/-- ITS FALSE NEIGHBOUR: 'it returns false'. Refute it at one input. -/
def crcMoreWrong : ChangeSpec := { name := "crcMore", fn := fun _ => fun
  | [d1, d2] => { results := [.lit (.bool false)], args := [d1, d2] }
  | _ => none }
def CrcMoreWrongFalsely : Prop := crcMoreRow.holds Try.pinned (OpenSpec.ofChange crcMoreWrong)

/-- 'wayleavelaw03.CrcJoin': WHATEVER THE INPUT: true; the input reads as it did. -/
def crcJoinSpec : ChangeSpec := { name := "crcJoin", fn := fun _ => fun
  | [d1, d2] => { results := [.lit (.bool true)], args := [d1, d2] }
  | _ => none }
def crcJoinRow : OpenClaim := { program := "ytoieidpiebfjlaa", sum := "2a759e141283318b03927dca60546bf320ded9b90a73184ba97e46e4b7e9624c", func := "wayleave/wayleavelaw03.CrcJoin", spec := "crcJoin", apart := false }
def CrcJoinSaid : Prop := crcJoinRow.holds Try.pinned (OpenSpec.ofChange crcJoinSpec)

/-- ITS FALSE NEIGHBOUR: 'it returns false'. Refute it at one input. -/
def crcJoinWrong : ChangeSpec := { name := "crcJoin", fn := fun _ => fun
  | [d1, d2] => { results := [.lit (.bool false)], args := [d1, d2] }
  | _ => none }
def CrcJoinWrongFalsely : Prop := crcJoinRow.holds Try.pinned (OpenSpec.ofChange crcJoinWrong)

/-- 'wayleavelaw03.CrcBurst': WHATEVER THE INPUT: true; the input reads as it did. -/
def crcBurstSpec : ChangeSpec := { name := "crcBurst", fn := fun _ => fun
  | [d1, d2, d3] => { results := [.lit (.bool true)], args := [d1, d2, d3] }
  | _ => none }
def crcBurstRow : OpenClaim := { program := "ytoieidpiebfjlaa", sum := "2a759e141283318b03927dca60546bf320ded9b90a73184ba97e46e4b7e9624c", func := "wayleave/wayleavelaw03.CrcBurst", spec := "crcBurst", apart := false }
def CrcBurstSaid : Prop := crcBurstRow.holds Try.pinned (OpenSpec.ofChange crcBurstSpec)

/-- ITS FALSE NEIGHBOUR: 'it returns false'. Refute it at one input. -/
def crcBurstWrong : ChangeSpec := { name := "crcBurst", fn := fun _ => fun
  | [d1, d2, d3] => { results := [.lit (.bool false)], args := [d1, d2, d3] }
  | _ => none }
def CrcBurstWrongFalsely : Prop := crcBurstRow.holds Try.pinned (OpenSpec.ofChange crcBurstWrong)

/-- 'wayleavelaw03.CrcThree': WHATEVER THE INPUT: true; the input reads as it did. -/
def crcThreeSpec : ChangeSpec := { name := "crcThree", fn := fun _ => fun
  | [d1, d2, d3] => { results := [.lit (.bool true)], args := [d1, d2, d3] }
  | _ => none }
def crcThreeRow : OpenClaim := { program := "ytoieidpiebfjlaa", sum := "2a759e141283318b03927dca60546bf320ded9b90a73184ba97e46e4b7e9624c", func := "wayleave/wayleavelaw03.CrcThree", spec := "crcThree", apart := false }
def CrcThreeSaid : Prop := crcThreeRow.holds Try.pinned (OpenSpec.ofChange crcThreeSpec)

/-- ITS FALSE NEIGHBOUR: 'it returns false'. Refute it at one input. -/
def crcThreeWrong : ChangeSpec := { name := "crcThree", fn := fun _ => fun
  | [d1, d2, d3] => { results := [.lit (.bool false)], args := [d1, d2, d3] }
  | _ => none }
def CrcThreeWrongFalsely : Prop := crcThreeRow.holds Try.pinned (OpenSpec.ofChange crcThreeWrong)

/- THE SECOND FORM. 'bulk': how many values and letters a reading holds, each counted each time it is reached (what is shared counts as often as it is met; a slice's spare places count too). A statement '..UptoSaid' is the law's where the arguments, and the package variables that the reading takes, are together of bulk at most 1048576: NARROWER than '..Said'. Prove '..Said' where nothing that the law and all that it calls make is longer than what came in: it says more and counts as full. Else prove '..UptoSaid'. A law counts once. -/
mutual
def uptoBulk {H : Type} : DataW H → Nat
  | .lit (.string bytes) => bytes.length + 1
  | .lit _ => 1
  | .nil => 1
  | .ptr d => uptoBulk d + 1
  | .slice elems spare => uptoBulkAll elems + uptoBulkAll spare + 1
  | .agg parts => uptoBulkAll parts + 1
  | .iface _ d => uptoBulk d + 1
  | .map entries => uptoBulkEntries entries + 1
  | .held _ => 1
def uptoBulkAll {H : Type} : List (DataW H) → Nat
  | [] => 0
  | d :: r => uptoBulk d + uptoBulkAll r
def uptoBulkEntries {H : Type} : List (Lit × DataW H) → Nat
  | [] => 0
  | x :: r => uptoBulkEntry x + uptoBulkEntries r
def uptoBulkEntry {H : Type} : Lit × DataW H → Nat
  | (.string bytes, d) => bytes.length + uptoBulk d + 1
  | (_, d) => uptoBulk d + 1
 end
def uptoSmall : (H : Type) → List (DataW H) → Bool := fun _ ds => decide (uptoBulkAll ds ≤ 1048576)
def OpenSpec.upto (s : _root_.Go.ChangeSpec) : _root_.Go.OpenSpec := { _root_.Go.OpenSpec.ofChange s with cond := some uptoSmall }

/-- 'wayleavelaw02.VarintReads', WHERE WHAT IT READS IS OF BULK AT MOST 1048576: true; the input reads as it did. -/
def varintReadsUptoRow : OpenClaim := { program := "ytoieidpiebfjlaa", sum := "2a759e141283318b03927dca60546bf320ded9b90a73184ba97e46e4b7e9624c", func := "wayleave/wayleavelaw02.VarintReads", spec := "varintReads", apart := false, narrowed := true }
def VarintReadsUptoSaid : Prop := varintReadsUptoRow.holds Try.pinned (OpenSpec.upto varintReadsSpec)

/-- 'wayleavelaw02.VarintPuts', WHERE WHAT IT READS IS OF BULK AT MOST 1048576: true; the input reads as it did. -/
def varintPutsUptoRow : OpenClaim := { program := "ytoieidpiebfjlaa", sum := "2a759e141283318b03927dca60546bf320ded9b90a73184ba97e46e4b7e9624c", func := "wayleave/wayleavelaw02.VarintPuts", spec := "varintPuts", apart := false, narrowed := true }
def VarintPutsUptoSaid : Prop := varintPutsUptoRow.holds Try.pinned (OpenSpec.upto varintPutsSpec)

/-- 'wayleavelaw02.VarintBack', WHERE WHAT IT READS IS OF BULK AT MOST 1048576: true; the input reads as it did. -/
def varintBackUptoRow : OpenClaim := { program := "ytoieidpiebfjlaa", sum := "2a759e141283318b03927dca60546bf320ded9b90a73184ba97e46e4b7e9624c", func := "wayleave/wayleavelaw02.VarintBack", spec := "varintBack", apart := false, narrowed := true }
def VarintBackUptoSaid : Prop := varintBackUptoRow.holds Try.pinned (OpenSpec.upto varintBackSpec)

/-- 'wayleavelaw02.VarintOnly', WHERE WHAT IT READS IS OF BULK AT MOST 1048576: true; the input reads as it did. -/
def varintOnlyUptoRow : OpenClaim := { program := "ytoieidpiebfjlaa", sum := "2a759e141283318b03927dca60546bf320ded9b90a73184ba97e46e4b7e9624c", func := "wayleave/wayleavelaw02.VarintOnly", spec := "varintOnly", apart := false, narrowed := true }
def VarintOnlyUptoSaid : Prop := varintOnlyUptoRow.holds Try.pinned (OpenSpec.upto varintOnlySpec)

/-- 'wayleavelaw02.VarintOrder', WHERE WHAT IT READS IS OF BULK AT MOST 1048576: true; the input reads as it did. -/
def varintOrderUptoRow : OpenClaim := { program := "ytoieidpiebfjlaa", sum := "2a759e141283318b03927dca60546bf320ded9b90a73184ba97e46e4b7e9624c", func := "wayleave/wayleavelaw02.VarintOrder", spec := "varintOrder", apart := false, narrowed := true }
def VarintOrderUptoSaid : Prop := varintOrderUptoRow.holds Try.pinned (OpenSpec.upto varintOrderSpec)

/-- 'wayleavelaw02.VarintFolds', WHERE WHAT IT READS IS OF BULK AT MOST 1048576: true; the input reads as it did. -/
def varintFoldsUptoRow : OpenClaim := { program := "ytoieidpiebfjlaa", sum := "2a759e141283318b03927dca60546bf320ded9b90a73184ba97e46e4b7e9624c", func := "wayleave/wayleavelaw02.VarintFolds", spec := "varintFolds", apart := false, narrowed := true }
def VarintFoldsUptoSaid : Prop := varintFoldsUptoRow.holds Try.pinned (OpenSpec.upto varintFoldsSpec)

/-- 'wayleavelaw03.CrcOf', WHERE WHAT IT READS IS OF BULK AT MOST 1048576: true; the input reads as it did. -/
def crcOfUptoRow : OpenClaim := { program := "ytoieidpiebfjlaa", sum := "2a759e141283318b03927dca60546bf320ded9b90a73184ba97e46e4b7e9624c", func := "wayleave/wayleavelaw03.CrcOf", spec := "crcOf", apart := false, narrowed := true }
def CrcOfUptoSaid : Prop := crcOfUptoRow.holds Try.pinned (OpenSpec.upto crcOfSpec)

/-- 'wayleavelaw03.CrcMore', WHERE WHAT IT READS IS OF BULK AT MOST 1048576: true; the input reads as it did. -/
def crcMoreUptoRow : OpenClaim := { program := "ytoieidpiebfjlaa", sum := "2a759e141283318b03927dca60546bf320ded9b90a73184ba97e46e4b7e9624c", func := "wayleave/wayleavelaw03.CrcMore", spec := "crcMore", apart := false, narrowed := true }
def CrcMoreUptoSaid : Prop := crcMoreUptoRow.holds Try.pinned (OpenSpec.upto crcMoreSpec)

/-- 'wayleavelaw03.CrcJoin', WHERE WHAT IT READS IS OF BULK AT MOST 1048576: true; the input reads as it did. -/
def crcJoinUptoRow : OpenClaim := { program := "ytoieidpiebfjlaa", sum := "2a759e141283318b03927dca60546bf320ded9b90a73184ba97e46e4b7e9624c", func := "wayleave/wayleavelaw03.CrcJoin", spec := "crcJoin", apart := false, narrowed := true }
def CrcJoinUptoSaid : Prop := crcJoinUptoRow.holds Try.pinned (OpenSpec.upto crcJoinSpec)

/-- 'wayleavelaw03.CrcBurst', WHERE WHAT IT READS IS OF BULK AT MOST 1048576: true; the input reads as it did. -/
def crcBurstUptoRow : OpenClaim := { program := "ytoieidpiebfjlaa", sum := "2a759e141283318b03927dca60546bf320ded9b90a73184ba97e46e4b7e9624c", func := "wayleave/wayleavelaw03.CrcBurst", spec := "crcBurst", apart := false, narrowed := true }
def CrcBurstUptoSaid : Prop := crcBurstUptoRow.holds Try.pinned (OpenSpec.upto crcBurstSpec)

/-- 'wayleavelaw03.CrcThree', WHERE WHAT IT READS IS OF BULK AT MOST 1048576: true; the input reads as it did. -/
def crcThreeUptoRow : OpenClaim := { program := "ytoieidpiebfjlaa", sum := "2a759e141283318b03927dca60546bf320ded9b90a73184ba97e46e4b7e9624c", func := "wayleave/wayleavelaw03.CrcThree", spec := "crcThree", apart := false, narrowed := true }
def CrcThreeUptoSaid : Prop := crcThreeUptoRow.holds Try.pinned (OpenSpec.upto crcThreeSpec)

end Rows
end Go.Proofs.Ytoieidpiebfjlaa
