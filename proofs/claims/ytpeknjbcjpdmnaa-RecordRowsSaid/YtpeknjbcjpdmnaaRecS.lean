/- Records, in plain Lean. No program in sight. -/
import Derived.Test.YtpeknjbcjpdmnaaVarintW
import Derived.Test.YtpeknjbcjpdmnaaOctP
namespace Go.Proofs.Ytpeknjbcjpdmnaa

/-- What a sum is laid over. -/
def recH (body : List UInt8) : List UInt8 := vput body.length ++ body
/-- A record. -/
def recB (body : List UInt8) : List UInt8 := recH body ++ leB 4 (ofS (recH body))
theorem recH_length (body : List UInt8) : (recH body).length = (vput body.length).length + body.length := by simp [recH]
theorem recB_length (body : List UInt8) : (recB body).length = (vput body.length).length + body.length + 4 := by
  rw [recB, List.length_append, leB_length, recH_length]

/-- The record with which bytes begin: its body, its bytes, the error. -/
def nextS (b : List UInt8) : List UInt8 × Nat × Nat :=
  if (vgetS b).2.2 ≠ 0 then ([], 0, (vgetS b).2.2)
  else if 1048576 < (vgetS b).1 then ([], 0, 4)
  else if b.length < (vgetS b).2.1 + (vgetS b).1 + 4 then ([], 0, 2)
  else if val ((b.drop ((vgetS b).2.1 + (vgetS b).1)).take 4) ≠ ofS (b.take ((vgetS b).2.1 + (vgetS b).1)) then ([], 0, 8)
  else ((b.drop (vgetS b).2.1).take (vgetS b).1, (vgetS b).2.1 + (vgetS b).1 + 4, 0)
end Go.Proofs.Ytpeknjbcjpdmnaa
