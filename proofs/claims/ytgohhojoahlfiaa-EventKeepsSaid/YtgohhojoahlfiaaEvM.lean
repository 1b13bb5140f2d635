/- Closed facts that the statements' awake asks for; no program in sight. -/
import Derived.Test.YtgohhojoahlfiaaEvE
import Derived.Test.YtgohhojoahlfiaaEvN
namespace Go.Proofs.Ytgohhojoahlfiaa
open Go.RowKit
set_option linter.unusedVariables false
set_option linter.unusedSimpArgs false

def evA : EvP := { ev0 with act := { act0 with kind := 4 } }
def backA : BackP := { back0 with name := [97] }
theorem evA_shape : EvShape evA := ⟨⟨back0_shape, by decide⟩, by decide⟩
theorem backA_shape : BackShape backA := ⟨rfl, rfl, by decide⟩
theorem evA_right : rightEB evA = true := by decide +kernel
theorem evA_plain : plainB evA.act = true := by decide +kernel
theorem ev0_right : rightEB ev0 = false := by decide +kernel
theorem act5_plain : plainB { act0 with kind := 5 } = false := by decide +kernel
theorem evA_bytes : evBytes evA = [4, 0, 0, 0, 0, 0, 0, 0, 0, 0, 0] := by decide +kernel
theorem evA_get : evGetS [4, 0, 0, 0, 0, 0, 0, 0, 0, 0, 0] = some evA := by kernel_rfl
theorem nil_get : evGetS [] = none := by kernel_rfl
theorem of19E : ofS [49, 50, 51, 52, 53, 54, 55, 56, 57] = 3808858755 := by decide +kernel
theorem backA_told : toldB backA = true := by decide +kernel
theorem backA_take : takeBackS (backBytes backA) (0, 0, 0) = (backA, true) := by kernel_rfl
theorem nil_take : (takeBackS [] (0, 0, 0)).2 = false := by decide +kernel
end Go.Proofs.Ytgohhojoahlfiaa
