/- What the document fixes of configs (the statements' awake), in plain Lean. No program in sight. -/
import Derived.Test.YtmkeljcjhcaigaaCgsw
namespace Go.Proofs.Ytmkeljcjhcaigaa
open Go.RowKit
set_option linter.unusedVariables false

def cA : ConfP := { conf0 with size := 7, room := 9, rise := 2, fall := 3, six := (true, List.replicate 16 0), most := 1000, keep := 2, batch := 5 }
def lA : List UInt8 := [0, 7, 9, 0, 0, 0, 0, 0, 2, 3, 0, 0, 0, 0, 0, 0, 0, 0, 0, 0, 0, 0, 0, 0, 0, 0, 0, 0, 0, 0, 0, 0, 0, 0, 0, 0, 232, 7, 2, 5]
theorem cA_shape : ConfShape cA := ⟨by simp [cA, conf0], rfl, rfl, rfl, rfl⟩
theorem cA_right : rightB cA = true := by decide +kernel
theorem conf0_right : rightB conf0 = false := by decide +kernel
theorem cA_put : confPutS cA = lA := by decide +kernel
theorem cA_get : confGetS lA = some cA := by rw [← cA_put]; exact confGet_iff.2 ⟨rfl, rightB_iff.1 cA_right, cA_shape⟩
theorem nil_get : confGetS [] = none := by
  have h : (confGetS []).isNone = true := by decide +kernel
  simpa using h
theorem cA_same : sameB cA cA = true := sameB_iff.2 rfl
def aA : AddrP := (false, [1, 2, 3, 4, 0, 0, 0, 0, 0, 0, 0, 0, 0, 0, 0, 0])
def vA : VipP := (aA, 6, 80, false)
theorem aA_ok : addrOk aA := rfl
theorem aA_find : vipFind aA 6 80 [vA] = (vA, true) := by decide +kernel
theorem aA_nofind : vipFind aA 17 80 [vA] = (vip0, false) := by decide +kernel
theorem aA_take : takeAddrS [4, 1, 2, 3, 4] (0, 0, 0) = ((5, 0, 0), some aA) := by decide +kernel
theorem aA_notake : takeAddrS [5, 1, 2, 3, 4] (0, 0, 0) = ((1, 0, 0), none) := by decide +kernel
theorem aA_put : putAddrS aA = [4, 1, 2, 3, 4] := by decide +kernel
theorem aA_short : shortB aA = true := by decide +kernel
end Go.Proofs.Ytmkeljcjhcaigaa
