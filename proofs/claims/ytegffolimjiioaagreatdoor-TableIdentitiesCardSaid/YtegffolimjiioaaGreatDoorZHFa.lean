/- The pure functions of the texts that were typed by hand: what the contracts say. No program here. -/
import Derived.Test.YtegffolimjiioaaGreatDoorZWMore
import Derived.Test.YtegffolimjiioaaGreatDoorZWLast
import Derived.Test.YtegffolimjiioaaGreatDoorZWWords
import Derived.Lib.ItoaNum
import Derived.Lib.AtoiAll
import Derived.Lib.ParseIntB
namespace Go.Proofs.YtegffolimjiioaaGreatDoor.PB
open Go Go.RowKit Go.Proofs.YtegffolimjiioaaGreatDoorW.PrintWords Go.Proofs.YtegffolimjiioaaGreatDoorW.PrintLast Go.Proofs.YtegffolimjiioaaGreatDoorW.PrintMore
set_option linter.unusedVariables false
set_option linter.unusedSimpArgs false
def txt (z : Int) : ByteArray := ⟨(Lib.itoa z).toArray⟩
def in64 (z : Int) : Bool := decide (-9223372036854775808 ≤ z) && decide (z ≤ 9223372036854775807)
theorem in64_iff (z : Int) : in64 z = true ↔ -9223372036854775808 ≤ z ∧ z ≤ 9223372036854775807 := by simp [in64]
def strconv_Itoa.f (a0 : Int) : Option ByteArray := if in64 a0 = true then some (txt a0) else none
def whole_little.f (a0 : ByteArray) (a1 : Int) : Option (Int × Bool) :=
 if (a0.size : Int) > a1 then some (0, false) else if 281474976710656 < a0.size then none else
 match Lib.atoiAll a0.data.toList with
 | .ok v => some (v, true)
 | _ => none
def fraction_little.f (a0 : ByteArray) : Option (Int × Bool) :=
 if (a0.size : Int) > 9 then some (0, false) else
 match Lib.atoiAll a0.data.toList with
 | .ok v => some (v, true)
 | _ => none
end Go.Proofs.YtegffolimjiioaaGreatDoor.PB
