/- Words of the walks, after those that the kit's print writes, cut down to what this claim uses. -/
import Derived.Test.YtegffolimjiioaaGreatDoorZWTab
namespace Go.Proofs.YtegffolimjiioaaGreatDoorW.PrintLast
def up (b : Nat → Bool) (i : Nat) : Nat → Bool := fun j => if j = i then true else b j
section
end
end Go.Proofs.YtegffolimjiioaaGreatDoorW.PrintLast
