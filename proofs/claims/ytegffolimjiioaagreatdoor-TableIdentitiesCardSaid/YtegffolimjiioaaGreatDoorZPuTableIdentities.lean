/- The plain law of TableIdentities: no program in sight. -/
import Derived.Test.YtegffolimjiioaaGreatDoorZQTableIdentities
namespace Go.Proofs.YtegffolimjiioaaGreatDoor.Pure
open Go.RowKit Go.Proofs.YtegffolimjiioaaGreatDoor.PB Go.Proofs.YtegffolimjiioaaGreatDoorW.PrintWords Go.Proofs.YtegffolimjiioaaGreatDoorW.PrintLast
theorem identities_tab : ∀ n : Fin 13, schismalaw06_TableIdentities.f 60 (n.val : Int) = some true := by decide +kernel
theorem TableIdentities : schismalaw06_TableIdentities.Pure := by
 intro a0 _
 refine ⟨60, ?_⟩
 by_cases h0 : a0 < 0
 ·simp [schismalaw06_TableIdentities.f, schismalaw06_known.f, table_Identity.f, h0, table_Identity.j0, schismalaw06_TableIdentities.j0]
 ·by_cases h1 : a0 > 12
  ·simp [schismalaw06_TableIdentities.f, schismalaw06_known.f, table_Identity.f, h0, h1, table_Identity.j0, schismalaw06_TableIdentities.j0]
  ·have := identities_tab ⟨a0.toNat, by omega⟩
   rwa [show ((a0.toNat : Nat) : Int) = a0 by omega] at this
end Go.Proofs.YtegffolimjiioaaGreatDoor.Pure
