/- The tied card of TableIdentities: the row, and the tie of its listed variables to the program's text. -/
import Derived.Test.YtegffolimjiioaaGreatDoorZLbTableIdentities
import Derived.Test.YtegffolimjiioaaGreatDoorTie
import Derived.Test.YtegffolimjiioaaGreatDoorCards
import Derived.SevenTiedAt
namespace Go.Proofs.YtegffolimjiioaaGreatDoor
open Go
theorem ci_looks : (true : Bool) = Tryz.pinned.checked.prog.looks [] := by kernel_rfl
theorem ci_goes : false = Rows.tableIdentitiesRow.goesBy Tryz.pinned.checked.prog := by kernel_rfl
theorem ci_main : Tryz.pinned.checked.prog.mainIs = some (true, "57646ec44814c0bc559f76700ef23affb83bee77a232dd7d96e7b7450517017b".toList) := by kernel_rfl
theorem ci_wf : Rows.tableIdentitiesRow.wfByText (OpenSpec.ofChange Rows.tableIdentitiesSpec) = true := by kernel_rfl
theorem ci_f : Tryz.prog.funcNamed "schisma/schismalaw06.TableIdentities" = some 7 := by kernel_rfl
theorem tableIdentities_card : Rows.TableIdentitiesCardSaid :=
 Claim7.holds_tied_plain_at .later [] [.data, .data, .data, .sentinel, .sentinel] true (true, "57646ec44814c0bc559f76700ef23affb83bee77a232dd7d96e7b7450517017b") true
  tableIdentities.proved (fun _ h => by cases h) ci_wf (fun _ h => by cases h) tableIdentities_row_tie rfl ⟨rfl, rfl⟩ ci_main rfl
  (fun f fn hf hfn => by
   obtain rfl : f = 7 := Option.some.inj (ci_f.symm.trans hf) |>.symm
   obtain rfl : fn = Tryz.f7 := (Option.some.inj (Tryz.func7.symm.trans hfn)).symm
   exact ⟨ci_looks, fun j t ht => by
    rw [Tryz.params7] at ht
    have h3 : t = 3 := by
     rcases j with _ | j
     ·simpa using ht.symm
     ·simp at ht
    subst h3
    exact (show Tryz.prog.wantsStandIn 3 = false by kernel_rfl)⟩)
  ci_goes
end Go.Proofs.YtegffolimjiioaaGreatDoor
