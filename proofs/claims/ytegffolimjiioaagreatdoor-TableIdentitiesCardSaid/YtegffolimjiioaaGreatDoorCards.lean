/-
  DERIVED. GIVEN WITH THE SEED: THE CARDS: each row of YtegffolimjiioaaGreatDoorRows.lean that lists a variable, with what it lists TIED to the program's text (the seventh form; the later family's looks); each row that meets fmt, with fmt's text TOLD by the authors' own Lean function (tested against real Go, not proved from fmt's source: count such statements apart). THE CARD IS WHAT COUNTS. Prove the row's statement (the work); the ties are given (YtegffolimjiioaaGreatDoorTie.lean); close each card by the builder's one call (the guide's Derived/Test/ToyasCard.lean, 'card_holds'). Laid BY PROGRAM, IN A SANDBOX (cutbox-door.mjs). By AI agents, Wed Nov 11 2026. No macro, syntax, notation, axiom, sorry.
-/
import Derived.Test.YtegffolimjiioaaGreatDoorRows
import GoSem.ClaimSeven
namespace Go.Proofs.YtegffolimjiioaaGreatDoor
namespace Rows

/-- THE TIED CARD OF 'schismalaw06.TableDeterminants'. -/
def tableDeterminantsCard : Claim7 := { stood := { row := tableDeterminantsRow, standIns := [], harness := (true, "57646ec44814c0bc559f76700ef23affb83bee77a232dd7d96e7b7450517017b"), looks := true }, kinds := [], alts := [], laidByText := true, laidKinds := [.data, .data, .data, .sentinel, .sentinel], laidTests := true, laidLooks := .later }
def TableDeterminantsCardSaid : Prop := Claim7.holds Tryz.pinned (.plain (OpenSpec.ofChange tableDeterminantsSpec)) tableDeterminantsCard

/-- THE TIED CARD OF 'schismalaw06.TableMinors'. -/
def tableMinorsCard : Claim7 := { stood := { row := tableMinorsRow, standIns := [], harness := (true, "57646ec44814c0bc559f76700ef23affb83bee77a232dd7d96e7b7450517017b"), looks := true }, kinds := [], alts := [], laidByText := true, laidKinds := [.data, .data, .data, .sentinel, .sentinel], laidTests := true, laidLooks := .later }
def TableMinorsCardSaid : Prop := Claim7.holds Tryz.pinned (.plain (OpenSpec.ofChange tableMinorsSpec)) tableMinorsCard

/-- THE TIED CARD OF 'schismalaw06.TableMany'. -/
def tableManyCard : Claim7 := { stood := { row := tableManyRow, standIns := [], harness := (true, "57646ec44814c0bc559f76700ef23affb83bee77a232dd7d96e7b7450517017b"), looks := true }, kinds := [], alts := [], laidByText := true, laidKinds := [.data, .data, .data, .sentinel, .sentinel], laidTests := true, laidLooks := .later }
def TableManyCardSaid : Prop := Claim7.holds Tryz.pinned (.plain (OpenSpec.ofChange tableManySpec)) tableManyCard

/-- THE TIED CARD OF 'schismalaw06.TableSolves'. -/
def tableSolvesCard : Claim7 := { stood := { row := tableSolvesRow, standIns := [], harness := (true, "57646ec44814c0bc559f76700ef23affb83bee77a232dd7d96e7b7450517017b"), looks := true }, kinds := [], alts := [], laidByText := true, laidKinds := [.data, .data, .data, .sentinel, .sentinel], laidTests := true, laidLooks := .later }
def TableSolvesCardSaid : Prop := Claim7.holds Tryz.pinned (.plain (OpenSpec.ofChange tableSolvesSpec)) tableSolvesCard

/-- THE TIED CARD OF 'schismalaw06.TableIdentities'. -/
def tableIdentitiesCard : Claim7 := { stood := { row := tableIdentitiesRow, standIns := [], harness := (true, "57646ec44814c0bc559f76700ef23affb83bee77a232dd7d96e7b7450517017b"), looks := true }, kinds := [], alts := [], laidByText := true, laidKinds := [.data, .data, .data, .sentinel, .sentinel], laidTests := true, laidLooks := .later }
def TableIdentitiesCardSaid : Prop := Claim7.holds Tryz.pinned (.plain (OpenSpec.ofChange tableIdentitiesSpec)) tableIdentitiesCard

/-- THE TIED CARD OF 'schismalaw10.WedgeChecks'. -/
def wedgeChecksCard : Claim7 := { stood := { row := wedgeChecksRow, standIns := [], harness := (true, "57646ec44814c0bc559f76700ef23affb83bee77a232dd7d96e7b7450517017b"), looks := true }, kinds := [], alts := [], laidByText := true, laidKinds := [.data, .data, .data, .sentinel, .sentinel], laidTests := true, laidLooks := .later }
def WedgeChecksCardSaid : Prop := Claim7.holds Tryz.pinned (.plain (OpenSpec.ofChange wedgeChecksSpec)) wedgeChecksCard

/-- THE TIED CARD OF 'schismalaw06.TableRanks'. -/
def tableRanksCard : Claim7 := { stood := { row := tableRanksRow, standIns := [], harness := (true, "57646ec44814c0bc559f76700ef23affb83bee77a232dd7d96e7b7450517017b"), looks := true }, kinds := [], alts := [], laidByText := true, laidKinds := [.data, .data, .data, .sentinel, .sentinel], laidTests := true, laidLooks := .later }
def TableRanksCardSaid : Prop := Claim7.holds Tryz.pinned (.plain (OpenSpec.ofChange tableRanksSpec)) tableRanksCard

/-- THE TIED CARD OF 'schismalaw10.WedgeBases'. -/
def wedgeBasesCard : Claim7 := { stood := { row := wedgeBasesRow, standIns := [], harness := (true, "57646ec44814c0bc559f76700ef23affb83bee77a232dd7d96e7b7450517017b"), looks := true }, kinds := [], alts := [], laidByText := true, laidKinds := [.data, .data, .data, .sentinel, .sentinel], laidTests := true, laidLooks := .later }
def WedgeBasesCardSaid : Prop := Claim7.holds Tryz.pinned (.plain (OpenSpec.ofChange wedgeBasesSpec)) wedgeBasesCard

/-- THE TIED CARD OF 'schismalaw06.TableApplies'. -/
def tableAppliesCard : Claim7 := { stood := { row := tableAppliesRow, standIns := [], harness := (true, "57646ec44814c0bc559f76700ef23affb83bee77a232dd7d96e7b7450517017b"), looks := true }, kinds := [], alts := [], laidByText := true, laidKinds := [.data, .data, .data, .sentinel, .sentinel], laidTests := true, laidLooks := .later }
def TableAppliesCardSaid : Prop := Claim7.holds Tryz.pinned (.plain (OpenSpec.ofChange tableAppliesSpec)) tableAppliesCard

/-- THE TIED CARD OF 'schismalaw06.TableProducts'. -/
def tableProductsCard : Claim7 := { stood := { row := tableProductsRow, standIns := [], harness := (true, "57646ec44814c0bc559f76700ef23affb83bee77a232dd7d96e7b7450517017b"), looks := true }, kinds := [], alts := [], laidByText := true, laidKinds := [.data, .data, .data, .sentinel, .sentinel], laidTests := true, laidLooks := .later }
def TableProductsCardSaid : Prop := Claim7.holds Tryz.pinned (.plain (OpenSpec.ofChange tableProductsSpec)) tableProductsCard

/-- THE TIED CARD OF 'schismalaw06.TableChecks'. -/
def tableChecksCard : Claim7 := { stood := { row := tableChecksRow, standIns := [], harness := (true, "57646ec44814c0bc559f76700ef23affb83bee77a232dd7d96e7b7450517017b"), looks := true }, kinds := [], alts := [], laidByText := true, laidKinds := [.data, .data, .data, .sentinel, .sentinel], laidTests := true, laidLooks := .later }
def TableChecksCardSaid : Prop := Claim7.holds Tryz.pinned (.plain (OpenSpec.ofChange tableChecksSpec)) tableChecksCard

/-- THE TIED CARD OF 'schismalaw06.TableSolutions'. -/
def tableSolutionsCard : Claim7 := { stood := { row := tableSolutionsRow, standIns := [], harness := (true, "57646ec44814c0bc559f76700ef23affb83bee77a232dd7d96e7b7450517017b"), looks := true }, kinds := [], alts := [], laidByText := true, laidKinds := [.data, .data, .data, .sentinel, .sentinel], laidTests := true, laidLooks := .later }
def TableSolutionsCardSaid : Prop := Claim7.holds Tryz.pinned (.plain (OpenSpec.ofChange tableSolutionsSpec)) tableSolutionsCard

/-- THE TIED CARD OF 'schismalaw06.TableLaws'. -/
def tableLawsCard : Claim7 := { stood := { row := tableLawsRow, standIns := [], harness := (true, "57646ec44814c0bc559f76700ef23affb83bee77a232dd7d96e7b7450517017b"), looks := true }, kinds := [], alts := [], laidByText := true, laidKinds := [.data, .data, .data, .sentinel, .sentinel], laidTests := true, laidLooks := .later }
def TableLawsCardSaid : Prop := Claim7.holds Tryz.pinned (.plain (OpenSpec.ofChange tableLawsSpec)) tableLawsCard

/-- THE TIED CARD OF 'schismalaw10.WedgeRows'. -/
def wedgeRowsCard : Claim7 := { stood := { row := wedgeRowsRow, standIns := [], harness := (true, "57646ec44814c0bc559f76700ef23affb83bee77a232dd7d96e7b7450517017b"), looks := true }, kinds := [], alts := [], laidByText := true, laidKinds := [.data, .data, .data, .sentinel, .sentinel], laidTests := true, laidLooks := .later }
def WedgeRowsCardSaid : Prop := Claim7.holds Tryz.pinned (.plain (OpenSpec.ofChange wedgeRowsSpec)) wedgeRowsCard

/-- THE TIED CARD OF 'schismalaw10.WedgeInteriors'. -/
def wedgeInteriorsCard : Claim7 := { stood := { row := wedgeInteriorsRow, standIns := [], harness := (true, "57646ec44814c0bc559f76700ef23affb83bee77a232dd7d96e7b7450517017b"), looks := true }, kinds := [], alts := [], laidByText := true, laidKinds := [.data, .data, .data, .sentinel, .sentinel], laidTests := true, laidLooks := .later }
def WedgeInteriorsCardSaid : Prop := Claim7.holds Tryz.pinned (.plain (OpenSpec.ofChange wedgeInteriorsSpec)) wedgeInteriorsCard

/-- THE TIED CARD OF 'schismalaw10.WedgeDuals'. -/
def wedgeDualsCard : Claim7 := { stood := { row := wedgeDualsRow, standIns := [], harness := (true, "57646ec44814c0bc559f76700ef23affb83bee77a232dd7d96e7b7450517017b"), looks := true }, kinds := [], alts := [], laidByText := true, laidKinds := [.data, .data, .data, .sentinel, .sentinel], laidTests := true, laidLooks := .later }
def WedgeDualsCardSaid : Prop := Claim7.holds Tryz.pinned (.plain (OpenSpec.ofChange wedgeDualsSpec)) wedgeDualsCard

/-- THE TIED CARD OF 'schismalaw10.WedgeSets'. -/
def wedgeSetsCard : Claim7 := { stood := { row := wedgeSetsRow, standIns := [], harness := (true, "57646ec44814c0bc559f76700ef23affb83bee77a232dd7d96e7b7450517017b"), looks := true }, kinds := [], alts := [], laidByText := true, laidKinds := [.data, .data, .data, .sentinel, .sentinel], laidTests := true, laidLooks := .later }
def WedgeSetsCardSaid : Prop := Claim7.holds Tryz.pinned (.plain (OpenSpec.ofChange wedgeSetsSpec)) wedgeSetsCard

/-- THE TIED CARD OF 'schismalaw10.WedgeLattices'. -/
def wedgeLatticesCard : Claim7 := { stood := { row := wedgeLatticesRow, standIns := [], harness := (true, "57646ec44814c0bc559f76700ef23affb83bee77a232dd7d96e7b7450517017b"), looks := true }, kinds := [], alts := [], laidByText := true, laidKinds := [.data, .data, .data, .sentinel, .sentinel], laidTests := true, laidLooks := .later }
def WedgeLatticesCardSaid : Prop := Claim7.holds Tryz.pinned (.plain (OpenSpec.ofChange wedgeLatticesSpec)) wedgeLatticesCard

/-- THE TIED CARD OF 'schismalaw10.WedgeProducts'. -/
def wedgeProductsCard : Claim7 := { stood := { row := wedgeProductsRow, standIns := [], harness := (true, "57646ec44814c0bc559f76700ef23affb83bee77a232dd7d96e7b7450517017b"), looks := true }, kinds := [], alts := [], laidByText := true, laidKinds := [.data, .data, .data, .sentinel, .sentinel], laidTests := true, laidLooks := .later }
def WedgeProductsCardSaid : Prop := Claim7.holds Tryz.pinned (.plain (OpenSpec.ofChange wedgeProductsSpec)) wedgeProductsCard

/-- THE TIED CARD OF 'schismalaw10.WedgeForms'. -/
def wedgeFormsCard : Claim7 := { stood := { row := wedgeFormsRow, standIns := [], harness := (true, "57646ec44814c0bc559f76700ef23affb83bee77a232dd7d96e7b7450517017b"), looks := true }, kinds := [], alts := [], laidByText := true, laidKinds := [.data, .data, .data, .sentinel, .sentinel], laidTests := true, laidLooks := .later }
def WedgeFormsCardSaid : Prop := Claim7.holds Tryz.pinned (.plain (OpenSpec.ofChange wedgeFormsSpec)) wedgeFormsCard

/-- THE TIED CARD OF 'schismalaw10.WedgeLaws'. -/
def wedgeLawsCard : Claim7 := { stood := { row := wedgeLawsRow, standIns := [], harness := (true, "57646ec44814c0bc559f76700ef23affb83bee77a232dd7d96e7b7450517017b"), looks := true }, kinds := [], alts := [], laidByText := true, laidKinds := [.data, .data, .data, .sentinel, .sentinel], laidTests := true, laidLooks := .later }
def WedgeLawsCardSaid : Prop := Claim7.holds Tryz.pinned (.plain (OpenSpec.ofChange wedgeLawsSpec)) wedgeLawsCard

/-- THE SECOND FORM's CARD OF 'schismalaw06.TableDeterminants'. -/
def tableDeterminantsUptoCard : Claim7 := { stood := { row := tableDeterminantsUptoRow, standIns := [], harness := (true, "57646ec44814c0bc559f76700ef23affb83bee77a232dd7d96e7b7450517017b"), looks := true }, kinds := [], alts := [], laidByText := true, laidKinds := [.data, .data, .data, .sentinel, .sentinel], laidTests := true, laidLooks := .later }
def TableDeterminantsUptoCardSaid : Prop := Claim7.holds Tryz.pinned (.plain (OpenSpec.upto tableDeterminantsSpec)) tableDeterminantsUptoCard

/-- THE SECOND FORM's CARD OF 'schismalaw06.TableMinors'. -/
def tableMinorsUptoCard : Claim7 := { stood := { row := tableMinorsUptoRow, standIns := [], harness := (true, "57646ec44814c0bc559f76700ef23affb83bee77a232dd7d96e7b7450517017b"), looks := true }, kinds := [], alts := [], laidByText := true, laidKinds := [.data, .data, .data, .sentinel, .sentinel], laidTests := true, laidLooks := .later }
def TableMinorsUptoCardSaid : Prop := Claim7.holds Tryz.pinned (.plain (OpenSpec.upto tableMinorsSpec)) tableMinorsUptoCard

/-- THE SECOND FORM's CARD OF 'schismalaw06.TableMany'. -/
def tableManyUptoCard : Claim7 := { stood := { row := tableManyUptoRow, standIns := [], harness := (true, "57646ec44814c0bc559f76700ef23affb83bee77a232dd7d96e7b7450517017b"), looks := true }, kinds := [], alts := [], laidByText := true, laidKinds := [.data, .data, .data, .sentinel, .sentinel], laidTests := true, laidLooks := .later }
def TableManyUptoCardSaid : Prop := Claim7.holds Tryz.pinned (.plain (OpenSpec.upto tableManySpec)) tableManyUptoCard

/-- THE SECOND FORM's CARD OF 'schismalaw06.TableSolves'. -/
def tableSolvesUptoCard : Claim7 := { stood := { row := tableSolvesUptoRow, standIns := [], harness := (true, "57646ec44814c0bc559f76700ef23affb83bee77a232dd7d96e7b7450517017b"), looks := true }, kinds := [], alts := [], laidByText := true, laidKinds := [.data, .data, .data, .sentinel, .sentinel], laidTests := true, laidLooks := .later }
def TableSolvesUptoCardSaid : Prop := Claim7.holds Tryz.pinned (.plain (OpenSpec.upto tableSolvesSpec)) tableSolvesUptoCard

/-- THE SECOND FORM's CARD OF 'schismalaw06.TableIdentities'. -/
def tableIdentitiesUptoCard : Claim7 := { stood := { row := tableIdentitiesUptoRow, standIns := [], harness := (true, "57646ec44814c0bc559f76700ef23affb83bee77a232dd7d96e7b7450517017b"), looks := true }, kinds := [], alts := [], laidByText := true, laidKinds := [.data, .data, .data, .sentinel, .sentinel], laidTests := true, laidLooks := .later }
def TableIdentitiesUptoCardSaid : Prop := Claim7.holds Tryz.pinned (.plain (OpenSpec.upto tableIdentitiesSpec)) tableIdentitiesUptoCard

/-- THE SECOND FORM's CARD OF 'schismalaw10.WedgeChecks'. -/
def wedgeChecksUptoCard : Claim7 := { stood := { row := wedgeChecksUptoRow, standIns := [], harness := (true, "57646ec44814c0bc559f76700ef23affb83bee77a232dd7d96e7b7450517017b"), looks := true }, kinds := [], alts := [], laidByText := true, laidKinds := [.data, .data, .data, .sentinel, .sentinel], laidTests := true, laidLooks := .later }
def WedgeChecksUptoCardSaid : Prop := Claim7.holds Tryz.pinned (.plain (OpenSpec.upto wedgeChecksSpec)) wedgeChecksUptoCard

/-- THE SECOND FORM's CARD OF 'schismalaw06.TableRanks'. -/
def tableRanksUptoCard : Claim7 := { stood := { row := tableRanksUptoRow, standIns := [], harness := (true, "57646ec44814c0bc559f76700ef23affb83bee77a232dd7d96e7b7450517017b"), looks := true }, kinds := [], alts := [], laidByText := true, laidKinds := [.data, .data, .data, .sentinel, .sentinel], laidTests := true, laidLooks := .later }
def TableRanksUptoCardSaid : Prop := Claim7.holds Tryz.pinned (.plain (OpenSpec.upto tableRanksSpec)) tableRanksUptoCard

/-- THE SECOND FORM's CARD OF 'schismalaw10.WedgeBases'. -/
def wedgeBasesUptoCard : Claim7 := { stood := { row := wedgeBasesUptoRow, standIns := [], harness := (true, "57646ec44814c0bc559f76700ef23affb83bee77a232dd7d96e7b7450517017b"), looks := true }, kinds := [], alts := [], laidByText := true, laidKinds := [.data, .data, .data, .sentinel, .sentinel], laidTests := true, laidLooks := .later }
def WedgeBasesUptoCardSaid : Prop := Claim7.holds Tryz.pinned (.plain (OpenSpec.upto wedgeBasesSpec)) wedgeBasesUptoCard

/-- THE SECOND FORM's CARD OF 'schismalaw06.TableApplies'. -/
def tableAppliesUptoCard : Claim7 := { stood := { row := tableAppliesUptoRow, standIns := [], harness := (true, "57646ec44814c0bc559f76700ef23affb83bee77a232dd7d96e7b7450517017b"), looks := true }, kinds := [], alts := [], laidByText := true, laidKinds := [.data, .data, .data, .sentinel, .sentinel], laidTests := true, laidLooks := .later }
def TableAppliesUptoCardSaid : Prop := Claim7.holds Tryz.pinned (.plain (OpenSpec.upto tableAppliesSpec)) tableAppliesUptoCard

/-- THE SECOND FORM's CARD OF 'schismalaw06.TableProducts'. -/
def tableProductsUptoCard : Claim7 := { stood := { row := tableProductsUptoRow, standIns := [], harness := (true, "57646ec44814c0bc559f76700ef23affb83bee77a232dd7d96e7b7450517017b"), looks := true }, kinds := [], alts := [], laidByText := true, laidKinds := [.data, .data, .data, .sentinel, .sentinel], laidTests := true, laidLooks := .later }
def TableProductsUptoCardSaid : Prop := Claim7.holds Tryz.pinned (.plain (OpenSpec.upto tableProductsSpec)) tableProductsUptoCard

/-- THE SECOND FORM's CARD OF 'schismalaw06.TableChecks'. -/
def tableChecksUptoCard : Claim7 := { stood := { row := tableChecksUptoRow, standIns := [], harness := (true, "57646ec44814c0bc559f76700ef23affb83bee77a232dd7d96e7b7450517017b"), looks := true }, kinds := [], alts := [], laidByText := true, laidKinds := [.data, .data, .data, .sentinel, .sentinel], laidTests := true, laidLooks := .later }
def TableChecksUptoCardSaid : Prop := Claim7.holds Tryz.pinned (.plain (OpenSpec.upto tableChecksSpec)) tableChecksUptoCard

/-- THE SECOND FORM's CARD OF 'schismalaw06.TableSolutions'. -/
def tableSolutionsUptoCard : Claim7 := { stood := { row := tableSolutionsUptoRow, standIns := [], harness := (true, "57646ec44814c0bc559f76700ef23affb83bee77a232dd7d96e7b7450517017b"), looks := true }, kinds := [], alts := [], laidByText := true, laidKinds := [.data, .data, .data, .sentinel, .sentinel], laidTests := true, laidLooks := .later }
def TableSolutionsUptoCardSaid : Prop := Claim7.holds Tryz.pinned (.plain (OpenSpec.upto tableSolutionsSpec)) tableSolutionsUptoCard

/-- THE SECOND FORM's CARD OF 'schismalaw06.TableLaws'. -/
def tableLawsUptoCard : Claim7 := { stood := { row := tableLawsUptoRow, standIns := [], harness := (true, "57646ec44814c0bc559f76700ef23affb83bee77a232dd7d96e7b7450517017b"), looks := true }, kinds := [], alts := [], laidByText := true, laidKinds := [.data, .data, .data, .sentinel, .sentinel], laidTests := true, laidLooks := .later }
def TableLawsUptoCardSaid : Prop := Claim7.holds Tryz.pinned (.plain (OpenSpec.upto tableLawsSpec)) tableLawsUptoCard

/-- THE SECOND FORM's CARD OF 'schismalaw10.WedgeRows'. -/
def wedgeRowsUptoCard : Claim7 := { stood := { row := wedgeRowsUptoRow, standIns := [], harness := (true, "57646ec44814c0bc559f76700ef23affb83bee77a232dd7d96e7b7450517017b"), looks := true }, kinds := [], alts := [], laidByText := true, laidKinds := [.data, .data, .data, .sentinel, .sentinel], laidTests := true, laidLooks := .later }
def WedgeRowsUptoCardSaid : Prop := Claim7.holds Tryz.pinned (.plain (OpenSpec.upto wedgeRowsSpec)) wedgeRowsUptoCard

/-- THE SECOND FORM's CARD OF 'schismalaw10.WedgeInteriors'. -/
def wedgeInteriorsUptoCard : Claim7 := { stood := { row := wedgeInteriorsUptoRow, standIns := [], harness := (true, "57646ec44814c0bc559f76700ef23affb83bee77a232dd7d96e7b7450517017b"), looks := true }, kinds := [], alts := [], laidByText := true, laidKinds := [.data, .data, .data, .sentinel, .sentinel], laidTests := true, laidLooks := .later }
def WedgeInteriorsUptoCardSaid : Prop := Claim7.holds Tryz.pinned (.plain (OpenSpec.upto wedgeInteriorsSpec)) wedgeInteriorsUptoCard

/-- THE SECOND FORM's CARD OF 'schismalaw10.WedgeDuals'. -/
def wedgeDualsUptoCard : Claim7 := { stood := { row := wedgeDualsUptoRow, standIns := [], harness := (true, "57646ec44814c0bc559f76700ef23affb83bee77a232dd7d96e7b7450517017b"), looks := true }, kinds := [], alts := [], laidByText := true, laidKinds := [.data, .data, .data, .sentinel, .sentinel], laidTests := true, laidLooks := .later }
def WedgeDualsUptoCardSaid : Prop := Claim7.holds Tryz.pinned (.plain (OpenSpec.upto wedgeDualsSpec)) wedgeDualsUptoCard

/-- THE SECOND FORM's CARD OF 'schismalaw10.WedgeSets'. -/
def wedgeSetsUptoCard : Claim7 := { stood := { row := wedgeSetsUptoRow, standIns := [], harness := (true, "57646ec44814c0bc559f76700ef23affb83bee77a232dd7d96e7b7450517017b"), looks := true }, kinds := [], alts := [], laidByText := true, laidKinds := [.data, .data, .data, .sentinel, .sentinel], laidTests := true, laidLooks := .later }
def WedgeSetsUptoCardSaid : Prop := Claim7.holds Tryz.pinned (.plain (OpenSpec.upto wedgeSetsSpec)) wedgeSetsUptoCard

/-- THE SECOND FORM's CARD OF 'schismalaw10.WedgeLattices'. -/
def wedgeLatticesUptoCard : Claim7 := { stood := { row := wedgeLatticesUptoRow, standIns := [], harness := (true, "57646ec44814c0bc559f76700ef23affb83bee77a232dd7d96e7b7450517017b"), looks := true }, kinds := [], alts := [], laidByText := true, laidKinds := [.data, .data, .data, .sentinel, .sentinel], laidTests := true, laidLooks := .later }
def WedgeLatticesUptoCardSaid : Prop := Claim7.holds Tryz.pinned (.plain (OpenSpec.upto wedgeLatticesSpec)) wedgeLatticesUptoCard

/-- THE SECOND FORM's CARD OF 'schismalaw10.WedgeProducts'. -/
def wedgeProductsUptoCard : Claim7 := { stood := { row := wedgeProductsUptoRow, standIns := [], harness := (true, "57646ec44814c0bc559f76700ef23affb83bee77a232dd7d96e7b7450517017b"), looks := true }, kinds := [], alts := [], laidByText := true, laidKinds := [.data, .data, .data, .sentinel, .sentinel], laidTests := true, laidLooks := .later }
def WedgeProductsUptoCardSaid : Prop := Claim7.holds Tryz.pinned (.plain (OpenSpec.upto wedgeProductsSpec)) wedgeProductsUptoCard

/-- THE SECOND FORM's CARD OF 'schismalaw10.WedgeForms'. -/
def wedgeFormsUptoCard : Claim7 := { stood := { row := wedgeFormsUptoRow, standIns := [], harness := (true, "57646ec44814c0bc559f76700ef23affb83bee77a232dd7d96e7b7450517017b"), looks := true }, kinds := [], alts := [], laidByText := true, laidKinds := [.data, .data, .data, .sentinel, .sentinel], laidTests := true, laidLooks := .later }
def WedgeFormsUptoCardSaid : Prop := Claim7.holds Tryz.pinned (.plain (OpenSpec.upto wedgeFormsSpec)) wedgeFormsUptoCard

/-- THE SECOND FORM's CARD OF 'schismalaw10.WedgeLaws'. -/
def wedgeLawsUptoCard : Claim7 := { stood := { row := wedgeLawsUptoRow, standIns := [], harness := (true, "57646ec44814c0bc559f76700ef23affb83bee77a232dd7d96e7b7450517017b"), looks := true }, kinds := [], alts := [], laidByText := true, laidKinds := [.data, .data, .data, .sentinel, .sentinel], laidTests := true, laidLooks := .later }
def WedgeLawsUptoCardSaid : Prop := Claim7.holds Tryz.pinned (.plain (OpenSpec.upto wedgeLawsSpec)) wedgeLawsUptoCard
end Rows
end Go.Proofs.YtegffolimjiioaaGreatDoor
