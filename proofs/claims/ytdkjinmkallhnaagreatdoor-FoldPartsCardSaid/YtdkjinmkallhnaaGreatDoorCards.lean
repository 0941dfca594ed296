/-
  DERIVED. GIVEN WITH THE SEED: THE CARDS: each row of YtdkjinmkallhnaaGreatDoorRows.lean that lists a variable, with what it lists TIED to the program's text (the seventh form; the later family's looks); each row that meets fmt, with fmt's text TOLD by the authors' own Lean function (tested against real Go, not proved from fmt's source: count such statements apart). THE CARD IS WHAT COUNTS. Prove the row's statement (the work); the ties are given (YtdkjinmkallhnaaGreatDoorTie.lean); close each card by the builder's one call (the guide's Derived/Test/ToyasCard.lean, 'card_holds'). Laid BY PROGRAM, IN A SANDBOX (cutbox-door.mjs). By AI agents, Wed Nov 11 2026. No macro, syntax, notation, axiom, sorry.
-/
import Derived.Test.YtdkjinmkallhnaaGreatDoorRows
import GoSem.ClaimSeven
namespace Go.Proofs.YtdkjinmkallhnaaGreatDoor
namespace Rows

/-- THE TIED CARD OF 'onionskinlaw17.TreeTells'. -/
def treeTellsCard : Claim7 := { stood := { row := treeTellsRow, standIns := [], harness := (true, "5ef84c3e39d6b2b562b626b1b7b9bd9b1cb9e3fe59a0e163cf5e28ab017f6e71"), looks := true }, kinds := [], alts := [], laidByText := true, laidKinds := [.data, .data, .data, .data, .sentinel, .sentinel, .pinned], laidTests := true, laidLooks := .later }
def TreeTellsCardSaid : Prop := Claim7.holds Tryz.pinned (.plain (OpenSpec.ofChange treeTellsSpec)) treeTellsCard

/-- THE TIED CARD OF 'onionskinlaw17.TreeApplies'. -/
def treeAppliesCard : Claim7 := { stood := { row := treeAppliesRow, standIns := [], harness := (true, "5ef84c3e39d6b2b562b626b1b7b9bd9b1cb9e3fe59a0e163cf5e28ab017f6e71"), looks := true }, kinds := [], alts := [], laidByText := true, laidKinds := [.data, .data, .data, .data, .sentinel, .sentinel, .pinned], laidTests := true, laidLooks := .later }
def TreeAppliesCardSaid : Prop := Claim7.holds Tryz.pinned (.plain (OpenSpec.ofChange treeAppliesSpec)) treeAppliesCard

/-- THE TIED CARD OF 'onionskinlaw17.TreeStays'. -/
def treeStaysCard : Claim7 := { stood := { row := treeStaysRow, standIns := [], harness := (true, "5ef84c3e39d6b2b562b626b1b7b9bd9b1cb9e3fe59a0e163cf5e28ab017f6e71"), looks := true }, kinds := [], alts := [], laidByText := true, laidKinds := [.data, .data, .data, .data, .sentinel, .sentinel, .pinned], laidTests := true, laidLooks := .later }
def TreeStaysCardSaid : Prop := Claim7.holds Tryz.pinned (.plain (OpenSpec.ofChange treeStaysSpec)) treeStaysCard

/-- THE TIED CARD OF 'onionskinlaw17.TreeNothing'. -/
def treeNothingCard : Claim7 := { stood := { row := treeNothingRow, standIns := [], harness := (true, "5ef84c3e39d6b2b562b626b1b7b9bd9b1cb9e3fe59a0e163cf5e28ab017f6e71"), looks := true }, kinds := [], alts := [], laidByText := true, laidKinds := [.data, .data, .data, .data, .sentinel, .sentinel, .pinned], laidTests := true, laidLooks := .later }
def TreeNothingCardSaid : Prop := Claim7.holds Tryz.pinned (.plain (OpenSpec.ofChange treeNothingSpec)) treeNothingCard

/-- THE TIED CARD OF 'onionskinlaw17.TreeWhites'. -/
def treeWhitesCard : Claim7 := { stood := { row := treeWhitesRow, standIns := [], harness := (true, "5ef84c3e39d6b2b562b626b1b7b9bd9b1cb9e3fe59a0e163cf5e28ab017f6e71"), looks := true }, kinds := [], alts := [], laidByText := true, laidKinds := [.data, .data, .data, .data, .sentinel, .sentinel, .pinned], laidTests := true, laidLooks := .later }
def TreeWhitesCardSaid : Prop := Claim7.holds Tryz.pinned (.plain (OpenSpec.ofChange treeWhitesSpec)) treeWhitesCard

/-- THE TIED CARD OF 'onionskinlaw17.TreeTwice'. -/
def treeTwiceCard : Claim7 := { stood := { row := treeTwiceRow, standIns := [], harness := (true, "5ef84c3e39d6b2b562b626b1b7b9bd9b1cb9e3fe59a0e163cf5e28ab017f6e71"), looks := true }, kinds := [], alts := [], laidByText := true, laidKinds := [.data, .data, .data, .data, .sentinel, .sentinel, .pinned], laidTests := true, laidLooks := .later }
def TreeTwiceCardSaid : Prop := Claim7.holds Tryz.pinned (.plain (OpenSpec.ofChange treeTwiceSpec)) treeTwiceCard

/-- THE TIED CARD OF 'onionskinlaw17.TreeUp'. -/
def treeUpCard : Claim7 := { stood := { row := treeUpRow, standIns := [], harness := (true, "5ef84c3e39d6b2b562b626b1b7b9bd9b1cb9e3fe59a0e163cf5e28ab017f6e71"), looks := true }, kinds := [], alts := [], laidByText := true, laidKinds := [.data, .data, .data, .data, .sentinel, .sentinel, .pinned], laidTests := true, laidLooks := .later }
def TreeUpCardSaid : Prop := Claim7.holds Tryz.pinned (.plain (OpenSpec.ofChange treeUpSpec)) treeUpCard

/-- THE TIED CARD OF 'onionskinlaw18.FoldOntos'. -/
def foldOntosCard : Claim7 := { stood := { row := foldOntosRow, standIns := [], harness := (true, "5ef84c3e39d6b2b562b626b1b7b9bd9b1cb9e3fe59a0e163cf5e28ab017f6e71"), looks := true }, kinds := [], alts := [], laidByText := true, laidKinds := [.data, .data, .data, .data, .sentinel, .sentinel, .pinned], laidTests := true, laidLooks := .later }
def FoldOntosCardSaid : Prop := Claim7.holds Tryz.pinned (.plain (OpenSpec.ofChange foldOntosSpec)) foldOntosCard

/-- THE TIED CARD OF 'onionskinlaw18.FoldTrees'. -/
def foldTreesCard : Claim7 := { stood := { row := foldTreesRow, standIns := [], harness := (true, "5ef84c3e39d6b2b562b626b1b7b9bd9b1cb9e3fe59a0e163cf5e28ab017f6e71"), looks := true }, kinds := [], alts := [], laidByText := true, laidKinds := [.data, .data, .data, .data, .sentinel, .sentinel, .pinned], laidTests := true, laidLooks := .later }
def FoldTreesCardSaid : Prop := Claim7.holds Tryz.pinned (.plain (OpenSpec.ofChange foldTreesSpec)) foldTreesCard

/-- THE TIED CARD OF 'onionskinlaw18.FoldParts'. -/
def foldPartsCard : Claim7 := { stood := { row := foldPartsRow, standIns := [], harness := (true, "5ef84c3e39d6b2b562b626b1b7b9bd9b1cb9e3fe59a0e163cf5e28ab017f6e71"), looks := true }, kinds := [], alts := [], laidByText := true, laidKinds := [.data, .data, .data, .data, .sentinel, .sentinel, .pinned], laidTests := true, laidLooks := .later }
def FoldPartsCardSaid : Prop := Claim7.holds Tryz.pinned (.plain (OpenSpec.ofChange foldPartsSpec)) foldPartsCard

/-- THE TIED CARD OF 'onionskinlaw18.FoldLast'. -/
def foldLastCard : Claim7 := { stood := { row := foldLastRow, standIns := [], harness := (true, "5ef84c3e39d6b2b562b626b1b7b9bd9b1cb9e3fe59a0e163cf5e28ab017f6e71"), looks := true }, kinds := [], alts := [], laidByText := true, laidKinds := [.data, .data, .data, .data, .sentinel, .sentinel, .pinned], laidTests := true, laidLooks := .later }
def FoldLastCardSaid : Prop := Claim7.holds Tryz.pinned (.plain (OpenSpec.ofChange foldLastSpec)) foldLastCard

/-- THE TIED CARD OF 'onionskinlaw18.FoldAgain'. -/
def foldAgainCard : Claim7 := { stood := { row := foldAgainRow, standIns := [], harness := (true, "5ef84c3e39d6b2b562b626b1b7b9bd9b1cb9e3fe59a0e163cf5e28ab017f6e71"), looks := true }, kinds := [], alts := [], laidByText := true, laidKinds := [.data, .data, .data, .data, .sentinel, .sentinel, .pinned], laidTests := true, laidLooks := .later }
def FoldAgainCardSaid : Prop := Claim7.holds Tryz.pinned (.plain (OpenSpec.ofChange foldAgainSpec)) foldAgainCard

/-- THE SECOND FORM's CARD OF 'onionskinlaw17.TreeTells'. -/
def treeTellsUptoCard : Claim7 := { stood := { row := treeTellsUptoRow, standIns := [], harness := (true, "5ef84c3e39d6b2b562b626b1b7b9bd9b1cb9e3fe59a0e163cf5e28ab017f6e71"), looks := true }, kinds := [], alts := [], laidByText := true, laidKinds := [.data, .data, .data, .data, .sentinel, .sentinel, .pinned], laidTests := true, laidLooks := .later }
def TreeTellsUptoCardSaid : Prop := Claim7.holds Tryz.pinned (.plain (OpenSpec.upto treeTellsSpec)) treeTellsUptoCard

/-- THE SECOND FORM's CARD OF 'onionskinlaw17.TreeApplies'. -/
def treeAppliesUptoCard : Claim7 := { stood := { row := treeAppliesUptoRow, standIns := [], harness := (true, "5ef84c3e39d6b2b562b626b1b7b9bd9b1cb9e3fe59a0e163cf5e28ab017f6e71"), looks := true }, kinds := [], alts := [], laidByText := true, laidKinds := [.data, .data, .data, .data, .sentinel, .sentinel, .pinned], laidTests := true, laidLooks := .later }
def TreeAppliesUptoCardSaid : Prop := Claim7.holds Tryz.pinned (.plain (OpenSpec.upto treeAppliesSpec)) treeAppliesUptoCard

/-- THE SECOND FORM's CARD OF 'onionskinlaw17.TreeStays'. -/
def treeStaysUptoCard : Claim7 := { stood := { row := treeStaysUptoRow, standIns := [], harness := (true, "5ef84c3e39d6b2b562b626b1b7b9bd9b1cb9e3fe59a0e163cf5e28ab017f6e71"), looks := true }, kinds := [], alts := [], laidByText := true, laidKinds := [.data, .data, .data, .data, .sentinel, .sentinel, .pinned], laidTests := true, laidLooks := .later }
def TreeStaysUptoCardSaid : Prop := Claim7.holds Tryz.pinned (.plain (OpenSpec.upto treeStaysSpec)) treeStaysUptoCard

/-- THE SECOND FORM's CARD OF 'onionskinlaw17.TreeNothing'. -/
def treeNothingUptoCard : Claim7 := { stood := { row := treeNothingUptoRow, standIns := [], harness := (true, "5ef84c3e39d6b2b562b626b1b7b9bd9b1cb9e3fe59a0e163cf5e28ab017f6e71"), looks := true }, kinds := [], alts := [], laidByText := true, laidKinds := [.data, .data, .data, .data, .sentinel, .sentinel, .pinned], laidTests := true, laidLooks := .later }
def TreeNothingUptoCardSaid : Prop := Claim7.holds Tryz.pinned (.plain (OpenSpec.upto treeNothingSpec)) treeNothingUptoCard

/-- THE SECOND FORM's CARD OF 'onionskinlaw17.TreeWhites'. -/
def treeWhitesUptoCard : Claim7 := { stood := { row := treeWhitesUptoRow, standIns := [], harness := (true, "5ef84c3e39d6b2b562b626b1b7b9bd9b1cb9e3fe59a0e163cf5e28ab017f6e71"), looks := true }, kinds := [], alts := [], laidByText := true, laidKinds := [.data, .data, .data, .data, .sentinel, .sentinel, .pinned], laidTests := true, laidLooks := .later }
def TreeWhitesUptoCardSaid : Prop := Claim7.holds Tryz.pinned (.plain (OpenSpec.upto treeWhitesSpec)) treeWhitesUptoCard

/-- THE SECOND FORM's CARD OF 'onionskinlaw17.TreeTwice'. -/
def treeTwiceUptoCard : Claim7 := { stood := { row := treeTwiceUptoRow, standIns := [], harness := (true, "5ef84c3e39d6b2b562b626b1b7b9bd9b1cb9e3fe59a0e163cf5e28ab017f6e71"), looks := true }, kinds := [], alts := [], laidByText := true, laidKinds := [.data, .data, .data, .data, .sentinel, .sentinel, .pinned], laidTests := true, laidLooks := .later }
def TreeTwiceUptoCardSaid : Prop := Claim7.holds Tryz.pinned (.plain (OpenSpec.upto treeTwiceSpec)) treeTwiceUptoCard

/-- THE SECOND FORM's CARD OF 'onionskinlaw17.TreeUp'. -/
def treeUpUptoCard : Claim7 := { stood := { row := treeUpUptoRow, standIns := [], harness := (true, "5ef84c3e39d6b2b562b626b1b7b9bd9b1cb9e3fe59a0e163cf5e28ab017f6e71"), looks := true }, kinds := [], alts := [], laidByText := true, laidKinds := [.data, .data, .data, .data, .sentinel, .sentinel, .pinned], laidTests := true, laidLooks := .later }
def TreeUpUptoCardSaid : Prop := Claim7.holds Tryz.pinned (.plain (OpenSpec.upto treeUpSpec)) treeUpUptoCard

/-- THE SECOND FORM's CARD OF 'onionskinlaw18.FoldOntos'. -/
def foldOntosUptoCard : Claim7 := { stood := { row := foldOntosUptoRow, standIns := [], harness := (true, "5ef84c3e39d6b2b562b626b1b7b9bd9b1cb9e3fe59a0e163cf5e28ab017f6e71"), looks := true }, kinds := [], alts := [], laidByText := true, laidKinds := [.data, .data, .data, .data, .sentinel, .sentinel, .pinned], laidTests := true, laidLooks := .later }
def FoldOntosUptoCardSaid : Prop := Claim7.holds Tryz.pinned (.plain (OpenSpec.upto foldOntosSpec)) foldOntosUptoCard

/-- THE SECOND FORM's CARD OF 'onionskinlaw18.FoldTrees'. -/
def foldTreesUptoCard : Claim7 := { stood := { row := foldTreesUptoRow, standIns := [], harness := (true, "5ef84c3e39d6b2b562b626b1b7b9bd9b1cb9e3fe59a0e163cf5e28ab017f6e71"), looks := true }, kinds := [], alts := [], laidByText := true, laidKinds := [.data, .data, .data, .data, .sentinel, .sentinel, .pinned], laidTests := true, laidLooks := .later }
def FoldTreesUptoCardSaid : Prop := Claim7.holds Tryz.pinned (.plain (OpenSpec.upto foldTreesSpec)) foldTreesUptoCard

/-- THE SECOND FORM's CARD OF 'onionskinlaw18.FoldParts'. -/
def foldPartsUptoCard : Claim7 := { stood := { row := foldPartsUptoRow, standIns := [], harness := (true, "5ef84c3e39d6b2b562b626b1b7b9bd9b1cb9e3fe59a0e163cf5e28ab017f6e71"), looks := true }, kinds := [], alts := [], laidByText := true, laidKinds := [.data, .data, .data, .data, .sentinel, .sentinel, .pinned], laidTests := true, laidLooks := .later }
def FoldPartsUptoCardSaid : Prop := Claim7.holds Tryz.pinned (.plain (OpenSpec.upto foldPartsSpec)) foldPartsUptoCard

/-- THE SECOND FORM's CARD OF 'onionskinlaw18.FoldLast'. -/
def foldLastUptoCard : Claim7 := { stood := { row := foldLastUptoRow, standIns := [], harness := (true, "5ef84c3e39d6b2b562b626b1b7b9bd9b1cb9e3fe59a0e163cf5e28ab017f6e71"), looks := true }, kinds := [], alts := [], laidByText := true, laidKinds := [.data, .data, .data, .data, .sentinel, .sentinel, .pinned], laidTests := true, laidLooks := .later }
def FoldLastUptoCardSaid : Prop := Claim7.holds Tryz.pinned (.plain (OpenSpec.upto foldLastSpec)) foldLastUptoCard

/-- THE SECOND FORM's CARD OF 'onionskinlaw18.FoldAgain'. -/
def foldAgainUptoCard : Claim7 := { stood := { row := foldAgainUptoRow, standIns := [], harness := (true, "5ef84c3e39d6b2b562b626b1b7b9bd9b1cb9e3fe59a0e163cf5e28ab017f6e71"), looks := true }, kinds := [], alts := [], laidByText := true, laidKinds := [.data, .data, .data, .data, .sentinel, .sentinel, .pinned], laidTests := true, laidLooks := .later }
def FoldAgainUptoCardSaid : Prop := Claim7.holds Tryz.pinned (.plain (OpenSpec.upto foldAgainSpec)) foldAgainUptoCard
end Rows
end Go.Proofs.YtdkjinmkallhnaaGreatDoor
