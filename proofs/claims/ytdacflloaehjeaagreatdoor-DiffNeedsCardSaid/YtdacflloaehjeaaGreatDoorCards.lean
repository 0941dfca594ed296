/-
  DERIVED. GIVEN WITH THE SEED: THE CARDS: each row of YtdacflloaehjeaaGreatDoorRows.lean that lists a variable, with what it lists TIED to the program's text (the seventh form; the later family's looks); each row that meets fmt, with fmt's text TOLD by the authors' own Lean function (tested against real Go, not proved from fmt's source: count such statements apart). THE CARD IS WHAT COUNTS. Prove the row's statement (the work); the ties are given (YtdacflloaehjeaaGreatDoorTie.lean); close each card by the builder's one call (the guide's Derived/Test/ToyasCard.lean, 'card_holds'). Laid BY PROGRAM, IN A SANDBOX (cutbox-door.mjs). By AI agents, Wed Nov 11 2026. No macro, syntax, notation, axiom, sorry.
-/
import Derived.Test.YtdacflloaehjeaaGreatDoorRows
import GoSem.ClaimSeven
namespace Go.Proofs.YtdacflloaehjeaaGreatDoor
namespace Rows

/-- THE TIED CARD OF 'onionskinlaw19.DiffMakes'. -/
def diffMakesCard : Claim7 := { stood := { row := diffMakesRow, standIns := [], harness := (true, "8241710784d1c07aa665045aeb689887bcb83f1563ca93dbb855caf212fd55c2"), looks := true }, kinds := [], alts := [], laidByText := true, laidKinds := [.data, .data, .data, .data, .sentinel, .sentinel, .pinned], laidTests := true, laidLooks := .later }
def DiffMakesCardSaid : Prop := Claim7.holds Tryz.pinned (.plain (OpenSpec.ofChange diffMakesSpec)) diffMakesCard

/-- THE TIED CARD OF 'onionskinlaw19.DiffBoth'. -/
def diffBothCard : Claim7 := { stood := { row := diffBothRow, standIns := [], harness := (true, "8241710784d1c07aa665045aeb689887bcb83f1563ca93dbb855caf212fd55c2"), looks := true }, kinds := [], alts := [], laidByText := true, laidKinds := [.data, .data, .data, .data, .sentinel, .sentinel, .pinned], laidTests := true, laidLooks := .later }
def DiffBothCardSaid : Prop := Claim7.holds Tryz.pinned (.plain (OpenSpec.ofChange diffBothSpec)) diffBothCard

/-- THE TIED CARD OF 'onionskinlaw17.TreeTells'. -/
def treeTellsCard : Claim7 := { stood := { row := treeTellsRow, standIns := [], harness := (true, "8241710784d1c07aa665045aeb689887bcb83f1563ca93dbb855caf212fd55c2"), looks := true }, kinds := [], alts := [], laidByText := true, laidKinds := [.data, .data, .data, .data, .sentinel, .sentinel, .pinned], laidTests := true, laidLooks := .later }
def TreeTellsCardSaid : Prop := Claim7.holds Tryz.pinned (.plain (OpenSpec.ofChange treeTellsSpec)) treeTellsCard

/-- THE TIED CARD OF 'onionskinlaw17.TreeApplies'. -/
def treeAppliesCard : Claim7 := { stood := { row := treeAppliesRow, standIns := [], harness := (true, "8241710784d1c07aa665045aeb689887bcb83f1563ca93dbb855caf212fd55c2"), looks := true }, kinds := [], alts := [], laidByText := true, laidKinds := [.data, .data, .data, .data, .sentinel, .sentinel, .pinned], laidTests := true, laidLooks := .later }
def TreeAppliesCardSaid : Prop := Claim7.holds Tryz.pinned (.plain (OpenSpec.ofChange treeAppliesSpec)) treeAppliesCard

/-- THE TIED CARD OF 'onionskinlaw18.FoldOntos'. -/
def foldOntosCard : Claim7 := { stood := { row := foldOntosRow, standIns := [], harness := (true, "8241710784d1c07aa665045aeb689887bcb83f1563ca93dbb855caf212fd55c2"), looks := true }, kinds := [], alts := [], laidByText := true, laidKinds := [.data, .data, .data, .data, .sentinel, .sentinel, .pinned], laidTests := true, laidLooks := .later }
def FoldOntosCardSaid : Prop := Claim7.holds Tryz.pinned (.plain (OpenSpec.ofChange foldOntosSpec)) foldOntosCard

/-- THE TIED CARD OF 'onionskinlaw18.FoldTrees'. -/
def foldTreesCard : Claim7 := { stood := { row := foldTreesRow, standIns := [], harness := (true, "8241710784d1c07aa665045aeb689887bcb83f1563ca93dbb855caf212fd55c2"), looks := true }, kinds := [], alts := [], laidByText := true, laidKinds := [.data, .data, .data, .data, .sentinel, .sentinel, .pinned], laidTests := true, laidLooks := .later }
def FoldTreesCardSaid : Prop := Claim7.holds Tryz.pinned (.plain (OpenSpec.ofChange foldTreesSpec)) foldTreesCard

/-- THE TIED CARD OF 'onionskinlaw18.FoldLast'. -/
def foldLastCard : Claim7 := { stood := { row := foldLastRow, standIns := [], harness := (true, "8241710784d1c07aa665045aeb689887bcb83f1563ca93dbb855caf212fd55c2"), looks := true }, kinds := [], alts := [], laidByText := true, laidKinds := [.data, .data, .data, .data, .sentinel, .sentinel, .pinned], laidTests := true, laidLooks := .later }
def FoldLastCardSaid : Prop := Claim7.holds Tryz.pinned (.plain (OpenSpec.ofChange foldLastSpec)) foldLastCard

/-- THE TIED CARD OF 'onionskinlaw18.FoldAgain'. -/
def foldAgainCard : Claim7 := { stood := { row := foldAgainRow, standIns := [], harness := (true, "8241710784d1c07aa665045aeb689887bcb83f1563ca93dbb855caf212fd55c2"), looks := true }, kinds := [], alts := [], laidByText := true, laidKinds := [.data, .data, .data, .data, .sentinel, .sentinel, .pinned], laidTests := true, laidLooks := .later }
def FoldAgainCardSaid : Prop := Claim7.holds Tryz.pinned (.plain (OpenSpec.ofChange foldAgainSpec)) foldAgainCard

/-- THE TIED CARD OF 'onionskinlaw19.DiffDoes'. -/
def diffDoesCard : Claim7 := { stood := { row := diffDoesRow, standIns := [], harness := (true, "8241710784d1c07aa665045aeb689887bcb83f1563ca93dbb855caf212fd55c2"), looks := true }, kinds := [], alts := [], laidByText := true, laidKinds := [.data, .data, .data, .data, .sentinel, .sentinel, .pinned], laidTests := true, laidLooks := .later }
def DiffDoesCardSaid : Prop := Claim7.holds Tryz.pinned (.plain (OpenSpec.ofChange diffDoesSpec)) diffDoesCard

/-- THE TIED CARD OF 'onionskinlaw19.DiffNeeds'. -/
def diffNeedsCard : Claim7 := { stood := { row := diffNeedsRow, standIns := [], harness := (true, "8241710784d1c07aa665045aeb689887bcb83f1563ca93dbb855caf212fd55c2"), looks := true }, kinds := [], alts := [], laidByText := true, laidKinds := [.data, .data, .data, .data, .sentinel, .sentinel, .pinned], laidTests := true, laidLooks := .later }
def DiffNeedsCardSaid : Prop := Claim7.holds Tryz.pinned (.plain (OpenSpec.ofChange diffNeedsSpec)) diffNeedsCard

/-- THE TIED CARD OF 'onionskinlaw19.DiffThree'. -/
def diffThreeCard : Claim7 := { stood := { row := diffThreeRow, standIns := [], harness := (true, "8241710784d1c07aa665045aeb689887bcb83f1563ca93dbb855caf212fd55c2"), looks := true }, kinds := [], alts := [], laidByText := true, laidKinds := [.data, .data, .data, .data, .sentinel, .sentinel, .pinned], laidTests := true, laidLooks := .later }
def DiffThreeCardSaid : Prop := Claim7.holds Tryz.pinned (.plain (OpenSpec.ofChange diffThreeSpec)) diffThreeCard

/-- THE TIED CARD OF 'onionskinlaw20.SquashFolds'. -/
def squashFoldsCard : Claim7 := { stood := { row := squashFoldsRow, standIns := [], harness := (true, "8241710784d1c07aa665045aeb689887bcb83f1563ca93dbb855caf212fd55c2"), looks := true }, kinds := [], alts := [], laidByText := true, laidKinds := [.data, .data, .data, .data, .sentinel, .sentinel, .pinned], laidTests := true, laidLooks := .later }
def SquashFoldsCardSaid : Prop := Claim7.holds Tryz.pinned (.plain (OpenSpec.ofChange squashFoldsSpec)) squashFoldsCard

/-- THE SECOND FORM's CARD OF 'onionskinlaw19.DiffMakes'. -/
def diffMakesUptoCard : Claim7 := { stood := { row := diffMakesUptoRow, standIns := [], harness := (true, "8241710784d1c07aa665045aeb689887bcb83f1563ca93dbb855caf212fd55c2"), looks := true }, kinds := [], alts := [], laidByText := true, laidKinds := [.data, .data, .data, .data, .sentinel, .sentinel, .pinned], laidTests := true, laidLooks := .later }
def DiffMakesUptoCardSaid : Prop := Claim7.holds Tryz.pinned (.plain (OpenSpec.upto diffMakesSpec)) diffMakesUptoCard

/-- THE SECOND FORM's CARD OF 'onionskinlaw19.DiffBoth'. -/
def diffBothUptoCard : Claim7 := { stood := { row := diffBothUptoRow, standIns := [], harness := (true, "8241710784d1c07aa665045aeb689887bcb83f1563ca93dbb855caf212fd55c2"), looks := true }, kinds := [], alts := [], laidByText := true, laidKinds := [.data, .data, .data, .data, .sentinel, .sentinel, .pinned], laidTests := true, laidLooks := .later }
def DiffBothUptoCardSaid : Prop := Claim7.holds Tryz.pinned (.plain (OpenSpec.upto diffBothSpec)) diffBothUptoCard

/-- THE SECOND FORM's CARD OF 'onionskinlaw17.TreeTells'. -/
def treeTellsUptoCard : Claim7 := { stood := { row := treeTellsUptoRow, standIns := [], harness := (true, "8241710784d1c07aa665045aeb689887bcb83f1563ca93dbb855caf212fd55c2"), looks := true }, kinds := [], alts := [], laidByText := true, laidKinds := [.data, .data, .data, .data, .sentinel, .sentinel, .pinned], laidTests := true, laidLooks := .later }
def TreeTellsUptoCardSaid : Prop := Claim7.holds Tryz.pinned (.plain (OpenSpec.upto treeTellsSpec)) treeTellsUptoCard

/-- THE SECOND FORM's CARD OF 'onionskinlaw17.TreeApplies'. -/
def treeAppliesUptoCard : Claim7 := { stood := { row := treeAppliesUptoRow, standIns := [], harness := (true, "8241710784d1c07aa665045aeb689887bcb83f1563ca93dbb855caf212fd55c2"), looks := true }, kinds := [], alts := [], laidByText := true, laidKinds := [.data, .data, .data, .data, .sentinel, .sentinel, .pinned], laidTests := true, laidLooks := .later }
def TreeAppliesUptoCardSaid : Prop := Claim7.holds Tryz.pinned (.plain (OpenSpec.upto treeAppliesSpec)) treeAppliesUptoCard

/-- THE SECOND FORM's CARD OF 'onionskinlaw18.FoldOntos'. -/
def foldOntosUptoCard : Claim7 := { stood := { row := foldOntosUptoRow, standIns := [], harness := (true, "8241710784d1c07aa665045aeb689887bcb83f1563ca93dbb855caf212fd55c2"), looks := true }, kinds := [], alts := [], laidByText := true, laidKinds := [.data, .data, .data, .data, .sentinel, .sentinel, .pinned], laidTests := true, laidLooks := .later }
def FoldOntosUptoCardSaid : Prop := Claim7.holds Tryz.pinned (.plain (OpenSpec.upto foldOntosSpec)) foldOntosUptoCard

/-- THE SECOND FORM's CARD OF 'onionskinlaw18.FoldTrees'. -/
def foldTreesUptoCard : Claim7 := { stood := { row := foldTreesUptoRow, standIns := [], harness := (true, "8241710784d1c07aa665045aeb689887bcb83f1563ca93dbb855caf212fd55c2"), looks := true }, kinds := [], alts := [], laidByText := true, laidKinds := [.data, .data, .data, .data, .sentinel, .sentinel, .pinned], laidTests := true, laidLooks := .later }
def FoldTreesUptoCardSaid : Prop := Claim7.holds Tryz.pinned (.plain (OpenSpec.upto foldTreesSpec)) foldTreesUptoCard

/-- THE SECOND FORM's CARD OF 'onionskinlaw18.FoldLast'. -/
def foldLastUptoCard : Claim7 := { stood := { row := foldLastUptoRow, standIns := [], harness := (true, "8241710784d1c07aa665045aeb689887bcb83f1563ca93dbb855caf212fd55c2"), looks := true }, kinds := [], alts := [], laidByText := true, laidKinds := [.data, .data, .data, .data, .sentinel, .sentinel, .pinned], laidTests := true, laidLooks := .later }
def FoldLastUptoCardSaid : Prop := Claim7.holds Tryz.pinned (.plain (OpenSpec.upto foldLastSpec)) foldLastUptoCard

/-- THE SECOND FORM's CARD OF 'onionskinlaw18.FoldAgain'. -/
def foldAgainUptoCard : Claim7 := { stood := { row := foldAgainUptoRow, standIns := [], harness := (true, "8241710784d1c07aa665045aeb689887bcb83f1563ca93dbb855caf212fd55c2"), looks := true }, kinds := [], alts := [], laidByText := true, laidKinds := [.data, .data, .data, .data, .sentinel, .sentinel, .pinned], laidTests := true, laidLooks := .later }
def FoldAgainUptoCardSaid : Prop := Claim7.holds Tryz.pinned (.plain (OpenSpec.upto foldAgainSpec)) foldAgainUptoCard

/-- THE SECOND FORM's CARD OF 'onionskinlaw19.DiffDoes'. -/
def diffDoesUptoCard : Claim7 := { stood := { row := diffDoesUptoRow, standIns := [], harness := (true, "8241710784d1c07aa665045aeb689887bcb83f1563ca93dbb855caf212fd55c2"), looks := true }, kinds := [], alts := [], laidByText := true, laidKinds := [.data, .data, .data, .data, .sentinel, .sentinel, .pinned], laidTests := true, laidLooks := .later }
def DiffDoesUptoCardSaid : Prop := Claim7.holds Tryz.pinned (.plain (OpenSpec.upto diffDoesSpec)) diffDoesUptoCard

/-- THE SECOND FORM's CARD OF 'onionskinlaw19.DiffNeeds'. -/
def diffNeedsUptoCard : Claim7 := { stood := { row := diffNeedsUptoRow, standIns := [], harness := (true, "8241710784d1c07aa665045aeb689887bcb83f1563ca93dbb855caf212fd55c2"), looks := true }, kinds := [], alts := [], laidByText := true, laidKinds := [.data, .data, .data, .data, .sentinel, .sentinel, .pinned], laidTests := true, laidLooks := .later }
def DiffNeedsUptoCardSaid : Prop := Claim7.holds Tryz.pinned (.plain (OpenSpec.upto diffNeedsSpec)) diffNeedsUptoCard

/-- THE SECOND FORM's CARD OF 'onionskinlaw19.DiffThree'. -/
def diffThreeUptoCard : Claim7 := { stood := { row := diffThreeUptoRow, standIns := [], harness := (true, "8241710784d1c07aa665045aeb689887bcb83f1563ca93dbb855caf212fd55c2"), looks := true }, kinds := [], alts := [], laidByText := true, laidKinds := [.data, .data, .data, .data, .sentinel, .sentinel, .pinned], laidTests := true, laidLooks := .later }
def DiffThreeUptoCardSaid : Prop := Claim7.holds Tryz.pinned (.plain (OpenSpec.upto diffThreeSpec)) diffThreeUptoCard

/-- THE SECOND FORM's CARD OF 'onionskinlaw20.SquashFolds'. -/
def squashFoldsUptoCard : Claim7 := { stood := { row := squashFoldsUptoRow, standIns := [], harness := (true, "8241710784d1c07aa665045aeb689887bcb83f1563ca93dbb855caf212fd55c2"), looks := true }, kinds := [], alts := [], laidByText := true, laidKinds := [.data, .data, .data, .data, .sentinel, .sentinel, .pinned], laidTests := true, laidLooks := .later }
def SquashFoldsUptoCardSaid : Prop := Claim7.holds Tryz.pinned (.plain (OpenSpec.upto squashFoldsSpec)) squashFoldsUptoCard
end Rows
end Go.Proofs.YtdacflloaehjeaaGreatDoor
