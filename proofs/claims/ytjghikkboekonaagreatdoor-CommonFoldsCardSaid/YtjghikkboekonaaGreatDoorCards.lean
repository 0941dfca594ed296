/-
  DERIVED. GIVEN WITH THE SEED: THE CARDS: each row of YtjghikkboekonaaGreatDoorRows.lean that lists a variable, with what it lists TIED to the program's text (the seventh form; the later family's looks); each row that meets fmt, with fmt's text TOLD by the authors' own Lean function (tested against real Go, not proved from fmt's source: count such statements apart). THE CARD IS WHAT COUNTS. Prove the row's statement (the work); the ties are given (YtjghikkboekonaaGreatDoorTie.lean); close each card by the builder's one call (the guide's Derived/Test/ToyasCard.lean, 'card_holds'). Laid BY PROGRAM, IN A SANDBOX (cutbox-door.mjs). By AI agents, Wed Nov 11 2026. No macro, syntax, notation, axiom, sorry.
-/
import Derived.Test.YtjghikkboekonaaGreatDoorRows
import GoSem.ClaimSeven
namespace Go.Proofs.YtjghikkboekonaaGreatDoor
namespace Rows

/-- THE TIED CARD OF 'onionskinlaw19.DiffBoth'. -/
def diffBothCard : Claim7 := { stood := { row := diffBothRow, standIns := [], harness := (true, "633048b0ce34e1e2b645231bdb3da247d65a812dc13ecdd765473fc00d4961b9"), looks := true }, kinds := [], alts := [], laidByText := true, laidKinds := [.data, .data, .data, .data, .sentinel, .sentinel, .pinned], laidTests := true, laidLooks := .later }
def DiffBothCardSaid : Prop := Claim7.holds Tryz.pinned (.plain (OpenSpec.ofChange diffBothSpec)) diffBothCard

/-- THE TIED CARD OF 'onionskinlaw19.DiffThree'. -/
def diffThreeCard : Claim7 := { stood := { row := diffThreeRow, standIns := [], harness := (true, "633048b0ce34e1e2b645231bdb3da247d65a812dc13ecdd765473fc00d4961b9"), looks := true }, kinds := [], alts := [], laidByText := true, laidKinds := [.data, .data, .data, .data, .sentinel, .sentinel, .pinned], laidTests := true, laidLooks := .later }
def DiffThreeCardSaid : Prop := Claim7.holds Tryz.pinned (.plain (OpenSpec.ofChange diffThreeSpec)) diffThreeCard

/-- THE TIED CARD OF 'onionskinlaw17.TreeApplies'. -/
def treeAppliesCard : Claim7 := { stood := { row := treeAppliesRow, standIns := [], harness := (true, "633048b0ce34e1e2b645231bdb3da247d65a812dc13ecdd765473fc00d4961b9"), looks := true }, kinds := [], alts := [], laidByText := true, laidKinds := [.data, .data, .data, .data, .sentinel, .sentinel, .pinned], laidTests := true, laidLooks := .later }
def TreeAppliesCardSaid : Prop := Claim7.holds Tryz.pinned (.plain (OpenSpec.ofChange treeAppliesSpec)) treeAppliesCard

/-- THE TIED CARD OF 'onionskinlaw20.SquashFolds'. -/
def squashFoldsCard : Claim7 := { stood := { row := squashFoldsRow, standIns := [], harness := (true, "633048b0ce34e1e2b645231bdb3da247d65a812dc13ecdd765473fc00d4961b9"), looks := true }, kinds := [], alts := [], laidByText := true, laidKinds := [.data, .data, .data, .data, .sentinel, .sentinel, .pinned], laidTests := true, laidLooks := .later }
def SquashFoldsCardSaid : Prop := Claim7.holds Tryz.pinned (.plain (OpenSpec.ofChange squashFoldsSpec)) squashFoldsCard

/-- THE TIED CARD OF 'onionskinlaw20.SquashThree'. -/
def squashThreeCard : Claim7 := { stood := { row := squashThreeRow, standIns := [], harness := (true, "633048b0ce34e1e2b645231bdb3da247d65a812dc13ecdd765473fc00d4961b9"), looks := true }, kinds := [], alts := [], laidByText := true, laidKinds := [.data, .data, .data, .data, .sentinel, .sentinel, .pinned], laidTests := true, laidLooks := .later }
def SquashThreeCardSaid : Prop := Claim7.holds Tryz.pinned (.plain (OpenSpec.ofChange squashThreeSpec)) squashThreeCard

/-- THE TIED CARD OF 'onionskinlaw20.SquashNothing'. -/
def squashNothingCard : Claim7 := { stood := { row := squashNothingRow, standIns := [], harness := (true, "633048b0ce34e1e2b645231bdb3da247d65a812dc13ecdd765473fc00d4961b9"), looks := true }, kinds := [], alts := [], laidByText := true, laidKinds := [.data, .data, .data, .data, .sentinel, .sentinel, .pinned], laidTests := true, laidLooks := .later }
def SquashNothingCardSaid : Prop := Claim7.holds Tryz.pinned (.plain (OpenSpec.ofChange squashNothingSpec)) squashNothingCard

/-- THE TIED CARD OF 'onionskinlaw23.CommonFolds'. -/
def commonFoldsCard : Claim7 := { stood := { row := commonFoldsRow, standIns := [], harness := (true, "633048b0ce34e1e2b645231bdb3da247d65a812dc13ecdd765473fc00d4961b9"), looks := true }, kinds := [], alts := [], laidByText := true, laidKinds := [.data, .data, .data, .data, .sentinel, .sentinel, .pinned], laidTests := true, laidLooks := .later }
def CommonFoldsCardSaid : Prop := Claim7.holds Tryz.pinned (.plain (OpenSpec.ofChange commonFoldsSpec)) commonFoldsCard

/-- THE TIED CARD OF 'onionskinlaw23.CommonPuts'. -/
def commonPutsCard : Claim7 := { stood := { row := commonPutsRow, standIns := [], harness := (true, "633048b0ce34e1e2b645231bdb3da247d65a812dc13ecdd765473fc00d4961b9"), looks := true }, kinds := [], alts := [], laidByText := true, laidKinds := [.data, .data, .data, .data, .sentinel, .sentinel, .pinned], laidTests := true, laidLooks := .later }
def CommonPutsCardSaid : Prop := Claim7.holds Tryz.pinned (.plain (OpenSpec.ofChange commonPutsSpec)) commonPutsCard

/-- THE TIED CARD OF 'onionskinlaw23.CommonOne'. -/
def commonOneCard : Claim7 := { stood := { row := commonOneRow, standIns := [], harness := (true, "633048b0ce34e1e2b645231bdb3da247d65a812dc13ecdd765473fc00d4961b9"), looks := true }, kinds := [], alts := [], laidByText := true, laidKinds := [.data, .data, .data, .data, .sentinel, .sentinel, .pinned], laidTests := true, laidLooks := .later }
def CommonOneCardSaid : Prop := Claim7.holds Tryz.pinned (.plain (OpenSpec.ofChange commonOneSpec)) commonOneCard

/-- THE TIED CARD OF 'onionskinlaw23.CommonPrefix'. -/
def commonPrefixCard : Claim7 := { stood := { row := commonPrefixRow, standIns := [], harness := (true, "633048b0ce34e1e2b645231bdb3da247d65a812dc13ecdd765473fc00d4961b9"), looks := true }, kinds := [], alts := [], laidByText := true, laidKinds := [.data, .data, .data, .data, .sentinel, .sentinel, .pinned], laidTests := true, laidLooks := .later }
def CommonPrefixCardSaid : Prop := Claim7.holds Tryz.pinned (.plain (OpenSpec.ofChange commonPrefixSpec)) commonPrefixCard

/-- THE SECOND FORM's CARD OF 'onionskinlaw19.DiffBoth'. -/
def diffBothUptoCard : Claim7 := { stood := { row := diffBothUptoRow, standIns := [], harness := (true, "633048b0ce34e1e2b645231bdb3da247d65a812dc13ecdd765473fc00d4961b9"), looks := true }, kinds := [], alts := [], laidByText := true, laidKinds := [.data, .data, .data, .data, .sentinel, .sentinel, .pinned], laidTests := true, laidLooks := .later }
def DiffBothUptoCardSaid : Prop := Claim7.holds Tryz.pinned (.plain (OpenSpec.upto diffBothSpec)) diffBothUptoCard

/-- THE SECOND FORM's CARD OF 'onionskinlaw19.DiffThree'. -/
def diffThreeUptoCard : Claim7 := { stood := { row := diffThreeUptoRow, standIns := [], harness := (true, "633048b0ce34e1e2b645231bdb3da247d65a812dc13ecdd765473fc00d4961b9"), looks := true }, kinds := [], alts := [], laidByText := true, laidKinds := [.data, .data, .data, .data, .sentinel, .sentinel, .pinned], laidTests := true, laidLooks := .later }
def DiffThreeUptoCardSaid : Prop := Claim7.holds Tryz.pinned (.plain (OpenSpec.upto diffThreeSpec)) diffThreeUptoCard

/-- THE SECOND FORM's CARD OF 'onionskinlaw17.TreeApplies'. -/
def treeAppliesUptoCard : Claim7 := { stood := { row := treeAppliesUptoRow, standIns := [], harness := (true, "633048b0ce34e1e2b645231bdb3da247d65a812dc13ecdd765473fc00d4961b9"), looks := true }, kinds := [], alts := [], laidByText := true, laidKinds := [.data, .data, .data, .data, .sentinel, .sentinel, .pinned], laidTests := true, laidLooks := .later }
def TreeAppliesUptoCardSaid : Prop := Claim7.holds Tryz.pinned (.plain (OpenSpec.upto treeAppliesSpec)) treeAppliesUptoCard

/-- THE SECOND FORM's CARD OF 'onionskinlaw20.SquashFolds'. -/
def squashFoldsUptoCard : Claim7 := { stood := { row := squashFoldsUptoRow, standIns := [], harness := (true, "633048b0ce34e1e2b645231bdb3da247d65a812dc13ecdd765473fc00d4961b9"), looks := true }, kinds := [], alts := [], laidByText := true, laidKinds := [.data, .data, .data, .data, .sentinel, .sentinel, .pinned], laidTests := true, laidLooks := .later }
def SquashFoldsUptoCardSaid : Prop := Claim7.holds Tryz.pinned (.plain (OpenSpec.upto squashFoldsSpec)) squashFoldsUptoCard

/-- THE SECOND FORM's CARD OF 'onionskinlaw20.SquashThree'. -/
def squashThreeUptoCard : Claim7 := { stood := { row := squashThreeUptoRow, standIns := [], harness := (true, "633048b0ce34e1e2b645231bdb3da247d65a812dc13ecdd765473fc00d4961b9"), looks := true }, kinds := [], alts := [], laidByText := true, laidKinds := [.data, .data, .data, .data, .sentinel, .sentinel, .pinned], laidTests := true, laidLooks := .later }
def SquashThreeUptoCardSaid : Prop := Claim7.holds Tryz.pinned (.plain (OpenSpec.upto squashThreeSpec)) squashThreeUptoCard

/-- THE SECOND FORM's CARD OF 'onionskinlaw20.SquashNothing'. -/
def squashNothingUptoCard : Claim7 := { stood := { row := squashNothingUptoRow, standIns := [], harness := (true, "633048b0ce34e1e2b645231bdb3da247d65a812dc13ecdd765473fc00d4961b9"), looks := true }, kinds := [], alts := [], laidByText := true, laidKinds := [.data, .data, .data, .data, .sentinel, .sentinel, .pinned], laidTests := true, laidLooks := .later }
def SquashNothingUptoCardSaid : Prop := Claim7.holds Tryz.pinned (.plain (OpenSpec.upto squashNothingSpec)) squashNothingUptoCard

/-- THE SECOND FORM's CARD OF 'onionskinlaw23.CommonFolds'. -/
def commonFoldsUptoCard : Claim7 := { stood := { row := commonFoldsUptoRow, standIns := [], harness := (true, "633048b0ce34e1e2b645231bdb3da247d65a812dc13ecdd765473fc00d4961b9"), looks := true }, kinds := [], alts := [], laidByText := true, laidKinds := [.data, .data, .data, .data, .sentinel, .sentinel, .pinned], laidTests := true, laidLooks := .later }
def CommonFoldsUptoCardSaid : Prop := Claim7.holds Tryz.pinned (.plain (OpenSpec.upto commonFoldsSpec)) commonFoldsUptoCard

/-- THE SECOND FORM's CARD OF 'onionskinlaw23.CommonPuts'. -/
def commonPutsUptoCard : Claim7 := { stood := { row := commonPutsUptoRow, standIns := [], harness := (true, "633048b0ce34e1e2b645231bdb3da247d65a812dc13ecdd765473fc00d4961b9"), looks := true }, kinds := [], alts := [], laidByText := true, laidKinds := [.data, .data, .data, .data, .sentinel, .sentinel, .pinned], laidTests := true, laidLooks := .later }
def CommonPutsUptoCardSaid : Prop := Claim7.holds Tryz.pinned (.plain (OpenSpec.upto commonPutsSpec)) commonPutsUptoCard

/-- THE SECOND FORM's CARD OF 'onionskinlaw23.CommonOne'. -/
def commonOneUptoCard : Claim7 := { stood := { row := commonOneUptoRow, standIns := [], harness := (true, "633048b0ce34e1e2b645231bdb3da247d65a812dc13ecdd765473fc00d4961b9"), looks := true }, kinds := [], alts := [], laidByText := true, laidKinds := [.data, .data, .data, .data, .sentinel, .sentinel, .pinned], laidTests := true, laidLooks := .later }
def CommonOneUptoCardSaid : Prop := Claim7.holds Tryz.pinned (.plain (OpenSpec.upto commonOneSpec)) commonOneUptoCard

/-- THE SECOND FORM's CARD OF 'onionskinlaw23.CommonPrefix'. -/
def commonPrefixUptoCard : Claim7 := { stood := { row := commonPrefixUptoRow, standIns := [], harness := (true, "633048b0ce34e1e2b645231bdb3da247d65a812dc13ecdd765473fc00d4961b9"), looks := true }, kinds := [], alts := [], laidByText := true, laidKinds := [.data, .data, .data, .data, .sentinel, .sentinel, .pinned], laidTests := true, laidLooks := .later }
def CommonPrefixUptoCardSaid : Prop := Claim7.holds Tryz.pinned (.plain (OpenSpec.upto commonPrefixSpec)) commonPrefixUptoCard
end Rows
end Go.Proofs.YtjghikkboekonaaGreatDoor
