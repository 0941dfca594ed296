/-
  DERIVED. GIVEN WITH THE SEED: THE CARDS: each row of YthlgjipbpgaobaaDoorRows.lean that lists a variable, with what it lists TIED to the program's text (the seventh form; the later family's looks); each row that meets fmt, with fmt's text TOLD by the authors' own Lean function (tested against real Go, not proved from fmt's source: count such statements apart). THE CARD IS WHAT COUNTS. Prove the row's statement (the work); the ties are given (YthlgjipbpgaobaaDoorTie.lean); close each card by the builder's one call (the guide's Derived/Test/ToyasCard.lean, 'card_holds'). Laid BY PROGRAM, IN A SANDBOX (cutbox-door.mjs). By AI agents, Wed Nov 11 2026. No macro, syntax, notation, axiom, sorry.
-/
import Derived.Test.YthlgjipbpgaobaaDoorRows
import GoSem.ClaimSeven
namespace Go.Proofs.YthlgjipbpgaobaaDoor
namespace Rows

/-- THE TIED CARD OF 'onionskinlaw07.PaxParses'. -/
def paxParsesCard : Claim7 := { stood := { row := paxParsesRow, standIns := [], harness := (true, "b87b9d806358cbbea86dbb392a0ce6a0aaa967ba2d313f807a9cd0158a0ca3de"), looks := true }, kinds := [], alts := [], laidByText := true, laidKinds := [.data, .data, .data, .sentinel, .sentinel], laidTests := true, laidLooks := .later }
def PaxParsesCardSaid : Prop := Claim7.holds Tryd.pinned (.plain (OpenSpec.ofChange paxParsesSpec)) paxParsesCard

/-- THE TIED CARD OF 'onionskinlaw07.PaxLong'. -/
def paxLongCard : Claim7 := { stood := { row := paxLongRow, standIns := [], harness := (true, "b87b9d806358cbbea86dbb392a0ce6a0aaa967ba2d313f807a9cd0158a0ca3de"), looks := true }, kinds := [], alts := [], laidByText := true, laidKinds := [.data, .data, .data, .sentinel, .sentinel], laidTests := true, laidLooks := .later }
def PaxLongCardSaid : Prop := Claim7.holds Tryd.pinned (.plain (OpenSpec.ofChange paxLongSpec)) paxLongCard

/-- THE TIED CARD OF 'onionskinlaw07.PaxParts'. -/
def paxPartsCard : Claim7 := { stood := { row := paxPartsRow, standIns := [], harness := (true, "b87b9d806358cbbea86dbb392a0ce6a0aaa967ba2d313f807a9cd0158a0ca3de"), looks := true }, kinds := [], alts := [], laidByText := true, laidKinds := [.data, .data, .data, .sentinel, .sentinel], laidTests := true, laidLooks := .later }
def PaxPartsCardSaid : Prop := Claim7.holds Tryd.pinned (.plain (OpenSpec.ofChange paxPartsSpec)) paxPartsCard

/-- THE TIED CARD OF 'onionskinlaw07.PaxFinds'. -/
def paxFindsCard : Claim7 := { stood := { row := paxFindsRow, standIns := [], harness := (true, "b87b9d806358cbbea86dbb392a0ce6a0aaa967ba2d313f807a9cd0158a0ca3de"), looks := true }, kinds := [], alts := [], laidByText := true, laidKinds := [.data, .data, .data, .sentinel, .sentinel], laidTests := true, laidLooks := .later }
def PaxFindsCardSaid : Prop := Claim7.holds Tryd.pinned (.plain (OpenSpec.ofChange paxFindsSpec)) paxFindsCard

/-- THE SECOND FORM's CARD OF 'onionskinlaw07.PaxParses'. -/
def paxParsesUptoCard : Claim7 := { stood := { row := paxParsesUptoRow, standIns := [], harness := (true, "b87b9d806358cbbea86dbb392a0ce6a0aaa967ba2d313f807a9cd0158a0ca3de"), looks := true }, kinds := [], alts := [], laidByText := true, laidKinds := [.data, .data, .data, .sentinel, .sentinel], laidTests := true, laidLooks := .later }
def PaxParsesUptoCardSaid : Prop := Claim7.holds Tryd.pinned (.plain (OpenSpec.upto paxParsesSpec)) paxParsesUptoCard

/-- THE SECOND FORM's CARD OF 'onionskinlaw07.PaxLong'. -/
def paxLongUptoCard : Claim7 := { stood := { row := paxLongUptoRow, standIns := [], harness := (true, "b87b9d806358cbbea86dbb392a0ce6a0aaa967ba2d313f807a9cd0158a0ca3de"), looks := true }, kinds := [], alts := [], laidByText := true, laidKinds := [.data, .data, .data, .sentinel, .sentinel], laidTests := true, laidLooks := .later }
def PaxLongUptoCardSaid : Prop := Claim7.holds Tryd.pinned (.plain (OpenSpec.upto paxLongSpec)) paxLongUptoCard

/-- THE SECOND FORM's CARD OF 'onionskinlaw07.PaxParts'. -/
def paxPartsUptoCard : Claim7 := { stood := { row := paxPartsUptoRow, standIns := [], harness := (true, "b87b9d806358cbbea86dbb392a0ce6a0aaa967ba2d313f807a9cd0158a0ca3de"), looks := true }, kinds := [], alts := [], laidByText := true, laidKinds := [.data, .data, .data, .sentinel, .sentinel], laidTests := true, laidLooks := .later }
def PaxPartsUptoCardSaid : Prop := Claim7.holds Tryd.pinned (.plain (OpenSpec.upto paxPartsSpec)) paxPartsUptoCard

/-- THE SECOND FORM's CARD OF 'onionskinlaw07.PaxFinds'. -/
def paxFindsUptoCard : Claim7 := { stood := { row := paxFindsUptoRow, standIns := [], harness := (true, "b87b9d806358cbbea86dbb392a0ce6a0aaa967ba2d313f807a9cd0158a0ca3de"), looks := true }, kinds := [], alts := [], laidByText := true, laidKinds := [.data, .data, .data, .sentinel, .sentinel], laidTests := true, laidLooks := .later }
def PaxFindsUptoCardSaid : Prop := Claim7.holds Tryd.pinned (.plain (OpenSpec.upto paxFindsSpec)) paxFindsUptoCard
end Rows
end Go.Proofs.YthlgjipbpgaobaaDoor
