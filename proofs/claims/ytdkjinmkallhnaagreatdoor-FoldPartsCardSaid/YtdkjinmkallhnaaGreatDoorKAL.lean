/- A part of a proof of FoldPartsCardSaid of this seat: what its walks and its laws lean on; joined by a program of this repo (wip/pack.py) out of the texts JParts. -/
import Derived.Test.YtdkjinmkallhnaaGreatDoorKAJ
set_option linter.unusedSimpArgs false
set_option linter.unusedVariables false
section
namespace Go.Proofs.YtdkjinmkallhnaaGreatDoor.foldParts
open Go.ChangeShapes Go.WideShapes Go.ChangeAt Go.RowKit Go.Proofs.YtdkjinmkallhnaaGreatDoor
theorem closed_:joinedFacts Tryz.pinned.checked.prog 12 Tryz.f12 (OpenSpec.ofChange Rows.foldPartsSpec).bare Rows.foldPartsRow=true:=by kernel_rfl
end Go.Proofs.YtdkjinmkallhnaaGreatDoor.foldParts
end
