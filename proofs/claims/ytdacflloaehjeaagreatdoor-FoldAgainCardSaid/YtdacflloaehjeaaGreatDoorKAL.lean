/- A part of a proof of statements of this seat: what its walks and its laws lean on; joined by a program of this repo (wip/pack.py) out of the texts JAgain. -/
import Derived.Test.YtdacflloaehjeaaGreatDoorKAJ
set_option linter.unusedSimpArgs false
set_option linter.unusedVariables false
section
namespace Go.Proofs.YtdacflloaehjeaaGreatDoor.foldAgain
open Go.ChangeShapes Go.WideShapes Go.ChangeAt Go.RowKit Go.Proofs.YtdacflloaehjeaaGreatDoor
theorem closed_:joinedFacts Tryz.pinned.checked.prog 10 Tryz.f10 (OpenSpec.ofChange Rows.foldAgainSpec).bare Rows.foldAgainRow=true:=by kernel_rfl
end Go.Proofs.YtdacflloaehjeaaGreatDoor.foldAgain
end
