/- A part of a proof of statements of this seat: what its walks and its laws lean on; joined by a program of this repo (wip/pack.py) out of the texts JNeeds. -/
import Derived.Test.YtdacflloaehjeaaGreatDoorKAJ
set_option linter.unusedSimpArgs false
set_option linter.unusedVariables false
section
namespace Go.Proofs.YtdacflloaehjeaaGreatDoor.diffNeeds
open Go.ChangeShapes Go.WideShapes Go.ChangeAt Go.RowKit Go.Proofs.YtdacflloaehjeaaGreatDoor
theorem closed_:joinedFacts Tryz.pinned.checked.prog 12 Tryz.f12 (OpenSpec.ofChange Rows.diffNeedsSpec).bare Rows.diffNeedsRow=true:=by kernel_rfl
end Go.Proofs.YtdacflloaehjeaaGreatDoor.diffNeeds
end
