/- A part of a proof of statements of this seat: what its walks and its laws lean on; joined by a program of this repo (wip/pack.py) out of the texts JDoes. -/
import Derived.Test.YtdacflloaehjeaaGreatDoorKAJ
set_option linter.unusedSimpArgs false
set_option linter.unusedVariables false
section
namespace Go.Proofs.YtdacflloaehjeaaGreatDoor.diffDoes
open Go.ChangeShapes Go.WideShapes Go.ChangeAt Go.RowKit Go.Proofs.YtdacflloaehjeaaGreatDoor
theorem closed_:joinedFacts Tryz.pinned.checked.prog 11 Tryz.f11 (OpenSpec.ofChange Rows.diffDoesSpec).bare Rows.diffDoesRow=true:=by kernel_rfl
end Go.Proofs.YtdacflloaehjeaaGreatDoor.diffDoes
end
