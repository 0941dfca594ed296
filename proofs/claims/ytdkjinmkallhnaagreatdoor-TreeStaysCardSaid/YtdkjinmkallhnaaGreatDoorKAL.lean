/- A part of a proof of TreeStaysCardSaid of this seat: what its walks and its laws lean on; joined by a program of this repo (wip/pack.py) out of the texts JStays. -/
import Derived.Test.YtdkjinmkallhnaaGreatDoorKAJ
set_option linter.unusedSimpArgs false
set_option linter.unusedVariables false
section
namespace Go.Proofs.YtdkjinmkallhnaaGreatDoor.treeStays
open Go.ChangeShapes Go.WideShapes Go.ChangeAt Go.RowKit Go.Proofs.YtdkjinmkallhnaaGreatDoor
theorem closed_:joinedFacts Tryz.pinned.checked.prog 5 Tryz.f5 (OpenSpec.ofChange Rows.treeStaysSpec).bare Rows.treeStaysRow=true:=by kernel_rfl
end Go.Proofs.YtdkjinmkallhnaaGreatDoor.treeStays
end
