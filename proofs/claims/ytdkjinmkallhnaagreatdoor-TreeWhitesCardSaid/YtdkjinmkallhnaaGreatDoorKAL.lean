/- A part of a proof of TreeWhitesCardSaid of this seat: what its walks and its laws lean on; joined by a program of this repo (wip/pack.py) out of the texts JWhites. -/
import Derived.Test.YtdkjinmkallhnaaGreatDoorKAJ
set_option linter.unusedSimpArgs false
set_option linter.unusedVariables false
section
namespace Go.Proofs.YtdkjinmkallhnaaGreatDoor.treeWhites
open Go.ChangeShapes Go.WideShapes Go.ChangeAt Go.RowKit Go.Proofs.YtdkjinmkallhnaaGreatDoor
theorem closed_:joinedFacts Tryz.pinned.checked.prog 7 Tryz.f7 (OpenSpec.ofChange Rows.treeWhitesSpec).bare Rows.treeWhitesRow=true:=by kernel_rfl
end Go.Proofs.YtdkjinmkallhnaaGreatDoor.treeWhites
end
