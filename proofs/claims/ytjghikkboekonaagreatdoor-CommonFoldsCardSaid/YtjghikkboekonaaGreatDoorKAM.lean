/- A part of a proof of statements of this seat: what its walks and its laws lean on; joined by a program of this repo (wip/pack.py) out of the texts JCFolds. -/
import Derived.Test.YtjghikkboekonaaGreatDoorKAJ
set_option linter.unusedSimpArgs false
set_option linter.unusedVariables false
section
namespace Go.Proofs.YtjghikkboekonaaGreatDoor.commonFolds
open Go.ChangeShapes Go.WideShapes Go.ChangeAt Go.RowKit Go.Proofs.YtjghikkboekonaaGreatDoor
theorem and2 {a b:Bool} (h1:a=true) (h2:b=true):(a && b)=true:=by rw [h1,h2];rfl
set_option maxHeartbeats 16000000 in
theorem closed_:joinedFacts Tryz.pinned.checked.prog 9 Tryz.f9 (OpenSpec.ofChange Rows.commonFoldsSpec).bare Rows.commonFoldsRow=true:=by
 unfold joinedFacts
 repeat' (with_reducible refine and2 ?_ ?_)
 all_goals as_aux_lemma=>kernel_rfl
end Go.Proofs.YtjghikkboekonaaGreatDoor.commonFolds
end
