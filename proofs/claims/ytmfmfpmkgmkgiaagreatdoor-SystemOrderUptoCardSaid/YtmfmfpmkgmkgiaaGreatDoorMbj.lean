/- OrdJ. -/
import Derived.Test.YtmfmfpmkgmkgiaaGreatDoorMah
set_option linter.unusedVariables false
set_option linter.unusedSimpArgs false
set_option maxHeartbeats 40000000
namespace Go.Proofs.YtmfmfpmkgmkgiaaGreatDoor
section
open Go.RowKit Go.ChangeShapes Go.WideShapes Go.ChangeAt
set_option maxRecDepth 100000 in
theorem A27:joinedFacts Tryz.pinned.checked.prog 7 Tryz.f7 (Rows.OpenSpec.upto Rows.systemOrderSpec).bare Rows.systemOrderUptoRow=true:=by
 unfold joinedFacts
 simp only [Bool.and_eq_true]
 repeat' refine And.intro ?_ ?_
 all_goals (as_aux_lemma=>kernel_rfl)
end
end Go.Proofs.YtmfmfpmkgmkgiaaGreatDoor
