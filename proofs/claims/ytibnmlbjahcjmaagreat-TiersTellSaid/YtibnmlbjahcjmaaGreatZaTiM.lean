/- Facts that the statement's proof is made of. No condition. -/
import Derived.Test.YtibnmlbjahcjmaaGreatZaTiL
set_option linter.unusedVariables false
set_option linter.unusedSimpArgs false
set_option maxRecDepth 20000
set_option maxHeartbeats 1000000
namespace Go.Proofs.YtibnmlbjahcjmaaGreat
open Go Go.AM Go.Pl Go.Pt
theorem en_rem {l : List GEdge} {k : Nat} : en (l.take k ++ l.drop (k + 1)) = (en l).take k ++ (en l).drop (k + 1) := by
  rw [en_append]; unfold en; rw [List.map_take, List.map_drop]
end Go.Proofs.YtibnmlbjahcjmaaGreat
