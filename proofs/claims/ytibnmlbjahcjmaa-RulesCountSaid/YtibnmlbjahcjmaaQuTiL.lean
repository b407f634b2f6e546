/- Facts that the statement's proof is made of. No condition. -/
import Derived.Test.YtibnmlbjahcjmaaQuTiS
set_option linter.unusedVariables false
set_option linter.unusedSimpArgs false
set_option maxRecDepth 20000
set_option maxHeartbeats 1000000
namespace Go.Proofs.Ytibnmlbjahcjmaa
open Go Go.AM Go.Pl Go.Pt
theorem grB_kept {g : GGraph} (h : GD g) : tiersKept_m g = some (pt g.Config.N (kf g)) := by rw [tiersKept_eq h.e h.h, h.ok]; rfl
end Go.Proofs.Ytibnmlbjahcjmaa
