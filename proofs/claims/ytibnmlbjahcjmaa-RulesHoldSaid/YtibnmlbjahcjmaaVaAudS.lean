/- Facts that the statement's proof is made of. No condition. -/
import Derived.Test.YtibnmlbjahcjmaaVaAudR
set_option linter.unusedVariables false
set_option linter.unusedSimpArgs false
set_option maxRecDepth 20000
set_option maxHeartbeats 1000000
namespace Go.Proofs.Ytibnmlbjahcjmaa
open Go Go.AM Go.Pl Go.Pt
section
variable {g : GGraph} (hE : g.Edges.length < 1000000000) (hH : g.Hashes.length < 1000000000)
include hE hH
end
section
variable {g : GGraph} (hE : g.Edges.length < 1000000000) (h : GOK g)
include hE h
end
end Go.Proofs.Ytibnmlbjahcjmaa
