/- Facts. No condition. -/
import Derived.Test.YtkdohhmacfoolaaGreatDoorPgAmB
set_option linter.unusedSimpArgs false
set_option linter.unusedVariables false
set_option maxRecDepth 4000
namespace Go.AM
section
open Go.RowKit
variable {P:Program}{H:aH}
end
end Go.AM
