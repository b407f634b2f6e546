/- Facts. No condition. -/
import Derived.Test.YtkdohhmacfoolaaGreatDoorPfAmB
set_option linter.unusedSimpArgs false
set_option linter.unusedVariables false
set_option maxRecDepth 4000
namespace Go.AM
section
open Go.RowKit
variable {P:Program}{H:aG}
end
end Go.AM
