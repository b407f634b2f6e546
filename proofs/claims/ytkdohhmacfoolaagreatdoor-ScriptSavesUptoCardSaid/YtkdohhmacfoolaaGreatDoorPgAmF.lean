/- Facts. No condition. -/
import Derived.Test.YtkdohhmacfoolaaGreatDoorPgAmD
set_option linter.unusedVariables false
namespace Go.AM
open Go Go.RowKit
variable {P:Program}{B:Nat→Prop}
unseal aR AWp KN
def KC(P:Program)(B:Nat→Prop)(ops:Array Oper)(base i:Nat)(rest:List Oper)(K:St→Prop)(s:St):Prop:= ∃s',St.Le B s s'∧aR P false ops base i rest K s'
theorem aR.cut{ops:Array Oper}{base i i':Nat}{rest:List Oper}{K:St→Prop}{s s':St}(hle:St.Le B s s')(h:aR P false ops base i' rest K s'):aR P false ops base i [] (KC P B ops base i' rest K) s:=⟨s',hle,h⟩
end Go.AM
