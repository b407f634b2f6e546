/- Facts that the statement's proof is made of. No condition. -/
import Derived.Test.YtkdohhmacfoolaaGreatNaGI2
set_option linter.unusedVariables false
set_option linter.unusedSimpArgs false
set_option maxRecDepth 20000
set_option maxHeartbeats 4000000
namespace Go.Proofs.YtkdohhmacfoolaaGreat
open Go Go.AM
structure GRaftsmanref02Words where
 List : List Int
 At : Int
deriving DecidableEq
def cGRaftsmanref02Words (e : GRaftsmanref02Words) : List AV := [.sl (e.List.flatMap (ci .u64)) e.List.length false, .v (.int .i64 e.At)]
theorem cGRaftsmanref02Words_app (e : GRaftsmanref02Words) (r : List AV) : cGRaftsmanref02Words e ++ r = .sl (e.List.flatMap (ci .u64)) e.List.length false :: .v (.int .i64 e.At) :: r := rfl
attribute [go_sem] cGRaftsmanref02Words_app
end Go.Proofs.YtkdohhmacfoolaaGreat
