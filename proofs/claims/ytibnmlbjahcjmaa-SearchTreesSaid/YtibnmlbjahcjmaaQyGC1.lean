/- Facts that the statement's proof is made of. No condition. -/
import Derived.Test.YtibnmlbjahcjmaaQyLds
import Derived.Test.YtibnmlbjahcjmaaQyAmF
set_option linter.unusedVariables false
set_option linter.unusedSimpArgs false
set_option maxRecDepth 20000
set_option maxHeartbeats 4000000
namespace Go.Proofs.Ytibnmlbjahcjmaa
open Go Go.AM
structure GRulesLone where
 Tier : Int
 V : Int
deriving DecidableEq
def cGRulesLone (e : GRulesLone) : List AV := [.v (.int .i64 e.Tier), .v (.int .i64 e.V)]
theorem cGRulesLone_app (e : GRulesLone) (r : List AV) : cGRulesLone e ++ r = .v (.int .i64 e.Tier) :: .v (.int .i64 e.V) :: r := rfl
attribute [go_sem] cGRulesLone_app
structure GRaftsmanref16Lone where
 Tier : Int
 V : Int
deriving DecidableEq
def cGRaftsmanref16Lone (e : GRaftsmanref16Lone) : List AV := [.v (.int .i64 e.Tier), .v (.int .i64 e.V)]
theorem cGRaftsmanref16Lone_app (e : GRaftsmanref16Lone) (r : List AV) : cGRaftsmanref16Lone e ++ r = .v (.int .i64 e.Tier) :: .v (.int .i64 e.V) :: r := rfl
attribute [go_sem] cGRaftsmanref16Lone_app
structure GRaftsmanlaw15Act where
 Gone : Bool
 U : Int
 V : Int
deriving DecidableEq
def cGRaftsmanlaw15Act (e : GRaftsmanlaw15Act) : List AV := [.v (.bool e.Gone), .v (.int .i64 e.U), .v (.int .i64 e.V)]
theorem cGRaftsmanlaw15Act_app (e : GRaftsmanlaw15Act) (r : List AV) : cGRaftsmanlaw15Act e ++ r = .v (.bool e.Gone) :: .v (.int .i64 e.U) :: .v (.int .i64 e.V) :: r := rfl
attribute [go_sem] cGRaftsmanlaw15Act_app
end Go.Proofs.Ytibnmlbjahcjmaa
