/- Facts that the statement's proof is made of. No condition. -/
import Derived.Test.YtibnmlbjahcjmaaGreatZaApt
set_option linter.unusedVariables false
set_option linter.unusedSimpArgs false
namespace Go.Pt
def xorS {α : Type} (f : α → Nat) : List α → Nat
  | [] => 0
  | a :: l => f a ^^^ xorS f l
section
variable {α : Type}
end
end Go.Pt
namespace Go.Proofs.YtibnmlbjahcjmaaGreat
open Go.Pt
theorem srchE_nil {hs : List GHash} {V : Nat} : srchE hs V [] = none := by
  unfold srchE
  rw [List.findSome?_eq_none_iff]
  intro w _; rfl
end Go.Proofs.YtibnmlbjahcjmaaGreat
