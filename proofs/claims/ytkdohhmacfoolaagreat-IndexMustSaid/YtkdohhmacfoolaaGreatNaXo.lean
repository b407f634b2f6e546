/- Facts that the statement's proof is made of. No condition. -/
import Derived.Test.YtkdohhmacfoolaaGreatNaSeaM
import Derived.Test.YtkdohhmacfoolaaGreatNaApt
set_option linter.unusedVariables false
set_option linter.unusedSimpArgs false
set_option maxRecDepth 20000
set_option maxHeartbeats 1000000
namespace Go.Proofs.YtkdohhmacfoolaaGreat
open Go Go.AM Go.Pl Go.Pt
def HOK (h : GHash) : Prop := 0 ≤ h.A ∧ 0 ≤ h.B
end Go.Proofs.YtkdohhmacfoolaaGreat
set_option linter.unusedVariables false
set_option linter.unusedSimpArgs false
namespace Go.Pt
def xorS {α : Type} (f : α → Nat) : List α → Nat
  | [] => 0
  | a :: l => f a ^^^ xorS f l
section
variable {α : Type}
end
end Go.Pt
namespace Go.Proofs.YtkdohhmacfoolaaGreat
open Go.Pt
theorem srchE_nil {hs : List GHash} {V : Nat} : srchE hs V [] = none := by
  unfold srchE
  rw [List.findSome?_eq_none_iff]
  intro w _; rfl
end Go.Proofs.YtkdohhmacfoolaaGreat
