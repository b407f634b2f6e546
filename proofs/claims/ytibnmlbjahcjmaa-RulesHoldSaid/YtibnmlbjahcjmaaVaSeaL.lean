/- Facts that the statement's proof is made of. No condition. -/
import Derived.Test.YtibnmlbjahcjmaaVaSeaR
set_option linter.unusedVariables false
set_option linter.unusedSimpArgs false
set_option maxRecDepth 20000
set_option maxHeartbeats 1000000
namespace Go.Proofs.Ytibnmlbjahcjmaa
open Go Go.AM Go.Pl Go.Pt
def HW (g : GGraph) : Prop := ∀ x, x ∈ g.Hashes → HOK x
theorem fnd_mem {l : List GEdge} {e : GEdge} (h : e ∈ l) : ∃ k, fnd (fEnds e.U e.V) l 0 = some k := by
  cases q : fnd (fEnds e.U e.V) l 0 with
  | some k => exact ⟨k, rfl⟩
  | none =>
    have := fnd_none q
    rw [List.find?_eq_none] at this
    have := this e h
    unfold fEnds at this
    simp at this
end Go.Proofs.Ytibnmlbjahcjmaa
