/- Facts that the statement's proof is made of. No condition. -/
import Derived.Test.YtibnmlbjahcjmaaQvRuQ
set_option linter.unusedVariables false
set_option linter.unusedSimpArgs false
set_option maxRecDepth 20000
set_option maxHeartbeats 1000000
namespace Go.Proofs.Ytibnmlbjahcjmaa
open Go Go.AM Go.Pl Go.Pt
theorem clG_0 (g : GGraph) : clG g 0 = g.Config.N.toNat := by
  unfold clG
  have : fo g.Edges 0 = [] := List.eq_nil_iff_forall_not_mem.2 fun e he => by have := mem_fo_iff.1 he; omega
  rw [this]
  exact cl_nil _
theorem clG_mono {g : GGraph} (h : GOK g) (t : Int) : clG g (t + 1) ≤ clG g t := by
  have := h.n1
  exact cl_sub_le (en_sub fun e he => by have := mem_fo_iff.1 he; exact mem_fo_iff.2 ⟨this.1, this.2.1, by omega⟩) ((fo_Rg h.rg (t + 1)).inR (by omega))
end Go.Proofs.Ytibnmlbjahcjmaa
