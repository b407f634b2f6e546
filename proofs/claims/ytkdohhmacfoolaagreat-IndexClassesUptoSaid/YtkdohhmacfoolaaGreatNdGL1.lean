/- Facts that the statement's proof is made of. No condition. -/
import Derived.Test.YtkdohhmacfoolaaGreatNdGA2
import Derived.Test.YtkdohhmacfoolaaGreatNdAmF
import Derived.Test.YtkdohhmacfoolaaGreatNdPl
set_option linter.unusedVariables false
set_option linter.unusedSimpArgs false
set_option maxRecDepth 20000
set_option maxHeartbeats 4000000
namespace Go.Proofs.YtkdohhmacfoolaaGreat
open Go Go.AM
theorem aT7 (i o : Nat) : aI Tryz.prog 102 (.adr i o) 0 = some (.adr i (o + 0)) := by kernel_rfl
attribute [go_sem] aT7
theorem aSu (i o : Nat) : aI Tryz.prog 102 (.adr i o) 1 = some (.adr i (o + 1)) := by kernel_rfl
attribute [go_sem] aSu
theorem bJ5 (H : aH) (x : AV) (xs : List AV) : bP Tryz.prog H 3 (.ptr (x :: xs)) = some x := by kernel_rfl
attribute [go_sem] bJ5
def pO (e_0 : aC) (v_1 : Int) : Option (Int) :=
 (bif (e_0.U == v_1) then
  some e_0.V
 else
  some e_0.U)
theorem aFb {e_0 : aC} {v_1 : Int} {r : Int} (hm : pO e_0 v_1 = some r) : aZ Tryz.prog 192 [.agg [vi e_0.U, vi e_0.V, vi e_0.Tier], vi v_1] (vi r) := by
 refine bd 13 Tryz.func192 ?_
 refine W ?_
 refine cm hm (fun hm => ?_) fun hm => ?_
 · exact E
 exact E
end Go.Proofs.YtkdohhmacfoolaaGreat
