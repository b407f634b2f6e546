/- Facts. No condition. -/
import Derived.Test.YtkdohhmacfoolaaGreatDoorOaGA2
set_option linter.unusedVariables false
set_option linter.unusedSimpArgs false
set_option maxRecDepth 20000
set_option maxHeartbeats 4000000
namespace Go.Proofs.YtkdohhmacfoolaaGreatDoor
open Go.Proofs.Tryz Go Go.AM
attribute [local irreducible] aZ
@[go_sem] theorem aZ5(i o:Nat):aJ prog 61 (.adr i o) 0=some (.adr i (o+0)):=by kernel_rfl
@[go_sem] theorem aZb(i o:Nat):aJ prog 61 (.adr i o) 1=some (.adr i (o+1)):=by kernel_rfl
@[go_sem] theorem bIo(H:aG)(x:AV)(xs:List AV):bP prog H 3 (.ptr (x::xs))=some x:=by kernel_rfl
def mX(e_0:aC)(v_1:Int):Option (Int):=
 (bif (e_0.U==v_1) then
  some e_0.V
 else
  some e_0.U)
theorem aB7{e_0:aC}{v_1:Int}{r:Int}(hm:mX e_0 v_1=some r):bH prog 222 [.agg [vi e_0.U,vi e_0.V,vi e_0.Tier],vi v_1] (vi r):=by
 refine bd 13 func222 ?_;refine W ?_;refine cm hm (fun hm=>?_) fun hm=>?_
 · exact E
 exact E
instance:Ct prog 222 (K2 prog xB vi vi 222 mX):=⟨fun hm=>aB7 hm⟩
attribute [local semireducible] aZ
end Go.Proofs.YtkdohhmacfoolaaGreatDoor
