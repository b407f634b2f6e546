/- Facts. No condition. -/
import Derived.Test.YtkdohhmacfoolaaGreatDoorOaDsh
set_option linter.unusedVariables false
namespace Go.Proofs.YtkdohhmacfoolaaGreatDoor
open Go.Proofs.Tryz Go Go.AM
def aLb(i:Int):Option ByteArray:=bif decide (0≤i)&&decide (i<100) then some ⟨(Lib.decDigits i.toNat).toArray⟩ else none
theorem aV9{i:Int}{r:ByteArray}(hm:aLb i=some r):bH prog 69 [.v (.int .i64 i)] (.v (.string r)):=by
 unfold aLb at hm
 cases h:(decide (0≤i)&&decide (i<100)) with
 |false=>rw [h] at hm;cases hm
 |true=>
  rw [h] at hm;cases hm;simp only [Bool.and_eq_true,decide_eq_true_eq] at h;obtain ⟨n,rfl⟩:=Int.eq_ofNat_of_zero_le h.1;exact bH.of_val fun w=>Tryz.strconv_Itoa_small n om w
instance:Ct prog 69 (K1 prog vi vs 69 aLb):=⟨fun hm=>aV9 hm⟩
end Go.Proofs.YtkdohhmacfoolaaGreatDoor
