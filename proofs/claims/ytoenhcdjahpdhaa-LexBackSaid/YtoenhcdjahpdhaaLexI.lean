/- strings.IndexByte as a plain function. -/
import Derived.Test.YtoenhcdjahpdhaaAmD
import Derived.Test.YtoenhcdjahpdhaaLexShelf
set_option linter.unusedVariables false
namespace Go.Proofs.Ytoenhcdjahpdhaa
open Go Go.AM
def indexByte_m (s : ByteArray) (c : Int) : Option Int := some (Lib.indexByte s.data.toList c.toNat.toUInt8)
theorem indexByte_c {s : ByteArray} {c : Int} {r : Int} (hm : indexByte_m s c = some r) : PureC Try.prog 26 [.v (.string s), .v (.int .u8 c)] (.v (.int .i64 r)) := by
  cases hm
  exact PureC.of_val fun w => Any.strings_IndexByte Try.lays137 s c w
end Go.Proofs.Ytoenhcdjahpdhaa
