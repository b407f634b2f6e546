/- Facts that the statement's proof is made of. No condition. -/
import Derived.Test.YtibnmlbjahcjmaaVaGB1
set_option linter.unusedVariables false
set_option linter.unusedSimpArgs false
set_option maxRecDepth 20000
set_option maxHeartbeats 4000000
namespace Go.Proofs.Ytibnmlbjahcjmaa
open Go Go.AM
def ref04Levels_J1 (bits_3 : Int) : Option (Int) :=
 some (IntKind.i64.wrap ((IntKind.i64.wrap (2 * bits_3)) + 2))
def ref04Levels_B1 (rec1 : Int → Int → Int → Option (Int)) (n_0 : Int) (bits_3 : Int) (many_4 : Int) : Option (Int) :=
 (bif ((decide (many_4 < n_0)) && (decide (bits_3 < 62))) then
  rec1 n_0 (IntKind.i64.wrap (bits_3 + 1)) (IntKind.i64.wrap (2 * many_4))
 else
  (bif (decide (many_4 < n_0)) then
   ref04Levels_J1 63
  else
   ref04Levels_J1 bits_3))
def ref04Levels_L1 : Nat → Int → Int → Int → Option (Int)
 | 0 => fun _ _ _ => none
 | n + 1 => ref04Levels_B1 (ref04Levels_L1 n)
def ref04Levels_m (n_0 : Int) : Option (Int) :=
 (bif (decide (n_0 < 1)) then
  some 0
 else
  ref04Levels_L1 FUEL n_0 0 1)
end Go.Proofs.Ytibnmlbjahcjmaa
