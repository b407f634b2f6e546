/- Facts that the statement's proof is made of. No condition. -/
import Derived.Test.YtkdohhmacfoolaaGreatNdGI2
import Derived.Test.YtkdohhmacfoolaaGreatNdPl
set_option linter.unusedVariables false
set_option linter.unusedSimpArgs false
set_option maxRecDepth 20000
set_option maxHeartbeats 4000000
namespace Go.Proofs.YtkdohhmacfoolaaGreat
open Go Go.AM
structure aO where
 List : List Int
 At : Int
deriving DecidableEq
def aCc (e : aO) : List AV := [.sl (e.List.flatMap (ci .u64)) e.List.length false, .v (.int .i64 e.At)]
theorem xS (e : aO) (r : List AV) : aCc e ++ r = .sl (e.List.flatMap (ci .u64)) e.List.length false :: .v (.int .i64 e.At) :: r := rfl
attribute [go_sem] xS
def zB (w_0 : aO) : Option (Bool) :=
 some ((decide (0 ≤ w_0.At)) && (decide (w_0.At ≤ (w_0.List.length : Int))))
def aM9 (rec1 : aO → aO → Int → Option (Int × aO × Int)) (w_1 : aO) (t3 : aO) (aDt : Int) : Option (Int × aO × Int) :=
 (bif (decide (aDt < (w_1.List.length : Int))) then
  ((idx w_1.List aDt).bind fun x4 =>
  (bif ((Int.tmod x4 2305843009213693952) != 2305843009213693951) then
   some ((Int.tmod x4 2305843009213693952), (aO.mk w_1.List (IntKind.i64.wrap (aDt + 1))), 0)
  else
   rec1 w_1 t3 (IntKind.i64.wrap (aDt + 1))))
 else
  some (0, w_1, 5))
def aDb : Nat → aO → aO → Int → Option (Int × aO × Int)
 | 0 => fun _ _ _ => none
 | n + 1 => aM9 (aDb n)
def aPv (w_0 : aO) : Option (Int × aO × Int) :=
 ((zB w_0).bind fun r2 =>
 (bif (!r2) then
  some (0, w_0, 1)
 else
  aDb bK w_0 (aO.mk [] 0) w_0.At))
def aL4 (rec2 : Int → aO → List Int → aO → List bS → Int → Option ((List bS) × aO × Int)) (n_1 : Int) (t5 : aO) (aK2 : List Int) (v_8 : aO) (bDe : List bS) (bF9 : Int) : Option ((List bS) × aO × Int) :=
 (bif (decide (bF9 < n_1)) then
  ((idx aK2 (IntKind.i64.wrap (2 * bF9))).bind fun x10 =>
  ((idx aK2 (IntKind.i64.wrap ((IntKind.i64.wrap (2 * bF9)) + 1))).bind fun x12 =>
  ((app bDe [(bS.mk x10 x12)]).bind fun l14 =>
  rec2 n_1 t5 aK2 v_8 l14 (IntKind.i64.wrap (bF9 + 1)))))
 else
  some (bDe, v_8, 0))
def aC0 : Nat → Int → aO → List Int → aO → List bS → Int → Option ((List bS) × aO × Int)
 | 0 => fun _ _ _ _ _ _ => none
 | n + 1 => aL4 (aC0 n)
def aK6 (rec1 : Int → aO → aO → List Int → aO → Option ((List bS) × aO × Int)) (n_1 : Int) (w_2 : aO) (t5 : aO) (aK2 : List Int) (v_8 : aO) : Option ((List bS) × aO × Int) :=
 (bif (decide ((aK2.length : Int) < (IntKind.i64.wrap (2 * n_1)))) then
  ((aPv v_8).bind fun ⟨r4, r5, r6⟩ =>
  (bif (r6 != 0) then
   some ([], w_2, r6)
  else
   ((app aK2 [r4]).bind fun l8 =>
   rec1 n_1 w_2 t5 l8 r5)))
 else
  aC0 bK n_1 t5 aK2 v_8 [] 0)
def aBn : Nat → Int → aO → aO → List Int → aO → Option ((List bS) × aO × Int)
 | 0 => fun _ _ _ _ _ => none
 | n + 1 => aK6 (aBn n)
def aDm (w_0 : aO) (n_1 : Int) : Option ((List bS) × aO × Int) :=
 ((zB w_0).bind fun r2 =>
 (bif (((!r2) || (decide (n_1 < 0))) || (decide (128 < n_1))) then
  some ([], w_0, 1)
 else
  aBn bK n_1 w_0 (aO.mk [] 0) [] w_0))
end Go.Proofs.YtkdohhmacfoolaaGreat
