/- Facts that the statement's proof is made of. No condition. -/
import Derived.Test.YtkdohhmacfoolaaGreatNcGI2
import Derived.Test.YtkdohhmacfoolaaGreatNcPl
set_option linter.unusedVariables false
set_option linter.unusedSimpArgs false
set_option maxRecDepth 20000
set_option maxHeartbeats 4000000
namespace Go.Proofs.YtkdohhmacfoolaaGreat
open Go Go.AM
structure aR where
 List : List Int
 At : Int
deriving DecidableEq
def aBo (e : aR) : List AV := [.sl (e.List.flatMap (ci .u64)) e.List.length false, .v (.int .i64 e.At)]
theorem xU (e : aR) (r : List AV) : aBo e ++ r = .sl (e.List.flatMap (ci .u64)) e.List.length false :: .v (.int .i64 e.At) :: r := rfl
attribute [go_sem] xU
def zG (w_0 : aR) : Option (Bool) :=
 some ((decide (0 ≤ w_0.At)) && (decide (w_0.At ≤ (w_0.List.length : Int))))
def aMh (rec1 : aR → aR → Int → Option (Int × aR × Int)) (w_1 : aR) (t3 : aR) (aEg : Int) : Option (Int × aR × Int) :=
 (bif (decide (aEg < (w_1.List.length : Int))) then
  ((idx w_1.List aEg).bind fun x4 =>
  (bif ((Int.tmod x4 2305843009213693952) != 2305843009213693951) then
   some ((Int.tmod x4 2305843009213693952), (aR.mk w_1.List (IntKind.i64.wrap (aEg + 1))), 0)
  else
   rec1 w_1 t3 (IntKind.i64.wrap (aEg + 1))))
 else
  some (0, w_1, 5))
def aDb : Nat → aR → aR → Int → Option (Int × aR × Int)
 | 0 => fun _ _ _ => none
 | n + 1 => aMh (aDb n)
def aPh (w_0 : aR) : Option (Int × aR × Int) :=
 ((zG w_0).bind fun r2 =>
 (bif (!r2) then
  some (0, w_0, 1)
 else
  aDb bK w_0 (aR.mk [] 0) w_0.At))
def aJy (rec2 : Int → aR → List Int → aR → List bQ → Int → Option ((List bQ) × aR × Int)) (n_1 : Int) (t5 : aR) (aK5 : List Int) (v_8 : aR) (bAa : List bQ) (bG0 : Int) : Option ((List bQ) × aR × Int) :=
 (bif (decide (bG0 < n_1)) then
  ((idx aK5 (IntKind.i64.wrap (2 * bG0))).bind fun x10 =>
  ((idx aK5 (IntKind.i64.wrap ((IntKind.i64.wrap (2 * bG0)) + 1))).bind fun x12 =>
  ((app bAa [(bQ.mk x10 x12)]).bind fun l14 =>
  rec2 n_1 t5 aK5 v_8 l14 (IntKind.i64.wrap (bG0 + 1)))))
 else
  some (bAa, v_8, 0))
def aC5 : Nat → Int → aR → List Int → aR → List bQ → Int → Option ((List bQ) × aR × Int)
 | 0 => fun _ _ _ _ _ _ => none
 | n + 1 => aJy (aC5 n)
def aL9 (rec1 : Int → aR → aR → List Int → aR → Option ((List bQ) × aR × Int)) (n_1 : Int) (w_2 : aR) (t5 : aR) (aK5 : List Int) (v_8 : aR) : Option ((List bQ) × aR × Int) :=
 (bif (decide ((aK5.length : Int) < (IntKind.i64.wrap (2 * n_1)))) then
  ((aPh v_8).bind fun ⟨r4, r5, r6⟩ =>
  (bif (r6 != 0) then
   some ([], w_2, r6)
  else
   ((app aK5 [r4]).bind fun l8 =>
   rec1 n_1 w_2 t5 l8 r5)))
 else
  aC5 bK n_1 t5 aK5 v_8 [] 0)
def aBx : Nat → Int → aR → aR → List Int → aR → Option ((List bQ) × aR × Int)
 | 0 => fun _ _ _ _ _ => none
 | n + 1 => aL9 (aBx n)
def aD6 (w_0 : aR) (n_1 : Int) : Option ((List bQ) × aR × Int) :=
 ((zG w_0).bind fun r2 =>
 (bif (((!r2) || (decide (n_1 < 0))) || (decide (128 < n_1))) then
  some ([], w_0, 1)
 else
  aBx bK n_1 w_0 (aR.mk [] 0) [] w_0))
end Go.Proofs.YtkdohhmacfoolaaGreat
