/- Facts that the statement's proof is made of. No condition. -/
import GoSem.ClaimOpenFrom
import Derived.WalkKit
namespace Go.AM
open Go
theorem aIf : ∀ (w r : List Char), Char.ofNat 32 ∉ w → wordsSigns (w ++ Char.ofNat 32 :: r) = w :: wordsSigns r
  | [], r, _ => by show wordsSigns (Char.ofNat 32 :: r) = _; rw [wordsSigns.eq_2]
  | c :: w, r, h => by
    have hc : ¬ c = Char.ofNat 32 := fun e => h (by simp [e])
    have ih := aIf w r (fun m => h (List.mem_cons_of_mem _ m))
    show wordsSigns (c :: (w ++ Char.ofNat 32 :: r)) = _
    rw [wordsSigns.eq_3 _ _ (fun e => hc e), ih]
def sG : List Char := "cut".toList
theorem aHo (R : List (List Char)) : stripLifts liftWords (sG :: R) = ([], sG :: R) := by kernel_rfl
theorem aZp {s d : List Char} (h : Char.ofNat 32 ∉ s) (hs : isSumSigns s = true) :
    behindMainWord (wordsSigns ("harness".toList ++ Char.ofNat 32 :: (s ++ Char.ofNat 32 :: (sG ++ Char.ofNat 32 :: d)))) = sG :: wordsSigns d := by
  rw [aIf _ _ (by decide +kernel), aIf _ _ h, aIf _ _ (by decide +kernel)]
  generalize wordsSigns d = R
  have e : (("harness".toList == "harness".toList || "harness".toList == "ownmain".toList) && isSumSigns s) = true := by rw [hs]; decide +kernel
  exact if_pos e
variable {P : Program} {R : List (List Char)} (h : behindMainWord (wordsSigns P.initOrder.toList) = sG :: R)
include h
theorem aI9 : P.headLifts = [] := by
  unfold Program.headLifts
  rw [h, aHo]
  kernel_rfl
theorem aH8 : P.liftsFinal = false := by
  unfold Program.liftsFinal
  rw [h, aI9 h]
  kernel_rfl
theorem aYh : P.make = some .cut := by
  unfold Program.make
  rw [h]
  kernel_rfl
theorem aK0 (h1 : P.laysLater = false) (h2 : P.bearsReflect = false) (h3 : P.doorFits [] = true) : P.mayEnter = true := by
  unfold Program.mayEnter
  rw [h]
  simp only [aHo, h1, h2, h3]
  kernel_rfl
end Go.AM
