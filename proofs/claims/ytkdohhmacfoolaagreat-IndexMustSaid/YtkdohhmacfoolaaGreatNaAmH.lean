/- Facts that the statement's proof is made of. No condition. -/
import GoSem.ClaimOpenFrom
import Derived.WalkKit
namespace Go.AM
open Go
theorem ws_app : ∀ (w r : List Char), Char.ofNat 32 ∉ w → wordsSigns (w ++ Char.ofNat 32 :: r) = w :: wordsSigns r
  | [], r, _ => by show wordsSigns (Char.ofNat 32 :: r) = _; rw [wordsSigns.eq_2]
  | c :: w, r, h => by
    have hc : ¬ c = Char.ofNat 32 := fun e => h (by simp [e])
    have ih := ws_app w r (fun m => h (List.mem_cons_of_mem _ m))
    show wordsSigns (c :: (w ++ Char.ofNat 32 :: r)) = _
    rw [wordsSigns.eq_3 _ _ (fun e => hc e), ih]
def cutSigns : List Char := "cut".toList
theorem strip_cut (R : List (List Char)) : stripLifts liftWords (cutSigns :: R) = ([], cutSigns :: R) := by kernel_rfl
theorem bmw_of {s d : List Char} (h : Char.ofNat 32 ∉ s) (hs : isSumSigns s = true) :
    behindMainWord (wordsSigns ("harness".toList ++ Char.ofNat 32 :: (s ++ Char.ofNat 32 :: (cutSigns ++ Char.ofNat 32 :: d)))) = cutSigns :: wordsSigns d := by
  rw [ws_app _ _ (by decide +kernel), ws_app _ _ h, ws_app _ _ (by decide +kernel)]
  generalize wordsSigns d = R
  have e : (("harness".toList == "harness".toList || "harness".toList == "ownmain".toList) && isSumSigns s) = true := by rw [hs]; decide +kernel
  exact if_pos e
variable {P : Program} {R : List (List Char)} (h : behindMainWord (wordsSigns P.initOrder.toList) = cutSigns :: R)
include h
theorem headLifts_of : P.headLifts = [] := by
  unfold Program.headLifts
  rw [h, strip_cut]
  kernel_rfl
theorem liftsFinal_of : P.liftsFinal = false := by
  unfold Program.liftsFinal
  rw [h, headLifts_of h]
  kernel_rfl
theorem make_of : P.make = some .cut := by
  unfold Program.make
  rw [h]
  kernel_rfl
theorem mayEnter_of (h1 : P.laysLater = false) (h2 : P.bearsReflect = false) (h3 : P.doorFits [] = true) : P.mayEnter = true := by
  unfold Program.mayEnter
  rw [h]
  simp only [strip_cut, h1, h2, h3]
  kernel_rfl
end Go.AM
