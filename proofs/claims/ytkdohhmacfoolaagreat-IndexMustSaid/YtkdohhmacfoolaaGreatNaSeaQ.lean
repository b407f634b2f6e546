/- Facts that the statement's proof is made of. No condition. -/
import Derived.Test.YtkdohhmacfoolaaGreatNaSeaP
set_option linter.unusedVariables false
set_option linter.unusedSimpArgs false
set_option maxRecDepth 20000
set_option maxHeartbeats 1000000
namespace Go.Proofs.YtkdohhmacfoolaaGreat
open Go Go.AM Go.Pl Go.Pt
section
variable {hs : List GHash} {R V : Nat} (hR1 : 1 ≤ R) (hR : R ≤ 8) (hV1 : 1 ≤ V) (hV : V ≤ 61) (hl : hs.length = R) (hh : ∀ h, h ∈ hs → HOK h) {x : Nat} (hx : x < 18446744073709551616)
include hR hV hx
include hl hh
include hR1 hV1
end
section
variable {g : GGraph} (h : GOK g) (hw : ∀ x, x ∈ g.Hashes → HOK x)
include h hw
end
def fnd (P : GEdge → Bool) : List GEdge → Nat → Option Nat
  | [], _ => none
  | a :: l, i => if P a then some i else fnd P l (i + 1)
def fEnds (u v : Int) (e : GEdge) : Bool := ((e.U == u) && (e.V == v)) || ((e.U == v) && (e.V == u))
section
variable {g : GGraph} (hE : g.Edges.length < 1000000000) (hH : g.Hashes.length < 1000000000) (hw : ∀ x, x ∈ g.Hashes → HOK x)
include hE hH hw
end
end Go.Proofs.YtkdohhmacfoolaaGreat
