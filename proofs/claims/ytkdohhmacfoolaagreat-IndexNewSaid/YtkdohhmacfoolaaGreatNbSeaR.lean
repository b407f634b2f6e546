/- Facts that the statement's proof is made of. No condition. -/
import Derived.Test.YtkdohhmacfoolaaGreatNbSeaP
set_option linter.unusedVariables false
set_option linter.unusedSimpArgs false
set_option maxRecDepth 20000
set_option maxHeartbeats 1000000
namespace Go.Proofs.YtkdohhmacfoolaaGreat
open Go Go.AM Go.Pl Go.Pt
section
variable {hs : List cC} {R V : Nat} (hR1 : 1 ≤ R) (hR : R ≤ 8) (hV1 : 1 ≤ V) (hV : V ≤ 61) (hl : hs.length = R) (hh : ∀ h, h ∈ hs → HOK h) {x : Nat} (hx : x < 18446744073709551616)
include hR hV hx
include hl hh
include hR1 hV1
end
section
variable {g : aJ} (h : GOK g) (hw : ∀ x, x ∈ g.Hashes → HOK x)
include h hw
end
def fnd (P : aC → Bool) : List aC → Nat → Option Nat
  | [], _ => none
  | a :: l, i => if P a then some i else fnd P l (i + 1)
def aP6 (u v : Int) (e : aC) : Bool := ((e.U == u) && (e.V == v)) || ((e.U == v) && (e.V == u))
section
variable {g : aJ} (hE : g.Edges.length < 1000000000) (hH : g.Hashes.length < 1000000000) (hw : ∀ x, x ∈ g.Hashes → HOK x)
include hE hH hw
end
end Go.Proofs.YtkdohhmacfoolaaGreat
set_option linter.unusedVariables false
set_option linter.unusedSimpArgs false
set_option maxRecDepth 20000
set_option maxHeartbeats 1000000
namespace Go.Proofs.YtkdohhmacfoolaaGreat
open Go Go.AM Go.Pl Go.Pt
section
variable {g : aJ} (hE : g.Edges.length < 1000000000) (h : GOK g)
include hE h
end
section
variable {hs : List cC} {V : Nat} {names : List Nat} (hh : ∀ h, h ∈ hs → HOK h) (hn : ∀ y, y ∈ names → y < 18446744073709551616) (hnl : names.length < 1000000000) (hV : V ≤ 61) (hR : hs.length ≤ 8)
include hh hn hnl
include hV hR
end
section
variable {g : aJ} (hE : g.Edges.length < 1000000000) (h : GOK g) (hw : ∀ x, x ∈ g.Hashes → HOK x) {t v : Int} (h0 : 0 ≤ t) (ht : t < g.Config.L) (v0 : 0 ≤ v) (vn : v < g.Config.N)
include hE h hw h0 ht v0 vn
end
theorem aUh (x y : cC) : ((x.A == y.A) && (x.B == y.B)) = decide (x = y) := by
  cases x with | mk a b => cases y with | mk d e =>
  by_cases h1 : a = d <;> by_cases h2 : b = e <;> simp [h1, h2]
theorem aDm (a b : List cC) (hab : a.length = b.length) (hl : a.length < 1000000000) : ∀ (m i : Nat), a.length < i + m → i ≤ a.length → lG m a b (i : Int) = some (decide (a.drop i = b.drop i))
  | 0, i, h, hi => by omega
  | m + 1, i, h, hi => by
    show nC (lG m) a b _ = _
    unfold nC
    by_cases c : i < a.length
    · have c' : i < b.length := by omega
      rw [bt (aKt c), fJ c, aB, fJ c', aB, wr1 i (by omega), gF c, gF c', aUh]
      by_cases q : a[i] = b[i]
      · rw [bf (by simp [q]), aDm a b hab hl m (i + 1) (by omega) c]; simp [q, -List.getElem_cons_drop]
      · rw [bt (by simp [q])]; simp [q, -List.getElem_cons_drop]
    · rw [bf (aJp c), List.drop_eq_nil_of_le (by omega), List.drop_eq_nil_of_le (by omega)]; rfl
theorem aI1 (a b : List cC) (hl : a.length < 1000000000) : pI a b = some (decide (a = b)) := by
  have hFU := FU
  unfold pI
  by_cases h : a.length = b.length
  · rw [bf (by simp [h]), show (0 : Int) = ((0 : Nat) : Int) from rfl, aDm a b h hl bY 0 (by omega) (Nat.zero_le _)]; rfl
  · rw [bt (by simp; omega)]
    have : ¬ a = b := fun e => h (by rw [e])
    simp [this]
end Go.Proofs.YtkdohhmacfoolaaGreat
