/- Facts that the statement's proof is made of. No condition. -/
import Derived.Test.YtkdohhmacfoolaaGreatNdSeaQ
set_option linter.unusedVariables false
set_option linter.unusedSimpArgs false
set_option maxRecDepth 20000
set_option maxHeartbeats 1000000
namespace Go.Proofs.YtkdohhmacfoolaaGreat
open Go Go.AM Go.Pl Go.Pt
section
variable {g : aG} (hE : g.Edges.length < 1000000000) (h : GOK g)
include hE h
end
section
variable {hs : List bS} {V : Nat} {names : List Nat} (hh : ∀ h, h ∈ hs → HOK h) (hn : ∀ y, y ∈ names → y < 18446744073709551616) (hnl : names.length < 1000000000) (hV : V ≤ 61) (hR : hs.length ≤ 8)
include hh hn hnl
include hV hR
end
section
variable {g : aG} (hE : g.Edges.length < 1000000000) (h : GOK g) (hw : ∀ x, x ∈ g.Hashes → HOK x) {t v : Int} (h0 : 0 ≤ t) (ht : t < g.Config.L) (v0 : 0 ≤ v) (vn : v < g.Config.N)
include hE h hw h0 ht v0 vn
end
end Go.Proofs.YtkdohhmacfoolaaGreat
set_option linter.unusedVariables false
set_option linter.unusedSimpArgs false
set_option maxRecDepth 20000
set_option maxHeartbeats 1000000
namespace Go.Proofs.YtkdohhmacfoolaaGreat
open Go Go.AM Go.Pl Go.Pt
def HW (g : aG) : Prop := ∀ x, x ∈ g.Hashes → HOK x
theorem bE3 {l : List aC} {e : aC} (h : e ∈ l) : ∃ k, fnd (gF e.U e.V) l 0 = some k := by
 cases q : fnd (gF e.U e.V) l 0 with
 | some k => exact ⟨k, rfl⟩
 | none =>
  have := aG7 q
  rw [List.find?_eq_none] at this
  have := this e h
  unfold gF at this
  simp at this
end Go.Proofs.YtkdohhmacfoolaaGreat
set_option linter.unusedVariables false
set_option linter.unusedSimpArgs false
set_option maxRecDepth 20000
set_option maxHeartbeats 1000000
namespace Go.Proofs.YtkdohhmacfoolaaGreat
open Go Go.AM Go.Pl Go.Pt
def acc (g : aG) (t : Int) (vs : List Nat) : List Nat := (List.range ((hsh g t).length * lvl g.Config.N)).map fun k => bJe (fun v : Nat => vF ((hsh g t).getD (k / lvl g.Config.N) ⟨0, 0⟩) (k % lvl g.Config.N) ((aD8 (pf g t) (v : Int) g.Edges).map nmE)) vs
def lst (g : aG) (t : Int) (i : Nat) : List Nat := (List.range i).filter fun v : Nat => decide (pf g t (v : Int) = v)
theorem wfu {n : Int} (h : (Lit.int .u64 n).wf = true) : 0 ≤ n := by
 have h0 : (decide (IntKind.u64.min ≤ n) && decide (n ≤ IntKind.u64.max)) = true := h
 rw [Bool.and_eq_true, decide_eq_true_eq] at h0
 exact h0.1
abbrev WG (g : aG) (P1 P2 P3 : Prop) : Prop := P1 ∧ ((∀ y, y ∈ g.Hashes → ((Lit.int .u64 y.A).wf = true) ∧ ((Lit.int .u64 y.B).wf = true)) ∧ P2) ∧ P3
theorem WG.hw {g : aG} {P1 P2 P3 : Prop} (w : WG g P1 P2 P3) : HW g := fun x hx => ⟨wfu (w.2.1.1 x hx).1, wfu (w.2.1.1 x hx).2⟩
end Go.Proofs.YtkdohhmacfoolaaGreat
