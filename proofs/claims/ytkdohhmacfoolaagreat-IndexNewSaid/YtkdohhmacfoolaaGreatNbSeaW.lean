/- Facts that the statement's proof is made of. No condition. -/
import Derived.Test.YtkdohhmacfoolaaGreatNbSeaR
set_option linter.unusedVariables false
set_option linter.unusedSimpArgs false
set_option maxRecDepth 20000
set_option maxHeartbeats 1000000
namespace Go.Proofs.YtkdohhmacfoolaaGreat
open Go Go.AM Go.Pl Go.Pt
def HW (g : aJ) : Prop := ∀ x, x ∈ g.Hashes → HOK x
end Go.Proofs.YtkdohhmacfoolaaGreat
set_option linter.unusedVariables false
set_option linter.unusedSimpArgs false
set_option maxRecDepth 20000
set_option maxHeartbeats 1000000
namespace Go.Proofs.YtkdohhmacfoolaaGreat
open Go Go.AM Go.Pl Go.Pt
def acc (g : aJ) (t : Int) (vs : List Nat) : List Nat := (List.range ((hsh g t).length * lvl g.Config.N)).map fun k => bGo (fun v : Nat => aYu ((hsh g t).getD (k / lvl g.Config.N) ⟨0, 0⟩) (k % lvl g.Config.N) ((aRk (pf g t) (v : Int) g.Edges).map nmE)) vs
def lst (g : aJ) (t : Int) (i : Nat) : List Nat := (List.range i).filter fun v : Nat => decide (pf g t (v : Int) = v)
theorem wfu {n : Int} (h : (Lit.int .u64 n).wf = true) : 0 ≤ n := by
  have h0 : (decide (IntKind.u64.min ≤ n) && decide (n ≤ IntKind.u64.max)) = true := h
  rw [Bool.and_eq_true, decide_eq_true_eq] at h0
  exact h0.1
abbrev WG (g : aJ) (P1 P2 P3 : Prop) : Prop := P1 ∧ ((∀ y, y ∈ g.Hashes → ((Lit.int .u64 y.A).wf = true) ∧ ((Lit.int .u64 y.B).wf = true)) ∧ P2) ∧ P3
theorem WG.hw {g : aJ} {P1 P2 P3 : Prop} (w : WG g P1 P2 P3) : HW g := fun x hx => ⟨wfu (w.2.1.1 x hx).1, wfu (w.2.1.1 x hx).2⟩
end Go.Proofs.YtkdohhmacfoolaaGreat
