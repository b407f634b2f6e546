/- Facts that the statement's proof is made of. No condition. -/
import Derived.Test.YtkdohhmacfoolaaGreatNaGA2
set_option linter.unusedVariables false
set_option linter.unusedSimpArgs false
set_option maxRecDepth 20000
set_option maxHeartbeats 1000000
namespace Go.Proofs.YtkdohhmacfoolaaGreat
open Go Go.AM Go.Pl Go.Pt
theorem lt_t {i m : Nat} (h : i < m) : decide (((i : Nat) : Int) < ((m : Nat) : Int)) = true := by simp; omega
theorem lt_f {i m : Nat} (h : ¬ i < m) : decide (((i : Nat) : Int) < ((m : Nat) : Int)) = false := by simp; omega
section
variable {α : Type} {d : α} {o : Option α}
end
theorem FU : FUEL = 1000000000000 := rfl
def okE (n : Int) (e : GEdge) : Bool := decide (0 ≤ e.U ∧ e.U < e.V ∧ e.V < n ∧ 0 ≤ e.Tier ∧ e.Tier ≤ 16)
def lessE (a b : GEdge) : Bool := decide (a.U < b.U ∨ a.U = b.U ∧ a.V < b.V)
def trL (n : Int) : Option GEdge → List GEdge → Bool
  | _, [] => true
  | none, e :: l => okE n e && trL n (some e) l
  | some q, e :: l => okE n e && (lessE q e && trL n (some e) l)
theorem okE_iff {n : Int} {e : GEdge} : okE n e = true ↔ 0 ≤ e.U ∧ e.U < e.V ∧ e.V < n ∧ 0 ≤ e.Tier ∧ e.Tier ≤ 16 := by unfold okE; exact decide_eq_true_iff
def stE (n : Int) (p : Option GEdge) (e : GEdge) : Bool := okE n e && (match p with | none => true | some q => lessE q e)
theorem trL_cons (n : Int) (p : Option GEdge) (e : GEdge) (l : List GEdge) : trL n p (e :: l) = (stE n p e && trL n (some e) l) := by
  cases p <;> simp [trL, stE, Bool.and_assoc]
def trB (n : Int) (l : List GEdge) : Bool := decide (0 ≤ n ∧ n ≤ 1024) && trL n none l
def inT (t : Int) (e : GEdge) : Bool := decide (1 ≤ e.Tier) && decide (e.Tier ≤ t)
def fo (l : List GEdge) (t : Int) : List GEdge := l.filter (inT t)
end Go.Proofs.YtkdohhmacfoolaaGreat
