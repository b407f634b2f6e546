/- Facts that the statement's proof is made of. No condition. -/
import Derived.Test.YtibnmlbjahcjmaaQyPt
set_option linter.unusedSimpArgs false
set_option linter.unusedVariables false
namespace Go.Pt
variable {l : List E} {n : Nat}
def Tch (l : List E) (i : Nat) (x y : Int) : Prop := l[i]? = some (x, y) ∨ l[i]? = some (y, x)
theorem Tch.symm {i : Nat} {x y : Int} (h : Tch l i x y) : Tch l i y x := h.elim .inr .inl
theorem Tch.lt {i : Nat} {x y : Int} (h : Tch l i x y) : i < l.length := by
  rcases h with h | h <;> exact (List.getElem?_eq_some_iff.1 h).1
end Go.Pt
