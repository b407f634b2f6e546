/- Facts that the statement's proof is made of. No condition. -/
import Derived.Test.YtibnmlbjahcjmaaQwRuT
set_option linter.unusedVariables false
set_option linter.unusedSimpArgs false
set_option maxRecDepth 20000
set_option maxHeartbeats 1000000
namespace Go.Proofs.Ytibnmlbjahcjmaa
open Go Go.AM Go.Pl Go.Pt
def bar (e : GEdge) : GEdge := ⟨e.U, e.V, 0⟩
theorem en_bar (l : List GEdge) : en (l.map bar) = en l := by unfold en; rw [List.map_map]; rfl
theorem bar_en : ∀ {l m : List GEdge}, en l = en m → l.map bar = m.map bar
  | [], [], _ => rfl
  | [], b :: m, h => by simp [en] at h
  | a :: l, [], h => by simp [en] at h
  | a :: l, b :: m, h => by
    rw [en_cons, en_cons, List.cons.injEq, Prod.mk.injEq] at h
    rw [List.map_cons, List.map_cons, bar_en h.2]
    unfold bar
    rw [h.1.1, h.1.2]
theorem bar_len (l : List GEdge) : (l.map bar).length = l.length := List.length_map _
theorem fEnds_bar (u v : Int) (e : GEdge) : fEnds u v (bar e) = fEnds u v e := rfl
theorem lessE_bar (a x : GEdge) : lessE (bar a) x = lessE a x := rfl
theorem AddR.bar {l : List GEdge} {x : GEdge} {l' : List GEdge} (h : AddR l x l') (hx : bar x = x) : AddR (l.map bar) x (l'.map bar) := by
  obtain ⟨q, q1, q2, q3, q4⟩ := h
  refine ⟨q, by rw [bar_len]; exact q1, ?_, fun j e hj he => ?_, fun e he => ?_⟩
  · rw [q2, List.map_append, List.map_cons, List.map_take, List.map_drop, hx]
  · rw [List.getElem?_map] at he
    obtain ⟨y, hy, rfl⟩ := Option.map_eq_some_iff.1 he
    rw [lessE_bar]; exact q3 j y hj hy
  · rw [List.getElem?_map] at he
    obtain ⟨y, hy, rfl⟩ := Option.map_eq_some_iff.1 he
    rw [lessE_bar]; exact q4 y hy
theorem fnd_bar (u v : Int) : ∀ (l : List GEdge) (i : Nat), fnd (fEnds u v) (l.map bar) i = fnd (fEnds u v) l i
  | [], _ => rfl
  | a :: l, i => by
    rw [List.map_cons, fnd_cons, fnd_cons, fEnds_bar, fnd_bar u v l (i + 1)]
end Go.Proofs.Ytibnmlbjahcjmaa
