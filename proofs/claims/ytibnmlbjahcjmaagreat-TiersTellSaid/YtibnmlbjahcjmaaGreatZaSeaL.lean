/- Facts that the statement's proof is made of. No condition. -/
import Derived.Test.YtibnmlbjahcjmaaGreatZaSeaR
set_option linter.unusedVariables false
set_option linter.unusedSimpArgs false
set_option maxRecDepth 20000
set_option maxHeartbeats 1000000
namespace Go.Proofs.YtibnmlbjahcjmaaGreat
open Go Go.AM Go.Pl Go.Pt
def HW (g : GGraph) : Prop := ∀ x, x ∈ g.Hashes → HOK x
theorem fnd_cons (P : GEdge → Bool) (a : GEdge) (l : List GEdge) (i : Nat) : fnd P (a :: l) i = if P a then some i else fnd P l (i + 1) := rfl
theorem ref12Find_L {l : List GEdge} (hl : l.length < 1000000000) (u v : Int) : ∀ (m i : Nat), l.length < i + m → i ≤ l.length → ref12Find_L1 m l u v (i : Int) = some (match fnd (fEnds u v) (l.drop i) i with | some k => (k : Nat) | none => -1)
  | 0, i, _, _ => by omega
  | m + 1, i, hm, hi => by
    show ref12Find_B1 (ref12Find_L1 m) _ _ _ _ = _
    unfold ref12Find_B1
    by_cases c : i < l.length
    · rw [bt (lt_t c), idx_get c, some_bind', gopt_some, some_bind', gopt_some, some_bind', gopt_some, some_bind', wr1 i (by omega), drop_cons c, ref12Find_L hl u v m (i + 1) (by omega) c, fnd_cons]
      unfold fEnds
      generalize l[i] = e
      cases q1 : (e.U == u) <;> cases q2 : (e.V == v) <;> cases q3 : (e.U == v) <;> cases q4 : (e.V == u) <;> simp [q1, q2, q3, q4]
    · rw [bf (lt_f c), List.drop_eq_nil_of_le (by omega)]; rfl
theorem ref12Find_eq {l : List GEdge} (hl : l.length < 1000000000) (u v : Int) : ref12Find_m l u v = some (match fnd (fEnds u v) l 0 with | some k => ((k : Nat) : Int) | none => -1) := by
  have hFU := FU
  exact ref12Find_L hl u v FUEL 0 (by omega) (Nat.zero_le _)
theorem fnd_mem {l : List GEdge} {e : GEdge} (h : e ∈ l) : ∃ k, fnd (fEnds e.U e.V) l 0 = some k := by
  cases q : fnd (fEnds e.U e.V) l 0 with
  | some k => exact ⟨k, rfl⟩
  | none =>
    have := fnd_none q
    rw [List.find?_eq_none] at this
    have := this e h
    unfold fEnds at this
    simp at this
end Go.Proofs.YtibnmlbjahcjmaaGreat
