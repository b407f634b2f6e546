/- Facts that the statement's proof is made of. No condition. -/
import Derived.Test.YtkdohhmacfoolaaGreatNaXo
set_option linter.unusedVariables false
set_option linter.unusedSimpArgs false
set_option maxRecDepth 20000
set_option maxHeartbeats 1000000
namespace Go.Proofs.YtkdohhmacfoolaaGreat
open Go Go.AM Go.Pl Go.Pt
theorem foB_iff {n : Int} {l : List GEdge} : foB n l = true ↔ Forest n.toNat (en l) := by unfold foB Forest; rw [decide_eq_true_iff, en_len]
theorem GOK.gc {g : GGraph} (h : GOK g) : GC g := by
  refine ⟨⟨(trB_iff.1 h.tr).2.2, fun e he => ?_, foB_iff.1 h.fr⟩, by have := h.n1; omega, h.l2⟩
  have := h.ti
  unfold tiB at this
  rw [List.all_eq_true] at this
  have := this e he
  simpa using this
theorem GC.fo {g : GGraph} (h : GC g) {k : Int} (hk : k ≤ g.Config.L) : Forest g.Config.N.toNat (en (fo g.Edges k)) :=
  h.ti.fr.sublist (h.ti.inR h.n0 _) (en_sublist (by rw [← fo_fo hk]; exact fo_sub _ _))
def trF (n i : Nat) (p : Int → Int) (c : Int) : List Int := ((List.range' i (n - i)).filter fun (k : Nat) => p (k : Int) == c).map fun (k : Nat) => (k : Int)
def trl (n : Int) (p : Int → Int) (v : Int) : List Int := trF n.toNat 0 p (p v)
theorem mem_trl {n : Int} {p : Int → Int} {v x : Int} : x ∈ trl n p v ↔ 0 ≤ x ∧ x < n ∧ p x = p v := by
  unfold trl trF
  rw [List.mem_map]
  constructor
  · rintro ⟨k, hk, rfl⟩
    rw [List.mem_filter, List.mem_range', beq_iff_eq] at hk
    obtain ⟨⟨i, h1, h2⟩, h3⟩ := hk
    exact ⟨by omega, by omega, h3⟩
  · rintro ⟨h1, h2, h3⟩
    refine ⟨x.toNat, ?_, by omega⟩
    have e : ((x.toNat : Nat) : Int) = x := by omega
    rw [List.mem_filter, List.mem_range', beq_iff_eq, e]
    exact ⟨⟨x.toNat, by omega, by omega⟩, h3⟩
section
variable {g : GGraph} (hE : g.Edges.length < 1000000000) (h : GOK g)
include hE h
end
section
variable {g : GGraph} (hE : g.Edges.length < 1000000000) (h : GOK g)
include hE h
end
def ns (l : List Nat) : List Int := l.map fun (n : Nat) => (n : Int)
def nmE (e : GEdge) : Nat := nmQ (uv e)
end Go.Proofs.YtkdohhmacfoolaaGreat
