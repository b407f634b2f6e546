/- Facts that the statement's proof is made of. No condition. -/
import Derived.Test.YtkdohhmacfoolaaGreatNbSeaM
import Derived.Test.YtkdohhmacfoolaaGreatNbApt
set_option linter.unusedVariables false
set_option linter.unusedSimpArgs false
set_option maxRecDepth 20000
set_option maxHeartbeats 1000000
namespace Go.Proofs.YtkdohhmacfoolaaGreat
open Go Go.AM Go.Pl Go.Pt
def HOK (h : cC) : Prop := 0 ≤ h.A ∧ 0 ≤ h.B
end Go.Proofs.YtkdohhmacfoolaaGreat
set_option linter.unusedVariables false
set_option linter.unusedSimpArgs false
namespace Go.Pt
def bGo {α : Type} (f : α → Nat) : List α → Nat
  | [] => 0
  | a :: l => f a ^^^ bGo f l
section
variable {α : Type}
end
end Go.Pt
namespace Go.Proofs.YtkdohhmacfoolaaGreat
open Go.Pt
theorem aRa {hs : List cC} {V : Nat} : aEy hs V [] = none := by
  unfold aEy
  rw [List.findSome?_eq_none_iff]
  intro w _; rfl
end Go.Proofs.YtkdohhmacfoolaaGreat
set_option linter.unusedVariables false
set_option linter.unusedSimpArgs false
set_option maxRecDepth 20000
set_option maxHeartbeats 1000000
namespace Go.Proofs.YtkdohhmacfoolaaGreat
open Go Go.AM Go.Pl Go.Pt
theorem aPa {n : Int} {l : List aC} : foB n l = true ↔ dN n.toNat (en l) := by unfold foB dN; rw [decide_eq_true_iff, aN4]
theorem GOK.gc {g : aJ} (h : GOK g) : GC g := by
  refine ⟨⟨(aPu.1 h.tr).2.2, fun e he => ?_, aPa.1 h.fr⟩, by have := h.n1; omega, h.l2⟩
  have := h.ti
  unfold tiB at this
  rw [List.all_eq_true] at this
  have := this e he
  simpa using this
theorem GC.fo {g : aJ} (h : GC g) {k : Int} (hk : k ≤ g.Config.L) : dN g.Config.N.toNat (en (fo g.Edges k)) :=
  h.ti.fr.sublist (h.ti.inR h.n0 _) (aFp (by rw [← aUn hk]; exact aG2 _ _))
def EB (e : aC) : Prop := 0 ≤ e.U ∧ e.U < e.V ∧ e.V < 1024
theorem GOK.eb {g : aJ} (h : GOK g) {e : aC} (he : e ∈ g.Edges) : EB e := by
  have := qZ.1 (h.gc.ti.tb.ok e he)
  have := h.n2
  exact ⟨by omega, by omega, by omega⟩
def trF (n i : Nat) (p : Int → Int) (c : Int) : List Int := ((List.range' i (n - i)).filter fun (k : Nat) => p (k : Int) == c).map fun (k : Nat) => (k : Int)
def trl (n : Int) (p : Int → Int) (v : Int) : List Int := trF n.toNat 0 p (p v)
theorem aPg {n : Int} {p : Int → Int} {v x : Int} : x ∈ trl n p v ↔ 0 ≤ x ∧ x < n ∧ p x = p v := by
  unfold trl trF
  rw [List.mem_map]
  constructor
  · rintro ⟨k, hk, rfl⟩
    rw [List.mem_filter, List.mem_range', beq_iff_eq] at hk
    obtain ⟨⟨i, h1, h2⟩, h3⟩ := hk
    exact ⟨by omega, by omega, h3⟩
  · rintro ⟨h1, h2, h3⟩
    refine ⟨x.toNat, ?_, by omega⟩
    have e : ((x.toNat : Nat) : Int) = x := by omega
    rw [List.mem_filter, List.mem_range', beq_iff_eq, e]
    exact ⟨⟨x.toNat, by omega, by omega⟩, h3⟩
section
variable {g : aJ} (hE : g.Edges.length < 1000000000) (h : GOK g)
include hE h
end
section
variable {g : aJ} (hE : g.Edges.length < 1000000000) (h : GOK g)
include hE h
end
def ns (l : List Nat) : List Int := l.map fun (n : Nat) => (n : Int)
def nmE (e : aC) : Nat := nmQ (uv e)
end Go.Proofs.YtkdohhmacfoolaaGreat
