/- Facts that the statement's proof is made of. No condition. -/
import Derived.Test.YtkdohhmacfoolaaGreatNbTiP
set_option linter.unusedVariables false
set_option linter.unusedSimpArgs false
set_option maxRecDepth 20000
set_option maxHeartbeats 1000000
namespace Go.Proofs.YtkdohhmacfoolaaGreat
open Go Go.AM Go.Pl Go.Pt
section
variable {n : Int} (h0 : 0 ≤ n) (hn : n ≤ 1024) {l : List aC} (hl : l.length < 1000000000) (hr : Rg n l) (hne : ∀ e, e ∈ l → e.U ≠ e.V) (hf : dN n.toNat (en l)) {v : Int}
include h0 hn hl hr hne hf
end
instance (y x : aC) : Decidable (aUb y x) := by unfold aUb ltE; infer_instance
end Go.Proofs.YtkdohhmacfoolaaGreat
set_option linter.unusedVariables false
set_option linter.unusedSimpArgs false
set_option maxRecDepth 20000
set_option maxHeartbeats 1000000
namespace Go.Proofs.YtkdohhmacfoolaaGreat
open Go Go.AM Go.Pl Go.Pt
structure GD (g : aJ) : Prop where
  ok : grB g = true
  hw : HW g
  e : g.Edges.length < 1000000000
  h : g.Hashes.length < 1000000000
theorem Ti.tiB {n L : Int} {l : List aC} (h : Ti n L l) : tiB L l = true := by
  unfold Go.Proofs.YtkdohhmacfoolaaGreat.tiB
  rw [List.all_eq_true]
  intro e he
  simpa using h.le e he
theorem aZo {g : aJ} (h : GOK g) {t w : Int} (w0 : 0 ≤ w) (wn : w < g.Config.N) : (trl g.Config.N (pf g t) w).length = (trl g.Config.N (pf g (t + 1)) w).length ↔ ¬ Gr g t w := by
  have up : ∀ {x y}, GT g t x y → GT g (t + 1) x y := fun h => oL h (by omega)
  have e : (trl g.Config.N (pf g (t + 1)) w).filter (fun x => pf g t x == pf g t w) = trl g.Config.N (pf g t) w := by
    unfold trl trF
    rw [List.filter_map, List.filter_filter]
    congr 1
    refine List.filter_congr fun k _ => ?_
    rw [Bool.eq_iff_iff, Bool.and_eq_true, Function.comp, beq_iff_eq, beq_iff_eq]
    constructor
    · exact fun q => q.1
    · intro q
      refine ⟨q, ?_⟩
      rw [vJ] at q ⊢; exact up q
  constructor
  · intro hl ⟨x, h1, h2⟩
    have hs : ((trl g.Config.N (pf g (t + 1)) w).filter (fun x => pf g t x == pf g t w)) = trl g.Config.N (pf g (t + 1)) w := List.filter_sublist.eq_of_length (by rw [e, hl])
    have hx : x ∈ trl g.Config.N (pf g (t + 1)) w := aPg.2 (by
      have hr : 0 ≤ x ∧ x < g.Config.N := cO.range (aZc h.rg (t + 1)).inR' h1 ⟨w0, wn⟩
      exact ⟨hr.1, hr.2, vJ.2 h1.symm⟩)
    rw [← hs, List.mem_filter, beq_iff_eq] at hx
    exact h2 (vJ.1 hx.2).symm
  · intro hg
    rw [← e]
    congr 1
    rw [List.filter_eq_self]
    intro x hx
    have := aPg.1 hx
    rw [beq_iff_eq, vJ]
    refine Classical.byContradiction fun c => hg ⟨x, (vJ.1 this.2.2).symm, fun k => c k.symm⟩
end Go.Proofs.YtkdohhmacfoolaaGreat
