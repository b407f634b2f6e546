/- Facts that the statement's proof is made of. No condition. -/
import Derived.Test.YtibnmlbjahcjmaaVdTiS
set_option linter.unusedVariables false
set_option linter.unusedSimpArgs false
set_option maxRecDepth 20000
set_option maxHeartbeats 1000000
namespace Go.Proofs.Ytibnmlbjahcjmaa
open Go Go.AM Go.Pl Go.Pt
theorem law15Awake_eq : law15Awake_m = some true := by decide +kernel
theorem grB_kept {g : GGraph} (h : GD g) : tiersKept_m g = some (pt g.Config.N (kf g)) := by rw [tiersKept_eq h.e h.h, h.ok]; rfl
def InsO (g : GGraph) (u v : Int) (r : GGraph × Int) : Prop :=
  (¬ vtx g.Config.N u v ∧ r = (g, 1)) ∨ (vtx g.Config.N u v ∧ u = v ∧ r = (g, 8)) ∨ (vtx g.Config.N u v ∧ u ≠ v ∧ (∃ e, e ∈ g.Edges ∧ fEnds u v e = true) ∧ r = (g, 4)) ∨
    (vtx g.Config.N u v ∧ u ≠ v ∧ (∀ e, e ∈ g.Edges → fEnds u v e = false) ∧ ∃ l' g2, AddR g.Edges (edg u v) l' ∧ GD ⟨g.Config, g.Hashes, l'⟩ ∧ Mends u v 0 ⟨g.Config, g.Hashes, l'⟩ g2 ∧ GD g2 ∧ r = (g2, 0))
theorem tiersInsert_eq {g : GGraph} (h : GD g) (hl : g.Edges.length + 1 < 1000000000) (u v : Int) : ∃ r, tiersInsert_m g u v = some r ∧ InsO g u v r := by
  have k := gok h.ok
  unfold tiersInsert_m
  rw [tiersFits_eq h.e h.h, some_bind']
  by_cases c : vtx g.Config.N u v
  · have c0 := c
    unfold vtx at c
    obtain ⟨r, r1, r2⟩ := tableAdd_eq k.tr hl u v
    rw [decide_eq_true ⟨h.ok, c⟩, bf (c := !true) rfl, r1, some_bind']
    rcases r2 with ⟨h1, rfl⟩ | ⟨h1, h2, rfl⟩ | ⟨h1, h2, h3, rfl⟩ | ⟨h1, h2, h3, l', h4, rfl⟩
    · exact absurd c0 h1
    · exact ⟨_, rfl, .inr (.inl ⟨c0, h2, rfl⟩)⟩
    · exact ⟨_, rfl, .inr (.inr (.inl ⟨c0, h2, h3, rfl⟩))⟩
    · have hg := add_GD h c0 h2 h3 h4 hl
      obtain ⟨g2, m1, m2, m3⟩ := mended_eq hg c.1 c.2.1 c.2.2.1 c.2.2.2
      simp only []
      rw [bf (by rfl), m1, some_bind']
      exact ⟨_, rfl, .inr (.inr (.inr ⟨c0, h2, h3, l', g2, h4, hg, m2, m3, rfl⟩))⟩
  · rw [decide_eq_false (fun q => c q.2)]
    exact ⟨_, rfl, .inl ⟨c, rfl⟩⟩
end Go.Proofs.Ytibnmlbjahcjmaa
set_option linter.unusedVariables false
set_option linter.unusedSimpArgs false
set_option maxRecDepth 20000
set_option maxHeartbeats 1000000
namespace Go.Proofs.Ytibnmlbjahcjmaa
open Go Go.AM Go.Pl Go.Pt
end Go.Proofs.Ytibnmlbjahcjmaa
