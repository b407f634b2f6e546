/- Facts that the statement's proof is made of. No condition. -/
import Derived.Test.YtkdohhmacfoolaaGreatNbRuR
set_option linter.unusedVariables false
set_option linter.unusedSimpArgs false
set_option maxRecDepth 20000
set_option maxHeartbeats 1000000
namespace Go.Proofs.YtkdohhmacfoolaaGreat
open Go Go.AM Go.Pl Go.Pt
theorem aE2 {g : aJ} (hb : 128 < g.Hashes.length) : dU g = some false ∧ grB g = false := by
  unfold dU grB
  by_cases c : 1 ≤ g.Config.N ∧ g.Config.N ≤ 1024 ∧ 1 ≤ g.Config.L ∧ g.Config.L ≤ 16 ∧ 1 ≤ g.Config.R ∧ g.Config.R ≤ 8
  · have h2 : g.Config.L * g.Config.R ≤ 16 * 8 := Int.mul_le_mul (by omega) (by omega) (by omega) (by omega)
    have k : (g.Hashes.length : Int) ≠ g.Config.L * g.Config.R := by omega
    rw [bf (by simp; omega), aPv ⟨c.2.2.1, c.2.2.2.1, c.2.2.2.2⟩, bt (by simp [k])]
    have : cfB g = false := by unfold cfB; rw [decide_eq_false_iff_not]; exact fun q => k q.2.2.2.2.2.2
    rw [this]; exact ⟨rfl, rfl⟩
  · have : cfB g = false := by unfold cfB; rw [decide_eq_false_iff_not]; exact fun q => c ⟨q.1, q.2.1, q.2.2.1, q.2.2.2.1, q.2.2.2.2.1, q.2.2.2.2.2.1⟩
    rw [bt (by simp; omega), this]; exact ⟨rfl, rfl⟩
theorem aLi (c : aZ) {hs : List cC} (hl : hs.length ≤ 8796093022207) : sN c hs = some (if grB ⟨c, hs, []⟩ then (⟨c, hs, []⟩, 0) else (⟨⟨0, 0, 0⟩, [], []⟩, 1)) := by
  unfold sN fH
  rw [aVy (by simp; omega), aB, List.nil_append]
  by_cases q : hs.length ≤ 1048576
  · rw [xL (by simp) (by simp; omega), aB]
    cases grB ⟨c, hs, []⟩ <;> rfl
  · obtain ⟨q1, q2⟩ := aE2 (g := ⟨c, hs, []⟩) (by simp; omega)
    rw [q1, q2, aB]; rfl
def NoL (g : aJ) : Prop := ∀ k x, 0 ≤ k → k < g.Config.L → ¬ Lon g k x
theorem NoL.new (c : aZ) (hs : List cC) : NoL ⟨c, hs, []⟩ := fun k x _ _ h => by
  have := h.2
  unfold srch aRk at this
  rw [show List.filter (fun e => inQ (pf ⟨c, hs, []⟩ k) x (uv e)) [] = [] from rfl, aRa] at this
  cases this
theorem NoL.nil {g : aJ} (h : GOK g) (n : NoL g) : bAf g 0 = [] := List.eq_nil_iff_forall_not_mem.2 fun q hq => by
  obtain ⟨a, b, c, d, e⟩ := aT7.1 hq
  exact n _ _ a b ((aWd h c d).1 e).2
structure bEz (g g2 : aJ) : Prop where
  gd : GD g2
  c : g2.Config = g.Config
  len : g2.Edges.length ≤ g.Edges.length + 1
  nol : NoL g → NoL g2
theorem bEz.refl {g : aJ} (h : GD g) : bEz g g := ⟨h, rfl, by omega, id⟩
abbrev WH (hs : List cC) (P : Prop) : Prop := (∀ y, y ∈ hs → ((Lit.int .u64 y.A).wf = true) ∧ ((Lit.int .u64 y.B).wf = true)) ∧ P
theorem WH.hw {hs : List cC} {P : Prop} (w : WH hs P) : ∀ x, x ∈ hs → HOK x := fun x hx => ⟨wfu (w.1 x hx).1, wfu (w.1 x hx).2⟩
end Go.Proofs.YtkdohhmacfoolaaGreat
