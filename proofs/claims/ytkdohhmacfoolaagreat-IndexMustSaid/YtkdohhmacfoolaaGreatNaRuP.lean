/- Facts that the statement's proof is made of. No condition. -/
import Derived.Test.YtkdohhmacfoolaaGreatNaTiS
set_option linter.unusedVariables false
set_option linter.unusedSimpArgs false
set_option maxRecDepth 20000
set_option maxHeartbeats 1000000
namespace Go.Proofs.YtkdohhmacfoolaaGreat
open Go Go.AM Go.Pl Go.Pt
end Go.Proofs.YtkdohhmacfoolaaGreat
set_option linter.unusedVariables false
set_option linter.unusedSimpArgs false
set_option maxRecDepth 20000
set_option maxHeartbeats 1000000
namespace Go.Proofs.YtkdohhmacfoolaaGreat
open Go Go.AM Go.Pl Go.Pt
end Go.Proofs.YtkdohhmacfoolaaGreat
set_option linter.unusedVariables false
set_option linter.unusedSimpArgs false
set_option maxRecDepth 20000
set_option maxHeartbeats 1000000
namespace Go.Proofs.YtkdohhmacfoolaaGreat
open Go Go.AM Go.Pl Go.Pt
def lonB (g : GGraph) (t v : Int) : Bool := (pf g t v == v) && (((trl g.Config.N (pf g t) v).length == (trl g.Config.N (pf g (t + 1)) v).length) && (srch g t v).isSome)
def lonV (g : GGraph) (t : Int) (i : Nat) : List (Int × Int) := ((List.range' i (g.Config.N.toNat - i)).filter fun (k : Nat) => lonB g t k).map fun (k : Nat) => (t, (k : Int))
theorem mem_lonV {g : GGraph} {t : Int} {q : Int × Int} : q ∈ lonV g t 0 ↔ q.1 = t ∧ 0 ≤ q.2 ∧ q.2 < g.Config.N ∧ lonB g t q.2 = true := by
  unfold lonV
  rw [List.mem_map]
  constructor
  · rintro ⟨k, hk, rfl⟩
    rw [List.mem_filter, List.mem_range'] at hk
    obtain ⟨⟨i, h1, h2⟩, h3⟩ := hk
    exact ⟨rfl, by simp, by simp; omega, h3⟩
  · rintro ⟨h0, h1, h2, h3⟩
    have e : ((q.2.toNat : Nat) : Int) = q.2 := by omega
    refine ⟨q.2.toNat, ?_, by rw [e, ← h0]⟩
    rw [List.mem_filter, List.mem_range', e]
    exact ⟨⟨q.2.toNat, by omega, by omega⟩, h3⟩
def lonT (g : GGraph) (t : Nat) : List (Int × Int) := (List.range' t (g.Config.L.toNat - t)).flatMap fun (k : Nat) => lonV g k 0
theorem mem_lonT {g : GGraph} {q : Int × Int} : q ∈ lonT g 0 ↔ 0 ≤ q.1 ∧ q.1 < g.Config.L ∧ 0 ≤ q.2 ∧ q.2 < g.Config.N ∧ lonB g q.1 q.2 = true := by
  unfold lonT
  rw [List.mem_flatMap]
  constructor
  · rintro ⟨k, hk, hq⟩
    rw [List.mem_range'] at hk
    obtain ⟨i, h1, h2⟩ := hk
    obtain ⟨a, b, c, d⟩ := mem_lonV.1 hq
    rw [a]
    exact ⟨by omega, by omega, b, c, d⟩
  · rintro ⟨h1, h2, h3⟩
    have e : ((q.1.toNat : Nat) : Int) = q.1 := by omega
    exact ⟨q.1.toNat, List.mem_range'.2 ⟨q.1.toNat, by omega, by omega⟩, mem_lonV.2 ⟨by omega, by rw [e]; exact h3⟩⟩
section
variable {g : GGraph} (h : GD g)
include h
end
theorem lon_iff {g : GGraph} (h : GOK g) {t v : Int} (v0 : 0 ≤ v) (vn : v < g.Config.N) : lonB g t v = true ↔ pf g t v = v ∧ Lon g t v := by
  unfold lonB Lon
  rw [Bool.and_eq_true, Bool.and_eq_true, beq_iff_eq, beq_iff_eq, trl_gr h v0 vn]
end Go.Proofs.YtkdohhmacfoolaaGreat
