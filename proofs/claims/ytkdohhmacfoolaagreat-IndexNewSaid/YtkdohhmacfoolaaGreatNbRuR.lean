/- Facts that the statement's proof is made of. No condition. -/
import Derived.Test.YtkdohhmacfoolaaGreatNbTiS
set_option linter.unusedVariables false
set_option linter.unusedSimpArgs false
set_option maxRecDepth 20000
set_option maxHeartbeats 1000000
namespace Go.Proofs.YtkdohhmacfoolaaGreat
open Go Go.AM Go.Pl Go.Pt
theorem aXf (a b : aZ) : ((a.N == b.N) && ((a.L == b.L) && (a.R == b.R))) = decide (a = b) := by
  cases a with | mk a1 a2 a3 => cases b with | mk b1 b2 b3 =>
  by_cases h1 : a1 = b1 <;> by_cases h2 : a2 = b2 <;> by_cases h3 : a3 = b3 <;> simp [h1, h2, h3]
theorem aBh (a b : aJ) (hE : a.Edges.length < 1000000000) (hH : a.Hashes.length < 1000000000) : mL a b = some (decide (a = b)) := by
  unfold mL
  rw [aXf, aI1 _ _ hH, aJd _ _ hE, uK, aB, uK, aB]
  cases a with | mk a1 a2 a3 => cases b with | mk b1 b2 b3 =>
  congr 1
  by_cases h1 : a1 = b1 <;> by_cases h2 : a2 = b2 <;> by_cases h3 : a3 = b3 <;> simp [h1, h2, h3]
end Go.Proofs.YtkdohhmacfoolaaGreat
set_option linter.unusedVariables false
set_option linter.unusedSimpArgs false
set_option maxRecDepth 20000
set_option maxHeartbeats 1000000
namespace Go.Proofs.YtkdohhmacfoolaaGreat
open Go Go.AM Go.Pl Go.Pt
end Go.Proofs.YtkdohhmacfoolaaGreat
set_option linter.unusedVariables false
set_option linter.unusedSimpArgs false
set_option maxRecDepth 20000
set_option maxHeartbeats 1000000
namespace Go.Proofs.YtkdohhmacfoolaaGreat
open Go Go.AM Go.Pl Go.Pt
def aVk (g : aJ) (t v : Int) : Bool := (pf g t v == v) && (((trl g.Config.N (pf g t) v).length == (trl g.Config.N (pf g (t + 1)) v).length) && (srch g t v).isSome)
def aZw (g : aJ) (t : Int) (i : Nat) : List (Int × Int) := ((List.range' i (g.Config.N.toNat - i)).filter fun (k : Nat) => aVk g t k).map fun (k : Nat) => (t, (k : Int))
theorem aKj {g : aJ} {t : Int} {q : Int × Int} : q ∈ aZw g t 0 ↔ q.1 = t ∧ 0 ≤ q.2 ∧ q.2 < g.Config.N ∧ aVk g t q.2 = true := by
  unfold aZw
  rw [List.mem_map]
  constructor
  · rintro ⟨k, hk, rfl⟩
    rw [List.mem_filter, List.mem_range'] at hk
    obtain ⟨⟨i, h1, h2⟩, h3⟩ := hk
    exact ⟨rfl, by simp, by simp; omega, h3⟩
  · rintro ⟨h0, h1, h2, h3⟩
    have e : ((q.2.toNat : Nat) : Int) = q.2 := by omega
    refine ⟨q.2.toNat, ?_, by rw [e, ← h0]⟩
    rw [List.mem_filter, List.mem_range', e]
    exact ⟨⟨q.2.toNat, by omega, by omega⟩, h3⟩
def bAf (g : aJ) (t : Nat) : List (Int × Int) := (List.range' t (g.Config.L.toNat - t)).flatMap fun (k : Nat) => aZw g k 0
theorem aT7 {g : aJ} {q : Int × Int} : q ∈ bAf g 0 ↔ 0 ≤ q.1 ∧ q.1 < g.Config.L ∧ 0 ≤ q.2 ∧ q.2 < g.Config.N ∧ aVk g q.1 q.2 = true := by
  unfold bAf
  rw [List.mem_flatMap]
  constructor
  · rintro ⟨k, hk, hq⟩
    rw [List.mem_range'] at hk
    obtain ⟨i, h1, h2⟩ := hk
    obtain ⟨a, b, c, d⟩ := aKj.1 hq
    rw [a]
    exact ⟨by omega, by omega, b, c, d⟩
  · rintro ⟨h1, h2, h3⟩
    have e : ((q.1.toNat : Nat) : Int) = q.1 := by omega
    exact ⟨q.1.toNat, List.mem_range'.2 ⟨q.1.toNat, by omega, by omega⟩, aKj.2 ⟨by omega, by rw [e]; exact h3⟩⟩
section
variable {g : aJ} (h : GD g)
include h
end
theorem aWd {g : aJ} (h : GOK g) {t v : Int} (v0 : 0 ≤ v) (vn : v < g.Config.N) : aVk g t v = true ↔ pf g t v = v ∧ Lon g t v := by
  unfold aVk Lon
  rw [Bool.and_eq_true, Bool.and_eq_true, beq_iff_eq, beq_iff_eq, aZo h v0 vn]
end Go.Proofs.YtkdohhmacfoolaaGreat
set_option linter.unusedVariables false
set_option linter.unusedSimpArgs false
set_option maxRecDepth 20000
set_option maxHeartbeats 1000000
namespace Go.Proofs.YtkdohhmacfoolaaGreat
open Go Go.AM Go.Pl Go.Pt
end Go.Proofs.YtkdohhmacfoolaaGreat
set_option linter.unusedVariables false
set_option linter.unusedSimpArgs false
set_option maxRecDepth 20000
set_option maxHeartbeats 1000000
namespace Go.Proofs.YtkdohhmacfoolaaGreat
open Go Go.AM Go.Pl Go.Pt
end Go.Proofs.YtkdohhmacfoolaaGreat
