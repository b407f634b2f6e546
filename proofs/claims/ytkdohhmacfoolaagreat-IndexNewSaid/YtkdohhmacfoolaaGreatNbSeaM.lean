/- Facts that the statement's proof is made of. No condition. -/
import Derived.Test.YtkdohhmacfoolaaGreatNbAudR
import Derived.Test.YtkdohhmacfoolaaGreatNbGA2
import Derived.Laws.Bits64b
import Derived.Lib.Mul64
set_option linter.unusedVariables false
set_option linter.unusedSimpArgs false
set_option maxRecDepth 20000
set_option maxHeartbeats 1000000
namespace Go.Proofs.YtkdohhmacfoolaaGreat
open Go Go.AM Go.Pl Go.Pt
theorem aUf (x y : aC) : ((x.U == y.U) && ((x.V == y.V) && (x.Tier == y.Tier))) = decide (x = y) := by
  cases x with | mk a b c => cases y with | mk d e f =>
  by_cases h1 : a = d <;> by_cases h2 : b = e <;> by_cases h3 : c = f <;> simp [h1, h2, h3]
theorem aDe (a b : List aC) (hab : a.length = b.length) (hl : a.length < 1000000000) : ∀ (m i : Nat), a.length < i + m → i ≤ a.length → kV m a b (i : Int) = some (decide (a.drop i = b.drop i))
  | 0, i, h, hi => by omega
  | m + 1, i, h, hi => by
    show nY (kV m) a b _ = _
    unfold nY
    by_cases c : i < a.length
    · have c' : i < b.length := by omega
      rw [bt (aKt c), fJ c, aB, fJ c', aB, wr1 i (by omega), gF c, gF c', aUf]
      by_cases q : a[i] = b[i]
      · rw [bf (by simp [q]), aDe a b hab hl m (i + 1) (by omega) c]; simp [q, -List.getElem_cons_drop]
      · rw [bt (by simp [q])]; simp [q, -List.getElem_cons_drop]
    · rw [bf (aJp c), List.drop_eq_nil_of_le (by omega), List.drop_eq_nil_of_le (by omega)]; rfl
theorem aJd (a b : List aC) (hl : a.length < 1000000000) : pN a b = some (decide (a = b)) := by
  have hFU := FU
  unfold pN
  by_cases h : a.length = b.length
  · rw [bf (by simp [h]), show (0 : Int) = ((0 : Nat) : Int) from rfl, aDe a b h hl bY 0 (by omega) (Nat.zero_le _)]; rfl
  · rw [bt (by simp; omega)]
    have : ¬ a = b := fun e => h (by rw [e])
    simp [this]
section
variable {g : aJ} (hE : g.Edges.length < 1000000000) (hH : g.Hashes.length < 1000000000)
include hE hH
end
section
variable {g : aJ} (hE : g.Edges.length < 1000000000) (h : GOK g)
include hE h
end
end Go.Proofs.YtkdohhmacfoolaaGreat
set_option linter.unusedVariables false
set_option linter.unusedSimpArgs false
set_option maxRecDepth 20000
set_option maxHeartbeats 1000000
namespace Go.Proofs.YtkdohhmacfoolaaGreat
open Go Go.AM Go.Pl Go.Pt
theorem InR.app {n : Nat} {l l' : List E} (h : ∀ e, e ∈ l → e ∈ l') (hr : InR n l') : InR n (l' ++ l) := fun e he => by
  rcases List.mem_append.1 he with m | m
  · exact hr e m
  · exact hr e (h e m)
end Go.Proofs.YtkdohhmacfoolaaGreat
set_option linter.unusedVariables false
set_option linter.unusedSimpArgs false
set_option maxRecDepth 20000
set_option maxHeartbeats 1000000
namespace Go.Proofs.YtkdohhmacfoolaaGreat
open Go Go.AM Go.Pl Go.Pt
theorem bE2 (a b : Nat) (ha : a < 18446744073709551616) (hb : b < 18446744073709551616) : zK .u64 (a : Int) (b : Int) = ((a &&& b : Nat) : Int) := bits_and_u64_nat a b ha hb
end Go.Proofs.YtkdohhmacfoolaaGreat
