/- Facts that the statement's proof is made of. No condition. -/
import Derived.Test.YtibnmlbjahcjmaaVdAudR
set_option linter.unusedVariables false
set_option linter.unusedSimpArgs false
set_option maxRecDepth 20000
set_option maxHeartbeats 1000000
namespace Go.Proofs.Ytibnmlbjahcjmaa
open Go Go.AM Go.Pl Go.Pt
theorem ref06Same_L (a b : List Int) (hab : a.length = b.length) (hl : a.length < 1000000000) : ∀ (m i : Nat), a.length < i + m → i ≤ a.length → ref06Same_L1 m a b (i : Int) = some (decide (a.drop i = b.drop i))
  | 0, i, h, hi => by omega
  | m + 1, i, h, hi => by
    show ref06Same_B1 (ref06Same_L1 m) a b _ = _
    unfold ref06Same_B1
    by_cases c : i < a.length
    · have c' : i < b.length := by omega
      rw [bt (lt_t c), idx_get c, some_bind', idx_get c', some_bind', wr1 i (by omega), drop_cons c, drop_cons c']
      by_cases q : a[i] = b[i]
      · rw [bf (by simp [q]), ref06Same_L a b hab hl m (i + 1) (by omega) c]; simp [q, -List.getElem_cons_drop]
      · rw [bt (by simp [q])]; simp [q, -List.getElem_cons_drop]
    · rw [bf (lt_f c), List.drop_eq_nil_of_le (by omega), List.drop_eq_nil_of_le (by omega)]; rfl
theorem ref06Same_eq (a b : List Int) (hl : a.length < 1000000000) : ref06Same_m a b = some (decide (a = b)) := by
  have hFU := FU
  unfold ref06Same_m
  by_cases h : a.length = b.length
  · rw [bf (by simp [h]), show (0 : Int) = ((0 : Nat) : Int) from rfl, ref06Same_L a b h hl FUEL 0 (by omega) (Nat.zero_le _)]; rfl
  · rw [bt (by simp; omega)]
    have : ¬ a = b := fun e => h (by rw [e])
    simp [this]
def kf (g : GGraph) : List GEdge := fo g.Edges g.Config.L
theorem pt_len' {n : Int} (hn : n ≤ 1024) (l : List GEdge) : (pt n l).length < 1000000000 := by rw [pt_len]; omega
section
variable {g : GGraph} (hE : g.Edges.length < 1000000000) (hH : g.Hashes.length < 1000000000)
include hE hH
theorem tiersKept_eq : tiersKept_m g = some (if grB g then pt g.Config.N (kf g) else []) := by
  unfold tiersKept_m
  rw [searchRight_eq hE hH, some_bind']
  cases h : grB g with
  | false => rfl
  | true =>
    have k := gok h
    have := fo_len g.Edges g.Config.L
    rw [bf (c := !true) rfl, tableForest_eq hE, some_bind', k.tr]
    simp only [if_true]
    rw [partOf_pt (by omega) (by have := k.n1; omega) k.n2 (fo_Rg k.rg _), some_bind']; rfl
end
section
variable {g : GGraph} (hE : g.Edges.length < 1000000000) (h : GOK g)
include hE h
end
end Go.Proofs.Ytibnmlbjahcjmaa
