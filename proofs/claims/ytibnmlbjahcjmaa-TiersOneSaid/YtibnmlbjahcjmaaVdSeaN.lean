/- Facts that the statement's proof is made of. No condition. -/
import Derived.Test.YtibnmlbjahcjmaaVdSeaM
import Derived.Test.YtibnmlbjahcjmaaVdApt
set_option linter.unusedVariables false
set_option linter.unusedSimpArgs false
set_option maxRecDepth 20000
set_option maxHeartbeats 1000000
namespace Go.Proofs.Ytibnmlbjahcjmaa
open Go Go.AM Go.Pl Go.Pt
theorem addN (a b : Nat) : Int.tmod (IntKind.u64.wrap (Int.tmod (a : Int) 2305843009213693951 + Int.tmod (b : Int) 2305843009213693951)) 2305843009213693951 = (((a % 2305843009213693951 + b % 2305843009213693951) % 2305843009213693951 : Nat) : Int) := by
  rw [tmodP, tmodP, ← Int.natCast_add, wuN (by omega), tmodP]
def HOK (h : GHash) : Prop := 0 ≤ h.A ∧ 0 ≤ h.B
theorem levelValue_eq {h : GHash} (hh : HOK h) (x : Nat) : levelValue_m h (x : Int) = some ((valN h x : Nat) : Int) := by
  obtain ⟨a, b⟩ := h
  obtain ⟨h1, h2⟩ := hh
  obtain ⟨a, rfl⟩ := Int.eq_ofNat_of_zero_le h1
  obtain ⟨b, rfl⟩ := Int.eq_ofNat_of_zero_le h2
  unfold levelValue_m
  rw [modMulN, some_bind']
  unfold modAdd_m modOf_m
  rw [some_bind', some_bind', some_bind', addN]
  unfold valN
  rw [Nat.mod_mod]
  simp only [Int.toNat_natCast]
theorem levelBound_eq (j : Nat) : levelBound_m (j : Int) = some ((bndL j : Nat) : Int) := by
  unfold levelBound_m bndL
  by_cases h : j < 61
  · rw [bf (by simp; omega), ck (by simp), some_bind', if_pos h]
    have := shrN 2305843009213693951 j (by omega)
    exact congrArg some this
  · rw [bt (by simp; omega), if_neg h]; rfl
theorem bnd_anti {i j : Nat} (h : i ≤ j) : bndL j ≤ bndL i := by
  unfold bndL
  by_cases c : j < 61
  · rw [if_pos c, if_pos (by omega)]
    exact Nat.div_le_div_left (Nat.pow_le_pow_right (by decide) h) (Nat.pow_pos (by decide))
  · rw [if_neg c]; exact Nat.zero_le _
theorem levelDeep_L (V x : Nat) (hV : V ≤ 61) : ∀ (m i : Nat), V < i + m → i ≤ V → (∀ j, j < i → x < bndL j) → ∃ d, levelDeep_L1 m (V : Int) (x : Int) (i : Int) = some ((d : Nat) : Int) ∧ d ≤ V ∧ ∀ j, j < V → (j < d ↔ x < bndL j)
  | 0, i, h, h', _ => by omega
  | m + 1, i, h, h', hb => by
    have step : levelDeep_L1 (m + 1) (V : Int) (x : Int) (i : Int) = if i < V ∧ x < bndL i then levelDeep_L1 m (V : Int) (x : Int) ((i + 1 : Nat) : Int) else some (i : Int) := by
      show levelDeep_B1 (levelDeep_L1 m) _ _ _ = _
      unfold levelDeep_B1
      have e : (if (61 : Int) < (V : Int) then 61 else (V : Int)) = (V : Int) := if_neg (by omega)
      rw [e, levelBound_eq, gopt_some, some_bind', wr1 i (by omega)]
      by_cases c : i < V
      · rw [lt_t c]
        by_cases c' : x < bndL i
        · rw [bt (by simp; exact c'), if_pos ⟨c, c'⟩]
        · rw [bf (by simp; omega), if_neg (fun q => c' q.2)]
      · rw [lt_f c, bf (by simp), if_neg (fun q => c q.1)]
    rw [step]
    by_cases c : i < V ∧ x < bndL i
    · rw [if_pos c]
      exact levelDeep_L V x hV m (i + 1) (by omega) (by omega) fun j hj => by
        by_cases e : j = i
        · subst e; exact c.2
        · exact hb j (by omega)
    · rw [if_neg c]
      refine ⟨i, rfl, h', fun j hj => ⟨hb j, fun hx => Classical.byContradiction fun q => c ⟨by omega, Nat.lt_of_lt_of_le hx (bnd_anti (by omega))⟩⟩⟩
theorem levelDeep_eq {h : GHash} (hh : HOK h) (x V : Nat) (hV : V ≤ 61) : ∃ d, levelDeep_m h (x : Int) (V : Int) = some ((d : Nat) : Int) ∧ d ≤ V ∧ ∀ j, j < V → (j < d ↔ valN h x < bndL j) := by
  have hFU := FU
  unfold levelDeep_m
  rw [levelValue_eq hh, some_bind']
  exact levelDeep_L V (valN h x) hV FUEL 0 (by omega) (Nat.zero_le _) (fun j hj => by omega)
set_option maxRecDepth 100000 in
theorem levels_mine : ∀ n : Nat, n < 1025 → 1 ≤ n → levelLevels_m (n : Int) = some ((lvl n : Nat) : Int) ∧ 2 ≤ lvl n ∧ lvl n ≤ 22 := by decide +kernel
theorem levels_own {n : Int} (h1 : 1 ≤ n) (h2 : n ≤ 1024) : levelLevels_m n = some ((lvl n : Nat) : Int) ∧ 2 ≤ lvl n ∧ lvl n ≤ 22 := by
  obtain ⟨k, rfl⟩ := Int.eq_ofNat_of_zero_le (a := n) (by omega)
  exact levels_mine k (by omega) (by omega)
end Go.Proofs.Ytibnmlbjahcjmaa
