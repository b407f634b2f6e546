/- Facts that the statement's proof is made of. No condition. -/
import Derived.Test.YtibnmlbjahcjmaaQvRuP
set_option linter.unusedVariables false
set_option linter.unusedSimpArgs false
set_option maxRecDepth 20000
set_option maxHeartbeats 1000000
namespace Go.Proofs.Ytibnmlbjahcjmaa
open Go Go.AM Go.Pl Go.Pt
theorem law16Awake_eq : law16Awake_m = some true := by decide +kernel
def clG (g : GGraph) (t : Int) : Nat := cl g.Config.N.toNat (en (fo g.Edges t))
def rcT (g : GGraph) (t : Nat) : List Int := (List.range' t (g.Config.L.toNat + 1 - t)).map fun (k : Nat) => ((clG g k : Nat) : Int)
theorem rcT_step {g : GGraph} {t : Nat} (h : t ≤ g.Config.L.toNat) : rcT g t = ((clG g t : Nat) : Int) :: rcT g (t + 1) := by
  unfold rcT
  rw [show g.Config.L.toNat + 1 - t = (g.Config.L.toNat + 1 - (t + 1)) + 1 by omega, List.range'_succ, List.map_cons]
theorem rcT_end {g : GGraph} {t : Nat} (h : ¬ t ≤ g.Config.L.toNat) : rcT g t = [] := by unfold rcT; rw [show g.Config.L.toNat + 1 - t = 0 by omega]; rfl
theorem rcT_len (g : GGraph) : (rcT g 0).length = g.Config.L.toNat + 1 := by unfold rcT; simp
theorem rcT_idx (g : GGraph) {k : Nat} (h : k ≤ g.Config.L.toNat) : idx (rcT g 0) (k : Int) = some ((clG g k : Nat) : Int) := by
  rw [idx_nat]
  unfold rcT
  rw [List.getElem?_map, List.getElem?_range' (by omega)]
  simp
theorem rulesReached_L {g : GGraph} (h : GD g) : ∀ (m t : Nat) (out : List Int), g.Config.L.toNat + 1 < t + m → t ≤ g.Config.L.toNat + 1 → out.length ≤ t → rulesReached_L1 m g out (g.Config.L + 1) (t : Int) = some (out ++ rcT g t)
  | 0, t, _, _, _, _ => by omega
  | m + 1, t, out, hm, hi, ho => by
    have k := gok h.ok
    have n1 := k.n1
    have l2 := k.l2
    have l1 := k.l1
    show rulesReached_B1 (rulesReached_L1 m) _ _ _ _ = _
    unfold rulesReached_B1
    by_cases c : t ≤ g.Config.L.toNat
    · rw [bt (by simp; omega), rulesTrees_eq h, some_bind', partMany_pt (by omega) k.n2 (fo_Rg k.rg _), some_bind', app_ok (by simp; omega), some_bind', wr1 t (by omega), rulesReached_L h m (t + 1) _ (by omega) (by omega) (by simp; omega), rcT_step c]
      simp [clG]
    · rw [bf (by simp; omega), rcT_end c]; simp
theorem rulesReached_eq {g : GGraph} (hw : HW g) (hE : g.Edges.length < 1000000000) (hH : g.Hashes.length < 1000000000) : rulesReached_m g = some (if grB g then rcT g 0 else []) := by
  have hFU := FU
  unfold rulesReached_m
  rw [searchRight_eq hE hH, some_bind']
  cases hg : grB g with
  | false => rfl
  | true =>
    have h : GD g := ⟨hg, hw, hE, hH⟩
    have k := gok hg
    have := k.l2
    have := k.l1
    rw [bf (c := !true) rfl, wr0 (by omega) (by omega)]
    have := rulesReached_L h FUEL 0 [] (by omega) (Nat.zero_le _) (by simp)
    exact this
end Go.Proofs.Ytibnmlbjahcjmaa
