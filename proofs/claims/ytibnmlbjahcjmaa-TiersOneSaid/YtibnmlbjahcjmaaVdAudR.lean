/- Facts that the statement's proof is made of. No condition. -/
import Derived.Test.YtibnmlbjahcjmaaVdAudQ
set_option linter.unusedVariables false
set_option linter.unusedSimpArgs false
set_option maxRecDepth 20000
set_option maxHeartbeats 1000000
namespace Go.Proofs.Ytibnmlbjahcjmaa
open Go Go.AM Go.Pl Go.Pt
theorem Rg.take {n : Int} {l : List GEdge} (h : Rg n l) (i : Nat) : Rg n (l.take i) := h.mono fun e he => List.mem_of_mem_take he
def hsB (l : List GHash) : Bool := l.all fun h => decide (h.A < 2305843009213693951) && decide (h.B < 2305843009213693951)
def tiB (t : Int) (l : List GEdge) : Bool := l.all fun e => decide (e.Tier ≤ t)
theorem tiB_cons (t : Int) (e : GEdge) (l : List GEdge) : tiB t (e :: l) = (decide (e.Tier ≤ t) && tiB t l) := rfl
theorem hsB_cons (h : GHash) (l : List GHash) : hsB (h :: l) = ((decide (h.A < 2305843009213693951) && decide (h.B < 2305843009213693951)) && hsB l) := rfl
def cfB (g : GGraph) : Bool := decide (1 ≤ g.Config.N ∧ g.Config.N ≤ 1024 ∧ 1 ≤ g.Config.L ∧ g.Config.L ≤ 16 ∧ 1 ≤ g.Config.R ∧ g.Config.R ≤ 8 ∧ (g.Hashes.length : Int) = g.Config.L * g.Config.R)
def grB (g : GGraph) : Bool := cfB g && (hsB g.Hashes && (trB g.Config.N g.Edges && (tiB g.Config.L g.Edges && foB g.Config.N (fo g.Edges g.Config.L))))
theorem trB_facts {n : Int} {l : List GEdge} (h : trB n l = true) : 0 ≤ n ∧ n ≤ 1024 ∧ Rg n l := by
  unfold trB at h
  simp only [Bool.and_eq_true, decide_eq_true_eq] at h
  exact ⟨h.1.1, h.1.2, trL_Rg h.2⟩
theorem fo_Rg {n : Int} {l : List GEdge} (h : Rg n l) (t : Int) : Rg n (fo l t) := h.mono fun e he => mem_fo he
section
variable {g : GGraph} (hE : g.Edges.length < 1000000000) (hH : g.Hashes.length < 1000000000)
include hE
theorem sR_L2 (hT : trB g.Config.N g.Edges = true) : ∀ (m i : Nat), g.Edges.length < i + m → i + m ≤ FUEL → i ≤ g.Edges.length → searchRight_L2 m g g.Config g.Edges (g.Edges.length : Int) (i : Int) = some (tiB g.Config.L (g.Edges.drop i) && foB g.Config.N (fo g.Edges g.Config.L))
  | 0, i, h, _, hi => by omega
  | m + 1, i, h, hF, hi => by
    have hFU := FU
    obtain ⟨n0, n1, hr⟩ := trB_facts hT
    show searchRight_B2 (searchRight_L2 m) g g.Config g.Edges _ _ = _
    unfold searchRight_B2
    by_cases c : i < g.Edges.length
    · rw [bt (lt_t c), idx_get c, some_bind', drop_cons c, wr1 i (by omega)]
      by_cases q : g.Edges[i].Tier ≤ g.Config.L
      · rw [bf (by simp; omega), sR_L2 hT m (i + 1) (by omega) (by omega) c]
        rw [tiB_cons]; simp [q]
      · rw [bt (by simp; omega)]
        rw [tiB_cons]; simp [q]
    · rw [bf (lt_f c), tableForest_eq hE, some_bind', hT, List.drop_eq_nil_of_le (by omega)]
      have := fo_len g.Edges g.Config.L
      simp only [if_true]
      rw [groveRight_pt n0 n1 (by omega) (fo_Rg hr _), some_bind']; rfl
theorem sR_L1 : ∀ (m i : Nat), g.Hashes.length < i + m → i + m ≤ FUEL → i ≤ g.Hashes.length → searchRight_L1 m g g.Config g.Hashes (g.Hashes.length : Int) (i : Int) = some (hsB (g.Hashes.drop i) && (trB g.Config.N g.Edges && (tiB g.Config.L g.Edges && foB g.Config.N (fo g.Edges g.Config.L))))
  | 0, i, h, _, hi => by omega
  | m + 1, i, h, hF, hi => by
    have hFU := FU
    show searchRight_B1 (searchRight_L1 m) g g.Config g.Hashes _ _ = _
    unfold searchRight_B1
    by_cases c : i < g.Hashes.length
    · rw [bt (lt_t c), idx_get c, some_bind', drop_cons c, wr1 i (by omega)]
      by_cases q : g.Hashes[i].A < 2305843009213693951 ∧ g.Hashes[i].B < 2305843009213693951
      · rw [bf (by simp; omega), sR_L1 m (i + 1) (by omega) (by omega) c]
        rw [hsB_cons]; simp [q]
      · rw [bt (by simp; omega)]
        have : (decide (g.Hashes[i].A < 2305843009213693951) && decide (g.Hashes[i].B < 2305843009213693951)) = false := by simp; omega
        rw [hsB_cons, this]; rfl
    · rw [bf (lt_f c), tableRight_eq hE, some_bind', List.drop_eq_nil_of_le (by omega)]
      cases hT : trB g.Config.N g.Edges with
      | false => rfl
      | true =>
        rw [bf (c := !true) rfl, show (0 : Int) = ((0 : Nat) : Int) from rfl, sR_L2 hE hT FUEL 0 (by omega) (by omega) (Nat.zero_le _)]; rfl
omit hE in
theorem LR_wrap (h : 1 ≤ g.Config.L ∧ g.Config.L ≤ 16 ∧ 1 ≤ g.Config.R ∧ g.Config.R ≤ 8) : IntKind.i64.wrap (g.Config.L * g.Config.R) = g.Config.L * g.Config.R := by
  have h1 : 0 ≤ g.Config.L * g.Config.R := Int.mul_nonneg (by omega) (by omega)
  have h2 : g.Config.L * g.Config.R ≤ 16 * 8 := Int.mul_le_mul (by omega) (by omega) (by omega) (by omega)
  exact wr0 (by omega) (by omega)
include hH
theorem searchRight_eq : searchRight_m g = some (grB g) := by
  have hFU := FU
  have e := sR_L1 hE FUEL 0 (by omega) (by omega) (Nat.zero_le _)
  rw [List.drop_zero] at e
  unfold searchRight_m grB
  by_cases c : 1 ≤ g.Config.N ∧ g.Config.N ≤ 1024 ∧ 1 ≤ g.Config.L ∧ g.Config.L ≤ 16 ∧ 1 ≤ g.Config.R ∧ g.Config.R ≤ 8
  · rw [bf (by simp; omega), LR_wrap ⟨c.2.2.1, c.2.2.2.1, c.2.2.2.2⟩]
    by_cases k : (g.Hashes.length : Int) = g.Config.L * g.Config.R
    · rw [bf (by simp [k]), show (0 : Int) = ((0 : Nat) : Int) from rfl, e]
      have : cfB g = true := by unfold cfB; rw [decide_eq_true_eq]; exact ⟨c.1, c.2.1, c.2.2.1, c.2.2.2.1, c.2.2.2.2.1, c.2.2.2.2.2, k⟩
      rw [this]; rfl
    · rw [bt (by simp [k])]
      have : cfB g = false := by unfold cfB; rw [decide_eq_false_iff_not]; exact fun q => k q.2.2.2.2.2.2
      rw [this]; rfl
  · have : cfB g = false := by unfold cfB; rw [decide_eq_false_iff_not]; exact fun q => c ⟨q.1, q.2.1, q.2.2.1, q.2.2.2.1, q.2.2.2.2.1, q.2.2.2.2.2.1⟩
    rw [bt (by simp; omega), this]; rfl
end
structure GOK (g : GGraph) : Prop where
  n1 : 1 ≤ g.Config.N
  n2 : g.Config.N ≤ 1024
  l1 : 1 ≤ g.Config.L
  l2 : g.Config.L ≤ 16
  r1 : 1 ≤ g.Config.R
  r2 : g.Config.R ≤ 8
  hl : (g.Hashes.length : Int) = g.Config.L * g.Config.R
  hs : hsB g.Hashes = true
  tr : trB g.Config.N g.Edges = true
  ti : tiB g.Config.L g.Edges = true
  fr : foB g.Config.N (fo g.Edges g.Config.L) = true
  rg : Rg g.Config.N g.Edges
theorem gok {g : GGraph} (h : grB g = true) : GOK g := by
  unfold grB cfB at h
  simp only [Bool.and_eq_true, decide_eq_true_eq] at h
  obtain ⟨⟨a, b, c, d, e, f, k⟩, h1, h2, h3, h4⟩ := h
  exact ⟨a, b, c, d, e, f, k, h1, h2, h3, h4, (trB_facts h2).2.2⟩
end Go.Proofs.Ytibnmlbjahcjmaa
