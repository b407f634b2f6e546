/- Facts that the statement's proof is made of. No condition. -/
import Derived.Test.YtkdohhmacfoolaaGreatNbAudQ
set_option linter.unusedVariables false
set_option linter.unusedSimpArgs false
set_option maxRecDepth 20000
set_option maxHeartbeats 1000000
namespace Go.Proofs.YtkdohhmacfoolaaGreat
open Go Go.AM Go.Pl Go.Pt
theorem Rg.take {n : Int} {l : List aC} (h : Rg n l) (i : Nat) : Rg n (l.take i) := h.mono fun e he => List.mem_of_mem_take he
def hsB (l : List cC) : Bool := l.all fun h => decide (h.A < 2305843009213693951) && decide (h.B < 2305843009213693951)
def tiB (t : Int) (l : List aC) : Bool := l.all fun e => decide (e.Tier ≤ t)
theorem aL3 (t : Int) (e : aC) (l : List aC) : tiB t (e :: l) = (decide (e.Tier ≤ t) && tiB t l) := rfl
theorem aFi (h : cC) (l : List cC) : hsB (h :: l) = ((decide (h.A < 2305843009213693951) && decide (h.B < 2305843009213693951)) && hsB l) := rfl
def cfB (g : aJ) : Bool := decide (1 ≤ g.Config.N ∧ g.Config.N ≤ 1024 ∧ 1 ≤ g.Config.L ∧ g.Config.L ≤ 16 ∧ 1 ≤ g.Config.R ∧ g.Config.R ≤ 8 ∧ (g.Hashes.length : Int) = g.Config.L * g.Config.R)
def grB (g : aJ) : Bool := cfB g && (hsB g.Hashes && (trB g.Config.N g.Edges && (tiB g.Config.L g.Edges && foB g.Config.N (fo g.Edges g.Config.L))))
theorem aHw {n : Int} {l : List aC} (h : trB n l = true) : 0 ≤ n ∧ n ≤ 1024 ∧ Rg n l := by
  unfold trB at h
  simp only [Bool.and_eq_true, decide_eq_true_eq] at h
  exact ⟨h.1.1, h.1.2, aZv h.2⟩
theorem aZc {n : Int} {l : List aC} (h : Rg n l) (t : Int) : Rg n (fo l t) := h.mono fun e he => bAk he
section
variable {g : aJ} (hE : g.Edges.length < 1000000000) (hH : g.Hashes.length < 1000000000)
include hE
theorem aZe (hT : trB g.Config.N g.Edges = true) : ∀ (m i : Nat), g.Edges.length < i + m → i + m ≤ bY → i ≤ g.Edges.length → iG m g g.Config g.Edges (g.Edges.length : Int) (i : Int) = some (tiB g.Config.L (g.Edges.drop i) && foB g.Config.N (fo g.Edges g.Config.L))
  | 0, i, h, _, hi => by omega
  | m + 1, i, h, hF, hi => by
    have hFU := FU
    obtain ⟨n0, n1, hr⟩ := aHw hT
    show kN (iG m) g g.Config g.Edges _ _ = _
    unfold kN
    by_cases c : i < g.Edges.length
    · rw [bt (aKt c), fJ c, aB, gF c, wr1 i (by omega)]
      by_cases q : g.Edges[i].Tier ≤ g.Config.L
      · rw [bf (by simp; omega), aZe hT m (i + 1) (by omega) (by omega) c]
        rw [aL3]; simp [q]
      · rw [bt (by simp; omega)]
        rw [aL3]; simp [q]
    · rw [bf (aJp c), aFe hE, aB, hT, List.drop_eq_nil_of_le (by omega)]
      have := bA6 g.Edges g.Config.L
      simp only [if_true]
      rw [aGf n0 n1 (by omega) (aZc hr _), aB]; rfl
theorem aYy : ∀ (m i : Nat), g.Hashes.length < i + m → i + m ≤ bY → i ≤ g.Hashes.length → iJ m g g.Config g.Hashes (g.Hashes.length : Int) (i : Int) = some (hsB (g.Hashes.drop i) && (trB g.Config.N g.Edges && (tiB g.Config.L g.Edges && foB g.Config.N (fo g.Edges g.Config.L))))
  | 0, i, h, _, hi => by omega
  | m + 1, i, h, hF, hi => by
    have hFU := FU
    show kL (iJ m) g g.Config g.Hashes _ _ = _
    unfold kL
    by_cases c : i < g.Hashes.length
    · rw [bt (aKt c), fJ c, aB, gF c, wr1 i (by omega)]
      by_cases q : g.Hashes[i].A < 2305843009213693951 ∧ g.Hashes[i].B < 2305843009213693951
      · rw [bf (by simp; omega), aYy m (i + 1) (by omega) (by omega) c]
        rw [aFi]; simp [q]
      · rw [bt (by simp; omega)]
        have : (decide (g.Hashes[i].A < 2305843009213693951) && decide (g.Hashes[i].B < 2305843009213693951)) = false := by simp; omega
        rw [aFi, this]; rfl
    · rw [bf (aJp c), zR hE, aB, List.drop_eq_nil_of_le (by omega)]
      cases hT : trB g.Config.N g.Edges with
      | false => rfl
      | true =>
        rw [bf (c := !true) rfl, show (0 : Int) = ((0 : Nat) : Int) from rfl, aZe hE hT bY 0 (by omega) (by omega) (Nat.zero_le _)]; rfl
omit hE in
theorem aPv (h : 1 ≤ g.Config.L ∧ g.Config.L ≤ 16 ∧ 1 ≤ g.Config.R ∧ g.Config.R ≤ 8) : IntKind.i64.wrap (g.Config.L * g.Config.R) = g.Config.L * g.Config.R := by
  have h1 : 0 ≤ g.Config.L * g.Config.R := Int.mul_nonneg (by omega) (by omega)
  have h2 : g.Config.L * g.Config.R ≤ 16 * 8 := Int.mul_le_mul (by omega) (by omega) (by omega) (by omega)
  exact wr0 (by omega) (by omega)
include hH
theorem xL : dU g = some (grB g) := by
  have hFU := FU
  have e := aYy hE bY 0 (by omega) (by omega) (Nat.zero_le _)
  rw [List.drop_zero] at e
  unfold dU grB
  by_cases c : 1 ≤ g.Config.N ∧ g.Config.N ≤ 1024 ∧ 1 ≤ g.Config.L ∧ g.Config.L ≤ 16 ∧ 1 ≤ g.Config.R ∧ g.Config.R ≤ 8
  · rw [bf (by simp; omega), aPv ⟨c.2.2.1, c.2.2.2.1, c.2.2.2.2⟩]
    by_cases k : (g.Hashes.length : Int) = g.Config.L * g.Config.R
    · rw [bf (by simp [k]), show (0 : Int) = ((0 : Nat) : Int) from rfl, e]
      have : cfB g = true := by unfold cfB; rw [decide_eq_true_eq]; exact ⟨c.1, c.2.1, c.2.2.1, c.2.2.2.1, c.2.2.2.2.1, c.2.2.2.2.2, k⟩
      rw [this]; rfl
    · rw [bt (by simp [k])]
      have : cfB g = false := by unfold cfB; rw [decide_eq_false_iff_not]; exact fun q => k q.2.2.2.2.2.2
      rw [this]; rfl
  · have : cfB g = false := by unfold cfB; rw [decide_eq_false_iff_not]; exact fun q => c ⟨q.1, q.2.1, q.2.2.1, q.2.2.2.1, q.2.2.2.2.1, q.2.2.2.2.2.1⟩
    rw [bt (by simp; omega), this]; rfl
end
structure GOK (g : aJ) : Prop where
  n1 : 1 ≤ g.Config.N
  n2 : g.Config.N ≤ 1024
  l1 : 1 ≤ g.Config.L
  l2 : g.Config.L ≤ 16
  r1 : 1 ≤ g.Config.R
  r2 : g.Config.R ≤ 8
  hl : (g.Hashes.length : Int) = g.Config.L * g.Config.R
  hs : hsB g.Hashes = true
  tr : trB g.Config.N g.Edges = true
  ti : tiB g.Config.L g.Edges = true
  fr : foB g.Config.N (fo g.Edges g.Config.L) = true
  rg : Rg g.Config.N g.Edges
theorem gok {g : aJ} (h : grB g = true) : GOK g := by
  unfold grB cfB at h
  simp only [Bool.and_eq_true, decide_eq_true_eq] at h
  obtain ⟨⟨a, b, c, d, e, f, k⟩, h1, h2, h3, h4⟩ := h
  exact ⟨a, b, c, d, e, f, k, h1, h2, h3, h4, (aHw h2).2.2⟩
end Go.Proofs.YtkdohhmacfoolaaGreat
