/- Facts. No condition. -/
import Derived.Test.YtkdohhmacfoolaaGreatNgAudQ
set_option linter.unusedVariables false
set_option linter.unusedSimpArgs false
set_option maxRecDepth 20000
set_option maxHeartbeats 1000000
namespace Go.Proofs.YtkdohhmacfoolaaGreat
open Go Go.AM Go.Pl Go.Pt
theorem Rg.take {n : Int} {l : List aC} (h : Rg n l) (i : Nat) : Rg n (l.take i) := h.mono fun e he => List.mem_of_mem_take he
def hsB (l : List bV) : Bool := l.all fun h => decide (h.A < 2305843009213693951) && decide (h.B < 2305843009213693951)
def tiB (t : Int) (l : List aC) : Bool := l.all fun e => decide (e.Tier ≤ t)
theorem aZ1 (t : Int) (e : aC) (l : List aC) : tiB t (e :: l) = (decide (e.Tier ≤ t) && tiB t l) := rfl
theorem aPy (h : bV) (l : List bV) : hsB (h :: l) = ((decide (h.A < 2305843009213693951) && decide (h.B < 2305843009213693951)) && hsB l) := rfl
def cfB (g : aI) : Bool := decide (1 ≤ g.Config.N ∧ g.Config.N ≤ 1024 ∧ 1 ≤ g.Config.L ∧ g.Config.L ≤ 16 ∧ 1 ≤ g.Config.R ∧ g.Config.R ≤ 8 ∧ (g.Hashes.length : Int) = g.Config.L * g.Config.R)
def grB (g : aI) : Bool := cfB g && (hsB g.Hashes && (trB g.Config.N g.Edges && (tiB g.Config.L g.Edges && foB g.Config.N (fo g.Edges g.Config.L))))
theorem aMh {n : Int} {l : List aC} (h : trB n l = true) : 0 ≤ n ∧ n ≤ 1024 ∧ Rg n l := by
 unfold trB at h
 simp only [Bool.and_eq_true, decide_eq_true_eq] at h
 exact ⟨h.1.1, h.1.2, bS0 h.2⟩
theorem aJz {n : Int} {l : List aC} (h : Rg n l) (t : Int) : Rg n (fo l t) := h.mono fun e he => aIq he
section
variable {g : aI} (hE : g.Edges.length < 1000000000) (hH : g.Hashes.length < 1000000000)
include hE
theorem bQc (hT : trB g.Config.N g.Edges = true) : ∀ (m i : Nat), g.Edges.length < i + m → i + m ≤ bF → i ≤ g.Edges.length → nS m g g.Config g.Edges (g.Edges.length : Int) (i : Int) = some (tiB g.Config.L (g.Edges.drop i) && foB g.Config.N (fo g.Edges g.Config.L))
 | 0, i, h, _, hi => by omega
 | m + 1, i, h, hF, hi => by
  have hFU := FU
  obtain ⟨n0, n1, hr⟩ := aMh hT
  show aA6 (nS m) g g.Config g.Edges _ _ = _
  unfold aA6
  by_cases c : i < g.Edges.length
  ·
   rw [bt (nI c), bR c, aA, bP c, wr1 i (by omega)]
   by_cases q : g.Edges[i].Tier ≤ g.Config.L
   ·
    rw [bf (by simp; omega), bQc hT m (i + 1) (by omega) (by omega) c]
    rw [aZ1]; simp [q]
   ·
    rw [bt (by simp; omega)]
    rw [aZ1]; simp [q]
  ·
   rw [bf (nH c), nY hE, aA, hT, List.drop_eq_nil_of_le (by omega)]
   have := aPt g.Edges g.Config.L
   simp only [if_true]
   rw [aBg n0 n1 (by omega) (aJz hr _), aA]; rfl
theorem bQb : ∀ (m i : Nat), g.Hashes.length < i + m → i + m ≤ bF → i ≤ g.Hashes.length → nR m g g.Config g.Hashes (g.Hashes.length : Int) (i : Int) = some (hsB (g.Hashes.drop i) && (trB g.Config.N g.Edges && (tiB g.Config.L g.Edges && foB g.Config.N (fo g.Edges g.Config.L))))
 | 0, i, h, _, hi => by omega
 | m + 1, i, h, hF, hi => by
  have hFU := FU
  show aA5 (nR m) g g.Config g.Hashes _ _ = _
  unfold aA5
  by_cases c : i < g.Hashes.length
  ·
   rw [bt (nI c), bR c, aA, bP c, wr1 i (by omega)]
   by_cases q : g.Hashes[i].A < 2305843009213693951 ∧ g.Hashes[i].B < 2305843009213693951
   ·
    rw [bf (by simp; omega), bQb m (i + 1) (by omega) (by omega) c]
    rw [aPy]; simp [q]
   ·
    rw [bt (by simp; omega)]
    have : (decide (g.Hashes[i].A < 2305843009213693951) && decide (g.Hashes[i].B < 2305843009213693951)) = false := by simp; omega
    rw [aPy, this]; rfl
  ·
   rw [bf (nH c), kK hE, aA, List.drop_eq_nil_of_le (by omega)]
   cases hT : trB g.Config.N g.Edges with
   | false => rfl
   | true =>
    rw [bf (c := !true) rfl, show (0 : Int) = ((0 : Nat) : Int) from rfl, bQc hE hT bF 0 (by omega) (by omega) (Nat.zero_le _)]; rfl
omit hE in
theorem bDb (h : 1 ≤ g.Config.L ∧ g.Config.L ≤ 16 ∧ 1 ≤ g.Config.R ∧ g.Config.R ≤ 8) : IntKind.i64.wrap (g.Config.L * g.Config.R) = g.Config.L * g.Config.R := by
 have h1 : 0 ≤ g.Config.L * g.Config.R := Int.mul_nonneg (by omega) (by omega)
 have h2 : g.Config.L * g.Config.R ≤ 16 * 8 := Int.mul_le_mul (by omega) (by omega) (by omega) (by omega)
 exact wr0 (by omega) (by omega)
include hH
theorem iB : eW g = some (grB g) := by
 have hFU := FU
 have e := bQb hE bF 0 (by omega) (by omega) (Nat.zero_le _)
 rw [List.drop_zero] at e
 unfold eW grB
 by_cases c : 1 ≤ g.Config.N ∧ g.Config.N ≤ 1024 ∧ 1 ≤ g.Config.L ∧ g.Config.L ≤ 16 ∧ 1 ≤ g.Config.R ∧ g.Config.R ≤ 8
 ·
  rw [bf (by simp; omega), bDb ⟨c.2.2.1, c.2.2.2.1, c.2.2.2.2⟩]
  by_cases k : (g.Hashes.length : Int) = g.Config.L * g.Config.R
  ·
   rw [bf (by simp [k]), show (0 : Int) = ((0 : Nat) : Int) from rfl, e]
   have : cfB g = true := by unfold cfB; rw [decide_eq_true_eq]; exact ⟨c.1, c.2.1, c.2.2.1, c.2.2.2.1, c.2.2.2.2.1, c.2.2.2.2.2, k⟩
   rw [this]; rfl
  ·
   rw [bt (by simp [k])]
   have : cfB g = false := by unfold cfB; rw [decide_eq_false_iff_not]; exact fun q => k q.2.2.2.2.2.2
   rw [this]; rfl
 ·
  have : cfB g = false := by unfold cfB; rw [decide_eq_false_iff_not]; exact fun q => c ⟨q.1, q.2.1, q.2.2.1, q.2.2.2.1, q.2.2.2.2.1, q.2.2.2.2.2.1⟩
  rw [bt (by simp; omega), this]; rfl
end
structure GOK (g : aI) : Prop where
  n1 : 1 ≤ g.Config.N
  n2 : g.Config.N ≤ 1024
  l1 : 1 ≤ g.Config.L
  l2 : g.Config.L ≤ 16
  r1 : 1 ≤ g.Config.R
  r2 : g.Config.R ≤ 8
  hl : (g.Hashes.length : Int) = g.Config.L * g.Config.R
  hs : hsB g.Hashes = true
  tr : trB g.Config.N g.Edges = true
  ti : tiB g.Config.L g.Edges = true
  fr : foB g.Config.N (fo g.Edges g.Config.L) = true
  rg : Rg g.Config.N g.Edges
theorem gok {g : aI} (h : grB g = true) : GOK g := by
 unfold grB cfB at h
 simp only [Bool.and_eq_true, decide_eq_true_eq] at h
 obtain ⟨⟨a, b, c, d, e, f, k⟩, h1, h2, h3, h4⟩ := h
 exact ⟨a, b, c, d, e, f, k, h1, h2, h3, h4, (aMh h2).2.2⟩
open Go Go.AM Go.Pl Go.Pt
theorem aI5 (a b : List Int) (hab : a.length = b.length) (hl : a.length < 1000000000) : ∀ (m i : Nat), a.length < i + m → i ≤ a.length → jX m a b (a.length : Int) (i : Int) = some (decide (a.drop i = b.drop i))
 | 0, i, h, hi => by omega
 | m + 1, i, h, hi => by
  show tU (jX m) a b _ _ = _
  unfold tU
  by_cases c : i < a.length
  ·
   have c' : i < b.length := by omega
   rw [bt (nI c), bR c, aA, bR c', aA, wr1 i (by omega), bP c, bP c']
   by_cases q : a[i] = b[i]
   ·
    rw [bf (by simp [q]), aI5 a b hab hl m (i + 1) (by omega) c]; simp [q, -List.getElem_cons_drop]
   ·
    rw [bt (by simp [q])]; simp [q, -List.getElem_cons_drop]
  ·
   rw [bf (nH c), List.drop_eq_nil_of_le (by omega), List.drop_eq_nil_of_le (by omega)]; rfl
theorem aR1 (a b : List Int) (hl : a.length < 1000000000) : oU a b = some (decide (a = b)) := by
 have hFU := FU
 unfold oU
 by_cases h : a.length = b.length
 ·
  rw [bf (by simp [h]), show (0 : Int) = ((0 : Nat) : Int) from rfl, aI5 a b h hl bF 0 (by omega) (Nat.zero_le _)]; rfl
 ·
  rw [bt (by simp; omega)]
  have : ¬ a = b := fun e => h (by rw [e])
  simp [this]
theorem aNg (a b : List Int) (hab : a.length = b.length) (hl : a.length < 1000000000) : ∀ (m i : Nat), a.length < i + m → i ≤ a.length → tC m a b (i : Int) = some (decide (a.drop i = b.drop i))
 | 0, i, h, hi => by omega
 | m + 1, i, h, hi => by
  show aDw (tC m) a b _ = _
  unfold aDw
  by_cases c : i < a.length
  ·
   have c' : i < b.length := by omega
   rw [bt (nI c), bR c, aA, bR c', aA, wr1 i (by omega), bP c, bP c']
   by_cases q : a[i] = b[i]
   ·
    rw [bf (by simp [q]), aNg a b hab hl m (i + 1) (by omega) c]; simp [q, -List.getElem_cons_drop]
   ·
    rw [bt (by simp [q])]; simp [q, -List.getElem_cons_drop]
  ·
   rw [bf (nH c), List.drop_eq_nil_of_le (by omega), List.drop_eq_nil_of_le (by omega)]; rfl
theorem aVr (a b : List Int) (hl : a.length < 1000000000) : aAx a b = some (decide (a = b)) := by
 have hFU := FU
 unfold aAx
 by_cases h : a.length = b.length
 ·
  rw [bf (by simp [h]), show (0 : Int) = ((0 : Nat) : Int) from rfl, aNg a b h hl bF 0 (by omega) (Nat.zero_le _)]; rfl
 ·
  rw [bt (by simp; omega)]
  have : ¬ a = b := fun e => h (by rw [e])
  simp [this]
theorem bJq (x y : aC) : ((x.U == y.U) && ((x.V == y.V) && (x.Tier == y.Tier))) = decide (x = y) := by
 cases x with | mk a b c => cases y with | mk d e f =>
 by_cases h1 : a = d <;> by_cases h2 : b = e <;> by_cases h3 : c = f <;> simp [h1, h2, h3]
theorem aNd (a b : List aC) (hab : a.length = b.length) (hl : a.length < 1000000000) : ∀ (m i : Nat), a.length < i + m → i ≤ a.length → tA m a b (i : Int) = some (decide (a.drop i = b.drop i))
 | 0, i, h, hi => by omega
 | m + 1, i, h, hi => by
  show aDu (tA m) a b _ = _
  unfold aDu
  by_cases c : i < a.length
  ·
   have c' : i < b.length := by omega
   rw [bt (nI c), bR c, aA, bR c', aA, wr1 i (by omega), bP c, bP c', bJq]
   by_cases q : a[i] = b[i]
   ·
    rw [bf (by simp [q]), aNd a b hab hl m (i + 1) (by omega) c]; simp [q, -List.getElem_cons_drop]
   ·
    rw [bt (by simp [q])]; simp [q, -List.getElem_cons_drop]
  ·
   rw [bf (nH c), List.drop_eq_nil_of_le (by omega), List.drop_eq_nil_of_le (by omega)]; rfl
theorem aVp (a b : List aC) (hl : a.length < 1000000000) : aAw a b = some (decide (a = b)) := by
 have hFU := FU
 unfold aAw
 by_cases h : a.length = b.length
 ·
  rw [bf (by simp [h]), show (0 : Int) = ((0 : Nat) : Int) from rfl, aNd a b h hl bF 0 (by omega) (Nat.zero_le _)]; rfl
 ·
  rw [bt (by simp; omega)]
  have : ¬ a = b := fun e => h (by rw [e])
  simp [this]
def kf (g : aI) : List aC := fo g.Edges g.Config.L
theorem bEa {n : Int} (hn : n ≤ 1024) (l : List aC) : (pt n l).length < 1000000000 := by rw [bCp]; omega
section
variable {g : aI} (hE : g.Edges.length < 1000000000) (hH : g.Hashes.length < 1000000000)
include hE hH
theorem aEp : nZ g = some (if grB g then pt g.Config.N (kf g) else []) := by
 unfold nZ
 rw [iB hE hH, aA]
 cases h : grB g with
 | false => rfl
 | true =>
  have k := gok h
  have := aPt g.Edges g.Config.L
  rw [bf (c := !true) rfl, nY hE, aA, k.tr]
  simp only [if_true]
  rw [aHc (by omega) (by have := k.n1; omega) k.n2 (aJz k.rg _), aA]; rfl
theorem aZs : aH3 g = some (if grB g then pt g.Config.N g.Edges else []) := by
 unfold aH3
 rw [iB hE hH, aA]
 cases h : grB g with
 | false => rfl
 | true =>
  have k := gok h
  rw [bf (c := !true) rfl, aHc hE (by have := k.n1; omega) k.n2 k.rg, aA]; rfl
theorem aRr : yB g = some (grB g && decide (pt g.Config.N (kf g) = pt g.Config.N g.Edges)) := by
 unfold yB
 rw [iB hE hH, aA, aEp hE hH, aZs hE hH]
 cases h : grB g with
 | false => rfl
 | true =>
  simp only [if_true]
  rw [gtt, aA, gtt, aA, gtt, aR1 _ _ (bEa (gok h).n2 _), aA]
end
section
variable {g : aI} (hE : g.Edges.length < 1000000000) (h : GOK g)
include hE h
theorem aE1 : jU g = some (pt g.Config.N (kf g)) := by
 have := aPt g.Edges g.Config.L
 have h3 := h.n1
 unfold jU
 rw [aGb hE, aA, aQn (by omega) h.n2 (by omega) (aJz h.rg _), aA]; rfl
theorem bCv : aCd g = some (pt g.Config.N g.Edges) := by
 have h3 := h.n1
 unfold aCd
 rw [aQn (by omega) h.n2 hE h.rg, aA]
end
open Go Go.AM Go.Pl Go.Pt
theorem InR.app {n : Nat} {l l' : List E} (h : ∀ e, e ∈ l → e ∈ l') (hr : InR n l') : InR n (l' ++ l) := fun e he => by
 rcases List.mem_append.1 he with m | m
 ·
  exact hr e m
 ·
  exact hr e (h e m)
def bare (l : List aC) : List aC := l.map fun e => aC.mk e.U e.V 0
end Go.Proofs.YtkdohhmacfoolaaGreat
