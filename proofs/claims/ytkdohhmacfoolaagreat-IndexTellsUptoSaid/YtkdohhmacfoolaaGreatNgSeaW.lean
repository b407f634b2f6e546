/- Facts. No condition. -/
import Derived.Test.YtkdohhmacfoolaaGreatNgSeaQ
set_option linter.unusedVariables false
set_option linter.unusedSimpArgs false
set_option maxRecDepth 20000
set_option maxHeartbeats 1000000
namespace Go.Proofs.YtkdohhmacfoolaaGreat
open Go Go.AM Go.Pl Go.Pt
section
variable {g : aI} (hE : g.Edges.length < 1000000000) (h : GOK g)
include hE h
end
section
variable {hs : List bV} {V : Nat} {names : List Nat} (hh : ∀ h, h ∈ hs → HOK h) (hn : ∀ y, y ∈ names → y < 18446744073709551616) (hnl : names.length < 1000000000) (hV : V ≤ 61) (hR : hs.length ≤ 8)
include hh hn hnl
include hV hR
end
section
variable {g : aI} (hE : g.Edges.length < 1000000000) (h : GOK g) (hw : ∀ x, x ∈ g.Hashes → HOK x) {t v : Int} (h0 : 0 ≤ t) (ht : t < g.Config.L) (v0 : 0 ≤ v) (vn : v < g.Config.N)
include hE h hw h0 ht v0 vn
end
theorem bK1 (x y : bV) : ((x.A == y.A) && (x.B == y.B)) = decide (x = y) := by
 cases x with | mk a b => cases y with | mk d e =>
 by_cases h1 : a = d <;> by_cases h2 : b = e <;> simp [h1, h2]
theorem aNi (a b : List bV) (hab : a.length = b.length) (hl : a.length < 1000000000) : ∀ (m i : Nat), a.length < i + m → i ≤ a.length → tF m a b (i : Int) = some (decide (a.drop i = b.drop i))
 | 0, i, h, hi => by omega
 | m + 1, i, h, hi => by
  show aE0 (tF m) a b _ = _
  unfold aE0
  by_cases c : i < a.length
  ·
   have c' : i < b.length := by omega
   rw [bt (nI c), bR c, aA, bR c', aA, wr1 i (by omega), bP c, bP c', bK1]
   by_cases q : a[i] = b[i]
   ·
    rw [bf (by simp [q]), aNi a b hab hl m (i + 1) (by omega) c]; simp [q, -List.getElem_cons_drop]
   ·
    rw [bt (by simp [q])]; simp [q, -List.getElem_cons_drop]
  ·
   rw [bf (nH c), List.drop_eq_nil_of_le (by omega), List.drop_eq_nil_of_le (by omega)]; rfl
theorem aVt (a b : List bV) (hl : a.length < 1000000000) : aAz a b = some (decide (a = b)) := by
 have hFU := FU
 unfold aAz
 by_cases h : a.length = b.length
 ·
  rw [bf (by simp [h]), show (0 : Int) = ((0 : Nat) : Int) from rfl, aNi a b h hl bF 0 (by omega) (Nat.zero_le _)]; rfl
 ·
  rw [bt (by simp; omega)]
  have : ¬ a = b := fun e => h (by rw [e])
  simp [this]
theorem aNe (a b : List Int) (hab : a.length = b.length) (hl : a.length < 1000000000) : ∀ (m i : Nat), a.length < i + m → i ≤ a.length → tB m a b (i : Int) = some (decide (a.drop i = b.drop i))
 | 0, i, h, hi => by omega
 | m + 1, i, h, hi => by
  show aDv (tB m) a b _ = _
  unfold aDv
  by_cases c : i < a.length
  ·
   have c' : i < b.length := by omega
   rw [bt (nI c), bR c, aA, bR c', aA, wr1 i (by omega), bP c, bP c']
   by_cases q : a[i] = b[i]
   ·
    rw [bf (by simp [q]), aNe a b hab hl m (i + 1) (by omega) c]; simp [q, -List.getElem_cons_drop]
   ·
    rw [bt (by simp [q])]; simp [q, -List.getElem_cons_drop]
  ·
   rw [bf (nH c), List.drop_eq_nil_of_le (by omega), List.drop_eq_nil_of_le (by omega)]; rfl
theorem aVq (a b : List Int) (hl : a.length < 1000000000) : wP a b = some (decide (a = b)) := by
 have hFU := FU
 unfold wP
 by_cases h : a.length = b.length
 ·
  rw [bf (by simp [h]), show (0 : Int) = ((0 : Nat) : Int) from rfl, aNe a b h hl bF 0 (by omega) (Nat.zero_le _)]; rfl
 ·
  rw [bt (by simp; omega)]
  have : ¬ a = b := fun e => h (by rw [e])
  simp [this]
open Go Go.AM Go.Pl Go.Pt
def HW (g : aI) : Prop := ∀ x, x ∈ g.Hashes → HOK x
theorem bN9 {l : List aC} {e : aC} (h : e ∈ l) : ∃ k, fnd (gK e.U e.V) l 0 = some k := by
 cases q : fnd (gK e.U e.V) l 0 with
 | some k => exact ⟨k, rfl⟩
 | none =>
  have := aJy q
  rw [List.find?_eq_none] at this
  have := this e h
  unfold gK at this
  simp at this
def acc (g : aI) (t : Int) (vs : List Nat) : List Nat := (List.range ((hsh g t).length * lvl g.Config.N)).map fun k => bYq (fun v : Nat => aAf ((hsh g t).getD (k / lvl g.Config.N) ⟨0, 0⟩) (k % lvl g.Config.N) ((aIh (pf g t) (v : Int) g.Edges).map nmE)) vs
def lst (g : aI) (t : Int) (i : Nat) : List Nat := (List.range i).filter fun v : Nat => decide (pf g t (v : Int) = v)
end Go.Proofs.YtkdohhmacfoolaaGreat
