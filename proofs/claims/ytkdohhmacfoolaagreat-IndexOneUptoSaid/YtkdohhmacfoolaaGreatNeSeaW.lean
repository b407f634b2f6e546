/- Facts that the statement's proof is made of. No condition. -/
import Derived.Test.YtkdohhmacfoolaaGreatNeSeaQ
set_option linter.unusedVariables false
set_option linter.unusedSimpArgs false
set_option maxRecDepth 20000
set_option maxHeartbeats 1000000
namespace Go.Proofs.YtkdohhmacfoolaaGreat
open Go Go.AM Go.Pl Go.Pt
section
variable {g : aG} (hE : g.Edges.length < 1000000000) (h : GOK g)
include hE h
end
section
variable {hs : List bT} {V : Nat} {names : List Nat} (hh : ∀ h, h ∈ hs → HOK h) (hn : ∀ y, y ∈ names → y < 18446744073709551616) (hnl : names.length < 1000000000) (hV : V ≤ 61) (hR : hs.length ≤ 8)
include hh hn hnl
include hV hR
end
section
variable {g : aG} (hE : g.Edges.length < 1000000000) (h : GOK g) (hw : ∀ x, x ∈ g.Hashes → HOK x) {t v : Int} (h0 : 0 ≤ t) (ht : t < g.Config.L) (v0 : 0 ≤ v) (vn : v < g.Config.N)
include hE h hw h0 ht v0 vn
end
theorem aK0 (a b : List Int) (hab : a.length = b.length) (hl : a.length < 1000000000) : ∀ (m i : Nat), a.length < i + m → i ≤ a.length → rG m a b (i : Int) = some (decide (a.drop i = b.drop i))
 | 0, i, h, hi => by omega
 | m + 1, i, h, hi => by
  show aAq (rG m) a b _ = _
  unfold aAq
  by_cases c : i < a.length
  ·
   have c' : i < b.length := by omega
   rw [bt (nU c), bW c, aA, bW c', aA, wr1 i (by omega), cR c, cR c']
   by_cases q : a[i] = b[i]
   ·
    rw [bf (by simp [q]), aK0 a b hab hl m (i + 1) (by omega) c]; simp [q, -List.getElem_cons_drop]
   ·
    rw [bt (by simp [q])]; simp [q, -List.getElem_cons_drop]
  ·
   rw [bf (nY c), List.drop_eq_nil_of_le (by omega), List.drop_eq_nil_of_le (by omega)]; rfl
theorem aQu (a b : List Int) (hl : a.length < 1000000000) : tL a b = some (decide (a = b)) := by
 have hFU := FU
 unfold tL
 by_cases h : a.length = b.length
 ·
  rw [bf (by simp [h]), show (0 : Int) = ((0 : Nat) : Int) from rfl, aK0 a b h hl bF 0 (by omega) (Nat.zero_le _)]; rfl
 ·
  rw [bt (by simp; omega)]
  have : ¬ a = b := fun e => h (by rw [e])
  simp [this]
end Go.Proofs.YtkdohhmacfoolaaGreat
set_option linter.unusedVariables false
set_option linter.unusedSimpArgs false
set_option maxRecDepth 20000
set_option maxHeartbeats 1000000
namespace Go.Proofs.YtkdohhmacfoolaaGreat
open Go Go.AM Go.Pl Go.Pt
def HW (g : aG) : Prop := ∀ x, x ∈ g.Hashes → HOK x
theorem bIh {l : List aD} {e : aD} (h : e ∈ l) : ∃ k, fnd (gO e.U e.V) l 0 = some k := by
 cases q : fnd (gO e.U e.V) l 0 with
 | some k => exact ⟨k, rfl⟩
 | none =>
  have := aI0 q
  rw [List.find?_eq_none] at this
  have := this e h
  unfold gO at this
  simp at this
end Go.Proofs.YtkdohhmacfoolaaGreat
set_option linter.unusedVariables false
set_option linter.unusedSimpArgs false
set_option maxRecDepth 20000
set_option maxHeartbeats 1000000
namespace Go.Proofs.YtkdohhmacfoolaaGreat
open Go Go.AM Go.Pl Go.Pt
def acc (g : aG) (t : Int) (vs : List Nat) : List Nat := (List.range ((hsh g t).length * lvl g.Config.N)).map fun k => bTm (fun v : Nat => xW ((hsh g t).getD (k / lvl g.Config.N) ⟨0, 0⟩) (k % lvl g.Config.N) ((aEp (pf g t) (v : Int) g.Edges).map nmE)) vs
def lst (g : aG) (t : Int) (i : Nat) : List Nat := (List.range i).filter fun v : Nat => decide (pf g t (v : Int) = v)
theorem wfu {n : Int} (h : (Lit.int .u64 n).wf = true) : 0 ≤ n := by
 have h0 : (decide (IntKind.u64.min ≤ n) && decide (n ≤ IntKind.u64.max)) = true := h
 rw [Bool.and_eq_true, decide_eq_true_eq] at h0
 exact h0.1
abbrev WG (g : aG) (P1 P2 P3 : Prop) : Prop := P1 ∧ ((∀ y, y ∈ g.Hashes → ((Lit.int .u64 y.A).wf = true) ∧ ((Lit.int .u64 y.B).wf = true)) ∧ P2) ∧ P3
theorem WG.hw {g : aG} {P1 P2 P3 : Prop} (w : WG g P1 P2 P3) : HW g := fun x hx => ⟨wfu (w.2.1.1 x hx).1, wfu (w.2.1.1 x hx).2⟩
end Go.Proofs.YtkdohhmacfoolaaGreat
