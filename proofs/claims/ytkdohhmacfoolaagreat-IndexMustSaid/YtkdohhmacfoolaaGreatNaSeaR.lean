/- Facts that the statement's proof is made of. No condition. -/
import Derived.Test.YtkdohhmacfoolaaGreatNaSeaQ
set_option linter.unusedVariables false
set_option linter.unusedSimpArgs false
set_option maxRecDepth 20000
set_option maxHeartbeats 1000000
namespace Go.Proofs.YtkdohhmacfoolaaGreat
open Go Go.AM Go.Pl Go.Pt
section
variable {g : GGraph} (hE : g.Edges.length < 1000000000) (h : GOK g)
include hE h
end
section
variable {hs : List GHash} {V : Nat} {names : List Nat} (hh : ∀ h, h ∈ hs → HOK h) (hn : ∀ y, y ∈ names → y < 18446744073709551616) (hnl : names.length < 1000000000) (hV : V ≤ 61) (hR : hs.length ≤ 8)
include hh hn hnl
include hV hR
end
section
variable {g : GGraph} (hE : g.Edges.length < 1000000000) (h : GOK g) (hw : ∀ x, x ∈ g.Hashes → HOK x) {t v : Int} (h0 : 0 ≤ t) (ht : t < g.Config.L) (v0 : 0 ≤ v) (vn : v < g.Config.N)
include hE h hw h0 ht v0 vn
end
theorem ref05Same_L (a b : List Int) (hab : a.length = b.length) (hl : a.length < 1000000000) : ∀ (m i : Nat), a.length < i + m → i ≤ a.length → ref05Same_L1 m a b (i : Int) = some (decide (a.drop i = b.drop i))
  | 0, i, h, hi => by omega
  | m + 1, i, h, hi => by
    show ref05Same_B1 (ref05Same_L1 m) a b _ = _
    unfold ref05Same_B1
    by_cases c : i < a.length
    · have c' : i < b.length := by omega
      rw [bt (lt_t c), idx_get c, some_bind', idx_get c', some_bind', wr1 i (by omega), drop_cons c, drop_cons c']
      by_cases q : a[i] = b[i]
      · rw [bf (by simp [q]), ref05Same_L a b hab hl m (i + 1) (by omega) c]; simp [q, -List.getElem_cons_drop]
      · rw [bt (by simp [q])]; simp [q, -List.getElem_cons_drop]
    · rw [bf (lt_f c), List.drop_eq_nil_of_le (by omega), List.drop_eq_nil_of_le (by omega)]; rfl
theorem ref05Same_eq (a b : List Int) (hl : a.length < 1000000000) : ref05Same_m a b = some (decide (a = b)) := by
  have hFU := FU
  unfold ref05Same_m
  by_cases h : a.length = b.length
  · rw [bf (by simp [h]), show (0 : Int) = ((0 : Nat) : Int) from rfl, ref05Same_L a b h hl FUEL 0 (by omega) (Nat.zero_le _)]; rfl
  · rw [bt (by simp; omega)]
    have : ¬ a = b := fun e => h (by rw [e])
    simp [this]
end Go.Proofs.YtkdohhmacfoolaaGreat
