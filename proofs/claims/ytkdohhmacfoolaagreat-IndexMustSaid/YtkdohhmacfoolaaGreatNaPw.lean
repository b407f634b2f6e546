/- Facts that the statement's proof is made of. No condition. -/
import Derived.Test.YtkdohhmacfoolaaGreatNaAmD
import Derived.Test.YtkdohhmacfoolaaGreatNaPl
import Derived.Test.YtkdohhmacfoolaaGreatNaPu
set_option linter.unusedVariables false
set_option linter.unusedSimpArgs false
namespace Go.Pl
open Go Go.AM
variable {α β : Type}
theorem idx_nat (l : List α) (k : Nat) : idx l (k : Int) = l[k]? := by simp [idx]
theorem idx_at {l : List α} {i : Int} {k : Nat} (h : i = k) : idx l i = l[k]? := by subst h; exact idx_nat l k
theorem idx_get {l : List α} {k : Nat} (h : k < l.length) : idx l (k : Int) = some l[k] := by rw [idx_nat]; exact List.getElem?_eq_getElem h
theorem stt_nat {l : List α} {k : Nat} (h : k < l.length) (x : α) : stt l (k : Int) x = some (l.set k x) := by
  unfold stt; rw [if_pos ⟨by omega, by omega⟩]; simp
theorem wr1 (k : Nat) (h : k < 4611686018427387904) : IntKind.i64.wrap ((k : Int) + 1) = ((k + 1 : Nat) : Int) := by rw [wr_i64 (by omega) (by omega)]; omega
theorem some_bind' (x : α) (f : α → Option β) : (some x).bind f = f x := by cases h : f x <;> simp [h]
theorem bt {c : Bool} {x y : β} (h : c = true) : (bif c then x else y) = x := by subst h; simp
theorem bf {c : Bool} {x y : β} (h : c = false) : (bif c then x else y) = y := by subst h; simp
theorem gt' {b : Bool} {d : α} {o : Option α} (h : b = true) : gopt b d o = o := by subst h; simp [gopt]
theorem gf' {b : Bool} {d : α} {o : Option α} (h : b = false) : gopt b d o = some d := by subst h; simp [gopt]
theorem mkc_ok {n : Int} (h : 0 ≤ n) (h' : n ≤ 4294967296) (z : α) : mkc n n z = some (List.replicate n.toNat z) := by unfold mkc; rw [if_pos ⟨h, Int.le_refl _, h'⟩]
theorem drop_cons {l : List α} {k : Nat} (h : k < l.length) : l.drop k = l[k] :: l.drop (k + 1) := List.drop_eq_getElem_cons h
theorem FUEL_gt : (1000000000 : Nat) < FUEL := by unfold FUEL; decide
def tab (n : Int) (f : Int → Int) : List Int := (List.range n.toNat).map fun (k : Nat) => f (k : Int)
theorem tab_len (n : Int) (f : Int → Int) : (tab n f).length = n.toNat := by simp [tab]
theorem tab_get {n : Int} {f : Int → Int} {k : Nat} (h : (k : Int) < n) : (tab n f)[k]? = some (f k) := by
  unfold tab; rw [List.getElem?_map, List.getElem?_range (by omega)]; rfl
theorem eq_tab {n : Int} {f : Int → Int} {p : List Int} (hl : p.length = n.toNat) (h : ∀ k : Nat, (k : Int) < n → p[k]? = some (f k)) : p = tab n f := by
  apply List.ext_getElem?
  intro k
  by_cases hk : k < p.length
  · rw [h k (by omega), tab_get (by omega)]
  · rw [List.getElem?_eq_none (by omega), List.getElem?_eq_none (by rw [tab_len]; omega)]
end Go.Pl
