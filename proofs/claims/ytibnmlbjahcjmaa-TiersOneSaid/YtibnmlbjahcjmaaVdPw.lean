/- Facts that the statement's proof is made of. No condition. -/
import Derived.Test.YtibnmlbjahcjmaaVdAmD
import Derived.Test.YtibnmlbjahcjmaaVdPl
import Derived.Test.YtibnmlbjahcjmaaVdPu
set_option linter.unusedVariables false
set_option linter.unusedSimpArgs false
namespace Go.Pl
open Go Go.AM
variable {α β : Type}
theorem idx_nat (l : List α) (k : Nat) : idx l (k : Int) = l[k]? := by simp [idx]
theorem idx_at {l : List α} {i : Int} {k : Nat} (h : i = k) : idx l i = l[k]? := by subst h; exact idx_nat l k
theorem idx_get {l : List α} {k : Nat} (h : k < l.length) : idx l (k : Int) = some l[k] := by rw [idx_nat]; exact List.getElem?_eq_getElem h
theorem stt_nat {l : List α} {k : Nat} (h : k < l.length) (x : α) : stt l (k : Int) x = some (l.set k x) := by
  unfold stt; rw [if_pos ⟨by omega, by omega⟩]; simp
theorem stt_at {l : List α} {i : Int} {k : Nat} (hi : i = k) (h : k < l.length) (x : α) : stt l i x = some (l.set k x) := by subst hi; exact stt_nat h x
theorem wr1 (k : Nat) (h : k < 4611686018427387904) : IntKind.i64.wrap ((k : Int) + 1) = ((k + 1 : Nat) : Int) := by rw [wr_i64 (by omega) (by omega)]; omega
theorem wr0 {n : Int} (h1 : -4611686018427387904 ≤ n) (h2 : n ≤ 4611686018427387904) : IntKind.i64.wrap n = n := wr_i64 (by omega) (by omega)
theorem some_bind' (x : α) (f : α → Option β) : (some x).bind f = f x := by cases h : f x <;> simp [h]
theorem bt {c : Bool} {x y : β} (h : c = true) : (bif c then x else y) = x := by subst h; simp
theorem bf {c : Bool} {x y : β} (h : c = false) : (bif c then x else y) = y := by subst h; simp
theorem gt' {b : Bool} {d : α} {o : Option α} (h : b = true) : gopt b d o = o := by subst h; simp [gopt]
theorem gf' {b : Bool} {d : α} {o : Option α} (h : b = false) : gopt b d o = some d := by subst h; simp [gopt]
theorem ck {b : Bool} (h : b = true) : chk b = some () := by subst h; simp [chk]
theorem appB_ok {b : Nat} {l xs : List α} (h : (l.length + xs.length) * b ≤ 140737488355328) : appB b l xs = some (l ++ xs) := by unfold appB; rw [if_pos h]
theorem app_ok {l xs : List α} (h : l.length + xs.length ≤ 4294967296) : app l xs = some (l ++ xs) := by unfold app; rw [if_pos h]
theorem mkc_ok {n : Int} (h : 0 ≤ n) (h' : n ≤ 4294967296) (z : α) : mkc n n z = some (List.replicate n.toNat z) := by unfold mkc; rw [if_pos ⟨h, Int.le_refl _, h'⟩]
theorem mkc_nat {n c : Int} {k : Nat} (h : n = k) (hc : n ≤ c) (h' : c ≤ 4294967296) (z : α) : mkc n c z = some (List.replicate k z) := by
  subst h; unfold mkc; rw [if_pos ⟨by omega, hc, h'⟩]; simp
theorem slc_nat {l : List α} {lo hi : Int} {a b : Nat} (h1 : lo = a) (h2 : hi = b) (h3 : a ≤ b) (h4 : b ≤ l.length) : slc l lo hi = some ((l.drop a).take (b - a)) := by
  subst h1; subst h2; unfold slc; rw [if_pos ⟨by omega, by omega, by omega⟩]; simp
theorem slc_from {l : List α} {lo : Int} {a : Nat} (h1 : lo = a) (h4 : a ≤ l.length) : slc l lo (l.length : Int) = some (l.drop a) := by
  rw [slc_nat h1 rfl h4 (Nat.le_refl _)]; congr 1; apply List.take_of_length_le; simp
theorem slc_to {l : List α} {hi : Int} {b : Nat} (h2 : hi = b) (h4 : b ≤ l.length) : slc l 0 hi = some (l.take b) := by
  have := slc_nat (l := l) (lo := ((0 : Nat) : Int)) (a := 0) rfl h2 (Nat.zero_le _) h4
  simpa using this
theorem drop_cons {l : List α} {k : Nat} (h : k < l.length) : l.drop k = l[k] :: l.drop (k + 1) := List.drop_eq_getElem_cons h
theorem take_snoc {l : List α} {k : Nat} (h : k < l.length) : l.take (k + 1) = l.take k ++ [l[k]] := by rw [List.take_add_one, List.getElem?_eq_getElem h]; rfl
theorem FUEL_gt : (1000000000 : Nat) < FUEL := by unfold FUEL; decide
def tab (n : Int) (f : Int → Int) : List Int := (List.range n.toNat).map fun (k : Nat) => f (k : Int)
theorem tab_len (n : Int) (f : Int → Int) : (tab n f).length = n.toNat := by simp [tab]
theorem tab_get {n : Int} {f : Int → Int} {k : Nat} (h : (k : Int) < n) : (tab n f)[k]? = some (f k) := by
  unfold tab; rw [List.getElem?_map, List.getElem?_range (by omega)]; rfl
theorem tab_idx {n : Int} {f : Int → Int} {x : Int} (h0 : 0 ≤ x) (h : x < n) : idx (tab n f) x = some (f x) := by
  rw [idx_at (k := x.toNat) (by omega), tab_get (by omega)]; congr 2; omega
theorem tab_ext {n : Int} {f g : Int → Int} (h : ∀ x, 0 ≤ x → x < n → f x = g x) : tab n f = tab n g := by
  unfold tab; apply List.map_congr_left; intro k hk; rw [List.mem_range] at hk; exact h k (by omega) (by omega)
theorem eq_tab {n : Int} {f : Int → Int} {p : List Int} (hl : p.length = n.toNat) (h : ∀ k : Nat, (k : Int) < n → p[k]? = some (f k)) : p = tab n f := by
  apply List.ext_getElem?
  intro k
  by_cases hk : k < p.length
  · rw [h k (by omega), tab_get (by omega)]
  · rw [List.getElem?_eq_none (by omega), List.getElem?_eq_none (by rw [tab_len]; omega)]
end Go.Pl
