/- Facts that the statement's proof is made of. No condition. -/
import Derived.Test.YtibnmlbjahcjmaaVdApt
set_option linter.unusedVariables false
set_option linter.unusedSimpArgs false
namespace Go.Pt
def xorS {α : Type} (f : α → Nat) : List α → Nat
  | [] => 0
  | a :: l => f a ^^^ xorS f l
section
variable {α : Type}
theorem xorS_fold (f : α → Nat) : ∀ (l : List α) (w : Nat), l.foldl (fun w x => w ^^^ f x) w = w ^^^ xorS f l
  | [], w => by simp [xorS]
  | a :: l, w => by rw [List.foldl_cons, xorS_fold f l]; simp [xorS, Nat.xor_assoc]
theorem xorS_congr {f g : α → Nat} {l : List α} (h : ∀ x, x ∈ l → f x = g x) : xorS f l = xorS g l := by
  induction l with
  | nil => rfl
  | cons a l ih => simp only [xorS]; rw [h a (by simp), ih fun x hx => h x (by simp [hx])]
end
end Go.Pt
namespace Go.Proofs.Ytibnmlbjahcjmaa
open Go.Pt
theorem wordN_eq (h : GHash) (j : Nat) (names : List Nat) : wordN h j names = xorS (fun x => if valN h x < bndL j then x else 0) names := by
  have : ∀ w : Nat, names.foldl (fun w x => if valN h x < bndL j then w ^^^ x else w) w = names.foldl (fun w x => w ^^^ (if valN h x < bndL j then x else 0)) w := by
    induction names with
    | nil => intro w; rfl
    | cons a l ih =>
      intro w
      rw [List.foldl_cons, List.foldl_cons, ih]
      congr 1
      split <;> simp
  unfold wordN
  rw [this, xorS_fold]; simp
theorem valN_lt (h : GHash) (x : Nat) : valN h x < 2305843009213693951 := Nat.mod_lt _ (by decide)
theorem bnd_zero : bndL 0 = 2305843009213693951 := rfl
theorem wordN_zero (h : GHash) (names : List Nat) : wordN h 0 names = xorS (fun x => x) names := by
  rw [wordN_eq]; exact xorS_congr fun x _ => if_pos (by rw [bnd_zero]; exact valN_lt h x)
theorem wordsN_cons {h : GHash} {hs : List GHash} {V : Nat} (hV : 0 < V) (names : List Nat) : ∃ r, wordsN (h :: hs) V names = xorS (fun x => x) names :: r := by
  obtain ⟨k, hk⟩ : ∃ k, (h :: hs).length * V = k + 1 := ⟨(h :: hs).length * V - 1, by
    have : 0 < (h :: hs).length * V := Nat.mul_pos (by simp) hV
    omega⟩
  unfold wordsN
  have e0 : wordN ((h :: hs).getD 0 ⟨0, 0⟩) 0 names = xorS (fun x => x) names := wordN_zero h names
  rw [hk, List.range_succ_eq_map, List.map_cons, Nat.zero_div, Nat.zero_mod, e0]
  exact ⟨_, rfl⟩
theorem srch_one_aux (f : GEdge → Nat) {ws : List Nat} {e : GEdge} {r : List Nat} (h : ws = f e :: r) : (ws.findSome? fun w => [e].find? fun e => f e == w) = some e := by
  subst h
  rw [List.findSome?_cons, List.find?_cons]
  simp
theorem srchE_one {hs : List GHash} {V : Nat} (hh : hs ≠ []) (hV : 0 < V) (e : GEdge) : srchE hs V [e] = some e := by
  cases hs with
  | nil => exact absurd rfl hh
  | cons h hs =>
    unfold srchE
    generalize hf : (fun e => nmQ (uv e)) = f
    obtain ⟨r, hr⟩ := wordsN_cons (h := h) (hs := hs) hV ([e].map f)
    have h2 : xorS (fun x => x) ([e].map f) = f e := by simp [xorS]
    rw [h2] at hr
    have := srch_one_aux f hr
    rw [← hf] at this ⊢
    exact this
theorem srchE_nil {hs : List GHash} {V : Nat} : srchE hs V [] = none := by
  unfold srchE
  rw [List.findSome?_eq_none_iff]
  intro w _; rfl
end Go.Proofs.Ytibnmlbjahcjmaa
