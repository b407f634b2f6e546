/- Facts that the statement's proof is made of. No condition. -/
import Derived.Test.YtibnmlbjahcjmaaQsApt
set_option linter.unusedVariables false
set_option linter.unusedSimpArgs false
namespace Go.Pt
def xorS {α : Type} (f : α → Nat) : List α → Nat
  | [] => 0
  | a :: l => f a ^^^ xorS f l
section
variable {α : Type}
theorem xorS_fold (f : α → Nat) : ∀ (l : List α) (w : Nat), l.foldl (fun w x => w ^^^ f x) w = w ^^^ xorS f l
  | [], w => by simp [xorS]
  | a :: l, w => by rw [List.foldl_cons, xorS_fold f l]; simp [xorS, Nat.xor_assoc]
theorem xorS_app (f : α → Nat) (l m : List α) : xorS f (l ++ m) = xorS f l ^^^ xorS f m := by
  induction l with
  | nil => simp [xorS]
  | cons a l ih => simp [xorS, ih, Nat.xor_assoc]
theorem xor4 (a b c d : Nat) : a ^^^ b ^^^ (c ^^^ d) = a ^^^ c ^^^ (b ^^^ d) := by
  rw [Nat.xor_assoc, Nat.xor_assoc]; congr 1; rw [← Nat.xor_assoc, ← Nat.xor_assoc, Nat.xor_comm b c]
theorem xorS_add (f g : α → Nat) (l : List α) : xorS (fun x => f x ^^^ g x) l = xorS f l ^^^ xorS g l := by
  induction l with
  | nil => simp [xorS]
  | cons a l ih => simp only [xorS]; rw [ih, xor4]
theorem xorS_zero {f : α → Nat} {l : List α} (h : ∀ x, x ∈ l → f x = 0) : xorS f l = 0 := by
  induction l with
  | nil => rfl
  | cons a l ih => simp only [xorS]; rw [h a (by simp), ih fun x hx => h x (by simp [hx])]; rfl
theorem xorS_congr {f g : α → Nat} {l : List α} (h : ∀ x, x ∈ l → f x = g x) : xorS f l = xorS g l := by
  induction l with
  | nil => rfl
  | cons a l ih => simp only [xorS]; rw [h a (by simp), ih fun x hx => h x (by simp [hx])]
theorem xorS_swap {β : Type} (f : α → β → Nat) (l : List α) (m : List β) : xorS (fun a => xorS (f a) m) l = xorS (fun b => xorS (fun a => f a b) l) m := by
  induction l with
  | nil => simp only [xorS]; exact (xorS_zero fun _ _ => rfl).symm
  | cons a l ih => simp only [xorS]; rw [ih, xorS_add]
theorem xorS_one [DecidableEq α] {l : List α} (hd : l.Nodup) {a : α} (ha : a ∈ l) (c : Nat) : xorS (fun x => if x = a then c else 0) l = c := by
  induction l with
  | nil => cases ha
  | cons b l ih =>
    rw [List.nodup_cons] at hd
    simp only [xorS]
    rcases List.mem_cons.1 ha with h | h
    · subst h
      rw [if_pos rfl, xorS_zero fun x hx => if_neg fun e => hd.1 (by subst e; exact hx)]; simp
    · rw [if_neg fun e => hd.1 (by subst e; exact h), ih hd.2 h]; simp
theorem xorS_filter (p : α → Bool) (f : α → Nat) (l : List α) : xorS f (l.filter p) = xorS (fun x => if p x then f x else 0) l := by
  induction l with
  | nil => rfl
  | cons a l ih =>
    rw [List.filter_cons]
    simp only [xorS]
    cases h : p a with
    | true => simp only [if_true, xorS, ih]
    | false => simp only [if_false, Bool.false_eq_true, ih]; simp
theorem xorS_map {β : Type} (f : α → Nat) (g : β → α) (l : List β) : xorS f (l.map g) = xorS (fun x => f (g x)) l := by
  induction l with
  | nil => rfl
  | cons a l ih => simp only [List.map_cons, xorS, ih]
end
end Go.Pt
namespace Go.Proofs.Ytibnmlbjahcjmaa
open Go.Pt
theorem wordN_eq (h : GHash) (j : Nat) (names : List Nat) : wordN h j names = xorS (fun x => if valN h x < bnd j then x else 0) names := by
  have : ∀ w : Nat, names.foldl (fun w x => if valN h x < bnd j then w ^^^ x else w) w = names.foldl (fun w x => w ^^^ (if valN h x < bnd j then x else 0)) w := by
    induction names with
    | nil => intro w; rfl
    | cons a l ih =>
      intro w
      rw [List.foldl_cons, List.foldl_cons, ih]
      congr 1
      split <;> simp
  unfold wordN
  rw [this, xorS_fold]; simp
theorem valN_lt (h : GHash) (x : Nat) : valN h x < 2305843009213693951 := Nat.mod_lt _ (by decide)
theorem bnd_zero : bnd 0 = 2305843009213693951 := rfl
theorem wordN_zero (h : GHash) (names : List Nat) : wordN h 0 names = xorS (fun x => x) names := by
  rw [wordN_eq]; exact xorS_congr fun x _ => if_pos (by rw [bnd_zero]; exact valN_lt h x)
theorem words_cancel {p : Int → Int} {N : Nat} (hid : ∀ x, p (p x) = p x) {l : List E} (hr : ∀ q, q ∈ l → 0 ≤ p q.1 ∧ p q.1 < (N : Int) ∧ 0 ≤ p q.2 ∧ p q.2 < (N : Int)) (h : GHash) (j : Nat) :
    xorS (fun v : Nat => wordN h j ((cutQ p (v : Int) l).map nmQ)) ((List.range N).filter fun v : Nat => decide (p (v : Int) = v)) = 0 := by
  have e1 : ∀ v : Nat, v ∈ (List.range N).filter (fun v : Nat => decide (p (v : Int) = v)) → wordN h j ((cutQ p (v : Int) l).map nmQ) = xorS (fun q => (if v = (p q.1).toNat then (if valN h (nmQ q) < bnd j then nmQ q else 0) else 0) ^^^ (if v = (p q.2).toNat then (if valN h (nmQ q) < bnd j then nmQ q else 0) else 0)) l := by
    intro v hv
    rw [List.mem_filter] at hv
    have hp : p (v : Int) = v := by simpa using hv.2
    rw [wordN_eq, xorS_map]
    unfold cutQ
    rw [xorS_filter]
    refine xorS_congr fun q hq => ?_
    obtain ⟨a1, a2, a3, a4⟩ := hr q hq
    unfold inQ
    rw [hp]
    generalize (if valN h (nmQ q) < bnd j then nmQ q else 0) = c
    by_cases u1 : p q.1 = v <;> by_cases u2 : p q.2 = v
    · rw [if_pos (by omega : v = (p q.1).toNat), if_pos (by omega : v = (p q.2).toNat)]; simp [u1, u2]
    · rw [if_pos (by omega : v = (p q.1).toNat), if_neg (by omega : ¬ v = (p q.2).toNat)]; simp [u1, u2]
    · rw [if_neg (by omega : ¬ v = (p q.1).toNat), if_pos (by omega : v = (p q.2).toNat)]; simp [u1, u2]
    · rw [if_neg (by omega : ¬ v = (p q.1).toNat), if_neg (by omega : ¬ v = (p q.2).toNat)]
      have b1 : (p q.1 == (v : Int)) = false := beq_false_of_ne u1
      have b2 : (p q.2 == (v : Int)) = false := beq_false_of_ne u2
      rw [b1, b2]; rfl
  rw [xorS_congr e1, xorS_swap]
  refine xorS_zero fun q hq => ?_
  obtain ⟨a1, a2, a3, a4⟩ := hr q hq
  have nd : ((List.range N).filter fun v : Nat => decide (p (v : Int) = v)).Nodup := List.nodup_range.filter _
  have m : ∀ x : Int, 0 ≤ p x → p x < N → (p x).toNat ∈ (List.range N).filter fun v : Nat => decide (p (v : Int) = v) := fun x h0 h1 => by
    rw [List.mem_filter, List.mem_range]
    refine ⟨by omega, ?_⟩
    have : (((p x).toNat : Nat) : Int) = p x := by omega
    rw [this, hid]; simp
  rw [xorS_add, xorS_one nd (m q.1 a1 a2), xorS_one nd (m q.2 a3 a4), Nat.xor_self]
theorem wordsN_cons {h : GHash} {hs : List GHash} {V : Nat} (hV : 0 < V) (names : List Nat) : ∃ r, wordsN (h :: hs) V names = xorS (fun x => x) names :: r := by
  obtain ⟨k, hk⟩ : ∃ k, (h :: hs).length * V = k + 1 := ⟨(h :: hs).length * V - 1, by
    have : 0 < (h :: hs).length * V := Nat.mul_pos (by simp) hV
    omega⟩
  unfold wordsN
  have e0 : wordN ((h :: hs).getD 0 ⟨0, 0⟩) 0 names = xorS (fun x => x) names := wordN_zero h names
  rw [hk, List.range_succ_eq_map, List.map_cons, Nat.zero_div, Nat.zero_mod, e0]
  exact ⟨_, rfl⟩
theorem srch_one_aux (f : GEdge → Nat) {ws : List Nat} {e : GEdge} {r : List Nat} (h : ws = f e :: r) : (ws.findSome? fun w => [e].find? fun e => f e == w) = some e := by
  subst h
  rw [List.findSome?_cons, List.find?_cons]
  simp
theorem srchE_one {hs : List GHash} {V : Nat} (hh : hs ≠ []) (hV : 0 < V) (e : GEdge) : srchE hs V [e] = some e := by
  cases hs with
  | nil => exact absurd rfl hh
  | cons h hs =>
    unfold srchE
    generalize hf : (fun e => nmQ (uv e)) = f
    obtain ⟨r, hr⟩ := wordsN_cons (h := h) (hs := hs) hV ([e].map f)
    have h2 : xorS (fun x => x) ([e].map f) = f e := by simp [xorS]
    rw [h2] at hr
    have := srch_one_aux f hr
    rw [← hf] at this ⊢
    exact this
end Go.Proofs.Ytibnmlbjahcjmaa
