/- Facts. No condition. -/
import Derived.Test.YtkdohhmacfoolaaGreatNgIxF
set_option linter.unusedVariables false
set_option linter.unusedSimpArgs false
set_option maxRecDepth 20000
set_option maxHeartbeats 1000000
namespace Go.Proofs.YtkdohhmacfoolaaGreat
open Go Go.AM Go.Pl Go.Pt Go.Ix
theorem aTi (rec1 : List Int → List Int → Int → Option (List Int)) (l out : List Int) {i : Nat} (hi : i < l.length) (ho : out.length < 1000000) : ∀ (m k : Nat), out.length < k + m → k ≤ out.length → (∀ j y, j < k → out[j]? = some y → y < l[i]) →
 nO rec1 m l out (i : Int) (k : Int) = rec1 l (rI l[i] out) (IntKind.i64.wrap ((i : Int) + 1))
 | 0, k, hm, hk, _ => by omega
 | m + 1, k, hm, hk, hp => by
  show aA2 rec1 (nO rec1 m) _ _ _ _ = _
  unfold aA2
  by_cases c : k < out.length
  ·
   rw [gt' (by simpa using c), bR c, aA, gt' (by simpa using c), bR hi, aA]
   by_cases q : out[k] < l[i]
   ·
    rw [bt (by simp; omega), wr1 k (by omega)]
    exact aTi rec1 l out hi ho m (k + 1) (by omega) c fun j y hj hy => by
     rcases Nat.lt_or_ge j k with w | w
     ·
      exact hp j y w hy
     ·
      have : j = k := by omega
      subst this; rw [List.getElem?_eq_getElem c] at hy; cases hy; exact q
   ·
    rw [bf (by simp; omega), xU rfl hk, aA, dL (by simp; omega), aA, aA, dL (by simp; omega), aA, mC rfl hk, aA, dL (by simp; omega), aA]
    rw [aK7 hk hp fun y hy => by rw [List.getElem?_eq_getElem c] at hy; cases hy; exact q]
    simp
  ·
   rw [gf' (by simpa using c), aA, gf' (by simpa using c), aA, bf (by simp <;> omega), xU rfl hk, aA, dL (by simp; omega), aA, bR hi, aA, dL (by simp; omega), aA, mC rfl hk, aA, dL (by simp; omega), aA]
   rw [aK7 hk hp fun y hy => by rw [List.getElem?_eq_none (by omega)] at hy; cases hy]
   simp
theorem aTh (l : List Int) (hl : l.length < 100000) : ∀ (m i : Nat) (out : List Int), l.length < i + m → i ≤ l.length → out.length ≤ i → jE m l out (i : Int) = some ((l.drop i).foldl (fun out x => rI x out) out)
 | 0, i, out, hm, hi, _ => by omega
 | m + 1, i, out, hm, hi, ho => by
  have hFU := FU'
  show aA1 (jE m) _ _ _ = _
  unfold aA1
  by_cases c : i < l.length
  ·
   have := aTi (jE m) l out c (by omega) bF 0 (by omega) (Nat.zero_le _) (fun j y hj => by omega)
   rw [bt (by simpa using c), show (0 : Int) = ((0 : Nat) : Int) from rfl, this, wr1 i (by omega), aTh l hl m (i + 1) _ (by omega) c (by rw [zN]; omega), bP c]
   rfl
  ·
   rw [bf (by simpa using c), List.drop_eq_nil_of_le (by omega)]; rfl
theorem bI0 {l : List Int} (hl : l.length < 100000) : vF l = some (aOc l) := by
 have hFU := FU'
 have := aTh l hl bF 0 [] (by omega) (Nat.zero_le _) (Nat.le_refl _)
 exact this
theorem aKb {z : Int} {l : List Int} : z ∈ aOc l ↔ z ∈ l := by
 have : ∀ (l out : List Int), z ∈ l.foldl (fun out x => rI x out) out ↔ z ∈ out ∨ z ∈ l := by
  intro l
  induction l with
  | nil => intro out; simp
  | cons x l ih =>
   intro out
   rw [List.foldl_cons, ih, aC6, List.mem_cons]
   constructor
   ·
    rintro ((h | h) | h)
    ·
     exact .inr (.inl h)
    ·
     exact .inl h
    ·
     exact .inr (.inr h)
   ·
    rintro (h | h | h)
    ·
     exact .inl (.inr h)
    ·
     exact .inl (.inl h)
    ·
     exact .inr h
 exact (this l []).trans (by simp)
def KU (m : aF) : Prop := ∀ x, x ∈ m.Keys → 0 ≤ x ∧ x < 18446744073709551616
theorem cnd {β : Type} {c : Bool} {x y o : β} (h : (bif c then x else y) = o) : (c = true ∧ x = o) ∨ (c = false ∧ y = o) := by
 cases c with
 | true => exact .inl ⟨rfl, h⟩
 | false => exact .inr ⟨rfl, h⟩
theorem aUe {α : Type} {l xs r : List α} (h : app l xs = some r) : r = l ++ xs := by
 unfold app at h
 split at h
 ·
  exact (Option.some.inj h).symm
 ·
  cases h
theorem bEh {α : Type} {l r : List α} {a b : Int} (h : slc l a b = some r) : ∀ x, x ∈ r → x ∈ l := by
 unfold slc at h
 split at h
 ·
  cases h; exact fun x hx => List.mem_of_mem_drop (List.mem_of_mem_take hx)
 ·
  cases h
theorem aX2 {m k : aF} {d a b f : Int} (h : eF m d a b = some (k, f)) : ∀ x, x ∈ k.Keys → x ∈ m.Keys ∨ x = a := by
 have same : ∀ {f' : Int}, some (m, f') = some (k, f) → ∀ x, x ∈ k.Keys → x ∈ m.Keys ∨ x = a := fun e x hx => by
  have := (Prod.mk.inj (Option.some.inj e)).1
  subst this; exact .inl hx
 unfold eF at h
 obtain ⟨x2, _, h⟩ := bnd h
 rcases cnd h with ⟨_, h⟩ | ⟨_, h⟩
 ·
  rcases cnd h with ⟨_, h⟩ | ⟨_, h⟩
  ·
   exact same h
  rcases cnd h with ⟨_, h⟩ | ⟨_, h⟩
  ·
   exact same h
  obtain ⟨l4, h3, h⟩ := bnd h
  obtain ⟨l6, h5, h⟩ := bnd h
  cases h
  intro x hx
  rw [show (aF.mk m.Most l6 m.Pairs).Keys = l6 from rfl, aUe h5, aUe h3, List.nil_append, List.mem_append] at hx
  exact hx.imp id fun q => by simpa using q
 ·
  obtain ⟨x8, _, h⟩ := bnd h
  rcases cnd h with ⟨_, h⟩ | ⟨_, h⟩
  ·
   exact same h
  rcases cnd h with ⟨_, h⟩ | ⟨_, h⟩
  ·
   obtain ⟨x10, _, h⟩ := bnd h
   rcases cnd h with ⟨_, h⟩ | ⟨_, h⟩
   ·
    exact same h
   obtain ⟨l12, g1, h⟩ := bnd h
   obtain ⟨l14, g2, h⟩ := bnd h
   obtain ⟨l16, g3, h⟩ := bnd h
   obtain ⟨l18, g4, h⟩ := bnd h
   cases h
   intro x hx
   rw [show (aF.mk m.Most l18 m.Pairs).Keys = l18 from rfl, aUe g4, aUe g2, List.nil_append, List.mem_append] at hx
   exact .inl (hx.elim (bEh g1 x) (bEh g3 x))
  ·
   obtain ⟨x20, _, h⟩ := bnd h
   obtain ⟨x22, _, h⟩ := bnd h
   rcases cnd h with ⟨_, h⟩ | ⟨_, h⟩
   ·
    rcases cnd h with ⟨_, h⟩ | ⟨_, h⟩
    ·
     exact same h
    obtain ⟨_, _, h⟩ := bnd h
    obtain ⟨_, _, h⟩ := bnd h
    obtain ⟨_, _, h⟩ := bnd h
    obtain ⟨_, _, h⟩ := bnd h
    cases h
    exact fun x hx => .inl hx
   ·
    rcases cnd h with ⟨_, h⟩ | ⟨_, h⟩
    ·
     exact same h
    rcases cnd h with ⟨_, h⟩ | ⟨_, h⟩
    ·
     exact same h
    obtain ⟨_, _, h⟩ := bnd h
    obtain ⟨_, _, h⟩ := bnd h
    cases h
    exact fun x hx => .inl hx
theorem KU.change {m k : aF} {d a b f : Int} (hk : KU m) (ha : 0 ≤ a ∧ a < 18446744073709551616) (h : eF m d a b = some (k, f)) : KU k := fun x hx =>
 (aX2 h x hx).elim (hk x) fun e => e ▸ ha
theorem bLf (u v : Int) : pr2 (pr2 u v).x0 (pr2 u v).x1 = pr2 u v := by
 by_cases h : v < u
 ·
  have e : pr2 u v = ⟨v, u⟩ := if_pos h
  rw [e]
  show pr2 v u = _
  unfold pr2
  rw [if_neg (by omega)]
 ·
  have e : pr2 u v = ⟨u, v⟩ := if_neg h
  rw [e]; exact e
section
variable {c : aT} {s : aD} {m : aF} (R : Rel c s m) (K : KU m)
include R K
theorem aM1 {a y : Int} : y ∈ aC8 m.Pairs a ↔ pr2 a y ∈ m.Pairs := by
 have nm : ∀ p, p ∈ m.Pairs → pr2 p.x0 p.x1 = p := fun p hp => by
  rw [R.pairs.mem_iff, List.mem_map] at hp
  obtain ⟨q, _, rfl⟩ := hp
  exact bLf _ _
 have rg : ∀ p, p ∈ m.Pairs → (0 ≤ p.x0 ∧ p.x0 < 18446744073709551616) ∧ (0 ≤ p.x1 ∧ p.x1 < 18446744073709551616) := fun p hp => ⟨K _ (R.pair_keys hp).2.1, K _ (R.pair_keys hp).2.2⟩
 unfold aC8
 rw [aKb, List.mem_map]
 constructor
 ·
  rintro ⟨p, hp, rfl⟩
  obtain ⟨p1, p2⟩ := List.mem_filter.1 hp
  obtain ⟨o1, o2⟩ := bE6 (a := a) (rg p p1).1 (rg p p1).2
  unfold touch at p2
  simp only [Bool.or_eq_true, beq_iff_eq] at p2
  rcases p2 with e | e
  ·
   rw [o1 e, ← e, nm p p1]; exact p1
  ·
   rw [o2 e, ← e, aQi, nm p p1]; exact p1
 ·
  intro h
  refine ⟨_, List.mem_filter.2 ⟨h, ?_⟩, ?_⟩
  ·
   unfold touch pr2
   split <;> simp
  ·
   obtain ⟨o1, o2⟩ := bE6 (a := a) (rg _ h).1 (rg _ h).2
   by_cases q : y < a
   ·
    have e : pr2 a y = ⟨y, a⟩ := by unfold pr2; rw [if_pos q]
    rw [e] at o2 ⊢
    exact o2 rfl
   ·
    have e : pr2 a y = ⟨a, y⟩ := by unfold pr2; rw [if_neg q]
    rw [e] at o1 ⊢
    exact o1 rfl
theorem bL5 {a y : Int} (h : y ∈ aC8 m.Pairs a) : y ∈ m.Keys := by
 have := R.pair_keys ((aM1 R K).1 h)
 unfold pr2 at this
 split at this
 ·
  exact this.2.1
 ·
  exact this.2.2
end
open Go Go.AM Go.Pl Go.Pt Go.Ix
theorem aJc (b w : Bool) : oO (GA.b 4 b) w = some (b == w) := rfl
theorem aGx (n w : Int) : qJ (GA.i 3 .i64 n) w = some (n == w) := rfl
theorem bMm {l : List Int} {x : Int} : l.any (fun y => y == x) = decide (x ∈ l) := by
 induction l with
 | nil => simp
 | cons a l ih =>
  rw [List.any_cons, ih]
  by_cases c : a = x
  ·
   simp [c]
  ·
   have : ¬ x = a := fun e => c e.symm
   simp [c, this]
section
variable (rec2 : aD → aF → Int → List Int → Int → Int → Option Bool) (rec3 : aD → aF → Int → Int → List Int → List Int → Int → Int → List Int → Int → Int → Option Bool)
end
section
variable {c : aT} {s : aD} {mm : aF} (R : Rel c s mm) (hS : s.Slots.length ≤ 10)
include R hS
end
open Go Go.AM Go.Pl Go.Pt Go.Ix
theorem aL3 (l w : List Int) (hl : l.length < 1000000000) : nF (GA.lu 24 l) w = some (decide (l = w)) := by
 unfold nF
 rw [show bJw 24 (GA.lu 24 l) = some (l, true) from rfl, aA]
 simp only []
 rw [gt' (by rfl), aVq l w hl, aA, Bool.true_and]
section
variable {c : aT} {s : aD} {m : aF} (R : Rel c s m)
include R
variable (hS : s.Slots.length ≤ 10) (K : KU m)
include hS K
end
theorem wfk {x : Int} (h : (Lit.int .u64 x).wf = true) : 0 ≤ x ∧ x < 18446744073709551616 := bYp (l := [x]) (P := True) ⟨fun y hy => by
 have : y = x := by simpa using hy
 subst this; exact h, trivial⟩ x (by simp)
open Go Go.AM Go.Pl Go.Pt Go.Ix
section
variable {c : aT} {s : aD} {m : aF} (R : Rel c s m)
include R
end
section
variable (rec2 : aD → aF → Int → List Int → Int → Int → Option Bool) (rec3 : aD → aF → Int → Int → List Int → List Int → Int → Int → List Int → Int → Int → Option Bool)
end
section
variable {c : aT} {s : aD} {m : aF} (R : Rel c s m)
include R
variable (hS : s.Slots.length ≤ 10) (K : KU m)
include hS K
end
end Go.Proofs.YtkdohhmacfoolaaGreat
