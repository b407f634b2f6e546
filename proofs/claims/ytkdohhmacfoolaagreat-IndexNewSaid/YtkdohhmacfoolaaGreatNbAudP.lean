/- Facts that the statement's proof is made of. No condition. -/
import Derived.Test.YtkdohhmacfoolaaGreatNbGA2
set_option linter.unusedVariables false
set_option linter.unusedSimpArgs false
set_option maxRecDepth 20000
set_option maxHeartbeats 1000000
namespace Go.Proofs.YtkdohhmacfoolaaGreat
open Go Go.AM Go.Pl Go.Pt
theorem uK {α : Type} (b : Bool) (d x : α) : fA b d (some x) = some (bif b then x else d) := by cases b <;> rfl
theorem aKt {i m : Nat} (h : i < m) : decide (((i : Nat) : Int) < ((m : Nat) : Int)) = true := by simp; omega
theorem aJp {i m : Nat} (h : ¬ i < m) : decide (((i : Nat) : Int) < ((m : Nat) : Int)) = false := by simp; omega
section
variable {α : Type} {d : α} {o : Option α}
theorem gtt : fA (true == true) d o = o := gt' rfl
end
theorem bF4 (k : Nat) : decide (0 < ((k + 1 : Nat) : Int)) = true := by simp <;> omega
theorem FU : bY = 1000000000000 := rfl
def okE (n : Int) (e : aC) : Bool := decide (0 ≤ e.U ∧ e.U < e.V ∧ e.V < n ∧ 0 ≤ e.Tier ∧ e.Tier ≤ 16)
def aB7 (a b : aC) : Bool := decide (a.U < b.U ∨ a.U = b.U ∧ a.V < b.V)
def trL (n : Int) : Option aC → List aC → Bool
  | _, [] => true
  | none, e :: l => okE n e && trL n (some e) l
  | some q, e :: l => okE n e && (aB7 q e && trL n (some e) l)
def prv (l : List aC) : Nat → Option aC
  | 0 => none
  | k + 1 => l[k]?
theorem aKb (a b : aC) : mD a b = some (aB7 a b) := by
  unfold mD aB7; congr 1
  by_cases h1 : a.U < b.U <;> by_cases h2 : a.U = b.U <;> by_cases h3 : a.V < b.V <;> simp [h1, h2, h3]
theorem qZ {n : Int} {e : aC} : okE n e = true ↔ 0 ≤ e.U ∧ e.U < e.V ∧ e.V < n ∧ 0 ≤ e.Tier ∧ e.Tier ≤ 16 := by unfold okE; exact decide_eq_true_iff
theorem aK3 {l : List aC} {i : Nat} (c : i < l.length) : prv l (i + 1) = some l[i] := List.getElem?_eq_getElem c
def stE (n : Int) (p : Option aC) (e : aC) : Bool := okE n e && (match p with | none => true | some q => aB7 q e)
theorem aG6 (n : Int) (p : Option aC) (e : aC) (l : List aC) : trL n p (e :: l) = (stE n p e && trL n (some e) l) := by
  cases p <;> simp [trL, stE, Bool.and_assoc]
theorem aB0 {n : Int} (l : List aC) : ∀ (m i : Nat), l.length < i + m → i + m ≤ bY → i ≤ l.length → jN m n l l (l.length : Int) (i : Int) = some (trL n (prv l i) (l.drop i))
  | 0, i, h, _, hi => by omega
  | m + 1, i, h, hF, hi => by
    have hFU := FU
    show lU (jN m) n l l _ _ = _
    unfold lU
    by_cases c : i < l.length
    · have ih := aB0 (n := n) l m (i + 1) (by omega) (by omega) c
      rw [aK3 c] at ih
      rw [bt (aKt c), fJ c, aB, gF c, aG6]
      unfold lV
      rw [uK, aB, wr1 i (by omega), ih]
      generalize l[i] = e
      cases ok : okE n e with
      | false =>
        rw [bt]
        · simp [stE, ok]
        · have : ¬ (0 ≤ e.U ∧ e.U < e.V ∧ e.V < n ∧ 0 ≤ e.Tier ∧ e.Tier ≤ 16) := fun q => by rw [qZ.2 q] at ok; cases ok
          by_cases h1 : e.U < 0 <;> by_cases h2 : e.V ≤ e.U <;> by_cases h3 : n ≤ e.V <;> simp [h1, h2, h3] <;> omega
      | true =>
        obtain ⟨h1, h2, h3, h4, h5⟩ := qZ.1 ok
        rw [bf (by simp; omega)]
        cases i with
        | zero =>
          rw [gf' (by simp), aB, gf' (by simp), aB, bf (by simp)]
          simp [stE, ok, prv]
        | succ k =>
          have ck : k < l.length := by omega
          have e0 : IntKind.i64.wrap (((k + 1 : Nat) : Int) - 1) = ((k : Nat) : Int) := by rw [wr0 (by omega) (by omega)]; omega
          rw [bF4, gtt, e0, fJ ck, aB, gtt, aKb, aB, aK3 ck]
          cases hl : aB7 l[k] e with
          | false => rw [bt (by simp)]; simp [stE, ok, hl]
          | true => rw [bf (by simp [hl])]; simp [stE, ok, hl]
    · rw [bf (aJp c), List.drop_eq_nil_of_le (by omega)]
      cases prv l i <;> rfl
def trB (n : Int) (l : List aC) : Bool := decide (0 ≤ n ∧ n ≤ 1024) && trL n none l
theorem zR {n : Int} {l : List aC} (hl : l.length < 1000000000) : fC n l = some (trB n l) := by
  have hFU := FU
  unfold fC trB
  by_cases c : 0 ≤ n ∧ n ≤ 1024
  · rw [bf (by simp; omega)]
    have := aB0 (n := n) l bY 0 (by omega) (by omega) (Nat.zero_le _)
    rw [show (0 : Int) = ((0 : Nat) : Int) from rfl, this]; simp [prv, c]
  · rw [bt (by simp; omega)]; simp [c]
theorem aOz {n : Int} : ∀ {l : List aC} {p : Option aC}, trL n p l = true → ∀ e, e ∈ l → okE n e = true
  | [], _, _, _, h => by cases h
  | a :: l, p, h, e, he => by
    rw [aG6] at h
    simp only [Bool.and_eq_true] at h
    rcases List.mem_cons.1 he with q | q
    · subst q; have := h.1; unfold stE at this; simp only [Bool.and_eq_true] at this; exact this.1
    · exact aOz h.2 e q
def inT (t : Int) (e : aC) : Bool := decide (1 ≤ e.Tier) && decide (e.Tier ≤ t)
def fo (l : List aC) (t : Int) : List aC := l.filter (inT t)
theorem bA6 (l : List aC) (t : Int) : (fo l t).length ≤ l.length := List.length_filter_le _ _
theorem aR5 {p : aC → Bool} {l : List aC} {i : Nat} (c : i < l.length) : (l.drop i).filter p = (if p l[i] then [l[i]] else []) ++ (l.drop (i + 1)).filter p := by
  rw [gF c, List.filter_cons]; split <;> rfl
theorem uA {t : Int} (l : List aC) (hl : l.length < 1000000000) : ∀ (m i : Nat) (out : List aC), l.length < i + m → i + m ≤ bY → i ≤ l.length → out.length ≤ i → gJ m t out l (l.length : Int) (i : Int) = some (out ++ (l.drop i).filter (inT t))
  | 0, i, _, h, _, hi, _ => by omega
  | m + 1, i, out, h, hF, hi, ho => by
    have hFU := FU
    show kF (gJ m) t out l _ _ = _
    unfold kF
    by_cases c : i < l.length
    · rw [bt (aKt c), fJ c, aB, aR5 c]
      unfold kG
      rw [wr1 i (by omega)]
      cases hp : inT t l[i] with
      | true =>
        unfold inT at hp
        rw [bt hp, aJ4 (by simp; omega), aB, uA l hl m (i + 1) _ (by omega) (by omega) c (by simp; omega)]
        simp
      | false =>
        unfold inT at hp
        rw [bf hp, uA l hl m (i + 1) _ (by omega) (by omega) c (by omega)]
        simp
    · rw [bf (aJp c), List.drop_eq_nil_of_le (by omega)]; simp
theorem aFe {n t : Int} {l : List aC} (hl : l.length < 1000000000) : fQ n l t = some (if trB n l then fo l t else []) := by
  have hFU := FU
  unfold fQ
  rw [zR hl, aB]
  cases trB n l with
  | false => rfl
  | true =>
    rw [show (!true) = false from rfl, bf rfl]
    have := uA (t := t) l hl bY 0 [] (by omega) (by omega) (Nat.zero_le _) (by simp)
    rw [show (0 : Int) = ((0 : Nat) : Int) from rfl, this]; rfl
end Go.Proofs.YtkdohhmacfoolaaGreat
