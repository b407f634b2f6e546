/- Facts that the statement's proof is made of. No condition. -/
import Derived.Test.YtibnmlbjahcjmaaVdGA1
set_option linter.unusedVariables false
set_option linter.unusedSimpArgs false
set_option maxRecDepth 20000
set_option maxHeartbeats 1000000
namespace Go.Proofs.Ytibnmlbjahcjmaa
open Go Go.AM Go.Pl Go.Pt
theorem gopt_some {α : Type} (b : Bool) (d x : α) : gopt b d (some x) = some (bif b then x else d) := by cases b <;> rfl
theorem lt_t {i m : Nat} (h : i < m) : decide (((i : Nat) : Int) < ((m : Nat) : Int)) = true := by simp; omega
theorem lt_f {i m : Nat} (h : ¬ i < m) : decide (((i : Nat) : Int) < ((m : Nat) : Int)) = false := by simp; omega
section
variable {α : Type} {d : α} {o : Option α}
theorem gtt : gopt (true == true) d o = o := gt' rfl
theorem gft : gopt (false == true) d o = some d := gf' rfl
end
theorem pos_t (k : Nat) : decide (0 < ((k + 1 : Nat) : Int)) = true := by simp <;> omega
theorem FU : FUEL = 1000000000000 := rfl
def okE (n : Int) (e : GEdge) : Bool := decide (0 ≤ e.U ∧ e.U < e.V ∧ e.V < n ∧ 0 ≤ e.Tier ∧ e.Tier ≤ 16)
def lessE (a b : GEdge) : Bool := decide (a.U < b.U ∨ a.U = b.U ∧ a.V < b.V)
def trL (n : Int) : Option GEdge → List GEdge → Bool
  | _, [] => true
  | none, e :: l => okE n e && trL n (some e) l
  | some q, e :: l => okE n e && (lessE q e && trL n (some e) l)
def prv (l : List GEdge) : Nat → Option GEdge
  | 0 => none
  | k + 1 => l[k]?
theorem nameLess_eq (a b : GEdge) : nameLess_m a b = some (lessE a b) := by
  unfold nameLess_m lessE; congr 1
  by_cases h1 : a.U < b.U <;> by_cases h2 : a.U = b.U <;> by_cases h3 : a.V < b.V <;> simp [h1, h2, h3]
theorem okE_iff {n : Int} {e : GEdge} : okE n e = true ↔ 0 ≤ e.U ∧ e.U < e.V ∧ e.V < n ∧ 0 ≤ e.Tier ∧ e.Tier ≤ 16 := by unfold okE; exact decide_eq_true_iff
theorem prv_succ {l : List GEdge} {i : Nat} (c : i < l.length) : prv l (i + 1) = some l[i] := List.getElem?_eq_getElem c
def stE (n : Int) (p : Option GEdge) (e : GEdge) : Bool := okE n e && (match p with | none => true | some q => lessE q e)
theorem trL_cons (n : Int) (p : Option GEdge) (e : GEdge) (l : List GEdge) : trL n p (e :: l) = (stE n p e && trL n (some e) l) := by
  cases p <;> simp [trL, stE, Bool.and_assoc]
theorem tableRight_L {n : Int} (l : List GEdge) : ∀ (m i : Nat), l.length < i + m → i + m ≤ FUEL → i ≤ l.length → tableRight_L1 m n l l (l.length : Int) (i : Int) = some (trL n (prv l i) (l.drop i))
  | 0, i, h, _, hi => by omega
  | m + 1, i, h, hF, hi => by
    have hFU := FU
    show tableRight_B1 (tableRight_L1 m) n l l _ _ = _
    unfold tableRight_B1
    by_cases c : i < l.length
    · have ih := tableRight_L (n := n) l m (i + 1) (by omega) (by omega) c
      rw [prv_succ c] at ih
      rw [bt (lt_t c), idx_get c, some_bind', drop_cons c, trL_cons]
      unfold tableTiered_m
      rw [gopt_some, some_bind', wr1 i (by omega), ih]
      generalize l[i] = e
      cases ok : okE n e with
      | false =>
        rw [bt]
        · simp [stE, ok]
        · have : ¬ (0 ≤ e.U ∧ e.U < e.V ∧ e.V < n ∧ 0 ≤ e.Tier ∧ e.Tier ≤ 16) := fun q => by rw [okE_iff.2 q] at ok; cases ok
          by_cases h1 : e.U < 0 <;> by_cases h2 : e.V ≤ e.U <;> by_cases h3 : n ≤ e.V <;> simp [h1, h2, h3] <;> omega
      | true =>
        obtain ⟨h1, h2, h3, h4, h5⟩ := okE_iff.1 ok
        rw [bf (by simp; omega)]
        cases i with
        | zero =>
          rw [gf' (by simp), some_bind', gf' (by simp), some_bind', bf (by simp)]
          simp [stE, ok, prv]
        | succ k =>
          have ck : k < l.length := by omega
          have e0 : IntKind.i64.wrap (((k + 1 : Nat) : Int) - 1) = ((k : Nat) : Int) := by rw [wr0 (by omega) (by omega)]; omega
          rw [pos_t, gtt, e0, idx_get ck, some_bind', gtt, nameLess_eq, some_bind', prv_succ ck]
          cases hl : lessE l[k] e with
          | false => rw [bt (by simp)]; simp [stE, ok, hl]
          | true => rw [bf (by simp [hl])]; simp [stE, ok, hl]
    · rw [bf (lt_f c), List.drop_eq_nil_of_le (by omega)]
      cases prv l i <;> rfl
def trB (n : Int) (l : List GEdge) : Bool := decide (0 ≤ n ∧ n ≤ 1024) && trL n none l
theorem tableRight_eq {n : Int} {l : List GEdge} (hl : l.length < 1000000000) : tableRight_m n l = some (trB n l) := by
  have hFU := FU
  unfold tableRight_m trB
  by_cases c : 0 ≤ n ∧ n ≤ 1024
  · rw [bf (by simp; omega)]
    have := tableRight_L (n := n) l FUEL 0 (by omega) (by omega) (Nat.zero_le _)
    rw [show (0 : Int) = ((0 : Nat) : Int) from rfl, this]; simp [prv, c]
  · rw [bt (by simp; omega)]; simp [c]
theorem trL_mem {n : Int} : ∀ {l : List GEdge} {p : Option GEdge}, trL n p l = true → ∀ e, e ∈ l → okE n e = true
  | [], _, _, _, h => by cases h
  | a :: l, p, h, e, he => by
    rw [trL_cons] at h
    simp only [Bool.and_eq_true] at h
    rcases List.mem_cons.1 he with q | q
    · subst q; have := h.1; unfold stE at this; simp only [Bool.and_eq_true] at this; exact this.1
    · exact trL_mem h.2 e q
def inT (t : Int) (e : GEdge) : Bool := decide (1 ≤ e.Tier) && decide (e.Tier ≤ t)
def fo (l : List GEdge) (t : Int) : List GEdge := l.filter (inT t)
theorem fo_len (l : List GEdge) (t : Int) : (fo l t).length ≤ l.length := List.length_filter_le _ _
theorem filt_drop {p : GEdge → Bool} {l : List GEdge} {i : Nat} (c : i < l.length) : (l.drop i).filter p = (if p l[i] then [l[i]] else []) ++ (l.drop (i + 1)).filter p := by
  rw [drop_cons c, List.filter_cons]; split <;> rfl
theorem tableForest_L {t : Int} (l : List GEdge) (hl : l.length < 1000000000) : ∀ (m i : Nat) (out : List GEdge), l.length < i + m → i + m ≤ FUEL → i ≤ l.length → out.length ≤ i → tableForest_L1 m t out l (l.length : Int) (i : Int) = some (out ++ (l.drop i).filter (inT t))
  | 0, i, _, h, _, hi, _ => by omega
  | m + 1, i, out, h, hF, hi, ho => by
    have hFU := FU
    show tableForest_B1 (tableForest_L1 m) t out l _ _ = _
    unfold tableForest_B1
    by_cases c : i < l.length
    · rw [bt (lt_t c), idx_get c, some_bind', filt_drop c]
      unfold tableForest_J1
      rw [wr1 i (by omega)]
      cases hp : inT t l[i] with
      | true =>
        unfold inT at hp
        rw [bt hp, app_ok (by simp; omega), some_bind', tableForest_L l hl m (i + 1) _ (by omega) (by omega) c (by simp; omega)]
        simp
      | false =>
        unfold inT at hp
        rw [bf hp, tableForest_L l hl m (i + 1) _ (by omega) (by omega) c (by omega)]
        simp
    · rw [bf (lt_f c), List.drop_eq_nil_of_le (by omega)]; simp
theorem tableForest_eq {n t : Int} {l : List GEdge} (hl : l.length < 1000000000) : tableForest_m n l t = some (if trB n l then fo l t else []) := by
  have hFU := FU
  unfold tableForest_m
  rw [tableRight_eq hl, some_bind']
  cases trB n l with
  | false => rfl
  | true =>
    rw [show (!true) = false from rfl, bf rfl]
    have := tableForest_L (t := t) l hl FUEL 0 [] (by omega) (by omega) (Nat.zero_le _) (by simp)
    rw [show (0 : Int) = ((0 : Nat) : Int) from rfl, this]; rfl
end Go.Proofs.Ytibnmlbjahcjmaa
