/- Facts that the statement's proof is made of. No condition. -/
import Derived.Test.YtkdohhmacfoolaaGreatNdPt
import Derived.Test.YtkdohhmacfoolaaGreatNdGA2
set_option linter.unusedSimpArgs false
set_option linter.unusedVariables false
namespace Go.Ix
open Go.Pt
structure Srt (L : List Int) (S : Int → Prop) : Prop where
  up : L.Pairwise (· < ·)
  mem : ∀ x, x ∈ L ↔ S x
theorem aWl : ∀ {a b : List Int}, a.Pairwise (· < ·) → b.Pairwise (· < ·) → (∀ x, x ∈ a ↔ x ∈ b) → a = b
 | [], [], _, _, _ => rfl
 | [], y :: b, _, _, h => absurd ((h y).2 (List.mem_cons_self ..)) (by simp)
 | x :: a, [], _, _, h => absurd ((h x).1 (List.mem_cons_self ..)) (by simp)
 | x :: a, y :: b, ha, hb, h => by
  obtain ⟨a1, a2⟩ := List.pairwise_cons.1 ha
  obtain ⟨b1, b2⟩ := List.pairwise_cons.1 hb
  have e : x = y := by
   have h1 := (h x).1 (List.mem_cons_self ..)
   have h2 := (h y).2 (List.mem_cons_self ..)
   rcases List.mem_cons.1 h1 with q | q
   ·
    exact q
   ·
    rcases List.mem_cons.1 h2 with w | w
    ·
     exact w.symm
    ·
     have := b1 x q
     have := a1 y w
     omega
  subst e
  rw [aWl a2 b2 fun z => ?_]
  constructor
  ·
   intro q
   rcases List.mem_cons.1 ((h z).1 (List.mem_cons_of_mem _ q)) with w | w
   ·
    subst w; exact absurd (a1 z q) (by omega)
   ·
    exact w
  ·
   intro q
   rcases List.mem_cons.1 ((h z).2 (List.mem_cons_of_mem _ q)) with w | w
   ·
    subst w; exact absurd (b1 z q) (by omega)
   ·
    exact w
theorem Srt.uniq {a b : List Int} {S S' : Int → Prop} (h : Srt a S) (k : Srt b S') (e : ∀ x, S x ↔ S' x) : a = b :=
 aWl h.up k.up fun x => (h.mem x).trans ((e x).trans (k.mem x).symm)
theorem Srt.nodup {a : List Int} {S : Int → Prop} (h : Srt a S) : a.Nodup := h.up.imp fun q => by omega
theorem aEw : ∀ {a b : List Int}, a.Nodup → (∀ x, x ∈ a → x ∈ b) → a.length ≤ b.length
 | [], _, _, _ => Nat.zero_le _
 | x :: a, b, ha, h => by
  obtain ⟨n1, n2⟩ := List.nodup_cons.1 ha
  have hx := h x (List.mem_cons_self ..)
  have := aEw (a := a) (b := b.erase x) n2 fun y hy => (List.mem_erase_of_ne (fun e : y = x => n1 (by rw [← e]; exact hy))).2 (h y (List.mem_cons_of_mem _ hy))
  rw [List.length_erase_of_mem hx] at this
  have := List.length_pos_of_mem hx
  rw [List.length_cons]; omega
theorem aZ7 {a b : List Int} (ha : a.Nodup) (hb : b.Nodup) (h : ∀ x, x ∈ a ↔ x ∈ b) : a.length = b.length :=
 Nat.le_antisymm (aEw ha fun x => (h x).1) (aEw hb fun x => (h x).2)
def qY (x : Int) : List Int → List Int
  | [] => [x]
  | y :: l => if y < x then y :: qY x l else x :: y :: l
theorem aBe {x z : Int} : ∀ {l : List Int}, z ∈ qY x l ↔ z = x ∨ z ∈ l
 | [] => by simp [qY]
 | y :: l => by
  unfold qY
  split
  ·
   rw [List.mem_cons, aBe, List.mem_cons]
   constructor
   ·
    rintro (h | h | h)
    ·
     exact .inr (.inl h)
    ·
     exact .inl h
    ·
     exact .inr (.inr h)
   ·
    rintro (h | h | h)
    ·
     exact .inr (.inl h)
    ·
     exact .inl h
    ·
     exact .inr (.inr h)
  ·
   rw [List.mem_cons]
theorem aOa {x : Int} : ∀ {l : List Int}, l.Pairwise (· < ·) → x ∉ l → (qY x l).Pairwise (· < ·)
 | [], _, _ => by simp [qY]
 | y :: l, h, hx => by
  obtain ⟨h1, h2⟩ := List.pairwise_cons.1 h
  have hne : x ≠ y := fun e => hx (e ▸ List.mem_cons_self ..)
  unfold qY
  split
  ·
   rename_i c
   refine List.pairwise_cons.2 ⟨fun z hz => ?_, aOa h2 fun q => hx (List.mem_cons_of_mem _ q)⟩
   rcases aBe.1 hz with rfl | hz
   ·
    exact c
   ·
    exact h1 z hz
  ·
   rename_i c
   refine List.pairwise_cons.2 ⟨fun z hz => ?_, h⟩
   rcases List.mem_cons.1 hz with rfl | hz
   ·
    omega
   ·
    have := h1 z hz; omega
theorem aOx {x : Int} : ∀ {l : List Int} {k : Nat}, k ≤ l.length → (∀ j y, j < k → l[j]? = some y → y < x) → (∀ y, l[k]? = some y → ¬ y < x) → qY x l = l.take k ++ x :: l.drop k
 | [], 0, _, _, _ => rfl
 | [], k + 1, h, _, _ => by simp at h
 | y :: l, 0, _, _, h => by
  unfold qY; rw [if_neg (h y rfl)]; rfl
 | y :: l, k + 1, hk, h1, h2 => by
  unfold qY
  rw [if_pos (h1 0 y (by omega) rfl), aOx (k := k) (by simpa using hk) (fun j z hj hz => h1 (j + 1) z (by omega) hz) h2]; rfl
theorem yT {x : Int} : ∀ {l : List Int}, (qY x l).length = l.length + 1
 | [] => rfl
 | y :: l => by
  unfold qY
  split
  ·
   simp [yT]
  ·
   simp
def aOw (l : List Int) : List Int := l.foldl (fun out x => qY x out) []
theorem aK1 : ∀ {l out : List Int}, out.Pairwise (· < ·) → (∀ x, x ∈ l → x ∉ out) → l.Nodup → Srt (l.foldl (fun out x => qY x out) out) (fun z => z ∈ out ∨ z ∈ l)
 | [], out, h, _, _ => ⟨h, fun x => by simp⟩
 | x :: l, out, h, hx, hn => by
  obtain ⟨n1, n2⟩ := List.nodup_cons.1 hn
  have := aK1 (l := l) (out := qY x out) (aOa h (hx x (List.mem_cons_self ..))) (fun z hz q => by
   rcases aBe.1 q with rfl | q
   ·
    exact n1 hz
   ·
    exact hx z (List.mem_cons_of_mem _ hz) q) n2
  refine ⟨this.up, fun z => (this.mem z).trans ?_⟩
  rw [aBe, List.mem_cons]
  constructor
  ·
   rintro ((h | h) | h)
   ·
    exact .inr (.inl h)
   ·
    exact .inl h
   ·
    exact .inr (.inr h)
  ·
   rintro (h | h | h)
   ·
    exact .inl (.inr h)
   ·
    exact .inl (.inl h)
   ·
    exact .inr h
theorem bAb {l : List Int} (h : l.Nodup) : Srt (aOw l) (· ∈ l) := by
 have := aK1 (l := l) (out := []) List.Pairwise.nil (fun _ _ => by simp) h
 exact ⟨this.up, fun x => (this.mem x).trans (by simp)⟩
end Go.Ix
set_option linter.unusedVariables false
set_option linter.unusedSimpArgs false
set_option maxRecDepth 20000
set_option maxHeartbeats 1000000
namespace Go.Proofs.YtkdohhmacfoolaaGreat
open Go Go.AM Go.Pl Go.Pt
theorem fG {α : Type} (b : Bool) (d x : α) : fE b d (some x) = some (bif b then x else d) := by cases b <;> rfl
theorem sR {i m : Nat} (h : i < m) : decide (((i : Nat) : Int) < ((m : Nat) : Int)) = true := by simp; omega
theorem sK {i m : Nat} (h : ¬ i < m) : decide (((i : Nat) : Int) < ((m : Nat) : Int)) = false := by simp; omega
section
variable {α : Type} {d : α} {o : Option α}
theorem gtt : fE (true == true) d o = o := gt' rfl
theorem gft : fE (false == true) d o = some d := gf' rfl
end
theorem bJg (k : Nat) : decide (0 < ((k + 1 : Nat) : Int)) = true := by simp <;> omega
theorem FU : bK = 1000000000000 := rfl
def okE (n : Int) (e : aC) : Bool := decide (0 ≤ e.U ∧ e.U < e.V ∧ e.V < n ∧ 0 ≤ e.Tier ∧ e.Tier ≤ 16)
def xB (a b : aC) : Bool := decide (a.U < b.U ∨ a.U = b.U ∧ a.V < b.V)
def trL (n : Int) : Option aC → List aC → Bool
  | _, [] => true
  | none, e :: l => okE n e && trL n (some e) l
  | some q, e :: l => okE n e && (xB q e && trL n (some e) l)
def prv (l : List aC) : Nat → Option aC
  | 0 => none
  | k + 1 => l[k]?
theorem aC2 (a b : aC) : rD a b = some (xB a b) := by
 unfold rD xB; congr 1
 by_cases h1 : a.U < b.U <;> by_cases h2 : a.U = b.U <;> by_cases h3 : a.V < b.V <;> simp [h1, h2, h3]
theorem mF {n : Int} {e : aC} : okE n e = true ↔ 0 ≤ e.U ∧ e.U < e.V ∧ e.V < n ∧ 0 ≤ e.Tier ∧ e.Tier ≤ 16 := by unfold okE; exact decide_eq_true_iff
theorem aQj {l : List aC} {i : Nat} (c : i < l.length) : prv l (i + 1) = some l[i] := List.getElem?_eq_getElem c
def stE (n : Int) (p : Option aC) (e : aC) : Bool := okE n e && (match p with | none => true | some q => xB q e)
theorem aLy (n : Int) (p : Option aC) (e : aC) (l : List aC) : trL n p (e :: l) = (stE n p e && trL n (some e) l) := by
 cases p <;> simp [trL, stE, Bool.and_assoc]
theorem aGa {n : Int} (l : List aC) : ∀ (m i : Nat), l.length < i + m → i + m ≤ bK → i ≤ l.length → nN m n l l (l.length : Int) (i : Int) = some (trL n (prv l i) (l.drop i))
 | 0, i, h, _, hi => by omega
 | m + 1, i, h, hF, hi => by
  have hFU := FU
  show xY (nN m) n l l _ _ = _
  unfold xY
  by_cases c : i < l.length
  ·
   have ih := aGa (n := n) l m (i + 1) (by omega) (by omega) c
   rw [aQj c] at ih
   rw [bt (sR c), cJ c, aA, dQ c, aLy]
   unfold nL
   rw [fG, aA, wr1 i (by omega), ih]
   generalize l[i] = e
   cases ok : okE n e with
   | false =>
    rw [bt]
    ·
     simp [stE, ok]
    ·
     have : ¬ (0 ≤ e.U ∧ e.U < e.V ∧ e.V < n ∧ 0 ≤ e.Tier ∧ e.Tier ≤ 16) := fun q => by rw [mF.2 q] at ok; cases ok
     by_cases h1 : e.U < 0 <;> by_cases h2 : e.V ≤ e.U <;> by_cases h3 : n ≤ e.V <;> simp [h1, h2, h3] <;> omega
   | true =>
    obtain ⟨h1, h2, h3, h4, h5⟩ := mF.1 ok
    rw [bf (by simp; omega)]
    cases i with
    | zero =>
     rw [gf' (by simp), aA, gf' (by simp), aA, bf (by simp)]
     simp [stE, ok, prv]
    | succ k =>
     have ck : k < l.length := by omega
     have e0 : IntKind.i64.wrap (((k + 1 : Nat) : Int) - 1) = ((k : Nat) : Int) := by rw [wr0 (by omega) (by omega)]; omega
     rw [bJg, gtt, e0, cJ ck, aA, gtt, aC2, aA, aQj ck]
     cases hl : xB l[k] e with
     | false => rw [bt (by simp)]; simp [stE, ok, hl]
     | true => rw [bf (by simp [hl])]; simp [stE, ok, hl]
  ·
   rw [bf (sK c), List.drop_eq_nil_of_le (by omega)]
   cases prv l i <;> rfl
def trB (n : Int) (l : List aC) : Bool := decide (0 ≤ n ∧ n ≤ 1024) && trL n none l
theorem jB {n : Int} {l : List aC} (hl : l.length < 1000000000) : fY n l = some (trB n l) := by
 have hFU := FU
 unfold fY trB
 by_cases c : 0 ≤ n ∧ n ≤ 1024
 ·
  rw [bf (by simp; omega)]
  have := aGa (n := n) l bK 0 (by omega) (by omega) (Nat.zero_le _)
  rw [show (0 : Int) = ((0 : Nat) : Int) from rfl, this]; simp [prv, c]
 ·
  rw [bt (by simp; omega)]; simp [c]
theorem aX5 {n : Int} : ∀ {l : List aC} {p : Option aC}, trL n p l = true → ∀ e, e ∈ l → okE n e = true
 | [], _, _, _, h => by cases h
 | a :: l, p, h, e, he => by
  rw [aLy] at h
  simp only [Bool.and_eq_true] at h
  rcases List.mem_cons.1 he with q | q
  ·
   subst q; have := h.1; unfold stE at this; simp only [Bool.and_eq_true] at this; exact this.1
  ·
   exact aX5 h.2 e q
def inT (t : Int) (e : aC) : Bool := decide (1 ≤ e.Tier) && decide (e.Tier ≤ t)
def fo (l : List aC) (t : Int) : List aC := l.filter (inT t)
theorem aPh (l : List aC) (t : Int) : (fo l t).length ≤ l.length := List.length_filter_le _ _
theorem aNv {p : aC → Bool} {l : List aC} {i : Nat} (c : i < l.length) : (l.drop i).filter p = (if p l[i] then [l[i]] else []) ++ (l.drop (i + 1)).filter p := by
 rw [dQ c, List.filter_cons]; split <;> rfl
theorem xT {t : Int} (l : List aC) (hl : l.length < 1000000000) : ∀ (m i : Nat) (out : List aC), l.length < i + m → i + m ≤ bK → i ≤ l.length → out.length ≤ i → jP m t out l (l.length : Int) (i : Int) = some (out ++ (l.drop i).filter (inT t))
 | 0, i, _, h, _, hi, _ => by omega
 | m + 1, i, out, h, hF, hi, ho => by
  have hFU := FU
  show vW (jP m) t out l _ _ = _
  unfold vW
  by_cases c : i < l.length
  ·
   rw [bt (sR c), cJ c, aA, aNv c]
   unfold oZ
   rw [wr1 i (by omega)]
   cases hp : inT t l[i] with
   | true =>
    unfold inT at hp
    rw [bt hp, fF (by simp; omega), aA, xT l hl m (i + 1) _ (by omega) (by omega) c (by simp; omega)]
    simp
   | false =>
    unfold inT at hp
    rw [bf hp, xT l hl m (i + 1) _ (by omega) (by omega) c (by omega)]
    simp
  ·
   rw [bf (sK c), List.drop_eq_nil_of_le (by omega)]; simp
theorem qO {n t : Int} {l : List aC} (hl : l.length < 1000000000) : hD n l t = some (if trB n l then fo l t else []) := by
 have hFU := FU
 unfold hD
 rw [jB hl, aA]
 cases trB n l with
 | false => rfl
 | true =>
  rw [show (!true) = false from rfl, bf rfl]
  have := xT (t := t) l hl bK 0 [] (by omega) (by omega) (Nat.zero_le _) (by simp)
  rw [show (0 : Int) = ((0 : Nat) : Int) from rfl, this]; rfl
end Go.Proofs.YtkdohhmacfoolaaGreat
