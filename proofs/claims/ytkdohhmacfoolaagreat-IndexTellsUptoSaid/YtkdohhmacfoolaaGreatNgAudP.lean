/- Facts. No condition. -/
import Derived.Test.YtkdohhmacfoolaaGreatNgGA2
set_option linter.unusedSimpArgs false
set_option linter.unusedVariables false
namespace Go.Ix
open Go.Pt
structure Srt (L : List Int) (S : Int → Prop) : Prop where
  up : L.Pairwise (· < ·)
  mem : ∀ x, x ∈ L ↔ S x
theorem bEs : ∀ {a b : List Int}, a.Pairwise (· < ·) → b.Pairwise (· < ·) → (∀ x, x ∈ a ↔ x ∈ b) → a = b
 | [], [], _, _, _ => rfl
 | [], y :: b, _, _, h => absurd ((h y).2 (List.mem_cons_self ..)) (by simp)
 | x :: a, [], _, _, h => absurd ((h x).1 (List.mem_cons_self ..)) (by simp)
 | x :: a, y :: b, ha, hb, h => by
  obtain ⟨a1, a2⟩ := List.pairwise_cons.1 ha
  obtain ⟨b1, b2⟩ := List.pairwise_cons.1 hb
  have e : x = y := by
   have h1 := (h x).1 (List.mem_cons_self ..)
   have h2 := (h y).2 (List.mem_cons_self ..)
   rcases List.mem_cons.1 h1 with q | q
   ·
    exact q
   ·
    rcases List.mem_cons.1 h2 with w | w
    ·
     exact w.symm
    ·
     have := b1 x q
     have := a1 y w
     omega
  subst e
  rw [bEs a2 b2 fun z => ?_]
  constructor
  ·
   intro q
   rcases List.mem_cons.1 ((h z).1 (List.mem_cons_of_mem _ q)) with w | w
   ·
    subst w; exact absurd (a1 z q) (by omega)
   ·
    exact w
  ·
   intro q
   rcases List.mem_cons.1 ((h z).2 (List.mem_cons_of_mem _ q)) with w | w
   ·
    subst w; exact absurd (b1 z q) (by omega)
   ·
    exact w
theorem Srt.uniq {a b : List Int} {S S' : Int → Prop} (h : Srt a S) (k : Srt b S') (e : ∀ x, S x ↔ S' x) : a = b :=
 bEs h.up k.up fun x => (h.mem x).trans ((e x).trans (k.mem x).symm)
theorem Srt.nodup {a : List Int} {S : Int → Prop} (h : Srt a S) : a.Nodup := h.up.imp fun q => by omega
theorem aY3 : ∀ {a b : List Int}, a.Nodup → (∀ x, x ∈ a → x ∈ b) → a.length ≤ b.length
 | [], _, _, _ => Nat.zero_le _
 | x :: a, b, ha, h => by
  obtain ⟨n1, n2⟩ := List.nodup_cons.1 ha
  have hx := h x (List.mem_cons_self ..)
  have := aY3 (a := a) (b := b.erase x) n2 fun y hy => (List.mem_erase_of_ne (fun e : y = x => n1 (by rw [← e]; exact hy))).2 (h y (List.mem_cons_of_mem _ hy))
  rw [List.length_erase_of_mem hx] at this
  have := List.length_pos_of_mem hx
  rw [List.length_cons]; omega
def rI (x : Int) : List Int → List Int
  | [] => [x]
  | y :: l => if y < x then y :: rI x l else x :: y :: l
theorem aC6 {x z : Int} : ∀ {l : List Int}, z ∈ rI x l ↔ z = x ∨ z ∈ l
 | [] => by simp [rI]
 | y :: l => by
  unfold rI
  split
  ·
   rw [List.mem_cons, aC6, List.mem_cons]
   constructor
   ·
    rintro (h | h | h)
    ·
     exact .inr (.inl h)
    ·
     exact .inl h
    ·
     exact .inr (.inr h)
   ·
    rintro (h | h | h)
    ·
     exact .inr (.inl h)
    ·
     exact .inl h
    ·
     exact .inr (.inr h)
  ·
   rw [List.mem_cons]
theorem aV5 {x : Int} : ∀ {l : List Int}, l.Pairwise (· < ·) → x ∉ l → (rI x l).Pairwise (· < ·)
 | [], _, _ => by simp [rI]
 | y :: l, h, hx => by
  obtain ⟨h1, h2⟩ := List.pairwise_cons.1 h
  have hne : x ≠ y := fun e => hx (e ▸ List.mem_cons_self ..)
  unfold rI
  split
  ·
   rename_i c
   refine List.pairwise_cons.2 ⟨fun z hz => ?_, aV5 h2 fun q => hx (List.mem_cons_of_mem _ q)⟩
   rcases aC6.1 hz with rfl | hz
   ·
    exact c
   ·
    exact h1 z hz
  ·
   rename_i c
   refine List.pairwise_cons.2 ⟨fun z hz => ?_, h⟩
   rcases List.mem_cons.1 hz with rfl | hz
   ·
    omega
   ·
    have := h1 z hz; omega
theorem aK7 {x : Int} : ∀ {l : List Int} {k : Nat}, k ≤ l.length → (∀ j y, j < k → l[j]? = some y → y < x) → (∀ y, l[k]? = some y → ¬ y < x) → rI x l = l.take k ++ x :: l.drop k
 | [], 0, _, _, _ => rfl
 | [], k + 1, h, _, _ => by simp at h
 | y :: l, 0, _, _, h => by
  unfold rI; rw [if_neg (h y rfl)]; rfl
 | y :: l, k + 1, hk, h1, h2 => by
  unfold rI
  rw [if_pos (h1 0 y (by omega) rfl), aK7 (k := k) (by simpa using hk) (fun j z hj hz => h1 (j + 1) z (by omega) hz) h2]; rfl
theorem zN {x : Int} : ∀ {l : List Int}, (rI x l).length = l.length + 1
 | [] => rfl
 | y :: l => by
  unfold rI
  split
  ·
   simp [zN]
  ·
   simp
def aOc (l : List Int) : List Int := l.foldl (fun out x => rI x out) []
theorem aPu : ∀ {l out : List Int}, out.Pairwise (· < ·) → (∀ x, x ∈ l → x ∉ out) → l.Nodup → Srt (l.foldl (fun out x => rI x out) out) (fun z => z ∈ out ∨ z ∈ l)
 | [], out, h, _, _ => ⟨h, fun x => by simp⟩
 | x :: l, out, h, hx, hn => by
  obtain ⟨n1, n2⟩ := List.nodup_cons.1 hn
  have := aPu (l := l) (out := rI x out) (aV5 h (hx x (List.mem_cons_self ..))) (fun z hz q => by
   rcases aC6.1 q with rfl | q
   ·
    exact n1 hz
   ·
    exact hx z (List.mem_cons_of_mem _ hz) q) n2
  refine ⟨this.up, fun z => (this.mem z).trans ?_⟩
  rw [aC6, List.mem_cons]
  constructor
  ·
   rintro ((h | h) | h)
   ·
    exact .inr (.inl h)
   ·
    exact .inl h
   ·
    exact .inr (.inr h)
  ·
   rintro (h | h | h)
   ·
    exact .inl (.inr h)
   ·
    exact .inl (.inl h)
   ·
    exact .inr h
theorem aQt {l : List Int} (h : l.Nodup) : Srt (aOc l) (· ∈ l) := by
 have := aPu (l := l) (out := []) List.Pairwise.nil (fun _ _ => by simp) h
 exact ⟨this.up, fun x => (this.mem x).trans (by simp)⟩
end Go.Ix
set_option maxRecDepth 20000
set_option maxHeartbeats 1000000
namespace Go.Proofs.YtkdohhmacfoolaaGreat
open Go Go.AM Go.Pl Go.Pt
theorem dU {α : Type} (b : Bool) (d x : α) : eP b d (some x) = some (bif b then x else d) := by cases b <;> rfl
theorem nI {i m : Nat} (h : i < m) : decide (((i : Nat) : Int) < ((m : Nat) : Int)) = true := by simp; omega
theorem nH {i m : Nat} (h : ¬ i < m) : decide (((i : Nat) : Int) < ((m : Nat) : Int)) = false := by simp; omega
section
variable {α : Type} {d : α} {o : Option α}
theorem gtt : eP (true == true) d o = o := gt' rfl
theorem gft : eP (false == true) d o = some d := gf' rfl
end
theorem bU2 (k : Nat) : decide (0 < ((k + 1 : Nat) : Int)) = true := by simp <;> omega
theorem FU : bF = 1000000000000 := rfl
def okE (n : Int) (e : aC) : Bool := decide (0 ≤ e.U ∧ e.U < e.V ∧ e.V < n ∧ 0 ≤ e.Tier ∧ e.Tier ≤ 16)
def aAm (a b : aC) : Bool := decide (a.U < b.U ∨ a.U = b.U ∧ a.V < b.V)
def trL (n : Int) : Option aC → List aC → Bool
  | _, [] => true
  | none, e :: l => okE n e && trL n (some e) l
  | some q, e :: l => okE n e && (aAm q e && trL n (some e) l)
def prv (l : List aC) : Nat → Option aC
  | 0 => none
  | k + 1 => l[k]?
theorem aG2 (a b : aC) : uO a b = some (aAm a b) := by
 unfold uO aAm; congr 1
 by_cases h1 : a.U < b.U <;> by_cases h2 : a.U = b.U <;> by_cases h3 : a.V < b.V <;> simp [h1, h2, h3]
theorem oP {n : Int} {e : aC} : okE n e = true ↔ 0 ≤ e.U ∧ e.U < e.V ∧ e.V < n ∧ 0 ≤ e.Tier ∧ e.Tier ≤ 16 := by unfold okE; exact decide_eq_true_iff
theorem aYa {l : List aC} {i : Nat} (c : i < l.length) : prv l (i + 1) = some l[i] := List.getElem?_eq_getElem c
def stE (n : Int) (p : Option aC) (e : aC) : Bool := okE n e && (match p with | none => true | some q => aAm q e)
theorem aRf (n : Int) (p : Option aC) (e : aC) (l : List aC) : trL n p (e :: l) = (stE n p e && trL n (some e) l) := by
 cases p <;> simp [trL, stE, Bool.and_assoc]
theorem aL2 {n : Int} (l : List aC) : ∀ (m i : Nat), l.length < i + m → i + m ≤ bF → i ≤ l.length → qT m n l l (l.length : Int) (i : Int) = some (trL n (prv l i) (l.drop i))
 | 0, i, h, _, hi => by omega
 | m + 1, i, h, hF, hi => by
  have hFU := FU
  show aBs (qT m) n l l _ _ = _
  unfold aBs
  by_cases c : i < l.length
  ·
   have ih := aL2 (n := n) l m (i + 1) (by omega) (by omega) c
   rw [aYa c] at ih
   rw [bt (nI c), bR c, aA, bP c, aRf]
   unfold qU
   rw [dU, aA, wr1 i (by omega), ih]
   generalize l[i] = e
   cases ok : okE n e with
   | false =>
    rw [bt]
    ·
     simp [stE, ok]
    ·
     have : ¬ (0 ≤ e.U ∧ e.U < e.V ∧ e.V < n ∧ 0 ≤ e.Tier ∧ e.Tier ≤ 16) := fun q => by rw [oP.2 q] at ok; cases ok
     by_cases h1 : e.U < 0 <;> by_cases h2 : e.V ≤ e.U <;> by_cases h3 : n ≤ e.V <;> simp [h1, h2, h3] <;> omega
   | true =>
    obtain ⟨h1, h2, h3, h4, h5⟩ := oP.1 ok
    rw [bf (by simp; omega)]
    cases i with
    | zero =>
     rw [gf' (by simp), aA, gf' (by simp), aA, bf (by simp)]
     simp [stE, ok, prv]
    | succ k =>
     have ck : k < l.length := by omega
     have e0 : IntKind.i64.wrap (((k + 1 : Nat) : Int) - 1) = ((k : Nat) : Int) := by rw [wr0 (by omega) (by omega)]; omega
     rw [bU2, gtt, e0, bR ck, aA, gtt, aG2, aA, aYa ck]
     cases hl : aAm l[k] e with
     | false => rw [bt (by simp)]; simp [stE, ok, hl]
     | true => rw [bf (by simp [hl])]; simp [stE, ok, hl]
  ·
   rw [bf (nH c), List.drop_eq_nil_of_le (by omega)]
   cases prv l i <;> rfl
def trB (n : Int) (l : List aC) : Bool := decide (0 ≤ n ∧ n ≤ 1024) && trL n none l
theorem kK {n : Int} {l : List aC} (hl : l.length < 1000000000) : hY n l = some (trB n l) := by
 have hFU := FU
 unfold hY trB
 by_cases c : 0 ≤ n ∧ n ≤ 1024
 ·
  rw [bf (by simp; omega)]
  have := aL2 (n := n) l bF 0 (by omega) (by omega) (Nat.zero_le _)
  rw [show (0 : Int) = ((0 : Nat) : Int) from rfl, this]; simp [prv, c]
 ·
  rw [bt (by simp; omega)]; simp [c]
theorem bEp {n : Int} : ∀ {l : List aC} {p : Option aC}, trL n p l = true → ∀ e, e ∈ l → okE n e = true
 | [], _, _, _, h => by cases h
 | a :: l, p, h, e, he => by
  rw [aRf] at h
  simp only [Bool.and_eq_true] at h
  rcases List.mem_cons.1 he with q | q
  ·
   subst q; have := h.1; unfold stE at this; simp only [Bool.and_eq_true] at this; exact this.1
  ·
   exact bEp h.2 e q
def inT (t : Int) (e : aC) : Bool := decide (1 ≤ e.Tier) && decide (e.Tier ≤ t)
def fo (l : List aC) (t : Int) : List aC := l.filter (inT t)
theorem aPt (l : List aC) (t : Int) : (fo l t).length ≤ l.length := List.length_filter_le _ _
theorem aLp {p : aC → Bool} {l : List aC} {i : Nat} (c : i < l.length) : (l.drop i).filter p = (if p l[i] then [l[i]] else []) ++ (l.drop (i + 1)).filter p := by
 rw [bP c, List.filter_cons]; split <;> rfl
theorem aBr {t : Int} (l : List aC) (hl : l.length < 1000000000) : ∀ (m i : Nat) (out : List aC), l.length < i + m → i + m ≤ bF → i ≤ l.length → out.length ≤ i → kX m t out l (l.length : Int) (i : Int) = some (out ++ (l.drop i).filter (inT t))
 | 0, i, _, h, _, hi, _ => by omega
 | m + 1, i, out, h, hF, hi, ho => by
  have hFU := FU
  show aAc (kX m) t out l _ _ = _
  unfold aAc
  by_cases c : i < l.length
  ·
   rw [bt (nI c), bR c, aA, aLp c]
   unfold tW
   rw [wr1 i (by omega)]
   cases hp : inT t l[i] with
   | true =>
    unfold inT at hp
    rw [bt hp, dL (by simp; omega), aA, aBr l hl m (i + 1) _ (by omega) (by omega) c (by simp; omega)]
    simp
   | false =>
    unfold inT at hp
    rw [bf hp, aBr l hl m (i + 1) _ (by omega) (by omega) c (by omega)]
    simp
  ·
   rw [bf (nH c), List.drop_eq_nil_of_le (by omega)]; simp
theorem nY {n t : Int} {l : List aC} (hl : l.length < 1000000000) : gZ n l t = some (if trB n l then fo l t else []) := by
 have hFU := FU
 unfold gZ
 rw [kK hl, aA]
 cases trB n l with
 | false => rfl
 | true =>
  rw [show (!true) = false from rfl, bf rfl]
  have := aBr (t := t) l hl bF 0 [] (by omega) (by omega) (Nat.zero_le _) (by simp)
  rw [show (0 : Int) = ((0 : Nat) : Int) from rfl, this]; rfl
theorem aBl {t : Int} (l : List aC) (hl : l.length < 1000000000) : ∀ (m i : Nat) (out : List aC), l.length < i + m → i + m ≤ bF → i ≤ l.length → out.length ≤ i → kR m l t out (i : Int) = some (out ++ (l.drop i).filter (inT t))
 | 0, i, _, h, _, hi, _ => by omega
 | m + 1, i, out, h, hF, hi, ho => by
  have hFU := FU
  show zY (kR m) l t out _ = _
  unfold zY
  by_cases c : i < l.length
  ·
   rw [bt (nI c), bR c, aA, aLp c, dU, aA]
   unfold tE
   rw [wr1 i (by omega)]
   have e1 : ((decide (0 < l[i].Tier)) && (decide ((bif (decide (0 < l[i].Tier) == true) then l[i] else aC.mk 0 0 0).Tier ≤ t))) = inT t l[i] := by
    unfold inT
    by_cases q : 0 < l[i].Tier
    ·
     have q' : 1 ≤ l[i].Tier := q
     simp [q, q']
    ·
     have q' : ¬ 1 ≤ l[i].Tier := q
     simp [q, q']
   rw [e1]
   cases hp : inT t l[i] with
   | true =>
    rw [bt rfl, aA, dL (by simp; omega), aA, aBl l hl m (i + 1) _ (by omega) (by omega) c (by simp; omega)]
    simp
   | false =>
    rw [bf rfl, aBl l hl m (i + 1) _ (by omega) (by omega) c (by omega)]
    simp
  ·
   rw [bf (nH c), List.drop_eq_nil_of_le (by omega)]; simp
theorem aGb {t : Int} {l : List aC} (hl : l.length < 1000000000) : mH l t = some (fo l t) := by
 have hFU := FU
 have := aBl (t := t) l hl bF 0 [] (by omega) (by omega) (Nat.zero_le _) (by simp)
 unfold mH
 rw [show (0 : Int) = ((0 : Nat) : Int) from rfl, this]; rfl
end Go.Proofs.YtkdohhmacfoolaaGreat
