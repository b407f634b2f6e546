/- Facts that the statement's proof is made of. No condition. -/
import Derived.Test.YtkdohhmacfoolaaGreatNePw
import Derived.Test.YtkdohhmacfoolaaGreatNeGA2
set_option linter.unusedSimpArgs false
set_option linter.unusedVariables false
namespace Go.Ix
open Go.Pt
structure Srt (L : List Int) (S : Int → Prop) : Prop where
  up : L.Pairwise (· < ·)
  mem : ∀ x, x ∈ L ↔ S x
theorem aZt : ∀ {a b : List Int}, a.Pairwise (· < ·) → b.Pairwise (· < ·) → (∀ x, x ∈ a ↔ x ∈ b) → a = b
 | [], [], _, _, _ => rfl
 | [], y :: b, _, _, h => absurd ((h y).2 (List.mem_cons_self ..)) (by simp)
 | x :: a, [], _, _, h => absurd ((h x).1 (List.mem_cons_self ..)) (by simp)
 | x :: a, y :: b, ha, hb, h => by
  obtain ⟨a1, a2⟩ := List.pairwise_cons.1 ha
  obtain ⟨b1, b2⟩ := List.pairwise_cons.1 hb
  have e : x = y := by
   have h1 := (h x).1 (List.mem_cons_self ..)
   have h2 := (h y).2 (List.mem_cons_self ..)
   rcases List.mem_cons.1 h1 with q | q
   ·
    exact q
   ·
    rcases List.mem_cons.1 h2 with w | w
    ·
     exact w.symm
    ·
     have := b1 x q
     have := a1 y w
     omega
  subst e
  rw [aZt a2 b2 fun z => ?_]
  constructor
  ·
   intro q
   rcases List.mem_cons.1 ((h z).1 (List.mem_cons_of_mem _ q)) with w | w
   ·
    subst w; exact absurd (a1 z q) (by omega)
   ·
    exact w
  ·
   intro q
   rcases List.mem_cons.1 ((h z).2 (List.mem_cons_of_mem _ q)) with w | w
   ·
    subst w; exact absurd (b1 z q) (by omega)
   ·
    exact w
theorem Srt.uniq {a b : List Int} {S S' : Int → Prop} (h : Srt a S) (k : Srt b S') (e : ∀ x, S x ↔ S' x) : a = b :=
 aZt h.up k.up fun x => (h.mem x).trans ((e x).trans (k.mem x).symm)
theorem Srt.nodup {a : List Int} {S : Int → Prop} (h : Srt a S) : a.Nodup := h.up.imp fun q => by omega
theorem tW : ∀ {a b : List Int}, a.Nodup → (∀ x, x ∈ a → x ∈ b) → a.length ≤ b.length
 | [], _, _, _ => Nat.zero_le _
 | x :: a, b, ha, h => by
  obtain ⟨n1, n2⟩ := List.nodup_cons.1 ha
  have hx := h x (List.mem_cons_self ..)
  have := tW (a := a) (b := b.erase x) n2 fun y hy => (List.mem_erase_of_ne (fun e : y = x => n1 (by rw [← e]; exact hy))).2 (h y (List.mem_cons_of_mem _ hy))
  rw [List.length_erase_of_mem hx] at this
  have := List.length_pos_of_mem hx
  rw [List.length_cons]; omega
theorem bBw {a b : List Int} (ha : a.Nodup) (hb : b.Nodup) (h : ∀ x, x ∈ a ↔ x ∈ b) : a.length = b.length :=
 Nat.le_antisymm (tW ha fun x => (h x).1) (tW hb fun x => (h x).2)
def pZ (x : Int) : List Int → List Int
  | [] => [x]
  | y :: l => if y < x then y :: pZ x l else x :: y :: l
theorem aA9 {x z : Int} : ∀ {l : List Int}, z ∈ pZ x l ↔ z = x ∨ z ∈ l
 | [] => by simp [pZ]
 | y :: l => by
  unfold pZ
  split
  ·
   rw [List.mem_cons, aA9, List.mem_cons]
   constructor
   ·
    rintro (h | h | h)
    ·
     exact .inr (.inl h)
    ·
     exact .inl h
    ·
     exact .inr (.inr h)
   ·
    rintro (h | h | h)
    ·
     exact .inr (.inl h)
    ·
     exact .inl h
    ·
     exact .inr (.inr h)
  ·
   rw [List.mem_cons]
theorem aS0 {x : Int} : ∀ {l : List Int}, l.Pairwise (· < ·) → x ∉ l → (pZ x l).Pairwise (· < ·)
 | [], _, _ => by simp [pZ]
 | y :: l, h, hx => by
  obtain ⟨h1, h2⟩ := List.pairwise_cons.1 h
  have hne : x ≠ y := fun e => hx (e ▸ List.mem_cons_self ..)
  unfold pZ
  split
  ·
   rename_i c
   refine List.pairwise_cons.2 ⟨fun z hz => ?_, aS0 h2 fun q => hx (List.mem_cons_of_mem _ q)⟩
   rcases aA9.1 hz with rfl | hz
   ·
    exact c
   ·
    exact h1 z hz
  ·
   rename_i c
   refine List.pairwise_cons.2 ⟨fun z hz => ?_, h⟩
   rcases List.mem_cons.1 hz with rfl | hz
   ·
    omega
   ·
    have := h1 z hz; omega
theorem aHw {x : Int} : ∀ {l : List Int} {k : Nat}, k ≤ l.length → (∀ j y, j < k → l[j]? = some y → y < x) → (∀ y, l[k]? = some y → ¬ y < x) → pZ x l = l.take k ++ x :: l.drop k
 | [], 0, _, _, _ => rfl
 | [], k + 1, h, _, _ => by simp at h
 | y :: l, 0, _, _, h => by
  unfold pZ; rw [if_neg (h y rfl)]; rfl
 | y :: l, k + 1, hk, h1, h2 => by
  unfold pZ
  rw [if_pos (h1 0 y (by omega) rfl), aHw (k := k) (by simpa using hk) (fun j z hj hz => h1 (j + 1) z (by omega) hz) h2]; rfl
theorem wJ {x : Int} : ∀ {l : List Int}, (pZ x l).length = l.length + 1
 | [] => rfl
 | y :: l => by
  unfold pZ
  split
  ·
   simp [wJ]
  ·
   simp
def aLy (l : List Int) : List Int := l.foldl (fun out x => pZ x out) []
theorem aNi : ∀ {l out : List Int}, out.Pairwise (· < ·) → (∀ x, x ∈ l → x ∉ out) → l.Nodup → Srt (l.foldl (fun out x => pZ x out) out) (fun z => z ∈ out ∨ z ∈ l)
 | [], out, h, _, _ => ⟨h, fun x => by simp⟩
 | x :: l, out, h, hx, hn => by
  obtain ⟨n1, n2⟩ := List.nodup_cons.1 hn
  have := aNi (l := l) (out := pZ x out) (aS0 h (hx x (List.mem_cons_self ..))) (fun z hz q => by
   rcases aA9.1 q with rfl | q
   ·
    exact n1 hz
   ·
    exact hx z (List.mem_cons_of_mem _ hz) q) n2
  refine ⟨this.up, fun z => (this.mem z).trans ?_⟩
  rw [aA9, List.mem_cons]
  constructor
  ·
   rintro ((h | h) | h)
   ·
    exact .inr (.inl h)
   ·
    exact .inl h
   ·
    exact .inr (.inr h)
  ·
   rintro (h | h | h)
   ·
    exact .inl (.inr h)
   ·
    exact .inl (.inl h)
   ·
    exact .inr h
theorem aUl {l : List Int} (h : l.Nodup) : Srt (aLy l) (· ∈ l) := by
 have := aNi (l := l) (out := []) List.Pairwise.nil (fun _ _ => by simp) h
 exact ⟨this.up, fun x => (this.mem x).trans (by simp)⟩
theorem bGd {l : List E} (f : Int → Int) {x y : Int} (h : bN l x y) : bN (l.map fun e => (f e.1, f e.2)) (f x) (f y) := by
 induction h with
 | refl x => exact .refl _
 | fwd e _ ih => exact .fwd (List.mem_map.2 ⟨_, e, rfl⟩) ih
 | bwd e _ ih => exact .bwd (List.mem_map.2 ⟨_, e, rfl⟩) ih
theorem aY5 {l : List E} (f : Int → Int) (D : Int → Prop) (hD : ∀ e, e ∈ l → D e.1 ∧ D e.2) (hi : ∀ x y, D x → D y → f x = f y → x = y) {a b : Int} (h : bN (l.map fun e => (f e.1, f e.2)) a b) :
 ∀ x, D x → f x = a → (∃ y, D y ∧ f y = b ∧ bN l x y) := by
 induction h with
 | refl a => exact fun x hx hf => ⟨x, hx, hf, .refl _⟩
 | @fwd a b c e _ ih =>
  intro x hx hf
  obtain ⟨q, q1, q2⟩ := List.mem_map.1 e
  obtain ⟨d1, d2⟩ := hD q q1
  cases q2
  have := hi x q.1 hx d1 hf
  subst this
  obtain ⟨y, y1, y2, y3⟩ := ih q.2 d2 rfl
  exact ⟨y, y1, y2, .fwd q1 y3⟩
 | @bwd a b c e _ ih =>
  intro x hx hf
  obtain ⟨q, q1, q2⟩ := List.mem_map.1 e
  obtain ⟨d1, d2⟩ := hD q q1
  cases q2
  have := hi x q.2 hx d2 hf
  subst this
  obtain ⟨y, y1, y2, y3⟩ := ih q.1 d1 rfl
  exact ⟨y, y1, y2, .bwd q1 y3⟩
theorem aRw {l : List E} (f : Int → Int) (D : Int → Prop) (hD : ∀ e, e ∈ l → D e.1 ∧ D e.2) (hi : ∀ x y, D x → D y → f x = f y → x = y) {x y : Int} (hx : D x) (hy : D y) : bN (l.map fun e => (f e.1, f e.2)) (f x) (f y) ↔ bN l x y := by
 refine ⟨fun h => ?_, bGd f⟩
 obtain ⟨z, z1, z2, z3⟩ := aY5 f D hD hi h x hx rfl
 have := hi z y z1 hy z2
 subst this; exact z3
theorem aMw {l l' : List E} (h : ∀ a b, (a, b) ∈ l → (a, b) ∈ l' ∨ (b, a) ∈ l') {x y : Int} (k : bN l x y) : bN l' x y :=
 k.bind fun a b e => (h a b e).elim (fun q => .one q) (fun q => .eno q)
end Go.Ix
set_option linter.unusedVariables false
set_option linter.unusedSimpArgs false
set_option maxRecDepth 20000
set_option maxHeartbeats 1000000
namespace Go.Proofs.YtkdohhmacfoolaaGreat
open Go Go.AM Go.Pl Go.Pt
theorem fO {α : Type} (b : Bool) (d x : α) : fC b d (some x) = some (bif b then x else d) := by cases b <;> rfl
theorem nU {i m : Nat} (h : i < m) : decide (((i : Nat) : Int) < ((m : Nat) : Int)) = true := by simp; omega
theorem nY {i m : Nat} (h : ¬ i < m) : decide (((i : Nat) : Int) < ((m : Nat) : Int)) = false := by simp; omega
section
variable {α : Type} {d : α} {o : Option α}
theorem gtt : fC (true == true) d o = o := gt' rfl
theorem gft : fC (false == true) d o = some d := gf' rfl
end
theorem bTu (k : Nat) : decide (0 < ((k + 1 : Nat) : Int)) = true := by simp <;> omega
theorem FU : bF = 1000000000000 := rfl
def okE (n : Int) (e : aD) : Bool := decide (0 ≤ e.U ∧ e.U < e.V ∧ e.V < n ∧ 0 ≤ e.Tier ∧ e.Tier ≤ 16)
def yU (a b : aD) : Bool := decide (a.U < b.U ∨ a.U = b.U ∧ a.V < b.V)
def trL (n : Int) : Option aD → List aD → Bool
  | _, [] => true
  | none, e :: l => okE n e && trL n (some e) l
  | some q, e :: l => okE n e && (yU q e && trL n (some e) l)
def prv (l : List aD) : Nat → Option aD
  | 0 => none
  | k + 1 => l[k]?
theorem aCp (a b : aD) : sC a b = some (yU a b) := by
 unfold sC yU; congr 1
 by_cases h1 : a.U < b.U <;> by_cases h2 : a.U = b.U <;> by_cases h3 : a.V < b.V <;> simp [h1, h2, h3]
theorem nF {n : Int} {e : aD} : okE n e = true ↔ 0 ≤ e.U ∧ e.U < e.V ∧ e.V < n ∧ 0 ≤ e.Tier ∧ e.Tier ≤ 16 := by unfold okE; exact decide_eq_true_iff
theorem aSw {l : List aD} {i : Nat} (c : i < l.length) : prv l (i + 1) = some l[i] := List.getElem?_eq_getElem c
def stE (n : Int) (p : Option aD) (e : aD) : Bool := okE n e && (match p with | none => true | some q => yU q e)
theorem aNo (n : Int) (p : Option aD) (e : aD) (l : List aD) : trL n p (e :: l) = (stE n p e && trL n (some e) l) := by
 cases p <;> simp [trL, stE, Bool.and_assoc]
theorem aHj {n : Int} (l : List aD) : ∀ (m i : Nat), l.length < i + m → i + m ≤ bF → i ≤ l.length → oL m n l l (l.length : Int) (i : Int) = some (trL n (prv l i) (l.drop i))
 | 0, i, h, _, hi => by omega
 | m + 1, i, h, hF, hi => by
  have hFU := FU
  show zO (oL m) n l l _ _ = _
  unfold zO
  by_cases c : i < l.length
  ·
   have ih := aHj (n := n) l m (i + 1) (by omega) (by omega) c
   rw [aSw c] at ih
   rw [bt (nU c), bW c, aA, cR c, aNo]
   unfold oR
   rw [fO, aA, wr1 i (by omega), ih]
   generalize l[i] = e
   cases ok : okE n e with
   | false =>
    rw [bt]
    ·
     simp [stE, ok]
    ·
     have : ¬ (0 ≤ e.U ∧ e.U < e.V ∧ e.V < n ∧ 0 ≤ e.Tier ∧ e.Tier ≤ 16) := fun q => by rw [nF.2 q] at ok; cases ok
     by_cases h1 : e.U < 0 <;> by_cases h2 : e.V ≤ e.U <;> by_cases h3 : n ≤ e.V <;> simp [h1, h2, h3] <;> omega
   | true =>
    obtain ⟨h1, h2, h3, h4, h5⟩ := nF.1 ok
    rw [bf (by simp; omega)]
    cases i with
    | zero =>
     rw [gf' (by simp), aA, gf' (by simp), aA, bf (by simp)]
     simp [stE, ok, prv]
    | succ k =>
     have ck : k < l.length := by omega
     have e0 : IntKind.i64.wrap (((k + 1 : Nat) : Int) - 1) = ((k : Nat) : Int) := by rw [wr0 (by omega) (by omega)]; omega
     rw [bTu, gtt, e0, bW ck, aA, gtt, aCp, aA, aSw ck]
     cases hl : yU l[k] e with
     | false => rw [bt (by simp)]; simp [stE, ok, hl]
     | true => rw [bf (by simp [hl])]; simp [stE, ok, hl]
  ·
   rw [bf (nY c), List.drop_eq_nil_of_le (by omega)]
   cases prv l i <;> rfl
def trB (n : Int) (l : List aD) : Bool := decide (0 ≤ n ∧ n ≤ 1024) && trL n none l
theorem jO {n : Int} {l : List aD} (hl : l.length < 1000000000) : gH n l = some (trB n l) := by
 have hFU := FU
 unfold gH trB
 by_cases c : 0 ≤ n ∧ n ≤ 1024
 ·
  rw [bf (by simp; omega)]
  have := aHj (n := n) l bF 0 (by omega) (by omega) (Nat.zero_le _)
  rw [show (0 : Int) = ((0 : Nat) : Int) from rfl, this]; simp [prv, c]
 ·
  rw [bt (by simp; omega)]; simp [c]
theorem aZc {n : Int} : ∀ {l : List aD} {p : Option aD}, trL n p l = true → ∀ e, e ∈ l → okE n e = true
 | [], _, _, _, h => by cases h
 | a :: l, p, h, e, he => by
  rw [aNo] at h
  simp only [Bool.and_eq_true] at h
  rcases List.mem_cons.1 he with q | q
  ·
   subst q; have := h.1; unfold stE at this; simp only [Bool.and_eq_true] at this; exact this.1
  ·
   exact aZc h.2 e q
def inT (t : Int) (e : aD) : Bool := decide (1 ≤ e.Tier) && decide (e.Tier ≤ t)
def fo (l : List aD) (t : Int) : List aD := l.filter (inT t)
theorem aQo (l : List aD) (t : Int) : (fo l t).length ≤ l.length := List.length_filter_le _ _
theorem aPv {p : aD → Bool} {l : List aD} {i : Nat} (c : i < l.length) : (l.drop i).filter p = (if p l[i] then [l[i]] else []) ++ (l.drop (i + 1)).filter p := by
 rw [cR c, List.filter_cons]; split <;> rfl
theorem zM {t : Int} (l : List aD) (hl : l.length < 1000000000) : ∀ (m i : Nat) (out : List aD), l.length < i + m → i + m ≤ bF → i ≤ l.length → out.length ≤ i → kC m t out l (l.length : Int) (i : Int) = some (out ++ (l.drop i).filter (inT t))
 | 0, i, _, h, _, hi, _ => by omega
 | m + 1, i, out, h, hF, hi, ho => by
  have hFU := FU
  show wK (kC m) t out l _ _ = _
  unfold wK
  by_cases c : i < l.length
  ·
   rw [bt (nU c), bW c, aA, aPv c]
   unfold rR
   rw [wr1 i (by omega)]
   cases hp : inT t l[i] with
   | true =>
    unfold inT at hp
    rw [bt hp, dY (by simp; omega), aA, zM l hl m (i + 1) _ (by omega) (by omega) c (by simp; omega)]
    simp
   | false =>
    unfold inT at hp
    rw [bf hp, zM l hl m (i + 1) _ (by omega) (by omega) c (by omega)]
    simp
  ·
   rw [bf (nY c), List.drop_eq_nil_of_le (by omega)]; simp
theorem lW {n t : Int} {l : List aD} (hl : l.length < 1000000000) : gL n l t = some (if trB n l then fo l t else []) := by
 have hFU := FU
 unfold gL
 rw [jO hl, aA]
 cases trB n l with
 | false => rfl
 | true =>
  rw [show (!true) = false from rfl, bf rfl]
  have := zM (t := t) l hl bF 0 [] (by omega) (by omega) (Nat.zero_le _) (by simp)
  rw [show (0 : Int) = ((0 : Nat) : Int) from rfl, this]; rfl
end Go.Proofs.YtkdohhmacfoolaaGreat
