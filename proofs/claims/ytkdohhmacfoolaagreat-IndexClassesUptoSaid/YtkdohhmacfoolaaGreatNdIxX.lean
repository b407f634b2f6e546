/- Facts that the statement's proof is made of. No condition. -/
import Derived.Test.YtkdohhmacfoolaaGreatNdIxW
set_option linter.unusedVariables false
set_option linter.unusedSimpArgs false
set_option maxRecDepth 20000
set_option maxHeartbeats 1000000
namespace Go.Proofs.YtkdohhmacfoolaaGreat
open Go Go.AM Go.Pl Go.Pt Go.Ix
theorem aUp (b w : Bool) : uJ (GA.b 4 b) w = some (b == w) := rfl
theorem aI5 (n w : Int) : rX (GA.i 3 .i64 n) w = some (n == w) := rfl
theorem bEu {l : List Int} {x : Int} : l.any (fun y => y == x) = decide (x ∈ l) := by
 induction l with
 | nil => simp
 | cons a l ih =>
  rw [List.any_cons, ih]
  by_cases c : a = x
  ·
   simp [c]
  ·
   have : ¬ x = a := fun e => c e.symm
   simp [c, this]
def pk (s : aD) : Int → Int := dC (en (kf s.Graph))
section
variable (rec2 : aD → aE → Int → List Int → Int → Int → Option Bool) (rec3 : aD → aE → Int → Int → List Int → List Int → Int → Int → List Int → Int → Int → Option Bool)
theorem bDb (s : aD) (mm : aE) (mX k x : Int) (all t91 t138 : List Int) (t92 t93 t139 t140 : Int) (hl : all.length < 1000000) : ∀ (m i : Nat) (inn : Bool), all.length < i + m → i ≤ all.length →
 fN rec2 rec3 m s mm mX k all x inn t91 t92 t93 t138 t139 t140 all (all.length : Int) (i : Int) =
  fO rec2 rec3 (fun _ _ _ _ _ _ _ _ _ _ _ _ _ _ _ _ => none) s mm mX k all x (inn || (all.drop i).any (fun y => y == x)) t91 t92 t93 t138 t139 t140 all (all.length : Int) (all.length : Int)
 | 0, i, inn, hm, hi => by omega
 | m + 1, i, inn, hm, hi => by
  by_cases c : i < all.length
  ·
   have e : fN rec2 rec3 (m + 1) s mm mX k all x inn t91 t92 t93 t138 t139 t140 all (all.length : Int) (i : Int) = fN rec2 rec3 m s mm mX k all x (inn || (all[i] == x)) t91 t92 t93 t138 t139 t140 all (all.length : Int) ((i + 1 : Nat) : Int) := by
    show fO rec2 rec3 (fN rec2 rec3 m) _ _ _ _ _ _ _ _ _ _ _ _ _ _ _ _ = _
    unfold fO
    rw [bt (by simpa using c), cJ c, aA, wr1 i (by omega)]
   rw [e, bDb s mm mX k x all t91 t138 t92 t93 t139 t140 hl m (i + 1) _ (by omega) c, dQ c, List.any_cons, Bool.or_assoc]
  ·
   have hi' : i = all.length := by omega
   subst hi'
   rw [List.drop_length, List.any_nil, Bool.or_false]
   show fO rec2 rec3 (fN rec2 rec3 m) _ _ _ _ _ _ _ _ _ _ _ _ _ _ _ _ = _
   have lf : decide ((all.length : Int) < (all.length : Int)) = false := by simp
   unfold fO
   rw [lf, cond_false, cond_false]
end
section
variable {c : aN} {s : aD} {mm : aE} (R : Rel c s mm) (hS : s.Slots.length ≤ 10)
include R hS
theorem bIi (rec2 : aD → aE → Int → List Int → Int → Int → Option Bool) (rec3 : aD → aE → Int → Int → List Int → List Int → Int → Int → List Int → Int → Int → Option Bool)
 (rec4 : aD → aE → Int → Int → List Int → Int → Bool → List Int → Int → Int → List Int → Int → Int → List Int → Int → Int → Option Bool)
 (mX : Int) {k x : Int} {i j : Nat} (hk : At s.Slots i k) (hx : At s.Slots j x) (all t91 t138 : List Int) (t92 t93 t139 t140 : Int) :
 fO rec2 rec3 rec4 s mm mX k all x (decide (pk s (j : Int) = pk s (i : Int))) t91 t92 t93 t138 t139 t140 all (all.length : Int) (all.length : Int) =
  rec3 s mm mX k all t91 t92 t93 t138 t139 (IntKind.i64.wrap (t140 + 1)) := by
 unfold fO
 rw [bf (by simp), aXc R (by omega) hk hx, aA]
 simp only []
 rw [aXc R (by omega) hx hk, aA]
 simp only []
 have e : decide (dC (en (kf s.Graph)) (i : Int) = dC (en (kf s.Graph)) (j : Int)) = decide (pk s (j : Int) = pk s (i : Int)) := decide_eq_decide.2 ⟨Eq.symm, Eq.symm⟩
 have e2 : decide (dC (en (kf s.Graph)) (j : Int) = dC (en (kf s.Graph)) (i : Int)) = decide (pk s (j : Int) = pk s (i : Int)) := rfl
 rw [e, e2, aUp, aA, gt' (by simp), aA, bf]
 by_cases q : k = x
 ·
  subst q
  have := R.ok.v.inj _ _ _ hk hx
  subst this
  simp
 ·
  simp [q]
theorem bDc (rec2 : aD → aE → Int → List Int → Int → Int → Option Bool) (mX : Int) {k : Int} {v : Nat} (hk : At s.Slots v k) (t91 : List Int) (t92 t93 : Int) : ∀ (m i : Nat), mm.Keys.length < i + m → i ≤ mm.Keys.length → mm.Keys.length < 1000 →
 gQ rec2 m s mm mX k (qU s (pk s) (v : Int)) t91 t92 t93 mm.Keys (mm.Keys.length : Int) (i : Int) = rec2 s mm mX t91 t92 (IntKind.i64.wrap (t93 + 1))
 | 0, i, hm, hi, _ => by omega
 | m + 1, i, hm, hi, hK => by
  have hFU := FU'
  show tI rec2 (gQ rec2 m) _ _ _ _ _ _ _ _ _ _ _ = _
  unfold tI
  by_cases c : i < mm.Keys.length
  ·
   obtain ⟨j, hj⟩ := (R.mem _).1 (List.getElem_mem c)
   have M := yK R (pk s) (v : Int)
   have hl : (qU s (pk s) (v : Int)).length < 1000000 := by
    have := aEw (b := mm.Keys) M.nodup fun y hy => (R.mem _).2 (((M.mem y).1 hy).imp fun _ h => h.1)
    omega
   have L := bDb rec2 (gQ rec2 m) s mm mX k mm.Keys[i] (qU s (pk s) (v : Int)) t91 mm.Keys t92 t93 (mm.Keys.length : Int) (i : Int) hl bK 0 false (by omega) (Nat.zero_le _)
   rw [List.drop_zero, bEu, Bool.false_or, show decide (mm.Keys[i] ∈ qU s (pk s) (v : Int)) = decide (pk s (j : Int) = pk s (v : Int)) from decide_eq_decide.2 ((M.mem _).trans ⟨fun ⟨j', h1, h2⟩ => by
    have := R.ok.v.inj _ _ _ h1 hj
    subst this; exact h2, fun h => ⟨j, hj, h⟩⟩), bIi R hS _ _ _ mX hk hj, wr1 i (by omega)] at L
   rw [bt (by simpa using c), cJ c, aA, show (0 : Int) = ((0 : Nat) : Int) from rfl, L, bDc rec2 mX hk t91 t92 t93 m (i + 1) (by omega) c hK]
  ·
   rw [bf (by simpa using c)]; rfl
theorem aW5 : ∀ (m i f : Nat), mm.Keys.length < i + m → i ≤ mm.Keys.length → f ≤ i → f + (mm.Keys.drop i).countP (aQq s (pk s)) = aXx s (pk s) →
 dT m s mm (f : Int) mm.Keys (mm.Keys.length : Int) (i : Int) = some true
 | 0, i, f, hm, hi, _, _ => by omega
 | m + 1, i, f, hm, hi, hf, hs => by
  have hFU := FU'
  have hK : mm.Keys.length ≤ 10 := by
   have := R.keys.length_eq
   have := bDi s.Slots
   omega
  show tP (dT m) _ _ _ _ _ _ = _
  unfold tP nW
  by_cases c : i < mm.Keys.length
  ·
   obtain ⟨j, hj⟩ := (R.mem _).1 (List.getElem_mem c)
   have M := yK R (pk s) (j : Int)
   have hin := (M.mem mm.Keys[i]).2 ⟨j, hj, rfl⟩
   have e0 : bAr 24 (GA.lu 24 (qU s (dC (en (kf s.Graph))) (j : Int))) = some (qU s (pk s) (j : Int), true) := rfl
   rw [bt (by simpa using c), cJ c, aA, aTi R (by omega) hj, aA]
   simp only []
   rw [e0, aA]
   simp only []
   rw [size_eq R (by omega) hj, aA]
   simp only []
   have e1 : (qU s (dC (en (kf s.Graph))) (j : Int)).length = (qU s (pk s) (j : Int)).length := rfl
   have hlen := List.length_pos_of_mem hin
   have ne : (((qU s (pk s) (j : Int)).length : Int) == 0) = false := by
    rw [beq_eq_false_iff_ne]; omega
   rw [e1, ne, gt' (by rfl), aI5, aA, bf (by simp)]
   have hd : idx (qU s (pk s) (j : Int)) 0 = some (qU s (pk s) (j : Int))[0] := by
    have := cJ (l := qU s (pk s) (j : Int)) (k := 0) hlen
    exact this
   have eb : aQq s (pk s) mm.Keys[i] = ((qU s (pk s) (j : Int))[0] == mm.Keys[i]) := by
    unfold aQq
    rw [R.slt hj, List.head?_eq_getElem?, List.getElem?_eq_getElem hlen]; rfl
   rw [hd, aA]
   rw [dQ c, List.countP_cons, eb] at hs
   have L := fun F : Int => bDc R hS (dT m) F hj mm.Keys (mm.Keys.length : Int) (i : Int) bK 0 (by omega) (Nat.zero_le _) (by omega)
   rw [wr1 i (by omega)] at L
   cases q : (qU s (pk s) (j : Int))[0] == mm.Keys[i] with
   | true =>
    rw [q, if_pos rfl] at hs
    rw [bt rfl, wr1 f (by omega), show (0 : Int) = ((0 : Nat) : Int) from rfl, L, aW5 m (i + 1) (f + 1) (by omega) c (by omega) (by omega)]
   | false =>
    rw [q, if_neg (by simp)] at hs
    rw [bf rfl, show (0 : Int) = ((0 : Nat) : Int) from rfl, L, aW5 m (i + 1) f (by omega) c (by omega) (by omega)]
  ·
   rw [List.drop_eq_nil_of_le (by omega), List.countP_nil, Nat.add_zero] at hs
   rw [bf (by simpa using c), bDq R (by omega), aA]
   simp only []
   have e : aXx s (dC (en (kf s.Graph))) = f := hs.symm
   rw [e, aI5, aA, show ((f : Int) == (f : Int)) = true by simp, gt' (by rfl), aPw, aA]; rfl
end
theorem bDg {c : aN} (L : List bD) (hL : L.length ≤ 1000) : ∀ (m i : Nat) (s : aD) (mm : aE), Rel c s mm → s.Slots.length ≤ 10 → s.Graph.Edges.length ≤ i → L.length < i + m → i ≤ L.length → kP m s mm L (L.length : Int) (i : Int) = some true
 | 0, i, s, mm, _, _, _, hm, hi => by omega
 | m + 1, i, s, mm, R, hS, hE, hm, hi => by
  have hFU := FU'
  show tH (kP m) _ _ _ _ _ = _
  unfold tH
  by_cases c : i < L.length
  ·
   rw [bt (by simpa using c), cJ c, aA]
   by_cases q : L[i].Do < 1 ∨ 4 < L[i].Do
   ·
    rw [bt (by simpa using q), aPw, aA]
   ·
    obtain ⟨s', f, k, I, M, R', _, e1, e2, _⟩ := step R (by omega) (by omega) (d := L[i].Do) (by omega) (by omega) L[i].A L[i].B L[i].Text
    have I' : dI s L[i] = some (s', GA.i 36 .i64 f) := I
    rw [bf (by simp; omega), I', aA]
    simp only []
    rw [M, aA, wr1 i (by omega)]
    exact bDg L hL m (i + 1) s' k R' (by omega) (by omega) (by omega) c
  ·
   rw [bf (by simpa using c)]
   have sm := R.small (by omega) (by omega)
   exact aW5 R hS bK 0 0 (by omega) (Nat.zero_le _) (Nat.le_refl _) (by
    rw [List.drop_zero, Nat.zero_add]
    exact mX R fun e he => aUa he)
theorem aL5 (c : aN) (words : List Int) (l : List bD) (hw : W64 words) (hb : words.length ≤ 1048576) : qM c words l = some true := by
 have hFU := FU'
 obtain ⟨r2, s, w, e, f1, f2, f3⟩ := start hw hb l (c := c) (most := 30) (by omega)
 have f1' : rC c l 30 = some r2 := f1
 unfold qM
 rw [f1', aA, f2, aA]
 simp only []
 rcases f3 with f3 | ⟨f3, n, rfl, n1, n2, R, h1, h2⟩
 ·
  rw [bt f3, aPw, aA]
 ·
  rw [bf f3, zJ rfl n1, aA]
  exact bDg (l.take n) (by simp; omega) bK 0 s _ R h1 (by rw [h2]; exact Nat.le_refl _) (by simp; omega) (Nat.zero_le _)
theorem aLi (c : aN) (words : List Int) (l : List bD) {A P B C : Prop} (_ : A) (w : (∀ y, y ∈ words → (Lit.int .u64 y).wf = true) ∧ P) (_ : B) (b : words.length ≤ 1048576) (_ : C) : qM c words l = some true := aL5 c words l (bRk w) b
end Go.Proofs.YtkdohhmacfoolaaGreat
