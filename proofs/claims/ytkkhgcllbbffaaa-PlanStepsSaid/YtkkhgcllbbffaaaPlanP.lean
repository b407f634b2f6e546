/- What plan's functions, and the reference's, compute. -/
import Derived.Test.YtkkhgcllbbffaaaPlanM
import Derived.Test.YtkkhgcllbbffaaaNatU
set_option linter.unusedVariables false
set_option linter.unusedSimpArgs false
set_option maxRecDepth 20000
set_option maxHeartbeats 1000000
namespace Go.Proofs.Ytkkhgcllbbffaaa
open Go Go.AM Go.Pl

def Rw (r : Nat) : Int := 8 ^ r + 7 ^ r
def Wt (n m : Int) (l r : Nat) : Int := m * n * Rw r ^ l
def Ho (l r : Nat) : Int := (2 * 8 ^ r) ^ l
def Enb (n m : Int) (k l r : Nat) : Bool := decide (Wt n m l r * 2 ^ k ≤ Ho l r)
def cnt (n m : Int) : Bool := (((decide (1 ≤ n)) && (decide (n ≤ 1024))) && (decide (0 ≤ m))) && (decide (m ≤ 2147483647))
def shp (l r : Int) : Bool := (((decide (1 ≤ l)) && (decide (l ≤ 16))) && (decide (1 ≤ r))) && (decide (r ≤ 8))
def btk (k : Int) : Bool := (decide (0 ≤ k)) && (decide (k ≤ 64))
theorem cnt_iff {n m : Int} : cnt n m = true ↔ 1 ≤ n ∧ n ≤ 1024 ∧ 0 ≤ m ∧ m ≤ 2147483647 := by simp [cnt]; omega
theorem shp_iff {n m : Int} : shp n m = true ↔ 1 ≤ n ∧ n ≤ 16 ∧ 1 ≤ m ∧ m ≤ 8 := by simp [shp]; omega
theorem btk_iff {n : Int} : btk n = true ↔ 0 ≤ n ∧ n ≤ 64 := by simp [btk]
theorem power8 : ∀ r : Fin 9, plPower_m 8 ((r.val : Nat) : Int) = some (8 ^ r.val) := by decide +kernel
theorem power7 : ∀ r : Fin 9, plPower_m 7 ((r.val : Nat) : Int) = some (7 ^ r.val) := by decide +kernel
theorem p8 : ∀ r : Fin 9, (0 : Int) < 8 ^ r.val ∧ (8 : Int) ^ r.val ≤ 16777216 ∧ (0 : Int) < 7 ^ r.val ∧ (7 : Int) ^ r.val ≤ 8 ^ r.val := by decide +kernel
theorem bigHo : ∀ (r : Fin 9) (l : Fin 17), Ho l.val r.val ≤ 4294967296 ^ 13 ∧ Rw r.val ^ l.val ≤ Ho l.val r.val ∧ 0 < Rw r.val ^ l.val := by decide +kernel
theorem two64 : ∀ k : Fin 65, (0 : Int) < 2 ^ k.val ∧ (2 : Int) ^ k.val ≤ 4294967296 ^ 2 := by decide +kernel
theorem W_bound {n m : Int} {l r : Nat} (hc : cnt n m = true) (hl : l ≤ 16) (hr : r ≤ 8) : 0 ≤ Wt n m l r ∧ Wt n m l r < 4294967296 ^ 15 := by
  obtain ⟨h1, h2, h3, h4⟩ := cnt_iff.mp hc
  obtain ⟨b1, b2, b3⟩ := bigHo ⟨r, by omega⟩ ⟨l, by omega⟩
  simp only at b1 b2 b3
  have hmn := Int.mul_le_mul h4 h2 (by omega) (by omega)
  have hmn0 := Int.mul_nonneg h3 (show (0 : Int) ≤ n by omega)
  unfold Wt
  refine ⟨Int.mul_nonneg hmn0 (by omega), ?_⟩
  have := Int.mul_le_mul (show m * n ≤ 2147483647 * 1024 by omega) (show Rw r ^ l ≤ 4294967296 ^ 13 by omega) (by omega) (by omega)
  have e : (4294967296 : Int) ^ 15 = 4294967296 ^ 13 * 4294967296 * 4294967296 := by rw [← Int.pow_succ, ← Int.pow_succ]
  rw [e]
  generalize (4294967296 : Int) ^ 13 = Z at *
  omega
theorem lt64 {v : Int} {n : Nat} (h : v < 4294967296 ^ n) (hn : n ≤ 64) : v < 4294967296 ^ 64 := by have := pw_le hn; omega
theorem weight_ok {n m : Int} {l r : Nat} (hc : cnt n m = true) (hs : shp l r = true) : ∃ t, IsN t (Wt n m l r) ∧ Rt t = true ∧ plWeight_m n m l r = some (t, 0) := by
  obtain ⟨h1, h2, h3, h4⟩ := cnt_iff.mp hc
  obtain ⟨s1, s2, s3, s4⟩ := shp_iff.mp hs
  obtain ⟨q1, q2, q3, q4⟩ := p8 ⟨r, by omega⟩
  obtain ⟨b1, b2, b3⟩ := bigHo ⟨r, by omega⟩ ⟨l, by omega⟩
  have w8 := power8 ⟨r, by omega⟩
  have w7 := power7 ⟨r, by omega⟩
  simp only at q1 q2 q3 q4 b1 b2 b3 w8 w7
  have hmn := Int.mul_le_mul h4 h2 (by omega) (by omega)
  have hmn0 := Int.mul_nonneg h3 (show (0 : Int) ≤ n by omega)
  obtain ⟨a, a1, a2, a3, _⟩ := of_ok (8 ^ r) (by omega)
  obtain ⟨b, c1, c2, c3, _⟩ := of_ok (7 ^ r) (by omega)
  obtain ⟨e, e1, e2, e3⟩ := (add_of a2 c2 a3 c3).small (by have := pw_le (show 2 ≤ 64 by omega); omega)
  have e1' : IsN e (Rw r) := e1
  obtain ⟨p, p1, p2, p3⟩ := (pow_of e1' e2 l (by omega)).small (lt64 (n := 14) (by have := pw_pos 13; rw [Int.pow_succ]; omega) (by omega))
  obtain ⟨o, o1, o2, o3, _⟩ := of_ok (m * n) (by omega)
  obtain ⟨t, t1, t2, t3⟩ := (mul_of o2 p1 o3 p2).small (lt64 (W_bound hc (by omega) (by omega)).2 (by omega))
  refine ⟨t, t1, t2, ?_⟩
  have ec : plCounts_m n m = some true := by rw [← hc]; rfl
  have es : plShape_m l r = some true := by rw [← hs]; rfl
  unfold plWeight_m
  rw [wr_u64 (n := m) (by omega) (by omega), wr_u64 (n := n) (by omega) (by omega), wr_u64 (n := m * n) (by omega) (by omega)]
  simp only [ec, es, bs, Bool.not_true, BEq.rfl, gt_, Bool.or_self, cond_false, w8, w7, a1, c1, e3, bne_self_eq_false, p3, o1, t3]
theorem weight_no {n m l r : Int} (h : (cnt n m && shp l r) = false) : plWeight_m n m l r = some ([], 1) := by
  unfold plWeight_m
  have ec : plCounts_m n m = some (cnt n m) := rfl
  have es : plShape_m l r = some (shp l r) := rfl
  rw [ec, es]
  cases h1 : cnt n m <;> cases h2 : shp l r <;> simp [h1, h2, gopt] at h ⊢
theorem whole_ok' {l r : Nat} (hs : shp l r = true) : ∃ t, IsN t (Ho l r) ∧ Rt t = true ∧ plWhole_m l r = some (t, 0) := by
  obtain ⟨s1, s2, s3, s4⟩ := shp_iff.mp hs
  obtain ⟨q1, q2, q3, q4⟩ := p8 ⟨r, by omega⟩
  obtain ⟨b1, b2, b3⟩ := bigHo ⟨r, by omega⟩ ⟨l, by omega⟩
  have w8 := power8 ⟨r, by omega⟩
  simp only at q1 q2 q3 q4 b1 b2 b3 w8
  obtain ⟨a, a1, a2, a3, _⟩ := of_ok (2 * 8 ^ r) (by omega)
  obtain ⟨t, t1, t2, t3⟩ := (pow_of a2 a3 l (by omega)).small (show Ho l r < _ from lt64 (n := 14) (by have := pw_pos 13; rw [Int.pow_succ]; omega) (by omega))
  refine ⟨t, t1, t2, ?_⟩
  have es : plShape_m l r = some true := by rw [← hs]; rfl
  unfold plWhole_m
  simp only [es, bs, Bool.not_true, cond_false, w8]
  rw [wr_u64 (n := 2 * 8 ^ r) (by omega) (by omega), a1, bs, t3]
  rfl
theorem whole_no {l r : Int} (h : shp l r = false) : plWhole_m l r = some ([], 1) := by
  unfold plWhole_m
  have es : plShape_m l r = some (shp l r) := rfl
  rw [es, h]; rfl
theorem enough_ok {n m : Int} {k l r : Nat} (hc : cnt n m = true) (hk : btk k = true) (hs : shp l r = true) : plEnough_m n m k l r = some (Enb n m k l r) := by
  obtain ⟨s1, s2, s3, s4⟩ := shp_iff.mp hs
  obtain ⟨k1, k2⟩ := btk_iff.mp hk
  obtain ⟨w, w1, w2, w3⟩ := weight_ok hc hs
  obtain ⟨v, v1, v2, v3⟩ := whole_ok' hs
  obtain ⟨d, d1, d2, d3, _⟩ := of_ok 2 (by omega)
  obtain ⟨t1, t2⟩ := two64 ⟨k, by omega⟩
  simp only at t1 t2
  obtain ⟨p, p1, p2, p3⟩ := (pow_of d2 d3 k (by omega)).small (lt64 (n := 3) (by have := pw_pos 2; rw [Int.pow_succ]; omega) (by omega))
  obtain ⟨W0, W1⟩ := W_bound hc (show l ≤ 16 by omega) (show r ≤ 8 by omega)
  obtain ⟨x, x1, x2, x3⟩ := (mul_of w1 p1 w2 p2).small (by
    have := Int.mul_le_mul (show Wt n m l r ≤ 4294967296 ^ 15 by omega) t2 (by omega) (by have := pw_pos 15; omega)
    rw [← Int.pow_add] at this
    refine lt64 (n := 18) ?_ (by omega)
    have := pw_pos 17
    rw [Int.pow_succ]; omega)
  have c1 := cmp_of x1 v1 x2 v2
  have ec : plCounts_m n m = some true := by rw [← hc]; rfl
  have es : plShape_m l r = some true := by rw [← hs]; rfl
  have ek : plBits_m k = some true := by rw [← hk]; rfl
  have e : decide (cmpv (Wt n m l r * 2 ^ k) (Ho l r) ≤ 0) = Enb n m k l r := by
    unfold Enb
    apply decide_eq_decide.mpr
    have := cmpv_cases (Wt n m l r * 2 ^ k) (Ho l r)
    omega
  unfold plEnough_m
  simp only [ec, es, ek, bs, Bool.not_true, BEq.rfl, gt_, Bool.or_self, cond_false, w3, v3, d1, p3, x3, bne_self_eq_false, c1, Bool.true_and, e]
theorem enough_no {n m k l r : Int} (h : (cnt n m && btk k && shp l r) = false) : plEnough_m n m k l r = some false := by
  unfold plEnough_m
  have ec : plCounts_m n m = some (cnt n m) := rfl
  have es : plShape_m l r = some (shp l r) := rfl
  have ek : plBits_m k = some (btk k) := rfl
  rw [ec, es, ek]
  cases h1 : cnt n m <;> cases h2 : shp l r <;> cases h3 : btk k <;> simp [h1, h2, h3, gopt] at h ⊢
/-- What is planned. -/
def Res (n m : Int) (k : Nat) (c : GConfig) (e : Int) : Prop :=
  (∃ l r : Nat, 1 ≤ l ∧ l ≤ 16 ∧ 1 ≤ r ∧ r ≤ 8 ∧ c = ⟨n, l, r⟩ ∧ e = 0 ∧ Enb n m k l r = true ∧ ∀ l' r' : Nat, 1 ≤ l' → 1 ≤ r' → r' ≤ 8 → (l' < l ∨ l' = l ∧ r' < r) → Enb n m k l' r' = false) ∨
  (c = ⟨0, 0, 0⟩ ∧ e = 6 ∧ ∀ l' r' : Nat, 1 ≤ l' → l' ≤ 16 → 1 ≤ r' → r' ≤ 8 → Enb n m k l' r' = false)
theorem planL2 (rec1 : Int → Int → Int → GConfig → Int → Option (GConfig × Int)) (n m : Int) (k l : Nat) (t6 : GConfig) (hc : cnt n m = true) (hk : btk k = true) (hl : 1 ≤ l ∧ l ≤ 16) (G : Option (GConfig × Int) → Prop)
    (hbef : ∀ l' r' : Nat, 1 ≤ l' → l' < l → 1 ≤ r' → r' ≤ 8 → Enb n m k l' r' = false)
    (hG : (∀ l' r' : Nat, 1 ≤ l' → l' < l + 1 → 1 ≤ r' → r' ≤ 8 → Enb n m k l' r' = false) → G (rec1 n m k t6 ((l + 1 : Nat) : Int))) (hR : ∀ c e, Res n m k c e → G (some (c, e))) :
    ∀ (f r : Nat), 9 - r < f → 1 ≤ r → r ≤ 9 → (∀ r' : Nat, 1 ≤ r' → r' < r → Enb n m k l r' = false) → G (plPlan_L2 rec1 f n m k t6 l r)
  | 0, r, h, _, _, _ => by omega
  | f + 1, r, h, h1, h9, hb => by
    show G (plPlan_B2 rec1 (plPlan_L2 rec1 f) n m k t6 l r)
    unfold plPlan_B2
    by_cases hr : r ≤ 8
    · rw [show decide (((r : Nat) : Int) ≤ 8) = true by simp <;> omega, cond_true, enough_ok hc hk (shp_iff.mpr ⟨by omega, by omega, by omega, by omega⟩), bs]
      cases he : Enb n m k l r with
      | true =>
        rw [cond_true]
        exact hR _ _ (.inl ⟨l, r, hl.1, hl.2, h1, hr, rfl, rfl, he, fun l' r' a b c d => by
          rcases d with d | ⟨rfl, d⟩
          · exact hbef l' r' a d b c
          · exact hb r' b d⟩)
      | false =>
        rw [cond_false, show IntKind.i64.wrap ((r : Int) + 1) = ((r + 1 : Nat) : Int) by rw [wr_i64 (by omega) (by omega)]; omega]
        exact planL2 rec1 n m k l t6 hc hk hl G hbef hG hR f (r + 1) (by omega) (by omega) (by omega) (fun r' a b => by
          rcases (show r' < r ∨ r' = r by omega) with d | d
          · exact hb r' a d
          · subst d; exact he)
    · rw [show decide (((r : Nat) : Int) ≤ 8) = false by simp <;> omega, cond_false, show IntKind.i64.wrap ((l : Int) + 1) = ((l + 1 : Nat) : Int) by rw [wr_i64 (by omega) (by omega)]; omega]
      refine hG fun l' r' a b c d => ?_
      rcases (show l' < l ∨ l' = l by omega) with e | e
      · exact hbef l' r' a e c d
      · subst e; exact hb r' c (by omega)
theorem planL1 (n m : Int) (k : Nat) (t6 : GConfig) (hc : cnt n m = true) (hk : btk k = true) : ∀ (f l : Nat), 17 - l < f → 1 ≤ l → l ≤ 17 → (∀ l' r' : Nat, 1 ≤ l' → l' < l → 1 ≤ r' → r' ≤ 8 → Enb n m k l' r' = false) →
    ∃ c e, plPlan_L1 f n m k t6 l = some (c, e) ∧ Res n m k c e
  | 0, l, h, _, _, _ => by omega
  | f + 1, l, h, h1, h2, hb => by
    show ∃ c e, plPlan_B1 (plPlan_L1 f) n m k t6 l = some (c, e) ∧ _
    unfold plPlan_B1
    by_cases hl : l ≤ 16
    · rw [show decide (((l : Nat) : Int) ≤ 16) = true by simp <;> omega, cond_true]
      exact planL2 (plPlan_L1 f) n m k l t6 hc hk ⟨h1, hl⟩ (fun o => ∃ c e, o = some (c, e) ∧ Res n m k c e) hb (fun hb' => planL1 n m k t6 hc hk f (l + 1) (by omega) (by omega) (by omega) hb')
        (fun c e h => ⟨c, e, rfl, h⟩) FUEL 1 (by rw [FUEL_big]; omega) (by omega) (by omega) (fun r' a b => by omega)
    · rw [show decide (((l : Nat) : Int) ≤ 16) = false by simp <;> omega, cond_false]
      exact ⟨_, _, rfl, .inr ⟨rfl, rfl, fun l' r' a b c d => hb l' r' a (by omega) c d⟩⟩
theorem plan_ok {n m : Int} {k : Nat} (hc : cnt n m = true) (hk : btk k = true) : ∃ c e, plPlan_m n m k = some (c, e) ∧ Res n m k c e := by
  have ec : plCounts_m n m = some true := by rw [← hc]; rfl
  have ek : plBits_m k = some true := by rw [← hk]; rfl
  unfold plPlan_m
  simp only [ec, ek, bs, Bool.not_true, BEq.rfl, gt_, Bool.or_self, cond_false]
  exact planL1 n m k _ hc hk FUEL 1 (by rw [FUEL_big]; omega) (by omega) (by omega) (fun l' r' a b => by omega)
theorem plan_no {n m k : Int} (h : (cnt n m && btk k) = false) : plPlan_m n m k = some (⟨0, 0, 0⟩, 1) := by
  unfold plPlan_m
  have ec : plCounts_m n m = some (cnt n m) := rfl
  have ek : plBits_m k = some (btk k) := rfl
  rw [ec, ek]
  cases h1 : cnt n m <;> cases h2 : btk k <;> simp [h1, h2, gopt] at h ⊢
end Go.Proofs.Ytkkhgcllbbffaaa
