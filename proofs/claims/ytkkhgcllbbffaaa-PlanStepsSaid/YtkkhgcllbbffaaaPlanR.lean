/- The laws of plan: against the reference. -/
import Derived.Test.YtkkhgcllbbffaaaPlanQ
set_option linter.unusedVariables false
set_option linter.unusedSimpArgs false
set_option maxRecDepth 20000
set_option maxHeartbeats 1000000
namespace Go.Proofs.Ytkkhgcllbbffaaa
open Go Go.AM Go.Pl

theorem rmul_of {a b : List Int} {v u : Int} (ha : IsN a v) (hb : IsN b u) (h1 : v < 4294967296 ^ 200) (h2 : u < 4294967296 ^ 200) : ∃ t, refMul_m a b = some t ∧ IsN t (v * u) := by
  obtain ⟨t, e, h⟩ := rmul_ok ha.lim hb.lim (ha.len_le h1) (hb.len_le h2)
  rw [ha.val, hb.val] at h
  exact ⟨t, e, h⟩
theorem radd_of {a b : List Int} {v u : Int} (ha : IsN a v) (hb : IsN b u) (h1 : v < 4294967296 ^ 200) (h2 : u < 4294967296 ^ 200) : ∃ t, refAdd_m a b = some t ∧ IsN t (v + u) := by
  obtain ⟨t, e, h⟩ := radd_ok ha.lim hb.lim (Nat.le_trans (ha.len_le h1) (by omega)) (Nat.le_trans (hb.len_le h2) (by omega))
  rw [ha.val, hb.val] at h
  exact ⟨t, e, h⟩
theorem rpowL (a : List Int) (v : Int) (ha : IsN a v) (n : Nat) (hn : n ≤ 1024) (h1 : v < 4294967296 ^ 200) (hv : ∀ i, i ≤ n → v ^ i < 4294967296 ^ 200) : ∀ (f i : Nat) (o : List Int), n - i < f → i ≤ n → IsN o (v ^ i) → ∃ t, rpPower_L1 f a n o i = some t ∧ IsN t (v ^ n)
  | 0, i, o, h, _, _ => by omega
  | f + 1, i, o, h, hi, ho => by
    show ∃ t, rpPower_B1 (rpPower_L1 f) a n o i = some t ∧ _
    unfold rpPower_B1
    by_cases c : i < n
    · obtain ⟨t, e, ht⟩ := rmul_of ho ha (hv i hi) h1
      rw [lt_t c, cond_true, e, bs, inc i (by omega)]
      exact rpowL a v ha n hn h1 hv f (i + 1) t (by omega) (by omega) (by rw [Int.pow_succ]; exact ht)
    · rw [lt_f c, cond_false]
      have : i = n := by omega
      subst this
      exact ⟨o, rfl, ho⟩
theorem rpow_ok {a : List Int} {v : Int} (ha : IsN a v) (n : Nat) (hn : n ≤ 1024) (h1 : v < 4294967296 ^ 200) (hv : ∀ i, i ≤ n → v ^ i < 4294967296 ^ 200) : ∃ t, rpPower_m a n = some t ∧ IsN t (v ^ n) := rpowL a v ha n hn h1 hv FUEL 0 [1] (by rw [FUEL_big]; omega) (by omega) (by rw [Int.pow_zero]; exact one_isN)
theorem digit (x : Int) (h : 1 ≤ x ∧ x < 4294967296) : IsN [x] x := ⟨fun y hy => by simp at hy; omega, fun y hy => by simp at hy; omega, by simp [nv]⟩
theorem lt200 {v : Int} {n : Nat} (h : v ≤ 4294967296 ^ n) (hn : n < 200) : v < 4294967296 ^ 200 := by
  have := pw_le (show n + 1 ≤ 200 by omega)
  have := pw_pos n
  rw [Int.pow_succ] at *; omega
theorem rof_ok (n : Int) (h : 0 ≤ n ∧ n < 18446744073709551616) : ∃ t, rpOf_m n = some t ∧ IsN t n := by
  have l1 : Lim [n % 4294967296] := fun y hy => by simp at hy; omega
  have l2 : Lim [0, n / 4294967296 % 4294967296] := fun y hy => by simp at hy; omega
  obtain ⟨t, e, ht⟩ := radd_ok l1 l2 (by simp) (by simp)
  unfold rpOf_m
  rw [wu32, wu32, shr32 _ rfl, e, bs]
  refine ⟨t, rfl, ?_⟩
  have : nv [n % 4294967296] + nv [0, n / 4294967296 % 4294967296] = n := by simp [nv]; omega
  rw [this] at ht
  exact ht
theorem rpow8 (r : Nat) (hr : r ≤ 8) : ∃ t, rpPower_m [8] r = some t ∧ IsN t (8 ^ r) := rpow_ok (digit 8 (by omega)) r (by omega) (lt200 (n := 1) (by omega) (by omega)) (fun i hi => lt200 (n := 1) (by have := (p8 ⟨i, by omega⟩).2.1; simp only at this; omega) (by omega))
theorem rpow7 (r : Nat) (hr : r ≤ 8) : ∃ t, rpPower_m [7] r = some t ∧ IsN t (7 ^ r) := rpow_ok (digit 7 (by omega)) r (by omega) (lt200 (n := 1) (by omega) (by omega)) (fun i hi => lt200 (n := 1) (by have := p8 ⟨i, by omega⟩; simp only at this; omega) (by omega))
theorem rpow2 (k : Nat) (hk : k ≤ 64) : ∃ t, rpPower_m [2] k = some t ∧ IsN t (2 ^ k) := rpow_ok (digit 2 (by omega)) k (by omega) (lt200 (n := 1) (by omega) (by omega)) (fun i hi => lt200 (n := 2) (two64 ⟨i, by omega⟩).2 (by omega))
theorem rweight_ok {n m : Int} {l r : Nat} (hc : cnt n m = true) (hs : shp l r = true) : ∃ t, rpWeight_m n m l r = some t ∧ IsN t (Wt n m l r) := by
  obtain ⟨h1, h2, h3, h4⟩ := cnt_iff.mp hc
  obtain ⟨s1, s2, s3, s4⟩ := shp_iff.mp hs
  obtain ⟨q1, q2, q3, q4⟩ := p8 ⟨r, by omega⟩
  obtain ⟨b1, b2, b3⟩ := bigHo ⟨r, by omega⟩ ⟨l, by omega⟩
  simp only at q1 q2 q3 q4 b1 b2 b3
  have hmn := Int.mul_le_mul h4 h2 (by omega) (by omega)
  obtain ⟨a, a1, a2⟩ := rpow8 r (by omega)
  obtain ⟨b, c1, c2⟩ := rpow7 r (by omega)
  obtain ⟨e, e1, e2⟩ := radd_of a2 c2 (lt200 (n := 1) (by omega) (by omega)) (lt200 (n := 1) (by omega) (by omega))
  have e2' : IsN e (Rw r) := e2
  obtain ⟨f, f1, f2⟩ := rof_ok n (by omega)
  obtain ⟨g, g1, g2⟩ := rof_ok m (by omega)
  obtain ⟨x, x1, x2⟩ := rmul_of f2 g2 (lt200 (n := 1) (by omega) (by omega)) (lt200 (n := 1) (by omega) (by omega))
  obtain ⟨p, p1, p2⟩ := rpow_ok e2' l (by omega) (lt200 (n := 1) (by unfold Rw; omega) (by omega)) (fun i hi => lt200 (n := 13) (by
    obtain ⟨d1, d2, d3⟩ := bigHo ⟨r, by omega⟩ ⟨i, by omega⟩
    simp only at d1 d2
    exact Int.le_trans d2 d1) (by omega))
  obtain ⟨t, t1, t2⟩ := rmul_of x2 p2 (lt200 (n := 2) (by rw [Int.mul_comm]; exact Int.le_trans hmn (by decide)) (by omega)) (lt200 (n := 13) (by omega) (by omega))
  refine ⟨t, ?_, ?_⟩
  · unfold rpWeight_m
    rw [wr_u64 (n := m) (by omega) (by omega), wr_u64 (n := n) (by omega) (by omega), a1, bs, c1, bs, e1, bs, f1, bs, g1, bs, x1, bs, p1, bs, t1]; rfl
  · unfold Wt; rw [Int.mul_comm m n]; exact t2
theorem rwhole_ok {l r : Nat} (hs : shp l r = true) : ∃ t, rpWhole_m l r = some t ∧ IsN t (Ho l r) := by
  obtain ⟨s1, s2, s3, s4⟩ := shp_iff.mp hs
  obtain ⟨q1, q2, q3, q4⟩ := p8 ⟨r, by omega⟩
  simp only at q1 q2 q3 q4
  obtain ⟨a, a1, a2⟩ := rpow8 r (by omega)
  obtain ⟨x, x1, x2⟩ := rmul_of (digit 2 (by omega)) a2 (lt200 (n := 1) (by omega) (by omega)) (lt200 (n := 1) (by omega) (by omega))
  obtain ⟨p, p1, p2⟩ := rpow_ok x2 l (by omega) (lt200 (n := 1) (by omega) (by omega)) (fun i hi => lt200 (n := 13) (by
    obtain ⟨d1, d2, d3⟩ := bigHo ⟨r, by omega⟩ ⟨i, by omega⟩
    exact d1) (by omega))
  exact ⟨p, by unfold rpWhole_m; rw [a1, bs, x1, bs, p1]; rfl, p2⟩
theorem rmay (n m l r : Int) : rpMay_m n m l r = some (cnt n m && shp l r) := by
  unfold rpMay_m cnt shp
  simp only [Bool.and_assoc]
theorem renough_all (n m k l r : Int) (h : (cnt n m && shp l r) = true) : rpEnough_m n m k l r = some (enI n m k l r) := by
  unfold rpEnough_m
  rw [rmay, h, bs]
  simp only [Bool.and_eq_true] at h
  obtain ⟨h1, h2⟩ := h
  by_cases hk : btk k = true
  · obtain ⟨k1, k2⟩ := btk_iff.mp hk
    obtain ⟨s1, s2, s3, s4⟩ := shp_iff.mp h2
    obtain ⟨k, rfl⟩ : ∃ k' : Nat, k = k' := ⟨k.toNat, by omega⟩
    obtain ⟨l, rfl⟩ : ∃ k' : Nat, l = k' := ⟨l.toNat, by omega⟩
    obtain ⟨r, rfl⟩ : ∃ k' : Nat, r = k' := ⟨r.toNat, by omega⟩
    obtain ⟨b1, b2, b3⟩ := bigHo ⟨r, by omega⟩ ⟨l, by omega⟩
    obtain ⟨t1, t2⟩ := two64 ⟨k, by omega⟩
    simp only at b1 b2 b3 t1 t2
    obtain ⟨W0, W1⟩ := W_bound h1 (show l ≤ 16 by omega) (show r ≤ 8 by omega)
    obtain ⟨w, w1, w2⟩ := rweight_ok h1 h2
    obtain ⟨p, p1, p2⟩ := rpow2 k (by omega)
    obtain ⟨x, x1, x2⟩ := rmul_of w2 p2 (lt200 (n := 15) (by omega) (by omega)) (lt200 t2 (by omega))
    obtain ⟨v, v1, v2⟩ := rwhole_ok h2
    have xl := x2.len_le (n := 18) (by
      have := Int.mul_le_mul (show Wt n m l r ≤ 4294967296 ^ 15 by omega) t2 (by omega) (by have := pw_pos 15; omega)
      rw [← Int.pow_add] at this
      have := pw_pos 17
      rw [Int.pow_succ]; omega)
    have vl := v2.len_le (n := 14) (by have := pw_pos 13; rw [Int.pow_succ]; omega)
    have c := rcmp_ok x2.lim v2.lim (by omega) (by omega)
    rw [x2.val, v2.val] at c
    rw [decide_eq_false (show ¬ (k : Int) < 0 by omega), decide_eq_false (show ¬ 64 < (k : Int) by omega)]
    simp only [Bool.not_true, Bool.or_self, cond_false, w1, p1, x1, v1, c, bs, enI, h1, h2, hk, Bool.true_and, Enb, Int.toNat_natCast]
    congr 1
    apply decide_eq_decide.mpr
    have := cmpv_cases (Wt n m l r * 2 ^ k) (Ho l r)
    omega
  · have hk' : btk k = false := by simpa using hk
    have : ((!true || decide (k < 0)) || decide (64 < k)) = true := by
      simp [btk] at hk' ⊢; omega
    rw [this, cond_true, enI, hk']
    simp
theorem PlanTells_t (n m k l r : Int) : PlanTells_m n m k l r = some true := by
  unfold PlanTells_m
  rw [rmay n m l r, rmay 1 0 l r, pawake_ok]
  have e10 : cnt 1 0 = true := rfl
  rw [e10, Bool.true_and]
  generalize decide (16 < IntKind.i64.wrap (l * r)) = B
  rw [show gopt (B == true) false (some (cnt n m && shp l r)) = some (B && (cnt n m && shp l r)) by cases B <;> rfl, bs, show (B && (B && (cnt n m && shp l r))) = (B && (cnt n m && shp l r)) by cases B <;> rfl]
  cases hB : B && (cnt n m && shp l r) with
  | true => rfl
  | false =>
    rw [cond_false]
    cases hs : shp l r with
    | false =>
      rw [whole_no hs, weight_no (by rw [hs, Bool.and_false]), Bool.and_false]
      simp only [bs]
      rw [enough_no (by rw [hs, Bool.and_false])]
      rfl
    | true =>
      obtain ⟨s1, s2, s3, s4⟩ := shp_iff.mp hs
      obtain ⟨l, rfl⟩ : ∃ k' : Nat, l = k' := ⟨l.toNat, by omega⟩
      obtain ⟨r, rfl⟩ : ∃ k' : Nat, r = k' := ⟨r.toNat, by omega⟩
      obtain ⟨v, v1, v2, v3⟩ := whole_ok' hs
      obtain ⟨v', w1, w2⟩ := rwhole_ok hs
      have := w2.uniq v1
      subst this
      rw [v3, w1, Bool.and_true]
      simp only [bs]
      cases hc : cnt n m with
      | false =>
        rw [weight_no (by rw [hc, Bool.false_and]), enough_no (by rw [hc]; rfl)]
        simp only [bs, BEq.rfl, Bool.not_true, bne_self_eq_false, Bool.false_and, Bool.or_self, Bool.and_self, gt_, same_self v' v2, cond_false, Bool.not_false, cond_true, Bool.and_true, Bool.and_false]
        rfl
      | true =>
        obtain ⟨t, t1, t2, t3⟩ := weight_ok hc hs
        obtain ⟨t', u1, u2⟩ := rweight_ok hc hs
        have := u2.uniq t1
        subst this
        rw [t3, u1, enough_all, renough_all n m k l r (by rw [hc, hs]; rfl)]
        simp only [bs, BEq.rfl, Bool.not_true, bne_self_eq_false, Bool.false_and, Bool.or_self, Bool.and_self, gt_, same_self v' v2, same_self t' t2, cond_false, Bool.not_false, cond_true, Bool.and_true, Bool.and_false]
theorem leastL2 (rec1 : Int → Int → Int → GConfig → Int → Int → Option Bool) (n m : Int) (k l l0 r0 : Nat) (hc : cnt n m = true) (hk : btk k = true) (h1 : 1 ≤ l) (h0 : l0 ≤ 16) (h0' : r0 ≤ 8) (hl : l ≤ l0) (he : Enb n m k l0 r0 = true)
    (hb : ∀ l' r' : Nat, 1 ≤ l' → 1 ≤ r' → r' ≤ 8 → (l' < l0 ∨ l' = l0 ∧ r' < r0) → Enb n m k l' r' = false) (hG : l < l0 → rec1 n m k ⟨n, l0, r0⟩ 0 ((l + 1 : Nat) : Int) = some true) :
    ∀ (f r : Nat), 9 - r < f → 1 ≤ r → r ≤ 9 → (l = l0 → r ≤ r0) → PlanLeast_L2 rec1 f n m k ⟨n, l0, r0⟩ 0 l r = some true
  | 0, r, h, _, _, _ => by omega
  | f + 1, r, h, hr, h9, hlr => by
    show PlanLeast_B2 rec1 (PlanLeast_L2 rec1 f) n m k ⟨n, l0, r0⟩ 0 l r = some true
    unfold PlanLeast_B2
    by_cases r8 : r ≤ 8
    · rw [show decide (((r : Nat) : Int) ≤ 8) = true by simp <;> omega, cond_true]
      have hs : shp l r = true := shp_iff.mpr ⟨by omega, by omega, by omega, by omega⟩
      by_cases e : l = l0 ∧ r = r0
      · obtain ⟨rfl, rfl⟩ := e
        rw [enough_ok hc hk hs, he, pawake_ok]
        simp only [BEq.rfl, Bool.and_self, cond_true, gt_, bs]
      · have : ((((0 : Int) == 0) && ((l : Int) == (⟨n, l0, r0⟩ : GConfig).L)) && ((r : Int) == (⟨n, l0, r0⟩ : GConfig).R)) = false := by
          simp <;> omega
        rw [this, cond_false, enough_ok hc hk hs, hb l r h1 hr r8 (by omega), bs, cond_false, inc r (by omega)]
        exact leastL2 rec1 n m k l l0 r0 hc hk h1 h0 h0' hl he hb hG f (r + 1) (by omega) (by omega) (by omega) (by omega)
    · rw [show decide (((r : Nat) : Int) ≤ 8) = false by simp <;> omega, cond_false, inc l (by omega)]
      exact hG (by omega)
theorem leastL1 (n m : Int) (k l0 r0 : Nat) (hc : cnt n m = true) (hk : btk k = true) (h0 : l0 ≤ 16) (h1' : 1 ≤ r0) (h0' : r0 ≤ 8) (he : Enb n m k l0 r0 = true)
    (hb : ∀ l' r' : Nat, 1 ≤ l' → 1 ≤ r' → r' ≤ 8 → (l' < l0 ∨ l' = l0 ∧ r' < r0) → Enb n m k l' r' = false) :
    ∀ (f l : Nat), 17 - l < f → 1 ≤ l → l ≤ l0 → PlanLeast_L1 f n m k ⟨n, l0, r0⟩ 0 l = some true
  | 0, r, h, _, _ => by omega
  | f + 1, l, h, hl, hl0 => by
    show PlanLeast_B1 (PlanLeast_L1 f) n m k ⟨n, l0, r0⟩ 0 l = some true
    unfold PlanLeast_B1
    rw [show decide (((l : Nat) : Int) ≤ 16) = true by simp <;> omega, cond_true]
    exact leastL2 (PlanLeast_L1 f) n m k l l0 r0 hc hk hl h0 h0' hl0 he hb (fun h => leastL1 n m k l0 r0 hc hk h0 h1' h0' he hb f (l + 1) (by omega) (by omega) (by omega)) FUEL 1 (by rw [FUEL_big]; omega) (by omega) (by omega) (by omega)
theorem noneL2 (rec1 : Int → Int → Int → GConfig → Int → Int → Option Bool) (n m : Int) (k l : Nat) (c : GConfig) (hc : cnt n m = true) (hk : btk k = true) (h1 : 1 ≤ l) (h16 : l ≤ 16)
    (hb : ∀ l' r' : Nat, 1 ≤ l' → l' ≤ 16 → 1 ≤ r' → r' ≤ 8 → Enb n m k l' r' = false) (hG : rec1 n m k c 6 ((l + 1 : Nat) : Int) = some true) :
    ∀ (f r : Nat), 9 - r < f → 1 ≤ r → r ≤ 9 → PlanLeast_L2 rec1 f n m k c 6 l r = some true
  | 0, r, h, _, _ => by omega
  | f + 1, r, h, hr, h9 => by
    show PlanLeast_B2 rec1 (PlanLeast_L2 rec1 f) n m k c 6 l r = some true
    unfold PlanLeast_B2
    by_cases r8 : r ≤ 8
    · rw [show decide (((r : Nat) : Int) ≤ 8) = true by simp <;> omega, cond_true, show ((6 : Int) == 0) = false from rfl, Bool.false_and, Bool.false_and, cond_false,
        enough_ok hc hk (shp_iff.mpr ⟨by omega, by omega, by omega, by omega⟩), hb l r h1 h16 hr r8, bs, cond_false, inc r (by omega)]
      exact noneL2 rec1 n m k l c hc hk h1 h16 hb hG f (r + 1) (by omega) (by omega) (by omega)
    · rw [show decide (((r : Nat) : Int) ≤ 8) = false by simp <;> omega, cond_false, inc l (by omega)]
      exact hG
theorem noneL1 (n m : Int) (k : Nat) (hc : cnt n m = true) (hk : btk k = true)
    (hb : ∀ l' r' : Nat, 1 ≤ l' → l' ≤ 16 → 1 ≤ r' → r' ≤ 8 → Enb n m k l' r' = false) :
    ∀ (f l : Nat), 17 - l < f → 1 ≤ l → l ≤ 17 → PlanLeast_L1 f n m k ⟨0, 0, 0⟩ 6 l = some true
  | 0, r, h, _, _ => by omega
  | f + 1, l, h, hl, hl0 => by
    show PlanLeast_B1 (PlanLeast_L1 f) n m k ⟨0, 0, 0⟩ 6 l = some true
    unfold PlanLeast_B1
    by_cases h16 : l ≤ 16
    · rw [show decide (((l : Nat) : Int) ≤ 16) = true by simp <;> omega, cond_true]
      exact noneL2 (PlanLeast_L1 f) n m k l _ hc hk hl h16 hb (noneL1 n m k hc hk hb f (l + 1) (by omega) (by omega) (by omega)) FUEL 1 (by rw [FUEL_big]; omega) (by omega) (by omega)
    · rw [show decide (((l : Nat) : Int) ≤ 16) = false by simp <;> omega, cond_false, pawake_ok]
      rfl
theorem PlanLeast_t (n m k : Int) : PlanLeast_m n m k = some true := by
  unfold PlanLeast_m
  rw [rmay n m 1 1, pawake_ok, show shp 1 1 = true from rfl, Bool.and_true]
  by_cases h : (cnt n m && btk k) = true
  · obtain ⟨c, e, p, R⟩ := plan_all h
    rw [p]
    simp only [bs]
    simp only [Bool.and_eq_true] at h
    obtain ⟨h1, h2⟩ := h
    obtain ⟨k1, k2⟩ := btk_iff.mp h2
    obtain ⟨k, rfl⟩ : ∃ k' : Nat, k = k' := ⟨k.toNat, by omega⟩
    rw [Int.toNat_natCast] at R
    rw [h1, decide_eq_false (show ¬ (k : Int) < 0 by omega), decide_eq_false (show ¬ 64 < (k : Int) by omega)]
    simp only [Bool.not_true, Bool.or_self, cond_false]
    rcases R with ⟨l0, r0, c1, c2, c3, c4, rfl, rfl, c7, c8⟩ | ⟨rfl, rfl, a⟩
    · exact leastL1 n m k l0 r0 h1 h2 c2 c3 c4 c7 c8 FUEL 1 (by rw [FUEL_big]; omega) (by omega) c1
    · exact noneL1 n m k h1 h2 a FUEL 1 (by rw [FUEL_big]; omega) (by omega) (by omega)
  · have h' : (cnt n m && btk k) = false := by simpa using h
    rw [plan_no h']
    simp only [bs]
    have : ((!cnt n m || decide (k < 0)) || decide (64 < k)) = true := by
      cases hc : cnt n m
      · rfl
      · rw [hc] at h'; simp [btk] at h' ⊢; omega
    rw [this, cond_true]
    rfl
theorem enb_zero (n : Int) (k l r : Nat) : Enb n 0 k l r = true := by
  unfold Enb Wt
  have := Ho_pos l r
  simp <;> omega
theorem wf_u16 {x : Int} (h : (Lit.int .u16 x).wf = true) : 0 ≤ x ∧ x ≤ 65535 := by
  simp [Lit.wf, IntKind.min, IntKind.max, IntKind.bits, IntKind.signed] at h; omega
theorem wf_u8 {x : Int} (h : (Lit.int .u8 x).wf = true) : 0 ≤ x ∧ x ≤ 255 := by
  simp [Lit.wf, IntKind.min, IntKind.max, IntKind.bits, IntKind.signed] at h; omega
theorem plus1 {x d : Int} (h : 0 ≤ x ∧ x ≤ 65535) (hd : 1 ≤ d ∧ d ≤ 65536) : IntKind.i64.wrap (1 + IntKind.i64.wrap (Int.tmod x d)) = 1 + x % d ∧ 0 ≤ x % d ∧ x % d < d ∧ IntKind.i64.wrap (Int.tmod x d) = x % d := by
  have h1 := Int.emod_nonneg x (show d ≠ 0 by omega)
  have h2 := Int.emod_lt_of_pos x (show 0 < d by omega)
  rw [Int.tmod_eq_emod_of_nonneg h.1, wr_i64 (n := x % d) (by omega) (by omega), wr_i64 (by omega) (by omega)]
  exact ⟨rfl, h1, h2, rfl⟩
theorem PlanNone_t (n m k l r : Int) (hn : 0 ≤ n ∧ n ≤ 65535) (hm : 0 ≤ m ∧ m ≤ 65535) (hk : 0 ≤ k ∧ k ≤ 255) (hl : 0 ≤ l ∧ l ≤ 255) (hr : 0 ≤ r ∧ r ≤ 255) : PlanNone_m n m k l r = some true := by
  unfold PlanNone_m
  obtain ⟨a1, a2, a3, _⟩ := plus1 (d := 1024) hn (by omega)
  obtain ⟨_, b2, b3, b1⟩ := plus1 (d := 65) (x := k) (by omega) (by omega)
  obtain ⟨c1, c2, c3, _⟩ := plus1 (d := 16) (x := l) (by omega) (by omega)
  obtain ⟨d1, d2, d3, _⟩ := plus1 (d := 8) (x := r) (by omega) (by omega)
  rw [a1, b1, c1, d1, wr_i64 (n := m) (by omega) (by omega), wr_i64 (n := 1 + m) (by omega) (by omega), pawake_ok]
  generalize n % 1024 = n' at *
  generalize k % 65 = k' at *
  generalize l % 16 = l' at *
  generalize r % 8 = r' at *
  obtain ⟨k', rfl⟩ : ∃ x : Nat, k' = x := ⟨k'.toNat, by omega⟩
  obtain ⟨l', e1⟩ : ∃ x : Nat, 1 + l' = x := ⟨(1 + l').toNat, by omega⟩
  obtain ⟨r', e2⟩ : ∃ x : Nat, 1 + r' = x := ⟨(1 + r').toNat, by omega⟩
  rw [e1, e2]
  have hs : shp l' r' = true := shp_iff.mpr ⟨by omega, by omega, by omega, by omega⟩
  have hb : btk k' = true := btk_iff.mpr ⟨by omega, by omega⟩
  have h1 : cnt (1 + n') 0 = true := cnt_iff.mpr ⟨by omega, by omega, by omega, by omega⟩
  have h2 : cnt 1 1 = true := rfl
  have h3 : cnt (1 + n') (1 + m) = true := cnt_iff.mpr ⟨by omega, by omega, by omega, by omega⟩
  obtain ⟨c, e, p, R⟩ := plan_ok h1 hb
  rw [p, enough_ok h1 hb hs, enough_ok h2 hb hs, enough_ok h3 hb hs, enb_zero, bs]
  have hce : c = ⟨1 + n', 1, 1⟩ ∧ e = 0 := by
    rcases R with ⟨l0, r0, c1, c2, c3, c4, rfl, rfl, c7, c8⟩ | ⟨rfl, rfl, a⟩
    · have : l0 = 1 ∧ r0 = 1 := by
        by_cases h : 1 < l0 ∨ 1 = l0 ∧ 1 < r0
        · have := c8 1 1 (by omega) (by omega) (by omega) h
          rw [enb_zero] at this; cases this
        · omega
      obtain ⟨rfl, rfl⟩ := this
      exact ⟨rfl, rfl⟩
    · have := a 1 1 (by omega) (by omega) (by omega) (by omega)
      rw [enb_zero] at this; cases this
  obtain ⟨rfl, rfl⟩ := hce
  simp only [bne_self_eq_false, BEq.rfl, Bool.and_self, Bool.not_true, Bool.or_self, gt_, bs, cond_false]
  cases h : Enb (1 + n') (1 + m) k' l' r' with
  | true => rw [enb_mono (by omega) (by omega) (by omega) (by omega) (Nat.le_refl _) h]; rfl
  | false => cases Enb 1 1 k' l' r' <;> rfl
theorem stepsL (a b : Int) (i k : Nat) (hc : cnt a b = true) (hs : shp i k = true) (hi : i < 16) (ha : a < 1024) (w x y z : List Int) (hw : IsN w (Wt a b i k)) (hx : IsN x (Wt a b (i + 1) k)) (hy : IsN y (Ho i k)) (hz : IsN z (Ho (i + 1) k)) (rw' : Rt w = true) (rx : Rt x = true) (ry : Rt y = true) (rz : Rt z = true) :
    ∀ (f j : Nat), k - j < f → j ≤ k → PlanSteps_L1 f a b i k w 0 x 0 y 0 z 0 (8 ^ j) (7 ^ j) k j = some true
  | 0, j, h, _ => by omega
  | f + 1, j, h, hj => by
    show PlanSteps_B1 (PlanSteps_L1 f) a b i k w 0 x 0 y 0 z 0 (8 ^ j) (7 ^ j) k j = some true
    unfold PlanSteps_B1
    obtain ⟨s1, s2, s3, s4⟩ := shp_iff.mp hs
    obtain ⟨q1, q2, q3, q4⟩ := p8 ⟨j, by omega⟩
    simp only at q1 q2 q3 q4
    by_cases c : j < k
    · rw [lt_t c, cond_true, inc j (by omega), wr_u64 (n := 8 * 8 ^ j) (by omega) (by omega), wr_u64 (n := 7 * 7 ^ j) (by omega) (by omega), Int.mul_comm 8, Int.mul_comm 7, ← Int.pow_succ, ← Int.pow_succ]
      exact stepsL a b i k hc hs hi ha w x y z hw hx hy hz rw' rx ry rz f (j + 1) (by omega) (by omega)
    · have : j = k := by omega
      subst this
      rw [lt_f c, cond_false, wr_u64 (n := 8 ^ j + 7 ^ j) (by omega) (by omega), wr_u64 (n := 2 * 8 ^ j) (by omega) (by omega)]
      obtain ⟨c1, c2, c3, c4⟩ := cnt_iff.mp hc
      have hc1 : cnt 1 b = true := cnt_iff.mpr ⟨by omega, by omega, c3, c4⟩
      have hc2 : cnt (a + 1) b = true := cnt_iff.mpr ⟨by omega, by omega, c3, c4⟩
      obtain ⟨p, p1, p2, p3, _⟩ := of_ok (8 ^ j + 7 ^ j) (by omega)
      have e1 : Wt a b i j * (8 ^ j + 7 ^ j) = Wt a b (i + 1) j := by unfold Wt Rw; rw [Int.pow_succ, Int.mul_assoc (b * a)]
      obtain ⟨q, r1, r2, r3⟩ := (mul_of hw p2 rw' p3).small (by rw [e1]; exact lt64 (W_bound hc (by omega) (by omega)).2 (by omega))
      rw [e1] at r1
      have := r1.uniq hx; subst this
      obtain ⟨s, t1, t2, t3, _⟩ := of_ok (2 * 8 ^ j) (by omega)
      have e2 : Ho i j * (2 * 8 ^ j) = Ho (i + 1) j := by unfold Ho; rw [Int.pow_succ]
      obtain ⟨b1, _, _⟩ := bigHo ⟨j, by omega⟩ ⟨i + 1, by omega⟩
      simp only at b1
      obtain ⟨u, u1, u2, u3⟩ := (mul_of hy t2 ry t3).small (by rw [e2]; exact lt64 (n := 14) (by have := pw_pos 13; rw [Int.pow_succ]; omega) (by omega))
      rw [e2] at u1
      have := u1.uniq hz; subst this
      obtain ⟨v, v1, v2, v3⟩ := weight_ok hc1 hs
      obtain ⟨g, g1, g2, g3⟩ := weight_ok hc2 hs
      have e3 : Wt a b i j + Wt 1 b i j = Wt (a + 1) b i j := by unfold Wt; grind
      obtain ⟨o, o1, o2, o3⟩ := (add_of hw v1 rw' v2).small (by rw [e3]; exact lt64 (W_bound hc2 (by omega) (by omega)).2 (by omega))
      rw [e3] at o1
      have := o1.uniq g1; subst this
      rw [wr_i64 (n := a + 1) (by omega) (by omega)]
      simp only [bs, p1, r3, t1, u3, v3, g3, o3, same_self q rx, same_self u rz, same_self o o2, pawake_ok, BEq.rfl, Bool.and_self, gt_]
theorem PlanSteps_t (n m l r : Int) (hn : 0 ≤ n ∧ n ≤ 65535) (hm : 0 ≤ m ∧ m ≤ 65535) (hl : 0 ≤ l ∧ l ≤ 255) (hr : 0 ≤ r ∧ r ≤ 255) : PlanSteps_m n m l r = some true := by
  unfold PlanSteps_m
  obtain ⟨a1, a2, a3, _⟩ := plus1 (d := 1000) hn (by omega)
  obtain ⟨_, b2, b3, b1⟩ := plus1 (d := 60000) (x := m) (by omega) (by omega)
  obtain ⟨c1, c2, c3, _⟩ := plus1 (d := 15) (x := l) (by omega) (by omega)
  obtain ⟨d1, d2, d3, _⟩ := plus1 (d := 8) (x := r) (by omega) (by omega)
  rw [a1, b1, c1, d1]
  generalize n % 1000 = n' at *
  generalize m % 60000 = m' at *
  generalize l % 15 = l' at *
  generalize r % 8 = r' at *
  obtain ⟨l', e1⟩ : ∃ x : Nat, 1 + l' = x := ⟨(1 + l').toNat, by omega⟩
  obtain ⟨r', e2⟩ : ∃ x : Nat, 1 + r' = x := ⟨(1 + r').toNat, by omega⟩
  rw [e1, e2, inc l' (by omega)]
  have hc : cnt (1 + n') m' = true := cnt_iff.mpr ⟨by omega, by omega, by omega, by omega⟩
  have hs : shp l' r' = true := shp_iff.mpr ⟨by omega, by omega, by omega, by omega⟩
  have hs' : shp ((l' + 1 : Nat) : Int) r' = true := shp_iff.mpr ⟨by omega, by omega, by omega, by omega⟩
  obtain ⟨w, w1, w2, w3⟩ := weight_ok hc hs
  obtain ⟨x, x1, x2, x3⟩ := weight_ok hc hs'
  obtain ⟨y, y1, y2, y3⟩ := whole_ok' hs
  obtain ⟨z, z1, z2, z3⟩ := whole_ok' hs'
  simp only [w3, x3, y3, z3, bs]
  have := stepsL (1 + n') m' l' r' hc hs (by omega) (by omega) w x y z w1 x1 y1 z1 w2 x2 y2 z2 FUEL 0 (by rw [FUEL_big]; omega) (by omega)
  rw [Int.pow_zero, Int.pow_zero] at this
  exact this
theorem PlanTells_w (n m k l r : Int) (_ : (Lit.int .i64 n).wf = true) (_ : (Lit.int .i64 m).wf = true) (_ : (Lit.int .i64 k).wf = true) (_ : (Lit.int .i64 l).wf = true) (_ : (Lit.int .i64 r).wf = true) : PlanTells_m n m k l r = some true := PlanTells_t n m k l r
theorem PlanLeast_w (n m k : Int) (_ : (Lit.int .i64 n).wf = true) (_ : (Lit.int .i64 m).wf = true) (_ : (Lit.int .i64 k).wf = true) : PlanLeast_m n m k = some true := PlanLeast_t n m k
theorem PlanNone_w (n m k l r : Int) (h1 : (Lit.int .u16 n).wf = true) (h2 : (Lit.int .u16 m).wf = true) (h3 : (Lit.int .u8 k).wf = true) (h4 : (Lit.int .u8 l).wf = true) (h5 : (Lit.int .u8 r).wf = true) : PlanNone_m n m k l r = some true := PlanNone_t n m k l r (wf_u16 h1) (wf_u16 h2) (wf_u8 h3) (wf_u8 h4) (wf_u8 h5)
theorem PlanSteps_w (n m l r : Int) (h1 : (Lit.int .u16 n).wf = true) (h2 : (Lit.int .u16 m).wf = true) (h4 : (Lit.int .u8 l).wf = true) (h5 : (Lit.int .u8 r).wf = true) : PlanSteps_m n m l r = some true := PlanSteps_t n m l r (wf_u16 h1) (wf_u16 h2) (wf_u8 h4) (wf_u8 h5)
end Go.Proofs.Ytkkhgcllbbffaaa
