/- The laws of naturals, on. -/
import Derived.Test.YtghcecjegcakkaaNatV
set_option linter.unusedVariables false
set_option linter.unusedSimpArgs false
set_option maxRecDepth 20000
set_option maxHeartbeats 1000000
namespace Go.Proofs.Ytghcecjegcakkaa
open Go Go.AM Go.Pl
theorem NatPowers_t (a : List Int) (n : Int) (la : Lim a) : NatPowers_m a n = some true := by
  unfold NatPowers_m
  rw [awake_ok]
  by_cases hs : a.length ≤ 4 ∧ ¬ (12 < n ∧ n ≤ 1024)
  · obtain ⟨ha, hn⟩ := hs
    have e0 : ((decide (4 < (a.length : Int))) || ((decide (12 < n)) && (decide (n ≤ 1024)))) = false := by simp <;> omega
    rw [e0, cond_false, refRight_ok a (by omega) la]
    by_cases h : Rt a = true ∧ 0 ≤ n ∧ n ≤ 1024
    · obtain ⟨ra, h0, h1⟩ := h
      obtain ⟨k, rfl⟩ : ∃ k : Nat, n = (k : Int) := ⟨n.toNat, by omega⟩
      obtain ⟨t, t1, t2⟩ := pow_of (self_of la ra) ra k (by omega)
      have t3 := (rpow_ok la (by omega) k (by omega)).of t1
      rw [ra, t2, t3]
      have e1 : (((!true) || (decide ((k : Int) < 0))) || (decide (1024 < (k : Int)))) = false := by simp <;> omega
      by_cases h64 : t.length ≤ 64
      · rw [if_pos h64]
        simp only [bs, e1, cond_false, same_self t (rt_of t1 h64), BEq.rfl, Bool.and_self, gt_]
      · rw [if_neg h64]
        simp only [bs, e1, cond_false, same_self [] rfl, BEq.rfl, Bool.and_self, gt_]
    · have e1 : (((!Rt a) || (decide (n < 0))) || (decide (1024 < n))) = true := by
        cases ra : Rt a with
        | false => rfl
        | true => simp [ra] at h ⊢; omega
      rw [pow_no a n (by omega) (by cases ra : Rt a <;> simp [ra] at h ⊢; omega)]
      simp only [bs, e1, cond_true]
      rfl
  · have e0 : ((decide (4 < (a.length : Int))) || ((decide (12 < n)) && (decide (n ≤ 1024)))) = true := by simp <;> omega
    rw [e0]; rfl
theorem NatPowers_w (a : List Int) (n : Int) (ha : (∀ y, y ∈ a → (Lit.int .u32 y).wf = true) ∧ a.length ≤ maxLen) (hn : (Lit.int .i64 n).wf = true) : NatPowers_m a n = some true := NatPowers_t a n (lim_wf ha)
theorem cmpv_cases (x y : Int) : (x < y ∧ cmpv x y = -1) ∨ (x = y ∧ cmpv x y = 0) ∨ (y < x ∧ cmpv x y = 1) := by unfold cmpv; split <;> (try split) <;> omega
theorem cmpv_neg (x y : Int) : cmpv x y = 0 - cmpv y x := by unfold cmpv; split <;> split <;> (try split) <;> omega
theorem cmpv_zero {x y : Int} : cmpv x y = 0 ↔ x = y := by unfold cmpv; split <;> (try split) <;> omega
theorem cmpv_abs (x y : Int) : -1 ≤ cmpv x y ∧ cmpv x y ≤ 1 := by unfold cmpv; split <;> (try split) <;> omega
theorem nv_eq {a b : List Int} (la : Lim a) (lb : Lim b) (ra : Rt a = true) (rb : Rt b = true) : (nv a = nv b) ↔ a = b :=
  ⟨fun h => (self_of la ra).uniq (by have := self_of lb rb; rwa [← h] at this), fun h => by rw [h]⟩
theorem NatLaws_t (a b c : List Int) (n m : Int) (la : Lim a) (lb : Lim b) (lc : Lim c) (hn : 0 ≤ n) (hm : 0 ≤ m) : NatLaws_m a b c n m = some true := by
  unfold NatLaws_m
  rw [awake_ok]
  by_cases hs : a.length ≤ 8 ∧ b.length ≤ 8 ∧ c.length ≤ 8
  · obtain ⟨ha, hb, hc⟩ := hs
    rw [right_ok a (by omega), right_ok b (by omega), right_ok c (by omega), show decide (8 < (a.length : Int)) = false by simp <;> omega, show decide (8 < (b.length : Int)) = false by simp <;> omega, show decide (8 < (c.length : Int)) = false by simp <;> omega]
    cases ra : Rt a with
    | false => rfl
    | true =>
    cases rb : Rt b with
    | false => rfl
    | true =>
    cases rc : Rt c with
    | false => rfl
    | true =>
    simp only [Bool.or_self, Bool.or_false, BEq.rfl, gt_, bs, Bool.not_true, cond_false]
    have ia := self_of la ra
    have ib := self_of lb rb
    have ic := self_of lc rc
    obtain ⟨Q, R, q1, q2, q3, q4, small⟩ := bigQ
    obtain ⟨pa0, pa1⟩ := q4 a la (by omega)
    obtain ⟨pb0, pb1⟩ := q4 b lb (by omega)
    obtain ⟨pc0, pc1⟩ := q4 c lc (by omega)
    have b1 := Int.mul_le_mul (show nv a ≤ Q by omega) (show nv c ≤ Q by omega) pc0 (by omega)
    have b2 := Int.mul_le_mul (show nv b ≤ Q by omega) (show nv c ≤ Q by omega) pc0 (by omega)
    have dist : (nv a + nv b) * nv c = nv a * nv c + nv b * nv c := Int.add_mul ..
    obtain ⟨j, hj, ej⟩ : ∃ j : Nat, j ≤ 3 ∧ IntKind.i64.wrap (Int.tmod n 4) = (j : Int) := ⟨(n % 4).toNat, by omega, by rw [Int.tmod_eq_emod_of_nonneg hn, wr_i64 (by omega) (by omega)]; omega⟩
    obtain ⟨k, hk, ek⟩ : ∃ k : Nat, k ≤ 3 ∧ IntKind.i64.wrap (Int.tmod m 4) = (k : Int) := ⟨(m % 4).toNat, by omega, by rw [Int.tmod_eq_emod_of_nonneg hm, wr_i64 (by omega) (by omega)]; omega⟩
    have ejk : IntKind.i64.wrap ((j : Int) + (k : Int)) = ((j + k : Nat) : Int) := by rw [wr_i64 (by omega) (by omega)]; omega
    rw [ej, ek, ejk]
    have pw6 : ∀ i : Nat, i ≤ 6 → nv a ^ i < 4294967296 ^ 64 := by
      intro i hi
      have h1 := nv_bound a la
      have h2 := pw_le ha
      have h3 : nv a ^ i ≤ (4294967296 ^ 8) ^ i := by
        induction i with
        | zero => simp
        | succ i ih =>
          rw [Int.pow_succ, Int.pow_succ]
          exact Int.mul_le_mul (ih (by omega)) (by omega) h1.1 (Int.pow_nonneg (by have := pw_pos 8; omega))
      rw [← Int.pow_mul] at h3
      have h4 := pw_le (show 8 * i ≤ 63 by omega)
      have h5 : (4294967296 : Int) ^ 64 = 4294967296 ^ 63 * 4294967296 := Int.pow_succ ..
      have h6 := pw_pos 63
      rw [h5]
      generalize (4294967296 : Int) ^ 63 = Z at *
      omega
    obtain ⟨s, s1, s2, s3⟩ := small (add_of ia ib ra rb) (by omega)
    obtain ⟨s', t1, t2, t3⟩ := small (add_of ib ia rb ra) (by omega)
    rw [Int.add_comm] at t1
    have := t1.uniq s1
    subst this
    obtain ⟨x, x1, x2, x3⟩ := small (mul_of s1 ic s2 rc) (by omega)
    obtain ⟨p, p1, p2, p3⟩ := small (mul_of ia ic ra rc) (by omega)
    obtain ⟨q, r1, r2, r3⟩ := small (mul_of ib ic rb rc) (by omega)
    obtain ⟨y, y1, y2, y3⟩ := small (add_of p1 r1 p2 r2) (by omega)
    rw [← dist] at y1
    have := y1.uniq x1
    subst this
    obtain ⟨u, u1, u2, u3⟩ := (pow_of ia ra j (by omega)).small (pw6 j (by omega))
    obtain ⟨v, v1, v2, v3⟩ := (pow_of ia ra k (by omega)).small (pw6 k (by omega))
    obtain ⟨z, z1, z2, z3⟩ := (pow_of ia ra (j + k) (by omega)).small (pw6 _ (by omega))
    obtain ⟨w, w1, w2, w3⟩ := (mul_of u1 v1 u2 v2).small (by rw [← Int.pow_add]; exact pw6 _ (by omega))
    rw [← Int.pow_add] at w1
    have := w1.uniq z1
    subst this
    have c1 := cmp_of ia ib ra rb
    have c2 := cmp_of ib ia rb ra
    have c3 : IntKind.i64.wrap (0 - cmpv (nv b) (nv a)) = cmpv (nv a) (nv b) := by have := cmpv_abs (nv b) (nv a); rw [wr_i64 (by omega) (by omega), ← cmpv_neg]
    have c4 : ((cmpv (nv a) (nv b) == 0) == decide (a = b)) = true := by
      by_cases h : a = b
      · rw [decide_eq_true h, h, cmpv_eq]; rfl
      · rw [decide_eq_false h, show (cmpv (nv a) (nv b) == 0) = false by rw [beq_eq_false_iff_ne]; exact fun e => h ((nv_eq la lb ra rb).mp (cmpv_zero.mp e))]; rfl
    simp only [s3, t3, x3, p3, r3, y3, u3, v3, z3, w3, bs, BEq.rfl, Bool.and_self, gt_, same_self _ t2, same_self _ y2, same_self _ w2, c1, c2, c3, c4, same_ok a b (by omega)]
  · have e : (((decide (8 < (a.length : Int))) || (decide (8 < (b.length : Int)))) || (decide (8 < (c.length : Int)))) = true := by simp <;> omega
    rw [e]; rfl
theorem NatLaws_w (a b c : List Int) (n m : Int) (ha : (∀ y, y ∈ a → (Lit.int .u32 y).wf = true) ∧ a.length ≤ maxLen) (hb : (∀ y, y ∈ b → (Lit.int .u32 y).wf = true) ∧ b.length ≤ maxLen) (hc : (∀ y, y ∈ c → (Lit.int .u32 y).wf = true) ∧ c.length ≤ maxLen)
    (hn : (Lit.int .u8 n).wf = true) (hm : (Lit.int .u8 m).wf = true) : NatLaws_m a b c n m = some true := NatLaws_t a b c n m (lim_wf ha) (lim_wf hb) (lim_wf hc) (by have := bounds_u8 hn; omega) (by have := bounds_u8 hm; omega)
theorem NatOrder_t (a b c : List Int) (la : Lim a) (lb : Lim b) (lc : Lim c) : NatOrder_m a b c = some true := by
  unfold NatOrder_m
  rw [awake_ok]
  by_cases hs : a.length ≤ 20 ∧ b.length ≤ 20 ∧ c.length ≤ 20
  · obtain ⟨ha, hb, hc⟩ := hs
    rw [right_ok a (by omega), right_ok b (by omega), right_ok c (by omega), show decide (20 < (a.length : Int)) = false by simp <;> omega, show decide (20 < (b.length : Int)) = false by simp <;> omega, show decide (20 < (c.length : Int)) = false by simp <;> omega]
    cases ra : Rt a with
    | false => rfl
    | true =>
    cases rb : Rt b with
    | false => rfl
    | true =>
    cases rc : Rt c with
    | false => rfl
    | true =>
    simp only [Bool.or_self, Bool.or_false, BEq.rfl, gt_, bs, Bool.not_true, cond_false]
    have ia := self_of la ra
    have ib := self_of lb rb
    have ic := self_of lc rc
    obtain ⟨Q, R, q1, q2, q3, q4, small⟩ := bigQ
    obtain ⟨pa0, pa1⟩ := q4 a la (by omega)
    obtain ⟨pb0, pb1⟩ := q4 b lb (by omega)
    obtain ⟨pc0, pc1⟩ := q4 c lc (by omega)
    have b1 := Int.mul_le_mul (show nv a ≤ Q by omega) (show nv c ≤ Q by omega) pc0 (by omega)
    have b2 := Int.mul_le_mul (show nv b ≤ Q by omega) (show nv c ≤ Q by omega) pc0 (by omega)
    obtain ⟨x, x1, x2, x3⟩ := small (add_of ia ic ra rc) (by omega)
    obtain ⟨y, y1, y2, y3⟩ := small (add_of ib ic rb rc) (by omega)
    obtain ⟨p, p1, p2, p3⟩ := small (mul_of ia ic ra rc) (by omega)
    obtain ⟨q, r1, r2, r3⟩ := small (mul_of ib ic rb rc) (by omega)
    have c1 := cmp_of ia ib ra rb
    have c2 := cmp_of ib ic rb rc
    have c3 := cmp_of ia ic ra rc
    have c4 := cmp_of x1 y1 x2 y2
    have c5 := cmp_of p1 r1 p2 r2
    have e4 : cmpv (nv a + nv c) (nv b + nv c) = cmpv (nv a) (nv b) := cmpv_sign ⟨by omega, by omega⟩
    rw [e4] at c4
    have tr : (((decide (0 < cmpv (nv a) (nv b)) || decide (0 < cmpv (nv b) (nv c))) || decide (cmpv (nv a) (nv c) ≤ 0)) && ((decide (cmpv (nv a) (nv b) < 0) || decide (cmpv (nv b) (nv c) < 0)) || decide (0 ≤ cmpv (nv a) (nv c)))) = true := by
      have k1 := cmpv_cases (nv a) (nv b)
      have k2 := cmpv_cases (nv b) (nv c)
      have k3 := cmpv_cases (nv a) (nv c)
      simp only [Bool.and_eq_true, Bool.or_eq_true, decide_eq_true_eq]
      omega
    by_cases h0 : c = []
    · subst h0
      simp only [nv, Int.mul_zero] at p1 r1
      have ep := p1.uniq IsN.nil
      have eq := r1.uniq IsN.nil
      subst ep eq
      simp only [bs, c1, c2, c3, x3, y3, p3, r3, c4, tr, gt_, bne_self_eq_false]
      rfl
    · have hc0 : 0 < nv c := by
        have := nv_ge lc ((Rt_iff c).mp rc).2 h0
        have := pw_pos (c.length - 1)
        omega
      have e5 : cmpv (nv a * nv c) (nv b * nv c) = cmpv (nv a) (nv b) := cmpv_sign ⟨⟨fun h => Int.lt_of_mul_lt_mul_right h (by omega), fun h => Int.mul_lt_mul_of_pos_right h hc0⟩, ⟨fun h => Int.lt_of_mul_lt_mul_right h (by omega), fun h => Int.mul_lt_mul_of_pos_right h hc0⟩⟩
      rw [e5] at c5
      have l1 : decide (0 < (c.length : Int)) = true := by
        have := List.length_pos_iff.mpr h0
        simp <;> omega
      have l2 : ((c.length : Int) == 0) = false := by
        have := List.length_pos_iff.mpr h0
        rw [beq_eq_false_iff_ne]; omega
      simp only [bs, c1, c2, c3, x3, y3, p3, r3, c4, c5, tr, gt_, bne_self_eq_false, l1, l2, BEq.rfl, Bool.and_self, Bool.and_false, Bool.false_and, Bool.or_self, cond_false, Bool.and_true]
  · have e : (((decide (20 < (a.length : Int))) || (decide (20 < (b.length : Int)))) || (decide (20 < (c.length : Int)))) = true := by simp <;> omega
    rw [e]; rfl
theorem NatOrder_w (a b c : List Int) (ha : (∀ y, y ∈ a → (Lit.int .u32 y).wf = true) ∧ a.length ≤ maxLen) (hb : (∀ y, y ∈ b → (Lit.int .u32 y).wf = true) ∧ b.length ≤ maxLen) (hc : (∀ y, y ∈ c → (Lit.int .u32 y).wf = true) ∧ c.length ≤ maxLen) : NatOrder_m a b c = some true :=
  NatOrder_t a b c (lim_wf ha) (lim_wf hb) (lim_wf hc)
end Go.Proofs.Ytghcecjegcakkaa
