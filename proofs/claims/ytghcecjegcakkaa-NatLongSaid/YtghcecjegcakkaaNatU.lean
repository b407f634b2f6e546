/- The laws of naturals. -/
import Derived.Test.YtghcecjegcakkaaNatT
set_option linter.unusedVariables false
set_option linter.unusedSimpArgs false
set_option maxRecDepth 20000
set_option maxHeartbeats 1000000
namespace Go.Proofs.Ytghcecjegcakkaa
open Go Go.AM Go.Pl

theorem bv_split (l : List Int) (k : Nat) : bv l = bv (l.take k) + 2 ^ k * bv (l.drop k) := by
  by_cases h : k ≤ l.length
  · have := bv_append (l.take k) (l.drop k)
    rw [List.take_append_drop, List.length_take, Nat.min_eq_left h] at this
    exact this
  · rw [List.take_of_length_le (by omega), List.drop_eq_nil_of_le (by omega)]; simp [bv]
theorem bv_drop (l : List Int) (i : Nat) : bv (l.drop i) = (l[i]?.getD 0) + 2 * bv (l.drop (i + 1)) := by
  by_cases h : i < l.length
  · rw [List.drop_eq_getElem_cons h]; simp [bv, h]
  · rw [List.drop_eq_nil_of_le (by omega), List.drop_eq_nil_of_le (by omega)]; simp [bv, h]
theorem bv_lt {x y : List Int} {i : Nat} (hx : Bits x) (hy : Bits y) (hd : bv (x.drop (i + 1)) = bv (y.drop (i + 1))) (h : x[i]?.getD 0 < y[i]?.getD 0) : bv x < bv y := by
  have e1 := bv_split x i
  have e2 := bv_split y i
  rw [bv_drop x i, hd] at e1
  rw [bv_drop y i] at e2
  have b1 := (bv_bound _ (hx.take i)).2
  have b2 := (bv_bound _ (hy.take i)).1
  have b3 : (2 : Int) ^ (x.take i).length ≤ 2 ^ i := by
    have : ((2 ^ (x.take i).length : Nat) : Int) ≤ ((2 ^ i : Nat) : Int) := Int.ofNat_le.mpr (Nat.pow_le_pow_right (by omega) (by rw [List.length_take]; omega))
    simpa using this
  have h1 : (2 : Int) ^ i * (x[i]?.getD 0 + 1) ≤ 2 ^ i * y[i]?.getD 0 := Int.mul_le_mul_of_nonneg_left (by omega) (by have := two_pos i; omega)
  rw [Int.mul_add] at e1 e2 h1
  omega
theorem rcmpL (x y : List Int) (hx : Bits x) (hy : Bits y) (hs : x.length ≤ 100000 ∧ y.length ≤ 100000) : ∀ (n i : Nat), i < n → i ≤ 200000 → bv (x.drop i) = bv (y.drop i) →
    refCmp_L1 n x y ((i : Int) - 1) = some (cmpv (bv x) (bv y))
  | 0, i, h, _, _ => by omega
  | n + 1, i, h, hi, hd => by
    show refCmp_B1 (refCmp_L1 n) x y ((i : Int) - 1) = _
    unfold refCmp_B1
    cases i with
    | zero =>
      rw [show decide (0 ≤ ((0 : Nat) : Int) - 1) = false by simp, cond_false]
      simp only [List.drop_zero] at hd
      rw [hd, cmpv_eq]
    | succ i =>
      rw [show ((i + 1 : Nat) : Int) - 1 = ((i : Nat) : Int) by omega, show decide (0 ≤ ((i : Nat) : Int)) = true by simp, cond_true]
      have bit : ∀ {l : List Int}, Bits l → l[i]?.getD 0 = 0 ∨ l[i]?.getD 0 = 1 := fun {l} hl => by
        cases h : l[i]? with
        | none => exact .inl rfl
        | some z => exact hl.at h
      have hp := bit hx
      have hq := bit hy
      have key : refCmp_J4 (refCmp_L1 n) x y (i : Nat) (x[i]?.getD 0) (y[i]?.getD 0) = some (cmpv (bv x) (bv y)) := by
        unfold refCmp_J4 refCmp_J2
        by_cases hne : x[i]?.getD 0 = y[i]?.getD 0
        · rw [hne, bne_self_eq_false, cond_false, wr_i64 (by omega) (by omega)]
          exact rcmpL x y hx hy hs n i (by omega) (by omega) (by rw [bv_drop x i, bv_drop y i, hne, hd])
        · rw [show (x[i]?.getD 0 != y[i]?.getD 0) = true by simp [hne], cond_true, wr_i64 (by omega) (by omega)]
          congr 1
          rcases (show x[i]?.getD 0 < y[i]?.getD 0 ∨ y[i]?.getD 0 < x[i]?.getD 0 by omega) with h1 | h1
          · rw [(cmpv_lt (bv_lt hx hy hd h1)).1]; omega
          · rw [(cmpv_lt (bv_lt hy hx hd.symm h1)).2]; omega
      have hJ3 : refCmp_J3 (refCmp_L1 n) x y (i : Nat) (x[i]?.getD 0) 0 = some (cmpv (bv x) (bv y)) := by
        unfold refCmp_J3
        by_cases hlt : i < y.length
        · have e1 : y[i]? = some y[i] := by simp [hlt]
          rw [e1] at key
          rw [lt_t hlt, cond_true, idx_nat, e1, Option.bind_some]; exact key
        · have e1 : y[i]? = none := by simp; omega
          rw [e1] at key
          rw [lt_f hlt, cond_false]; exact key
      by_cases hlt : i < x.length
      · have e1 : x[i]? = some x[i] := by simp [hlt]
        rw [e1] at hJ3
        rw [lt_t hlt, cond_true, idx_nat, e1, Option.bind_some]; exact hJ3
      · have e1 : x[i]? = none := by simp; omega
        rw [e1] at hJ3
        rw [lt_f hlt, cond_false]; exact hJ3
theorem rcmp_ok {a b : List Int} (la : Lim a) (lb : Lim b) (ha : a.length ≤ 1000) (hb : b.length ≤ 1000) : refCmp_m a b = some (cmpv (nv a) (nv b)) := by
  obtain ⟨x, h1, h2, h3, h4⟩ := bits_ok a la ha
  obtain ⟨y, k1, k2, k3, k4⟩ := bits_ok b lb hb
  unfold refCmp_m refCmp_J1
  rw [h1, k1, Option.bind_some, Option.bind_some]
  have key : ∀ m : Nat, x.length ≤ m → y.length ≤ m → m ≤ 100000 → refCmp_L1 FUEL x y (IntKind.i64.wrap ((m : Nat) - 1)) = some (cmpv (nv a) (nv b)) := by
    intro m q1 q2 q3
    rw [wr_i64 (by omega) (by omega), ← h4, ← k4]
    exact rcmpL x y h2 k2 ⟨by omega, by omega⟩ FUEL m (by rw [FUEL_big]; omega) (by omega) (by rw [List.drop_eq_nil_of_le q1, List.drop_eq_nil_of_le q2])
  by_cases h : x.length < y.length
  · rw [lt_t h, cond_true]; exact key _ (by omega) (Nat.le_refl _) (by omega)
  · rw [lt_f h, cond_false]; exact key _ (Nat.le_refl _) (by omega) (by omega)
theorem rpowL (a : List Int) (la : Lim a) (ha : a.length ≤ 64) (k : Nat) (hk : k ≤ 1024) : ∀ (n i : Nat) (p : List Int), k - i < n → i ≤ k → IsN p (nv a ^ i) → p.length ≤ 64 →
    Ans (refPow_L1 n a (k : Nat) p (i : Nat)) (nv a ^ k)
  | 0, i, p, h, _, _, _ => by omega
  | n + 1, i, p, h, hi, hp, hl => by
    show Ans (refPow_B1 (refPow_L1 n) a (k : Nat) p (i : Nat)) _
    unfold refPow_B1
    by_cases hlt : i < k
    · rw [lt_t hlt, cond_true]
      obtain ⟨t, e, ht⟩ := rmul_ok hp.lim la (by omega) (by omega)
      rw [hp.val, ← Int.pow_succ] at ht
      rw [e, Option.bind_some]
      by_cases h64 : t.length ≤ 64
      · rw [show decide (64 < ((t.length : Nat) : Int)) = false by simp <;> omega, cond_false, inc i (by omega)]
        exact rpowL a la ha k hk n (i + 1) t (by omega) (by omega) ht h64
      · rw [show decide (64 < ((t.length : Nat) : Int)) = true by simp <;> omega, cond_true]
        have hv := (nv_bound a la).1
        obtain ⟨s, hs⟩ := exN _ (nv a ^ k) (Int.pow_nonneg hv) (Nat.le_refl _)
        refine ⟨s, hs, ?_⟩
        have hpos : 0 < nv a := by
          rcases (show nv a = 0 ∨ 0 < nv a by omega) with h0 | h0
          · rw [h0, Int.pow_succ] at ht
            have := ht.uniq (by simpa using IsN.nil)
            rw [this] at h64; simp at h64
          · exact h0
        have hle : nv a ^ (i + 1) ≤ nv a ^ k := by
          obtain ⟨d, rfl⟩ := Nat.le.dest (show i + 1 ≤ k by omega)
          rw [Int.pow_add (nv a) (i + 1) d]
          have h1 : 0 < nv a ^ d := Int.pow_pos hpos
          have h2 : 0 < nv a ^ (i + 1) := Int.pow_pos hpos
          have := Int.mul_le_mul_of_nonneg_left (show 1 ≤ nv a ^ d by omega) (show 0 ≤ nv a ^ (i + 1) by omega)
          omega
        have := ht.mono hs hle
        rw [if_neg (by omega)]
    · rw [lt_f hlt, cond_false]
      have : i = k := by omega
      subst this
      exact ⟨p, hp, by rw [if_pos hl]⟩
theorem one_isN : IsN [1] 1 := ⟨fun x hx => by simp at hx; omega, fun x hx => by simp at hx; omega, rfl⟩
theorem rpow_ok {a : List Int} (la : Lim a) (ha : a.length ≤ 64) (k : Nat) (hk : k ≤ 1024) : Ans (refPow_m a (k : Nat)) (nv a ^ k) := by
  have := rpowL a la ha k hk FUEL 0 [1] (by rw [FUEL_big]; omega) (Nat.zero_le _) (by rw [Int.pow_zero]; exact one_isN) (by simp)
  simpa [refPow_m] using this
theorem awake_ok : natAwake_m = some true := by decide +kernel
theorem told_ok {t : List Int} {v : Int} (ht : IsN t v) (hl : t.length ≤ 1000000) : natTold_m (if t.length ≤ 64 then (t, (0 : Int)) else ([], 6)).1 (if t.length ≤ 64 then (t, (0 : Int)) else ([], 6)).2 t = some true := by
  unfold natTold_m
  by_cases h : t.length ≤ 64
  · rw [if_pos h, show decide (64 < ((t.length : Nat) : Int)) = false by simp <;> omega, cond_false, same_ok _ _ (by omega)]; simp
  · rw [if_neg h, show decide (64 < ((t.length : Nat) : Int)) = true by simp <;> omega, cond_true]; rfl
theorem gopt_true {α : Type} {d : α} {o : Option α} : gopt true d o = o := rfl
theorem gopt_false {α : Type} {d : α} {o : Option α} : gopt false d o = some d := rfl
theorem len_f {l : List Int} {n : Nat} (h : l.length ≤ n) : decide ((n : Int) < ((l.length : Nat) : Int)) = false := by simp <;> omega
theorem NatTells_t (a b : List Int) (n : Int) (la : Lim a) (lb : Lim b) (hn : 0 ≤ n ∧ n < 18446744073709551616) : NatTells_m a b n = some true := by
  unfold NatTells_m
  rw [awake_ok]
  by_cases hs : a.length ≤ 24 ∧ b.length ≤ 24
  · obtain ⟨ha, hb⟩ := hs
    rw [show (decide (24 < ((a.length : Nat) : Int)) || decide (24 < ((b.length : Nat) : Int))) = false by simp <;> omega, cond_false, right_ok a (by omega), refRight_ok a (by omega) la, refRight_ok b (by omega) lb]
    obtain ⟨t, h1, h2, h3, h4⟩ := of_ok n hn
    have l1 : Lim [n % 4294967296] := fun x hx => by simp at hx; omega
    have l2 : Lim [0, n / 4294967296] := fun x hx => by simp at hx; omega
    obtain ⟨s, k1, k2⟩ := radd_ok l1 l2 (by simp) (by simp)
    have e : nv [n % 4294967296] + nv [0, n / 4294967296] = n := by
      simp only [nv]; have := Int.emod_add_mul_ediv n 4294967296; omega
    rw [e] at k2
    rw [wu32, shr32 _ rfl, wr_u32 (n := n / 4294967296) (by omega) (by omega)]
    by_cases hr : (Rt a && Rt b) = true
    · have ra : Rt a = true := by simp at hr; exact hr.1
      have rb : Rt b = true := by simp at hr; exact hr.2
      obtain ⟨x, x1, x2⟩ := add_ok la lb ra rb
      obtain ⟨y, y1, y2⟩ := mul_ok la lb ra rb
      obtain ⟨x', x3, x4⟩ := radd_ok la lb (by omega) (by omega)
      obtain ⟨y', y3, y4⟩ := rmul_ok la lb (by omega) (by omega)
      rw [x4.uniq x1] at x3
      rw [y4.uniq y1] at y3
      have xl : x.length ≤ 100 := x1.len_le (by
        have b1 := (nv_bound a la).2
        have b2 := (nv_bound b lb).2
        have p1 := pw_le ha
        have p2 := pw_le hb
        have p3 : (4294967296 : Int) ^ 25 ≤ 4294967296 ^ 100 := pw_le (by omega)
        rw [show (4294967296 : Int) ^ 25 = 4294967296 ^ 24 * 4294967296 by rw [← Int.pow_succ]] at p3
        have := pw_pos 24
        omega)
      have yl : y.length ≤ 100 := by
        refine y1.len_le ?_
        have b1 := nv_bound a la
        have b2 := nv_bound b lb
        have p1 := pw_le ha
        have p2 := pw_le hb
        have p3 : (4294967296 : Int) ^ 48 ≤ 4294967296 ^ 100 := pw_le (by omega)
        have p4 : (4294967296 : Int) ^ 48 = 4294967296 ^ 24 * 4294967296 ^ 24 := by rw [← Int.pow_add]
        have p5 := pw_pos 24
        have p6 := Int.mul_le_mul (show nv a ≤ 4294967296 ^ 24 by omega) (show nv b ≤ 4294967296 ^ 24 - 1 by omega) b2.1 (by omega)
        generalize (4294967296 : Int) ^ 24 = Q at *
        have : Q * (Q - 1) = Q * Q - Q := by rw [Int.mul_sub, Int.mul_one]
        omega
      have tx := told_ok x1 (by omega)
      have ty := told_ok y1 (by omega)
      rw [x2, y2, cmp_ok la lb ra rb, ra, rb, h1, k1, x3, y3, rcmp_ok la lb (by omega) (by omega), k2.uniq h2]
      simp only [Option.bind_some, BEq.rfl, Bool.not_true, gopt_true, cond_false, same_ok t t (by omega), decide_true, Bool.or_self, tx, ty, Bool.and_self]
    · have hr' : (Rt a && Rt b) = false := by simpa using hr
      obtain ⟨e1, e2, e3⟩ := right_no (by omega) (by omega) hr'
      have e4 : (!Rt a || !Rt b) = true := by rw [← Bool.not_and, hr']; rfl
      rw [e1, e2, e3, h1, k1, k2.uniq h2]
      simp only [Option.bind_some, BEq.rfl, Bool.not_true, gopt_true, cond_false, same_ok t t (by omega), decide_true, e4, cond_true]
      rfl
  · rw [show (decide (24 < ((a.length : Nat) : Int)) || decide (24 < ((b.length : Nat) : Int))) = true by simp <;> omega, cond_true]
    rfl
end Go.Proofs.Ytghcecjegcakkaa
