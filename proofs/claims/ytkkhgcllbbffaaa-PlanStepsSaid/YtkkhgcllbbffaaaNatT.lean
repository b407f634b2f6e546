/- What the reference's functions of naturals compute, on. -/
import Derived.Test.YtkkhgcllbbffaaaNatS
set_option linter.unusedVariables false
set_option linter.unusedSimpArgs false
set_option maxRecDepth 20000
set_option maxHeartbeats 1000000
namespace Go.Proofs.Ytkkhgcllbbffaaa
open Go Go.AM Go.Pl

theorem Bits.take {l : List Int} (h : Bits l) (k : Nat) : Bits (l.take k) := fun x hx => h x (List.mem_of_mem_take hx)
theorem inc (i : Nat) (h : i ≤ 1000000000) : IntKind.i64.wrap ((i : Int) + 1) = ((i + 1 : Nat) : Int) := by rw [wr_i64 (by omega) (by omega)]; omega
theorem lt_t {i m : Nat} (h : i < m) : decide (((i : Nat) : Int) < ((m : Nat) : Int)) = true := by simp <;> omega
theorem lt_f {i m : Nat} (h : ¬ i < m) : decide (((i : Nat) : Int) < ((m : Nat) : Int)) = false := by simp <;> omega
theorem wholeJ (rec1 : List Int → List Int → Int → Option (List Int)) (l o : List Int) (hb : Bits l) (i : Nat) (hi : i < l.length) (hs : l.length ≤ 1000000) (lo : Lim o) (hl : o.length = i / 32 + 1) (hv : nv o = bv (l.take i)) :
    ∃ o', refWhole_J2 rec1 l o (i : Nat) = rec1 l o' ((i + 1 : Nat) : Int) ∧ Lim o' ∧ o'.length = i / 32 + 1 ∧ nv o' = bv (l.take (i + 1)) := by
  unfold refWhole_J2 refWhole_J1
  have e1 : l[i]? = some l[i] := by simp [hi]
  have hx := hb.at e1
  rw [idx_nat, e1, Option.bind_some, inc i (by omega)]
  rcases hx with hx | hx
  · rw [hx, show ((0 : Int) == 1) = false from rfl, cond_false]
    exact ⟨o, rfl, lo, hl, by rw [bv_take e1, hv, hx]; omega⟩
  · rw [hx, show ((1 : Int) == 1) = true from rfl, cond_true]
    have q1 : IntKind.i64.wrap (Int.tdiv ((i : Nat) : Int) 32) = ((i / 32 : Nat) : Int) := by
      rw [Int.tdiv_eq_ediv_of_nonneg (by omega), wr_i64 (by omega) (by omega)]; omega
    have q2 : IntKind.u64.wrap (Int.tmod ((i : Nat) : Int) 32) = ((i % 32 : Nat) : Int) := by
      rw [Int.tmod_eq_emod_of_nonneg (by omega), wr_u64 (by omega) (by omega)]; omega
    have e2 : o[i / 32]? = some o[i / 32] := by simp [hl]
    have e3 : decide (0 ≤ ((i % 32 : Nat) : Int)) = true := by simp <;> omega
    rw [q1, q2, idx_nat, e2, Option.bind_some, e3]
    simp only [chk, cond_true, Option.bind_some]
    have ht := lo.at e2
    -- the highest limb is below 2^(i % 32)
    have hb' := (bv_bound _ (hb.take i)).2
    rw [List.length_take, Nat.min_eq_left (by omega), ← hv] at hb'
    have hsp := nv_split o (i / 32) (by omega)
    rw [List.drop_eq_getElem_cons (by omega), List.drop_eq_nil_of_le (by omega)] at hsp
    simp only [nv, Int.mul_zero, Int.add_zero] at hsp
    have hp := (nv_bound _ (lo.take (i / 32))).1
    have e4 : (2 : Int) ^ i = 4294967296 ^ (i / 32) * 2 ^ (i % 32) := by
      rw [pw_two, ← Int.pow_add]; congr 1; omega
    have htop : o[i / 32] < 2 ^ (i % 32) := by
      refine Int.lt_of_mul_lt_mul_left (a := 4294967296 ^ (i / 32)) ?_ (by have := pw_pos (i / 32); omega)
      omega
    rw [bor_ok ht.1 htop (by omega), stt_nat _ _ _ (by omega), Option.bind_some]
    have h31 : (2 : Int) ^ (i % 32) ≤ 2 ^ 31 := by
      have : ((2 ^ (i % 32) : Nat) : Int) ≤ ((2 ^ 31 : Nat) : Int) := Int.ofNat_le.mpr (Nat.pow_le_pow_right (by omega) (by omega))
      simpa using this
    refine ⟨_, rfl, lo.set (by omega), by simpa using hl, ?_⟩
    rw [nv_set _ _ _ _ e2, bv_take e1, hv, hx, e4]
    have : o[i / 32] + 2 ^ (i % 32) - o[i / 32] = (2 : Int) ^ (i % 32) := by omega
    rw [this]; omega
theorem wholeL1 (l : List Int) (hb : Bits l) (hs : l.length ≤ 1000000) : ∀ (n i : Nat) (o : List Int), l.length - i < n → i ≤ l.length → Lim o → o.length = (i + 31) / 32 → nv o = bv (l.take i) →
    ∃ t, refWhole_L1 n l o (i : Nat) = some t ∧ IsN t (bv l)
  | 0, i, o, h, _, _, _, _ => by omega
  | n + 1, i, o, h, hi, lo, hl, hv => by
    show ∃ t, refWhole_B1 (refWhole_L1 n) l o (i : Nat) = some t ∧ _
    unfold refWhole_B1
    by_cases hlt : i < l.length
    · rw [lt_t hlt, cond_true, Int.tmod_eq_emod_of_nonneg (by omega)]
      by_cases h32 : i % 32 = 0
      · rw [show (((i : Nat) : Int) % 32 == 0) = true by simp <;> omega, cond_true, app_ok _ _ (by simp <;> omega), Option.bind_some]
        obtain ⟨o', e, lo', hl', hv'⟩ := wholeJ (refWhole_L1 n) l (o ++ [0]) hb i hlt hs (lo.app fun x hx => by simp at hx; omega) (by simp <;> omega) (by rw [nv_append, hv]; simp [nv])
        rw [e]
        exact wholeL1 l hb hs n (i + 1) o' (by omega) (by omega) lo' (by omega) hv'
      · rw [show (((i : Nat) : Int) % 32 == 0) = false by simp <;> omega, cond_false]
        obtain ⟨o', e, lo', hl', hv'⟩ := wholeJ (refWhole_L1 n) l o hb i hlt hs lo (by omega) hv
        rw [e]
        exact wholeL1 l hb hs n (i + 1) o' (by omega) (by omega) lo' (by omega) hv'
    · rw [lt_f hlt, cond_false]
      rw [List.take_of_length_le (by omega)] at hv
      rw [← hv]
      exact wholeL2 FUEL o (by rw [FUEL_big]; omega) (by omega) lo
theorem whole_ok (l : List Int) (hb : Bits l) (hs : l.length ≤ 1000000) : ∃ t, refWhole_m l = some t ∧ IsN t (bv l) := by
  have := wholeL1 l hb hs FUEL 0 [] (by rw [FUEL_big]; omega) (Nat.zero_le _) (fun x h => by simp at h) rfl rfl
  simpa [refWhole_m] using this
theorem take_more' {l : List Int} {k : Nat} (h : l.length ≤ k) : bv (l.take (k + 1)) = bv (l.take k) := by rw [take_more h]
theorem raddL (x y : List Int) (hx : Bits x) (hy : Bits y) (m : Nat) (h1 : x.length ≤ m) (h2 : y.length ≤ m) (hm : m ≤ 100000) : ∀ (n i : Nat) (o : List Int) (c : Int), m + 1 - i < n → i ≤ m + 1 → Bits o → o.length = i → 0 ≤ c → c ≤ 1 →
    bv o + 2 ^ i * c = bv (x.take i) + bv (y.take i) → ∃ t, refAdd_L1 n x y (m : Nat) o c (i : Nat) = some t ∧ IsN t (bv x + bv y)
  | 0, i, o, c, h, _, _, _, _, _, _ => by omega
  | n + 1, i, o, c, h, hi, hb, hl, hc0, hc1, hv => by
    show ∃ t, refAdd_B1 (refAdd_L1 n) x y (m : Nat) o c (i : Nat) = some t ∧ _
    unfold refAdd_B1
    by_cases hle : i ≤ m
    · rw [show decide (((i : Nat) : Int) ≤ ((m : Nat) : Int)) = true by simp <;> omega, cond_true]
      have key : ∀ p q : Int, (p = 0 ∨ p = 1) → (q = 0 ∨ q = 1) → bv (x.take (i + 1)) = bv (x.take i) + 2 ^ i * p → bv (y.take (i + 1)) = bv (y.take i) + 2 ^ i * q →
          ∃ t, refAdd_J4 (refAdd_L1 n) x y (m : Nat) o (i : Nat) (c + p + q) = some t ∧ IsN t (bv x + bv y) := by
        intro p q hp hq ep eq
        unfold refAdd_J4 refAdd_J2
        rw [Int.tmod_eq_emod_of_nonneg (by omega), Int.tdiv_eq_ediv_of_nonneg (by omega), app_ok _ _ (by simp <;> omega), Option.bind_some, inc i (by omega), wr_i64 (by omega) (by omega)]
        refine raddL x y hx hy m h1 h2 hm n (i + 1) _ _ (by omega) (by omega) (hb.app (Bits.one (by omega))) (by simp <;> omega) (by omega) (by omega) ?_
        rw [bv_append, ep, eq, hl, Int.pow_succ]
        simp only [bv]
        have := Int.emod_add_mul_ediv (c + p + q) 2
        generalize (c + p + q) % 2 = r at *
        generalize (c + p + q) / 2 = d at *
        grind
      have hJ3 : ∀ p : Int, (p = 0 ∨ p = 1) → bv (x.take (i + 1)) = bv (x.take i) + 2 ^ i * p → ∃ t, refAdd_J3 (refAdd_L1 n) x y (m : Nat) o (i : Nat) (c + p) = some t ∧ IsN t (bv x + bv y) := by
        intro p hp ep
        unfold refAdd_J3
        by_cases hlt : i < y.length
        · have e1 : y[i]? = some y[i] := by simp [hlt]
          have hq := hy.at e1
          rw [lt_t hlt, cond_true, idx_nat, e1, Option.bind_some, wr_i64 (by omega) (by omega)]
          exact key p y[i] hp hq ep (bv_take e1)
        · rw [lt_f hlt, cond_false]
          have := key p 0 hp (.inl rfl) ep (by rw [take_more' (by omega)]; omega)
          simpa using this
      by_cases hlt : i < x.length
      · have e1 : x[i]? = some x[i] := by simp [hlt]
        have hp := hx.at e1
        rw [lt_t hlt, cond_true, idx_nat, e1, Option.bind_some, wr_i64 (by omega) (by omega)]
        exact hJ3 x[i] hp (bv_take e1)
      · rw [lt_f hlt, cond_false]
        have := hJ3 0 (.inl rfl) (by rw [take_more' (by omega)]; omega)
        simpa using this
    · rw [show decide (((i : Nat) : Int) ≤ ((m : Nat) : Int)) = false by simp <;> omega, cond_false]
      have ei : i = m + 1 := by omega
      subst ei
      rw [List.take_of_length_le (by omega), List.take_of_length_le (by omega)] at hv
      have b1 := (bv_bound x hx).2
      have b2 := (bv_bound y hy).2
      have b3 := (bv_bound o hb).1
      have tle : ∀ {u : Nat}, u ≤ m → (2 : Int) ^ u ≤ 2 ^ m := fun h => by
        have : ((2 ^ _ : Nat) : Int) ≤ ((2 ^ m : Nat) : Int) := Int.ofNat_le.mpr (Nat.pow_le_pow_right (by omega) h)
        simpa using this
      have p1 := tle h1
      have p2 := tle h2
      have p3 := two_pos m
      rw [Int.pow_succ] at hv
      have hc : c = 0 := by
        rcases (show c = 0 ∨ c = 1 by omega) with h | h
        · exact h
        · subst h; omega
      subst hc
      obtain ⟨t, h3, h4⟩ := whole_ok o hb (by omega)
      refine ⟨t, by rw [h3, Option.bind_some], ?_⟩
      rw [show bv x + bv y = bv o by omega]; exact h4
theorem radd_ok {a b : List Int} (la : Lim a) (lb : Lim b) (ha : a.length ≤ 1000) (hb : b.length ≤ 1000) : ∃ t, refAdd_m a b = some t ∧ IsN t (nv a + nv b) := by
  obtain ⟨x, h1, h2, h3, h4⟩ := bits_ok a la ha
  obtain ⟨y, k1, k2, k3, k4⟩ := bits_ok b lb hb
  unfold refAdd_m refAdd_J1
  rw [h1, k1, Option.bind_some, Option.bind_some]
  have key : ∀ m : Nat, x.length ≤ m → y.length ≤ m → m ≤ 100000 → ∃ t, refAdd_L1 FUEL x y (m : Nat) [] 0 0 = some t ∧ IsN t (nv a + nv b) := by
    intro m q1 q2 q3
    have := raddL x y h2 k2 m q1 q2 q3 FUEL 0 [] 0 (by rw [FUEL_big]; omega) (by omega) (fun x h => by simp at h) rfl (by omega) (by omega) (by simp [bv])
    rw [h4, k4] at this
    simpa using this
  by_cases h : x.length < y.length
  · rw [lt_t h, cond_true]; exact key _ (by omega) (Nat.le_refl _) (by omega)
  · rw [lt_f h, cond_false]; exact key _ (Nat.le_refl _) (by omega) (by omega)
theorem bits_zeros (n : Nat) : Bits (List.replicate n 0) := fun x hx => by rw [List.eq_of_mem_replicate hx]; exact .inl rfl
theorem bv_zeros : ∀ n, bv (List.replicate n 0) = 0
  | 0 => rfl
  | n + 1 => by rw [List.replicate_succ]; simp only [bv, bv_zeros n]; rfl
theorem shiftL (a : List Int) (la : Lim a) (ha : a.length ≤ 1000) (m : Nat) (hm : m ≤ 100000) : ∀ (n i : Nat), m - i < n → i ≤ m → ∃ t, refShift_L1 n a (m : Nat) (List.replicate i 0) (i : Nat) = some t ∧ IsN t (2 ^ m * nv a)
  | 0, i, h, _ => by omega
  | n + 1, i, h, hi => by
    show ∃ t, refShift_B1 (refShift_L1 n) a (m : Nat) (List.replicate i 0) (i : Nat) = some t ∧ _
    unfold refShift_B1
    by_cases hlt : i < m
    · rw [lt_t hlt, cond_true, app_ok _ _ (by simp <;> omega), Option.bind_some, inc i (by omega), show List.replicate i (0 : Int) ++ [0] = List.replicate (i + 1) 0 by rw [List.replicate_succ']]
      exact shiftL a la ha m hm n (i + 1) (by omega) (by omega)
    · rw [lt_f hlt, cond_false]
      obtain ⟨x, h1, h2, h3, h4⟩ := bits_ok a la ha
      have : i = m := by omega
      subst this
      rw [h1, Option.bind_some, app_ok _ _ (by simp <;> omega), Option.bind_some]
      obtain ⟨t, h5, h6⟩ := whole_ok (List.replicate i 0 ++ x) ((bits_zeros i).app h2) (by simp <;> omega)
      refine ⟨t, by rw [h5, Option.bind_some], ?_⟩
      rw [bv_append, bv_zeros, h4, List.length_replicate, Int.zero_add] at h6
      exact h6
theorem shift_ok (a : List Int) (la : Lim a) (ha : a.length ≤ 1000) (m : Nat) (hm : m ≤ 100000) : ∃ t, refShift_m a (m : Nat) = some t ∧ IsN t (2 ^ m * nv a) := by
  have := shiftL a la ha m hm FUEL 0 (by rw [FUEL_big]; omega) (Nat.zero_le _)
  simpa [refShift_m] using this
theorem two_le {i k : Nat} (h : i ≤ 32 * k) : (2 : Int) ^ i ≤ 4294967296 ^ k := by
  rw [pw_two]
  have : ((2 ^ i : Nat) : Int) ≤ ((2 ^ (32 * k) : Nat) : Int) := Int.ofNat_le.mpr (Nat.pow_le_pow_right (by omega) h)
  simpa using this
theorem rmulL (a b y : List Int) (la : Lim a) (lb : Lim b) (ha : a.length ≤ 200) (hb : b.length ≤ 200) (hy : Bits y) (hyl : y.length = 32 * b.length) (hyv : bv y = nv b) : ∀ (n i : Nat) (o : List Int), y.length - i < n → i ≤ y.length → IsN o (nv a * bv (y.take i)) →
    ∃ t, refMul_L1 n a o y (i : Nat) = some t ∧ IsN t (nv a * nv b)
  | 0, i, o, h, _, _ => by omega
  | n + 1, i, o, h, hi, ho => by
    show ∃ t, refMul_B1 (refMul_L1 n) a o y (i : Nat) = some t ∧ _
    unfold refMul_B1
    have an := (nv_bound a la)
    have olen : o.length ≤ 400 := by
      refine ho.len_le ?_
      have b1 := bv_bound _ (hy.take i)
      have : bv (y.take i) < 4294967296 ^ 200 := by
        have h1 : (2 : Int) ^ (y.take i).length ≤ 4294967296 ^ 200 := two_le (by rw [List.length_take]; omega)
        omega
      have h2 := pw_le ha
      have h3 := Int.mul_le_mul (show nv a ≤ 4294967296 ^ 200 by omega) (show bv (y.take i) ≤ 4294967296 ^ 200 - 1 by omega) (by omega) (by have := pw_pos 200; omega)
      have h4 : (4294967296 : Int) ^ 400 = 4294967296 ^ 200 * 4294967296 ^ 200 := by rw [← Int.pow_add]
      have h5 := pw_pos 200
      rw [h4]
      generalize (4294967296 : Int) ^ 200 = P at *
      have : P * (P - 1) = P * P - P := by rw [Int.mul_sub, Int.mul_one]
      omega
    by_cases hlt : i < y.length
    · have e1 : y[i]? = some y[i] := by simp [hlt]
      rw [lt_t hlt, cond_true, idx_nat, e1, Option.bind_some]
      rcases hy.at e1 with hx | hx
      · rw [hx, show ((0 : Int) == 1) = false from rfl, cond_false]
        unfold refMul_J1
        rw [inc i (by omega)]
        exact rmulL a b y la lb ha hb hy hyl hyv n (i + 1) o (by omega) (by omega) (by rw [bv_take e1, hx]; simpa using ho)
      · rw [hx, show ((1 : Int) == 1) = true from rfl, cond_true]
        obtain ⟨s, h1, h2⟩ := shift_ok a la (by omega) i (by omega)
        rw [h1, Option.bind_some]
        have slen : s.length ≤ 400 := by
          refine h2.len_le ?_
          have h3 : (2 : Int) ^ i ≤ 4294967296 ^ 200 := two_le (by omega)
          have h4 := pw_le ha
          have h5 := Int.mul_le_mul h3 (show nv a ≤ 4294967296 ^ 200 - 1 by omega) (by omega) (by have := pw_pos 200; omega)
          have h6 : (4294967296 : Int) ^ 400 = 4294967296 ^ 200 * 4294967296 ^ 200 := by rw [← Int.pow_add]
          have h7 := pw_pos 200
          rw [h6]
          generalize (4294967296 : Int) ^ 200 = P at *
          have : P * (P - 1) = P * P - P := by rw [Int.mul_sub, Int.mul_one]
          omega
        obtain ⟨r, h3, h4⟩ := radd_ok ho.lim h2.lim (by omega) (by omega)
        rw [h3, Option.bind_some]
        unfold refMul_J1
        rw [inc i (by omega)]
        refine rmulL a b y la lb ha hb hy hyl hyv n (i + 1) r (by omega) (by omega) ?_
        rw [ho.val, h2.val] at h4
        rw [bv_take e1, hx, Int.mul_add, Int.mul_one, Int.mul_comm (nv a) (2 ^ i)]
        exact h4
    · rw [lt_f hlt, cond_false]
      rw [List.take_of_length_le (by omega), hyv] at ho
      exact ⟨o, rfl, ho⟩
theorem rmul_ok {a b : List Int} (la : Lim a) (lb : Lim b) (ha : a.length ≤ 200) (hb : b.length ≤ 200) : ∃ t, refMul_m a b = some t ∧ IsN t (nv a * nv b) := by
  obtain ⟨y, k1, k2, k3, k4⟩ := bits_ok b lb (by omega)
  unfold refMul_m
  rw [k1, Option.bind_some]
  have := rmulL a b y la lb ha hb k2 k3 k4 FUEL 0 [] (by rw [FUEL_big]; omega) (Nat.zero_le _) (by simpa [bv] using IsN.nil)
  simpa using this
end Go.Proofs.Ytkkhgcllbbffaaa
