/- What nat's Add, Mul, Of, Pow and Cmp compute. -/
import Derived.Test.YtkkhgcllbbffaaaNatP
set_option linter.unusedVariables false
set_option linter.unusedSimpArgs false
set_option maxRecDepth 20000
set_option maxHeartbeats 1000000
namespace Go.Proofs.Ytkkhgcllbbffaaa
open Go Go.AM Go.Pl

theorem sfx {b : Bool} : gopt b false (some true) = some true ∨ gopt b false (some true) = some false := by cases b <;> simp [gopt]
/-- One step of the sum: what is written, and carried. -/
theorem add_step (rec1 : List Int → List Int → List Int → Int → Int → Int → Option (List Int × Int)) (a b s : List Int) (i m : Nat) (t : Int) (ht : 0 ≤ t ∧ t < 18446744073709551616) (hi : i < s.length) (hs : s.length ≤ 1000000) :
    natAdd_J3 rec1 a b s (i : Int) t (m : Int) (i : Int) = rec1 a b (s.set i (t % 4294967296)) (t / 4294967296) (m : Int) ((i + 1 : Nat) : Int) := by
  unfold natAdd_J3 natAdd_J1
  have e1 : s[i]? = some s[i] := by simp [hi]
  rw [idx_nat, e1, Option.bind_some, wu32, stt_nat _ _ _ hi, Option.bind_some, shr32 _ rfl, wr_i64 (by omega) (by omega)]
  rfl
theorem addL : ∀ (n i : Nat) (a b s : List Int) (c : Int), Lim a → Lim b → a.length < s.length → b.length < s.length → s.length ≤ 1000 → i ≤ s.length → s.length - i < n → Lim s → 0 ≤ c → c ≤ 1 →
    nv s + 4294967296 ^ i * c = nv (a.take i) + nv (b.take i) → (∀ k, i ≤ k → k < s.length → s[k]? = some 0) → Ans (natAdd_L1 n a b s c (s.length : Nat) (i : Nat)) (nv a + nv b)
  | 0, i, a, b, s, c, _, _, _, _, _, _, h, _, _, _, _, _ => by omega
  | n + 1, i, a, b, s, c, la, lb, ha, hb, hs, hi, h, ls, hc0, hc1, hv, hz => by
    show Ans (natAdd_B1 (natAdd_L1 n) a b s c (s.length : Nat) (i : Nat)) _
    unfold natAdd_B1
    by_cases hlt : i < s.length
    · have e0 : decide (((i : Nat) : Int) < ((s.length : Nat) : Int)) = true := by simp; omega
      rw [e0, cond_true]
      have hs0 := hz i (Nat.le_refl _) hlt
      -- what a and b bring
      have key : ∀ (x y : Int), 0 ≤ x → x < 4294967296 → 0 ≤ y → y < 4294967296 → nv (a.take (i + 1)) = nv (a.take i) + 4294967296 ^ i * x → nv (b.take (i + 1)) = nv (b.take i) + 4294967296 ^ i * y →
          Ans (natAdd_J3 (natAdd_L1 n) a b s (i : Nat) (c + x + y) (s.length : Nat) (i : Nat)) (nv a + nv b) := by
        intro x y hx0 hx1 hy0 hy1 ea eb
        rw [add_step _ a b s i s.length _ (by omega) hlt (by omega)]
        have := addL n (i + 1) a b (s.set i ((c + x + y) % 4294967296)) ((c + x + y) / 4294967296) la lb (by simpa using ha) (by simpa using hb) (by simpa using hs) (by simp; omega) (by simp; omega) (ls.set (by omega)) (by omega) (by omega)
          (by
            rw [nv_set _ _ _ _ hs0, ea, eb, Int.pow_succ]
            have := Int.emod_add_mul_ediv (c + x + y) 4294967296
            generalize (c + x + y) % 4294967296 = q at *
            generalize (c + x + y) / 4294967296 = d at *
            grind)
          (fun k hk hk' => by
            rw [List.getElem?_set_ne (by omega)]
            exact hz k (by omega) (by simpa using hk'))
        simpa using this
      have ua : ∀ {k : Nat} {x : Int}, a[k]? = some x → IntKind.u64.wrap x = x := fun h => by have := la.at h; rw [wr_u64 (by omega) (by omega)]
      have ub : ∀ {k : Nat} {x : Int}, b[k]? = some x → IntKind.u64.wrap x = x := fun h => by have := lb.at h; rw [wr_u64 (by omega) (by omega)]
      have hb' : ∀ (x : Int), 0 ≤ x → x < 4294967296 → nv (a.take (i + 1)) = nv (a.take i) + 4294967296 ^ i * x → Ans (natAdd_J2 (natAdd_L1 n) a b s (i : Nat) (c + x) (s.length : Nat) (i : Nat)) (nv a + nv b) := by
        intro x hx0 hx1 ea
        unfold natAdd_J2
        by_cases h2 : i < b.length
        · have e2 : decide (((i : Nat) : Int) < ((b.length : Nat) : Int)) = true := by simp; omega
          have e3 : b[i]? = some b[i] := by simp [h2]
          have hy := lb.at e3
          rw [e2, cond_true, idx_nat, e3, Option.bind_some, ub e3, wr_u64 (by omega) (by omega)]
          exact key x b[i] hx0 hx1 hy.1 hy.2 ea (nv_take _ _ _ e3)
        · have e2 : decide (((i : Nat) : Int) < ((b.length : Nat) : Int)) = false := by simp; omega
          rw [e2, cond_false]
          have := key x 0 hx0 hx1 (by omega) (by omega) ea (by rw [take_more (by omega)]; omega)
          simpa using this
      by_cases h1 : i < a.length
      · have e2 : decide (((i : Nat) : Int) < ((a.length : Nat) : Int)) = true := by simp; omega
        have e3 : a[i]? = some a[i] := by simp [h1]
        have hx := la.at e3
        rw [e2, cond_true, idx_nat, e3, Option.bind_some, ua e3, wr_u64 (by omega) (by omega)]
        exact hb' a[i] hx.1 hx.2 (nv_take _ _ _ e3)
      · have e2 : decide (((i : Nat) : Int) < ((a.length : Nat) : Int)) = false := by simp; omega
        rw [e2, cond_false]
        have := hb' 0 (by omega) (by omega) (by rw [take_more (by omega)]; omega)
        simpa using this
    · have e0 : decide (((i : Nat) : Int) < ((s.length : Nat) : Int)) = false := by simp; omega
      rw [e0, cond_false]
      have ei : i = s.length := by omega
      subst ei
      rw [List.take_of_length_le (by omega), List.take_of_length_le (by omega)] at hv
      have b1 := (nv_bound a la).2
      have b2 := (nv_bound b lb).2
      have b3 := (nv_bound s ls).1
      have p1 := pw_le (show a.length ≤ s.length - 1 by omega)
      have p2 := pw_le (show b.length ≤ s.length - 1 by omega)
      have p3 : (4294967296 : Int) ^ s.length = 4294967296 ^ (s.length - 1) * 4294967296 := by rw [← Int.pow_succ]; congr 1; omega
      have hc : c = 0 := by
        rcases (show c = 0 ∨ c = 1 by omega) with h | h
        · exact h
        · subst h
          have := pw_pos (s.length - 1)
          omega
      subst hc
      have := bounded_ok s (by omega) ls
      rw [show nv s = nv a + nv b by omega] at this
      obtain ⟨t, h1, h2⟩ := this
      refine ⟨t, h1, ?_⟩
      rw [h2, Option.bind_some]
theorem nv_zeros : ∀ n, nv (List.replicate n 0) = 0
  | 0 => rfl
  | n + 1 => by rw [List.replicate_succ]; simp only [nv, nv_zeros n]; rfl
theorem lim_zeros (n : Nat) : Lim (List.replicate n 0) := fun x hx => by rw [List.eq_of_mem_replicate hx]; omega
theorem right_no {a b : List Int} (ha : a.length ≤ 1000000) (hb : b.length ≤ 1000000) (h : (Rt a && Rt b) = false) :
    natAdd_m a b = some ([], 1) ∧ natMul_m a b = some ([], 1) ∧ natCmp_m a b = some 0 := by
  unfold natAdd_m natMul_m natCmp_m
  rw [right_ok a (by omega), right_ok b (by omega)]
  cases h1 : Rt a <;> cases h2 : Rt b <;> simp [h1, h2, gopt] at h ⊢
theorem add_ok {a b : List Int} (la : Lim a) (lb : Lim b) (ra : Rt a = true) (rb : Rt b = true) : Ans (natAdd_m a b) (nv a + nv b) := by
  have ha := ((Rt_iff a).mp ra).1
  have hb := ((Rt_iff b).mp rb).1
  unfold natAdd_m
  rw [right_ok a (by omega), right_ok b (by omega), ra, rb]
  simp only [Option.bind_some, Bool.not_true, BEq.rfl, gopt, cond_true, Bool.or_self, cond_false]
  obtain ⟨m, hm, e⟩ : ∃ m : Nat, a.length < m ∧ b.length < m ∧ m ≤ 65 ∧ (if (a.length : Int) < (b.length : Int) then (b.length : Int) else (a.length : Int)) + 1 = (m : Int) := by
    refine ⟨(if a.length < b.length then b.length else a.length) + 1, ?_, ?_, ?_, ?_⟩ <;> split <;> (try split) <;> omega
  obtain ⟨hmb, hm65, e⟩ := e
  rw [e, wr_i64 (by omega) (by omega), mkc_ok m 0 (by omega), Option.bind_some]
  have := addL FUEL 0 a b (List.replicate m 0) 0 la lb (by simp; omega) (by simp; omega) (by simp; omega) (Nat.zero_le _) (by rw [FUEL_big]; simp; omega) (lim_zeros m) (by omega) (by omega) (by rw [nv_zeros]; simp [nv]) (fun k _ hk => by simp at hk; simp [hk])
  simpa using this

theorem mulBound {x y : Int} (hx : 0 ≤ x ∧ x < 4294967296) (hy : 0 ≤ y ∧ y < 4294967296) : 0 ≤ x * y ∧ x * y ≤ 18446744065119617025 :=
  ⟨Int.mul_nonneg hx.1 hy.1, by
    have := Int.mul_le_mul (show x ≤ 4294967295 by omega) (show y ≤ 4294967295 by omega) hy.1 (by omega)
    omega⟩
/-- The inner rounds of the product. -/
theorem mulL2 (rec1 : List Int → List Int → List Int → Int → Int → Option (List Int × Int)) (a b p0 : List Int) (x : Int) (i : Nat) (la : Nat) (hx : 0 ≤ x ∧ x < 4294967296) (lb : Lim b) (hab : i + b.length < p0.length) (hp : p0.length ≤ 1000) (G : Option (List Int × Int) → Prop)
    (hz : p0[i + b.length]? = some 0)
    (hG : ∀ p, Lim p → p.length = p0.length → nv p = nv p0 + 4294967296 ^ i * (x * nv b) → (∀ k, i + b.length < k → p[k]? = p0[k]?) → G (rec1 b p a la ((i + 1 : Nat) : Int))) :
    ∀ (n j : Nat) (p : List Int) (c : Int), b.length - j < n → j ≤ b.length → Lim p → p.length = p0.length → 0 ≤ c ∧ c < 4294967296 → nv p + 4294967296 ^ (i + j) * c = nv p0 + 4294967296 ^ i * (x * nv (b.take j)) →
      (∀ k, i + j ≤ k → p[k]? = p0[k]?) → G (natMul_L2 rec1 n b p i x c a la i b (b.length : Nat) j)
  | 0, j, p, c, h, _, _, _, _, _, _ => by omega
  | n + 1, j, p, c, h, hj, lp, hl, hc, hv, hk => by
    show G (natMul_B2 rec1 (natMul_L2 rec1 n) b p i x c a la i b (b.length : Nat) j)
    unfold natMul_B2
    by_cases hlt : j < b.length
    · have e0 : decide (((j : Nat) : Int) < ((b.length : Nat) : Int)) = true := by simp; omega
      have e1 : b[j]? = some b[j] := by simp [hlt]
      have hij : i + j < p.length := by omega
      have e2 : p[i + j]? = some p[i + j] := by simp [hij]
      have e3 : IntKind.i64.wrap ((i : Int) + (j : Int)) = ((i + j : Nat) : Int) := by rw [wr_i64 (by omega) (by omega)]; omega
      have hy := lb.at e1
      have hq := lp.at e2
      have hxy := mulBound hx hy
      generalize hbj : b[j] = y at *
      generalize hpj : p[i + j] = q at *
      have w1 : IntKind.u64.wrap x = x := wr_u64 (by omega) (by omega)
      have w2 : IntKind.u64.wrap y = y := wr_u64 (by omega) (by omega)
      have w3 : IntKind.u64.wrap q = q := wr_u64 (by omega) (by omega)
      have w4 : IntKind.u64.wrap (x * y) = x * y := wr_u64 (by omega) (by omega)
      have w5 : IntKind.u64.wrap (q + x * y) = q + x * y := wr_u64 (by omega) (by omega)
      have w6 : IntKind.u64.wrap (q + x * y + c) = q + x * y + c := wr_u64 (by omega) (by omega)
      rw [e0, cond_true, idx_nat, e1, Option.bind_some, e3, idx_nat, e2, Option.bind_some, Option.bind_some, w1, w2, w3, w4, w5, w6, wu32, stt_nat _ _ _ hij, Option.bind_some, shr32 _ rfl, show IntKind.i64.wrap ((j : Int) + 1) = ((j + 1 : Nat) : Int) by rw [wr_i64 (by omega) (by omega)]; omega]
      refine mulL2 rec1 a b p0 x i la hx lb hab hp G hz hG n (j + 1) _ _ (by omega) (by omega) (lp.set (by omega)) (by simpa using hl) (by omega) ?_ (fun k hk' => ?_)
      · rw [nv_set _ _ _ _ e2, nv_take _ _ _ e1, show i + (j + 1) = (i + j) + 1 by omega, Int.pow_succ, Int.mul_add, Int.mul_add]
        have := Int.emod_add_mul_ediv (q + x * y + c) 4294967296
        have e4 : (4294967296 : Int) ^ (i + j) = 4294967296 ^ i * 4294967296 ^ j := Int.pow_add ..
        generalize (q + x * y + c) % 4294967296 = r at *
        generalize (q + x * y + c) / 4294967296 = d at *
        grind
      · rw [List.getElem?_set_ne (by omega)]
        exact hk k (by omega)
    · have e0 : decide (((j : Nat) : Int) < ((b.length : Nat) : Int)) = false := by simp; omega
      have hj' : j = b.length := by omega
      subst hj'
      have e3 : IntKind.i64.wrap ((i : Int) + ((b.length : Nat) : Int)) = ((i + b.length : Nat) : Int) := by rw [wr_i64 (by omega) (by omega)]; omega
      have e2 := hk (i + b.length) (Nat.le_refl _)
      rw [hz] at e2
      rw [e0, cond_false, e3, idx_nat, e2, Option.bind_some, stt_nat _ _ _ (by omega), Option.bind_some, show IntKind.i64.wrap ((i : Int) + 1) = ((i + 1 : Nat) : Int) by rw [wr_i64 (by omega) (by omega)]; omega, wr_u32 (by omega) (by omega)]
      refine hG _ (lp.set (by omega)) (by simpa using hl) ?_ (fun k hk' => ?_)
      · rw [nv_set _ _ _ _ e2]
        rw [List.take_length] at hv
        simpa using hv
      · rw [List.getElem?_set_ne (by omega)]
        exact hk k (by omega)
theorem mulL1 : ∀ (n i : Nat) (a b p : List Int), Lim a → Lim b → Lim p → p.length = a.length + b.length → p.length ≤ 1000 → i ≤ a.length → a.length - i < n → nv p = nv (a.take i) * nv b → (∀ k, i + b.length ≤ k → k < p.length → p[k]? = some 0) →
    Ans (natMul_L1 n b p a (a.length : Nat) (i : Nat)) (nv a * nv b)
  | 0, i, a, b, p, _, _, _, _, _, _, h, _, _ => by omega
  | n + 1, i, a, b, p, la, lb, lp, hl, hp, hi, h, hv, hz => by
    show Ans (natMul_B1 (natMul_L1 n) b p a (a.length : Nat) (i : Nat)) _
    unfold natMul_B1
    by_cases hlt : i < a.length
    · have e0 : decide (((i : Nat) : Int) < ((a.length : Nat) : Int)) = true := by simp; omega
      have e1 : a[i]? = some a[i] := by simp [hlt]
      rw [e0, cond_true, idx_nat, e1, Option.bind_some]
      have hx := la.at e1
      have := mulL2 (natMul_L1 n) a b p a[i] i (a.length : Nat) hx lb (by omega) hp (fun o => Ans o (nv a * nv b)) (hz _ (Nat.le_refl _) (by omega))
        (fun p' lp' hl' hv' hk' => mulL1 n (i + 1) a b p' la lb lp' (by omega) (by omega) (by omega) (by omega)
          (by rw [hv', hv, nv_take _ _ _ e1]; grind) (fun k h1 h2 => by rw [hk' k (by omega)]; exact hz k (by omega) (by omega)))
        FUEL 0 p 0 (by rw [FUEL_big]; omega) (Nat.zero_le _) lp rfl (by omega) (by simp [nv]) (fun k _ => rfl)
      simpa using this
    · have e0 : decide (((i : Nat) : Int) < ((a.length : Nat) : Int)) = false := by simp; omega
      rw [e0, cond_false]
      rw [List.take_of_length_le (by omega)] at hv
      have := bounded_ok p (by omega) lp
      rw [hv] at this
      obtain ⟨t, h1, h2⟩ := this
      refine ⟨t, h1, ?_⟩
      rw [h2, Option.bind_some]
theorem mul_ok {a b : List Int} (la : Lim a) (lb : Lim b) (ra : Rt a = true) (rb : Rt b = true) : Ans (natMul_m a b) (nv a * nv b) := by
  have ha := ((Rt_iff a).mp ra).1
  have hb := ((Rt_iff b).mp rb).1
  unfold natMul_m
  rw [right_ok a (by omega), right_ok b (by omega), ra, rb]
  simp only [Option.bind_some, Bool.not_true, BEq.rfl, gopt, cond_true, Bool.or_self, cond_false]
  rw [wr_i64 (by omega) (by omega), show ((a.length : Int) + (b.length : Int)) = ((a.length + b.length : Nat) : Int) by omega, mkc_ok _ 0 (by omega), Option.bind_some]
  have := mulL1 FUEL 0 a b (List.replicate (a.length + b.length) 0) la lb (lim_zeros _) (by simp) (by simp; omega) (Nat.zero_le _) (by rw [FUEL_big]; omega) (by rw [nv_zeros]; simp [nv]) (fun k _ hk => by simp at hk; simp [hk])
  simpa using this
theorem of_ok (n : Int) (h : 0 ≤ n ∧ n < 18446744073709551616) : ∃ t, natOf_m n = some t ∧ IsN t n ∧ Rt t = true ∧ t.length ≤ 2 := by
  have l : Lim [n % 4294967296, n / 4294967296] := by
    intro x hx
    simp at hx
    rcases hx with rfl | rfl <;> omega
  obtain ⟨t, h1, h2, h3⟩ := trimmed_ok [n % 4294967296, n / 4294967296] (by simp) l
  have hv : nv [n % 4294967296, n / 4294967296] = n := by
    simp only [nv]
    have := Int.emod_add_mul_ediv n 4294967296
    omega
  rw [hv] at h2
  refine ⟨t, ?_, h2, (Rt_iff t).mpr ⟨by simp at h3; omega, h2.trm⟩, by simpa using h3⟩
  unfold natOf_m
  rw [wu32, shr32 _ rfl, wr_u32 (n := n / 4294967296) (by omega) (by omega), h1, Option.bind_some]
end Go.Proofs.Ytkkhgcllbbffaaa
