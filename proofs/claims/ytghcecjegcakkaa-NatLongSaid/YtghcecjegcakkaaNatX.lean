/- The laws of naturals, the last one. -/
import Derived.Test.YtghcecjegcakkaaNatW
set_option linter.unusedVariables false
set_option linter.unusedSimpArgs false
set_option maxRecDepth 20000
set_option maxHeartbeats 1000000
namespace Go.Proofs.Ytghcecjegcakkaa
open Go Go.AM Go.Pl
theorem bor1 {x : Int} (h : 0 ≤ x ∧ x < 4294967296) : 1 ≤ bor .u32 x 1 ∧ bor .u32 x 1 < 4294967296 := by
  unfold bor
  rw [wu32]
  have h1 : (BitVec.ofInt IntKind.u32.bits x ||| BitVec.ofInt IntKind.u32.bits 1).toNat < 2 ^ 32 := BitVec.isLt _
  have h2 : 1 ≤ (BitVec.ofInt IntKind.u32.bits x ||| BitVec.ofInt IntKind.u32.bits 1).toNat := by
    rw [BitVec.toNat_or]
    exact Nat.le_trans (by decide) Nat.right_le_or
  omega
theorem longL (x f : Int) (hx : 0 ≤ x ∧ x < 4294967296) (hf : 0 ≤ f ∧ f < 4294967296) (k : Nat) (hk : k ≤ 63) : ∀ (n i : Nat) (o : List Int), k - i < n → i ≤ k → o.length = i → Lim o →
    ∃ a, natLong__L1 n x f o (k : Nat) (i : Nat) = some a ∧ a.length = k + 1 ∧ Lim a ∧ Rt a = true
  | 0, i, o, h, _, _, _ => by omega
  | n + 1, i, o, h, hi, hl, lo => by
    show ∃ a, natLong__B1 (natLong__L1 n) x f o (k : Nat) (i : Nat) = some a ∧ _
    unfold natLong__B1
    by_cases hlt : i < k
    · rw [lt_t hlt, cond_true, app_ok _ _ (by simp <;> omega), bs, inc i (by omega)]
      exact longL x f hx hf k hk n (i + 1) _ (by omega) (by omega) (by simp <;> omega) (lo.app fun y hy => by simp at hy; omega)
    · have hb := bor1 hx
      rw [lt_f hlt, cond_false, app_ok _ _ (by simp <;> omega), bs]
      refine ⟨_, rfl, by simp <;> omega, lo.app fun y hy => by simp at hy; omega, (Rt_iff _).mpr ⟨by simp <;> omega, fun y hy => by simp at hy; omega⟩⟩
theorem long_ok (n x f : Int) (hn : 0 ≤ n) (hx : 0 ≤ x ∧ x < 4294967296) (hf : 0 ≤ f ∧ f < 4294967296) : ∃ a, natLong__m n x f = some a ∧ 1 ≤ a.length ∧ a.length ≤ 64 ∧ Lim a ∧ Rt a = true := by
  obtain ⟨k, hk, ek⟩ : ∃ k : Nat, k ≤ 63 ∧ IntKind.i64.wrap (Int.tmod n 64) = (k : Int) := ⟨(n % 64).toNat, by omega, by rw [Int.tmod_eq_emod_of_nonneg hn, wr_i64 (by omega) (by omega)]; omega⟩
  unfold natLong__m
  rw [ek]
  obtain ⟨a, h1, h2, h3, h4⟩ := longL x f hx hf k hk FUEL 0 [] (by rw [FUEL_big]; omega) (Nat.zero_le _) rfl (fun y hy => by simp at hy)
  exact ⟨a, by simpa using h1, by omega, by omega, h3, h4⟩
theorem IsN.ge {t : List Int} {v : Int} (h : IsN t v) {n : Nat} (hv : 4294967296 ^ n ≤ v) : n + 1 ≤ t.length := by
  rcases Nat.lt_or_ge n t.length with h1 | h1
  · exact h1
  · have := h.lt
    have := pw_le h1
    omega
theorem sum_len {a b t : List Int} (la : Lim a) (lb : Lim b) (ra : Rt a = true) (rb : Rt b = true) (ha : a ≠ []) (hb : b ≠ []) (ht : IsN t (nv a + nv b)) : a.length ≤ t.length ∧ b.length ≤ t.length ∧ (a.length < 64 → b.length < 64 → t.length ≤ 64) := by
  have pa := nv_bound a la
  have pb := nv_bound b lb
  refine ⟨(self_of la ra).mono ht (by omega), (self_of lb rb).mono ht (by omega), fun h1 h2 => ?_⟩
  refine ht.len_le ?_
  have h3 := pw_le (show a.length ≤ 63 by omega)
  have h4 := pw_le (show b.length ≤ 63 by omega)
  have h5 : (4294967296 : Int) ^ 64 = 4294967296 ^ 63 * 4294967296 := Int.pow_succ ..
  have h6 := pw_pos 63
  rw [h5]
  generalize (4294967296 : Int) ^ 63 = Z at *
  omega
theorem mul_len {a b t : List Int} (la : Lim a) (lb : Lim b) (ra : Rt a = true) (rb : Rt b = true) (ha : a ≠ []) (hb : b ≠ []) (ht : IsN t (nv a * nv b)) : a.length + b.length ≤ t.length + 1 ∧ t.length ≤ a.length + b.length := by
  have pa := nv_bound a la
  have pb := nv_bound b lb
  have ga := nv_ge la ((Rt_iff a).mp ra).2 ha
  have gb := nv_ge lb ((Rt_iff b).mp rb).2 hb
  have l1 := List.length_pos_iff.mpr ha
  have l2 := List.length_pos_iff.mpr hb
  constructor
  · have := Int.mul_le_mul ga gb (by have := pw_pos (b.length - 1); omega) pa.1
    rw [← Int.pow_add] at this
    have := ht.ge this
    omega
  · refine ht.len_le ?_
    have h1 := Int.mul_le_mul (show nv a ≤ 4294967296 ^ a.length by omega) (show nv b ≤ 4294967296 ^ b.length - 1 by omega) pb.1 (by have := pw_pos a.length; omega)
    rw [Int.mul_sub, Int.mul_one, ← Int.pow_add] at h1
    have := pw_pos a.length
    omega
theorem NatLong_t (n m x y f : Int) (hn : 0 ≤ n) (hm : 0 ≤ m) (hx : 0 ≤ x ∧ x < 4294967296) (hy : 0 ≤ y ∧ y < 4294967296) (hf : 0 ≤ f ∧ f < 4294967296) : NatLong_m n m x y f = some true := by
  obtain ⟨a, a1, a2, a3, a4, a5⟩ := long_ok n x f hn hx hf
  obtain ⟨b, b1, b2, b3, b4, b5⟩ := long_ok m y f hm hy hf
  have na : a ≠ [] := fun e => by subst e; simp at a2
  have nb : b ≠ [] := fun e => by subst e; simp at b2
  have ia := self_of a4 a5
  have ib := self_of b4 b5
  have pa : 0 < nv a := by
    have := nv_ge a4 ((Rt_iff a).mp a5).2 na
    have := pw_pos (a.length - 1)
    omega
  have pb : 0 < nv b := by
    have := nv_ge b4 ((Rt_iff b).mp b5).2 nb
    have := pw_pos (b.length - 1)
    omega
  obtain ⟨s, s1, s2⟩ := add_of ia ib a5 b5
  obtain ⟨p, p1, p2⟩ := mul_of ia ib a5 b5
  obtain ⟨q1, q2, q3⟩ := sum_len a4 b4 a5 b5 na nb s1
  obtain ⟨q4, q5⟩ := mul_len a4 b4 a5 b5 na nb p1
  unfold NatLong_m
  rw [awake_ok, a1, bs, b1, bs, s2, bs, p2, bs]
  have ek : IntKind.i64.wrap ((a.length : Int) + (b.length : Int)) = ((a.length + b.length : Nat) : Int) := by rw [wr_i64 (by omega) (by omega)]; omega
  have ek1 : IntKind.i64.wrap (((a.length + b.length : Nat) : Int) - 1) = ((a.length + b.length : Nat) : Int) - 1 := wr_i64 (by omega) (by omega)
  have emax : (if (a.length : Int) < (b.length : Int) then (b.length : Int) else (a.length : Int)) ≤ (s.length : Int) := by split <;> omega
  by_cases hs : s.length ≤ 64
  · have rs := rt_of s1 hs
    have c1 := cmp_of s1 ia rs a5
    have c2 := cmp_of s1 ib rs b5
    rw [(cmpv_lt (show nv a < nv a + nv b by omega)).2] at c1
    rw [(cmpv_lt (show nv b < nv a + nv b by omega)).2] at c2
    by_cases hp : p.length ≤ 64
    · rw [if_pos hs, if_pos hp]
      simp only [ek, ek1, bs]
      rw [show (((((((0 : Int) != 0) && (((decide ((a.length : Int) < 64)) && (decide ((b.length : Int) < 64))) || ((0 : Int) != 6))) || ((((0 : Int) == 0) && ((p.length : Int) != ((a.length + b.length : Nat) : Int))) && ((p.length : Int) != ((a.length + b.length : Nat) : Int) - 1))) || (((0 : Int) != 0) && ((decide (((a.length + b.length : Nat) : Int) < 65)) || ((0 : Int) != 6)))) || ((decide (65 < ((a.length + b.length : Nat) : Int))) && ((0 : Int) == 0)))) = false by simp <;> omega]
      rw [cond_false, c1, show ((0 : Int) == 0) = true from rfl]
      simp only [BEq.rfl, gt_, bs, bne_self_eq_false, Bool.and_self, c2]
      rw [show decide ((s.length : Int) < (if (a.length : Int) < (b.length : Int) then (b.length : Int) else (a.length : Int))) = false by rw [decide_eq_false_iff_not]; omega]
      rfl
    · rw [if_pos hs, if_neg hp]
      simp only [ek, ek1, bs]
      rw [show (((((((0 : Int) != 0) && (((decide ((a.length : Int) < 64)) && (decide ((b.length : Int) < 64))) || ((0 : Int) != 6))) || ((((6 : Int) == 0) && (((([] : List Int).length : Nat) : Int) != ((a.length + b.length : Nat) : Int))) && (((([] : List Int).length : Nat) : Int) != ((a.length + b.length : Nat) : Int) - 1))) || (((6 : Int) != 0) && ((decide (((a.length + b.length : Nat) : Int) < 65)) || ((6 : Int) != 6)))) || ((decide (65 < ((a.length + b.length : Nat) : Int))) && ((6 : Int) == 0)))) = false by simp <;> omega]
      rw [cond_false, c1, show ((0 : Int) == 0) = true from rfl]
      simp only [BEq.rfl, gt_, bs, bne_self_eq_false, Bool.and_self, c2]
      rw [show decide ((s.length : Int) < (if (a.length : Int) < (b.length : Int) then (b.length : Int) else (a.length : Int))) = false by rw [decide_eq_false_iff_not]; omega]
      rfl
  · by_cases hp : p.length ≤ 64
    · rw [if_neg hs, if_pos hp]
      simp only [ek, ek1, bs]
      rw [show (((((((6 : Int) != 0) && (((decide ((a.length : Int) < 64)) && (decide ((b.length : Int) < 64))) || ((6 : Int) != 6))) || ((((0 : Int) == 0) && ((p.length : Int) != ((a.length + b.length : Nat) : Int))) && ((p.length : Int) != ((a.length + b.length : Nat) : Int) - 1))) || (((0 : Int) != 0) && ((decide (((a.length + b.length : Nat) : Int) < 65)) || ((0 : Int) != 6)))) || ((decide (65 < ((a.length + b.length : Nat) : Int))) && ((0 : Int) == 0)))) = false by simp <;> omega]
      rfl
    · rw [if_neg hs, if_neg hp]
      simp only [ek, ek1, bs]
      rw [show (((((((6 : Int) != 0) && (((decide ((a.length : Int) < 64)) && (decide ((b.length : Int) < 64))) || ((6 : Int) != 6))) || ((((6 : Int) == 0) && (((([] : List Int).length : Nat) : Int) != ((a.length + b.length : Nat) : Int))) && (((([] : List Int).length : Nat) : Int) != ((a.length + b.length : Nat) : Int) - 1))) || (((6 : Int) != 0) && ((decide (((a.length + b.length : Nat) : Int) < 65)) || ((6 : Int) != 6)))) || ((decide (65 < ((a.length + b.length : Nat) : Int))) && ((6 : Int) == 0)))) = false by simp <;> omega]
      rfl
theorem NatLong_w (n m x y f : Int) (hn : (Lit.int .u8 n).wf = true) (hm : (Lit.int .u8 m).wf = true) (hx : (Lit.int .u32 x).wf = true) (hy : (Lit.int .u32 y).wf = true) (hf : (Lit.int .u32 f).wf = true) : NatLong_m n m x y f = some true :=
  NatLong_t n m x y f (by have := bounds_u8 hn; omega) (by have := bounds_u8 hm; omega) (by have := bounds_u32 hx; omega) (by have := bounds_u32 hy; omega) (by have := bounds_u32 hf; omega)
end Go.Proofs.Ytghcecjegcakkaa
