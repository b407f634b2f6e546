/- What the reference's functions of naturals compute. -/
import Derived.Test.YtkkhgcllbbffaaaNatR
set_option linter.unusedVariables false
set_option linter.unusedSimpArgs false
set_option maxRecDepth 20000
set_option maxHeartbeats 1000000
namespace Go.Proofs.Ytkkhgcllbbffaaa
open Go Go.AM Go.Pl

def bv : List Int → Int
  | [] => 0
  | x :: l => x + 2 * bv l
def Bits (l : List Int) : Prop := ∀ x, x ∈ l → x = 0 ∨ x = 1
theorem Bits.at {l : List Int} {k : Nat} {x : Int} (h : Bits l) (hk : l[k]? = some x) : x = 0 ∨ x = 1 := h x (List.mem_of_getElem? hk)
theorem Bits.app {a b : List Int} (ha : Bits a) (hb : Bits b) : Bits (a ++ b) := fun x hx => (List.mem_append.mp hx).elim (ha x) (hb x)
theorem Bits.one {x : Int} (h : x = 0 ∨ x = 1) : Bits [x] := fun y hy => by simp at hy; subst hy; exact h
theorem bv_append : ∀ a b : List Int, bv (a ++ b) = bv a + 2 ^ a.length * bv b
  | [], b => by simp [bv]
  | x :: a, b => by
    simp only [List.cons_append, bv, bv_append a b, List.length_cons, Int.pow_succ]
    grind
theorem bv_bound : ∀ l : List Int, Bits l → 0 ≤ bv l ∧ bv l < 2 ^ l.length
  | [], _ => by simp [bv]
  | x :: l, h => by
    have h1 := h x (by simp)
    have ih := bv_bound l (fun y hy => h y (by simp [hy]))
    simp only [bv, List.length_cons, Int.pow_succ]
    constructor <;> omega
theorem bv_take {l : List Int} {k : Nat} {x : Int} (h : l[k]? = some x) : bv (l.take (k + 1)) = bv (l.take k) + 2 ^ k * x := by
  have hk := (List.getElem?_eq_some_iff.mp h).1
  rw [List.take_add_one, h, bv_append]
  simp [bv, Nat.min_eq_left (Nat.le_of_lt hk)]
theorem two_pos (n : Nat) : (0 : Int) < 2 ^ n := Int.pow_pos (by omega)
theorem pw_two (n : Nat) : (4294967296 : Int) ^ n = 2 ^ (32 * n) := by
  induction n with
  | zero => rfl
  | succ n ih => rw [Int.pow_succ, ih, show 32 * (n + 1) = 32 * n + 32 by omega, Int.pow_add]; rfl
theorem div_two (x : Int) (k : Nat) : x / 2 ^ k % 2 * 2 ^ k + x % 2 ^ k = x % 2 ^ (k + 1) := by
  have h1 := Int.emod_add_mul_ediv x (2 ^ k)
  have h2 := Int.emod_add_mul_ediv (x / 2 ^ k) 2
  have h3 := Int.emod_lt_of_pos x (two_pos k)
  have h4 := Int.emod_nonneg x (show (2 : Int) ^ k ≠ 0 by have := two_pos k; omega)
  generalize x % 2 ^ k = r at *
  generalize x / 2 ^ k = q at *
  have h5 : x = (r + 2 ^ k * (q % 2)) + 2 ^ (k + 1) * (q / 2) := by rw [Int.pow_succ]; grind
  rw [h5, Int.add_mul_emod_self_left]
  have h6 : 0 ≤ q % 2 ∧ q % 2 ≤ 1 := by omega
  have h7 : (0 : Int) ≤ 2 ^ k * (q % 2) := Int.mul_nonneg (by have := two_pos k; omega) h6.1
  have h8 : (2 : Int) ^ k * (q % 2) ≤ 2 ^ k * 1 := Int.mul_le_mul_of_nonneg_left h6.2 (by have := two_pos k; omega)
  have h9 : (r + 2 ^ k * (q % 2)) % 2 ^ (k + 1) = r + 2 ^ k * (q % 2) := Int.emod_eq_of_lt (by omega) (by rw [Int.pow_succ]; omega)
  rw [h9]
  grind
theorem shr_k {x : Int} {k : Nat} (h0 : 0 ≤ x) (hk : k < 32) : shr .u32 x (k : Int) = x / 2 ^ k := by
  unfold shr
  rw [show min (Int.toNat (k : Int)) IntKind.u32.bits = k by simp [IntKind.bits]; omega, Int.fdiv_eq_ediv_of_nonneg _ (by have := two_pos k; omega)]
/-- The bits of one limb, and on. -/
theorem bitsL2 (rec1 : List Int → List Int → Int → Option (List Int)) (a : List Int) (i : Nat) (x : Int) (hx : 0 ≤ x ∧ x < 4294967296) (ha : a[i]? = some x) (hi : i < 1000000) (o0 : List Int) (ho : o0.length ≤ 100000000) (G : Option (List Int) → Prop)
    (hG : ∀ o, Bits o → o.length = o0.length + 32 → bv o = bv o0 + 2 ^ o0.length * x → G (rec1 a o ((i + 1 : Nat) : Int))) :
    ∀ (n k : Nat) (o : List Int), 32 - k < n → k ≤ 32 → Bits o → o.length = o0.length + k → bv o = bv o0 + 2 ^ o0.length * (x % 2 ^ k) → G (refBits_L2 rec1 n a o (i : Nat) (k : Nat))
  | 0, k, o, h, _, _, _, _ => by omega
  | n + 1, k, o, h, hk, hb, hl, hv => by
    show G (refBits_B2 rec1 (refBits_L2 rec1 n) a o (i : Nat) (k : Nat))
    unfold refBits_B2
    by_cases hlt : k < 32
    · rw [show decide (((k : Nat) : Int) < 32) = true by simp <;> omega, cond_true, idx_nat, ha, Option.bind_some, wr_u64 (by omega) (by omega), show decide (0 ≤ ((k : Nat) : Int)) = true by simp]
      simp only [chk, cond_true, Option.bind_some]
      rw [shr_k hx.1 hlt, Int.tmod_eq_emod_of_nonneg (Int.ediv_nonneg hx.1 (by have := two_pos k; omega)), wr_i64 (by omega) (by omega), app_ok _ _ (by simp; omega), Option.bind_some,
        show IntKind.i64.wrap ((k : Int) + 1) = ((k + 1 : Nat) : Int) by rw [wr_i64 (by omega) (by omega)]; omega]
      refine bitsL2 rec1 a i x hx ha hi o0 ho G hG n (k + 1) _ (by omega) (by omega) (hb.app (Bits.one (by omega))) (by simp; omega) ?_
      rw [bv_append, hv, hl, Int.pow_add, ← div_two]
      simp only [bv]
      grind
    · have : k = 32 := by omega
      subst this
      rw [show decide (((32 : Nat) : Int) < 32) = false by decide, cond_false, show IntKind.i64.wrap ((i : Int) + 1) = ((i + 1 : Nat) : Int) by rw [wr_i64 (by omega) (by omega)]; omega]
      rw [show (2 : Int) ^ 32 = 4294967296 by decide, Int.emod_eq_of_lt hx.1 hx.2] at hv
      exact hG o hb hl hv
theorem bitsL1 (a : List Int) (la : Lim a) (hs : a.length ≤ 1000) : ∀ (n i : Nat) (o : List Int), a.length - i < n → i ≤ a.length → Bits o → o.length = 32 * i → bv o = nv (a.take i) →
    ∃ l, refBits_L1 n a o (i : Nat) = some l ∧ Bits l ∧ l.length = 32 * a.length ∧ bv l = nv a
  | 0, i, o, h, _, _, _, _ => by omega
  | n + 1, i, o, h, hi, hb, hl, hv => by
    show ∃ l, refBits_B1 (refBits_L1 n) a o (i : Nat) = some l ∧ _
    unfold refBits_B1
    by_cases hlt : i < a.length
    · have e1 : a[i]? = some a[i] := by simp [hlt]
      rw [show decide (((i : Nat) : Int) < ((a.length : Nat) : Int)) = true by simp <;> omega, cond_true]
      have := bitsL2 (refBits_L1 n) a i a[i] (la.at e1) e1 (by omega) o (by omega) (fun r => ∃ l, r = some l ∧ Bits l ∧ l.length = 32 * a.length ∧ bv l = nv a)
        (fun o' hb' hl' hv' => bitsL1 a la hs n (i + 1) o' (by omega) (by omega) hb' (by omega) (by rw [hv', hv, nv_take _ _ _ e1, hl, pw_two])) FUEL 0 o (by rw [FUEL_big]; omega) (by omega) hb (by omega) (by simp [Int.emod_one])
      simpa using this
    · rw [show decide (((i : Nat) : Int) < ((a.length : Nat) : Int)) = false by simp <;> omega, cond_false]
      rw [List.take_of_length_le (by omega)] at hv
      exact ⟨o, rfl, hb, by omega, hv⟩
theorem bits_ok (a : List Int) (la : Lim a) (hs : a.length ≤ 1000) : ∃ l, refBits_m a = some l ∧ Bits l ∧ l.length = 32 * a.length ∧ bv l = nv a := by
  have := bitsL1 a la hs FUEL 0 [] (by rw [FUEL_big]; omega) (Nat.zero_le _) (fun x h => by simp at h) rfl rfl
  simpa [refBits_m] using this
theorem wholeL2 : ∀ (n : Nat) (a : List Int), a.length < n → a.length ≤ 4294967296 → Lim a → ∃ t, refWhole_L2 n a = some t ∧ IsN t (nv a)
  | 0, a, h, _, _ => by omega
  | n + 1, a, h, hb, hl => by
    show ∃ t, refWhole_B2 (refWhole_L2 n) a = some t ∧ _
    unfold refWhole_B2
    by_cases h0 : a = []
    · subst h0
      exact ⟨[], by simp [gopt], IsN.nil⟩
    · obtain ⟨b, x, rfl⟩ := split_last h0
      have e1 : (decide (0 < (((b ++ [x]).length : Nat) : Int)) == true) = true := by simp <;> omega
      have e2 : IntKind.i64.wrap ((((b ++ [x]).length : Nat) : Int) - 1) = (b.length : Int) := by rw [wr_i64 (by simp at * <;> omega) (by simp at * <;> omega)]; simp <;> omega
      have e3 : decide (0 < (((b ++ [x]).length : Nat) : Int)) = true := by simp <;> omega
      simp only [e1, e2, e3, gopt, cond_true, idx_nat, Bool.true_and]
      have e4 : (b ++ [x])[b.length]? = some x := by simp
      simp only [e4, Option.bind_some]
      by_cases hx : x = 0
      · subst hx
        have e5 := slc_ok (b ++ [0]) 0 b.length ⟨Nat.zero_le _, by simp⟩
        simp only [Int.natCast_zero] at e5
        simp only [BEq.rfl, cond_true, e5, Option.bind_some, List.drop_zero, Nat.sub_zero, List.take_left]
        obtain ⟨t, h1, h2⟩ := wholeL2 n b (by simp at h; omega) (by simp at hb; omega) hl.left
        refine ⟨t, h1, ⟨h2.lim, h2.trm, ?_⟩⟩
        rw [h2.val, nv_append]; simp [nv]
      · have e5 : (x == 0) = false := by simp [hx]
        simp only [BEq.rfl, cond_true, Option.bind_some, e5, cond_false]
        exact ⟨_, rfl, IsN.self hl (fun y hy => by simp at hy; subst hy; exact hx)⟩
theorem bor_ok {x : Int} {r : Nat} (h0 : 0 ≤ x) (h1 : x < 2 ^ r) (hr : r < 32) : bor .u32 x (shl .u32 1 (r : Int)) = x + 2 ^ r := by
  obtain ⟨m, rfl⟩ : ∃ m : Nat, x = (m : Int) := ⟨x.toNat, by omega⟩
  have hm : m < 2 ^ r := by
    have : ((2 ^ r : Nat) : Int) = 2 ^ r := by simp
    omega
  have h32 : 2 ^ r ≤ 2 ^ 31 := Nat.pow_le_pow_right (by omega) (by omega)
  have e1 : shl .u32 1 (r : Int) = ((2 ^ r : Nat) : Int) := by
    unfold shl
    rw [show min (Int.toNat (r : Int)) IntKind.u32.bits = r by simp [IntKind.bits]; omega, Int.one_mul, wu32]
    have : ((2 ^ r : Nat) : Int) = 2 ^ r := by simp
    omega
  rw [e1]
  unfold bor
  rw [wu32]
  have e2 : (BitVec.ofInt IntKind.u32.bits (m : Int) ||| BitVec.ofInt IntKind.u32.bits ((2 ^ r : Nat) : Int)).toNat = m + 2 ^ r := by
    rw [BitVec.toNat_or]
    have a1 : (BitVec.ofInt IntKind.u32.bits (m : Int)).toNat = m := by
      simp only [BitVec.ofInt_natCast, BitVec.toNat_ofNat, IntKind.bits]; omega
    have a2 : (BitVec.ofInt IntKind.u32.bits ((2 ^ r : Nat) : Int)).toNat = 2 ^ r := by
      simp only [BitVec.ofInt_natCast, BitVec.toNat_ofNat, IntKind.bits]; omega
    have a3 := Nat.two_pow_add_eq_or_of_lt hm 1
    rw [Nat.mul_one] at a3
    rw [a1, a2, Nat.or_comm, ← a3]
    omega
  rw [e2]
  have : ((2 ^ r : Nat) : Int) = 2 ^ r := by simp
  omega
end Go.Proofs.Ytkkhgcllbbffaaa
