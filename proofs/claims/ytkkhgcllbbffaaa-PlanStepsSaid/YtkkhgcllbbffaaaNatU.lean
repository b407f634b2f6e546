/- The laws of naturals. -/
import Derived.Test.YtkkhgcllbbffaaaNatT
set_option linter.unusedVariables false
set_option linter.unusedSimpArgs false
set_option maxRecDepth 20000
set_option maxHeartbeats 1000000
namespace Go.Proofs.Ytkkhgcllbbffaaa
open Go Go.AM Go.Pl

theorem bv_split (l : List Int) (k : Nat) : bv l = bv (l.take k) + 2 ^ k * bv (l.drop k) := by
  by_cases h : k ≤ l.length
  · have := bv_append (l.take k) (l.drop k)
    rw [List.take_append_drop, List.length_take, Nat.min_eq_left h] at this
    exact this
  · rw [List.take_of_length_le (by omega), List.drop_eq_nil_of_le (by omega)]; simp [bv]
theorem bv_drop (l : List Int) (i : Nat) : bv (l.drop i) = (l[i]?.getD 0) + 2 * bv (l.drop (i + 1)) := by
  by_cases h : i < l.length
  · rw [List.drop_eq_getElem_cons h]; simp [bv, h]
  · rw [List.drop_eq_nil_of_le (by omega), List.drop_eq_nil_of_le (by omega)]; simp [bv, h]
theorem bv_lt {x y : List Int} {i : Nat} (hx : Bits x) (hy : Bits y) (hd : bv (x.drop (i + 1)) = bv (y.drop (i + 1))) (h : x[i]?.getD 0 < y[i]?.getD 0) : bv x < bv y := by
  have e1 := bv_split x i
  have e2 := bv_split y i
  rw [bv_drop x i, hd] at e1
  rw [bv_drop y i] at e2
  have b1 := (bv_bound _ (hx.take i)).2
  have b2 := (bv_bound _ (hy.take i)).1
  have b3 : (2 : Int) ^ (x.take i).length ≤ 2 ^ i := by
    have : ((2 ^ (x.take i).length : Nat) : Int) ≤ ((2 ^ i : Nat) : Int) := Int.ofNat_le.mpr (Nat.pow_le_pow_right (by omega) (by rw [List.length_take]; omega))
    simpa using this
  have h1 : (2 : Int) ^ i * (x[i]?.getD 0 + 1) ≤ 2 ^ i * y[i]?.getD 0 := Int.mul_le_mul_of_nonneg_left (by omega) (by have := two_pos i; omega)
  rw [Int.mul_add] at e1 e2 h1
  omega
theorem rcmpL (x y : List Int) (hx : Bits x) (hy : Bits y) (hs : x.length ≤ 100000 ∧ y.length ≤ 100000) : ∀ (n i : Nat), i < n → i ≤ 200000 → bv (x.drop i) = bv (y.drop i) →
    refCmp_L1 n x y ((i : Int) - 1) = some (cmpv (bv x) (bv y))
  | 0, i, h, _, _ => by omega
  | n + 1, i, h, hi, hd => by
    show refCmp_B1 (refCmp_L1 n) x y ((i : Int) - 1) = _
    unfold refCmp_B1
    cases i with
    | zero =>
      rw [show decide (0 ≤ ((0 : Nat) : Int) - 1) = false by simp, cond_false]
      simp only [List.drop_zero] at hd
      rw [hd, cmpv_eq]
    | succ i =>
      rw [show ((i + 1 : Nat) : Int) - 1 = ((i : Nat) : Int) by omega, show decide (0 ≤ ((i : Nat) : Int)) = true by simp, cond_true]
      have bit : ∀ {l : List Int}, Bits l → l[i]?.getD 0 = 0 ∨ l[i]?.getD 0 = 1 := fun {l} hl => by
        cases h : l[i]? with
        | none => exact .inl rfl
        | some z => exact hl.at h
      have hp := bit hx
      have hq := bit hy
      have key : refCmp_J4 (refCmp_L1 n) x y (i : Nat) (x[i]?.getD 0) (y[i]?.getD 0) = some (cmpv (bv x) (bv y)) := by
        unfold refCmp_J4 refCmp_J2
        by_cases hne : x[i]?.getD 0 = y[i]?.getD 0
        · rw [hne, bne_self_eq_false, cond_false, wr_i64 (by omega) (by omega)]
          exact rcmpL x y hx hy hs n i (by omega) (by omega) (by rw [bv_drop x i, bv_drop y i, hne, hd])
        · rw [show (x[i]?.getD 0 != y[i]?.getD 0) = true by simp [hne], cond_true, wr_i64 (by omega) (by omega)]
          congr 1
          rcases (show x[i]?.getD 0 < y[i]?.getD 0 ∨ y[i]?.getD 0 < x[i]?.getD 0 by omega) with h1 | h1
          · rw [(cmpv_lt (bv_lt hx hy hd h1)).1]; omega
          · rw [(cmpv_lt (bv_lt hy hx hd.symm h1)).2]; omega
      have hJ3 : refCmp_J3 (refCmp_L1 n) x y (i : Nat) (x[i]?.getD 0) 0 = some (cmpv (bv x) (bv y)) := by
        unfold refCmp_J3
        by_cases hlt : i < y.length
        · have e1 : y[i]? = some y[i] := by simp [hlt]
          rw [e1] at key
          rw [lt_t hlt, cond_true, idx_nat, e1, Option.bind_some]; exact key
        · have e1 : y[i]? = none := by simp; omega
          rw [e1] at key
          rw [lt_f hlt, cond_false]; exact key
      by_cases hlt : i < x.length
      · have e1 : x[i]? = some x[i] := by simp [hlt]
        rw [e1] at hJ3
        rw [lt_t hlt, cond_true, idx_nat, e1, Option.bind_some]; exact hJ3
      · have e1 : x[i]? = none := by simp; omega
        rw [e1] at hJ3
        rw [lt_f hlt, cond_false]; exact hJ3
theorem rcmp_ok {a b : List Int} (la : Lim a) (lb : Lim b) (ha : a.length ≤ 1000) (hb : b.length ≤ 1000) : refCmp_m a b = some (cmpv (nv a) (nv b)) := by
  obtain ⟨x, h1, h2, h3, h4⟩ := bits_ok a la ha
  obtain ⟨y, k1, k2, k3, k4⟩ := bits_ok b lb hb
  unfold refCmp_m refCmp_J1
  rw [h1, k1, Option.bind_some, Option.bind_some]
  have key : ∀ m : Nat, x.length ≤ m → y.length ≤ m → m ≤ 100000 → refCmp_L1 FUEL x y (IntKind.i64.wrap ((m : Nat) - 1)) = some (cmpv (nv a) (nv b)) := by
    intro m q1 q2 q3
    rw [wr_i64 (by omega) (by omega), ← h4, ← k4]
    exact rcmpL x y h2 k2 ⟨by omega, by omega⟩ FUEL m (by rw [FUEL_big]; omega) (by omega) (by rw [List.drop_eq_nil_of_le q1, List.drop_eq_nil_of_le q2])
  by_cases h : x.length < y.length
  · rw [lt_t h, cond_true]; exact key _ (by omega) (Nat.le_refl _) (by omega)
  · rw [lt_f h, cond_false]; exact key _ (Nat.le_refl _) (by omega) (by omega)
theorem one_isN : IsN [1] 1 := ⟨fun x hx => by simp at hx; omega, fun x hx => by simp at hx; omega, rfl⟩
theorem gopt_true {α : Type} {d : α} {o : Option α} : gopt true d o = o := rfl
theorem gopt_false {α : Type} {d : α} {o : Option α} : gopt false d o = some d := rfl
theorem len_f {l : List Int} {n : Nat} (h : l.length ≤ n) : decide ((n : Int) < ((l.length : Nat) : Int)) = false := by simp <;> omega
theorem bs {α β : Type} (x : α) (f : α → Option β) : (some x).bind f = f x := (Option.bind_some x f).trans (Eq.refl _)
theorem gt_ {α : Type} {d : α} {o : Option α} : gopt true d o = o := (gopt_true (d := d) (o := o)).trans (Eq.refl _)
theorem Ans.small {o : Option (List Int × Int)} {v : Int} (h : Ans o v) (hv : v < 4294967296 ^ 64) : ∃ t, IsN t v ∧ Rt t = true ∧ o = some (t, 0) := by
  obtain ⟨t, h1, h2⟩ := h
  have := h1.len_le hv
  exact ⟨t, h1, rt_of h1 this, by rw [h2, if_pos this]⟩
theorem cmp_of {a b : List Int} {v u : Int} (ha : IsN a v) (hb : IsN b u) (ra : Rt a = true) (rb : Rt b = true) : natCmp_m a b = some (cmpv v u) := by
  rw [cmp_ok ha.lim hb.lim ra rb, ha.val, hb.val]
theorem add_of {a b : List Int} {v u : Int} (ha : IsN a v) (hb : IsN b u) (ra : Rt a = true) (rb : Rt b = true) : Ans (natAdd_m a b) (v + u) := by
  have := add_ok ha.lim hb.lim ra rb; rwa [ha.val, hb.val] at this
theorem mul_of {a b : List Int} {v u : Int} (ha : IsN a v) (hb : IsN b u) (ra : Rt a = true) (rb : Rt b = true) : Ans (natMul_m a b) (v * u) := by
  have := mul_ok ha.lim hb.lim ra rb; rwa [ha.val, hb.val] at this
theorem pow_of {a : List Int} {v : Int} (ha : IsN a v) (ra : Rt a = true) (k : Nat) (hk : k ≤ 1024) : Ans (natPow_m a (k : Nat)) (v ^ k) := by
  have := pow_ok ha.lim ra k hk; rwa [ha.val] at this
theorem same_self (a : List Int) (h : Rt a = true) : refSame_m a a = some true := by
  have := ((Rt_iff a).mp h).1
  rw [same_ok a a (by omega)]; simp
theorem self_of {a : List Int} (la : Lim a) (ra : Rt a = true) : IsN a (nv a) := ⟨la, ((Rt_iff a).mp ra).2, rfl⟩
theorem bigQ : ∃ Q R : Int, 1 ≤ Q ∧ Q ≤ Q * Q ∧ Q * Q * 4294967296 ≤ R ∧ (∀ a : List Int, Lim a → a.length ≤ 20 → 0 ≤ nv a ∧ nv a < Q) ∧ ∀ {o : Option (List Int × Int)} {v : Int}, Ans o v → v < R → ∃ t, IsN t v ∧ Rt t = true ∧ o = some (t, 0) := by
  refine ⟨4294967296 ^ 20, 4294967296 ^ 64, ?_, ?_, ?_, ?_, fun h hv => h.small hv⟩
  · have := pw_pos 20; omega
  · have := pw_pos 20
    have := Int.mul_le_mul_of_nonneg_left (show (1 : Int) ≤ 4294967296 ^ 20 by omega) (show (0 : Int) ≤ 4294967296 ^ 20 by omega)
    omega
  · rw [← Int.pow_add, ← Int.pow_succ]; exact pw_le (by omega)
  · intro a la ha
    have := nv_bound a la
    have := pw_le ha
    omega
theorem cmpv_cases (x y : Int) : (x < y ∧ cmpv x y = -1) ∨ (x = y ∧ cmpv x y = 0) ∨ (y < x ∧ cmpv x y = 1) := by unfold cmpv; split <;> (try split) <;> omega
theorem cmpv_neg (x y : Int) : cmpv x y = 0 - cmpv y x := by unfold cmpv; split <;> split <;> (try split) <;> omega
theorem cmpv_zero {x y : Int} : cmpv x y = 0 ↔ x = y := by unfold cmpv; split <;> (try split) <;> omega
theorem cmpv_abs (x y : Int) : -1 ≤ cmpv x y ∧ cmpv x y ≤ 1 := by unfold cmpv; split <;> (try split) <;> omega
theorem nv_eq {a b : List Int} (la : Lim a) (lb : Lim b) (ra : Rt a = true) (rb : Rt b = true) : (nv a = nv b) ↔ a = b :=
  ⟨fun h => (self_of la ra).uniq (by have := self_of lb rb; rwa [← h] at this), fun h => by rw [h]⟩
end Go.Proofs.Ytkkhgcllbbffaaa
