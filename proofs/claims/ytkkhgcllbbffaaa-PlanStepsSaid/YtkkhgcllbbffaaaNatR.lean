/- What nat's Pow and Cmp compute, and the reference's Same. -/
import Derived.Test.YtkkhgcllbbffaaaNatQ
set_option linter.unusedVariables false
set_option linter.unusedSimpArgs false
set_option maxRecDepth 20000
set_option maxHeartbeats 1000000
namespace Go.Proofs.Ytkkhgcllbbffaaa
open Go Go.AM Go.Pl

theorem exN : ∀ (n : Nat) (v : Int), 0 ≤ v → v.toNat ≤ n → ∃ t, IsN t v
  | 0, v, h, hn => ⟨[], by rw [show v = 0 by omega]; exact IsN.nil⟩
  | n + 1, v, h, hn => by
    by_cases h0 : v = 0
    · exact ⟨[], by rw [h0]; exact IsN.nil⟩
    · obtain ⟨t, ht⟩ := exN n (v / 4294967296) (by omega) (by omega)
      refine ⟨v % 4294967296 :: t, ⟨?_, ?_, ?_⟩⟩
      · intro x hx
        rcases List.mem_cons.mp hx with h1 | h1
        · subst h1; omega
        · exact ht.lim x h1
      · intro x hx
        cases t with
        | nil =>
          have := ht.val
          simp [nv] at this hx
          omega
        | cons y t => exact ht.trm x (by simpa using hx)
      · simp only [nv, ht.val]
        have := Int.emod_add_mul_ediv v 4294967296
        omega
theorem IsN.mono {s t : List Int} {v w : Int} (hs : IsN s v) (ht : IsN t w) (h : v ≤ w) : s.length ≤ t.length := hs.len_le (by have := ht.lt; omega)
theorem Ans.of {o : Option (List Int × Int)} {v : Int} (h : Ans o v) {t : List Int} (ht : IsN t v) : o = some (if t.length ≤ 64 then (t, 0) else ([], 6)) := by
  obtain ⟨s, hs, e⟩ := h
  rw [e, hs.uniq ht]
theorem rt_of {t : List Int} {v : Int} (h : IsN t v) (hl : t.length ≤ 64) : Rt t = true := (Rt_iff t).mpr ⟨hl, h.trm⟩
theorem powL (a : List Int) (la : Lim a) (ra : Rt a = true) (k : Nat) (hk : k ≤ 1024) : ∀ (n i : Nat) (p : List Int), k - i < n → i ≤ k → IsN p (nv a ^ i) → p.length ≤ 64 →
    Ans (natPow_L1 n a p (k : Nat) (i : Nat)) (nv a ^ k)
  | 0, i, p, h, _, _, _ => by omega
  | n + 1, i, p, h, hi, hp, hl => by
    show Ans (natPow_B1 (natPow_L1 n) a p (k : Nat) (i : Nat)) _
    unfold natPow_B1
    by_cases hlt : i < k
    · have e0 : decide (((i : Nat) : Int) < ((k : Nat) : Int)) = true := by simp <;> omega
      rw [e0, cond_true]
      obtain ⟨t, ht, e⟩ := mul_ok hp.lim la (rt_of hp hl) ra
      rw [hp.val, ← Int.pow_succ] at ht
      rw [e, Option.bind_some]
      by_cases h64 : t.length ≤ 64
      · simp only [h64, if_true]
        rw [show ((0 : Int) != 0) = false from rfl, cond_false, show IntKind.i64.wrap ((i : Int) + 1) = ((i + 1 : Nat) : Int) by rw [wr_i64 (by omega) (by omega)]; omega]
        exact powL a la ra k hk n (i + 1) t (by omega) (by omega) ht h64
      · simp only [h64, if_false]
        rw [show ((6 : Int) != 0) = true from rfl, cond_true]
        have hv := (nv_bound a la).1
        obtain ⟨s, hs⟩ := exN _ (nv a ^ k) (Int.pow_nonneg hv) (Nat.le_refl _)
        refine ⟨s, hs, ?_⟩
        have hpos : 0 < nv a := by
          rcases (show nv a = 0 ∨ 0 < nv a by omega) with h0 | h0
          · rw [h0, Int.pow_succ] at ht
            have := ht.uniq (by simpa using IsN.nil)
            rw [this] at h64; simp at h64
          · exact h0
        have hle : nv a ^ (i + 1) ≤ nv a ^ k := by
          obtain ⟨d, rfl⟩ := Nat.le.dest (show i + 1 ≤ k by omega)
          rw [Int.pow_add (nv a) (i + 1) d]
          have h1 : 0 < nv a ^ d := Int.pow_pos hpos
          have h2 : 0 < nv a ^ (i + 1) := Int.pow_pos hpos
          have := Int.mul_le_mul_of_nonneg_left (show 1 ≤ nv a ^ d by omega) (show 0 ≤ nv a ^ (i + 1) by omega)
          omega
        have := ht.mono hs hle
        rw [if_neg (by omega)]
    · have e0 : decide (((i : Nat) : Int) < ((k : Nat) : Int)) = false := by simp <;> omega
      rw [e0, cond_false]
      have : i = k := by omega
      subst this
      exact ⟨p, hp, by rw [if_pos hl]⟩
theorem pow_ok {a : List Int} (la : Lim a) (ra : Rt a = true) (k : Nat) (hk : k ≤ 1024) : Ans (natPow_m a (k : Nat)) (nv a ^ k) := by
  have ha := ((Rt_iff a).mp ra).1
  unfold natPow_m
  rw [right_ok a (by omega), ra, Option.bind_some]
  have e1 : decide (((k : Nat) : Int) < 0) = false := by simp <;> omega
  have e2 : decide (1024 < ((k : Nat) : Int)) = false := by simp <;> omega
  obtain ⟨t, h1, h2, h3, h4⟩ := of_ok 1 (by omega)
  rw [e1, e2, h1]
  simp only [Bool.not_true, Bool.or_self, cond_false, Option.bind_some]
  have := powL a la ra k hk FUEL 0 t (by rw [FUEL_big]; omega) (Nat.zero_le _) (by rw [Int.pow_zero]; exact h2) (by omega)
  simpa using this
theorem pow_no (a : List Int) (k : Int) (ha : a.length ≤ 1000000) (h : (Rt a && decide (0 ≤ k) && decide (k ≤ 1024)) = false) : natPow_m a k = some ([], 1) := by
  unfold natPow_m
  rw [right_ok a (by omega), Option.bind_some]
  have : (((!Rt a) || (decide (k < 0))) || (decide (1024 < k))) = true := by
    cases hr : Rt a with
    | false => simp
    | true =>
      rw [hr] at h
      simp at h ⊢
      omega
  rw [this, cond_true]

def cmpv (x y : Int) : Int := if x < y then -1 else if y < x then 1 else 0
theorem cmpI_ok (x y : Int) : cmpI_m x y = some (cmpv x y) := by
  unfold cmpI_m isNaNi_m cmpv
  simp only [bne_self_eq_false, Option.bind_some, cond_false]
  by_cases h1 : x < y
  · simp [h1]
  · by_cases h2 : y < x
    · simp [h1, h2]
    · simp [h1, h2]
theorem cmpU_ok (x y : Int) : cmpU_m x y = some (cmpv x y) := by
  unfold cmpU_m isNaNu_m cmpv
  simp only [bne_self_eq_false, Option.bind_some, cond_false]
  by_cases h1 : x < y
  · simp [h1]
  · by_cases h2 : y < x
    · simp [h1, h2]
    · simp [h1, h2]
theorem nv_split (l : List Int) (k : Nat) (h : k ≤ l.length) : nv l = nv (l.take k) + 4294967296 ^ k * nv (l.drop k) := by
  have := nv_append (l.take k) (l.drop k)
  rw [List.take_append_drop, List.length_take, Nat.min_eq_left h] at this
  exact this
theorem Lim.take {l : List Int} (h : Lim l) (k : Nat) : Lim (l.take k) := fun x hx => h x (List.mem_of_mem_take hx)
theorem nv_lt {a b : List Int} {i : Nat} {x y : Int} (la : Lim a) (lb : Lim b) (hx : a[i]? = some x) (hy : b[i]? = some y) (hd : nv (a.drop (i + 1)) = nv (b.drop (i + 1))) (h : x < y) : nv a < nv b := by
  have ha := (List.getElem?_eq_some_iff.mp hx).1
  have hb := (List.getElem?_eq_some_iff.mp hy).1
  have e1 := nv_split a (i + 1) (by omega)
  have e2 := nv_split b (i + 1) (by omega)
  rw [nv_take _ _ _ hx, hd] at e1
  rw [nv_take _ _ _ hy] at e2
  have b1 := (nv_bound _ (la.take i)).2
  have b2 := (nv_bound _ (lb.take i)).1
  rw [List.length_take, Nat.min_eq_left (by omega)] at b1
  have h1 : (4294967296 : Int) ^ i * (x + 1) ≤ 4294967296 ^ i * y := Int.mul_le_mul_of_nonneg_left (by omega) (by have := pw_pos i; omega)
  rw [Int.mul_add] at h1
  omega
theorem cmpv_lt {x y : Int} (h : x < y) : cmpv x y = -1 ∧ cmpv y x = 1 := by unfold cmpv; simp [h, show ¬ y < x by omega]
theorem cmpv_eq (x : Int) : cmpv x x = 0 := by unfold cmpv; simp
theorem cmpv_sign {x y p q : Int} (h : (x < y ↔ p < q) ∧ (y < x ↔ q < p)) : cmpv x y = cmpv p q := by unfold cmpv; simp [h.1, h.2]
theorem cmpL (a b : List Int) (la : Lim a) (lb : Lim b) (hl : a.length = b.length) (hs : a.length ≤ 64) : ∀ (n i : Nat), i < n → i ≤ a.length → nv (a.drop i) = nv (b.drop i) →
    natCmp_L1 n a b ((i : Int) - 1) = some (cmpv (nv a) (nv b))
  | 0, i, h, _, _ => by omega
  | n + 1, i, h, hi, hd => by
    show natCmp_B1 (natCmp_L1 n) a b ((i : Int) - 1) = _
    unfold natCmp_B1
    cases i with
    | zero =>
      rw [show decide (0 ≤ ((0 : Nat) : Int) - 1) = false by simp, cond_false]
      simp only [List.drop_zero] at hd
      rw [hd, cmpv_eq]
    | succ i =>
      have e1 : a[i]? = some a[i] := by simp [show i < a.length by omega]
      have e2 : b[i]? = some b[i] := by simp [show i < b.length by omega]
      rw [show ((i + 1 : Nat) : Int) - 1 = ((i : Nat) : Int) by omega, show decide (0 ≤ ((i : Nat) : Int)) = true by simp, cond_true]
      simp only [idx_nat, e1, e2, Option.bind_some]
      by_cases hne : a[i] = b[i]
      · rw [hne, bne_self_eq_false, cond_false, wr_i64 (by omega) (by omega)]
        refine cmpL a b la lb hl hs n i (by omega) (by omega) ?_
        rw [List.drop_eq_getElem_cons (show i < a.length by omega), List.drop_eq_getElem_cons (show i < b.length by omega)]
        simp only [nv, hne, hd]
      · rw [show (a[i] != b[i]) = true by simp [hne], cond_true, cmpU_ok, Option.bind_some]
        congr 1
        rcases (show a[i] < b[i] ∨ b[i] < a[i] by omega) with h1 | h1
        · rw [(cmpv_lt h1).1, (cmpv_lt (nv_lt la lb e1 e2 hd h1)).1]
        · rw [(cmpv_lt h1).2, (cmpv_lt (nv_lt lb la e2 e1 hd.symm h1)).2]
theorem cmp_ok {a b : List Int} (la : Lim a) (lb : Lim b) (ra : Rt a = true) (rb : Rt b = true) : natCmp_m a b = some (cmpv (nv a) (nv b)) := by
  obtain ⟨ha, ta⟩ := (Rt_iff a).mp ra
  obtain ⟨hb, tb⟩ := (Rt_iff b).mp rb
  unfold natCmp_m
  rw [right_ok a (by omega), right_ok b (by omega), ra, rb]
  simp only [Option.bind_some, Bool.not_true, BEq.rfl, gopt, cond_true, Bool.or_self, cond_false]
  have key : ∀ {a b : List Int}, Lim a → Lim b → Trm b → a.length < b.length → nv a < nv b := by
    intro a b la lb tb hlt
    have h1 := (nv_bound a la).2
    have h2 := nv_ge lb tb (fun e => by rw [e] at hlt; simp at hlt)
    have h3 := pw_le (show a.length ≤ b.length - 1 by omega)
    omega
  by_cases h : a.length = b.length
  · rw [show ((a.length : Int) != (b.length : Int)) = false by simp [h], cond_false, wr_i64 (by omega) (by omega)]
    refine cmpL a b la lb h ha FUEL a.length (by rw [FUEL_big]; omega) (Nat.le_refl _) ?_
    rw [List.drop_length, h, List.drop_length]
  · rw [show ((a.length : Int) != (b.length : Int)) = true by simp <;> omega, cond_true, cmpI_ok, Option.bind_some]
    congr 1
    rcases (show a.length < b.length ∨ b.length < a.length by omega) with h1 | h1
    · rw [(cmpv_lt (key la lb tb h1)).1, (cmpv_lt (show (a.length : Int) < b.length by omega)).1]
    · rw [(cmpv_lt (key lb la ta h1)).2, (cmpv_lt (show (b.length : Int) < a.length by omega)).2]

theorem sameL (a b : List Int) (hl : a.length = b.length) (hs : a.length ≤ 1000000) : ∀ (n i : Nat), a.length - i < n → i ≤ a.length → a.take i = b.take i → refSame_L1 n a b (i : Nat) = some (decide (a = b))
  | 0, i, h, _, _ => by omega
  | n + 1, i, h, hi, ht => by
    show refSame_B1 (refSame_L1 n) a b (i : Nat) = _
    unfold refSame_B1
    by_cases hlt : i < a.length
    · have e1 : a[i]? = some a[i] := by simp [hlt]
      have e2 : b[i]? = some b[i] := by simp [show i < b.length by omega]
      rw [show decide (((i : Nat) : Int) < ((a.length : Nat) : Int)) = true by simp <;> omega, cond_true, idx_nat, e1, Option.bind_some, idx_nat, e2, Option.bind_some]
      by_cases hne : a[i] = b[i]
      · rw [hne, bne_self_eq_false, cond_false, show IntKind.i64.wrap ((i : Int) + 1) = ((i + 1 : Nat) : Int) by rw [wr_i64 (by omega) (by omega)]; omega]
        exact sameL a b hl hs n (i + 1) (by omega) (by omega) (by rw [List.take_add_one, List.take_add_one, e1, e2, ht, hne])
      · rw [show (a[i] != b[i]) = true by simp [hne], cond_true]
        have : a ≠ b := fun e => hne (by subst e; rfl)
        rw [decide_eq_false this]
    · rw [show decide (((i : Nat) : Int) < ((a.length : Nat) : Int)) = false by simp <;> omega, cond_false]
      have : a = b := by rw [List.take_of_length_le (by omega), List.take_of_length_le (by omega)] at ht; exact ht
      rw [decide_eq_true this]
theorem same_ok (a b : List Int) (hs : a.length ≤ 1000000) : refSame_m a b = some (decide (a = b)) := by
  unfold refSame_m
  by_cases h : a.length = b.length
  · rw [show ((a.length : Int) != (b.length : Int)) = false by simp [h], cond_false]
    have := sameL a b h hs FUEL 0 (by rw [FUEL_big]; omega) (Nat.zero_le _) rfl
    simpa using this
  · rw [show ((a.length : Int) != (b.length : Int)) = true by simp <;> omega, cond_true]
    have : a ≠ b := fun e => h (by rw [e])
    rw [decide_eq_false this]
end Go.Proofs.Ytkkhgcllbbffaaa
