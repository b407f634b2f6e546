/- The laws LexParts and LexHex. -/
import Derived.Test.YtoenhcdjahpdhaaLexU
set_option linter.unusedVariables false
set_option linter.unusedSimpArgs false
set_option maxRecDepth 20000
set_option maxHeartbeats 1000000
namespace Go.Proofs.Ytoenhcdjahpdhaa
open Go Go.AM Go.Pl

theorem LS_ten (ls : List (List ByteArray)) (l : List ByteArray) (w pc : List UInt8) (rem : Bool) (n : Int) (t : List (Int × List UInt8)) : LS ((10, pc) :: t) ls l w rem n = LS t (ls ++ [fl l w]) [] [] false (n + 1) := by
  conv => lhs; unfold LS
  rw [show isL 10 = false from rfl, Bool.and_false, if_neg (by simp), if_pos rfl]
theorem LS_app (tB : List (Int × List UInt8)) (pc : List UInt8) : ∀ (t : List (Int × List UInt8)) (ls : List (List ByteArray)) (l : List ByteArray) (w : List UInt8) (rem : Bool) (n : Int),
    LS (t ++ (10, pc) :: tB) ls l w rem n = if (LS t ls l w rem n).2.2 = 2 then LS t ls l w rem n else LS tB (LS t ls l w rem n).1 [] [] false (n + t.length + 1)
  | [], ls, l, w, rem, n => by
    rw [List.nil_append, LS_ten, if_neg (by simp [LS])]
    simp [LS]
  | (r, p) :: t, ls, l, w, rem, n => by
    rw [List.cons_append]
    have ih := fun ls l w rem => LS_app tB pc t ls l w rem (n + 1)
    have en : n + 1 + (t.length : Int) + 1 = n + (((r, p) :: t).length : Nat) + 1 := by rw [List.length_cons]; omega
    rw [en] at ih
    conv => lhs; unfold LS
    rw [show LS ((r, p) :: t) ls l w rem n = (if (!rem && isL r) = true then LS t ls l (w ++ p) rem (n + 1)
      else if r = 10 then LS t (ls ++ [fl l w]) [] [] false (n + 1)
      else if rem = true ∨ r = 32 ∨ r = 9 then LS t ls (fl l w) [] rem (n + 1)
      else if r = 35 then LS t ls (fl l w) [] true (n + 1)
      else ([], n, 2)) by conv => lhs; unfold LS]
    by_cases h1 : (!rem && isL r) = true
    · simp only [if_pos h1]; exact ih ..
    · simp only [if_neg h1]
      by_cases h2 : r = 10
      · simp only [if_pos h2]; exact ih ..
      · simp only [if_neg h2]
        by_cases h3 : rem = true ∨ r = 32 ∨ r = 9
        · simp only [if_pos h3]; exact ih ..
        · simp only [if_neg h3]
          by_cases h4 : r = 35
          · simp only [if_pos h4]; exact ih ..
          · simp only [if_neg h4, if_true]
theorem LS_shift (R : List (List ByteArray)) (N : Int) : ∀ (t : List (Int × List UInt8)) (ls : List (List ByteArray)) (l : List ByteArray) (w : List UInt8) (rem : Bool) (n : Int),
    LS t (R ++ ls) l w rem (N + n) = if (LS t ls l w rem n).2.2 = 2 then ([], N + (LS t ls l w rem n).2.1, 2) else (R ++ (LS t ls l w rem n).1, 0, 0)
  | [], ls, l, w, rem, n => by
    rw [if_neg (by simp [LS])]
    simp [LS]
  | (r, p) :: t, ls, l, w, rem, n => by
    have ih := fun ls l w rem => LS_shift R N t ls l w rem (n + 1)
    conv => lhs; unfold LS
    rw [show LS ((r, p) :: t) ls l w rem n = (if (!rem && isL r) = true then LS t ls l (w ++ p) rem (n + 1)
      else if r = 10 then LS t (ls ++ [fl l w]) [] [] false (n + 1)
      else if rem = true ∨ r = 32 ∨ r = 9 then LS t ls (fl l w) [] rem (n + 1)
      else if r = 35 then LS t ls (fl l w) [] true (n + 1)
      else ([], n, 2)) by conv => lhs; unfold LS]
    rw [Int.add_assoc, List.append_assoc]
    by_cases h1 : (!rem && isL r) = true
    · simp only [if_pos h1]; exact ih ..
    · simp only [if_neg h1]
      by_cases h2 : r = 10
      · simp only [if_pos h2]; exact ih ..
      · simp only [if_neg h2]
        by_cases h3 : rem = true ∨ r = 32 ∨ r = 9
        · simp only [if_pos h3]; exact ih ..
        · simp only [if_neg h3]
          by_cases h4 : r = 35
          · simp only [if_pos h4]; exact ih ..
          · simp only [if_neg h4, if_true]
theorem partsL (s : ByteArray) (hs : s.size ≤ 1000) (m k g : Int) (hm : 0 ≤ m ∧ m ≤ 1000000) : ∀ (f p : Nat) (n : Int), s.size - p < f → 0 ≤ n ∧ n ≤ p + 1 → p ≤ 1010 → LexParts_L1 f m k g n s p = some ((g == 2) && (k == n + (tk ((D s).drop p)).length + m))
  | 0, p, n, h, _, _ => by omega
  | f + 1, p, n, h, hn, hp => by
    show LexParts_B1 (LexParts_L1 f) m k g n s p = _
    unfold LexParts_B1
    by_cases c : p < s.size
    · have h1 := decode_one s p c
      have h4 : (Utf8.decode s p).2 ≤ 4 := by
        unfold Utf8.decode; simp only; split <;> (try split) <;> (try split) <;> (try split) <;> (try split) <;> (try split) <;> (try split) <;> simp
      obtain ⟨hw, ht⟩ := tk_at c
      rw [decide_eq_true c, cond_true, ht, wr_i64 (n := n + 1) (by omega) (by omega), partsL s hs m k g hm f _ (n + 1) (by omega) (by omega) (by omega), List.length_cons]
      congr 4
      omega
    · rw [decide_eq_false c, cond_false, tk_end c, lawake_ok]
      rw [wr_i64 (n := n + m) (by omega) (by omega), List.length_nil]
      simp only [Int.natCast_zero, Int.add_zero]
      cases ((g == 2) && (k == n + m)) <;> rfl
theorem LS_pos : ∀ (t : List (Int × List UInt8)) (ls : List (List ByteArray)) (l : List ByteArray) (w : List UInt8) (rem : Bool) (n : Int), 0 ≤ n → 0 ≤ (LS t ls l w rem n).2.1 ∧ (LS t ls l w rem n).2.1 ≤ n + t.length
  | [], ls, l, w, rem, n, h => by simp [LS]; exact h
  | (r, p) :: t, ls, l, w, rem, n, h => by
    have ih := fun ls l w rem => LS_pos t ls l w rem (n + 1) (by omega)
    have en : n + 1 + (t.length : Int) = n + (((r, p) :: t).length : Nat) := by rw [List.length_cons]; omega
    rw [en] at ih
    unfold LS
    split
    · exact ih ..
    · split
      · exact ih ..
      · split
        · exact ih ..
        · split
          · exact ih ..
          · rw [List.length_cons]; simp only; omega
theorem LexParts_t (a b : ByteArray) : LexParts_m a b = some true := by
  unfold LexParts_m
  by_cases h1 : (decide (200 < (a.size : Int)) || decide (200 < (b.size : Int))) = true
  · rw [h1, lawake_ok]; rfl
  · have h1' : (decide (200 < (a.size : Int)) || decide (200 < (b.size : Int))) = false := by simpa using h1
    have h2 := h1'
    simp only [Bool.or_eq_false_iff, decide_eq_false_iff_not] at h2
    have e1 : (⟨#[10]⟩ : ByteArray).size = 1 := rfl
    have e2 : (a ++ ⟨#[10]⟩).size = a.size + 1 := by rw [ByteArray.size_append, e1]
    have e3 : ((a ++ ⟨#[10]⟩) ++ b).size = a.size + 1 + b.size := by rw [ByteArray.size_append, e2]
    rw [h1', cond_false, lines_ok a (by omega), lines_ok b (by omega), sadd_ok (by omega)]
    simp only [bs]
    rw [sadd_ok (by omega)]
    simp only [bs]
    rw [lines_ok _ (by omega), D_app, D_app, List.append_assoc,
      show D ⟨#[10]⟩ ++ D b = 10 :: D b from rfl, tk_app _ _ _ (Nat.le_refl _), LS_app, lawake_ok]
    have ga := lines_good a (N := 500) (by omega)
    have gb := lines_good b (N := 500) (by omega)
    have hp := LS_pos (tk (D b)) [] [] [] false 0 (by omega)
    have ta := (tk_bound _ (D a) (Nat.le_refl _)).1
    have tb := (tk_bound _ (D b) (Nat.le_refl _)).1
    rw [D_len] at ta tb
    have sh := fun R => LS_shift R (0 + ((tk (D a)).length : Int) + 1) (tk (D b)) [] [] [] false 0
    simp only [List.append_nil, Int.add_zero] at sh
    simp only at ga gb
    generalize LS (tk (D a)) [] [] [] false 0 = ra at *
    rcases ga with ⟨ga1, ga2⟩ | ⟨ga1, ga2⟩
    · obtain ⟨la, na, ea⟩ := ra
      simp only [Prod.mk.injEq] at ga1
      obtain ⟨rfl, rfl⟩ := ga1
      rw [if_neg (by simp)]
      simp only at ga2 ⊢
      rw [sh]
      generalize LS (tk (D b)) [] [] [] false 0 = rb at *
      obtain ⟨lb, nb_, eb⟩ := rb
      rcases gb with ⟨gb1, gb2⟩ | ⟨gb1, gb2⟩
      · simp only [Prod.mk.injEq] at gb1
        obtain ⟨rfl, rfl⟩ := gb1
        simp only at gb2
        have w := words_self (la ++ lb) (by have := ga2.1; have := gb2.1; rw [List.length_append]; omega) (fun l hl => by
          rcases List.mem_append.mp hl with hl | hl
          · have := (ga2.2 l hl).1; omega
          · have := (gb2.2 l hl).1; omega)
        have l1 := ga2.1
        have l2 := gb2.1
        rw [if_neg (by simp)]
        simp only [bs, bne_self_eq_false, cond_false, BEq.rfl, cond_true, app_ok [] la (by simp; omega), List.nil_append, app_ok la lb (by omega), w, gt_, Bool.and_self]
      · simp only at gb1 gb2 hp
        subst gb1 gb2
        rw [if_pos rfl]
        simp only [bs, bne_self_eq_false, cond_false, show ((2 : Int) != 0) = true from rfl, cond_true]
        have := partsL a (by omega) nb_ (0 + ((tk (D a)).length : Int) + 1 + nb_) 2 (by omega) FUEL 0 1 (by rw [FUEL_big]; omega) (by omega) (by omega)
        rw [List.drop_zero] at this
        rw [this, BEq.rfl, Bool.true_and]
        congr 1
        rw [beq_iff_eq]; omega
    · obtain ⟨la, na, ea⟩ := ra
      simp only at ga1 ga2
      subst ga1 ga2
      rw [if_pos rfl]
      simp only [bs, show ((2 : Int) != 0) = true from rfl, cond_true, BEq.rfl, Bool.and_self, gt_]
theorem LexParts_w (a b : ByteArray) (_ : a.size ≤ maxLen) (_ : b.size ≤ maxLen) : LexParts_m a b = some true := LexParts_t a b
end Go.Proofs.Ytoenhcdjahpdhaa
