/- The laws LexOnly and LexTells. -/
import Derived.Test.YtoenhcdjahpdhaaLexP
import Derived.Test.YtoenhcdjahpdhaaAmE
set_option linter.unusedVariables false
set_option linter.unusedSimpArgs false
set_option maxRecDepth 20000
set_option maxHeartbeats 1000000
namespace Go.Proofs.Ytoenhcdjahpdhaa
open Go Go.AM Go.Pl

theorem runhexL (w : ByteArray) (hw : w.size ≤ 100000) : ∀ (f i : Nat) (o : List Int), w.size - i < f → i ≤ w.size → i % 2 = 0 → o.length = i / 2 →
    refUnhex_L1 f w (bstr o) i = some (match unL ((ib w).drop i) with | some l => (bstr (o ++ l), true) | none => (⟨#[]⟩, false))
  | 0, i, o, h, _, _, _ => by omega
  | f + 1, i, o, h, hi, hp, ho => by
    show refUnhex_B1 (refUnhex_L1 f) w (bstr o) i = _
    unfold refUnhex_B1
    rw [inc i (by omega)]
    by_cases c : i + 1 < w.size
    · obtain ⟨a, b, h1, h2, m1, m2, hd_⟩ := drop2 (l := ib w) (i := i) (by rw [ib_len]; omega)
      rw [lt_t c, cond_true, sidx_ib, h1, bs, value_ok (ib_bb w a m1), bs, sidx_ib, h2, bs, value_ok (ib_bb w b m2), bs, hd_]
      unfold unL
      have u1 := uh_lt a
      have u2 := uh_lt b
      by_cases g : 0 ≤ uh a ∧ 0 ≤ uh b
      · rw [if_neg (show ¬ uh a < 0 by omega), if_neg (show ¬ uh b < 0 by omega), decide_eq_false (show ¬ 15 < uh a by omega), decide_eq_false (show ¬ 15 < uh b by omega), Bool.or_self, cond_false, if_pos g,
          wr_u8 (n := 16 * uh a) (by omega) (by omega), wr_u8 (by omega) (by omega), sadd_ok (by rw [bstr_size, bstr_size, List.length_singleton]; omega), bs, ← bstr_app, Int.mul_comm 16]
        rw [show IntKind.i64.wrap ((i : Int) + 2) = ((i + 2 : Nat) : Int) by rw [wr_i64 (by omega) (by omega)]; omega]
        rw [runhexL w hw f (i + 2) _ (by omega) (by omega) (by omega) (by simp; omega)]
        cases unL ((ib w).drop (i + 2)) with
        | none => rfl
        | some l => simp
      · rw [if_neg g]
        have : (decide (15 < if uh a < 0 then 16 else uh a) || decide (15 < if uh b < 0 then 16 else uh b)) = true := by
          rw [Bool.or_eq_true, decide_eq_true_eq, decide_eq_true_eq]
          split <;> split <;> omega
        rw [this, cond_true]
    · rw [lt_f c, cond_false]
      by_cases h2 : w.size % 2 = 1
      · have e1 : (Int.tmod (w.size : Int) 2 == 1) = true := by
          rw [Int.tmod_eq_emod_of_nonneg (by omega)]; simp; omega
        rw [e1, cond_true, unL_odd (by rw [List.length_drop, ib_len]; omega)]
      · have e1 : (Int.tmod (w.size : Int) 2 == 1) = false := by
          rw [Int.tmod_eq_emod_of_nonneg (by omega)]; simp; omega
        rw [e1, cond_false, List.drop_eq_nil_of_le (by rw [ib_len]; omega)]
        simp [unL]
theorem runhex_ok (w : ByteArray) (hw : w.size ≤ 100000) : refUnhex_m w = some (match unL (ib w) with | some l => (bstr l, true) | none => (⟨#[]⟩, false)) := by
  have := runhexL w hw FUEL 0 [] (by rw [FUEL_big]; omega) (by omega) rfl rfl
  rw [List.drop_zero] at this
  exact this
theorem unL_len {l x : List Int} (h : unL l = some x) : 2 * x.length = l.length := by
  have := (unL_back h).1
  rw [← this, hx_len]
theorem hex_inj {s t : ByteArray} (h : bstr ((ib s).flatMap hx) = bstr ((ib t).flatMap hx)) : s = t := by
  have := congrArg ib h
  rw [ib_bstr (hx_bb (ib_bb s)), ib_bstr (hx_bb (ib_bb t))] at this
  have h2 := congrArg unL this
  rw [unL_hx (ib_bb s), unL_hx (ib_bb t)] at h2
  exact ib_inj (Option.some.inj h2)
theorem gt300 {s : ByteArray} (h : ¬ 300 < s.size) : decide ((300 : Int) < (s.size : Int)) = false := by simp <;> omega
theorem LexOnly_t (w s t : ByteArray) : LexOnly_m w s t = some true := by
  unfold LexOnly_m
  by_cases h1 : ((decide (300 < (w.size : Int)) || decide (300 < (s.size : Int))) || decide (300 < (t.size : Int))) = true
  · rw [h1, lawake_ok]; rfl
  · have h1' : ((decide (300 < (w.size : Int)) || decide (300 < (s.size : Int))) || decide (300 < (t.size : Int))) = false := by simpa using h1
    simp only [Bool.or_eq_false_iff, decide_eq_false_iff_not] at h1'
    obtain ⟨⟨w3, s3⟩, t3⟩ := h1'
    have h1'' : ((decide (300 < (w.size : Int)) || decide (300 < (s.size : Int))) || decide (300 < (t.size : Int))) = false := by simpa using h1
    rw [h1'', cond_false, unhex_ok w (by omega)]
    have e1 : decide (bstr ((ib s).flatMap hx) = bstr ((ib t).flatMap hx)) = decide (s = t) := by
      apply decide_eq_decide.mpr
      exact ⟨hex_inj, fun h => by rw [h]⟩
    have hst : (s ++ t).size ≤ 1000 := by rw [ByteArray.size_append]; omega
    have hcat : bstr ((ib (s ++ t)).flatMap hx) = bstr ((ib s).flatMap hx) ++ bstr ((ib t).flatMap hx) := by rw [ib_app, List.flatMap_append, bstr_app]
    have fin : ∀ (x : ByteArray) (e : Int), (((e == 0) && (!decide (x = w))) || ((e != 0) && ((e != 2) || (!decide ((if e = 0 then bstr [] else ⟨#[]⟩ : ByteArray) = ⟨#[]⟩))))) = false → True := fun _ _ _ => trivial
    cases hu : unL (ib w) with
    | none =>
      simp only [bs, show ((2 : Int) == 0) = false from rfl, show (false == true) = false from rfl, gf_, Bool.false_and, bne_self_eq_false, show ((2 : Int) != 0) = true from rfl, Bool.true_and, decide_true, Bool.not_true, Bool.or_self, cond_false,
        hex_ok s (by omega), hex_ok t (by omega), e1, BEq.rfl, gt_, sadd_ok (show s.size + t.size ≤ 9223372036854775807 by omega), hex_ok (s ++ t) hst, hcat, sadd_ok (show (bstr ((ib s).flatMap hx)).size + (bstr ((ib t).flatMap hx)).size ≤ 9223372036854775807 by rw [bstr_size, bstr_size, hx_len, hx_len, ib_len, ib_len]; omega), lawake_ok, Bool.and_self]
    | some l =>
      obtain ⟨b1, b2⟩ := unL_back hu
      have hl := unL_len hu
      rw [ib_len] at hl
      have e2 : lexHex_m (bstr l) = some w := by rw [hex_ok _ (by rw [bstr_size]; omega), ib_bstr b2, b1, bstr_ib]
      simp only [bs, BEq.rfl, gt_, e2, bne_self_eq_false, Bool.false_and, Bool.true_and, decide_true, Bool.not_true, Bool.or_self, cond_false,
        hex_ok s (by omega), hex_ok t (by omega), e1, sadd_ok (show s.size + t.size ≤ 9223372036854775807 by omega), hex_ok (s ++ t) hst, hcat, sadd_ok (show (bstr ((ib s).flatMap hx)).size + (bstr ((ib t).flatMap hx)).size ≤ 9223372036854775807 by rw [bstr_size, bstr_size, hx_len, hx_len, ib_len, ib_len]; omega), lawake_ok, Bool.and_self]

def nbF : List Int → Int → Int × Int
  | [], n => (n, 0)
  | c :: l, n => if (18446744073709551615 - (c - 48)) / 10 < n then (0, 6) else nbF l (n * 10 + (c - 48))
def dgs (l : List Int) : Bool := l.all fun c => decide (48 ≤ c) && decide (c ≤ 57)
/-- The number of a word's bytes. -/
def nb (l : List Int) : Int × Int := if l = [] ∨ (l[0]? = some 48 ∧ l ≠ [48]) ∨ dgs l = false then (0, 2) else nbF l 0
theorem dgs_cons (a : Int) (l : List Int) : dgs (a :: l) = ((decide (48 ≤ a) && decide (a ≤ 57)) && dgs l) := rfl
theorem step_e {d n : Int} (hd : 0 ≤ d ∧ d ≤ 9) (hn : 0 ≤ n ∧ n ≤ 18446744073709551615) : IntKind.u64.wrap (Int.tdiv (IntKind.u64.wrap (18446744073709551615 - d)) 10) = (18446744073709551615 - d) / 10 ∧
    (¬ (18446744073709551615 - d) / 10 < n → IntKind.u64.wrap (IntKind.u64.wrap (n * 10) + d) = n * 10 + d ∧ 0 ≤ n * 10 + d ∧ n * 10 + d ≤ 18446744073709551615) := by
  constructor
  · rw [wr_u64 (n := 18446744073709551615 - d) (by omega) (by omega), Int.tdiv_eq_ediv_of_nonneg (by omega), wr_u64 (by omega) (by omega)]
  · intro h
    rw [wr_u64 (n := n * 10) (by omega) (by omega), wr_u64 (by omega) (by omega)]; omega
theorem drop1 {l : List Int} {i : Nat} (h : i < l.length) : ∃ a, l[i]? = some a ∧ a ∈ l ∧ l.drop i = a :: l.drop (i + 1) := ⟨l[i], List.getElem?_eq_getElem h, List.getElem_mem .., List.drop_eq_getElem_cons h⟩
theorem rnumL2 (w : ByteArray) (hw : w.size ≤ 100000) : ∀ (f i : Nat) (n : Int), w.size - i < f → i ≤ w.size → 0 ≤ n ∧ n ≤ 18446744073709551615 → dgs ((ib w).drop i) = true → refNumber_L2 f w n i = some (nbF ((ib w).drop i) n)
  | 0, i, n, h, _, _, _ => by omega
  | f + 1, i, n, h, hi, hn, hd_ => by
    show refNumber_B2 (refNumber_L2 f) w n i = _
    unfold refNumber_B2
    by_cases c : i < w.size
    · obtain ⟨a, h1, m1, e⟩ := drop1 (l := ib w) (i := i) (by rw [ib_len]; exact c)
      rw [e, dgs_cons, Bool.and_eq_true, Bool.and_eq_true, decide_eq_true_eq, decide_eq_true_eq] at hd_
      obtain ⟨⟨a1, a2⟩, hd2⟩ := hd_
      obtain ⟨s1, s2⟩ := step_e (d := a - 48) (n := n) (by omega) hn
      rw [lt_t c, cond_true, sidx_ib, h1, bs, wr_u8 (n := a - 48) (by omega) (by omega), wr_u64 (n := a - 48) (by omega) (by omega), s1, e]
      unfold nbF
      by_cases g : (18446744073709551615 - (a - 48)) / 10 < n
      · rw [decide_eq_true g, cond_true, if_pos g]
      · obtain ⟨t1, t2⟩ := s2 g
        rw [decide_eq_false g, cond_false, if_neg g, Int.mul_comm 10, t1, inc i (by omega)]
        exact rnumL2 w hw f (i + 1) _ (by omega) (by omega) t2 hd2
    · rw [lt_f c, cond_false, List.drop_eq_nil_of_le (by rw [ib_len]; omega)]; rfl
theorem rnumL1 (w : ByteArray) (hw : w.size ≤ 100000) : ∀ (f i : Nat), w.size - i < f → i ≤ w.size → dgs (ib w) = dgs ((ib w).drop i) → refNumber_L1 f w i = some (if dgs (ib w) = false then (0, 2) else nbF (ib w) 0)
  | 0, i, h, _, _ => by omega
  | f + 1, i, h, hi, hd_ => by
    show refNumber_B1 (refNumber_L1 f) w i = _
    unfold refNumber_B1
    by_cases c : i < w.size
    · obtain ⟨a, h1, m1, e⟩ := drop1 (l := ib w) (i := i) (by rw [ib_len]; exact c)
      rw [e, dgs_cons] at hd_
      rw [lt_t c, cond_true, sidx_ib, h1]
      simp only [bs]
      by_cases g : a < 48
      · rw [decide_eq_true g, show (true == false) = false from rfl, gf_, bs, Bool.true_or, cond_true]
        rw [decide_eq_false (show ¬ 48 ≤ a by omega)] at hd_
        rw [hd_]; rfl
      · rw [decide_eq_false g, BEq.rfl, gt_, bs, Bool.false_or]
        rw [decide_eq_true (show 48 ≤ a by omega)] at hd_
        by_cases g2 : 57 < a
        · rw [decide_eq_true g2, cond_true]
          rw [decide_eq_false (show ¬ a ≤ 57 by omega)] at hd_
          rw [hd_]; rfl
        · rw [decide_eq_false g2, cond_false, inc i (by omega)]
          rw [decide_eq_true (show a ≤ 57 by omega)] at hd_
          exact rnumL1 w hw f (i + 1) (by omega) (by omega) hd_
    · rw [lt_f c, cond_false]
      have e : dgs (ib w) = true := by rw [hd_, List.drop_eq_nil_of_le (by rw [ib_len]; omega)]; rfl
      rw [e, if_neg (by simp)]
      have := rnumL2 w hw FUEL 0 0 (by rw [FUEL_big]; omega) (by omega) (by omega) (by rw [List.drop_zero]; exact e)
      rw [List.drop_zero] at this
      exact this
theorem nb_first {l : List Int} (h : l ≠ []) : nb l = if (l[0]? = some 48 ∧ l ≠ [48]) then (0, 2) else if dgs l = false then (0, 2) else nbF l 0 := by
  unfold nb
  by_cases c : l[0]? = some 48 ∧ l ≠ [48]
  · rw [if_pos (.inr (.inl c)), if_pos c]
  · rw [if_neg c]
    by_cases d : dgs l = false
    · rw [if_pos (.inr (.inr d)), if_pos d]
    · rw [if_neg (by rintro (x | x | x) <;> contradiction), if_neg d]
theorem rnum_ok (w : ByteArray) (hw : w.size ≤ 100000) : refNumber_m w = some (nb (ib w)) := by
  unfold refNumber_m
  have hl := ib_len w
  by_cases h : w.size = 0
  · have e0 : ib w = [] := List.eq_nil_of_length_eq_zero (by omega)
    have e : ((w.size : Int) == 0) = true := by simp [h]
    rw [e, show (true == false) = false from rfl, gf_, bs, Bool.true_or, cond_true, e0]; rfl
  · have e : ((w.size : Int) == 0) = false := beq_eq_false_iff_ne.mpr (by omega)
    obtain ⟨a, h1, m1, e1⟩ := drop1 (l := ib w) (i := 0) (by omega)
    have hne : ib w ≠ [] := fun h => by rw [h] at m1; simp at m1
    have hs : sidx w 0 = some a := by rw [← h1]; exact sidx_ib w 0
    rw [e, BEq.rfl, gt_, hs, bs, Bool.false_or, nb_first hne, h1]
    by_cases g : a = 48 ∧ 1 < w.size
    · have : ((a == 48) && decide (1 < (w.size : Int))) = true := by simp; omega
      rw [this, cond_true, if_pos ⟨by rw [g.1], fun h => by rw [h] at hl; simp at hl; omega⟩]
    · have : ((a == 48) && decide (1 < (w.size : Int))) = false := by
        rw [Bool.and_eq_false_iff]
        by_cases h48 : a = 48
        · exact .inr (by simp; omega)
        · exact .inl (by simpa using h48)
      rw [this, cond_false, if_neg (fun hh => g ⟨Option.some.inj hh.1, by
        rcases Nat.lt_or_ge 1 w.size with x | x
        · exact x
        · exfalso; apply hh.2
          have : (ib w).drop 1 = [] := List.drop_eq_nil_of_le (by omega)
          rw [List.drop_zero, this] at e1
          rw [e1, Option.some.inj hh.1]⟩)]
      exact rnumL1 w hw FUEL 0 (by rw [FUEL_big]; omega) (by omega) (by rw [List.drop_zero])
theorem LexOnly_w (w s t : ByteArray) (_ : w.size ≤ maxLen) (_ : s.size ≤ maxLen) (_ : t.size ≤ maxLen) : LexOnly_m w s t = some true := LexOnly_t w s t
end Go.Proofs.Ytoenhcdjahpdhaa
