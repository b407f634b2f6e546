/- The law LexTells. -/
import Derived.Test.YtoenhcdjahpdhaaLexQ
set_option linter.unusedVariables false
set_option linter.unusedSimpArgs false
set_option maxRecDepth 20000
set_option maxHeartbeats 1000000
namespace Go.Proofs.Ytoenhcdjahpdhaa
open Go Go.AM Go.Pl

theorem dgs_bys (l : List Nat) : dgs (l.map (fun n : Nat => (n : Int))) = l.all dig := by
  induction l with
  | nil => rfl
  | cons a l ih =>
    rw [List.map_cons, dgs_cons, ih, List.all_cons]
    congr 1
    unfold dig
    congr 1 <;> apply decide_eq_decide.mpr <;> omega
/-- The runes' values. -/
def rv (w : ByteArray) (p : Nat) : List Int := ((runesOf w p).map (·.2)).map (fun n : Nat => (n : Int))
theorem rv_yes {w : ByteArray} {p : Nat} (h : p < w.size) : rv w p = (((Utf8.decode w p).1 : Nat) : Int) :: rv w (p + (Utf8.decode w p).2) := by
  unfold rv; rw [runesOf_yes h]; rfl
theorem rv_no {w : ByteArray} {p : Nat} (h : ¬ p < w.size) : rv w p = [] := by unfold rv; rw [runesOf_no h]; rfl
theorem dgs_rv (w : ByteArray) : dgs (rv w 0) = dgs (ib w) ∧ (dgs (ib w) = true → rv w 0 = ib w) := by
  obtain ⟨h1, h2⟩ := digs_runes w w.size 0 (by omega)
  have e : dgs (rv w 0) = (runesOf w 0).all (fun p => dig p.2) := by
    unfold rv; rw [dgs_bys, List.all_map]; rfl
  refine ⟨by rw [e, h1]; unfold ib; rw [dgs_bys], fun h => ?_⟩
  unfold rv ib
  unfold ib at h
  rw [dgs_bys] at h
  rw [h2 h]
theorem numL2 (w : ByteArray) : ∀ (f p : Nat) (n : Int), w.size - p < f → 0 ≤ n ∧ n ≤ 18446744073709551615 → dgs (rv w p) = true → lexNumber_L2 f n w p = some (nbF (rv w p) n)
  | 0, p, n, h, _, _ => by omega
  | f + 1, p, n, h, hn, hd_ => by
    show lexNumber_B2 (lexNumber_L2 f) n w p = _
    unfold lexNumber_B2
    by_cases c : p < w.size
    · have h1 := decode_one w p c
      rw [rv_yes c] at hd_ ⊢
      generalize hr : (Utf8.decode w p).1 = r at *
      rw [dgs_cons, Bool.and_eq_true, Bool.and_eq_true, decide_eq_true_eq, decide_eq_true_eq] at hd_
      obtain ⟨⟨a1, a2⟩, hd2⟩ := hd_
      obtain ⟨s1, s2⟩ := step_e (d := (r : Int) - 48) (n := n) (by omega) hn
      rw [decide_eq_true c, cond_true, wr_i32 (n := (r : Int) - 48) (by omega) (by omega), wr_u64 (n := (r : Int) - 48) (by omega) (by omega), s1]
      unfold nbF
      by_cases g : (18446744073709551615 - ((r : Int) - 48)) / 10 < n
      · rw [decide_eq_true g, cond_true, if_pos g]
      · obtain ⟨t1, t2⟩ := s2 g
        rw [decide_eq_false g, cond_false, if_neg g, t1]
        exact numL2 w f _ _ (by omega) t2 hd2
    · rw [decide_eq_false c, cond_false, rv_no c]; rfl
theorem numL1 (w : ByteArray) : ∀ (f p : Nat), w.size - p < f → dgs (ib w) = dgs (rv w p) → w.size < 1000000 → lexNumber_L1 f w w p = some (if dgs (ib w) = false then (0, 2) else nbF (ib w) 0)
  | 0, p, h, _, _ => by omega
  | f + 1, p, h, hd_, hw => by
    show lexNumber_B1 (lexNumber_L1 f) w w p = _
    unfold lexNumber_B1
    by_cases c : p < w.size
    · have h1 := decode_one w p c
      rw [rv_yes c, dgs_cons] at hd_
      generalize hr : (Utf8.decode w p).1 = r at *
      rw [decide_eq_true c, cond_true]
      by_cases g : (r : Int) < 48 ∨ 57 < (r : Int)
      · have e1 : (decide ((r : Int) < 48) || decide (57 < (r : Int))) = true := by rw [Bool.or_eq_true, decide_eq_true_eq, decide_eq_true_eq]; exact g
        have e2 : (decide (48 ≤ (r : Int)) && decide ((r : Int) ≤ 57)) = false := by rw [Bool.and_eq_false_iff, decide_eq_false_iff_not, decide_eq_false_iff_not]; omega
        rw [e1, cond_true, hd_, e2]; rfl
      · have e1 : (decide ((r : Int) < 48) || decide (57 < (r : Int))) = false := by rw [Bool.or_eq_false_iff, decide_eq_false_iff_not, decide_eq_false_iff_not]; omega
        have e2 : (decide (48 ≤ (r : Int)) && decide ((r : Int) ≤ 57)) = true := by rw [Bool.and_eq_true, decide_eq_true_eq, decide_eq_true_eq]; omega
        rw [e2, Bool.true_and] at hd_
        rw [e1, cond_false]
        exact numL1 w f _ (by omega) hd_ hw
    · rw [decide_eq_false c, cond_false]
      rw [rv_no c] at hd_
      have e : dgs (ib w) = true := hd_
      obtain ⟨k1, k2⟩ := dgs_rv w
      rw [e, if_neg (by simp), ← k2 e]
      exact numL2 w FUEL 0 0 (by rw [FUEL_big]; omega) (by omega) (by rw [k1]; exact e)
theorem num_ok (w : ByteArray) (hw : w.size < 1000000) : lexNumber_m w = some (nb (ib w)) := by
  unfold lexNumber_m
  have hl := ib_len w
  by_cases h : w = ⟨#[]⟩
  · subst h; rfl
  · have hne : ib w ≠ [] := fun h' => h ((empty_iff w).mpr h')
    have hpos : 0 < (ib w).length := List.length_pos_iff.mpr hne
    obtain ⟨a, h1, m1, e1⟩ := drop1 (l := ib w) (i := 0) hpos
    have hs : sidx w 0 = some a := by rw [← h1]; exact sidx_ib w 0
    rw [decide_eq_false h, BEq.rfl, gt_, hs, bs, Bool.false_or, nb_first hne, h1]
    have ew : decide (w = ⟨#[48]⟩) = decide (ib w = [48]) := by
      apply decide_eq_decide.mpr
      exact ⟨fun h => by rw [h]; rfl, fun h => ib_inj (by rw [h]; rfl)⟩
    rw [ew]
    by_cases g : a = 48 ∧ ib w ≠ [48]
    · have : ((a == 48) && !decide (ib w = [48])) = true := by rw [g.1, decide_eq_false g.2]; rfl
      rw [this, cond_true, if_pos ⟨by rw [g.1], g.2⟩]
    · have : ((a == 48) && !decide (ib w = [48])) = false := by
        rw [Bool.and_eq_false_iff]
        by_cases h48 : a = 48
        · exact .inr (by rw [decide_eq_true (Classical.byContradiction fun x => g ⟨h48, x⟩)]; rfl)
        · exact .inl (by simpa using h48)
      rw [this, cond_false, if_neg (fun hh => g ⟨Option.some.inj hh.1, hh.2⟩)]
      exact numL1 w FUEL 0 (by rw [FUEL_big]; omega) (dgs_rv w).1.symm hw
/-- The error's number of a word: 0, 2 or 6, and the number 0 where it is one. -/
theorem nbF_err : ∀ (l : List Int) (n : Int), ((nbF l n).2 = 0) ∨ ((nbF l n).2 = 6 ∧ (nbF l n).1 = 0)
  | [], n => .inl rfl
  | c :: l, n => by
    unfold nbF
    split
    · exact .inr ⟨rfl, rfl⟩
    · exact nbF_err l _
theorem nb_err (l : List Int) : ((nb l).2 = 0) ∨ ((nb l).1 = 0 ∧ ((nb l).2 = 6 ∨ (nb l).2 = 2)) := by
  unfold nb
  split
  · exact .inr ⟨rfl, .inr rfl⟩
  · rcases nbF_err l 0 with h | ⟨h1, h2⟩
    · exact .inl h
    · exact .inr ⟨h2, .inl h1⟩
def vl (w : ByteArray) : GA := if (nb (ib w)).2 = 0 then .i 31 .u64 (nb (ib w)).1 else .s 9 w
theorem value_ok' (w : ByteArray) (hw : w.size < 1000000) : lexValue_m w = some (vl w) := by
  unfold lexValue_m vl
  rw [num_ok w hw]
  simp only [bs]
  by_cases h : (nb (ib w)).2 = 0
  · rw [if_pos h, h]; rfl
  · rw [if_neg h, show ((nb (ib w)).2 == 0) = false from beq_eq_false_iff_ne.mpr h, cond_false]
theorem isnum_ok (w : ByteArray) : lexIsNumber_m (vl w) = some ((nb (ib w)).1, decide ((nb (ib w)).2 = 0)) := by
  unfold lexIsNumber_m vl
  rcases nb_err (ib w) with h | ⟨h1, h2⟩
  · rw [if_pos h, decide_eq_true h]; rfl
  · rw [if_neg (by omega), decide_eq_false (by omega), h1]; rfl
theorem str_ok (w : ByteArray) : gaStr 9 (vl w) = some (if (nb (ib w)).2 = 0 then (⟨#[]⟩, false) else (w, true)) := by
  unfold vl
  by_cases h : (nb (ib w)).2 = 0
  · rw [if_pos h, if_pos h]; rfl
  · rw [if_neg h, if_neg h]; rfl
theorem LexTells_t (w s : ByteArray) : LexTells_m w s = some true := by
  unfold LexTells_m
  by_cases h1 : (decide (300 < (w.size : Int)) || decide (300 < (s.size : Int))) = true
  · rw [h1, lawake_ok]; rfl
  · have h1' : (decide (300 < (w.size : Int)) || decide (300 < (s.size : Int))) = false := by simpa using h1
    have h2 := h1'
    simp only [Bool.or_eq_false_iff, decide_eq_false_iff_not] at h2
    rw [h1', cond_false, num_ok w (by omega), rnum_ok w (by omega), value_ok' w (by omega), unhex_ok w (by omega), runhex_ok w (by omega), hex_ok s (by omega), rhex_ok s (by omega)]
    have e0 : ∀ x : Int × Int, (x.1, x.2) = x := fun _ => rfl
    simp only [bs, isnum_ok, str_ok]
    have key : ∀ (c : Bool), (nb (ib w)).2 = 0 ∨ ¬ (nb (ib w)).2 = 0 := fun _ => Classical.em _
    cases hu : unL (ib w) with
    | none =>
      by_cases h : (nb (ib w)).2 = 0
      · simp only [h, bs, if_true, decide_true, BEq.rfl, bne_self_eq_false, Bool.not_true, Bool.or_self, Bool.false_and, cond_false, show (false == true) = false from rfl, show ((2 : Int) == 0) = false from rfl, Bool.false_or, Bool.and_self, gt_, lawake_ok]
      · simp only [h, bs, if_false, decide_false, BEq.rfl, bne_self_eq_false, Bool.not_true, Bool.or_self, Bool.false_and, cond_false, show (true == false) = false from rfl, show ((2 : Int) == 0) = false from rfl, beq_eq_false_iff_ne.mpr h, decide_true, Bool.true_and, Bool.false_or, Bool.and_self, gt_, lawake_ok]
    | some l =>
      by_cases h : (nb (ib w)).2 = 0
      · simp only [h, bs, if_true, decide_true, BEq.rfl, bne_self_eq_false, Bool.not_true, Bool.or_self, Bool.false_and, cond_false, show (false == true) = false from rfl, Bool.true_or, Bool.and_self, gt_, lawake_ok]
      · simp only [h, bs, if_false, decide_false, BEq.rfl, bne_self_eq_false, Bool.not_true, Bool.or_self, Bool.false_and, cond_false, show (true == false) = false from rfl, beq_eq_false_iff_ne.mpr h, decide_true, Bool.true_and, Bool.true_or, Bool.and_self, gt_, lawake_ok]
theorem LexTells_w (w s : ByteArray) (_ : w.size ≤ maxLen) (_ : s.size ≤ maxLen) : LexTells_m w s = some true := LexTells_t w s
end Go.Proofs.Ytoenhcdjahpdhaa
