/- The reference's Number: what it computes. -/
import Derived.Test.YtoenhcdjahpdhaaLexD
set_option linter.unusedSimpArgs false
set_option linter.unusedVariables false
namespace Go.Proofs.Ytoenhcdjahpdhaa
open Go Go.AM Go.Pl
set_option maxRecDepth 20000
set_option maxHeartbeats 4000000

def numB : List Nat → Nat → Nat × Nat
  | [], n => (n, 0)
  | r :: l, n => if n > (18446744073709551615 - (r - 48)) / 10 then (0, 6) else numB l (n * 10 + (r - 48))
theorem numFold_numB : ∀ (l : List (Nat × Nat)) n, numFold l n = numB (l.map (·.2)) n
  | [], _ => rfl
  | (_, r) :: l, n => by
    simp only [numFold, List.map_cons, numB]
    split
    · rfl
    · exact numFold_numB l _
theorem number_bys (w : ByteArray) : number w = if numHead w = true then (0, 2) else if (bys w 0).all dig = false then (0, 2) else numB (bys w 0) 0 := by
  obtain ⟨h1, h2⟩ := digs_runes w _ 0 rfl
  unfold number
  rw [h1]
  split
  · rfl
  · split
    · rfl
    · rename_i h3
      rw [numFold_numB, h2 (by simpa using h3)]
theorem numHead_eq (w : ByteArray) : numHead w = ((w.size : Int) == 0 || ((byteAt w 0 : Nat) : Int) == 48 && decide (1 < (w.size : Int))) := by
  by_cases h0 : w = ⟨#[]⟩
  · subst h0; rfl
  · have hs : 0 < w.size := by
      rcases Nat.eq_zero_or_pos w.size with h | h
      · exact absurd (ByteArray.ext (Array.eq_empty_of_size_eq_zero h)) h0
      · exact h
    have e1 : ((w.size : Int) == 0) = false := by rw [beq_eq_false_iff_ne]; omega
    simp only [numHead, decide_eq_false h0, e1, Bool.false_or]
    by_cases h1 : byteAt w 0 = 48
    · have h2 : decide (w = ⟨#[48]⟩) = decide (w.size = 1) := by
        apply decide_eq_decide.mpr
        constructor
        · intro h; subst h; rfl
        · intro h
          have hb := byteAt_eq w 0 hs
          rw [h1] at hb
          apply ByteArray.ext
          apply Array.ext
          · exact h
          · intro i hi hj
            have hi0 : i = 0 := by simp at hj; omega
            subst hi0
            apply UInt8.toNat_inj.mp
            exact hb.symm
      rw [h2, h1]
      by_cases h3 : w.size = 1
      · simp [h3]
      · have : (1 : Int) < w.size := by omega
        simp [h3, this]
    · have : (((byteAt w 0 : Nat) : Int) == 48) = false := by simp; omega
      simp [this]
theorem refNumber_c (w : ByteArray) (hw : w.size ≤ 1000000) : PureC Try.prog 17 [.v (.string w)] (.tup [.v (.int .u64 (number w).1), .v (.int .i64 (number w).2)]) := by
  refine PureC.of_body Try.func17 rfl ?_
  simp only [Try.ntmps17, List.length_cons, List.length_nil, Nat.reduceAdd, Nat.reduceSub, empty_eq]
  repeat' (first
    | refine AWp.seq' ?_
    | refine AWp.reg 64 (by simp only [Nat.reduceAdd]; rfl) ?_
    | refine AWp.regD 64 mix (by kernel_rfl) (by simp only [Nat.reduceAdd]; rfl) ?_
    | refine ARun.fin ?_
    | refine normSeq ?_
    | refine normIn ?_
    | (refine ARun.pure (by decide) (by simp only [aval_fset, Nat.reduceBEq, cond_true, cond_false, aval_const, aval_func, constAV, aval_argf, List.getD_cons_zero, List.getD_cons_succ, apick_and, apick_or, gd_true, gd_false, put_mk, upd_beq, apure_move, apure_assign, apure_pick, apure_binOp, apure_convert, apure_index, abin_add, abin_eql, abin_gtr, abin_lss, abin_mul, abin_quo, abin_sub, abin_eql_s, abin_gtr_s, abin_lss_s, abin_eql_b, ne_eq, Int.reduceEq, not_false_eq_true, Int.reduceLE, apure_builtin, abuiltin_len_sl, abuiltin_len_own, abuiltin_len_str, abuiltin_len_nil, Try.underlying3, Try.underlying5, Try.underlying9, Try.underlying31, sz3, sz5, sz9, sz31]; first | rfl | exact aindex_str Try.underlying9 (by omega) (by first | omega | exact size_pos hb | exact size_pos2 hb | (simp only [ByteArray.size, List.size_toArray, List.length_cons, List.length_nil]; omega)) | exact aconv_int Try.underlying5 Try.underlying31) ?_)
    | (refine ARun.pureG ?_ rfl (by simp only [aval_fset, Nat.reduceBEq, cond_true, cond_false, aval_const, aval_func, constAV, aval_argf, List.getD_cons_zero, List.getD_cons_succ, apick_and, apick_or, gd_true, gd_false, put_mk, upd_beq, apure_move, apure_assign, apure_pick, apure_binOp, apure_convert, apure_index, abin_add, abin_eql, abin_gtr, abin_lss, abin_mul, abin_quo, abin_sub, abin_eql_s, abin_gtr_s, abin_lss_s, abin_eql_b, ne_eq, Int.reduceEq, not_false_eq_true, Int.reduceLE, apure_builtin, abuiltin_len_sl, abuiltin_len_own, abuiltin_len_str, abuiltin_len_nil, Try.underlying3, Try.underlying5, Try.underlying9, Try.underlying31, sz3, sz5, sz9, sz31, gval_v, gval_gd]; rfl) (by intro hb; simp only [aval_fset, Nat.reduceBEq, cond_true, cond_false, aval_const, aval_func, constAV, aval_argf, List.getD_cons_zero, List.getD_cons_succ, apick_and, apick_or, gd_true, gd_false, put_mk, upd_beq, apure_move, apure_assign, apure_pick, apure_binOp, apure_convert, apure_index, abin_add, abin_eql, abin_gtr, abin_lss, abin_mul, abin_quo, abin_sub, abin_eql_s, abin_gtr_s, abin_lss_s, abin_eql_b, ne_eq, Int.reduceEq, not_false_eq_true, Int.reduceLE, apure_builtin, abuiltin_len_sl, abuiltin_len_own, abuiltin_len_str, abuiltin_len_nil, Try.underlying3, Try.underlying5, Try.underlying9, Try.underlying31, sz3, sz5, sz9, sz31, hb, Bool.true_and, eq_self]; first | rfl | exact aindex_str Try.underlying9 (by omega) (by first | omega | exact size_pos hb | exact size_pos2 hb | (simp only [ByteArray.size, List.size_toArray, List.length_cons, List.length_nil]; omega)) | exact aconv_int Try.underlying5 Try.underlying31) ?_; decide)
    | (refine AWp.cond _ (by simp only [aval_fset, Nat.reduceBEq, cond_true, cond_false, aval_const, aval_func, constAV, aval_argf, List.getD_cons_zero, List.getD_cons_succ, apick_and, apick_or, gd_true, gd_false, put_mk, upd_beq, apure_move, apure_assign, apure_pick, apure_binOp, apure_convert, apure_index, abin_add, abin_eql, abin_gtr, abin_lss, abin_mul, abin_quo, abin_sub, abin_eql_s, abin_gtr_s, abin_lss_s, abin_eql_b, ne_eq, Int.reduceEq, not_false_eq_true, Int.reduceLE, apure_builtin, abuiltin_len_sl, abuiltin_len_own, abuiltin_len_str, abuiltin_len_nil, Try.underlying3, Try.underlying5, Try.underlying9, Try.underlying31, sz3, sz5, sz9, sz31]; rfl) ?_ ?_ <;> intro hc <;> first | exact Bool.noConfusion hc | (simp only [decide_eq_true_eq, decide_eq_false_iff_not] at hc; try (exfalso; omega)) | skip <;> try (have hd := hc; simp only [Bool.and_eq_true, decide_eq_true_eq] at hd))
    | refine AWp.block ?_
    | refine AWp.skip ?_
    | refine AWp.label ?_
    | refine AWp.exit ?_
    | refine exitSeq ?_
    | refine exitHere ?_
    | refine exitOther (by decide) ?_
    | refine exitThen ?_
    | refine AWp.ret ?_
    | refine retSeq ?_
    | refine retIn ?_
    | refine retThen ?_
    | refine normThen ?_)
  · have hh : numHead w = true := by rw [numHead_eq]; exact hc
    have hn : number w = (0, 2) := by rw [number_bys, if_pos hh]
    rw [hn]
    exact ret2 (.inr rfl) Try.results17 (by simp only [aval_fset, Nat.reduceBEq, cond_true, cond_false, aval_const, aval_func, constAV, aval_argf, List.getD_cons_zero, List.getD_cons_succ, apick_and, apick_or, gd_true, gd_false, put_mk, upd_beq, apure_move, apure_assign, apure_pick, apure_binOp, apure_convert, apure_index, abin_add, abin_eql, abin_gtr, abin_lss, abin_mul, abin_quo, abin_sub, abin_eql_s, abin_gtr_s, abin_lss_s, abin_eql_b, ne_eq, Int.reduceEq, not_false_eq_true, Int.reduceLE, apure_builtin, abuiltin_len_sl, abuiltin_len_own, abuiltin_len_str, abuiltin_len_nil, Try.underlying3, Try.underlying5, Try.underlying9, Try.underlying31, sz3, sz5, sz9, sz31]; try rfl) (by simp only [aval_fset, Nat.reduceBEq, cond_true, cond_false, aval_const, aval_func, constAV, aval_argf, List.getD_cons_zero, List.getD_cons_succ, apick_and, apick_or, gd_true, gd_false, put_mk, upd_beq, apure_move, apure_assign, apure_pick, apure_binOp, apure_convert, apure_index, abin_add, abin_eql, abin_gtr, abin_lss, abin_mul, abin_quo, abin_sub, abin_eql_s, abin_gtr_s, abin_lss_s, abin_eql_b, ne_eq, Int.reduceEq, not_false_eq_true, Int.reduceLE, apure_builtin, abuiltin_len_sl, abuiltin_len_own, abuiltin_len_str, abuiltin_len_nil, Try.underlying3, Try.underlying5, Try.underlying9, Try.underlying31, sz3, sz5, sz9, sz31]; try rfl) (by simp) (by simp)
  have hh : numHead w = false := by rw [numHead_eq]; exact hc
  refine AWp.loopW (fun m s => ∃ (i : Nat), s = (⟨58, (fset (fset (fun _ => AV.any) 4 (.v (.int .i64 i))) 0 (.v (.string w))), ⟨nofresh, 64⟩⟩ : St) ∧ m = w.size - i ∧ (bys w 0).all dig = (bys w i).all dig) w.size ?_ ?_
  · refine ⟨_, ?_, 0, rfl, rfl, rfl⟩
    refine le_canon id ?hfv29_ ?hev29_
    case hfv29_ => repeat' (first | exact wk_none | refine wk_fset _ _ ?_ ?_ | exact wk_own (by simp only [aval_fset, Nat.reduceBEq, cond_true, cond_false, aval_const, aval_func, constAV, aval_argf, List.getD_cons_zero, List.getD_cons_succ, apick_and, apick_or, gd_true, gd_false, put_mk, upd_beq, apure_move, apure_assign, apure_pick, apure_binOp, apure_convert, apure_index, abin_add, abin_eql, abin_gtr, abin_lss, abin_mul, abin_quo, abin_sub, abin_eql_s, abin_gtr_s, abin_lss_s, abin_eql_b, ne_eq, Int.reduceEq, not_false_eq_true, Int.reduceLE, apure_builtin, abuiltin_len_sl, abuiltin_len_own, abuiltin_len_str, abuiltin_len_nil, Try.underlying3, Try.underlying5, Try.underlying9, Try.underlying31, sz3, sz5, sz9, sz31]; rfl) (by first | rfl | (simp; done) | (simp; omega)) rfl (by simp [upd]) | exact wk_adr (by simp only [aval_fset, Nat.reduceBEq, cond_true, cond_false, aval_const, aval_func, constAV, aval_argf, List.getD_cons_zero, List.getD_cons_succ, apick_and, apick_or, gd_true, gd_false, put_mk, upd_beq, apure_move, apure_assign, apure_pick, apure_binOp, apure_convert, apure_index, abin_add, abin_eql, abin_gtr, abin_lss, abin_mul, abin_quo, abin_sub, abin_eql_s, abin_gtr_s, abin_lss_s, abin_eql_b, ne_eq, Int.reduceEq, not_false_eq_true, Int.reduceLE, apure_builtin, abuiltin_len_sl, abuiltin_len_own, abuiltin_len_str, abuiltin_len_nil, Try.underlying3, Try.underlying5, Try.underlying9, Try.underlying31, sz3, sz5, sz9, sz31]; rfl) rfl (by simp [upd]) | exact wk_data (by simp only [aval_fset, Nat.reduceBEq, cond_true, cond_false, aval_const, aval_func, constAV, aval_argf, List.getD_cons_zero, List.getD_cons_succ, apick_and, apick_or, gd_true, gd_false, put_mk, upd_beq, apure_move, apure_assign, apure_pick, apure_binOp, apure_convert, apure_index, abin_add, abin_eql, abin_gtr, abin_lss, abin_mul, abin_quo, abin_sub, abin_eql_s, abin_gtr_s, abin_lss_s, abin_eql_b, ne_eq, Int.reduceEq, not_false_eq_true, Int.reduceLE, apure_builtin, abuiltin_len_sl, abuiltin_len_own, abuiltin_len_str, abuiltin_len_nil, Try.underlying3, Try.underlying5, Try.underlying9, Try.underlying31, sz3, sz5, sz9, sz31]; try rfl) (by simp))
    case hev29_ => exact heapWk0
  rintro m s ⟨i, rfl, rfl, h2⟩
  by_cases hlt : i < w.size
  · rw [bys_yes hlt, List.all_cons] at h2
    have e3 : IntKind.i64.wrap ((i : Int) + 1) = ((i + 1 : Nat) : Int) := by rw [wr_i64 (by omega) (by omega)]; omega
    repeat' (first
    | refine AWp.seq' ?_
    | refine AWp.reg 64 (by simp only [Nat.reduceAdd]; rfl) ?_
    | refine AWp.regD 64 mix (by kernel_rfl) (by simp only [Nat.reduceAdd]; rfl) ?_
    | refine ARun.fin ?_
    | refine normSeq ?_
    | refine normIn ?_
    | (refine ARun.pure (by decide) (by simp only [aval_fset, Nat.reduceBEq, cond_true, cond_false, aval_const, aval_func, constAV, aval_argf, List.getD_cons_zero, List.getD_cons_succ, apick_and, apick_or, gd_true, gd_false, put_mk, upd_beq, apure_move, apure_assign, apure_pick, apure_binOp, apure_convert, apure_index, abin_add, abin_eql, abin_gtr, abin_lss, abin_mul, abin_quo, abin_sub, abin_eql_s, abin_gtr_s, abin_lss_s, abin_eql_b, ne_eq, Int.reduceEq, not_false_eq_true, Int.reduceLE, apure_builtin, abuiltin_len_sl, abuiltin_len_own, abuiltin_len_str, abuiltin_len_nil, Try.underlying3, Try.underlying5, Try.underlying9, Try.underlying31, sz3, sz5, sz9, sz31, e3, Int.toNat_natCast]; first | rfl | exact aindex_str Try.underlying9 (by omega) (by first | omega | exact size_pos hb | exact size_pos2 hb | (simp only [ByteArray.size, List.size_toArray, List.length_cons, List.length_nil]; omega)) | exact aconv_int Try.underlying5 Try.underlying31) ?_)
    | (refine ARun.pureG ?_ rfl (by simp only [aval_fset, Nat.reduceBEq, cond_true, cond_false, aval_const, aval_func, constAV, aval_argf, List.getD_cons_zero, List.getD_cons_succ, apick_and, apick_or, gd_true, gd_false, put_mk, upd_beq, apure_move, apure_assign, apure_pick, apure_binOp, apure_convert, apure_index, abin_add, abin_eql, abin_gtr, abin_lss, abin_mul, abin_quo, abin_sub, abin_eql_s, abin_gtr_s, abin_lss_s, abin_eql_b, ne_eq, Int.reduceEq, not_false_eq_true, Int.reduceLE, apure_builtin, abuiltin_len_sl, abuiltin_len_own, abuiltin_len_str, abuiltin_len_nil, Try.underlying3, Try.underlying5, Try.underlying9, Try.underlying31, sz3, sz5, sz9, sz31, e3, Int.toNat_natCast, gval_v, gval_gd]; rfl) (by intro hb; simp only [aval_fset, Nat.reduceBEq, cond_true, cond_false, aval_const, aval_func, constAV, aval_argf, List.getD_cons_zero, List.getD_cons_succ, apick_and, apick_or, gd_true, gd_false, put_mk, upd_beq, apure_move, apure_assign, apure_pick, apure_binOp, apure_convert, apure_index, abin_add, abin_eql, abin_gtr, abin_lss, abin_mul, abin_quo, abin_sub, abin_eql_s, abin_gtr_s, abin_lss_s, abin_eql_b, ne_eq, Int.reduceEq, not_false_eq_true, Int.reduceLE, apure_builtin, abuiltin_len_sl, abuiltin_len_own, abuiltin_len_str, abuiltin_len_nil, Try.underlying3, Try.underlying5, Try.underlying9, Try.underlying31, sz3, sz5, sz9, sz31, e3, Int.toNat_natCast, hb, Bool.true_and, eq_self]; first | rfl | exact aindex_str Try.underlying9 (by omega) (by first | omega | exact size_pos hb | exact size_pos2 hb | (simp only [ByteArray.size, List.size_toArray, List.length_cons, List.length_nil]; omega)) | exact aconv_int Try.underlying5 Try.underlying31) ?_; decide)
    | (refine AWp.cond _ (by simp only [aval_fset, Nat.reduceBEq, cond_true, cond_false, aval_const, aval_func, constAV, aval_argf, List.getD_cons_zero, List.getD_cons_succ, apick_and, apick_or, gd_true, gd_false, put_mk, upd_beq, apure_move, apure_assign, apure_pick, apure_binOp, apure_convert, apure_index, abin_add, abin_eql, abin_gtr, abin_lss, abin_mul, abin_quo, abin_sub, abin_eql_s, abin_gtr_s, abin_lss_s, abin_eql_b, ne_eq, Int.reduceEq, not_false_eq_true, Int.reduceLE, apure_builtin, abuiltin_len_sl, abuiltin_len_own, abuiltin_len_str, abuiltin_len_nil, Try.underlying3, Try.underlying5, Try.underlying9, Try.underlying31, sz3, sz5, sz9, sz31, e3, Int.toNat_natCast]; rfl) ?_ ?_ <;> intro hc <;> first | exact Bool.noConfusion hc | (simp only [decide_eq_true_eq, decide_eq_false_iff_not] at hc; try (exfalso; omega)) | skip <;> try (have hd := hc; simp only [Bool.and_eq_true, decide_eq_true_eq] at hd))
    | refine AWp.block ?_
    | refine AWp.skip ?_
    | refine AWp.label ?_
    | refine AWp.exit ?_
    | refine exitSeq ?_
    | refine exitHere ?_
    | refine exitOther (by decide) ?_
    | refine exitThen ?_
    | refine AWp.ret ?_
    | refine retSeq ?_
    | refine retIn ?_
    | refine retThen ?_
    | refine normThen ?_)
    · have hd : dig (byteAt w i) = false := by
        simp only [Bool.or_eq_true, decide_eq_true_eq] at hc
        simp only [dig]; simp; omega
      rw [hd, Bool.false_and] at h2
      have hn : number w = (0, 2) := by rw [number_bys, hh, h2]; rfl
      rw [hn]
      exact ret2 (.inr rfl) Try.results17 (by simp only [aval_fset, Nat.reduceBEq, cond_true, cond_false, aval_const, aval_func, constAV, aval_argf, List.getD_cons_zero, List.getD_cons_succ, apick_and, apick_or, gd_true, gd_false, put_mk, upd_beq, apure_move, apure_assign, apure_pick, apure_binOp, apure_convert, apure_index, abin_add, abin_eql, abin_gtr, abin_lss, abin_mul, abin_quo, abin_sub, abin_eql_s, abin_gtr_s, abin_lss_s, abin_eql_b, ne_eq, Int.reduceEq, not_false_eq_true, Int.reduceLE, apure_builtin, abuiltin_len_sl, abuiltin_len_own, abuiltin_len_str, abuiltin_len_nil, Try.underlying3, Try.underlying5, Try.underlying9, Try.underlying31, sz3, sz5, sz9, sz31]; try rfl) (by simp only [aval_fset, Nat.reduceBEq, cond_true, cond_false, aval_const, aval_func, constAV, aval_argf, List.getD_cons_zero, List.getD_cons_succ, apick_and, apick_or, gd_true, gd_false, put_mk, upd_beq, apure_move, apure_assign, apure_pick, apure_binOp, apure_convert, apure_index, abin_add, abin_eql, abin_gtr, abin_lss, abin_mul, abin_quo, abin_sub, abin_eql_s, abin_gtr_s, abin_lss_s, abin_eql_b, ne_eq, Int.reduceEq, not_false_eq_true, Int.reduceLE, apure_builtin, abuiltin_len_sl, abuiltin_len_own, abuiltin_len_str, abuiltin_len_nil, Try.underlying3, Try.underlying5, Try.underlying9, Try.underlying31, sz3, sz5, sz9, sz31]; try rfl) (by simp) (by simp)
    · have hd : dig (byteAt w i) = true := by
        simp only [Bool.or_eq_false_iff, decide_eq_false_iff_not] at hc
        simp only [dig]; simp; omega
      rw [hd, Bool.true_and] at h2
      refine ⟨_, _, ?_, ?_, i + 1, rfl, rfl, h2⟩
      · omega
      · refine le_canon id ?hfv30_ ?hev30_
        case hfv30_ => repeat' (first | exact wk_none | refine wk_fset _ _ ?_ ?_ | exact wk_own (by simp only [aval_fset, Nat.reduceBEq, cond_true, cond_false, aval_const, aval_func, constAV, aval_argf, List.getD_cons_zero, List.getD_cons_succ, apick_and, apick_or, gd_true, gd_false, put_mk, upd_beq, apure_move, apure_assign, apure_pick, apure_binOp, apure_convert, apure_index, abin_add, abin_eql, abin_gtr, abin_lss, abin_mul, abin_quo, abin_sub, abin_eql_s, abin_gtr_s, abin_lss_s, abin_eql_b, ne_eq, Int.reduceEq, not_false_eq_true, Int.reduceLE, apure_builtin, abuiltin_len_sl, abuiltin_len_own, abuiltin_len_str, abuiltin_len_nil, Try.underlying3, Try.underlying5, Try.underlying9, Try.underlying31, sz3, sz5, sz9, sz31, e3]; rfl) (by first | rfl | (simp [e3]; done) | (simp [e3]; omega)) rfl (by simp [upd]) | exact wk_adr (by simp only [aval_fset, Nat.reduceBEq, cond_true, cond_false, aval_const, aval_func, constAV, aval_argf, List.getD_cons_zero, List.getD_cons_succ, apick_and, apick_or, gd_true, gd_false, put_mk, upd_beq, apure_move, apure_assign, apure_pick, apure_binOp, apure_convert, apure_index, abin_add, abin_eql, abin_gtr, abin_lss, abin_mul, abin_quo, abin_sub, abin_eql_s, abin_gtr_s, abin_lss_s, abin_eql_b, ne_eq, Int.reduceEq, not_false_eq_true, Int.reduceLE, apure_builtin, abuiltin_len_sl, abuiltin_len_own, abuiltin_len_str, abuiltin_len_nil, Try.underlying3, Try.underlying5, Try.underlying9, Try.underlying31, sz3, sz5, sz9, sz31, e3]; rfl) rfl (by simp [upd]) | exact wk_data (by simp only [aval_fset, Nat.reduceBEq, cond_true, cond_false, aval_const, aval_func, constAV, aval_argf, List.getD_cons_zero, List.getD_cons_succ, apick_and, apick_or, gd_true, gd_false, put_mk, upd_beq, apure_move, apure_assign, apure_pick, apure_binOp, apure_convert, apure_index, abin_add, abin_eql, abin_gtr, abin_lss, abin_mul, abin_quo, abin_sub, abin_eql_s, abin_gtr_s, abin_lss_s, abin_eql_b, ne_eq, Int.reduceEq, not_false_eq_true, Int.reduceLE, apure_builtin, abuiltin_len_sl, abuiltin_len_own, abuiltin_len_str, abuiltin_len_nil, Try.underlying3, Try.underlying5, Try.underlying9, Try.underlying31, sz3, sz5, sz9, sz31, e3]; try rfl) (by simp))
        case hev30_ => exact heapWk0
  · have hall : (bys w 0).all dig = true := by rw [h2, bys_no hlt]; rfl
    have hnum : number w = numB (bys w 0) 0 := by rw [number_bys, hh, hall]; rfl
    rw [hnum]
    repeat' (first
    | refine AWp.seq' ?_
    | refine AWp.reg 64 (by simp only [Nat.reduceAdd]; rfl) ?_
    | refine AWp.regD 64 mix (by kernel_rfl) (by simp only [Nat.reduceAdd]; rfl) ?_
    | refine ARun.fin ?_
    | refine normSeq ?_
    | refine normIn ?_
    | (refine ARun.pure (by decide) (by simp only [aval_fset, Nat.reduceBEq, cond_true, cond_false, aval_const, aval_func, constAV, aval_argf, List.getD_cons_zero, List.getD_cons_succ, apick_and, apick_or, gd_true, gd_false, put_mk, upd_beq, apure_move, apure_assign, apure_pick, apure_binOp, apure_convert, apure_index, abin_add, abin_eql, abin_gtr, abin_lss, abin_mul, abin_quo, abin_sub, abin_eql_s, abin_gtr_s, abin_lss_s, abin_eql_b, ne_eq, Int.reduceEq, not_false_eq_true, Int.reduceLE, apure_builtin, abuiltin_len_sl, abuiltin_len_own, abuiltin_len_str, abuiltin_len_nil, Try.underlying3, Try.underlying5, Try.underlying9, Try.underlying31, sz3, sz5, sz9, sz31, Int.toNat_natCast]; first | rfl | exact aindex_str Try.underlying9 (by omega) (by first | omega | exact size_pos hb | exact size_pos2 hb | (simp only [ByteArray.size, List.size_toArray, List.length_cons, List.length_nil]; omega)) | exact aconv_int Try.underlying5 Try.underlying31) ?_)
    | (refine ARun.pureG ?_ rfl (by simp only [aval_fset, Nat.reduceBEq, cond_true, cond_false, aval_const, aval_func, constAV, aval_argf, List.getD_cons_zero, List.getD_cons_succ, apick_and, apick_or, gd_true, gd_false, put_mk, upd_beq, apure_move, apure_assign, apure_pick, apure_binOp, apure_convert, apure_index, abin_add, abin_eql, abin_gtr, abin_lss, abin_mul, abin_quo, abin_sub, abin_eql_s, abin_gtr_s, abin_lss_s, abin_eql_b, ne_eq, Int.reduceEq, not_false_eq_true, Int.reduceLE, apure_builtin, abuiltin_len_sl, abuiltin_len_own, abuiltin_len_str, abuiltin_len_nil, Try.underlying3, Try.underlying5, Try.underlying9, Try.underlying31, sz3, sz5, sz9, sz31, Int.toNat_natCast, gval_v, gval_gd]; rfl) (by intro hb; simp only [aval_fset, Nat.reduceBEq, cond_true, cond_false, aval_const, aval_func, constAV, aval_argf, List.getD_cons_zero, List.getD_cons_succ, apick_and, apick_or, gd_true, gd_false, put_mk, upd_beq, apure_move, apure_assign, apure_pick, apure_binOp, apure_convert, apure_index, abin_add, abin_eql, abin_gtr, abin_lss, abin_mul, abin_quo, abin_sub, abin_eql_s, abin_gtr_s, abin_lss_s, abin_eql_b, ne_eq, Int.reduceEq, not_false_eq_true, Int.reduceLE, apure_builtin, abuiltin_len_sl, abuiltin_len_own, abuiltin_len_str, abuiltin_len_nil, Try.underlying3, Try.underlying5, Try.underlying9, Try.underlying31, sz3, sz5, sz9, sz31, Int.toNat_natCast, hb, Bool.true_and, eq_self]; first | rfl | exact aindex_str Try.underlying9 (by omega) (by first | omega | exact size_pos hb | exact size_pos2 hb | (simp only [ByteArray.size, List.size_toArray, List.length_cons, List.length_nil]; omega)) | exact aconv_int Try.underlying5 Try.underlying31) ?_; decide)
    | (refine AWp.cond _ (by simp only [aval_fset, Nat.reduceBEq, cond_true, cond_false, aval_const, aval_func, constAV, aval_argf, List.getD_cons_zero, List.getD_cons_succ, apick_and, apick_or, gd_true, gd_false, put_mk, upd_beq, apure_move, apure_assign, apure_pick, apure_binOp, apure_convert, apure_index, abin_add, abin_eql, abin_gtr, abin_lss, abin_mul, abin_quo, abin_sub, abin_eql_s, abin_gtr_s, abin_lss_s, abin_eql_b, ne_eq, Int.reduceEq, not_false_eq_true, Int.reduceLE, apure_builtin, abuiltin_len_sl, abuiltin_len_own, abuiltin_len_str, abuiltin_len_nil, Try.underlying3, Try.underlying5, Try.underlying9, Try.underlying31, sz3, sz5, sz9, sz31, Int.toNat_natCast]; rfl) ?_ ?_ <;> intro hc <;> first | exact Bool.noConfusion hc | (simp only [decide_eq_true_eq, decide_eq_false_iff_not] at hc; try (exfalso; omega)) | skip <;> try (have hd := hc; simp only [Bool.and_eq_true, decide_eq_true_eq] at hd))
    | refine AWp.block ?_
    | refine AWp.skip ?_
    | refine AWp.label ?_
    | refine AWp.exit ?_
    | refine exitSeq ?_
    | refine exitHere ?_
    | refine exitOther (by decide) ?_
    | refine exitThen ?_
    | refine AWp.ret ?_
    | refine retSeq ?_
    | refine retIn ?_
    | refine retThen ?_
    | refine normThen ?_)
    refine AWp.loopW (fun m s => ∃ (i n : Nat), s = (⟨58, (fset (fset (fset (fun _ => AV.any) 6 (.v (.int .i64 i))) 5 (.v (.int .u64 n))) 0 (.v (.string w))), ⟨nofresh, 64⟩⟩ : St) ∧ m = w.size - i ∧ numB (bys w 0) 0 = numB (bys w i) n ∧ (bys w i).all dig = true ∧ n ≤ 18446744073709551615) w.size ?_ ?_
    · refine ⟨_, ?_, 0, 0, rfl, rfl, rfl, hall, by omega⟩
      refine le_canon id ?hfv31_ ?hev31_
      case hfv31_ => repeat' (first | exact wk_none | refine wk_fset _ _ ?_ ?_ | exact wk_own (by simp only [aval_fset, Nat.reduceBEq, cond_true, cond_false, aval_const, aval_func, constAV, aval_argf, List.getD_cons_zero, List.getD_cons_succ, apick_and, apick_or, gd_true, gd_false, put_mk, upd_beq, apure_move, apure_assign, apure_pick, apure_binOp, apure_convert, apure_index, abin_add, abin_eql, abin_gtr, abin_lss, abin_mul, abin_quo, abin_sub, abin_eql_s, abin_gtr_s, abin_lss_s, abin_eql_b, ne_eq, Int.reduceEq, not_false_eq_true, Int.reduceLE, apure_builtin, abuiltin_len_sl, abuiltin_len_own, abuiltin_len_str, abuiltin_len_nil, Try.underlying3, Try.underlying5, Try.underlying9, Try.underlying31, sz3, sz5, sz9, sz31]; rfl) (by first | rfl | (simp; done) | (simp; omega)) rfl (by simp [upd]) | exact wk_adr (by simp only [aval_fset, Nat.reduceBEq, cond_true, cond_false, aval_const, aval_func, constAV, aval_argf, List.getD_cons_zero, List.getD_cons_succ, apick_and, apick_or, gd_true, gd_false, put_mk, upd_beq, apure_move, apure_assign, apure_pick, apure_binOp, apure_convert, apure_index, abin_add, abin_eql, abin_gtr, abin_lss, abin_mul, abin_quo, abin_sub, abin_eql_s, abin_gtr_s, abin_lss_s, abin_eql_b, ne_eq, Int.reduceEq, not_false_eq_true, Int.reduceLE, apure_builtin, abuiltin_len_sl, abuiltin_len_own, abuiltin_len_str, abuiltin_len_nil, Try.underlying3, Try.underlying5, Try.underlying9, Try.underlying31, sz3, sz5, sz9, sz31]; rfl) rfl (by simp [upd]) | exact wk_data (by simp only [aval_fset, Nat.reduceBEq, cond_true, cond_false, aval_const, aval_func, constAV, aval_argf, List.getD_cons_zero, List.getD_cons_succ, apick_and, apick_or, gd_true, gd_false, put_mk, upd_beq, apure_move, apure_assign, apure_pick, apure_binOp, apure_convert, apure_index, abin_add, abin_eql, abin_gtr, abin_lss, abin_mul, abin_quo, abin_sub, abin_eql_s, abin_gtr_s, abin_lss_s, abin_eql_b, ne_eq, Int.reduceEq, not_false_eq_true, Int.reduceLE, apure_builtin, abuiltin_len_sl, abuiltin_len_own, abuiltin_len_str, abuiltin_len_nil, Try.underlying3, Try.underlying5, Try.underlying9, Try.underlying31, sz3, sz5, sz9, sz31]; try rfl) (by simp))
      case hev31_ => exact heapWk0
    rintro m s ⟨i', n, rfl, rfl, g1, g2, g3⟩
    by_cases hlt' : i' < w.size
    · rw [bys_yes hlt', List.all_cons, Bool.and_eq_true] at g2
      rw [bys_yes hlt'] at g1
      obtain ⟨g2a, g2⟩ := g2
      simp [dig] at g2a
      have e3 : IntKind.i64.wrap ((i' : Int) + 1) = ((i' + 1 : Nat) : Int) := by rw [wr_i64 (by omega) (by omega)]; omega
      generalize hr : byteAt w i' = r at *
      have e1 : IntKind.u64.wrap (IntKind.u8.wrap ((r : Int) - 48)) = ((r - 48 : Nat) : Int) := by
        rw [wr_u8 (by omega) (by omega), wr_u64 (by omega) (by omega)]; omega
      have e2 : IntKind.u64.wrap ((IntKind.u64.wrap (18446744073709551615 - ((r - 48 : Nat) : Int))).tdiv 10) = (((18446744073709551615 - (r - 48)) / 10 : Nat) : Int) := by
        rw [wr_u64 (n := 18446744073709551615 - ((r - 48 : Nat) : Int)) (by omega) (by omega), Int.tdiv_eq_ediv_of_nonneg (by omega), wr_u64 (by omega) (by omega)]; omega
      repeat' (first
    | refine AWp.seq' ?_
    | refine AWp.reg 64 (by simp only [Nat.reduceAdd]; rfl) ?_
    | refine AWp.regD 64 mix (by kernel_rfl) (by simp only [Nat.reduceAdd]; rfl) ?_
    | refine ARun.fin ?_
    | refine normSeq ?_
    | refine normIn ?_
    | (refine ARun.pure (by decide) (by simp only [aval_fset, Nat.reduceBEq, cond_true, cond_false, aval_const, aval_func, constAV, aval_argf, List.getD_cons_zero, List.getD_cons_succ, apick_and, apick_or, gd_true, gd_false, put_mk, upd_beq, apure_move, apure_assign, apure_pick, apure_binOp, apure_convert, apure_index, abin_add, abin_eql, abin_gtr, abin_lss, abin_mul, abin_quo, abin_sub, abin_eql_s, abin_gtr_s, abin_lss_s, abin_eql_b, ne_eq, Int.reduceEq, not_false_eq_true, Int.reduceLE, apure_builtin, abuiltin_len_sl, abuiltin_len_own, abuiltin_len_str, abuiltin_len_nil, Try.underlying3, Try.underlying5, Try.underlying9, Try.underlying31, sz3, sz5, sz9, sz31, Int.toNat_natCast, hr, e1, e2, e3]; first | rfl | exact aindex_str Try.underlying9 (by omega) (by first | omega | exact size_pos hb | exact size_pos2 hb | (simp only [ByteArray.size, List.size_toArray, List.length_cons, List.length_nil]; omega)) | exact aconv_int Try.underlying5 Try.underlying31) ?_)
    | (refine ARun.pureG ?_ rfl (by simp only [aval_fset, Nat.reduceBEq, cond_true, cond_false, aval_const, aval_func, constAV, aval_argf, List.getD_cons_zero, List.getD_cons_succ, apick_and, apick_or, gd_true, gd_false, put_mk, upd_beq, apure_move, apure_assign, apure_pick, apure_binOp, apure_convert, apure_index, abin_add, abin_eql, abin_gtr, abin_lss, abin_mul, abin_quo, abin_sub, abin_eql_s, abin_gtr_s, abin_lss_s, abin_eql_b, ne_eq, Int.reduceEq, not_false_eq_true, Int.reduceLE, apure_builtin, abuiltin_len_sl, abuiltin_len_own, abuiltin_len_str, abuiltin_len_nil, Try.underlying3, Try.underlying5, Try.underlying9, Try.underlying31, sz3, sz5, sz9, sz31, Int.toNat_natCast, hr, e1, e2, e3, gval_v, gval_gd]; rfl) (by intro hb; simp only [aval_fset, Nat.reduceBEq, cond_true, cond_false, aval_const, aval_func, constAV, aval_argf, List.getD_cons_zero, List.getD_cons_succ, apick_and, apick_or, gd_true, gd_false, put_mk, upd_beq, apure_move, apure_assign, apure_pick, apure_binOp, apure_convert, apure_index, abin_add, abin_eql, abin_gtr, abin_lss, abin_mul, abin_quo, abin_sub, abin_eql_s, abin_gtr_s, abin_lss_s, abin_eql_b, ne_eq, Int.reduceEq, not_false_eq_true, Int.reduceLE, apure_builtin, abuiltin_len_sl, abuiltin_len_own, abuiltin_len_str, abuiltin_len_nil, Try.underlying3, Try.underlying5, Try.underlying9, Try.underlying31, sz3, sz5, sz9, sz31, Int.toNat_natCast, hr, e1, e2, e3, hb, Bool.true_and, eq_self]; first | rfl | exact aindex_str Try.underlying9 (by omega) (by first | omega | exact size_pos hb | exact size_pos2 hb | (simp only [ByteArray.size, List.size_toArray, List.length_cons, List.length_nil]; omega)) | exact aconv_int Try.underlying5 Try.underlying31) ?_; decide)
    | (refine AWp.cond _ (by simp only [aval_fset, Nat.reduceBEq, cond_true, cond_false, aval_const, aval_func, constAV, aval_argf, List.getD_cons_zero, List.getD_cons_succ, apick_and, apick_or, gd_true, gd_false, put_mk, upd_beq, apure_move, apure_assign, apure_pick, apure_binOp, apure_convert, apure_index, abin_add, abin_eql, abin_gtr, abin_lss, abin_mul, abin_quo, abin_sub, abin_eql_s, abin_gtr_s, abin_lss_s, abin_eql_b, ne_eq, Int.reduceEq, not_false_eq_true, Int.reduceLE, apure_builtin, abuiltin_len_sl, abuiltin_len_own, abuiltin_len_str, abuiltin_len_nil, Try.underlying3, Try.underlying5, Try.underlying9, Try.underlying31, sz3, sz5, sz9, sz31, Int.toNat_natCast, hr, e1, e2, e3]; rfl) ?_ ?_ <;> intro hc <;> first | exact Bool.noConfusion hc | (simp only [decide_eq_true_eq, decide_eq_false_iff_not] at hc; try (exfalso; omega)) | skip <;> try (have hd := hc; simp only [Bool.and_eq_true, decide_eq_true_eq] at hd))
    | refine AWp.block ?_
    | refine AWp.skip ?_
    | refine AWp.label ?_
    | refine AWp.exit ?_
    | refine exitSeq ?_
    | refine exitHere ?_
    | refine exitOther (by decide) ?_
    | refine exitThen ?_
    | refine AWp.ret ?_
    | refine retSeq ?_
    | refine retIn ?_
    | refine retThen ?_
    | refine normThen ?_)
      · simp only [numB] at g1
        rw [if_pos (by omega)] at g1
        rw [g1]
        exact ret2 (.inr rfl) Try.results17 (by simp only [aval_fset, Nat.reduceBEq, cond_true, cond_false, aval_const, aval_func, constAV, aval_argf, List.getD_cons_zero, List.getD_cons_succ, apick_and, apick_or, gd_true, gd_false, put_mk, upd_beq, apure_move, apure_assign, apure_pick, apure_binOp, apure_convert, apure_index, abin_add, abin_eql, abin_gtr, abin_lss, abin_mul, abin_quo, abin_sub, abin_eql_s, abin_gtr_s, abin_lss_s, abin_eql_b, ne_eq, Int.reduceEq, not_false_eq_true, Int.reduceLE, apure_builtin, abuiltin_len_sl, abuiltin_len_own, abuiltin_len_str, abuiltin_len_nil, Try.underlying3, Try.underlying5, Try.underlying9, Try.underlying31, sz3, sz5, sz9, sz31]; try rfl) (by simp only [aval_fset, Nat.reduceBEq, cond_true, cond_false, aval_const, aval_func, constAV, aval_argf, List.getD_cons_zero, List.getD_cons_succ, apick_and, apick_or, gd_true, gd_false, put_mk, upd_beq, apure_move, apure_assign, apure_pick, apure_binOp, apure_convert, apure_index, abin_add, abin_eql, abin_gtr, abin_lss, abin_mul, abin_quo, abin_sub, abin_eql_s, abin_gtr_s, abin_lss_s, abin_eql_b, ne_eq, Int.reduceEq, not_false_eq_true, Int.reduceLE, apure_builtin, abuiltin_len_sl, abuiltin_len_own, abuiltin_len_str, abuiltin_len_nil, Try.underlying3, Try.underlying5, Try.underlying9, Try.underlying31, sz3, sz5, sz9, sz31]; try rfl) (by simp) (by simp)
      · simp only [numB] at g1
        rw [if_neg (by omega)] at g1
        have e4 : IntKind.u64.wrap (IntKind.u64.wrap (10 * (n : Int)) + ((r - 48 : Nat) : Int)) = ((n * 10 + (r - 48) : Nat) : Int) := by
          rw [wr_u64 (n := 10 * (n : Int)) (by omega) (by omega), wr_u64 (by omega) (by omega)]; omega
        refine ⟨_, _, ?_, ?_, i' + 1, n * 10 + (r - 48), rfl, rfl, g1, g2, by omega⟩
        · omega
        · refine le_canon id ?hfv32_ ?hev32_
          case hfv32_ => repeat' (first | exact wk_none | refine wk_fset _ _ ?_ ?_ | exact wk_own (by simp only [aval_fset, Nat.reduceBEq, cond_true, cond_false, aval_const, aval_func, constAV, aval_argf, List.getD_cons_zero, List.getD_cons_succ, apick_and, apick_or, gd_true, gd_false, put_mk, upd_beq, apure_move, apure_assign, apure_pick, apure_binOp, apure_convert, apure_index, abin_add, abin_eql, abin_gtr, abin_lss, abin_mul, abin_quo, abin_sub, abin_eql_s, abin_gtr_s, abin_lss_s, abin_eql_b, ne_eq, Int.reduceEq, not_false_eq_true, Int.reduceLE, apure_builtin, abuiltin_len_sl, abuiltin_len_own, abuiltin_len_str, abuiltin_len_nil, Try.underlying3, Try.underlying5, Try.underlying9, Try.underlying31, sz3, sz5, sz9, sz31, e1, e3, e4]; rfl) (by first | rfl | (simp [e1, e3, e4]; done) | (simp [e1, e3, e4]; omega)) rfl (by simp [upd]) | exact wk_adr (by simp only [aval_fset, Nat.reduceBEq, cond_true, cond_false, aval_const, aval_func, constAV, aval_argf, List.getD_cons_zero, List.getD_cons_succ, apick_and, apick_or, gd_true, gd_false, put_mk, upd_beq, apure_move, apure_assign, apure_pick, apure_binOp, apure_convert, apure_index, abin_add, abin_eql, abin_gtr, abin_lss, abin_mul, abin_quo, abin_sub, abin_eql_s, abin_gtr_s, abin_lss_s, abin_eql_b, ne_eq, Int.reduceEq, not_false_eq_true, Int.reduceLE, apure_builtin, abuiltin_len_sl, abuiltin_len_own, abuiltin_len_str, abuiltin_len_nil, Try.underlying3, Try.underlying5, Try.underlying9, Try.underlying31, sz3, sz5, sz9, sz31, e1, e3, e4]; rfl) rfl (by simp [upd]) | exact wk_data (by simp only [aval_fset, Nat.reduceBEq, cond_true, cond_false, aval_const, aval_func, constAV, aval_argf, List.getD_cons_zero, List.getD_cons_succ, apick_and, apick_or, gd_true, gd_false, put_mk, upd_beq, apure_move, apure_assign, apure_pick, apure_binOp, apure_convert, apure_index, abin_add, abin_eql, abin_gtr, abin_lss, abin_mul, abin_quo, abin_sub, abin_eql_s, abin_gtr_s, abin_lss_s, abin_eql_b, ne_eq, Int.reduceEq, not_false_eq_true, Int.reduceLE, apure_builtin, abuiltin_len_sl, abuiltin_len_own, abuiltin_len_str, abuiltin_len_nil, Try.underlying3, Try.underlying5, Try.underlying9, Try.underlying31, sz3, sz5, sz9, sz31, e1, e3, e4]; try rfl) (by simp))
          case hev32_ => exact heapWk0
    · repeat' (first
    | refine AWp.seq' ?_
    | refine AWp.reg 64 (by simp only [Nat.reduceAdd]; rfl) ?_
    | refine AWp.regD 64 mix (by kernel_rfl) (by simp only [Nat.reduceAdd]; rfl) ?_
    | refine ARun.fin ?_
    | refine normSeq ?_
    | refine normIn ?_
    | (refine ARun.pure (by decide) (by simp only [aval_fset, Nat.reduceBEq, cond_true, cond_false, aval_const, aval_func, constAV, aval_argf, List.getD_cons_zero, List.getD_cons_succ, apick_and, apick_or, gd_true, gd_false, put_mk, upd_beq, apure_move, apure_assign, apure_pick, apure_binOp, apure_convert, apure_index, abin_add, abin_eql, abin_gtr, abin_lss, abin_mul, abin_quo, abin_sub, abin_eql_s, abin_gtr_s, abin_lss_s, abin_eql_b, ne_eq, Int.reduceEq, not_false_eq_true, Int.reduceLE, apure_builtin, abuiltin_len_sl, abuiltin_len_own, abuiltin_len_str, abuiltin_len_nil, Try.underlying3, Try.underlying5, Try.underlying9, Try.underlying31, sz3, sz5, sz9, sz31]; first | rfl | exact aindex_str Try.underlying9 (by omega) (by first | omega | exact size_pos hb | exact size_pos2 hb | (simp only [ByteArray.size, List.size_toArray, List.length_cons, List.length_nil]; omega)) | exact aconv_int Try.underlying5 Try.underlying31) ?_)
    | (refine ARun.pureG ?_ rfl (by simp only [aval_fset, Nat.reduceBEq, cond_true, cond_false, aval_const, aval_func, constAV, aval_argf, List.getD_cons_zero, List.getD_cons_succ, apick_and, apick_or, gd_true, gd_false, put_mk, upd_beq, apure_move, apure_assign, apure_pick, apure_binOp, apure_convert, apure_index, abin_add, abin_eql, abin_gtr, abin_lss, abin_mul, abin_quo, abin_sub, abin_eql_s, abin_gtr_s, abin_lss_s, abin_eql_b, ne_eq, Int.reduceEq, not_false_eq_true, Int.reduceLE, apure_builtin, abuiltin_len_sl, abuiltin_len_own, abuiltin_len_str, abuiltin_len_nil, Try.underlying3, Try.underlying5, Try.underlying9, Try.underlying31, sz3, sz5, sz9, sz31, gval_v, gval_gd]; rfl) (by intro hb; simp only [aval_fset, Nat.reduceBEq, cond_true, cond_false, aval_const, aval_func, constAV, aval_argf, List.getD_cons_zero, List.getD_cons_succ, apick_and, apick_or, gd_true, gd_false, put_mk, upd_beq, apure_move, apure_assign, apure_pick, apure_binOp, apure_convert, apure_index, abin_add, abin_eql, abin_gtr, abin_lss, abin_mul, abin_quo, abin_sub, abin_eql_s, abin_gtr_s, abin_lss_s, abin_eql_b, ne_eq, Int.reduceEq, not_false_eq_true, Int.reduceLE, apure_builtin, abuiltin_len_sl, abuiltin_len_own, abuiltin_len_str, abuiltin_len_nil, Try.underlying3, Try.underlying5, Try.underlying9, Try.underlying31, sz3, sz5, sz9, sz31, hb, Bool.true_and, eq_self]; first | rfl | exact aindex_str Try.underlying9 (by omega) (by first | omega | exact size_pos hb | exact size_pos2 hb | (simp only [ByteArray.size, List.size_toArray, List.length_cons, List.length_nil]; omega)) | exact aconv_int Try.underlying5 Try.underlying31) ?_; decide)
    | (refine AWp.cond _ (by simp only [aval_fset, Nat.reduceBEq, cond_true, cond_false, aval_const, aval_func, constAV, aval_argf, List.getD_cons_zero, List.getD_cons_succ, apick_and, apick_or, gd_true, gd_false, put_mk, upd_beq, apure_move, apure_assign, apure_pick, apure_binOp, apure_convert, apure_index, abin_add, abin_eql, abin_gtr, abin_lss, abin_mul, abin_quo, abin_sub, abin_eql_s, abin_gtr_s, abin_lss_s, abin_eql_b, ne_eq, Int.reduceEq, not_false_eq_true, Int.reduceLE, apure_builtin, abuiltin_len_sl, abuiltin_len_own, abuiltin_len_str, abuiltin_len_nil, Try.underlying3, Try.underlying5, Try.underlying9, Try.underlying31, sz3, sz5, sz9, sz31]; rfl) ?_ ?_ <;> intro hc <;> first | exact Bool.noConfusion hc | (simp only [decide_eq_true_eq, decide_eq_false_iff_not] at hc; try (exfalso; omega)) | skip <;> try (have hd := hc; simp only [Bool.and_eq_true, decide_eq_true_eq] at hd))
    | refine AWp.block ?_
    | refine AWp.skip ?_
    | refine AWp.label ?_
    | refine AWp.exit ?_
    | refine exitSeq ?_
    | refine exitHere ?_
    | refine exitOther (by decide) ?_
    | refine exitThen ?_
    | refine AWp.ret ?_
    | refine retSeq ?_
    | refine retIn ?_
    | refine retThen ?_
    | refine normThen ?_)
      rw [g1, bys_no hlt']
      exact ret2 (.inr rfl) Try.results17 (by simp only [aval_fset, Nat.reduceBEq, cond_true, cond_false, aval_const, aval_func, constAV, aval_argf, List.getD_cons_zero, List.getD_cons_succ, apick_and, apick_or, gd_true, gd_false, put_mk, upd_beq, apure_move, apure_assign, apure_pick, apure_binOp, apure_convert, apure_index, abin_add, abin_eql, abin_gtr, abin_lss, abin_mul, abin_quo, abin_sub, abin_eql_s, abin_gtr_s, abin_lss_s, abin_eql_b, ne_eq, Int.reduceEq, not_false_eq_true, Int.reduceLE, apure_builtin, abuiltin_len_sl, abuiltin_len_own, abuiltin_len_str, abuiltin_len_nil, Try.underlying3, Try.underlying5, Try.underlying9, Try.underlying31, sz3, sz5, sz9, sz31]; try rfl) (by simp only [aval_fset, Nat.reduceBEq, cond_true, cond_false, aval_const, aval_func, constAV, aval_argf, List.getD_cons_zero, List.getD_cons_succ, apick_and, apick_or, gd_true, gd_false, put_mk, upd_beq, apure_move, apure_assign, apure_pick, apure_binOp, apure_convert, apure_index, abin_add, abin_eql, abin_gtr, abin_lss, abin_mul, abin_quo, abin_sub, abin_eql_s, abin_gtr_s, abin_lss_s, abin_eql_b, ne_eq, Int.reduceEq, not_false_eq_true, Int.reduceLE, apure_builtin, abuiltin_len_sl, abuiltin_len_own, abuiltin_len_str, abuiltin_len_nil, Try.underlying3, Try.underlying5, Try.underlying9, Try.underlying31, sz3, sz5, sz9, sz31]; try rfl) (by simp) (by simp)
end Go.Proofs.Ytoenhcdjahpdhaa
