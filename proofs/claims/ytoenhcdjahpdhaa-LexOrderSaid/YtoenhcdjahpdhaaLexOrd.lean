/- LexOrder: plain facts on numbers' words. -/
import Derived.Test.YtoenhcdjahpdhaaLexF
set_option linter.unusedSimpArgs false
set_option linter.unusedVariables false
namespace Go.Proofs.Ytoenhcdjahpdhaa
open Go Go.AM Go.Pl
set_option maxRecDepth 20000
set_option maxHeartbeats 4000000

def valL : List Nat → Nat → Nat
  | [], n => n
  | r :: l, n => valL l (n * 10 + (r - 48))
theorem valL_lt : ∀ l n, l.all dig = true → valL l n < (n + 1) * 10 ^ l.length
  | [], n, _ => by simp [valL]
  | r :: l, n, h => by
    simp only [List.all_cons, Bool.and_eq_true] at h
    obtain ⟨hr, hl⟩ := h
    simp [dig] at hr
    have ih := valL_lt l (n * 10 + (r - 48)) hl
    have h1 : (n * 10 + (r - 48) + 1) * 10 ^ l.length ≤ ((n + 1) * 10) * 10 ^ l.length := Nat.mul_le_mul_right _ (by omega)
    simp only [valL, List.length_cons, Nat.pow_succ]
    have h2 : (n + 1) * (10 ^ l.length * 10) = ((n + 1) * 10) * 10 ^ l.length := by rw [Nat.mul_comm (10 ^ l.length) 10, Nat.mul_assoc]
    omega
theorem valL_ge : ∀ l n, n * 10 ^ l.length ≤ valL l n
  | [], n => by simp [valL]
  | r :: l, n => by
    have ih := valL_ge l (n * 10 + (r - 48))
    have h1 : (n * 10) * 10 ^ l.length ≤ (n * 10 + (r - 48)) * 10 ^ l.length := Nat.mul_le_mul_right _ (by omega)
    simp only [valL, List.length_cons, Nat.pow_succ]
    have h2 : n * (10 ^ l.length * 10) = (n * 10) * 10 ^ l.length := by rw [Nat.mul_comm (10 ^ l.length) 10, Nat.mul_assoc]
    omega
theorem numB_ok : ∀ l n, l.all dig = true → (n + 1) * 10 ^ l.length ≤ 10 ^ 19 → numB l n = (valL l n, 0)
  | [], n, _, _ => rfl
  | r :: l, n, h, hb => by
    simp only [List.all_cons, Bool.and_eq_true] at h
    obtain ⟨hr, hl⟩ := h
    simp [dig] at hr
    have hp : 1 ≤ 10 ^ l.length := Nat.one_le_pow _ _ (by omega)
    have h2 : (n + 1) * 10 ^ (r :: l).length = ((n + 1) * 10) * 10 ^ l.length := by rw [List.length_cons, Nat.pow_succ, Nat.mul_comm (10 ^ l.length) 10, Nat.mul_assoc]
    rw [h2] at hb
    have h3 : ((n + 1) * 10) * 1 ≤ ((n + 1) * 10) * 10 ^ l.length := Nat.mul_le_mul_left _ hp
    have h4 : (n * 10 + (r - 48) + 1) * 10 ^ l.length ≤ ((n + 1) * 10) * 10 ^ l.length := Nat.mul_le_mul_right _ (by omega)
    simp only [numB]
    rw [if_neg (by omega), numB_ok l _ hl (by omega)]
    rfl
theorem number_small (w : ByteArray) (hw : w.size ≤ 19) : (number w).2 = 2 ∨ (numHead w = false ∧ (bys w 0).all dig = true ∧ number w = (valL (bys w 0) 0, 0)) := by
  rw [number_bys]
  cases hh : numHead w with
  | true => left; rfl
  | false =>
    cases hd : (bys w 0).all dig with
    | false => left; simp
    | true =>
      right
      refine ⟨rfl, rfl, ?_⟩
      have : (0 + 1) * 10 ^ (bys w 0).length ≤ 10 ^ 19 := by
        rw [bys_length, Nat.one_mul]
        exact Nat.pow_le_pow_right (by omega) hw
      simp only [Bool.false_eq_true, if_false, numB_ok _ _ hd this]
      rfl
theorem number_err (w : ByteArray) : (number w).2 = 0 → numHead w = false ∧ (bys w 0).all dig = true := by
  rw [number_bys]
  cases hh : numHead w with
  | true => intro h; simp at h
  | false =>
    cases hd : (bys w 0).all dig with
    | false => intro h; simp at h
    | true => intro _; exact ⟨rfl, rfl⟩
theorem valL_step {l1 l2 : List Nat} {n1 n2 : Nat} (hl : l1.length = l2.length) (h1 : l1.all dig = true) (h : n1 < n2) : valL l1 n1 < valL l2 n2 := by
  have a := valL_lt l1 n1 h1
  have b := valL_ge l2 n2
  have c : (n1 + 1) * 10 ^ l1.length ≤ n2 * 10 ^ l2.length := by rw [hl]; exact Nat.mul_le_mul_right _ h
  omega
theorem ordL : ∀ (x y : List UInt8) (n : Nat), x.length = y.length → (x.map UInt8.toNat).all dig = true → (y.map UInt8.toNat).all dig = true →
    (decide (valL (x.map UInt8.toNat) n < valL (y.map UInt8.toNat) n) = Op.bytesLess x y) ∧ (valL (x.map UInt8.toNat) n = valL (y.map UInt8.toNat) n ↔ x = y)
  | [], [], n, _, _, _ => by simp [valL, Op.bytesLess]
  | [], _ :: _, _, h, _, _ => by simp at h
  | _ :: _, [], _, h, _, _ => by simp at h
  | a :: x, b :: y, n, h, hx, hy => by
    simp only [List.map_cons, List.all_cons, Bool.and_eq_true] at hx hy
    obtain ⟨ha, hx⟩ := hx
    obtain ⟨hb, hy⟩ := hy
    simp [dig] at ha hb
    have hl : x.length = y.length := by simpa using h
    have hl' : (x.map UInt8.toNat).length = (y.map UInt8.toNat).length := by simpa using hl
    simp only [List.map_cons, valL, Op.bytesLess]
    by_cases e : a = b
    · subst e
      obtain ⟨i1, i2⟩ := ordL x y (n * 10 + (a.toNat - 48)) hl hx hy
      rw [i1, i2]
      simp
    · have hne : a.toNat ≠ b.toNat := fun h => e (UInt8.toNat_inj.mp h)
      rcases Nat.lt_or_gt_of_ne hne with hlt | hgt
      · have := valL_step hl' hx (show n * 10 + (a.toNat - 48) < n * 10 + (b.toNat - 48) by omega)
        have hab : a < b := UInt8.lt_iff_toNat_lt.mpr hlt
        constructor
        · simp [this, hab]
        · constructor
          · intro h; omega
          · intro h; exact absurd (List.cons.inj h).1 e
      · have := valL_step hl'.symm hy (show n * 10 + (b.toNat - 48) < n * 10 + (a.toNat - 48) by omega)
        have hab : ¬ a < b := fun h => by have := UInt8.lt_iff_toNat_lt.mp h; omega
        constructor
        · have h2 : ¬ valL (x.map UInt8.toNat) (n * 10 + (a.toNat - 48)) < valL (y.map UInt8.toNat) (n * 10 + (b.toNat - 48)) := by omega
          rw [decide_eq_false h2]
          simp [hab, e]
        · constructor
          · intro h; omega
          · intro h; exact absurd (List.cons.inj h).1 e
theorem ord1 (a : ByteArray) : (((number a).2 : Int) != 6 || decide (19 < (a.size : Int))) = true := by
  by_cases h : a.size ≤ 19
  · rcases number_small a h with h1 | ⟨_, _, h1⟩ <;> rw [h1] <;> simp
  · have : (19 : Int) < a.size := by omega
    simp [this]
theorem bys_map (a : ByteArray) : bys a 0 = a.data.toList.map UInt8.toNat := by simp [bys]
theorem head_lt {a b : ByteArray} (h : a.size < b.size) (hna : numHead a = false) (ha : (bys a 0).all dig = true) (hb : numHead b = false) (hbd : (bys b 0).all dig = true) : valL (bys a 0) 0 < valL (bys b 0) 0 := by
  have h1 := valL_lt _ 0 ha
  rw [bys_length] at h1
  rw [bys_yes (show 0 < b.size by omega)] at hbd ⊢
  simp only [List.all_cons, Bool.and_eq_true] at hbd
  obtain ⟨hd, _⟩ := hbd
  simp [dig] at hd
  simp only [valL]
  have h2 := valL_ge (bys b (0 + 1)) (0 * 10 + (byteAt b 0 - 48))
  have hl : (bys b (0 + 1)).length + 1 = b.size := by
    have := bys_length b
    rw [bys_yes (show 0 < b.size by omega)] at this
    simpa using this
  have hne : byteAt b 0 ≠ 48 ∨ a.size = 0 := by
    rw [numHead_eq] at hb
    by_cases h48 : byteAt b 0 = 48
    · right
      simp [h48] at hb
      omega
    · exact .inl h48
  rcases hne with hne | hne
  · have h3 : 1 * 10 ^ (bys b (0 + 1)).length ≤ (0 * 10 + (byteAt b 0 - 48)) * 10 ^ (bys b (0 + 1)).length := Nat.mul_le_mul_right _ (by omega)
    have h4 : 10 ^ a.size ≤ 10 ^ (bys b (0 + 1)).length := Nat.pow_le_pow_right (by omega) (by omega)
    omega
  · rw [numHead_eq, hne] at hna; simp at hna
theorem ord2 (a b : ByteArray) (ha : a.size ≤ 19) (hb : b.size ≤ 19) (ea : (number a).2 = 0) (eb : (number b).2 = 0) :
    decide (((number a).1 : Int) < ((number b).1 : Int)) = (decide ((a.size : Int) < b.size) || (a.size : Int) == b.size && Op.bytesLess a.data.toList b.data.toList) ∧ (((number a).1 : Int) == ((number b).1 : Int)) = decide (a = b) := by
  rcases number_small a ha with h1 | ⟨a1, a2, a3⟩
  · omega
  rcases number_small b hb with h1 | ⟨b1, b2, b3⟩
  · omega
  rw [a3, b3]
  simp only
  rcases Nat.lt_trichotomy a.size b.size with h | h | h
  · have := head_lt h a1 a2 b1 b2
    have hne : a ≠ b := fun e => by subst e; omega
    constructor
    · simp [this, h]
    · rw [decide_eq_false hne, beq_eq_false_iff_ne]; omega
  · obtain ⟨o1, o2⟩ := ordL a.data.toList b.data.toList 0 (by rw [Array.length_toList, Array.length_toList]; exact h) (by rw [← bys_map]; exact a2) (by rw [← bys_map]; exact b2)
    rw [← bys_map, ← bys_map] at o1 o2
    constructor
    · rw [← o1, h]; simp
    · have e2 : (a.data.toList = b.data.toList) ↔ a = b := ⟨fun e => ByteArray.ext (Array.ext' e), fun e => by rw [e]⟩
      rw [e2] at o2
      by_cases e : a = b
      · rw [decide_eq_true e]; simp [o2.mpr e]
      · have : ¬ valL (bys a 0) 0 = valL (bys b 0) 0 := fun h => e (o2.mp h)
        rw [decide_eq_false e, beq_eq_false_iff_ne]; omega
  · have := head_lt h b1 b2 a1 a2
    have hne : a ≠ b := fun e => by subst e; omega
    constructor
    · have h1 : ¬ ((valL (bys a 0) 0 : Nat) : Int) < ((valL (bys b 0) 0 : Nat) : Int) := by omega
      have h2 : ¬ (a.size : Int) < b.size := by omega
      have h3 : ((a.size : Int) == b.size) = false := by rw [beq_eq_false_iff_ne]; omega
      rw [decide_eq_false h1, decide_eq_false h2, h3]; rfl
    · rw [decide_eq_false hne, beq_eq_false_iff_ne]; omega
theorem LexOrder_c (a b : ByteArray) : PureC Try.prog 8 [.v (.string a), .v (.string b)] (.v (.bool true)) := by
  refine PureC.of_body Try.func8 rfl ?_
  simp only [Try.ntmps8, List.length_cons, List.length_nil, Nat.reduceAdd, Nat.reduceSub, empty_eq]
  generalize ha : number a = na
  generalize hb : number b = nb
  have ca := Number_c a
  have cb := Number_c b
  rw [ha] at ca
  rw [hb] at cb
  repeat' (first
    | refine AWp.seq' ?_
    | refine AWp.reg 64 (by simp only [Nat.reduceAdd]; rfl) ?_
    | refine AWp.regD 64 mix (by kernel_rfl) (by simp only [Nat.reduceAdd]; rfl) ?_
    | refine ARun.fin ?_
    | refine normSeq ?_
    | refine normIn ?_
    | (refine ARun.pure (by decide) (by simp only [aval_fset, Nat.reduceBEq, cond_true, cond_false, aval_const, aval_func, constAV, aval_argf, List.getD_cons_zero, List.getD_cons_succ, apick_and, apick_or, gd_true, gd_false, put_mk, upd_beq, apure_move, apure_assign, apure_pick, apure_binOp, apure_extract, abin_eql, abin_gtr, abin_lss, abin_neq, abin_eql_s, abin_gtr_s, abin_lss_s, abin_neq_s, abin_eql_b, abin_neq_b, apure_builtin, abuiltin_len_sl, abuiltin_len_own, abuiltin_len_str, abuiltin_len_nil, Try.underlying3, Try.underlying4, Try.underlying9, Try.underlying24, Try.underlying31, sz3, sz4, sz9, sz24, sz31]; first | rfl) ?_)
    | (refine ARun.callD (by decide) (by simp only [aval_fset, Nat.reduceBEq, cond_true, cond_false, aval_const, aval_func, constAV, aval_argf, List.getD_cons_zero, List.getD_cons_succ, apick_and, apick_or, gd_true, gd_false, put_mk, upd_beq, apure_move, apure_assign, apure_pick, apure_binOp, apure_extract, abin_eql, abin_gtr, abin_lss, abin_neq, abin_eql_s, abin_gtr_s, abin_lss_s, abin_neq_s, abin_eql_b, abin_neq_b, apure_builtin, abuiltin_len_sl, abuiltin_len_own, abuiltin_len_str, abuiltin_len_nil, Try.underlying3, Try.underlying4, Try.underlying9, Try.underlying24, Try.underlying31, sz3, sz4, sz9, sz24, sz31]; rfl) fb16 (by simp only [List.map_cons, List.map_nil, List.nil_append, List.append_nil, List.cons_append, aval_fset, Nat.reduceBEq, cond_true, cond_false, aval_const, aval_func, constAV, aval_argf, List.getD_cons_zero, List.getD_cons_succ, apick_and, apick_or, gd_true, gd_false, put_mk, upd_beq, apure_move, apure_assign, apure_pick, apure_binOp, apure_extract, abin_eql, abin_gtr, abin_lss, abin_neq, abin_eql_s, abin_gtr_s, abin_lss_s, abin_neq_s, abin_eql_b, abin_neq_b, apure_builtin, abuiltin_len_sl, abuiltin_len_own, abuiltin_len_str, abuiltin_len_nil, Try.underlying3, Try.underlying4, Try.underlying9, Try.underlying24, Try.underlying31, sz3, sz4, sz9, sz24, sz31]; simp) (by simp only [List.map_cons, List.map_nil, List.nil_append, List.append_nil, List.cons_append, aval_fset, Nat.reduceBEq, cond_true, cond_false, aval_const, aval_func, constAV, aval_argf, List.getD_cons_zero, List.getD_cons_succ, apick_and, apick_or, gd_true, gd_false, put_mk, upd_beq, apure_move, apure_assign, apure_pick, apure_binOp, apure_extract, abin_eql, abin_gtr, abin_lss, abin_neq, abin_eql_s, abin_gtr_s, abin_lss_s, abin_neq_s, abin_eql_b, abin_neq_b, apure_builtin, abuiltin_len_sl, abuiltin_len_own, abuiltin_len_str, abuiltin_len_nil, Try.underlying3, Try.underlying4, Try.underlying9, Try.underlying24, Try.underlying31, sz3, sz4, sz9, sz24, sz31]; exact ca) ?_)
    | (refine ARun.callDG (by decide) rfl (by simp only [aval_fset, Nat.reduceBEq, cond_true, cond_false, aval_const, aval_func, constAV, aval_argf, List.getD_cons_zero, List.getD_cons_succ, apick_and, apick_or, gd_true, gd_false, put_mk, upd_beq, apure_move, apure_assign, apure_pick, apure_binOp, apure_extract, abin_eql, abin_gtr, abin_lss, abin_neq, abin_eql_s, abin_gtr_s, abin_lss_s, abin_neq_s, abin_eql_b, abin_neq_b, apure_builtin, abuiltin_len_sl, abuiltin_len_own, abuiltin_len_str, abuiltin_len_nil, Try.underlying3, Try.underlying4, Try.underlying9, Try.underlying24, Try.underlying31, sz3, sz4, sz9, sz24, sz31, gval_v, gval_gd]; rfl) (by simp only [aval_fset, Nat.reduceBEq, cond_true, cond_false, aval_const, aval_func, constAV, aval_argf, List.getD_cons_zero, List.getD_cons_succ, apick_and, apick_or, gd_true, gd_false, put_mk, upd_beq, apure_move, apure_assign, apure_pick, apure_binOp, apure_extract, abin_eql, abin_gtr, abin_lss, abin_neq, abin_eql_s, abin_gtr_s, abin_lss_s, abin_neq_s, abin_eql_b, abin_neq_b, apure_builtin, abuiltin_len_sl, abuiltin_len_own, abuiltin_len_str, abuiltin_len_nil, Try.underlying3, Try.underlying4, Try.underlying9, Try.underlying24, Try.underlying31, sz3, sz4, sz9, sz24, sz31]; rfl) fb16 (by intro hb; simp only [List.map_cons, List.map_nil, List.nil_append, List.append_nil, List.cons_append, aval_fset, Nat.reduceBEq, cond_true, cond_false, aval_const, aval_func, constAV, aval_argf, List.getD_cons_zero, List.getD_cons_succ, apick_and, apick_or, gd_true, gd_false, put_mk, upd_beq, apure_move, apure_assign, apure_pick, apure_binOp, apure_extract, abin_eql, abin_gtr, abin_lss, abin_neq, abin_eql_s, abin_gtr_s, abin_lss_s, abin_neq_s, abin_eql_b, abin_neq_b, apure_builtin, abuiltin_len_sl, abuiltin_len_own, abuiltin_len_str, abuiltin_len_nil, Try.underlying3, Try.underlying4, Try.underlying9, Try.underlying24, Try.underlying31, sz3, sz4, sz9, sz24, sz31, hb, Bool.true_and, eq_self]; simp) (by intro hb; simp only [List.map_cons, List.map_nil, List.nil_append, List.append_nil, List.cons_append, aval_fset, Nat.reduceBEq, cond_true, cond_false, aval_const, aval_func, constAV, aval_argf, List.getD_cons_zero, List.getD_cons_succ, apick_and, apick_or, gd_true, gd_false, put_mk, upd_beq, apure_move, apure_assign, apure_pick, apure_binOp, apure_extract, abin_eql, abin_gtr, abin_lss, abin_neq, abin_eql_s, abin_gtr_s, abin_lss_s, abin_neq_s, abin_eql_b, abin_neq_b, apure_builtin, abuiltin_len_sl, abuiltin_len_own, abuiltin_len_str, abuiltin_len_nil, Try.underlying3, Try.underlying4, Try.underlying9, Try.underlying24, Try.underlying31, sz3, sz4, sz9, sz24, sz31, hb, Bool.true_and, eq_self]; exact ca) ?_)
    | (refine ARun.callD (by decide) (by simp only [aval_fset, Nat.reduceBEq, cond_true, cond_false, aval_const, aval_func, constAV, aval_argf, List.getD_cons_zero, List.getD_cons_succ, apick_and, apick_or, gd_true, gd_false, put_mk, upd_beq, apure_move, apure_assign, apure_pick, apure_binOp, apure_extract, abin_eql, abin_gtr, abin_lss, abin_neq, abin_eql_s, abin_gtr_s, abin_lss_s, abin_neq_s, abin_eql_b, abin_neq_b, apure_builtin, abuiltin_len_sl, abuiltin_len_own, abuiltin_len_str, abuiltin_len_nil, Try.underlying3, Try.underlying4, Try.underlying9, Try.underlying24, Try.underlying31, sz3, sz4, sz9, sz24, sz31]; rfl) fb16 (by simp only [List.map_cons, List.map_nil, List.nil_append, List.append_nil, List.cons_append, aval_fset, Nat.reduceBEq, cond_true, cond_false, aval_const, aval_func, constAV, aval_argf, List.getD_cons_zero, List.getD_cons_succ, apick_and, apick_or, gd_true, gd_false, put_mk, upd_beq, apure_move, apure_assign, apure_pick, apure_binOp, apure_extract, abin_eql, abin_gtr, abin_lss, abin_neq, abin_eql_s, abin_gtr_s, abin_lss_s, abin_neq_s, abin_eql_b, abin_neq_b, apure_builtin, abuiltin_len_sl, abuiltin_len_own, abuiltin_len_str, abuiltin_len_nil, Try.underlying3, Try.underlying4, Try.underlying9, Try.underlying24, Try.underlying31, sz3, sz4, sz9, sz24, sz31]; simp) (by simp only [List.map_cons, List.map_nil, List.nil_append, List.append_nil, List.cons_append, aval_fset, Nat.reduceBEq, cond_true, cond_false, aval_const, aval_func, constAV, aval_argf, List.getD_cons_zero, List.getD_cons_succ, apick_and, apick_or, gd_true, gd_false, put_mk, upd_beq, apure_move, apure_assign, apure_pick, apure_binOp, apure_extract, abin_eql, abin_gtr, abin_lss, abin_neq, abin_eql_s, abin_gtr_s, abin_lss_s, abin_neq_s, abin_eql_b, abin_neq_b, apure_builtin, abuiltin_len_sl, abuiltin_len_own, abuiltin_len_str, abuiltin_len_nil, Try.underlying3, Try.underlying4, Try.underlying9, Try.underlying24, Try.underlying31, sz3, sz4, sz9, sz24, sz31]; exact cb) ?_)
    | (refine ARun.callDG (by decide) rfl (by simp only [aval_fset, Nat.reduceBEq, cond_true, cond_false, aval_const, aval_func, constAV, aval_argf, List.getD_cons_zero, List.getD_cons_succ, apick_and, apick_or, gd_true, gd_false, put_mk, upd_beq, apure_move, apure_assign, apure_pick, apure_binOp, apure_extract, abin_eql, abin_gtr, abin_lss, abin_neq, abin_eql_s, abin_gtr_s, abin_lss_s, abin_neq_s, abin_eql_b, abin_neq_b, apure_builtin, abuiltin_len_sl, abuiltin_len_own, abuiltin_len_str, abuiltin_len_nil, Try.underlying3, Try.underlying4, Try.underlying9, Try.underlying24, Try.underlying31, sz3, sz4, sz9, sz24, sz31, gval_v, gval_gd]; rfl) (by simp only [aval_fset, Nat.reduceBEq, cond_true, cond_false, aval_const, aval_func, constAV, aval_argf, List.getD_cons_zero, List.getD_cons_succ, apick_and, apick_or, gd_true, gd_false, put_mk, upd_beq, apure_move, apure_assign, apure_pick, apure_binOp, apure_extract, abin_eql, abin_gtr, abin_lss, abin_neq, abin_eql_s, abin_gtr_s, abin_lss_s, abin_neq_s, abin_eql_b, abin_neq_b, apure_builtin, abuiltin_len_sl, abuiltin_len_own, abuiltin_len_str, abuiltin_len_nil, Try.underlying3, Try.underlying4, Try.underlying9, Try.underlying24, Try.underlying31, sz3, sz4, sz9, sz24, sz31]; rfl) fb16 (by intro hb; simp only [List.map_cons, List.map_nil, List.nil_append, List.append_nil, List.cons_append, aval_fset, Nat.reduceBEq, cond_true, cond_false, aval_const, aval_func, constAV, aval_argf, List.getD_cons_zero, List.getD_cons_succ, apick_and, apick_or, gd_true, gd_false, put_mk, upd_beq, apure_move, apure_assign, apure_pick, apure_binOp, apure_extract, abin_eql, abin_gtr, abin_lss, abin_neq, abin_eql_s, abin_gtr_s, abin_lss_s, abin_neq_s, abin_eql_b, abin_neq_b, apure_builtin, abuiltin_len_sl, abuiltin_len_own, abuiltin_len_str, abuiltin_len_nil, Try.underlying3, Try.underlying4, Try.underlying9, Try.underlying24, Try.underlying31, sz3, sz4, sz9, sz24, sz31, hb, Bool.true_and, eq_self]; simp) (by intro hb; simp only [List.map_cons, List.map_nil, List.nil_append, List.append_nil, List.cons_append, aval_fset, Nat.reduceBEq, cond_true, cond_false, aval_const, aval_func, constAV, aval_argf, List.getD_cons_zero, List.getD_cons_succ, apick_and, apick_or, gd_true, gd_false, put_mk, upd_beq, apure_move, apure_assign, apure_pick, apure_binOp, apure_extract, abin_eql, abin_gtr, abin_lss, abin_neq, abin_eql_s, abin_gtr_s, abin_lss_s, abin_neq_s, abin_eql_b, abin_neq_b, apure_builtin, abuiltin_len_sl, abuiltin_len_own, abuiltin_len_str, abuiltin_len_nil, Try.underlying3, Try.underlying4, Try.underlying9, Try.underlying24, Try.underlying31, sz3, sz4, sz9, sz24, sz31, hb, Bool.true_and, eq_self]; exact cb) ?_)
    | (refine ARun.callD (by decide) (by simp only [aval_fset, Nat.reduceBEq, cond_true, cond_false, aval_const, aval_func, constAV, aval_argf, List.getD_cons_zero, List.getD_cons_succ, apick_and, apick_or, gd_true, gd_false, put_mk, upd_beq, apure_move, apure_assign, apure_pick, apure_binOp, apure_extract, abin_eql, abin_gtr, abin_lss, abin_neq, abin_eql_s, abin_gtr_s, abin_lss_s, abin_neq_s, abin_eql_b, abin_neq_b, apure_builtin, abuiltin_len_sl, abuiltin_len_own, abuiltin_len_str, abuiltin_len_nil, Try.underlying3, Try.underlying4, Try.underlying9, Try.underlying24, Try.underlying31, sz3, sz4, sz9, sz24, sz31]; rfl) fb11 (by simp only [List.map_cons, List.map_nil, List.nil_append, List.append_nil, List.cons_append, aval_fset, Nat.reduceBEq, cond_true, cond_false, aval_const, aval_func, constAV, aval_argf, List.getD_cons_zero, List.getD_cons_succ, apick_and, apick_or, gd_true, gd_false, put_mk, upd_beq, apure_move, apure_assign, apure_pick, apure_binOp, apure_extract, abin_eql, abin_gtr, abin_lss, abin_neq, abin_eql_s, abin_gtr_s, abin_lss_s, abin_neq_s, abin_eql_b, abin_neq_b, apure_builtin, abuiltin_len_sl, abuiltin_len_own, abuiltin_len_str, abuiltin_len_nil, Try.underlying3, Try.underlying4, Try.underlying9, Try.underlying24, Try.underlying31, sz3, sz4, sz9, sz24, sz31]; simp) (by simp only [List.map_cons, List.map_nil, List.nil_append, List.append_nil, List.cons_append, aval_fset, Nat.reduceBEq, cond_true, cond_false, aval_const, aval_func, constAV, aval_argf, List.getD_cons_zero, List.getD_cons_succ, apick_and, apick_or, gd_true, gd_false, put_mk, upd_beq, apure_move, apure_assign, apure_pick, apure_binOp, apure_extract, abin_eql, abin_gtr, abin_lss, abin_neq, abin_eql_s, abin_gtr_s, abin_lss_s, abin_neq_s, abin_eql_b, abin_neq_b, apure_builtin, abuiltin_len_sl, abuiltin_len_own, abuiltin_len_str, abuiltin_len_nil, Try.underlying3, Try.underlying4, Try.underlying9, Try.underlying24, Try.underlying31, sz3, sz4, sz9, sz24, sz31]; exact awake_c) ?_)
    | (refine ARun.callDG (by decide) rfl (by simp only [aval_fset, Nat.reduceBEq, cond_true, cond_false, aval_const, aval_func, constAV, aval_argf, List.getD_cons_zero, List.getD_cons_succ, apick_and, apick_or, gd_true, gd_false, put_mk, upd_beq, apure_move, apure_assign, apure_pick, apure_binOp, apure_extract, abin_eql, abin_gtr, abin_lss, abin_neq, abin_eql_s, abin_gtr_s, abin_lss_s, abin_neq_s, abin_eql_b, abin_neq_b, apure_builtin, abuiltin_len_sl, abuiltin_len_own, abuiltin_len_str, abuiltin_len_nil, Try.underlying3, Try.underlying4, Try.underlying9, Try.underlying24, Try.underlying31, sz3, sz4, sz9, sz24, sz31, gval_v, gval_gd]; rfl) (by simp only [aval_fset, Nat.reduceBEq, cond_true, cond_false, aval_const, aval_func, constAV, aval_argf, List.getD_cons_zero, List.getD_cons_succ, apick_and, apick_or, gd_true, gd_false, put_mk, upd_beq, apure_move, apure_assign, apure_pick, apure_binOp, apure_extract, abin_eql, abin_gtr, abin_lss, abin_neq, abin_eql_s, abin_gtr_s, abin_lss_s, abin_neq_s, abin_eql_b, abin_neq_b, apure_builtin, abuiltin_len_sl, abuiltin_len_own, abuiltin_len_str, abuiltin_len_nil, Try.underlying3, Try.underlying4, Try.underlying9, Try.underlying24, Try.underlying31, sz3, sz4, sz9, sz24, sz31]; rfl) fb11 (by intro hb; simp only [List.map_cons, List.map_nil, List.nil_append, List.append_nil, List.cons_append, aval_fset, Nat.reduceBEq, cond_true, cond_false, aval_const, aval_func, constAV, aval_argf, List.getD_cons_zero, List.getD_cons_succ, apick_and, apick_or, gd_true, gd_false, put_mk, upd_beq, apure_move, apure_assign, apure_pick, apure_binOp, apure_extract, abin_eql, abin_gtr, abin_lss, abin_neq, abin_eql_s, abin_gtr_s, abin_lss_s, abin_neq_s, abin_eql_b, abin_neq_b, apure_builtin, abuiltin_len_sl, abuiltin_len_own, abuiltin_len_str, abuiltin_len_nil, Try.underlying3, Try.underlying4, Try.underlying9, Try.underlying24, Try.underlying31, sz3, sz4, sz9, sz24, sz31, hb, Bool.true_and, eq_self]; simp) (by intro hb; simp only [List.map_cons, List.map_nil, List.nil_append, List.append_nil, List.cons_append, aval_fset, Nat.reduceBEq, cond_true, cond_false, aval_const, aval_func, constAV, aval_argf, List.getD_cons_zero, List.getD_cons_succ, apick_and, apick_or, gd_true, gd_false, put_mk, upd_beq, apure_move, apure_assign, apure_pick, apure_binOp, apure_extract, abin_eql, abin_gtr, abin_lss, abin_neq, abin_eql_s, abin_gtr_s, abin_lss_s, abin_neq_s, abin_eql_b, abin_neq_b, apure_builtin, abuiltin_len_sl, abuiltin_len_own, abuiltin_len_str, abuiltin_len_nil, Try.underlying3, Try.underlying4, Try.underlying9, Try.underlying24, Try.underlying31, sz3, sz4, sz9, sz24, sz31, hb, Bool.true_and, eq_self]; exact awake_c) ?_)
    | (refine ARun.pureG ?_ rfl (by simp only [aval_fset, Nat.reduceBEq, cond_true, cond_false, aval_const, aval_func, constAV, aval_argf, List.getD_cons_zero, List.getD_cons_succ, apick_and, apick_or, gd_true, gd_false, put_mk, upd_beq, apure_move, apure_assign, apure_pick, apure_binOp, apure_extract, abin_eql, abin_gtr, abin_lss, abin_neq, abin_eql_s, abin_gtr_s, abin_lss_s, abin_neq_s, abin_eql_b, abin_neq_b, apure_builtin, abuiltin_len_sl, abuiltin_len_own, abuiltin_len_str, abuiltin_len_nil, Try.underlying3, Try.underlying4, Try.underlying9, Try.underlying24, Try.underlying31, sz3, sz4, sz9, sz24, sz31, gval_v, gval_gd]; rfl) (by intro hb; simp only [aval_fset, Nat.reduceBEq, cond_true, cond_false, aval_const, aval_func, constAV, aval_argf, List.getD_cons_zero, List.getD_cons_succ, apick_and, apick_or, gd_true, gd_false, put_mk, upd_beq, apure_move, apure_assign, apure_pick, apure_binOp, apure_extract, abin_eql, abin_gtr, abin_lss, abin_neq, abin_eql_s, abin_gtr_s, abin_lss_s, abin_neq_s, abin_eql_b, abin_neq_b, apure_builtin, abuiltin_len_sl, abuiltin_len_own, abuiltin_len_str, abuiltin_len_nil, Try.underlying3, Try.underlying4, Try.underlying9, Try.underlying24, Try.underlying31, sz3, sz4, sz9, sz24, sz31, hb, Bool.true_and, eq_self]; first | rfl) ?_; decide)
    | (refine AWp.cond _ (by simp only [aval_fset, Nat.reduceBEq, cond_true, cond_false, aval_const, aval_func, constAV, aval_argf, List.getD_cons_zero, List.getD_cons_succ, apick_and, apick_or, gd_true, gd_false, put_mk, upd_beq, apure_move, apure_assign, apure_pick, apure_binOp, apure_extract, abin_eql, abin_gtr, abin_lss, abin_neq, abin_eql_s, abin_gtr_s, abin_lss_s, abin_neq_s, abin_eql_b, abin_neq_b, apure_builtin, abuiltin_len_sl, abuiltin_len_own, abuiltin_len_str, abuiltin_len_nil, Try.underlying3, Try.underlying4, Try.underlying9, Try.underlying24, Try.underlying31, sz3, sz4, sz9, sz24, sz31]; rfl) ?_ ?_ <;> intro hc <;> first | exact Bool.noConfusion hc | (simp only [decide_eq_true_eq, decide_eq_false_iff_not] at hc; try (exfalso; omega)) | skip <;> try (have hd := hc; simp only [Bool.and_eq_true, decide_eq_true_eq] at hd))
    | refine AWp.block ?_
    | refine AWp.skip ?_
    | refine AWp.label ?_
    | refine AWp.exit ?_
    | refine exitSeq ?_
    | refine exitHere ?_
    | refine exitOther (by decide) ?_
    | refine exitThen ?_
    | refine AWp.ret ?_
    | refine retSeq ?_
    | refine retIn ?_
    | refine retThen ?_
    | refine normThen ?_)
  · have e1 := ord1 a
    have e2 := ord1 b
    rw [ha] at e1
    rw [hb] at e2
    exact ret1 (.inr rfl) Try.results8 (by simp only [aval_fset, Nat.reduceBEq, cond_true, cond_false, aval_const, aval_func, constAV, aval_argf, List.getD_cons_zero, List.getD_cons_succ, apick_and, apick_or, gd_true, gd_false, put_mk, upd_beq, apure_move, apure_assign, apure_pick, apure_binOp, apure_extract, abin_eql, abin_gtr, abin_lss, abin_neq, abin_eql_s, abin_gtr_s, abin_lss_s, abin_neq_s, abin_eql_b, abin_neq_b, apure_builtin, abuiltin_len_sl, abuiltin_len_own, abuiltin_len_str, abuiltin_len_nil, Try.underlying3, Try.underlying4, Try.underlying9, Try.underlying24, Try.underlying31, sz3, sz4, sz9, sz24, sz31, e1, e2]; rfl) (by simp)
  · have hd := hc
    simp at hd
    obtain ⟨e1, e2⟩ := ord2 a b (by omega) (by omega) (by rw [ha]; omega) (by rw [hb]; omega)
    rw [ha, hb] at e1 e2
    exact ret1 (.inr rfl) Try.results8 (by simp only [aval_fset, Nat.reduceBEq, cond_true, cond_false, aval_const, aval_func, constAV, aval_argf, List.getD_cons_zero, List.getD_cons_succ, apick_and, apick_or, gd_true, gd_false, put_mk, upd_beq, apure_move, apure_assign, apure_pick, apure_binOp, apure_extract, abin_eql, abin_gtr, abin_lss, abin_neq, abin_eql_s, abin_gtr_s, abin_lss_s, abin_neq_s, abin_eql_b, abin_neq_b, apure_builtin, abuiltin_len_sl, abuiltin_len_own, abuiltin_len_str, abuiltin_len_nil, Try.underlying3, Try.underlying4, Try.underlying9, Try.underlying24, Try.underlying31, sz3, sz4, sz9, sz24, sz31, e1, e2]; simp) (by simp)
end Go.Proofs.Ytoenhcdjahpdhaa
