/- Plain functions in lockstep with the code, and that the code computes them. (Printed by a program.) -/
import Derived.Test.YtoenhcdjahpdhaaAmE
import Derived.Test.YtoenhcdjahpdhaaFacts
import Derived.Test.YtoenhcdjahpdhaaLexI
set_option linter.unusedVariables false
set_option linter.unusedSimpArgs false
set_option maxRecDepth 20000
set_option maxHeartbeats 4000000
namespace Go.Proofs.Ytoenhcdjahpdhaa
open Go Go.AM
theorem ld45LexM (H : Heap) (x : AV) (xs : List AV) : aload Try.prog H 45 (.ptr (x :: xs)) = some x := by kernel_rfl
attribute [go_sem] ld45LexM
theorem ld9LexM (H : Heap) (x : AV) (xs : List AV) : aload Try.prog H 9 (.ptr (x :: xs)) = some x := by kernel_rfl
attribute [go_sem] ld9LexM
theorem cv3_5LexM (H : Heap) (k : IntKind) (n : Int) : aconv Try.prog H 3 5 (.v (.int k n)) = some (.v (.int .u8 (IntKind.u8.wrap n))) := aconv_int Try.underlying3 Try.underlying5
attribute [go_sem] cv3_5LexM
theorem cv5_31LexM (H : Heap) (k : IntKind) (n : Int) : aconv Try.prog H 5 31 (.v (.int k n)) = some (.v (.int .u64 (IntKind.u64.wrap n))) := aconv_int Try.underlying5 Try.underlying31
attribute [go_sem] cv5_31LexM
theorem cv21_9LexM (H : Heap) (k : IntKind) (n : Int) : aconv Try.prog H 21 9 (.v (.int k n)) = some (.v (.string (Utf8.encode n))) := aconv_rune Try.underlying21 Try.underlying9
attribute [go_sem] cv21_9LexM
theorem cv21_31LexM (H : Heap) (k : IntKind) (n : Int) : aconv Try.prog H 21 31 (.v (.int k n)) = some (.v (.int .u64 (IntKind.u64.wrap n))) := aconv_int Try.underlying21 Try.underlying31
attribute [go_sem] cv21_31LexM
def isLetter_m (r_0 : Int) : Option (Bool) :=
  some ((((decide (97 ≤ r_0)) && (decide (r_0 ≤ 122))) || ((decide (48 ≤ r_0)) && (decide (r_0 ≤ 57)))) || ((decide (945 ≤ r_0)) && (decide (r_0 ≤ 969))))
theorem isLetter_c {r_0 : Int} {r : Bool} (hm : isLetter_m r_0 = some r) : PureC Try.prog 25 [.v (.int .i32 r_0)] (.v (.bool r)) := by
  refine PureC.of_body Try.func25 rfl ?_
  simp only [Try.ntmps25, List.length_cons, List.length_nil, Nat.reduceAdd, Nat.reduceSub, empty_eq]
  unfold isLetter_m at hm
  refine sr (N' := 64) rfl ?_
  refine pu rfl (by simp only [go_sem, Nat.reduceBEq]; try with_reducible rfl) ?_
  refine fs ?_
  refine sr (N' := 128) rfl ?_
  iterate 23 (first | refine pu rfl (by simp only [go_sem, Nat.reduceBEq]; try with_reducible rfl) ?_ | refine pg rfl rfl (by simp only [go_sem, Nat.reduceBEq]; try with_reducible rfl) (by intro hb; simp only [go_sem, Nat.reduceBEq, hb, Bool.true_and]; try with_reducible rfl) ?_)
  refine fs ?_
  refine AWp.ret ?_
  cases hm
  exact ret1D (.inr rfl) Try.results25 (td (by try simp only [go_sem, Nat.reduceBEq]; try rfl) (.v _))
def lexLines_J2 (rec1 : ByteArray → List (List ByteArray) → List ByteArray → Int → Bool → Int → ByteArray → Nat → Option ((List (List ByteArray)) × Int × Int)) (text_0 : ByteArray) (lines_5 : List (List ByteArray)) (line_6 : List ByteArray) (start_7 : Int) (remark_8 : Bool) (ahead_9 : Int) (t14s : ByteArray) (t14p : Nat) : Option ((List (List ByteArray)) × Int × Int) :=
  rec1 text_0 lines_5 line_6 start_7 remark_8 (IntKind.i64.wrap (ahead_9 + 1)) t14s t14p
def lexLines_J1 (rec1 : ByteArray → List (List ByteArray) → List ByteArray → Int → Bool → Int → ByteArray → Nat → Option ((List (List ByteArray)) × Int × Int)) (text_0 : ByteArray) (lines_5 : List (List ByteArray)) (line_6 : List ByteArray) (start_7 : Int) (remark_8 : Bool) (ahead_9 : Int) (i_10 : Int) (r_11 : Int) (letter_12 : Bool) (t14s : ByteArray) (t14p : Nat) : Option ((List (List ByteArray)) × Int × Int) :=
  (bif (r_11 == 10) then
    ((app lines_5 [line_6]).bind fun l5 =>
    lexLines_J2 rec1 text_0 l5 [] start_7 false ahead_9 t14s t14p)
  else
    (bif ((remark_8 || (r_11 == 32)) || (r_11 == 9)) then
      lexLines_J2 rec1 text_0 lines_5 line_6 start_7 remark_8 ahead_9 t14s t14p
    else
      (bif (r_11 == 35) then
        lexLines_J2 rec1 text_0 lines_5 line_6 start_7 true ahead_9 t14s t14p
      else
        (bif (!letter_12) then
          some ([], ahead_9, 2)
        else
          (bif (decide (start_7 < 0)) then
            lexLines_J2 rec1 text_0 lines_5 line_6 i_10 remark_8 ahead_9 t14s t14p
          else
            lexLines_J2 rec1 text_0 lines_5 line_6 start_7 remark_8 ahead_9 t14s t14p)))))
def lexLines_J3 (lines_5 : List (List ByteArray)) (line_6 : List ByteArray) : Option ((List (List ByteArray)) × Int × Int) :=
  ((app lines_5 [line_6]).bind fun l11 =>
  some (l11, 0, 0))
def lexLines_B1 (rec1 : ByteArray → List (List ByteArray) → List ByteArray → Int → Bool → Int → ByteArray → Nat → Option ((List (List ByteArray)) × Int × Int)) (text_0 : ByteArray) (lines_5 : List (List ByteArray)) (line_6 : List ByteArray) (start_7 : Int) (remark_8 : Bool) (ahead_9 : Int) (t14s : ByteArray) (t14p : Nat) : Option ((List (List ByteArray)) × Int × Int) :=
  (bif (decide (t14p < t14s.size)) then
    ((gopt ((!remark_8) == true) false (isLetter_m (((Utf8.decode t14s t14p).1 : Nat) : Int))).bind fun r3 =>
    (bif ((decide (0 ≤ start_7)) && (!((!remark_8) && r3))) then
      ((sslc text_0 start_7 ((t14p : Nat) : Int)).bind fun l7 =>
      ((app line_6 [l7]).bind fun l9 =>
      lexLines_J1 rec1 text_0 lines_5 l9 (-1) remark_8 ahead_9 ((t14p : Nat) : Int) (((Utf8.decode t14s t14p).1 : Nat) : Int) ((!remark_8) && r3) t14s (t14p + (Utf8.decode t14s t14p).2)))
    else
      lexLines_J1 rec1 text_0 lines_5 line_6 start_7 remark_8 ahead_9 ((t14p : Nat) : Int) (((Utf8.decode t14s t14p).1 : Nat) : Int) ((!remark_8) && r3) t14s (t14p + (Utf8.decode t14s t14p).2)))
  else
    (bif (decide (0 ≤ start_7)) then
      ((sslc text_0 start_7 (text_0.size : Int)).bind fun l13 =>
      ((app line_6 [l13]).bind fun l15 =>
      lexLines_J3 lines_5 l15))
    else
      lexLines_J3 lines_5 line_6))
def lexLines_L1 : Nat → ByteArray → List (List ByteArray) → List ByteArray → Int → Bool → Int → ByteArray → Nat → Option ((List (List ByteArray)) × Int × Int)
  | 0 => fun _ _ _ _ _ _ _ _ => none
  | n + 1 => lexLines_B1 (lexLines_L1 n)
def lexLines_m (text_0 : ByteArray) : Option ((List (List ByteArray)) × Int × Int) :=
  lexLines_L1 FUEL text_0 [] [] (-1) false 0 text_0 0
theorem lexLines_c {text_0 : ByteArray} {r : (List (List ByteArray)) × Int × Int} (hm : lexLines_m text_0 = some r) : PureC Try.prog 12 [.v (.string text_0)] (.tup [.sl (r.1.flatMap (csl cstr)) r.1.length false, .v (.int .i64 r.2.1), .v (.int .i64 r.2.2)]) := by
  refine PureC.of_body Try.func12 rfl ?_
  simp only [Try.ntmps12, List.length_cons, List.length_nil, Nat.reduceAdd, Nat.reduceSub, empty_eq]
  unfold lexLines_m at hm
  refine sr (N' := 64) rfl ?_
  iterate 3 refine pu rfl (by simp only [go_sem, Nat.reduceBEq]; try with_reducible rfl) ?_
  refine fs ?_
  refine sr (N' := 128) rfl ?_
  refine pu rfl (by simp only [go_sem, Nat.reduceBEq]; try with_reducible rfl) ?_
  refine fs ?_
  refine sr (N' := 192) rfl ?_
  refine pu rfl (by simp only [go_sem, Nat.reduceBEq]; try with_reducible rfl) ?_
  refine fs ?_
  refine sr (N' := 256) rfl ?_
  refine pu rfl (by simp only [go_sem, Nat.reduceBEq]; try with_reducible rfl) ?_
  refine fs ?_
  refine sr (N' := 320) rfl ?_
  refine pu rfl (by simp only [go_sem, Nat.reduceBEq]; try with_reducible rfl) ?_
  refine fs ?_
  refine sr (N' := 384) rfl ?_
  refine pu rfl (by simp only [go_sem, Nat.reduceBEq]; try with_reducible rfl) ?_
  refine fs ?_
  refine AWp.seq' ?_
  refine sr (N' := 448) rfl ?_
  refine pu rfl (by simp only [go_sem, Nat.reduceBEq]; try with_reducible rfl) ?_
  refine hp (id := 385) rfl rfl (aheap_range Try.underlying9 (by try simp only [go_sem, Nat.reduceBEq]; try rfl) (by simp only [isFresh_upd, isFresh_no, Nat.reduceBEq, cond_true, cond_false])) ?_
  refine fs ?_
  refine AWp.block ?_
  refine AWp.loopM (fun m s => ∃ (text_0 : ByteArray) (lines_5 : List (List ByteArray)) (line_6 : List ByteArray) (start_7 : Int) (remark_8 : Bool) (ahead_9 : Int) (t14s : ByteArray) (t14p : Nat), s = (⟨80, (fset (fset (fset (fset (fset (fset (fset (fun _ => AV.any) 0 (.v (.string text_0))) 5 (.own 1 0 lines_5.length)) 6 (.own 2 0 line_6.length)) 7 (.v (.int .i64 start_7))) 8 (.v (.bool remark_8))) 9 (.v (.int .i64 ahead_9))) 14 (.adr 3 0)), ⟨(upd (upd (upd nofresh 1 (.cells 1 (lines_5.flatMap (csl cstr)) 0)) 2 (.cells 1 (line_6.flatMap cstr) 0)) 3 (.iter t14s t14p)), 64⟩⟩ : St) ∧ lexLines_L1 m text_0 lines_5 line_6 start_7 remark_8 ahead_9 t14s t14p = some r) FUEL ?_ ?_ ?_
  · rintro s ⟨_, _, _, _, _, _, _, _, _, h⟩
    cases h
  · refine ⟨_, ?_, text_0, [], [], (-1), false, 0, text_0, 0, rfl, hm⟩
    refine St.Le.trans (le_nil 5 900005 1 (by try simp only [go_sem, Nat.reduceBEq]; try rfl) (by simp only [isFresh_upd, isFresh_no, Nat.reduceBEq, cond_true, cond_false])) ?_
    refine St.Le.trans (le_nil 6 900006 1 (by try simp only [go_sem, Nat.reduceBEq]; try rfl) (by simp only [isFresh_upd, isFresh_no, Nat.reduceBEq, cond_true, cond_false])) ?_
    exact le_canon (fun j => bif j == 1 then 900005 else bif j == 2 then 900006 else bif j == 3 then 385 else 0) (wk_fset _ _ (wk_adr (by try simp only [go_sem, Nat.reduceBEq]; try rfl) rfl (by simp [upd])) (wk_fset _ _ (wk_data (by try simp only [go_sem, Nat.reduceBEq]; try rfl) (.v _)) (wk_fset _ _ (wk_data (by try simp only [go_sem, Nat.reduceBEq]; try rfl) (.v _)) (wk_fset _ _ (wk_data (by try simp only [go_sem, Nat.reduceBEq]; try rfl) (.v _)) (wk_fset _ _ (wk_own (by try simp only [go_sem, Nat.reduceBEq]; try rfl) (by first | rfl | omega) rfl (by simp [upd])) (wk_fset _ _ (wk_own (by try simp only [go_sem, Nat.reduceBEq]; try rfl) (by first | rfl | omega) rfl (by simp [upd])) (wk_fset _ _ (wk_data (by try simp only [go_sem, Nat.reduceBEq]; try rfl) (.v _)) wk_none))))))) (heapWk_of _ (entWk_upd (entWk_iter (by simp only [upd_beq, Nat.reduceBEq, cond_true, cond_false]; try rfl)) (entWk_upd (ent_fm CFs (by simp only [upd_beq, Nat.reduceBEq, cond_true, cond_false]; try rfl) rfl) (entWk_upd (ent_fm (CFl CFs) (by simp only [upd_beq, Nat.reduceBEq, cond_true, cond_false]; try rfl) rfl) entWk_none))) (by repeat' (first | exact inj_none | exact liv_none | refine inj_upd ?_ ?_ | refine liv_upd ?_ ?_ | exact .inl rfl | exact .inr (by decide))))
  · rintro n1 s ⟨text_0, lines_5, line_6, start_7, remark_8, ahead_9, t14s, t14p, rfl, hm⟩
    replace hm : lexLines_B1 (lexLines_L1 n1) text_0 lines_5 line_6 start_7 remark_8 ahead_9 t14s t14p = some r := hm
    unfold lexLines_B1 at hm
    refine sr (N' := 128) rfl ?_
    refine split_m hm (fun h1 hm => ?_) (fun h1 hm => ?_)
    · refine hp (id := 64) rfl rfl (aheap_next_yes (by try simp only [go_sem, Nat.reduceBEq]; try rfl) (by simp only [upd_beq, Nat.reduceBEq, cond_true, cond_false]; try rfl) (of_decide_eq_true h1)) ?_
      refine pu rfl (by simp only [go_sem, Nat.reduceBEq]; try with_reducible rfl) ?_
      refine fs ?_
      refine AWp.seq' ?_
      refine AWp.condT (by try simp only [go_sem, Nat.reduceBEq]; try rfl) ?_
      refine AWp.skip ?_
      refine normSeq ?_
      refine AWp.block ?_
      refine sr (N' := 192) rfl ?_
      iterate 4 refine pu rfl (by simp only [go_sem, Nat.reduceBEq]; try with_reducible rfl) ?_
      refine fs ?_
      refine sr (N' := 256) rfl ?_
      iterate 4 (first | refine pu rfl (by simp only [go_sem, Nat.reduceBEq]; try with_reducible rfl) ?_ | refine pg rfl rfl (by simp only [go_sem, Nat.reduceBEq]; try with_reducible rfl) (by intro hb; simp only [go_sem, Nat.reduceBEq, hb, Bool.true_and]; try with_reducible rfl) ?_)
      obtain ⟨r3, h2, hm⟩ := bnd hm
      refine ARun.callQG (r := .v (.bool r3)) (by decide) rfl (by simp only [go_sem, Nat.reduceBEq]; try with_reducible rfl) (by try simp only [go_sem, Nat.reduceBEq]; try rfl) fb25 (fun hb H => (.cons (td (by try simp only [go_sem, Nat.reduceBEq, hb, Bool.true_and]; try rfl) (.v _)) .nil)) (fun hb => isLetter_c (gopt_t h2 hb)) ?_
      iterate 2 refine pu rfl (by simp only [go_sem, Nat.reduceBEq]; try with_reducible rfl) ?_
      refine fs ?_
      refine AWp.seqJ (fun s => ∃ (text_0 : ByteArray) (lines_5 : List (List ByteArray)) (line_6 : List ByteArray) (start_7 : Int) (remark_8 : Bool) (ahead_9 : Int) (i_10 : Int) (r_11 : Int) (letter_12 : Bool) (t14s : ByteArray) (t14p : Nat), s = (⟨80, (fset (fset (fset (fset (fset (fset (fset (fset (fset (fset (fun _ => AV.any) 0 (.v (.string text_0))) 5 (.own 1 0 lines_5.length)) 6 (.own 2 0 line_6.length)) 7 (.v (.int .i64 start_7))) 8 (.v (.bool remark_8))) 9 (.v (.int .i64 ahead_9))) 10 (.v (.int .i64 i_10))) 11 (.v (.int .i32 r_11))) 12 (.v (.bool letter_12))) 14 (.adr 3 0)), ⟨(upd (upd (upd nofresh 1 (.cells 1 (lines_5.flatMap (csl cstr)) 0)) 2 (.cells 1 (line_6.flatMap cstr) 0)) 3 (.iter t14s t14p)), 64⟩⟩ : St) ∧ lexLines_J1 (lexLines_L1 n1) text_0 lines_5 line_6 start_7 remark_8 ahead_9 i_10 r_11 letter_12 t14s t14p = some r) ?_ ?_
      · refine sr (N' := 320) rfl ?_
        iterate 6 (first | refine pu rfl (by simp only [go_sem, Nat.reduceBEq]; try with_reducible rfl) ?_ | refine pg rfl rfl (by simp only [go_sem, Nat.reduceBEq]; try with_reducible rfl) (by intro hb; simp only [go_sem, Nat.reduceBEq, hb, Bool.true_and]; try with_reducible rfl) ?_)
        refine fs ?_
        refine AWp.condM hm (by try simp only [go_sem, Nat.reduceBEq]; try rfl) (fun _ hm => ?_) (fun _ hm => ?_)
        · refine sr (N' := 384) rfl ?_
          iterate 4 refine pu rfl (by simp only [go_sem, Nat.reduceBEq]; try with_reducible rfl) ?_
          obtain ⟨l7, h6, hm⟩ := bnd hm
          refine pu rfl (ap_sslc Try.underlying9 (by try simp only [go_sem, Nat.reduceBEq]; try rfl) (ab_some (by try simp only [go_sem, Nat.reduceBEq]; try rfl) (sslc_0 h6).1) (ab_some (by try simp only [go_sem, Nat.reduceBEq]; try rfl) (sslc_0 h6).2) h6) ?_
          refine hp (id := 325) rfl rfl (ah_list CFs (l := [l7]) Try.underlying45 sz9 zc9 (by simp only [isFresh_upd, isFresh_no, Nat.reduceBEq, cond_true, cond_false]) (by decide) (by decide) (by decide) (by simp only [go_sem, Nat.reduceBEq]; try rfl) (by kernel_rfl)) ?_
          obtain ⟨l9, h8, hm⟩ := bnd hm
          refine hp (id := 326) rfl rfl (ah_app CFs Try.underlying45 Try.underlying45 rfl in9 ts9 (by rw [tb9]; decide) (by rw [tb9]; decide) tz9 (by decide) (by decide) (by try simp only [go_sem, Nat.reduceBEq]; try rfl) (by simp only [upd_beq, Nat.reduceBEq, cond_true, cond_false]; try rfl) (by first | rfl | omega) (as_own CFs (by try simp only [go_sem, Nat.reduceBEq]; try rfl) (by simp only [upd_beq, Nat.reduceBEq, cond_true, cond_false]; try rfl) (by first | rfl | omega)) rfl (by simp only [isFresh_upd, isFresh_no, Nat.reduceBEq, cond_true, cond_false]) h8) ?_
          refine pu rfl (by simp only [go_sem, Nat.reduceBEq]; try with_reducible rfl) ?_
          refine fs ?_
          refine AWp.reg 64 (N' := 448) rfl ?_
          refine pu rfl (by simp only [go_sem, Nat.reduceBEq]; try with_reducible rfl) ?_
          refine ARun.fin ?_
          refine normJ ?_
          refine ⟨_, ?_, text_0, lines_5, l9, (-1), remark_8, ahead_9, ((t14p : Nat) : Int), (((Utf8.decode t14s t14p).1 : Nat) : Int), ((!remark_8) && r3), t14s, (t14p + (Utf8.decode t14s t14p).2), rfl, hm⟩
          exact le_canon (fun j => bif j == 1 then 1 else bif j == 2 then 326 else bif j == 3 then 3 else 0) (wk_fset _ _ (wk_adr (by try simp only [go_sem, Nat.reduceBEq]; try rfl) rfl (by simp [upd])) (wk_fset _ _ (wk_data (by try simp only [go_sem, Nat.reduceBEq]; try rfl) (.v _)) (wk_fset _ _ (wk_data (by try simp only [go_sem, Nat.reduceBEq]; try rfl) (.v _)) (wk_fset _ _ (wk_data (by try simp only [go_sem, Nat.reduceBEq]; try rfl) (.v _)) (wk_fset _ _ (wk_data (by try simp only [go_sem, Nat.reduceBEq]; try rfl) (.v _)) (wk_fset _ _ (wk_data (by try simp only [go_sem, Nat.reduceBEq]; try rfl) (.v _)) (wk_fset _ _ (wk_data (by try simp only [go_sem, Nat.reduceBEq]; try rfl) (.v _)) (wk_fset _ _ (wk_own (by try simp only [go_sem, Nat.reduceBEq]; try rfl) (by first | rfl | omega) rfl (by simp [upd])) (wk_fset _ _ (wk_own (by try simp only [go_sem, Nat.reduceBEq]; try rfl) (by first | rfl | omega) rfl (by simp [upd])) (wk_fset _ _ (wk_data (by try simp only [go_sem, Nat.reduceBEq]; try rfl) (.v _)) wk_none)))))))))) (heapWk_of _ (entWk_upd (entWk_iter (by simp only [upd_beq, Nat.reduceBEq, cond_true, cond_false]; try rfl)) (entWk_upd (ent_fm CFs (by simp only [upd_beq, Nat.reduceBEq, cond_true, cond_false]; try rfl) rfl) (entWk_upd (ent_fm (CFl CFs) (by simp only [upd_beq, Nat.reduceBEq, cond_true, cond_false]; try rfl) rfl) entWk_none))) (by repeat' (first | exact inj_none | exact liv_none | refine inj_upd ?_ ?_ | refine liv_upd ?_ ?_ | exact .inl rfl | exact .inr (by decide))))
        · refine AWp.skip ?_
          refine normJ ?_
          refine ⟨_, ?_, text_0, lines_5, line_6, start_7, remark_8, ahead_9, ((t14p : Nat) : Int), (((Utf8.decode t14s t14p).1 : Nat) : Int), ((!remark_8) && r3), t14s, (t14p + (Utf8.decode t14s t14p).2), rfl, hm⟩
          exact le_canon (fun j => bif j == 1 then 1 else bif j == 2 then 2 else bif j == 3 then 3 else 0) (wk_fset _ _ (wk_adr (by try simp only [go_sem, Nat.reduceBEq]; try rfl) rfl (by simp [upd])) (wk_fset _ _ (wk_data (by try simp only [go_sem, Nat.reduceBEq]; try rfl) (.v _)) (wk_fset _ _ (wk_data (by try simp only [go_sem, Nat.reduceBEq]; try rfl) (.v _)) (wk_fset _ _ (wk_data (by try simp only [go_sem, Nat.reduceBEq]; try rfl) (.v _)) (wk_fset _ _ (wk_data (by try simp only [go_sem, Nat.reduceBEq]; try rfl) (.v _)) (wk_fset _ _ (wk_data (by try simp only [go_sem, Nat.reduceBEq]; try rfl) (.v _)) (wk_fset _ _ (wk_data (by try simp only [go_sem, Nat.reduceBEq]; try rfl) (.v _)) (wk_fset _ _ (wk_own (by try simp only [go_sem, Nat.reduceBEq]; try rfl) (by first | rfl | omega) rfl (by simp [upd])) (wk_fset _ _ (wk_own (by try simp only [go_sem, Nat.reduceBEq]; try rfl) (by first | rfl | omega) rfl (by simp [upd])) (wk_fset _ _ (wk_data (by try simp only [go_sem, Nat.reduceBEq]; try rfl) (.v _)) wk_none)))))))))) (heapWk_of _ (entWk_upd (entWk_iter (by simp only [upd_beq, Nat.reduceBEq, cond_true, cond_false]; try rfl)) (entWk_upd (ent_fm CFs (by simp only [upd_beq, Nat.reduceBEq, cond_true, cond_false]; try rfl) rfl) (entWk_upd (ent_fm (CFl CFs) (by simp only [upd_beq, Nat.reduceBEq, cond_true, cond_false]; try rfl) rfl) entWk_none))) (by repeat' (first | exact inj_none | exact liv_none | refine inj_upd ?_ ?_ | refine liv_upd ?_ ?_ | exact .inl rfl | exact .inr (by decide))))
      · rintro s ⟨text_0, lines_5, line_6, start_7, remark_8, ahead_9, i_10, r_11, letter_12, t14s, t14p, rfl, hm⟩
        unfold lexLines_J1 at hm
        refine AWp.seqJ (fun s => ∃ (text_0 : ByteArray) (lines_5 : List (List ByteArray)) (line_6 : List ByteArray) (start_7 : Int) (remark_8 : Bool) (ahead_9 : Int) (t14s : ByteArray) (t14p : Nat), s = (⟨80, (fset (fset (fset (fset (fset (fset (fset (fun _ => AV.any) 0 (.v (.string text_0))) 5 (.own 1 0 lines_5.length)) 6 (.own 2 0 line_6.length)) 7 (.v (.int .i64 start_7))) 8 (.v (.bool remark_8))) 9 (.v (.int .i64 ahead_9))) 14 (.adr 3 0)), ⟨(upd (upd (upd nofresh 1 (.cells 1 (lines_5.flatMap (csl cstr)) 0)) 2 (.cells 1 (line_6.flatMap cstr) 0)) 3 (.iter t14s t14p)), 64⟩⟩ : St) ∧ lexLines_J2 (lexLines_L1 n1) text_0 lines_5 line_6 start_7 remark_8 ahead_9 t14s t14p = some r) ?_ ?_
        · refine AWp.block ?_
          refine sr (N' := 128) rfl ?_
          iterate 3 refine pu rfl (by simp only [go_sem, Nat.reduceBEq]; try with_reducible rfl) ?_
          refine fs ?_
          refine AWp.condM hm (by try simp only [go_sem, Nat.reduceBEq]; try rfl) (fun _ hm => ?_) (fun _ hm => ?_)
          · refine AWp.seq' ?_
            refine AWp.weaken (le_lock CFs 6 2 (by try simp only [go_sem, Nat.reduceBEq]; try rfl) (by simp only [upd_beq, Nat.reduceBEq, cond_true, cond_false]; try rfl) (by first | rfl | omega)) ?_
            refine AWp.reg 64 (N' := 192) rfl ?_
            iterate 2 refine pu rfl (by simp only [go_sem, Nat.reduceBEq]; try with_reducible rfl) ?_
            refine hp (id := 130) rfl rfl (ah_list (CFl CFs) (l := [line_6]) Try.underlying23 sz45 zc45 (by simp only [isFresh_upd, isFresh_no, Nat.reduceBEq, cond_true, cond_false]) (by decide) (by decide) (by decide) (by simp only [go_sem, Nat.reduceBEq]; try rfl) (by kernel_rfl)) ?_
            obtain ⟨l5, h4, hm⟩ := bnd hm
            refine hp (id := 131) rfl rfl (ah_app (CFl CFs) Try.underlying23 Try.underlying23 rfl in45 ts45 (by rw [tb45]; decide) (by rw [tb45]; decide) tz45 (by decide) (by decide) (by try simp only [go_sem, Nat.reduceBEq]; try rfl) (by simp only [upd_beq, Nat.reduceBEq, cond_true, cond_false]; try rfl) (by first | rfl | omega) (as_own (CFl CFs) (by try simp only [go_sem, Nat.reduceBEq]; try rfl) (by simp only [upd_beq, Nat.reduceBEq, cond_true, cond_false]; try rfl) (by first | rfl | omega)) rfl (by simp only [isFresh_upd, isFresh_no, Nat.reduceBEq, cond_true, cond_false]) h4) ?_
            refine pu rfl (by simp only [go_sem, Nat.reduceBEq]; try with_reducible rfl) ?_
            refine fs ?_
            refine sr (N' := 256) rfl ?_
            refine pu rfl (by simp only [go_sem, Nat.reduceBEq]; try with_reducible rfl) ?_
            refine fs ?_
            refine AWp.reg 64 (N' := 320) rfl ?_
            refine pu rfl (by simp only [go_sem, Nat.reduceBEq]; try with_reducible rfl) ?_
            refine ARun.fin ?_
            refine normIn ?_
            refine normJ ?_
            refine ⟨_, ?_, text_0, l5, [], start_7, false, ahead_9, t14s, t14p, rfl, hm⟩
            refine St.Le.trans (le_nil 6 900006 1 (by try simp only [go_sem, Nat.reduceBEq]; try rfl) (by simp only [isFresh_upd, isFresh_no, Nat.reduceBEq, cond_true, cond_false])) ?_
            exact le_canon (fun j => bif j == 1 then 131 else bif j == 2 then 900006 else bif j == 3 then 3 else 0) (wk_fset _ _ (wk_adr (by try simp only [go_sem, Nat.reduceBEq]; try rfl) rfl (by simp [upd])) (wk_fset _ _ (wk_data (by try simp only [go_sem, Nat.reduceBEq]; try rfl) (.v _)) (wk_fset _ _ (wk_data (by try simp only [go_sem, Nat.reduceBEq]; try rfl) (.v _)) (wk_fset _ _ (wk_data (by try simp only [go_sem, Nat.reduceBEq]; try rfl) (.v _)) (wk_fset _ _ (wk_own (by try simp only [go_sem, Nat.reduceBEq]; try rfl) (by first | rfl | omega) rfl (by simp [upd])) (wk_fset _ _ (wk_own (by try simp only [go_sem, Nat.reduceBEq]; try rfl) (by first | rfl | omega) rfl (by simp [upd])) (wk_fset _ _ (wk_data (by try simp only [go_sem, Nat.reduceBEq]; try rfl) (.v _)) wk_none))))))) (heapWk_of _ (entWk_upd (entWk_iter (by simp only [upd_beq, Nat.reduceBEq, cond_true, cond_false]; try rfl)) (entWk_upd (ent_fm CFs (by simp only [upd_beq, Nat.reduceBEq, cond_true, cond_false]; try rfl) rfl) (entWk_upd (ent_fm (CFl CFs) (by simp only [upd_beq, Nat.reduceBEq, cond_true, cond_false]; try rfl) rfl) entWk_none))) (by repeat' (first | exact inj_none | exact liv_none | refine inj_upd ?_ ?_ | refine liv_upd ?_ ?_ | exact .inl rfl | exact .inr (by decide))))
          · refine sr (N' := 192) rfl ?_
            iterate 10 (first | refine pu rfl (by simp only [go_sem, Nat.reduceBEq]; try with_reducible rfl) ?_ | refine pg rfl rfl (by simp only [go_sem, Nat.reduceBEq]; try with_reducible rfl) (by intro hb; simp only [go_sem, Nat.reduceBEq, hb, Bool.true_and]; try with_reducible rfl) ?_)
            refine fs ?_
            refine AWp.condM hm (by try simp only [go_sem, Nat.reduceBEq]; try rfl) (fun _ hm => ?_) (fun _ hm => ?_)
            · refine AWp.skip ?_
              refine normIn ?_
              refine normJ ?_
              refine ⟨_, ?_, text_0, lines_5, line_6, start_7, remark_8, ahead_9, t14s, t14p, rfl, hm⟩
              exact le_canon (fun j => bif j == 1 then 1 else bif j == 2 then 2 else bif j == 3 then 3 else 0) (wk_fset _ _ (wk_adr (by try simp only [go_sem, Nat.reduceBEq]; try rfl) rfl (by simp [upd])) (wk_fset _ _ (wk_data (by try simp only [go_sem, Nat.reduceBEq]; try rfl) (.v _)) (wk_fset _ _ (wk_data (by try simp only [go_sem, Nat.reduceBEq]; try rfl) (.v _)) (wk_fset _ _ (wk_data (by try simp only [go_sem, Nat.reduceBEq]; try rfl) (.v _)) (wk_fset _ _ (wk_own (by try simp only [go_sem, Nat.reduceBEq]; try rfl) (by first | rfl | omega) rfl (by simp [upd])) (wk_fset _ _ (wk_own (by try simp only [go_sem, Nat.reduceBEq]; try rfl) (by first | rfl | omega) rfl (by simp [upd])) (wk_fset _ _ (wk_data (by try simp only [go_sem, Nat.reduceBEq]; try rfl) (.v _)) wk_none))))))) (heapWk_of _ (entWk_upd (entWk_iter (by simp only [upd_beq, Nat.reduceBEq, cond_true, cond_false]; try rfl)) (entWk_upd (ent_fm CFs (by simp only [upd_beq, Nat.reduceBEq, cond_true, cond_false]; try rfl) rfl) (entWk_upd (ent_fm (CFl CFs) (by simp only [upd_beq, Nat.reduceBEq, cond_true, cond_false]; try rfl) rfl) entWk_none))) (by repeat' (first | exact inj_none | exact liv_none | refine inj_upd ?_ ?_ | refine liv_upd ?_ ?_ | exact .inl rfl | exact .inr (by decide))))
            · refine sr (N' := 256) rfl ?_
              iterate 3 refine pu rfl (by simp only [go_sem, Nat.reduceBEq]; try with_reducible rfl) ?_
              refine fs ?_
              refine AWp.condM hm (by try simp only [go_sem, Nat.reduceBEq]; try rfl) (fun _ hm => ?_) (fun _ hm => ?_)
              · refine AWp.reg 64 (N' := 320) rfl ?_
                refine pu rfl (by simp only [go_sem, Nat.reduceBEq]; try with_reducible rfl) ?_
                refine ARun.fin ?_
                refine normIn ?_
                refine normJ ?_
                refine ⟨_, ?_, text_0, lines_5, line_6, start_7, true, ahead_9, t14s, t14p, rfl, hm⟩
                exact le_canon (fun j => bif j == 1 then 1 else bif j == 2 then 2 else bif j == 3 then 3 else 0) (wk_fset _ _ (wk_adr (by try simp only [go_sem, Nat.reduceBEq]; try rfl) rfl (by simp [upd])) (wk_fset _ _ (wk_data (by try simp only [go_sem, Nat.reduceBEq]; try rfl) (.v _)) (wk_fset _ _ (wk_data (by try simp only [go_sem, Nat.reduceBEq]; try rfl) (.v _)) (wk_fset _ _ (wk_data (by try simp only [go_sem, Nat.reduceBEq]; try rfl) (.v _)) (wk_fset _ _ (wk_own (by try simp only [go_sem, Nat.reduceBEq]; try rfl) (by first | rfl | omega) rfl (by simp [upd])) (wk_fset _ _ (wk_own (by try simp only [go_sem, Nat.reduceBEq]; try rfl) (by first | rfl | omega) rfl (by simp [upd])) (wk_fset _ _ (wk_data (by try simp only [go_sem, Nat.reduceBEq]; try rfl) (.v _)) wk_none))))))) (heapWk_of _ (entWk_upd (entWk_iter (by simp only [upd_beq, Nat.reduceBEq, cond_true, cond_false]; try rfl)) (entWk_upd (ent_fm CFs (by simp only [upd_beq, Nat.reduceBEq, cond_true, cond_false]; try rfl) rfl) (entWk_upd (ent_fm (CFl CFs) (by simp only [upd_beq, Nat.reduceBEq, cond_true, cond_false]; try rfl) rfl) entWk_none))) (by repeat' (first | exact inj_none | exact liv_none | refine inj_upd ?_ ?_ | refine liv_upd ?_ ?_ | exact .inl rfl | exact .inr (by decide))))
              · refine sr (N' := 320) rfl ?_
                iterate 3 refine pu rfl (by simp only [go_sem, Nat.reduceBEq]; try with_reducible rfl) ?_
                refine fs ?_
                refine AWp.condM hm (by try simp only [go_sem, Nat.reduceBEq]; try rfl) (fun _ hm => ?_) (fun _ hm => ?_)
                · refine sr (N' := 384) rfl ?_
                  iterate 4 refine pu rfl (by simp only [go_sem, Nat.reduceBEq]; try with_reducible rfl) ?_
                  refine fs ?_
                  refine AWp.ret ?_
                  refine retIn ?_
                  refine retJ ?_
                  refine retIn ?_
                  refine retThen ?_
                  refine retIn ?_
                  refine retSeq ?_
                  cases hm
                  exact ret3D (.inr rfl) Try.results12 (tdn (by try simp only [go_sem, Nat.reduceBEq]; try rfl)) (td (by try simp only [go_sem, Nat.reduceBEq]; try rfl) (.v _)) (td (by try simp only [go_sem, Nat.reduceBEq]; try rfl) (.v _))
                · refine sr (N' := 384) rfl ?_
                  iterate 3 refine pu rfl (by simp only [go_sem, Nat.reduceBEq]; try with_reducible rfl) ?_
                  refine fs ?_
                  refine AWp.condM hm (by try simp only [go_sem, Nat.reduceBEq]; try rfl) (fun _ hm => ?_) (fun _ hm => ?_)
                  · refine AWp.reg 64 (N' := 448) rfl ?_
                    iterate 2 refine pu rfl (by simp only [go_sem, Nat.reduceBEq]; try with_reducible rfl) ?_
                    refine ARun.fin ?_
                    refine normIn ?_
                    refine normJ ?_
                    refine ⟨_, ?_, text_0, lines_5, line_6, i_10, remark_8, ahead_9, t14s, t14p, rfl, hm⟩
                    exact le_canon (fun j => bif j == 1 then 1 else bif j == 2 then 2 else bif j == 3 then 3 else 0) (wk_fset _ _ (wk_adr (by try simp only [go_sem, Nat.reduceBEq]; try rfl) rfl (by simp [upd])) (wk_fset _ _ (wk_data (by try simp only [go_sem, Nat.reduceBEq]; try rfl) (.v _)) (wk_fset _ _ (wk_data (by try simp only [go_sem, Nat.reduceBEq]; try rfl) (.v _)) (wk_fset _ _ (wk_data (by try simp only [go_sem, Nat.reduceBEq]; try rfl) (.v _)) (wk_fset _ _ (wk_own (by try simp only [go_sem, Nat.reduceBEq]; try rfl) (by first | rfl | omega) rfl (by simp [upd])) (wk_fset _ _ (wk_own (by try simp only [go_sem, Nat.reduceBEq]; try rfl) (by first | rfl | omega) rfl (by simp [upd])) (wk_fset _ _ (wk_data (by try simp only [go_sem, Nat.reduceBEq]; try rfl) (.v _)) wk_none))))))) (heapWk_of _ (entWk_upd (entWk_iter (by simp only [upd_beq, Nat.reduceBEq, cond_true, cond_false]; try rfl)) (entWk_upd (ent_fm CFs (by simp only [upd_beq, Nat.reduceBEq, cond_true, cond_false]; try rfl) rfl) (entWk_upd (ent_fm (CFl CFs) (by simp only [upd_beq, Nat.reduceBEq, cond_true, cond_false]; try rfl) rfl) entWk_none))) (by repeat' (first | exact inj_none | exact liv_none | refine inj_upd ?_ ?_ | refine liv_upd ?_ ?_ | exact .inl rfl | exact .inr (by decide))))
                  · refine AWp.skip ?_
                    refine normIn ?_
                    refine normJ ?_
                    refine ⟨_, ?_, text_0, lines_5, line_6, start_7, remark_8, ahead_9, t14s, t14p, rfl, hm⟩
                    exact le_canon (fun j => bif j == 1 then 1 else bif j == 2 then 2 else bif j == 3 then 3 else 0) (wk_fset _ _ (wk_adr (by try simp only [go_sem, Nat.reduceBEq]; try rfl) rfl (by simp [upd])) (wk_fset _ _ (wk_data (by try simp only [go_sem, Nat.reduceBEq]; try rfl) (.v _)) (wk_fset _ _ (wk_data (by try simp only [go_sem, Nat.reduceBEq]; try rfl) (.v _)) (wk_fset _ _ (wk_data (by try simp only [go_sem, Nat.reduceBEq]; try rfl) (.v _)) (wk_fset _ _ (wk_own (by try simp only [go_sem, Nat.reduceBEq]; try rfl) (by first | rfl | omega) rfl (by simp [upd])) (wk_fset _ _ (wk_own (by try simp only [go_sem, Nat.reduceBEq]; try rfl) (by first | rfl | omega) rfl (by simp [upd])) (wk_fset _ _ (wk_data (by try simp only [go_sem, Nat.reduceBEq]; try rfl) (.v _)) wk_none))))))) (heapWk_of _ (entWk_upd (entWk_iter (by simp only [upd_beq, Nat.reduceBEq, cond_true, cond_false]; try rfl)) (entWk_upd (ent_fm CFs (by simp only [upd_beq, Nat.reduceBEq, cond_true, cond_false]; try rfl) rfl) (entWk_upd (ent_fm (CFl CFs) (by simp only [upd_beq, Nat.reduceBEq, cond_true, cond_false]; try rfl) rfl) entWk_none))) (by repeat' (first | exact inj_none | exact liv_none | refine inj_upd ?_ ?_ | refine liv_upd ?_ ?_ | exact .inl rfl | exact .inr (by decide))))
        · rintro s ⟨text_0, lines_5, line_6, start_7, remark_8, ahead_9, t14s, t14p, rfl, hm⟩
          unfold lexLines_J2 at hm
          refine AWp.reg 64 (N' := 128) rfl ?_
          iterate 3 refine pu rfl (by simp only [go_sem, Nat.reduceBEq]; try with_reducible rfl) ?_
          refine ARun.fin ?_
          refine normIn ?_
          refine normThen ?_
          refine ⟨_, ?_, text_0, lines_5, line_6, start_7, remark_8, (IntKind.i64.wrap (ahead_9 + 1)), t14s, t14p, rfl, hm⟩
          exact le_canon (fun j => bif j == 1 then 1 else bif j == 2 then 2 else bif j == 3 then 3 else 0) (wk_fset _ _ (wk_adr (by try simp only [go_sem, Nat.reduceBEq]; try rfl) rfl (by simp [upd])) (wk_fset _ _ (wk_data (by try simp only [go_sem, Nat.reduceBEq]; try rfl) (.v _)) (wk_fset _ _ (wk_data (by try simp only [go_sem, Nat.reduceBEq]; try rfl) (.v _)) (wk_fset _ _ (wk_data (by try simp only [go_sem, Nat.reduceBEq]; try rfl) (.v _)) (wk_fset _ _ (wk_own (by try simp only [go_sem, Nat.reduceBEq]; try rfl) (by first | rfl | omega) rfl (by simp [upd])) (wk_fset _ _ (wk_own (by try simp only [go_sem, Nat.reduceBEq]; try rfl) (by first | rfl | omega) rfl (by simp [upd])) (wk_fset _ _ (wk_data (by try simp only [go_sem, Nat.reduceBEq]; try rfl) (.v _)) wk_none))))))) (heapWk_of _ (entWk_upd (entWk_iter (by simp only [upd_beq, Nat.reduceBEq, cond_true, cond_false]; try rfl)) (entWk_upd (ent_fm CFs (by simp only [upd_beq, Nat.reduceBEq, cond_true, cond_false]; try rfl) rfl) (entWk_upd (ent_fm (CFl CFs) (by simp only [upd_beq, Nat.reduceBEq, cond_true, cond_false]; try rfl) rfl) entWk_none))) (by repeat' (first | exact inj_none | exact liv_none | refine inj_upd ?_ ?_ | refine liv_upd ?_ ?_ | exact .inl rfl | exact .inr (by decide))))
    · refine hp (id := 64) rfl rfl (aheap_next_no (by try simp only [go_sem, Nat.reduceBEq]; try rfl) (by simp only [upd_beq, Nat.reduceBEq, cond_true, cond_false]; try rfl) (of_decide_eq_false h1)) ?_
      refine pu rfl (by simp only [go_sem, Nat.reduceBEq]; try with_reducible rfl) ?_
      refine fs ?_
      refine AWp.seq' ?_
      refine AWp.condF (by try simp only [go_sem, Nat.reduceBEq]; try rfl) ?_
      refine AWp.exit ?_
      refine exitSeq ?_
      refine exitThen ?_
      refine exitHere ?_
      refine normSeq ?_
      refine AWp.seqJ (fun s => ∃ (lines_5 : List (List ByteArray)) (line_6 : List ByteArray), s = (⟨80, (fset (fset (fun _ => AV.any) 5 (.own 1 0 lines_5.length)) 6 (.own 2 0 line_6.length)), ⟨(upd (upd nofresh 1 (.cells 1 (lines_5.flatMap (csl cstr)) 0)) 2 (.cells 1 (line_6.flatMap cstr) 0)), 64⟩⟩ : St) ∧ lexLines_J3 lines_5 line_6 = some r) ?_ ?_
      · refine sr (N' := 192) rfl ?_
        iterate 2 refine pu rfl (by simp only [go_sem, Nat.reduceBEq]; try with_reducible rfl) ?_
        refine fs ?_
        refine AWp.condM hm (by try simp only [go_sem, Nat.reduceBEq]; try rfl) (fun _ hm => ?_) (fun _ hm => ?_)
        · refine AWp.reg 64 (N' := 256) rfl ?_
          iterate 3 refine pu rfl (by simp only [go_sem, Nat.reduceBEq]; try with_reducible rfl) ?_
          obtain ⟨l13, h12, hm⟩ := bnd hm
          refine pu rfl (ap_sslc Try.underlying9 (by try simp only [go_sem, Nat.reduceBEq]; try rfl) (ab_some (by try simp only [go_sem, Nat.reduceBEq]; try rfl) (sslc_0 h12).1) (ab_none _) h12) ?_
          refine hp (id := 196) rfl rfl (ah_list CFs (l := [l13]) Try.underlying45 sz9 zc9 (by simp only [isFresh_upd, isFresh_no, Nat.reduceBEq, cond_true, cond_false]) (by decide) (by decide) (by decide) (by simp only [go_sem, Nat.reduceBEq]; try rfl) (by kernel_rfl)) ?_
          obtain ⟨l15, h14, hm⟩ := bnd hm
          refine hp (id := 197) rfl rfl (ah_app CFs Try.underlying45 Try.underlying45 rfl in9 ts9 (by rw [tb9]; decide) (by rw [tb9]; decide) tz9 (by decide) (by decide) (by try simp only [go_sem, Nat.reduceBEq]; try rfl) (by simp only [upd_beq, Nat.reduceBEq, cond_true, cond_false]; try rfl) (by first | rfl | omega) (as_own CFs (by try simp only [go_sem, Nat.reduceBEq]; try rfl) (by simp only [upd_beq, Nat.reduceBEq, cond_true, cond_false]; try rfl) (by first | rfl | omega)) rfl (by simp only [isFresh_upd, isFresh_no, Nat.reduceBEq, cond_true, cond_false]) h14) ?_
          refine pu rfl (by simp only [go_sem, Nat.reduceBEq]; try with_reducible rfl) ?_
          refine ARun.fin ?_
          refine normJ ?_
          refine ⟨_, ?_, lines_5, l15, rfl, hm⟩
          exact le_canon (fun j => bif j == 1 then 1 else bif j == 2 then 197 else 0) (wk_fset _ _ (wk_own (by try simp only [go_sem, Nat.reduceBEq]; try rfl) (by first | rfl | omega) rfl (by simp [upd])) (wk_fset _ _ (wk_own (by try simp only [go_sem, Nat.reduceBEq]; try rfl) (by first | rfl | omega) rfl (by simp [upd])) wk_none)) (heapWk_of _ (entWk_upd (ent_fm CFs (by simp only [upd_beq, Nat.reduceBEq, cond_true, cond_false]; try rfl) rfl) (entWk_upd (ent_fm (CFl CFs) (by simp only [upd_beq, Nat.reduceBEq, cond_true, cond_false]; try rfl) rfl) entWk_none)) (by repeat' (first | exact inj_none | exact liv_none | refine inj_upd ?_ ?_ | refine liv_upd ?_ ?_ | exact .inl rfl | exact .inr (by decide))))
        · refine AWp.skip ?_
          refine normJ ?_
          refine ⟨_, ?_, lines_5, line_6, rfl, hm⟩
          exact le_canon (fun j => bif j == 1 then 1 else bif j == 2 then 2 else 0) (wk_fset _ _ (wk_own (by try simp only [go_sem, Nat.reduceBEq]; try rfl) (by first | rfl | omega) rfl (by simp [upd])) (wk_fset _ _ (wk_own (by try simp only [go_sem, Nat.reduceBEq]; try rfl) (by first | rfl | omega) rfl (by simp [upd])) wk_none)) (heapWk_of _ (entWk_upd (ent_fm CFs (by simp only [upd_beq, Nat.reduceBEq, cond_true, cond_false]; try rfl) rfl) (entWk_upd (ent_fm (CFl CFs) (by simp only [upd_beq, Nat.reduceBEq, cond_true, cond_false]; try rfl) rfl) entWk_none)) (by repeat' (first | exact inj_none | exact liv_none | refine inj_upd ?_ ?_ | refine liv_upd ?_ ?_ | exact .inl rfl | exact .inr (by decide))))
      · rintro s ⟨lines_5, line_6, rfl, hm⟩
        unfold lexLines_J3 at hm
        refine AWp.seq' ?_
        refine AWp.weaken (le_lock CFs 6 2 (by try simp only [go_sem, Nat.reduceBEq]; try rfl) (by simp only [upd_beq, Nat.reduceBEq, cond_true, cond_false]; try rfl) (by first | rfl | omega)) ?_
        refine AWp.reg 64 (N' := 128) rfl ?_
        iterate 2 refine pu rfl (by simp only [go_sem, Nat.reduceBEq]; try with_reducible rfl) ?_
        refine hp (id := 66) rfl rfl (ah_list (CFl CFs) (l := [line_6]) Try.underlying23 sz45 zc45 (by simp only [isFresh_upd, isFresh_no, Nat.reduceBEq, cond_true, cond_false]) (by decide) (by decide) (by decide) (by simp only [go_sem, Nat.reduceBEq]; try rfl) (by kernel_rfl)) ?_
        obtain ⟨l11, h10, hm⟩ := bnd hm
        refine hp (id := 67) rfl rfl (ah_app (CFl CFs) Try.underlying23 Try.underlying23 rfl in45 ts45 (by rw [tb45]; decide) (by rw [tb45]; decide) tz45 (by decide) (by decide) (by try simp only [go_sem, Nat.reduceBEq]; try rfl) (by simp only [upd_beq, Nat.reduceBEq, cond_true, cond_false]; try rfl) (by first | rfl | omega) (as_own (CFl CFs) (by try simp only [go_sem, Nat.reduceBEq]; try rfl) (by simp only [upd_beq, Nat.reduceBEq, cond_true, cond_false]; try rfl) (by first | rfl | omega)) rfl (by simp only [isFresh_upd, isFresh_no, Nat.reduceBEq, cond_true, cond_false]) h10) ?_
        iterate 3 refine pu rfl (by simp only [go_sem, Nat.reduceBEq]; try with_reducible rfl) ?_
        refine fs ?_
        refine AWp.ret ?_
        cases hm
        exact ret3D (.inr rfl) Try.results12 (tdo (CFl CFs) (by try simp only [go_sem, Nat.reduceBEq]; try rfl) (by simp only [upd_beq, Nat.reduceBEq, cond_true, cond_false]; try rfl) (by first | rfl | omega)) (td (by try simp only [go_sem, Nat.reduceBEq]; try rfl) (.v _)) (td (by try simp only [go_sem, Nat.reduceBEq]; try rfl) (.v _))
def lexNumber_B2 (rec2 : Int → ByteArray → Nat → Option (Int × Int)) (n_6 : Int) (t33s : ByteArray) (t33p : Nat) : Option (Int × Int) :=
  (bif (decide (t33p < t33s.size)) then
    (bif (decide ((IntKind.u64.wrap (Int.tdiv (IntKind.u64.wrap (18446744073709551615 - (IntKind.u64.wrap (IntKind.i32.wrap ((((Utf8.decode t33s t33p).1 : Nat) : Int) - 48))))) 10)) < n_6)) then
      some (0, 6)
    else
      rec2 (IntKind.u64.wrap ((IntKind.u64.wrap (n_6 * 10)) + (IntKind.u64.wrap (IntKind.i32.wrap ((((Utf8.decode t33s t33p).1 : Nat) : Int) - 48))))) t33s (t33p + (Utf8.decode t33s t33p).2))
  else
    some (n_6, 0))
def lexNumber_L2 : Nat → Int → ByteArray → Nat → Option (Int × Int)
  | 0 => fun _ _ _ => none
  | n + 1 => lexNumber_B2 (lexNumber_L2 n)
def lexNumber_B1 (rec1 : ByteArray → ByteArray → Nat → Option (Int × Int)) (word_0 : ByteArray) (t22s : ByteArray) (t22p : Nat) : Option (Int × Int) :=
  (bif (decide (t22p < t22s.size)) then
    (bif ((decide ((((Utf8.decode t22s t22p).1 : Nat) : Int) < 48)) || (decide (57 < (((Utf8.decode t22s t22p).1 : Nat) : Int)))) then
      some (0, 2)
    else
      rec1 word_0 t22s (t22p + (Utf8.decode t22s t22p).2))
  else
    lexNumber_L2 FUEL 0 word_0 0)
def lexNumber_L1 : Nat → ByteArray → ByteArray → Nat → Option (Int × Int)
  | 0 => fun _ _ _ => none
  | n + 1 => lexNumber_B1 (lexNumber_L1 n)
def lexNumber_m (word_0 : ByteArray) : Option (Int × Int) :=
  ((gopt ((decide (word_0 = ⟨#[]⟩)) == false) 0 (sidx word_0 0)).bind fun b2 =>
  (bif ((decide (word_0 = ⟨#[]⟩)) || ((b2 == 48) && (!decide (word_0 = ⟨#[48]⟩)))) then
    some (0, 2)
  else
    lexNumber_L1 FUEL word_0 word_0 0))
theorem lexNumber_c {word_0 : ByteArray} {r : Int × Int} (hm : lexNumber_m word_0 = some r) : PureC Try.prog 16 [.v (.string word_0)] (.tup [.v (.int .u64 r.1), .v (.int .i64 r.2)]) := by
  refine PureC.of_body Try.func16 rfl ?_
  simp only [Try.ntmps16, List.length_cons, List.length_nil, Nat.reduceAdd, Nat.reduceSub, empty_eq]
  unfold lexNumber_m at hm
  refine sr (N' := 64) rfl ?_
  iterate 2 refine pu rfl (by simp only [go_sem, Nat.reduceBEq]; try with_reducible rfl) ?_
  refine fs ?_
  refine AWp.seq' ?_
  refine sr (N' := 128) rfl ?_
  iterate 4 (first | refine pu rfl (by simp only [go_sem, Nat.reduceBEq]; try with_reducible rfl) ?_ | refine pg rfl rfl (by simp only [go_sem, Nat.reduceBEq]; try with_reducible rfl) (by intro hb; simp only [go_sem, Nat.reduceBEq, hb, Bool.true_and]; try with_reducible rfl) ?_)
  obtain ⟨b2, h1, hm⟩ := bnd hm
  refine pg rfl rfl (by simp only [go_sem, Nat.reduceBEq]; try with_reducible rfl) (fun hb => (ap_sidx Try.underlying9 (by try simp only [go_sem, Nat.reduceBEq, hb, Bool.true_and]; try rfl) (by try simp only [go_sem, Nat.reduceBEq, hb, Bool.true_and]; try rfl) (gopt_t h1 hb))) ?_
  iterate 6 (first | refine pu rfl (by simp only [go_sem, Nat.reduceBEq]; try with_reducible rfl) ?_ | refine pg rfl rfl (by simp only [go_sem, Nat.reduceBEq]; try with_reducible rfl) (by intro hb; simp only [go_sem, Nat.reduceBEq, hb, Bool.true_and]; try with_reducible rfl) ?_)
  refine fs ?_
  refine AWp.condM hm (by try simp only [go_sem, Nat.reduceBEq]; try rfl) (fun _ hm => ?_) (fun _ hm => ?_)
  · refine sr (N' := 192) rfl ?_
    iterate 2 refine pu rfl (by simp only [go_sem, Nat.reduceBEq]; try with_reducible rfl) ?_
    refine fs ?_
    refine AWp.ret ?_
    refine retSeq ?_
    cases hm
    exact ret2D (.inr rfl) Try.results16 (td (by try simp only [go_sem, Nat.reduceBEq]; try rfl) (.v _)) (td (by try simp only [go_sem, Nat.reduceBEq]; try rfl) (.v _))
  · refine AWp.skip ?_
    refine normSeq ?_
    refine AWp.seq' ?_
    refine sr (N' := 192) rfl ?_
    refine pu rfl (by simp only [go_sem, Nat.reduceBEq]; try with_reducible rfl) ?_
    refine hp (id := 129) rfl rfl (aheap_range Try.underlying9 (by try simp only [go_sem, Nat.reduceBEq]; try rfl) (by simp only [isFresh_upd, isFresh_no, Nat.reduceBEq, cond_true, cond_false])) ?_
    refine fs ?_
    refine AWp.block ?_
    refine AWp.loopM (fun m s => ∃ (word_0 : ByteArray) (t22s : ByteArray) (t22p : Nat), s = (⟨50, (fset (fset (fun _ => AV.any) 0 (.v (.string word_0))) 22 (.adr 1 0)), ⟨(upd nofresh 1 (.iter t22s t22p)), 64⟩⟩ : St) ∧ lexNumber_L1 m word_0 t22s t22p = some r) FUEL ?_ ?_ ?_
    · rintro s ⟨_, _, _, _, h⟩
      cases h
    · refine ⟨_, ?_, word_0, word_0, 0, rfl, hm⟩
      exact le_canon (fun j => bif j == 1 then 129 else 0) (wk_fset _ _ (wk_adr (by try simp only [go_sem, Nat.reduceBEq]; try rfl) rfl (by simp [upd])) (wk_fset _ _ (wk_data (by try simp only [go_sem, Nat.reduceBEq]; try rfl) (.v _)) wk_none)) (heapWk_of _ (entWk_upd (entWk_iter (by simp only [upd_beq, Nat.reduceBEq, cond_true, cond_false]; try rfl)) entWk_none) (by repeat' (first | exact inj_none | exact liv_none | refine inj_upd ?_ ?_ | refine liv_upd ?_ ?_ | exact .inl rfl | exact .inr (by decide))))
    · rintro n1 s ⟨word_0, t22s, t22p, rfl, hm⟩
      replace hm : lexNumber_B1 (lexNumber_L1 n1) word_0 t22s t22p = some r := hm
      unfold lexNumber_B1 at hm
      refine sr (N' := 128) rfl ?_
      refine split_m hm (fun h3 hm => ?_) (fun h3 hm => ?_)
      · refine hp (id := 64) rfl rfl (aheap_next_yes (by try simp only [go_sem, Nat.reduceBEq]; try rfl) (by simp only [upd_beq, Nat.reduceBEq, cond_true, cond_false]; try rfl) (of_decide_eq_true h3)) ?_
        refine pu rfl (by simp only [go_sem, Nat.reduceBEq]; try with_reducible rfl) ?_
        refine fs ?_
        refine AWp.seq' ?_
        refine AWp.condT (by try simp only [go_sem, Nat.reduceBEq]; try rfl) ?_
        refine AWp.skip ?_
        refine normSeq ?_
        refine AWp.block ?_
        refine sr (N' := 192) rfl ?_
        iterate 2 refine pu rfl (by simp only [go_sem, Nat.reduceBEq]; try with_reducible rfl) ?_
        refine fs ?_
        refine sr (N' := 256) rfl ?_
        iterate 6 (first | refine pu rfl (by simp only [go_sem, Nat.reduceBEq]; try with_reducible rfl) ?_ | refine pg rfl rfl (by simp only [go_sem, Nat.reduceBEq]; try with_reducible rfl) (by intro hb; simp only [go_sem, Nat.reduceBEq, hb, Bool.true_and]; try with_reducible rfl) ?_)
        refine fs ?_
        refine AWp.condM hm (by try simp only [go_sem, Nat.reduceBEq]; try rfl) (fun _ hm => ?_) (fun _ hm => ?_)
        · refine sr (N' := 320) rfl ?_
          iterate 2 refine pu rfl (by simp only [go_sem, Nat.reduceBEq]; try with_reducible rfl) ?_
          refine fs ?_
          refine AWp.ret ?_
          refine retIn ?_
          refine retThen ?_
          refine retIn ?_
          refine retSeq ?_
          cases hm
          exact ret2D (.inr rfl) Try.results16 (td (by try simp only [go_sem, Nat.reduceBEq]; try rfl) (.v _)) (td (by try simp only [go_sem, Nat.reduceBEq]; try rfl) (.v _))
        · refine AWp.skip ?_
          refine normIn ?_
          refine normThen ?_
          refine ⟨_, ?_, word_0, t22s, (t22p + (Utf8.decode t22s t22p).2), rfl, hm⟩
          exact le_canon (fun j => bif j == 1 then 1 else 0) (wk_fset _ _ (wk_adr (by try simp only [go_sem, Nat.reduceBEq]; try rfl) rfl (by simp [upd])) (wk_fset _ _ (wk_data (by try simp only [go_sem, Nat.reduceBEq]; try rfl) (.v _)) wk_none)) (heapWk_of _ (entWk_upd (entWk_iter (by simp only [upd_beq, Nat.reduceBEq, cond_true, cond_false]; try rfl)) entWk_none) (by repeat' (first | exact inj_none | exact liv_none | refine inj_upd ?_ ?_ | refine liv_upd ?_ ?_ | exact .inl rfl | exact .inr (by decide))))
      · refine hp (id := 64) rfl rfl (aheap_next_no (by try simp only [go_sem, Nat.reduceBEq]; try rfl) (by simp only [upd_beq, Nat.reduceBEq, cond_true, cond_false]; try rfl) (of_decide_eq_false h3)) ?_
        refine pu rfl (by simp only [go_sem, Nat.reduceBEq]; try with_reducible rfl) ?_
        refine fs ?_
        refine AWp.seq' ?_
        refine AWp.condF (by try simp only [go_sem, Nat.reduceBEq]; try rfl) ?_
        refine AWp.exit ?_
        refine exitSeq ?_
        refine exitThen ?_
        refine exitHere ?_
        refine normSeq ?_
        refine sr (N' := 192) rfl ?_
        refine pu rfl (by simp only [go_sem, Nat.reduceBEq]; try with_reducible rfl) ?_
        refine fs ?_
        refine AWp.seq' ?_
        refine sr (N' := 256) rfl ?_
        refine pu rfl (by simp only [go_sem, Nat.reduceBEq]; try with_reducible rfl) ?_
        refine hp (id := 193) rfl rfl (aheap_range Try.underlying9 (by try simp only [go_sem, Nat.reduceBEq]; try rfl) (by simp only [isFresh_upd, isFresh_no, Nat.reduceBEq, cond_true, cond_false])) ?_
        refine fs ?_
        refine AWp.block ?_
        refine AWp.loopM (fun m s => ∃ (n_6 : Int) (t33s : ByteArray) (t33p : Nat), s = (⟨50, (fset (fset (fun _ => AV.any) 6 (.v (.int .u64 n_6))) 33 (.adr 1 0)), ⟨(upd nofresh 1 (.iter t33s t33p)), 64⟩⟩ : St) ∧ lexNumber_L2 m n_6 t33s t33p = some r) FUEL ?_ ?_ ?_
        · rintro s ⟨_, _, _, _, h⟩
          cases h
        · refine ⟨_, ?_, 0, word_0, 0, rfl, hm⟩
          exact le_canon (fun j => bif j == 1 then 193 else 0) (wk_fset _ _ (wk_adr (by try simp only [go_sem, Nat.reduceBEq]; try rfl) rfl (by simp [upd])) (wk_fset _ _ (wk_data (by try simp only [go_sem, Nat.reduceBEq]; try rfl) (.v _)) wk_none)) (heapWk_of _ (entWk_upd (entWk_iter (by simp only [upd_beq, Nat.reduceBEq, cond_true, cond_false]; try rfl)) entWk_none) (by repeat' (first | exact inj_none | exact liv_none | refine inj_upd ?_ ?_ | refine liv_upd ?_ ?_ | exact .inl rfl | exact .inr (by decide))))
        · rintro n2 s ⟨n_6, t33s, t33p, rfl, hm⟩
          replace hm : lexNumber_B2 (lexNumber_L2 n2) n_6 t33s t33p = some r := hm
          unfold lexNumber_B2 at hm
          refine sr (N' := 128) rfl ?_
          refine split_m hm (fun h4 hm => ?_) (fun h4 hm => ?_)
          · refine hp (id := 64) rfl rfl (aheap_next_yes (by try simp only [go_sem, Nat.reduceBEq]; try rfl) (by simp only [upd_beq, Nat.reduceBEq, cond_true, cond_false]; try rfl) (of_decide_eq_true h4)) ?_
            refine pu rfl (by simp only [go_sem, Nat.reduceBEq]; try with_reducible rfl) ?_
            refine fs ?_
            refine AWp.seq' ?_
            refine AWp.condT (by try simp only [go_sem, Nat.reduceBEq]; try rfl) ?_
            refine AWp.skip ?_
            refine normSeq ?_
            refine AWp.block ?_
            refine sr (N' := 192) rfl ?_
            iterate 2 refine pu rfl (by simp only [go_sem, Nat.reduceBEq]; try with_reducible rfl) ?_
            refine fs ?_
            refine sr (N' := 256) rfl ?_
            iterate 4 refine pu rfl (by simp only [go_sem, Nat.reduceBEq]; try with_reducible rfl) ?_
            refine fs ?_
            refine AWp.seq' ?_
            refine sr (N' := 320) rfl ?_
            iterate 5 refine pu rfl (by simp only [go_sem, Nat.reduceBEq, Int.reduceEq, Int.reduceLE]; try with_reducible rfl) ?_
            refine fs ?_
            refine AWp.condM hm (by try simp only [go_sem, Nat.reduceBEq]; try rfl) (fun _ hm => ?_) (fun _ hm => ?_)
            · refine sr (N' := 384) rfl ?_
              iterate 2 refine pu rfl (by simp only [go_sem, Nat.reduceBEq]; try with_reducible rfl) ?_
              refine fs ?_
              refine AWp.ret ?_
              refine retSeq ?_
              refine retIn ?_
              refine retThen ?_
              refine retIn ?_
              refine retSeq ?_
              cases hm
              exact ret2D (.inr rfl) Try.results16 (td (by try simp only [go_sem, Nat.reduceBEq]; try rfl) (.v _)) (td (by try simp only [go_sem, Nat.reduceBEq]; try rfl) (.v _))
            · refine AWp.skip ?_
              refine normSeq ?_
              refine AWp.reg 64 (N' := 384) rfl ?_
              iterate 5 refine pu rfl (by simp only [go_sem, Nat.reduceBEq]; try with_reducible rfl) ?_
              refine ARun.fin ?_
              refine normIn ?_
              refine normThen ?_
              refine ⟨_, ?_, (IntKind.u64.wrap ((IntKind.u64.wrap (n_6 * 10)) + (IntKind.u64.wrap (IntKind.i32.wrap ((((Utf8.decode t33s t33p).1 : Nat) : Int) - 48))))), t33s, (t33p + (Utf8.decode t33s t33p).2), rfl, hm⟩
              exact le_canon (fun j => bif j == 1 then 1 else 0) (wk_fset _ _ (wk_adr (by try simp only [go_sem, Nat.reduceBEq]; try rfl) rfl (by simp [upd])) (wk_fset _ _ (wk_data (by try simp only [go_sem, Nat.reduceBEq]; try rfl) (.v _)) wk_none)) (heapWk_of _ (entWk_upd (entWk_iter (by simp only [upd_beq, Nat.reduceBEq, cond_true, cond_false]; try rfl)) entWk_none) (by repeat' (first | exact inj_none | exact liv_none | refine inj_upd ?_ ?_ | refine liv_upd ?_ ?_ | exact .inl rfl | exact .inr (by decide))))
          · refine hp (id := 64) rfl rfl (aheap_next_no (by try simp only [go_sem, Nat.reduceBEq]; try rfl) (by simp only [upd_beq, Nat.reduceBEq, cond_true, cond_false]; try rfl) (of_decide_eq_false h4)) ?_
            refine pu rfl (by simp only [go_sem, Nat.reduceBEq]; try with_reducible rfl) ?_
            refine fs ?_
            refine AWp.seq' ?_
            refine AWp.condF (by try simp only [go_sem, Nat.reduceBEq]; try rfl) ?_
            refine AWp.exit ?_
            refine exitSeq ?_
            refine exitThen ?_
            refine exitHere ?_
            refine normSeq ?_
            refine sr (N' := 192) rfl ?_
            iterate 3 refine pu rfl (by simp only [go_sem, Nat.reduceBEq]; try with_reducible rfl) ?_
            refine fs ?_
            refine AWp.ret ?_
            cases hm
            exact ret2D (.inr rfl) Try.results16 (td (by try simp only [go_sem, Nat.reduceBEq]; try rfl) (.v _)) (td (by try simp only [go_sem, Nat.reduceBEq]; try rfl) (.v _))
def lexValue_m (word_0 : ByteArray) : Option (GA) :=
  ((lexNumber_m word_0).bind fun ⟨r2, r3⟩ =>
  (bif (r3 == 0) then
    some (GA.i 31 .u64 r2)
  else
    some (GA.s 9 word_0)))
theorem lexValue_c {word_0 : ByteArray} {r : GA} (hm : lexValue_m word_0 = some r) : PureC Try.prog 19 [.v (.string word_0)] (GA.av r) := by
  refine PureC.of_body Try.func19 rfl ?_
  simp only [Try.ntmps19, List.length_cons, List.length_nil, Nat.reduceAdd, Nat.reduceSub, empty_eq]
  unfold lexValue_m at hm
  refine sr (N' := 64) rfl ?_
  refine pu rfl (by simp only [go_sem, Nat.reduceBEq]; try with_reducible rfl) ?_
  refine fs ?_
  refine AWp.seq' ?_
  refine sr (N' := 128) rfl ?_
  refine pu rfl (by simp only [go_sem, Nat.reduceBEq]; try with_reducible rfl) ?_
  obtain ⟨⟨r2, r3⟩, h1, hm⟩ := bnd hm
  refine ARun.callQ (r := .tup [.v (.int .u64 r2), .v (.int .i64 r3)]) (by decide) (by try simp only [go_sem, Nat.reduceBEq]; try rfl) fb16 (fun H => (.cons (td (by try simp only [go_sem, Nat.reduceBEq]; try rfl) (.v _)) .nil)) (lexNumber_c h1) ?_
  iterate 5 refine pu rfl (by simp only [go_sem, Nat.reduceBEq]; try with_reducible rfl) ?_
  refine fs ?_
  refine sr (N' := 192) rfl ?_
  iterate 2 refine pu rfl (by simp only [go_sem, Nat.reduceBEq]; try with_reducible rfl) ?_
  refine fs ?_
  refine AWp.condM hm (by try simp only [go_sem, Nat.reduceBEq]; try rfl) (fun _ hm => ?_) (fun _ hm => ?_)
  · refine sr (N' := 256) rfl ?_
    iterate 3 refine pu rfl (by simp only [go_sem, Nat.reduceBEq]; try with_reducible rfl) ?_
    refine fs ?_
    refine AWp.ret ?_
    refine retSeq ?_
    cases hm
    exact ret1D (.inr rfl) Try.results19 (td (by try simp only [go_sem, Nat.reduceBEq]; try rfl) (GA.data _))
  · refine AWp.skip ?_
    refine normSeq ?_
    refine sr (N' := 256) rfl ?_
    iterate 3 refine pu rfl (by simp only [go_sem, Nat.reduceBEq]; try with_reducible rfl) ?_
    refine fs ?_
    refine AWp.ret ?_
    cases hm
    exact ret1D (.inr rfl) Try.results19 (td (by try simp only [go_sem, Nat.reduceBEq]; try rfl) (GA.data _))
def lexIsNumber_m (v_0 : GA) : Option (Int × Bool) :=
  ((gaInt .u64 31 v_0).bind fun ⟨r2, r3⟩ =>
  some (r2, r3))
theorem lexIsNumber_c {v_0 : GA} {r : Int × Bool} (hm : lexIsNumber_m v_0 = some r) : PureC Try.prog 18 [GA.av v_0] (.tup [.v (.int .u64 r.1), .v (.bool r.2)]) := by
  refine PureC.of_body Try.func18 rfl ?_
  simp only [Try.ntmps18, List.length_cons, List.length_nil, Nat.reduceAdd, Nat.reduceSub, empty_eq]
  unfold lexIsNumber_m at hm
  refine sr (N' := 64) rfl ?_
  iterate 2 refine pu rfl (by simp only [go_sem, Nat.reduceBEq]; try with_reducible rfl) ?_
  refine fs ?_
  refine sr (N' := 128) rfl ?_
  refine pu rfl (by simp only [go_sem, Nat.reduceBEq]; try with_reducible rfl) ?_
  obtain ⟨⟨r2, r3⟩, h1, hm⟩ := bnd hm
  refine pu rfl (ap_asint Try.underlying31 in31 tz31 (by try simp only [go_sem, Nat.reduceBEq]; try rfl) h1) ?_
  iterate 5 refine pu rfl (by simp only [go_sem, Nat.reduceBEq]; try with_reducible rfl) ?_
  refine fs ?_
  refine sr (N' := 192) rfl ?_
  iterate 4 refine pu rfl (by simp only [go_sem, Nat.reduceBEq]; try with_reducible rfl) ?_
  refine fs ?_
  refine AWp.ret ?_
  cases hm
  exact ret2D (.inr rfl) Try.results18 (td (by try simp only [go_sem, Nat.reduceBEq]; try rfl) (.v _)) (td (by try simp only [go_sem, Nat.reduceBEq]; try rfl) (.v _))
def lexHex_B1 (rec1 : ByteArray → List Int → Int → Option (ByteArray)) (s_0 : ByteArray) (out_3 : List Int) (i_4 : Int) : Option (ByteArray) :=
  (bif (decide (i_4 < (s_0.size : Int))) then
    ((sidx s_0 i_4).bind fun b4 =>
    ((sidx ⟨#[48, 49, 50, 51, 52, 53, 54, 55, 56, 57, 97, 98, 99, 100, 101, 102]⟩ (shr .u8 b4 4)).bind fun b6 =>
    ((sidx s_0 i_4).bind fun b8 =>
    ((sidx ⟨#[48, 49, 50, 51, 52, 53, 54, 55, 56, 57, 97, 98, 99, 100, 101, 102]⟩ (band .u8 b8 15)).bind fun b10 =>
    ((app out_3 [b6, b10]).bind fun l12 =>
    rec1 s_0 l12 (IntKind.i64.wrap (i_4 + 1)))))))
  else
    some (bstr out_3))
def lexHex_L1 : Nat → ByteArray → List Int → Int → Option (ByteArray)
  | 0 => fun _ _ _ => none
  | n + 1 => lexHex_B1 (lexHex_L1 n)
def lexHex_m (s_0 : ByteArray) : Option (ByteArray) :=
  ((mkc 0 (IntKind.i64.wrap (2 * (s_0.size : Int))) 0).bind fun l2 =>
  lexHex_L1 FUEL s_0 l2 0)
theorem lexHex_c {s_0 : ByteArray} {r : ByteArray} (hm : lexHex_m s_0 = some r) : PureC Try.prog 22 [.v (.string s_0)] (.v (.string r)) := by
  refine PureC.of_body Try.func22 rfl ?_
  simp only [Try.ntmps22, List.length_cons, List.length_nil, Nat.reduceAdd, Nat.reduceSub, empty_eq]
  unfold lexHex_m at hm
  refine sr (N' := 64) rfl ?_
  refine pu rfl (by simp only [go_sem, Nat.reduceBEq]; try with_reducible rfl) ?_
  refine fs ?_
  refine sr (N' := 128) rfl ?_
  iterate 3 refine pu rfl (by simp only [go_sem, Nat.reduceBEq]; try with_reducible rfl) ?_
  obtain ⟨l2, h1, hm⟩ := bnd hm
  refine hp (id := 67) rfl rfl (ah_mk (CFi .u8) Try.underlying48 in5 (zc5) (by rw [tb5]; decide) ts5 (by decide) (by simp only [isFresh_upd, isFresh_no, Nat.reduceBEq, cond_true, cond_false]) (by try simp only [go_sem, Nat.reduceBEq]; try rfl) (by try simp only [go_sem, Nat.reduceBEq]; try rfl) h1) ?_
  refine pu rfl (by simp only [go_sem, Nat.reduceBEq]; try with_reducible rfl) ?_
  refine fs ?_
  refine AWp.seq' ?_
  refine sr (N' := 192) rfl ?_
  refine pu rfl (by simp only [go_sem, Nat.reduceBEq]; try with_reducible rfl) ?_
  refine fs ?_
  refine AWp.block ?_
  refine AWp.loopM (fun m s => ∃ (s_0 : ByteArray) (out_3 : List Int) (i_4 : Int), s = (⟨30, (fset (fset (fset (fun _ => AV.any) 0 (.v (.string s_0))) 3 (.own 1 0 out_3.length)) 4 (.v (.int .i64 i_4))), ⟨(upd nofresh 1 (.cells 1 (out_3.flatMap (ci .u8)) 0)), 64⟩⟩ : St) ∧ lexHex_L1 m s_0 out_3 i_4 = some r) FUEL ?_ ?_ ?_
  · rintro s ⟨_, _, _, _, h⟩
    cases h
  · refine ⟨_, ?_, s_0, l2, 0, rfl, hm⟩
    exact le_canon (fun j => bif j == 1 then 67 else 0) (wk_fset _ _ (wk_data (by try simp only [go_sem, Nat.reduceBEq]; try rfl) (.v _)) (wk_fset _ _ (wk_own (by try simp only [go_sem, Nat.reduceBEq]; try rfl) (by first | rfl | omega) rfl (by simp [upd])) (wk_fset _ _ (wk_data (by try simp only [go_sem, Nat.reduceBEq]; try rfl) (.v _)) wk_none))) (heapWk_of _ (entWk_upd (ent_fm (CFi .u8) (by simp only [upd_beq, Nat.reduceBEq, cond_true, cond_false]; try rfl) rfl) entWk_none) (by repeat' (first | exact inj_none | exact liv_none | refine inj_upd ?_ ?_ | refine liv_upd ?_ ?_ | exact .inl rfl | exact .inr (by decide))))
  · rintro n1 s ⟨s_0, out_3, i_4, rfl, hm⟩
    replace hm : lexHex_B1 (lexHex_L1 n1) s_0 out_3 i_4 = some r := hm
    unfold lexHex_B1 at hm
    refine AWp.seq' ?_
    refine sr (N' := 128) rfl ?_
    iterate 4 refine pu rfl (by simp only [go_sem, Nat.reduceBEq]; try with_reducible rfl) ?_
    refine fs ?_
    refine AWp.condM hm (by try simp only [go_sem, Nat.reduceBEq]; try rfl) (fun _ hm => ?_) (fun _ hm => ?_)
    · refine AWp.skip ?_
      refine normSeq ?_
      refine AWp.seq' ?_
      refine AWp.block ?_
      refine AWp.regD 64 mix (by kernel_rfl) (N' := 192) rfl ?_
      iterate 3 refine pu rfl (by simp only [go_sem, Nat.reduceBEq]; try with_reducible rfl) ?_
      obtain ⟨b4, h3, hm⟩ := bnd hm
      refine pu rfl (ap_sidx Try.underlying9 (by try simp only [go_sem, Nat.reduceBEq]; try rfl) (by try simp only [go_sem, Nat.reduceBEq]; try rfl) h3) ?_
      refine pu rfl (by simp only [go_sem, Nat.reduceBEq, Int.reduceEq, Int.reduceLE]; try with_reducible rfl) ?_
      obtain ⟨b6, h5, hm⟩ := bnd hm
      refine pu rfl (ap_sidx Try.underlying9 (by try simp only [go_sem, Nat.reduceBEq]; try rfl) (by try simp only [go_sem, Nat.reduceBEq]; try rfl) h5) ?_
      iterate 2 refine pu rfl (by simp only [go_sem, Nat.reduceBEq]; try with_reducible rfl) ?_
      obtain ⟨b8, h7, hm⟩ := bnd hm
      refine pu rfl (ap_sidx Try.underlying9 (by try simp only [go_sem, Nat.reduceBEq]; try rfl) (by try simp only [go_sem, Nat.reduceBEq]; try rfl) h7) ?_
      refine pu rfl (by simp only [go_sem, Nat.reduceBEq]; try with_reducible rfl) ?_
      obtain ⟨b10, h9, hm⟩ := bnd hm
      refine pu rfl (ap_sidx Try.underlying9 (by try simp only [go_sem, Nat.reduceBEq]; try rfl) (by try simp only [go_sem, Nat.reduceBEq]; try rfl) h9) ?_
      refine hp (id := 139) rfl rfl (ah_list (CFi .u8) (l := [b6, b10]) Try.underlying48 sz5 zc5 (by simp only [isFresh_upd, isFresh_no, Nat.reduceBEq, cond_true, cond_false]) (by decide) (by decide) (by decide) (by simp only [go_sem, Nat.reduceBEq]; try rfl) (by kernel_rfl)) ?_
      obtain ⟨l12, h11, hm⟩ := bnd hm
      refine hp (id := 140) rfl rfl (ah_app (CFi .u8) Try.underlying48 Try.underlying48 rfl in5 ts5 (by rw [tb5]; decide) (by rw [tb5]; decide) tz5 (by decide) (by decide) (by try simp only [go_sem, Nat.reduceBEq]; try rfl) (by simp only [upd_beq, Nat.reduceBEq, cond_true, cond_false]; try rfl) (by first | rfl | omega) (as_own (CFi .u8) (by try simp only [go_sem, Nat.reduceBEq]; try rfl) (by simp only [upd_beq, Nat.reduceBEq, cond_true, cond_false]; try rfl) (by first | rfl | omega)) rfl (by simp only [isFresh_upd, isFresh_no, Nat.reduceBEq, cond_true, cond_false]) h11) ?_
      refine pu rfl (by simp only [go_sem, Nat.reduceBEq]; try with_reducible rfl) ?_
      refine ARun.fin ?_
      refine normIn ?_
      refine normSeq ?_
      refine AWp.reg 64 (N' := 256) rfl ?_
      iterate 3 refine pu rfl (by simp only [go_sem, Nat.reduceBEq]; try with_reducible rfl) ?_
      refine ARun.fin ?_
      refine normThen ?_
      refine ⟨_, ?_, s_0, l12, (IntKind.i64.wrap (i_4 + 1)), rfl, hm⟩
      exact le_canon (fun j => bif j == 1 then 140 else 0) (wk_fset _ _ (wk_data (by try simp only [go_sem, Nat.reduceBEq]; try rfl) (.v _)) (wk_fset _ _ (wk_own (by try simp only [go_sem, Nat.reduceBEq]; try rfl) (by first | rfl | omega) rfl (by simp [upd])) (wk_fset _ _ (wk_data (by try simp only [go_sem, Nat.reduceBEq]; try rfl) (.v _)) wk_none))) (heapWk_of _ (entWk_upd (ent_fm (CFi .u8) (by simp only [upd_beq, Nat.reduceBEq, cond_true, cond_false]; try rfl) rfl) entWk_none) (by repeat' (first | exact inj_none | exact liv_none | refine inj_upd ?_ ?_ | refine liv_upd ?_ ?_ | exact .inl rfl | exact .inr (by decide))))
    · refine AWp.exit ?_
      refine exitSeq ?_
      refine exitThen ?_
      refine exitHere ?_
      refine normSeq ?_
      refine sr (N' := 192) rfl ?_
      refine pu rfl (by simp only [go_sem, Nat.reduceBEq]; try with_reducible rfl) ?_
      refine pu rfl (ap_bstro Try.underlying48 Try.underlying9 Try.underlying5 (by try simp only [go_sem, Nat.reduceBEq]; try rfl) (by simp only [upd_beq, Nat.reduceBEq, cond_true, cond_false]; try rfl) (by first | rfl | omega)) ?_
      refine pu rfl (by simp only [go_sem, Nat.reduceBEq]; try with_reducible rfl) ?_
      refine fs ?_
      refine AWp.ret ?_
      cases hm
      exact ret1D (.inr rfl) Try.results22 (td (by try simp only [go_sem, Nat.reduceBEq]; try rfl) (.v _))
def lexUnhex_B1 (rec1 : ByteArray → List Int → Int → Option (ByteArray × Int)) (word_0 : ByteArray) (out_4 : List Int) (i_5 : Int) : Option (ByteArray × Int) :=
  (bif (decide (i_5 < (word_0.size : Int))) then
    ((sidx word_0 i_5).bind fun b4 =>
    ((indexByte_m ⟨#[48, 49, 50, 51, 52, 53, 54, 55, 56, 57, 97, 98, 99, 100, 101, 102]⟩ b4).bind fun r6 =>
    ((sidx word_0 (IntKind.i64.wrap (i_5 + 1))).bind fun b8 =>
    ((indexByte_m ⟨#[48, 49, 50, 51, 52, 53, 54, 55, 56, 57, 97, 98, 99, 100, 101, 102]⟩ b8).bind fun r10 =>
    (bif ((decide (r6 < 0)) || (decide (r10 < 0))) then
      some (⟨#[]⟩, 2)
    else
      ((app out_4 [(IntKind.u8.wrap (bor .i64 (shl .i64 r6 4) r10))]).bind fun l12 =>
      rec1 word_0 l12 (IntKind.i64.wrap (i_5 + 2))))))))
  else
    some ((bstr out_4), 0))
def lexUnhex_L1 : Nat → ByteArray → List Int → Int → Option (ByteArray × Int)
  | 0 => fun _ _ _ => none
  | n + 1 => lexUnhex_B1 (lexUnhex_L1 n)
def lexUnhex_m (word_0 : ByteArray) : Option (ByteArray × Int) :=
  (bif ((Int.tmod (word_0.size : Int) 2) != 0) then
    some (⟨#[]⟩, 2)
  else
    ((mkc 0 (IntKind.i64.wrap (Int.tdiv (word_0.size : Int) 2)) 0).bind fun l2 =>
    lexUnhex_L1 FUEL word_0 l2 0))
theorem lexUnhex_c {word_0 : ByteArray} {r : ByteArray × Int} (hm : lexUnhex_m word_0 = some r) : PureC Try.prog 20 [.v (.string word_0)] (.tup [.v (.string r.1), .v (.int .i64 r.2)]) := by
  refine PureC.of_body Try.func20 rfl ?_
  simp only [Try.ntmps20, List.length_cons, List.length_nil, Nat.reduceAdd, Nat.reduceSub, empty_eq]
  unfold lexUnhex_m at hm
  refine sr (N' := 64) rfl ?_
  iterate 2 refine pu rfl (by simp only [go_sem, Nat.reduceBEq]; try with_reducible rfl) ?_
  refine fs ?_
  refine AWp.seq' ?_
  refine sr (N' := 128) rfl ?_
  iterate 4 refine pu rfl (by simp only [go_sem, Nat.reduceBEq, Int.reduceEq, Int.reduceLE]; try with_reducible rfl) ?_
  refine fs ?_
  refine AWp.condM hm (by try simp only [go_sem, Nat.reduceBEq]; try rfl) (fun _ hm => ?_) (fun _ hm => ?_)
  · refine sr (N' := 192) rfl ?_
    iterate 2 refine pu rfl (by simp only [go_sem, Nat.reduceBEq]; try with_reducible rfl) ?_
    refine fs ?_
    refine AWp.ret ?_
    refine retSeq ?_
    cases hm
    exact ret2D (.inr rfl) Try.results20 (td (by try simp only [go_sem, Nat.reduceBEq]; try rfl) (.v _)) (td (by try simp only [go_sem, Nat.reduceBEq]; try rfl) (.v _))
  · refine AWp.skip ?_
    refine normSeq ?_
    refine sr (N' := 192) rfl ?_
    iterate 3 refine pu rfl (by simp only [go_sem, Nat.reduceBEq, Int.reduceEq, Int.reduceLE]; try with_reducible rfl) ?_
    obtain ⟨l2, h1, hm⟩ := bnd hm
    refine hp (id := 131) rfl rfl (ah_mk (CFi .u8) Try.underlying48 in5 (zc5) (by rw [tb5]; decide) ts5 (by decide) (by simp only [isFresh_upd, isFresh_no, Nat.reduceBEq, cond_true, cond_false]) (by try simp only [go_sem, Nat.reduceBEq]; try rfl) (by try simp only [go_sem, Nat.reduceBEq]; try rfl) h1) ?_
    refine pu rfl (by simp only [go_sem, Nat.reduceBEq]; try with_reducible rfl) ?_
    refine fs ?_
    refine AWp.seq' ?_
    refine sr (N' := 256) rfl ?_
    refine pu rfl (by simp only [go_sem, Nat.reduceBEq]; try with_reducible rfl) ?_
    refine fs ?_
    refine AWp.block ?_
    refine AWp.loopM (fun m s => ∃ (word_0 : ByteArray) (out_4 : List Int) (i_5 : Int), s = (⟨47, (fset (fset (fset (fun _ => AV.any) 0 (.v (.string word_0))) 4 (.own 1 0 out_4.length)) 5 (.v (.int .i64 i_5))), ⟨(upd nofresh 1 (.cells 1 (out_4.flatMap (ci .u8)) 0)), 64⟩⟩ : St) ∧ lexUnhex_L1 m word_0 out_4 i_5 = some r) FUEL ?_ ?_ ?_
    · rintro s ⟨_, _, _, _, h⟩
      cases h
    · refine ⟨_, ?_, word_0, l2, 0, rfl, hm⟩
      exact le_canon (fun j => bif j == 1 then 131 else 0) (wk_fset _ _ (wk_data (by try simp only [go_sem, Nat.reduceBEq]; try rfl) (.v _)) (wk_fset _ _ (wk_own (by try simp only [go_sem, Nat.reduceBEq]; try rfl) (by first | rfl | omega) rfl (by simp [upd])) (wk_fset _ _ (wk_data (by try simp only [go_sem, Nat.reduceBEq]; try rfl) (.v _)) wk_none))) (heapWk_of _ (entWk_upd (ent_fm (CFi .u8) (by simp only [upd_beq, Nat.reduceBEq, cond_true, cond_false]; try rfl) rfl) entWk_none) (by repeat' (first | exact inj_none | exact liv_none | refine inj_upd ?_ ?_ | refine liv_upd ?_ ?_ | exact .inl rfl | exact .inr (by decide))))
    · rintro n1 s ⟨word_0, out_4, i_5, rfl, hm⟩
      replace hm : lexUnhex_B1 (lexUnhex_L1 n1) word_0 out_4 i_5 = some r := hm
      unfold lexUnhex_B1 at hm
      refine AWp.seq' ?_
      refine sr (N' := 128) rfl ?_
      iterate 4 refine pu rfl (by simp only [go_sem, Nat.reduceBEq]; try with_reducible rfl) ?_
      refine fs ?_
      refine AWp.condM hm (by try simp only [go_sem, Nat.reduceBEq]; try rfl) (fun _ hm => ?_) (fun _ hm => ?_)
      · refine AWp.skip ?_
        refine normSeq ?_
        refine AWp.seq' ?_
        refine AWp.block ?_
        refine sr (N' := 192) rfl ?_
        iterate 2 refine pu rfl (by simp only [go_sem, Nat.reduceBEq]; try with_reducible rfl) ?_
        obtain ⟨b4, h3, hm⟩ := bnd hm
        refine pu rfl (ap_sidx Try.underlying9 (by try simp only [go_sem, Nat.reduceBEq]; try rfl) (by try simp only [go_sem, Nat.reduceBEq]; try rfl) h3) ?_
        obtain ⟨r6, h5, hm⟩ := bnd hm
        refine ARun.callQ (r := .v (.int .i64 r6)) (by decide) (by try simp only [go_sem, Nat.reduceBEq]; try rfl) fb26 (fun H => (.cons (td (by try simp only [go_sem, Nat.reduceBEq]; try rfl) (.v _)) (.cons (td (by try simp only [go_sem, Nat.reduceBEq]; try rfl) (.v _)) .nil))) (indexByte_c h5) ?_
        refine pu rfl (by simp only [go_sem, Nat.reduceBEq]; try with_reducible rfl) ?_
        refine fs ?_
        refine sr (N' := 256) rfl ?_
        iterate 3 refine pu rfl (by simp only [go_sem, Nat.reduceBEq]; try with_reducible rfl) ?_
        obtain ⟨b8, h7, hm⟩ := bnd hm
        refine pu rfl (ap_sidx Try.underlying9 (by try simp only [go_sem, Nat.reduceBEq]; try rfl) (by try simp only [go_sem, Nat.reduceBEq]; try rfl) h7) ?_
        obtain ⟨r10, h9, hm⟩ := bnd hm
        refine ARun.callQ (r := .v (.int .i64 r10)) (by decide) (by try simp only [go_sem, Nat.reduceBEq]; try rfl) fb26 (fun H => (.cons (td (by try simp only [go_sem, Nat.reduceBEq]; try rfl) (.v _)) (.cons (td (by try simp only [go_sem, Nat.reduceBEq]; try rfl) (.v _)) .nil))) (indexByte_c h9) ?_
        refine pu rfl (by simp only [go_sem, Nat.reduceBEq]; try with_reducible rfl) ?_
        refine fs ?_
        refine AWp.seq' ?_
        refine sr (N' := 320) rfl ?_
        iterate 6 (first | refine pu rfl (by simp only [go_sem, Nat.reduceBEq]; try with_reducible rfl) ?_ | refine pg rfl rfl (by simp only [go_sem, Nat.reduceBEq]; try with_reducible rfl) (by intro hb; simp only [go_sem, Nat.reduceBEq, hb, Bool.true_and]; try with_reducible rfl) ?_)
        refine fs ?_
        refine AWp.condM hm (by try simp only [go_sem, Nat.reduceBEq]; try rfl) (fun _ hm => ?_) (fun _ hm => ?_)
        · refine sr (N' := 384) rfl ?_
          iterate 2 refine pu rfl (by simp only [go_sem, Nat.reduceBEq]; try with_reducible rfl) ?_
          refine fs ?_
          refine AWp.ret ?_
          refine retSeq ?_
          refine retIn ?_
          refine retSeq ?_
          refine retThen ?_
          refine retIn ?_
          refine retSeq ?_
          cases hm
          exact ret2D (.inr rfl) Try.results20 (td (by try simp only [go_sem, Nat.reduceBEq]; try rfl) (.v _)) (td (by try simp only [go_sem, Nat.reduceBEq]; try rfl) (.v _))
        · refine AWp.skip ?_
          refine normSeq ?_
          refine AWp.reg 64 (N' := 384) rfl ?_
          iterate 6 refine pu rfl (by simp only [go_sem, Nat.reduceBEq, Int.reduceEq, Int.reduceLE]; try with_reducible rfl) ?_
          refine hp (id := 326) rfl rfl (ah_list (CFi .u8) (l := [(IntKind.u8.wrap (bor .i64 (shl .i64 r6 4) r10))]) Try.underlying48 sz5 zc5 (by simp only [isFresh_upd, isFresh_no, Nat.reduceBEq, cond_true, cond_false]) (by decide) (by decide) (by decide) (by simp only [go_sem, Nat.reduceBEq]; try rfl) (by kernel_rfl)) ?_
          obtain ⟨l12, h11, hm⟩ := bnd hm
          refine hp (id := 327) rfl rfl (ah_app (CFi .u8) Try.underlying48 Try.underlying48 rfl in5 ts5 (by rw [tb5]; decide) (by rw [tb5]; decide) tz5 (by decide) (by decide) (by try simp only [go_sem, Nat.reduceBEq]; try rfl) (by simp only [upd_beq, Nat.reduceBEq, cond_true, cond_false]; try rfl) (by first | rfl | omega) (as_own (CFi .u8) (by try simp only [go_sem, Nat.reduceBEq]; try rfl) (by simp only [upd_beq, Nat.reduceBEq, cond_true, cond_false]; try rfl) (by first | rfl | omega)) rfl (by simp only [isFresh_upd, isFresh_no, Nat.reduceBEq, cond_true, cond_false]) h11) ?_
          refine pu rfl (by simp only [go_sem, Nat.reduceBEq]; try with_reducible rfl) ?_
          refine ARun.fin ?_
          refine normIn ?_
          refine normSeq ?_
          refine AWp.reg 64 (N' := 448) rfl ?_
          iterate 3 refine pu rfl (by simp only [go_sem, Nat.reduceBEq]; try with_reducible rfl) ?_
          refine ARun.fin ?_
          refine normThen ?_
          refine ⟨_, ?_, word_0, l12, (IntKind.i64.wrap (i_5 + 2)), rfl, hm⟩
          exact le_canon (fun j => bif j == 1 then 327 else 0) (wk_fset _ _ (wk_data (by try simp only [go_sem, Nat.reduceBEq]; try rfl) (.v _)) (wk_fset _ _ (wk_own (by try simp only [go_sem, Nat.reduceBEq]; try rfl) (by first | rfl | omega) rfl (by simp [upd])) (wk_fset _ _ (wk_data (by try simp only [go_sem, Nat.reduceBEq]; try rfl) (.v _)) wk_none))) (heapWk_of _ (entWk_upd (ent_fm (CFi .u8) (by simp only [upd_beq, Nat.reduceBEq, cond_true, cond_false]; try rfl) rfl) entWk_none) (by repeat' (first | exact inj_none | exact liv_none | refine inj_upd ?_ ?_ | refine liv_upd ?_ ?_ | exact .inl rfl | exact .inr (by decide))))
      · refine AWp.exit ?_
        refine exitSeq ?_
        refine exitThen ?_
        refine exitHere ?_
        refine normSeq ?_
        refine sr (N' := 192) rfl ?_
        refine pu rfl (by simp only [go_sem, Nat.reduceBEq]; try with_reducible rfl) ?_
        refine pu rfl (ap_bstro Try.underlying48 Try.underlying9 Try.underlying5 (by try simp only [go_sem, Nat.reduceBEq]; try rfl) (by simp only [upd_beq, Nat.reduceBEq, cond_true, cond_false]; try rfl) (by first | rfl | omega)) ?_
        iterate 2 refine pu rfl (by simp only [go_sem, Nat.reduceBEq]; try with_reducible rfl) ?_
        refine fs ?_
        refine AWp.ret ?_
        cases hm
        exact ret2D (.inr rfl) Try.results20 (td (by try simp only [go_sem, Nat.reduceBEq]; try rfl) (.v _)) (td (by try simp only [go_sem, Nat.reduceBEq]; try rfl) (.v _))
def refOf_m (c_0 : Int) : Option (Bool) :=
  some ((((decide (97 ≤ c_0)) && (decide (c_0 ≤ 122))) || ((decide (48 ≤ c_0)) && (decide (c_0 ≤ 57)))) || ((decide (945 ≤ c_0)) && (decide (c_0 ≤ 969))))
theorem refOf_c {c_0 : Int} {r : Bool} (hm : refOf_m c_0 = some r) : PureC Try.prog 24 [.v (.int .i32 c_0)] (.v (.bool r)) := by
  refine PureC.of_body Try.func24 rfl ?_
  simp only [Try.ntmps24, List.length_cons, List.length_nil, Nat.reduceAdd, Nat.reduceSub, empty_eq]
  unfold refOf_m at hm
  refine sr (N' := 64) rfl ?_
  refine pu rfl (by simp only [go_sem, Nat.reduceBEq]; try with_reducible rfl) ?_
  refine fs ?_
  refine sr (N' := 128) rfl ?_
  iterate 23 (first | refine pu rfl (by simp only [go_sem, Nat.reduceBEq]; try with_reducible rfl) ?_ | refine pg rfl rfl (by simp only [go_sem, Nat.reduceBEq]; try with_reducible rfl) (by intro hb; simp only [go_sem, Nat.reduceBEq, hb, Bool.true_and]; try with_reducible rfl) ?_)
  refine fs ?_
  refine AWp.ret ?_
  cases hm
  exact ret1D (.inr rfl) Try.results24 (td (by try simp only [go_sem, Nat.reduceBEq]; try rfl) (.v _))
def refBad_J2 (rec1 : Int → Bool → ByteArray → Nat → Option (Int)) (n_3 : Int) (note_4 : Bool) (c_6 : Int) (t8s : ByteArray) (t8p : Nat) : Option (Int) :=
  ((gopt (((((!note_4) && (c_6 != 10)) && (c_6 != 32)) && (c_6 != 9)) == true) false (refOf_m c_6)).bind fun r3 =>
  (bif (((((!note_4) && (c_6 != 10)) && (c_6 != 32)) && (c_6 != 9)) && (!r3)) then
    some n_3
  else
    rec1 (IntKind.i64.wrap (n_3 + 1)) note_4 t8s t8p))
def refBad_J1 (rec1 : Int → Bool → ByteArray → Nat → Option (Int)) (n_3 : Int) (note_4 : Bool) (c_6 : Int) (t8s : ByteArray) (t8p : Nat) : Option (Int) :=
  (bif (c_6 == 35) then
    refBad_J2 rec1 n_3 true c_6 t8s t8p
  else
    refBad_J2 rec1 n_3 note_4 c_6 t8s t8p)
def refBad_B1 (rec1 : Int → Bool → ByteArray → Nat → Option (Int)) (n_3 : Int) (note_4 : Bool) (t8s : ByteArray) (t8p : Nat) : Option (Int) :=
  (bif (decide (t8p < t8s.size)) then
    (bif ((((Utf8.decode t8s t8p).1 : Nat) : Int) == 10) then
      refBad_J1 rec1 n_3 false (((Utf8.decode t8s t8p).1 : Nat) : Int) t8s (t8p + (Utf8.decode t8s t8p).2)
    else
      refBad_J1 rec1 n_3 note_4 (((Utf8.decode t8s t8p).1 : Nat) : Int) t8s (t8p + (Utf8.decode t8s t8p).2))
  else
    some (-1))
def refBad_L1 : Nat → Int → Bool → ByteArray → Nat → Option (Int)
  | 0 => fun _ _ _ _ => none
  | n + 1 => refBad_B1 (refBad_L1 n)
def refBad_m (text_0 : ByteArray) : Option (Int) :=
  refBad_L1 FUEL 0 false text_0 0
theorem refBad_c {text_0 : ByteArray} {r : Int} (hm : refBad_m text_0 = some r) : PureC Try.prog 13 [.v (.string text_0)] (.v (.int .i64 r)) := by
  refine PureC.of_body Try.func13 rfl ?_
  simp only [Try.ntmps13, List.length_cons, List.length_nil, Nat.reduceAdd, Nat.reduceSub, empty_eq]
  unfold refBad_m at hm
  refine sr (N' := 64) rfl ?_
  refine pu rfl (by simp only [go_sem, Nat.reduceBEq]; try with_reducible rfl) ?_
  refine fs ?_
  refine sr (N' := 128) rfl ?_
  refine pu rfl (by simp only [go_sem, Nat.reduceBEq]; try with_reducible rfl) ?_
  refine fs ?_
  refine sr (N' := 192) rfl ?_
  refine pu rfl (by simp only [go_sem, Nat.reduceBEq]; try with_reducible rfl) ?_
  refine fs ?_
  refine AWp.seq' ?_
  refine sr (N' := 256) rfl ?_
  refine pu rfl (by simp only [go_sem, Nat.reduceBEq]; try with_reducible rfl) ?_
  refine hp (id := 193) rfl rfl (aheap_range Try.underlying9 (by try simp only [go_sem, Nat.reduceBEq]; try rfl) (by simp only [isFresh_upd, isFresh_no, Nat.reduceBEq, cond_true, cond_false])) ?_
  refine fs ?_
  refine AWp.block ?_
  refine AWp.loopM (fun m s => ∃ (n_3 : Int) (note_4 : Bool) (t8s : ByteArray) (t8p : Nat), s = (⟨38, (fset (fset (fset (fun _ => AV.any) 3 (.v (.int .i64 n_3))) 4 (.v (.bool note_4))) 8 (.adr 1 0)), ⟨(upd nofresh 1 (.iter t8s t8p)), 64⟩⟩ : St) ∧ refBad_L1 m n_3 note_4 t8s t8p = some r) FUEL ?_ ?_ ?_
  · rintro s ⟨_, _, _, _, _, h⟩
    cases h
  · refine ⟨_, ?_, 0, false, text_0, 0, rfl, hm⟩
    exact le_canon (fun j => bif j == 1 then 193 else 0) (wk_fset _ _ (wk_adr (by try simp only [go_sem, Nat.reduceBEq]; try rfl) rfl (by simp [upd])) (wk_fset _ _ (wk_data (by try simp only [go_sem, Nat.reduceBEq]; try rfl) (.v _)) (wk_fset _ _ (wk_data (by try simp only [go_sem, Nat.reduceBEq]; try rfl) (.v _)) wk_none))) (heapWk_of _ (entWk_upd (entWk_iter (by simp only [upd_beq, Nat.reduceBEq, cond_true, cond_false]; try rfl)) entWk_none) (by repeat' (first | exact inj_none | exact liv_none | refine inj_upd ?_ ?_ | refine liv_upd ?_ ?_ | exact .inl rfl | exact .inr (by decide))))
  · rintro n1 s ⟨n_3, note_4, t8s, t8p, rfl, hm⟩
    replace hm : refBad_B1 (refBad_L1 n1) n_3 note_4 t8s t8p = some r := hm
    unfold refBad_B1 at hm
    refine sr (N' := 128) rfl ?_
    refine split_m hm (fun h1 hm => ?_) (fun h1 hm => ?_)
    · refine hp (id := 64) rfl rfl (aheap_next_yes (by try simp only [go_sem, Nat.reduceBEq]; try rfl) (by simp only [upd_beq, Nat.reduceBEq, cond_true, cond_false]; try rfl) (of_decide_eq_true h1)) ?_
      refine pu rfl (by simp only [go_sem, Nat.reduceBEq]; try with_reducible rfl) ?_
      refine fs ?_
      refine AWp.seq' ?_
      refine AWp.condT (by try simp only [go_sem, Nat.reduceBEq]; try rfl) ?_
      refine AWp.skip ?_
      refine normSeq ?_
      refine AWp.block ?_
      refine sr (N' := 192) rfl ?_
      iterate 2 refine pu rfl (by simp only [go_sem, Nat.reduceBEq]; try with_reducible rfl) ?_
      refine fs ?_
      refine AWp.seqJ (fun s => ∃ (n_3 : Int) (note_4 : Bool) (c_6 : Int) (t8s : ByteArray) (t8p : Nat), s = (⟨38, (fset (fset (fset (fset (fun _ => AV.any) 3 (.v (.int .i64 n_3))) 4 (.v (.bool note_4))) 6 (.v (.int .i32 c_6))) 8 (.adr 1 0)), ⟨(upd nofresh 1 (.iter t8s t8p)), 64⟩⟩ : St) ∧ refBad_J1 (refBad_L1 n1) n_3 note_4 c_6 t8s t8p = some r) ?_ ?_
      · refine sr (N' := 256) rfl ?_
        iterate 2 refine pu rfl (by simp only [go_sem, Nat.reduceBEq]; try with_reducible rfl) ?_
        refine fs ?_
        refine AWp.condM hm (by try simp only [go_sem, Nat.reduceBEq]; try rfl) (fun _ hm => ?_) (fun _ hm => ?_)
        · refine AWp.reg 64 (N' := 320) rfl ?_
          refine pu rfl (by simp only [go_sem, Nat.reduceBEq]; try with_reducible rfl) ?_
          refine ARun.fin ?_
          refine normJ ?_
          refine ⟨_, ?_, n_3, false, (((Utf8.decode t8s t8p).1 : Nat) : Int), t8s, (t8p + (Utf8.decode t8s t8p).2), rfl, hm⟩
          exact le_canon (fun j => bif j == 1 then 1 else 0) (wk_fset _ _ (wk_adr (by try simp only [go_sem, Nat.reduceBEq]; try rfl) rfl (by simp [upd])) (wk_fset _ _ (wk_data (by try simp only [go_sem, Nat.reduceBEq]; try rfl) (.v _)) (wk_fset _ _ (wk_data (by try simp only [go_sem, Nat.reduceBEq]; try rfl) (.v _)) (wk_fset _ _ (wk_data (by try simp only [go_sem, Nat.reduceBEq]; try rfl) (.v _)) wk_none)))) (heapWk_of _ (entWk_upd (entWk_iter (by simp only [upd_beq, Nat.reduceBEq, cond_true, cond_false]; try rfl)) entWk_none) (by repeat' (first | exact inj_none | exact liv_none | refine inj_upd ?_ ?_ | refine liv_upd ?_ ?_ | exact .inl rfl | exact .inr (by decide))))
        · refine AWp.skip ?_
          refine normJ ?_
          refine ⟨_, ?_, n_3, note_4, (((Utf8.decode t8s t8p).1 : Nat) : Int), t8s, (t8p + (Utf8.decode t8s t8p).2), rfl, hm⟩
          exact le_canon (fun j => bif j == 1 then 1 else 0) (wk_fset _ _ (wk_adr (by try simp only [go_sem, Nat.reduceBEq]; try rfl) rfl (by simp [upd])) (wk_fset _ _ (wk_data (by try simp only [go_sem, Nat.reduceBEq]; try rfl) (.v _)) (wk_fset _ _ (wk_data (by try simp only [go_sem, Nat.reduceBEq]; try rfl) (.v _)) (wk_fset _ _ (wk_data (by try simp only [go_sem, Nat.reduceBEq]; try rfl) (.v _)) wk_none)))) (heapWk_of _ (entWk_upd (entWk_iter (by simp only [upd_beq, Nat.reduceBEq, cond_true, cond_false]; try rfl)) entWk_none) (by repeat' (first | exact inj_none | exact liv_none | refine inj_upd ?_ ?_ | refine liv_upd ?_ ?_ | exact .inl rfl | exact .inr (by decide))))
      · rintro s ⟨n_3, note_4, c_6, t8s, t8p, rfl, hm⟩
        unfold refBad_J1 at hm
        refine AWp.seqJ (fun s => ∃ (n_3 : Int) (note_4 : Bool) (c_6 : Int) (t8s : ByteArray) (t8p : Nat), s = (⟨38, (fset (fset (fset (fset (fun _ => AV.any) 3 (.v (.int .i64 n_3))) 4 (.v (.bool note_4))) 6 (.v (.int .i32 c_6))) 8 (.adr 1 0)), ⟨(upd nofresh 1 (.iter t8s t8p)), 64⟩⟩ : St) ∧ refBad_J2 (refBad_L1 n1) n_3 note_4 c_6 t8s t8p = some r) ?_ ?_
        · refine sr (N' := 128) rfl ?_
          iterate 2 refine pu rfl (by simp only [go_sem, Nat.reduceBEq]; try with_reducible rfl) ?_
          refine fs ?_
          refine AWp.condM hm (by try simp only [go_sem, Nat.reduceBEq]; try rfl) (fun _ hm => ?_) (fun _ hm => ?_)
          · refine AWp.reg 64 (N' := 192) rfl ?_
            refine pu rfl (by simp only [go_sem, Nat.reduceBEq]; try with_reducible rfl) ?_
            refine ARun.fin ?_
            refine normJ ?_
            refine ⟨_, ?_, n_3, true, c_6, t8s, t8p, rfl, hm⟩
            exact le_canon (fun j => bif j == 1 then 1 else 0) (wk_fset _ _ (wk_adr (by try simp only [go_sem, Nat.reduceBEq]; try rfl) rfl (by simp [upd])) (wk_fset _ _ (wk_data (by try simp only [go_sem, Nat.reduceBEq]; try rfl) (.v _)) (wk_fset _ _ (wk_data (by try simp only [go_sem, Nat.reduceBEq]; try rfl) (.v _)) (wk_fset _ _ (wk_data (by try simp only [go_sem, Nat.reduceBEq]; try rfl) (.v _)) wk_none)))) (heapWk_of _ (entWk_upd (entWk_iter (by simp only [upd_beq, Nat.reduceBEq, cond_true, cond_false]; try rfl)) entWk_none) (by repeat' (first | exact inj_none | exact liv_none | refine inj_upd ?_ ?_ | refine liv_upd ?_ ?_ | exact .inl rfl | exact .inr (by decide))))
          · refine AWp.skip ?_
            refine normJ ?_
            refine ⟨_, ?_, n_3, note_4, c_6, t8s, t8p, rfl, hm⟩
            exact le_canon (fun j => bif j == 1 then 1 else 0) (wk_fset _ _ (wk_adr (by try simp only [go_sem, Nat.reduceBEq]; try rfl) rfl (by simp [upd])) (wk_fset _ _ (wk_data (by try simp only [go_sem, Nat.reduceBEq]; try rfl) (.v _)) (wk_fset _ _ (wk_data (by try simp only [go_sem, Nat.reduceBEq]; try rfl) (.v _)) (wk_fset _ _ (wk_data (by try simp only [go_sem, Nat.reduceBEq]; try rfl) (.v _)) wk_none)))) (heapWk_of _ (entWk_upd (entWk_iter (by simp only [upd_beq, Nat.reduceBEq, cond_true, cond_false]; try rfl)) entWk_none) (by repeat' (first | exact inj_none | exact liv_none | refine inj_upd ?_ ?_ | refine liv_upd ?_ ?_ | exact .inl rfl | exact .inr (by decide))))
        · rintro s ⟨n_3, note_4, c_6, t8s, t8p, rfl, hm⟩
          unfold refBad_J2 at hm
          refine AWp.seq' ?_
          refine sr (N' := 128) rfl ?_
          iterate 16 (first | refine pu rfl (by simp only [go_sem, Nat.reduceBEq]; try with_reducible rfl) ?_ | refine pg rfl rfl (by simp only [go_sem, Nat.reduceBEq]; try with_reducible rfl) (by intro hb; simp only [go_sem, Nat.reduceBEq, hb, Bool.true_and]; try with_reducible rfl) ?_)
          obtain ⟨r3, h2, hm⟩ := bnd hm
          refine ARun.callQG (r := .v (.bool r3)) (by decide) rfl (by simp only [go_sem, Nat.reduceBEq]; try with_reducible rfl) (by try simp only [go_sem, Nat.reduceBEq]; try rfl) fb24 (fun hb H => (.cons (td (by try simp only [go_sem, Nat.reduceBEq, hb, Bool.true_and]; try rfl) (.v _)) .nil)) (fun hb => refOf_c (gopt_t h2 hb)) ?_
          iterate 2 (first | refine pu rfl (by simp only [go_sem, Nat.reduceBEq]; try with_reducible rfl) ?_ | refine pg rfl rfl (by simp only [go_sem, Nat.reduceBEq]; try with_reducible rfl) (by intro hb; simp only [go_sem, Nat.reduceBEq, hb, Bool.true_and]; try with_reducible rfl) ?_)
          refine fs ?_
          refine AWp.condM hm (by try simp only [go_sem, Nat.reduceBEq]; try rfl) (fun _ hm => ?_) (fun _ hm => ?_)
          · refine sr (N' := 192) rfl ?_
            iterate 2 refine pu rfl (by simp only [go_sem, Nat.reduceBEq]; try with_reducible rfl) ?_
            refine fs ?_
            refine AWp.ret ?_
            refine retSeq ?_
            refine retIn ?_
            refine retThen ?_
            refine retIn ?_
            refine retSeq ?_
            cases hm
            exact ret1D (.inr rfl) Try.results13 (td (by try simp only [go_sem, Nat.reduceBEq]; try rfl) (.v _))
          · refine AWp.skip ?_
            refine normSeq ?_
            refine AWp.reg 64 (N' := 192) rfl ?_
            iterate 3 refine pu rfl (by simp only [go_sem, Nat.reduceBEq]; try with_reducible rfl) ?_
            refine ARun.fin ?_
            refine normIn ?_
            refine normThen ?_
            refine ⟨_, ?_, (IntKind.i64.wrap (n_3 + 1)), note_4, t8s, t8p, rfl, hm⟩
            exact le_canon (fun j => bif j == 1 then 1 else 0) (wk_fset _ _ (wk_adr (by try simp only [go_sem, Nat.reduceBEq]; try rfl) rfl (by simp [upd])) (wk_fset _ _ (wk_data (by try simp only [go_sem, Nat.reduceBEq]; try rfl) (.v _)) (wk_fset _ _ (wk_data (by try simp only [go_sem, Nat.reduceBEq]; try rfl) (.v _)) wk_none))) (heapWk_of _ (entWk_upd (entWk_iter (by simp only [upd_beq, Nat.reduceBEq, cond_true, cond_false]; try rfl)) entWk_none) (by repeat' (first | exact inj_none | exact liv_none | refine inj_upd ?_ ?_ | refine liv_upd ?_ ?_ | exact .inl rfl | exact .inr (by decide))))
    · refine hp (id := 64) rfl rfl (aheap_next_no (by try simp only [go_sem, Nat.reduceBEq]; try rfl) (by simp only [upd_beq, Nat.reduceBEq, cond_true, cond_false]; try rfl) (of_decide_eq_false h1)) ?_
      refine pu rfl (by simp only [go_sem, Nat.reduceBEq]; try with_reducible rfl) ?_
      refine fs ?_
      refine AWp.seq' ?_
      refine AWp.condF (by try simp only [go_sem, Nat.reduceBEq]; try rfl) ?_
      refine AWp.exit ?_
      refine exitSeq ?_
      refine exitThen ?_
      refine exitHere ?_
      refine normSeq ?_
      refine sr (N' := 192) rfl ?_
      refine pu rfl (by simp only [go_sem, Nat.reduceBEq]; try with_reducible rfl) ?_
      refine fs ?_
      refine AWp.ret ?_
      cases hm
      exact ret1D (.inr rfl) Try.results13 (td (by try simp only [go_sem, Nat.reduceBEq]; try rfl) (.v _))
def refLines_J2 (rec1 : List (List ByteArray) → List ByteArray → ByteArray → Bool → ByteArray → Nat → Option ((List (List ByteArray)))) (out_3 : List (List ByteArray)) (line_4 : List ByteArray) (word_5 : ByteArray) (note_6 : Bool) (c_8 : Int) (t11s : ByteArray) (t11p : Nat) : Option ((List (List ByteArray))) :=
  (bif (c_8 == 10) then
    ((app out_3 [line_4]).bind fun l9 =>
    rec1 l9 [] word_5 false t11s t11p)
  else
    rec1 out_3 line_4 word_5 note_6 t11s t11p)
def refLines_J1 (rec1 : List (List ByteArray) → List ByteArray → ByteArray → Bool → ByteArray → Nat → Option ((List (List ByteArray)))) (out_3 : List (List ByteArray)) (line_4 : List ByteArray) (word_5 : ByteArray) (note_6 : Bool) (c_8 : Int) (t11s : ByteArray) (t11p : Nat) : Option ((List (List ByteArray))) :=
  ((refOf_m c_8).bind fun r5 =>
  (bif (r5 && (!note_6)) then
    ((sadd word_5 (Utf8.encode c_8)).bind fun s7 =>
    rec1 out_3 line_4 s7 note_6 t11s t11p)
  else
    (bif ((!decide (word_5 = ⟨#[]⟩)) && ((!note_6) || (c_8 == 35))) then
      ((app line_4 [word_5]).bind fun l11 =>
      refLines_J2 rec1 out_3 l11 ⟨#[]⟩ note_6 c_8 t11s t11p)
    else
      refLines_J2 rec1 out_3 line_4 word_5 note_6 c_8 t11s t11p)))
def refLines_B1 (rec1 : List (List ByteArray) → List ByteArray → ByteArray → Bool → ByteArray → Nat → Option ((List (List ByteArray)))) (out_3 : List (List ByteArray)) (line_4 : List ByteArray) (word_5 : ByteArray) (note_6 : Bool) (t11s : ByteArray) (t11p : Nat) : Option ((List (List ByteArray))) :=
  (bif (decide (t11p < t11s.size)) then
    (bif ((((Utf8.decode t11s t11p).1 : Nat) : Int) == 35) then
      refLines_J1 rec1 out_3 line_4 word_5 true (((Utf8.decode t11s t11p).1 : Nat) : Int) t11s (t11p + (Utf8.decode t11s t11p).2)
    else
      refLines_J1 rec1 out_3 line_4 word_5 note_6 (((Utf8.decode t11s t11p).1 : Nat) : Int) t11s (t11p + (Utf8.decode t11s t11p).2))
  else
    some out_3)
def refLines_L1 : Nat → List (List ByteArray) → List ByteArray → ByteArray → Bool → ByteArray → Nat → Option ((List (List ByteArray)))
  | 0 => fun _ _ _ _ _ _ => none
  | n + 1 => refLines_B1 (refLines_L1 n)
def refLines_m (text_0 : ByteArray) : Option ((List (List ByteArray))) :=
  ((sadd text_0 ⟨#[10]⟩).bind fun s2 =>
  refLines_L1 FUEL [] [] ⟨#[]⟩ false s2 0)
theorem refLines_c {text_0 : ByteArray} {r : (List (List ByteArray))} (hm : refLines_m text_0 = some r) : PureC Try.prog 15 [.v (.string text_0)] (.sl (r.flatMap (csl cstr)) r.length false) := by
  refine PureC.of_body Try.func15 rfl ?_
  simp only [Try.ntmps15, List.length_cons, List.length_nil, Nat.reduceAdd, Nat.reduceSub, empty_eq]
  unfold refLines_m at hm
  refine sr (N' := 64) rfl ?_
  refine pu rfl (by simp only [go_sem, Nat.reduceBEq]; try with_reducible rfl) ?_
  refine fs ?_
  refine sr (N' := 128) rfl ?_
  refine pu rfl (by simp only [go_sem, Nat.reduceBEq]; try with_reducible rfl) ?_
  refine fs ?_
  refine sr (N' := 192) rfl ?_
  refine pu rfl (by simp only [go_sem, Nat.reduceBEq]; try with_reducible rfl) ?_
  refine fs ?_
  refine sr (N' := 256) rfl ?_
  refine pu rfl (by simp only [go_sem, Nat.reduceBEq]; try with_reducible rfl) ?_
  refine fs ?_
  refine sr (N' := 320) rfl ?_
  refine pu rfl (by simp only [go_sem, Nat.reduceBEq]; try with_reducible rfl) ?_
  refine fs ?_
  refine AWp.seq' ?_
  refine sr (N' := 384) rfl ?_
  refine pu rfl (by simp only [go_sem, Nat.reduceBEq]; try with_reducible rfl) ?_
  obtain ⟨s2, h1, hm⟩ := bnd hm
  refine pu rfl (ap_sadd (by try simp only [go_sem, Nat.reduceBEq]; try rfl) (by try simp only [go_sem, Nat.reduceBEq]; try rfl) h1) ?_
  refine hp (id := 322) rfl rfl (aheap_range Try.underlying9 (by try simp only [go_sem, Nat.reduceBEq]; try rfl) (by simp only [isFresh_upd, isFresh_no, Nat.reduceBEq, cond_true, cond_false])) ?_
  refine fs ?_
  refine AWp.block ?_
  refine AWp.loopM (fun m s => ∃ (out_3 : List (List ByteArray)) (line_4 : List ByteArray) (word_5 : ByteArray) (note_6 : Bool) (t11s : ByteArray) (t11p : Nat), s = (⟨48, (fset (fset (fset (fset (fset (fun _ => AV.any) 3 (.own 1 0 out_3.length)) 4 (.own 2 0 line_4.length)) 5 (.v (.string word_5))) 6 (.v (.bool note_6))) 11 (.adr 3 0)), ⟨(upd (upd (upd nofresh 1 (.cells 1 (out_3.flatMap (csl cstr)) 0)) 2 (.cells 1 (line_4.flatMap cstr) 0)) 3 (.iter t11s t11p)), 64⟩⟩ : St) ∧ refLines_L1 m out_3 line_4 word_5 note_6 t11s t11p = some r) FUEL ?_ ?_ ?_
  · rintro s ⟨_, _, _, _, _, _, _, h⟩
    cases h
  · refine ⟨_, ?_, [], [], ⟨#[]⟩, false, s2, 0, rfl, hm⟩
    refine St.Le.trans (le_nil 3 900003 1 (by try simp only [go_sem, Nat.reduceBEq]; try rfl) (by simp only [isFresh_upd, isFresh_no, Nat.reduceBEq, cond_true, cond_false])) ?_
    refine St.Le.trans (le_nil 4 900004 1 (by try simp only [go_sem, Nat.reduceBEq]; try rfl) (by simp only [isFresh_upd, isFresh_no, Nat.reduceBEq, cond_true, cond_false])) ?_
    exact le_canon (fun j => bif j == 1 then 900003 else bif j == 2 then 900004 else bif j == 3 then 322 else 0) (wk_fset _ _ (wk_adr (by try simp only [go_sem, Nat.reduceBEq]; try rfl) rfl (by simp [upd])) (wk_fset _ _ (wk_data (by try simp only [go_sem, Nat.reduceBEq]; try rfl) (.v _)) (wk_fset _ _ (wk_data (by try simp only [go_sem, Nat.reduceBEq]; try rfl) (.v _)) (wk_fset _ _ (wk_own (by try simp only [go_sem, Nat.reduceBEq]; try rfl) (by first | rfl | omega) rfl (by simp [upd])) (wk_fset _ _ (wk_own (by try simp only [go_sem, Nat.reduceBEq]; try rfl) (by first | rfl | omega) rfl (by simp [upd])) wk_none))))) (heapWk_of _ (entWk_upd (entWk_iter (by simp only [upd_beq, Nat.reduceBEq, cond_true, cond_false]; try rfl)) (entWk_upd (ent_fm CFs (by simp only [upd_beq, Nat.reduceBEq, cond_true, cond_false]; try rfl) rfl) (entWk_upd (ent_fm (CFl CFs) (by simp only [upd_beq, Nat.reduceBEq, cond_true, cond_false]; try rfl) rfl) entWk_none))) (by repeat' (first | exact inj_none | exact liv_none | refine inj_upd ?_ ?_ | refine liv_upd ?_ ?_ | exact .inl rfl | exact .inr (by decide))))
  · rintro n1 s ⟨out_3, line_4, word_5, note_6, t11s, t11p, rfl, hm⟩
    replace hm : refLines_B1 (refLines_L1 n1) out_3 line_4 word_5 note_6 t11s t11p = some r := hm
    unfold refLines_B1 at hm
    refine sr (N' := 128) rfl ?_
    refine split_m hm (fun h3 hm => ?_) (fun h3 hm => ?_)
    · refine hp (id := 64) rfl rfl (aheap_next_yes (by try simp only [go_sem, Nat.reduceBEq]; try rfl) (by simp only [upd_beq, Nat.reduceBEq, cond_true, cond_false]; try rfl) (of_decide_eq_true h3)) ?_
      refine pu rfl (by simp only [go_sem, Nat.reduceBEq]; try with_reducible rfl) ?_
      refine fs ?_
      refine AWp.seq' ?_
      refine AWp.condT (by try simp only [go_sem, Nat.reduceBEq]; try rfl) ?_
      refine AWp.skip ?_
      refine normSeq ?_
      refine AWp.block ?_
      refine sr (N' := 192) rfl ?_
      iterate 2 refine pu rfl (by simp only [go_sem, Nat.reduceBEq]; try with_reducible rfl) ?_
      refine fs ?_
      refine AWp.seqJ (fun s => ∃ (out_3 : List (List ByteArray)) (line_4 : List ByteArray) (word_5 : ByteArray) (note_6 : Bool) (c_8 : Int) (t11s : ByteArray) (t11p : Nat), s = (⟨48, (fset (fset (fset (fset (fset (fset (fun _ => AV.any) 3 (.own 1 0 out_3.length)) 4 (.own 2 0 line_4.length)) 5 (.v (.string word_5))) 6 (.v (.bool note_6))) 8 (.v (.int .i32 c_8))) 11 (.adr 3 0)), ⟨(upd (upd (upd nofresh 1 (.cells 1 (out_3.flatMap (csl cstr)) 0)) 2 (.cells 1 (line_4.flatMap cstr) 0)) 3 (.iter t11s t11p)), 64⟩⟩ : St) ∧ refLines_J1 (refLines_L1 n1) out_3 line_4 word_5 note_6 c_8 t11s t11p = some r) ?_ ?_
      · refine sr (N' := 256) rfl ?_
        iterate 2 refine pu rfl (by simp only [go_sem, Nat.reduceBEq]; try with_reducible rfl) ?_
        refine fs ?_
        refine AWp.condM hm (by try simp only [go_sem, Nat.reduceBEq]; try rfl) (fun _ hm => ?_) (fun _ hm => ?_)
        · refine AWp.reg 64 (N' := 320) rfl ?_
          refine pu rfl (by simp only [go_sem, Nat.reduceBEq]; try with_reducible rfl) ?_
          refine ARun.fin ?_
          refine normJ ?_
          refine ⟨_, ?_, out_3, line_4, word_5, true, (((Utf8.decode t11s t11p).1 : Nat) : Int), t11s, (t11p + (Utf8.decode t11s t11p).2), rfl, hm⟩
          exact le_canon (fun j => bif j == 1 then 1 else bif j == 2 then 2 else bif j == 3 then 3 else 0) (wk_fset _ _ (wk_adr (by try simp only [go_sem, Nat.reduceBEq]; try rfl) rfl (by simp [upd])) (wk_fset _ _ (wk_data (by try simp only [go_sem, Nat.reduceBEq]; try rfl) (.v _)) (wk_fset _ _ (wk_data (by try simp only [go_sem, Nat.reduceBEq]; try rfl) (.v _)) (wk_fset _ _ (wk_data (by try simp only [go_sem, Nat.reduceBEq]; try rfl) (.v _)) (wk_fset _ _ (wk_own (by try simp only [go_sem, Nat.reduceBEq]; try rfl) (by first | rfl | omega) rfl (by simp [upd])) (wk_fset _ _ (wk_own (by try simp only [go_sem, Nat.reduceBEq]; try rfl) (by first | rfl | omega) rfl (by simp [upd])) wk_none)))))) (heapWk_of _ (entWk_upd (entWk_iter (by simp only [upd_beq, Nat.reduceBEq, cond_true, cond_false]; try rfl)) (entWk_upd (ent_fm CFs (by simp only [upd_beq, Nat.reduceBEq, cond_true, cond_false]; try rfl) rfl) (entWk_upd (ent_fm (CFl CFs) (by simp only [upd_beq, Nat.reduceBEq, cond_true, cond_false]; try rfl) rfl) entWk_none))) (by repeat' (first | exact inj_none | exact liv_none | refine inj_upd ?_ ?_ | refine liv_upd ?_ ?_ | exact .inl rfl | exact .inr (by decide))))
        · refine AWp.skip ?_
          refine normJ ?_
          refine ⟨_, ?_, out_3, line_4, word_5, note_6, (((Utf8.decode t11s t11p).1 : Nat) : Int), t11s, (t11p + (Utf8.decode t11s t11p).2), rfl, hm⟩
          exact le_canon (fun j => bif j == 1 then 1 else bif j == 2 then 2 else bif j == 3 then 3 else 0) (wk_fset _ _ (wk_adr (by try simp only [go_sem, Nat.reduceBEq]; try rfl) rfl (by simp [upd])) (wk_fset _ _ (wk_data (by try simp only [go_sem, Nat.reduceBEq]; try rfl) (.v _)) (wk_fset _ _ (wk_data (by try simp only [go_sem, Nat.reduceBEq]; try rfl) (.v _)) (wk_fset _ _ (wk_data (by try simp only [go_sem, Nat.reduceBEq]; try rfl) (.v _)) (wk_fset _ _ (wk_own (by try simp only [go_sem, Nat.reduceBEq]; try rfl) (by first | rfl | omega) rfl (by simp [upd])) (wk_fset _ _ (wk_own (by try simp only [go_sem, Nat.reduceBEq]; try rfl) (by first | rfl | omega) rfl (by simp [upd])) wk_none)))))) (heapWk_of _ (entWk_upd (entWk_iter (by simp only [upd_beq, Nat.reduceBEq, cond_true, cond_false]; try rfl)) (entWk_upd (ent_fm CFs (by simp only [upd_beq, Nat.reduceBEq, cond_true, cond_false]; try rfl) rfl) (entWk_upd (ent_fm (CFl CFs) (by simp only [upd_beq, Nat.reduceBEq, cond_true, cond_false]; try rfl) rfl) entWk_none))) (by repeat' (first | exact inj_none | exact liv_none | refine inj_upd ?_ ?_ | refine liv_upd ?_ ?_ | exact .inl rfl | exact .inr (by decide))))
      · rintro s ⟨out_3, line_4, word_5, note_6, c_8, t11s, t11p, rfl, hm⟩
        unfold refLines_J1 at hm
        refine AWp.seq' ?_
        refine sr (N' := 128) rfl ?_
        refine pu rfl (by simp only [go_sem, Nat.reduceBEq]; try with_reducible rfl) ?_
        obtain ⟨r5, h4, hm⟩ := bnd hm
        refine ARun.callQ (r := .v (.bool r5)) (by decide) (by try simp only [go_sem, Nat.reduceBEq]; try rfl) fb24 (fun H => (.cons (td (by try simp only [go_sem, Nat.reduceBEq]; try rfl) (.v _)) .nil)) (refOf_c h4) ?_
        iterate 4 (first | refine pu rfl (by simp only [go_sem, Nat.reduceBEq]; try with_reducible rfl) ?_ | refine pg rfl rfl (by simp only [go_sem, Nat.reduceBEq]; try with_reducible rfl) (by intro hb; simp only [go_sem, Nat.reduceBEq, hb, Bool.true_and]; try with_reducible rfl) ?_)
        refine fs ?_
        refine AWp.condM hm (by try simp only [go_sem, Nat.reduceBEq]; try rfl) (fun _ hm => ?_) (fun _ hm => ?_)
        · refine sr (N' := 192) rfl ?_
          iterate 3 refine pu rfl (by simp only [go_sem, Nat.reduceBEq]; try with_reducible rfl) ?_
          obtain ⟨s7, h6, hm⟩ := bnd hm
          refine pu rfl (ap_sadd (by try simp only [go_sem, Nat.reduceBEq]; try rfl) (by try simp only [go_sem, Nat.reduceBEq]; try rfl) h6) ?_
          refine pu rfl (by simp only [go_sem, Nat.reduceBEq]; try with_reducible rfl) ?_
          refine fs ?_
          refine AWp.exit ?_
          refine exitSeq ?_
          refine exitHere ?_
          refine normThen ?_
          refine ⟨_, ?_, out_3, line_4, s7, note_6, t11s, t11p, rfl, hm⟩
          exact le_canon (fun j => bif j == 1 then 1 else bif j == 2 then 2 else bif j == 3 then 3 else 0) (wk_fset _ _ (wk_adr (by try simp only [go_sem, Nat.reduceBEq]; try rfl) rfl (by simp [upd])) (wk_fset _ _ (wk_data (by try simp only [go_sem, Nat.reduceBEq]; try rfl) (.v _)) (wk_fset _ _ (wk_data (by try simp only [go_sem, Nat.reduceBEq]; try rfl) (.v _)) (wk_fset _ _ (wk_own (by try simp only [go_sem, Nat.reduceBEq]; try rfl) (by first | rfl | omega) rfl (by simp [upd])) (wk_fset _ _ (wk_own (by try simp only [go_sem, Nat.reduceBEq]; try rfl) (by first | rfl | omega) rfl (by simp [upd])) wk_none))))) (heapWk_of _ (entWk_upd (entWk_iter (by simp only [upd_beq, Nat.reduceBEq, cond_true, cond_false]; try rfl)) (entWk_upd (ent_fm CFs (by simp only [upd_beq, Nat.reduceBEq, cond_true, cond_false]; try rfl) rfl) (entWk_upd (ent_fm (CFl CFs) (by simp only [upd_beq, Nat.reduceBEq, cond_true, cond_false]; try rfl) rfl) entWk_none))) (by repeat' (first | exact inj_none | exact liv_none | refine inj_upd ?_ ?_ | refine liv_upd ?_ ?_ | exact .inl rfl | exact .inr (by decide))))
        · refine AWp.skip ?_
          refine normSeq ?_
          refine AWp.seqJ (fun s => ∃ (out_3 : List (List ByteArray)) (line_4 : List ByteArray) (word_5 : ByteArray) (note_6 : Bool) (c_8 : Int) (t11s : ByteArray) (t11p : Nat), s = (⟨48, (fset (fset (fset (fset (fset (fset (fun _ => AV.any) 3 (.own 1 0 out_3.length)) 4 (.own 2 0 line_4.length)) 5 (.v (.string word_5))) 6 (.v (.bool note_6))) 8 (.v (.int .i32 c_8))) 11 (.adr 3 0)), ⟨(upd (upd (upd nofresh 1 (.cells 1 (out_3.flatMap (csl cstr)) 0)) 2 (.cells 1 (line_4.flatMap cstr) 0)) 3 (.iter t11s t11p)), 64⟩⟩ : St) ∧ refLines_J2 (refLines_L1 n1) out_3 line_4 word_5 note_6 c_8 t11s t11p = some r) ?_ ?_
          · refine sr (N' := 192) rfl ?_
            iterate 10 (first | refine pu rfl (by simp only [go_sem, Nat.reduceBEq]; try with_reducible rfl) ?_ | refine pg rfl rfl (by simp only [go_sem, Nat.reduceBEq]; try with_reducible rfl) (by intro hb; simp only [go_sem, Nat.reduceBEq, hb, Bool.true_and]; try with_reducible rfl) ?_)
            refine fs ?_
            refine AWp.condM hm (by try simp only [go_sem, Nat.reduceBEq]; try rfl) (fun _ hm => ?_) (fun _ hm => ?_)
            · refine sr (N' := 256) rfl ?_
              iterate 2 refine pu rfl (by simp only [go_sem, Nat.reduceBEq]; try with_reducible rfl) ?_
              refine hp (id := 194) rfl rfl (ah_list CFs (l := [word_5]) Try.underlying45 sz9 zc9 (by simp only [isFresh_upd, isFresh_no, Nat.reduceBEq, cond_true, cond_false]) (by decide) (by decide) (by decide) (by simp only [go_sem, Nat.reduceBEq]; try rfl) (by kernel_rfl)) ?_
              obtain ⟨l11, h10, hm⟩ := bnd hm
              refine hp (id := 195) rfl rfl (ah_app CFs Try.underlying45 Try.underlying45 rfl in9 ts9 (by rw [tb9]; decide) (by rw [tb9]; decide) tz9 (by decide) (by decide) (by try simp only [go_sem, Nat.reduceBEq]; try rfl) (by simp only [upd_beq, Nat.reduceBEq, cond_true, cond_false]; try rfl) (by first | rfl | omega) (as_own CFs (by try simp only [go_sem, Nat.reduceBEq]; try rfl) (by simp only [upd_beq, Nat.reduceBEq, cond_true, cond_false]; try rfl) (by first | rfl | omega)) rfl (by simp only [isFresh_upd, isFresh_no, Nat.reduceBEq, cond_true, cond_false]) h10) ?_
              refine pu rfl (by simp only [go_sem, Nat.reduceBEq]; try with_reducible rfl) ?_
              refine fs ?_
              refine AWp.reg 64 (N' := 320) rfl ?_
              refine pu rfl (by simp only [go_sem, Nat.reduceBEq]; try with_reducible rfl) ?_
              refine ARun.fin ?_
              refine normJ ?_
              refine ⟨_, ?_, out_3, l11, ⟨#[]⟩, note_6, c_8, t11s, t11p, rfl, hm⟩
              exact le_canon (fun j => bif j == 1 then 1 else bif j == 2 then 195 else bif j == 3 then 3 else 0) (wk_fset _ _ (wk_adr (by try simp only [go_sem, Nat.reduceBEq]; try rfl) rfl (by simp [upd])) (wk_fset _ _ (wk_data (by try simp only [go_sem, Nat.reduceBEq]; try rfl) (.v _)) (wk_fset _ _ (wk_data (by try simp only [go_sem, Nat.reduceBEq]; try rfl) (.v _)) (wk_fset _ _ (wk_data (by try simp only [go_sem, Nat.reduceBEq]; try rfl) (.v _)) (wk_fset _ _ (wk_own (by try simp only [go_sem, Nat.reduceBEq]; try rfl) (by first | rfl | omega) rfl (by simp [upd])) (wk_fset _ _ (wk_own (by try simp only [go_sem, Nat.reduceBEq]; try rfl) (by first | rfl | omega) rfl (by simp [upd])) wk_none)))))) (heapWk_of _ (entWk_upd (entWk_iter (by simp only [upd_beq, Nat.reduceBEq, cond_true, cond_false]; try rfl)) (entWk_upd (ent_fm CFs (by simp only [upd_beq, Nat.reduceBEq, cond_true, cond_false]; try rfl) rfl) (entWk_upd (ent_fm (CFl CFs) (by simp only [upd_beq, Nat.reduceBEq, cond_true, cond_false]; try rfl) rfl) entWk_none))) (by repeat' (first | exact inj_none | exact liv_none | refine inj_upd ?_ ?_ | refine liv_upd ?_ ?_ | exact .inl rfl | exact .inr (by decide))))
            · refine AWp.skip ?_
              refine normJ ?_
              refine ⟨_, ?_, out_3, line_4, word_5, note_6, c_8, t11s, t11p, rfl, hm⟩
              exact le_canon (fun j => bif j == 1 then 1 else bif j == 2 then 2 else bif j == 3 then 3 else 0) (wk_fset _ _ (wk_adr (by try simp only [go_sem, Nat.reduceBEq]; try rfl) rfl (by simp [upd])) (wk_fset _ _ (wk_data (by try simp only [go_sem, Nat.reduceBEq]; try rfl) (.v _)) (wk_fset _ _ (wk_data (by try simp only [go_sem, Nat.reduceBEq]; try rfl) (.v _)) (wk_fset _ _ (wk_data (by try simp only [go_sem, Nat.reduceBEq]; try rfl) (.v _)) (wk_fset _ _ (wk_own (by try simp only [go_sem, Nat.reduceBEq]; try rfl) (by first | rfl | omega) rfl (by simp [upd])) (wk_fset _ _ (wk_own (by try simp only [go_sem, Nat.reduceBEq]; try rfl) (by first | rfl | omega) rfl (by simp [upd])) wk_none)))))) (heapWk_of _ (entWk_upd (entWk_iter (by simp only [upd_beq, Nat.reduceBEq, cond_true, cond_false]; try rfl)) (entWk_upd (ent_fm CFs (by simp only [upd_beq, Nat.reduceBEq, cond_true, cond_false]; try rfl) rfl) (entWk_upd (ent_fm (CFl CFs) (by simp only [upd_beq, Nat.reduceBEq, cond_true, cond_false]; try rfl) rfl) entWk_none))) (by repeat' (first | exact inj_none | exact liv_none | refine inj_upd ?_ ?_ | refine liv_upd ?_ ?_ | exact .inl rfl | exact .inr (by decide))))
          · rintro s ⟨out_3, line_4, word_5, note_6, c_8, t11s, t11p, rfl, hm⟩
            unfold refLines_J2 at hm
            refine sr (N' := 128) rfl ?_
            iterate 2 refine pu rfl (by simp only [go_sem, Nat.reduceBEq]; try with_reducible rfl) ?_
            refine fs ?_
            refine AWp.condM hm (by try simp only [go_sem, Nat.reduceBEq]; try rfl) (fun _ hm => ?_) (fun _ hm => ?_)
            · refine AWp.seq' ?_
              refine AWp.weaken (le_lock CFs 4 2 (by try simp only [go_sem, Nat.reduceBEq]; try rfl) (by simp only [upd_beq, Nat.reduceBEq, cond_true, cond_false]; try rfl) (by first | rfl | omega)) ?_
              refine AWp.reg 64 (N' := 192) rfl ?_
              iterate 2 refine pu rfl (by simp only [go_sem, Nat.reduceBEq]; try with_reducible rfl) ?_
              refine hp (id := 130) rfl rfl (ah_list (CFl CFs) (l := [line_4]) Try.underlying23 sz45 zc45 (by simp only [isFresh_upd, isFresh_no, Nat.reduceBEq, cond_true, cond_false]) (by decide) (by decide) (by decide) (by simp only [go_sem, Nat.reduceBEq]; try rfl) (by kernel_rfl)) ?_
              obtain ⟨l9, h8, hm⟩ := bnd hm
              refine hp (id := 131) rfl rfl (ah_app (CFl CFs) Try.underlying23 Try.underlying23 rfl in45 ts45 (by rw [tb45]; decide) (by rw [tb45]; decide) tz45 (by decide) (by decide) (by try simp only [go_sem, Nat.reduceBEq]; try rfl) (by simp only [upd_beq, Nat.reduceBEq, cond_true, cond_false]; try rfl) (by first | rfl | omega) (as_own (CFl CFs) (by try simp only [go_sem, Nat.reduceBEq]; try rfl) (by simp only [upd_beq, Nat.reduceBEq, cond_true, cond_false]; try rfl) (by first | rfl | omega)) rfl (by simp only [isFresh_upd, isFresh_no, Nat.reduceBEq, cond_true, cond_false]) h8) ?_
              refine pu rfl (by simp only [go_sem, Nat.reduceBEq]; try with_reducible rfl) ?_
              refine fs ?_
              refine sr (N' := 256) rfl ?_
              refine pu rfl (by simp only [go_sem, Nat.reduceBEq]; try with_reducible rfl) ?_
              refine fs ?_
              refine AWp.reg 64 (N' := 320) rfl ?_
              refine pu rfl (by simp only [go_sem, Nat.reduceBEq]; try with_reducible rfl) ?_
              refine ARun.fin ?_
              refine normIn ?_
              refine normThen ?_
              refine ⟨_, ?_, l9, [], word_5, false, t11s, t11p, rfl, hm⟩
              refine St.Le.trans (le_nil 4 900004 1 (by try simp only [go_sem, Nat.reduceBEq]; try rfl) (by simp only [isFresh_upd, isFresh_no, Nat.reduceBEq, cond_true, cond_false])) ?_
              exact le_canon (fun j => bif j == 1 then 131 else bif j == 2 then 900004 else bif j == 3 then 3 else 0) (wk_fset _ _ (wk_adr (by try simp only [go_sem, Nat.reduceBEq]; try rfl) rfl (by simp [upd])) (wk_fset _ _ (wk_data (by try simp only [go_sem, Nat.reduceBEq]; try rfl) (.v _)) (wk_fset _ _ (wk_data (by try simp only [go_sem, Nat.reduceBEq]; try rfl) (.v _)) (wk_fset _ _ (wk_own (by try simp only [go_sem, Nat.reduceBEq]; try rfl) (by first | rfl | omega) rfl (by simp [upd])) (wk_fset _ _ (wk_own (by try simp only [go_sem, Nat.reduceBEq]; try rfl) (by first | rfl | omega) rfl (by simp [upd])) wk_none))))) (heapWk_of _ (entWk_upd (entWk_iter (by simp only [upd_beq, Nat.reduceBEq, cond_true, cond_false]; try rfl)) (entWk_upd (ent_fm CFs (by simp only [upd_beq, Nat.reduceBEq, cond_true, cond_false]; try rfl) rfl) (entWk_upd (ent_fm (CFl CFs) (by simp only [upd_beq, Nat.reduceBEq, cond_true, cond_false]; try rfl) rfl) entWk_none))) (by repeat' (first | exact inj_none | exact liv_none | refine inj_upd ?_ ?_ | refine liv_upd ?_ ?_ | exact .inl rfl | exact .inr (by decide))))
            · refine AWp.skip ?_
              refine normIn ?_
              refine normThen ?_
              refine ⟨_, ?_, out_3, line_4, word_5, note_6, t11s, t11p, rfl, hm⟩
              exact le_canon (fun j => bif j == 1 then 1 else bif j == 2 then 2 else bif j == 3 then 3 else 0) (wk_fset _ _ (wk_adr (by try simp only [go_sem, Nat.reduceBEq]; try rfl) rfl (by simp [upd])) (wk_fset _ _ (wk_data (by try simp only [go_sem, Nat.reduceBEq]; try rfl) (.v _)) (wk_fset _ _ (wk_data (by try simp only [go_sem, Nat.reduceBEq]; try rfl) (.v _)) (wk_fset _ _ (wk_own (by try simp only [go_sem, Nat.reduceBEq]; try rfl) (by first | rfl | omega) rfl (by simp [upd])) (wk_fset _ _ (wk_own (by try simp only [go_sem, Nat.reduceBEq]; try rfl) (by first | rfl | omega) rfl (by simp [upd])) wk_none))))) (heapWk_of _ (entWk_upd (entWk_iter (by simp only [upd_beq, Nat.reduceBEq, cond_true, cond_false]; try rfl)) (entWk_upd (ent_fm CFs (by simp only [upd_beq, Nat.reduceBEq, cond_true, cond_false]; try rfl) rfl) (entWk_upd (ent_fm (CFl CFs) (by simp only [upd_beq, Nat.reduceBEq, cond_true, cond_false]; try rfl) rfl) entWk_none))) (by repeat' (first | exact inj_none | exact liv_none | refine inj_upd ?_ ?_ | refine liv_upd ?_ ?_ | exact .inl rfl | exact .inr (by decide))))
    · refine hp (id := 64) rfl rfl (aheap_next_no (by try simp only [go_sem, Nat.reduceBEq]; try rfl) (by simp only [upd_beq, Nat.reduceBEq, cond_true, cond_false]; try rfl) (of_decide_eq_false h3)) ?_
      refine pu rfl (by simp only [go_sem, Nat.reduceBEq]; try with_reducible rfl) ?_
      refine fs ?_
      refine AWp.seq' ?_
      refine AWp.condF (by try simp only [go_sem, Nat.reduceBEq]; try rfl) ?_
      refine AWp.exit ?_
      refine exitSeq ?_
      refine exitThen ?_
      refine exitHere ?_
      refine normSeq ?_
      refine sr (N' := 192) rfl ?_
      iterate 2 refine pu rfl (by simp only [go_sem, Nat.reduceBEq]; try with_reducible rfl) ?_
      refine fs ?_
      refine AWp.ret ?_
      cases hm
      exact ret1D (.inr rfl) Try.results15 (tdo (CFl CFs) (by try simp only [go_sem, Nat.reduceBEq]; try rfl) (by simp only [upd_beq, Nat.reduceBEq, cond_true, cond_false]; try rfl) (by first | rfl | omega))
def refNumber_B2 (rec2 : ByteArray → Int → Int → Option (Int × Int)) (word_0 : ByteArray) (n_5 : Int) (i_6 : Int) : Option (Int × Int) :=
  (bif (decide (i_6 < (word_0.size : Int))) then
    ((sidx word_0 i_6).bind fun b8 =>
    (bif (decide ((IntKind.u64.wrap (Int.tdiv (IntKind.u64.wrap (18446744073709551615 - (IntKind.u64.wrap (IntKind.u8.wrap (b8 - 48))))) 10)) < n_5)) then
      some (0, 6)
    else
      rec2 word_0 (IntKind.u64.wrap ((IntKind.u64.wrap (10 * n_5)) + (IntKind.u64.wrap (IntKind.u8.wrap (b8 - 48))))) (IntKind.i64.wrap (i_6 + 1))))
  else
    some (n_5, 0))
def refNumber_L2 : Nat → ByteArray → Int → Int → Option (Int × Int)
  | 0 => fun _ _ _ => none
  | n + 1 => refNumber_B2 (refNumber_L2 n)
def refNumber_B1 (rec1 : ByteArray → Int → Option (Int × Int)) (word_0 : ByteArray) (i_4 : Int) : Option (Int × Int) :=
  (bif (decide (i_4 < (word_0.size : Int))) then
    ((sidx word_0 i_4).bind fun b4 =>
    ((gopt ((decide (b4 < 48)) == false) 0 (sidx word_0 i_4)).bind fun b6 =>
    (bif ((decide (b4 < 48)) || (decide (57 < b6))) then
      some (0, 2)
    else
      rec1 word_0 (IntKind.i64.wrap (i_4 + 1)))))
  else
    refNumber_L2 FUEL word_0 0 0)
def refNumber_L1 : Nat → ByteArray → Int → Option (Int × Int)
  | 0 => fun _ _ => none
  | n + 1 => refNumber_B1 (refNumber_L1 n)
def refNumber_m (word_0 : ByteArray) : Option (Int × Int) :=
  ((gopt (((word_0.size : Int) == 0) == false) 0 (sidx word_0 0)).bind fun b2 =>
  (bif (((word_0.size : Int) == 0) || ((b2 == 48) && (decide (1 < (word_0.size : Int))))) then
    some (0, 2)
  else
    refNumber_L1 FUEL word_0 0))
theorem refNumber_c {word_0 : ByteArray} {r : Int × Int} (hm : refNumber_m word_0 = some r) : PureC Try.prog 17 [.v (.string word_0)] (.tup [.v (.int .u64 r.1), .v (.int .i64 r.2)]) := by
  refine PureC.of_body Try.func17 rfl ?_
  simp only [Try.ntmps17, List.length_cons, List.length_nil, Nat.reduceAdd, Nat.reduceSub, empty_eq]
  unfold refNumber_m at hm
  refine sr (N' := 64) rfl ?_
  iterate 2 refine pu rfl (by simp only [go_sem, Nat.reduceBEq]; try with_reducible rfl) ?_
  refine fs ?_
  refine AWp.seq' ?_
  refine sr (N' := 128) rfl ?_
  iterate 5 (first | refine pu rfl (by simp only [go_sem, Nat.reduceBEq]; try with_reducible rfl) ?_ | refine pg rfl rfl (by simp only [go_sem, Nat.reduceBEq]; try with_reducible rfl) (by intro hb; simp only [go_sem, Nat.reduceBEq, hb, Bool.true_and]; try with_reducible rfl) ?_)
  obtain ⟨b2, h1, hm⟩ := bnd hm
  refine pg rfl rfl (by simp only [go_sem, Nat.reduceBEq]; try with_reducible rfl) (fun hb => (ap_sidx Try.underlying9 (by try simp only [go_sem, Nat.reduceBEq, hb, Bool.true_and]; try rfl) (by try simp only [go_sem, Nat.reduceBEq, hb, Bool.true_and]; try rfl) (gopt_t h1 hb))) ?_
  iterate 7 (first | refine pu rfl (by simp only [go_sem, Nat.reduceBEq]; try with_reducible rfl) ?_ | refine pg rfl rfl (by simp only [go_sem, Nat.reduceBEq]; try with_reducible rfl) (by intro hb; simp only [go_sem, Nat.reduceBEq, hb, Bool.true_and]; try with_reducible rfl) ?_)
  refine fs ?_
  refine AWp.condM hm (by try simp only [go_sem, Nat.reduceBEq]; try rfl) (fun _ hm => ?_) (fun _ hm => ?_)
  · refine sr (N' := 192) rfl ?_
    iterate 2 refine pu rfl (by simp only [go_sem, Nat.reduceBEq]; try with_reducible rfl) ?_
    refine fs ?_
    refine AWp.ret ?_
    refine retSeq ?_
    cases hm
    exact ret2D (.inr rfl) Try.results17 (td (by try simp only [go_sem, Nat.reduceBEq]; try rfl) (.v _)) (td (by try simp only [go_sem, Nat.reduceBEq]; try rfl) (.v _))
  · refine AWp.skip ?_
    refine normSeq ?_
    refine AWp.seq' ?_
    refine sr (N' := 192) rfl ?_
    refine pu rfl (by simp only [go_sem, Nat.reduceBEq]; try with_reducible rfl) ?_
    refine fs ?_
    refine AWp.block ?_
    refine AWp.loopM (fun m s => ∃ (word_0 : ByteArray) (i_4 : Int), s = (⟨58, (fset (fset (fun _ => AV.any) 0 (.v (.string word_0))) 4 (.v (.int .i64 i_4))), ⟨nofresh, 64⟩⟩ : St) ∧ refNumber_L1 m word_0 i_4 = some r) FUEL ?_ ?_ ?_
    · rintro s ⟨_, _, _, h⟩
      cases h
    · refine ⟨_, ?_, word_0, 0, rfl, hm⟩
      exact le_canon id (wk_fset _ _ (wk_data (by try simp only [go_sem, Nat.reduceBEq]; try rfl) (.v _)) (wk_fset _ _ (wk_data (by try simp only [go_sem, Nat.reduceBEq]; try rfl) (.v _)) wk_none)) heapWk0
    · rintro n1 s ⟨word_0, i_4, rfl, hm⟩
      replace hm : refNumber_B1 (refNumber_L1 n1) word_0 i_4 = some r := hm
      unfold refNumber_B1 at hm
      refine AWp.seq' ?_
      refine sr (N' := 128) rfl ?_
      iterate 4 refine pu rfl (by simp only [go_sem, Nat.reduceBEq]; try with_reducible rfl) ?_
      refine fs ?_
      refine AWp.condM hm (by try simp only [go_sem, Nat.reduceBEq]; try rfl) (fun _ hm => ?_) (fun _ hm => ?_)
      · refine AWp.skip ?_
        refine normSeq ?_
        refine AWp.seq' ?_
        refine AWp.block ?_
        refine sr (N' := 192) rfl ?_
        iterate 2 refine pu rfl (by simp only [go_sem, Nat.reduceBEq]; try with_reducible rfl) ?_
        obtain ⟨b4, h3, hm⟩ := bnd hm
        refine pu rfl (ap_sidx Try.underlying9 (by try simp only [go_sem, Nat.reduceBEq]; try rfl) (by try simp only [go_sem, Nat.reduceBEq]; try rfl) h3) ?_
        iterate 4 (first | refine pu rfl (by simp only [go_sem, Nat.reduceBEq]; try with_reducible rfl) ?_ | refine pg rfl rfl (by simp only [go_sem, Nat.reduceBEq]; try with_reducible rfl) (by intro hb; simp only [go_sem, Nat.reduceBEq, hb, Bool.true_and]; try with_reducible rfl) ?_)
        obtain ⟨b6, h5, hm⟩ := bnd hm
        refine pg rfl rfl (by simp only [go_sem, Nat.reduceBEq]; try with_reducible rfl) (fun hb => (ap_sidx Try.underlying9 (by try simp only [go_sem, Nat.reduceBEq, hb, Bool.true_and]; try rfl) (by try simp only [go_sem, Nat.reduceBEq, hb, Bool.true_and]; try rfl) (gopt_t h5 hb))) ?_
        iterate 2 (first | refine pu rfl (by simp only [go_sem, Nat.reduceBEq]; try with_reducible rfl) ?_ | refine pg rfl rfl (by simp only [go_sem, Nat.reduceBEq]; try with_reducible rfl) (by intro hb; simp only [go_sem, Nat.reduceBEq, hb, Bool.true_and]; try with_reducible rfl) ?_)
        refine fs ?_
        refine AWp.condM hm (by try simp only [go_sem, Nat.reduceBEq]; try rfl) (fun _ hm => ?_) (fun _ hm => ?_)
        · refine sr (N' := 256) rfl ?_
          iterate 2 refine pu rfl (by simp only [go_sem, Nat.reduceBEq]; try with_reducible rfl) ?_
          refine fs ?_
          refine AWp.ret ?_
          refine retIn ?_
          refine retSeq ?_
          refine retThen ?_
          refine retIn ?_
          refine retSeq ?_
          cases hm
          exact ret2D (.inr rfl) Try.results17 (td (by try simp only [go_sem, Nat.reduceBEq]; try rfl) (.v _)) (td (by try simp only [go_sem, Nat.reduceBEq]; try rfl) (.v _))
        · refine AWp.skip ?_
          refine normIn ?_
          refine normSeq ?_
          refine AWp.reg 64 (N' := 256) rfl ?_
          iterate 3 refine pu rfl (by simp only [go_sem, Nat.reduceBEq]; try with_reducible rfl) ?_
          refine ARun.fin ?_
          refine normThen ?_
          refine ⟨_, ?_, word_0, (IntKind.i64.wrap (i_4 + 1)), rfl, hm⟩
          exact le_canon id (wk_fset _ _ (wk_data (by try simp only [go_sem, Nat.reduceBEq]; try rfl) (.v _)) (wk_fset _ _ (wk_data (by try simp only [go_sem, Nat.reduceBEq]; try rfl) (.v _)) wk_none)) heapWk0
      · refine AWp.exit ?_
        refine exitSeq ?_
        refine exitThen ?_
        refine exitHere ?_
        refine normSeq ?_
        refine sr (N' := 192) rfl ?_
        refine pu rfl (by simp only [go_sem, Nat.reduceBEq]; try with_reducible rfl) ?_
        refine fs ?_
        refine AWp.seq' ?_
        refine sr (N' := 256) rfl ?_
        refine pu rfl (by simp only [go_sem, Nat.reduceBEq]; try with_reducible rfl) ?_
        refine fs ?_
        refine AWp.block ?_
        refine AWp.loopM (fun m s => ∃ (word_0 : ByteArray) (n_5 : Int) (i_6 : Int), s = (⟨58, (fset (fset (fset (fun _ => AV.any) 0 (.v (.string word_0))) 5 (.v (.int .u64 n_5))) 6 (.v (.int .i64 i_6))), ⟨nofresh, 64⟩⟩ : St) ∧ refNumber_L2 m word_0 n_5 i_6 = some r) FUEL ?_ ?_ ?_
        · rintro s ⟨_, _, _, _, h⟩
          cases h
        · refine ⟨_, ?_, word_0, 0, 0, rfl, hm⟩
          exact le_canon id (wk_fset _ _ (wk_data (by try simp only [go_sem, Nat.reduceBEq]; try rfl) (.v _)) (wk_fset _ _ (wk_data (by try simp only [go_sem, Nat.reduceBEq]; try rfl) (.v _)) (wk_fset _ _ (wk_data (by try simp only [go_sem, Nat.reduceBEq]; try rfl) (.v _)) wk_none))) heapWk0
        · rintro n2 s ⟨word_0, n_5, i_6, rfl, hm⟩
          replace hm : refNumber_B2 (refNumber_L2 n2) word_0 n_5 i_6 = some r := hm
          unfold refNumber_B2 at hm
          refine AWp.seq' ?_
          refine sr (N' := 128) rfl ?_
          iterate 4 refine pu rfl (by simp only [go_sem, Nat.reduceBEq]; try with_reducible rfl) ?_
          refine fs ?_
          refine AWp.condM hm (by try simp only [go_sem, Nat.reduceBEq]; try rfl) (fun _ hm => ?_) (fun _ hm => ?_)
          · refine AWp.skip ?_
            refine normSeq ?_
            refine AWp.seq' ?_
            refine AWp.block ?_
            refine sr (N' := 192) rfl ?_
            iterate 2 refine pu rfl (by simp only [go_sem, Nat.reduceBEq]; try with_reducible rfl) ?_
            obtain ⟨b8, h7, hm⟩ := bnd hm
            refine pu rfl (ap_sidx Try.underlying9 (by try simp only [go_sem, Nat.reduceBEq]; try rfl) (by try simp only [go_sem, Nat.reduceBEq]; try rfl) h7) ?_
            iterate 3 refine pu rfl (by simp only [go_sem, Nat.reduceBEq]; try with_reducible rfl) ?_
            refine fs ?_
            refine AWp.seq' ?_
            refine sr (N' := 256) rfl ?_
            iterate 5 refine pu rfl (by simp only [go_sem, Nat.reduceBEq, Int.reduceEq, Int.reduceLE]; try with_reducible rfl) ?_
            refine fs ?_
            refine AWp.condM hm (by try simp only [go_sem, Nat.reduceBEq]; try rfl) (fun _ hm => ?_) (fun _ hm => ?_)
            · refine sr (N' := 320) rfl ?_
              iterate 2 refine pu rfl (by simp only [go_sem, Nat.reduceBEq]; try with_reducible rfl) ?_
              refine fs ?_
              refine AWp.ret ?_
              refine retSeq ?_
              refine retIn ?_
              refine retSeq ?_
              refine retThen ?_
              refine retIn ?_
              refine retSeq ?_
              cases hm
              exact ret2D (.inr rfl) Try.results17 (td (by try simp only [go_sem, Nat.reduceBEq]; try rfl) (.v _)) (td (by try simp only [go_sem, Nat.reduceBEq]; try rfl) (.v _))
            · refine AWp.skip ?_
              refine normSeq ?_
              refine AWp.reg 64 (N' := 320) rfl ?_
              iterate 5 refine pu rfl (by simp only [go_sem, Nat.reduceBEq]; try with_reducible rfl) ?_
              refine ARun.fin ?_
              refine normIn ?_
              refine normSeq ?_
              refine AWp.reg 64 (N' := 384) rfl ?_
              iterate 3 refine pu rfl (by simp only [go_sem, Nat.reduceBEq]; try with_reducible rfl) ?_
              refine ARun.fin ?_
              refine normThen ?_
              refine ⟨_, ?_, word_0, (IntKind.u64.wrap ((IntKind.u64.wrap (10 * n_5)) + (IntKind.u64.wrap (IntKind.u8.wrap (b8 - 48))))), (IntKind.i64.wrap (i_6 + 1)), rfl, hm⟩
              exact le_canon id (wk_fset _ _ (wk_data (by try simp only [go_sem, Nat.reduceBEq]; try rfl) (.v _)) (wk_fset _ _ (wk_data (by try simp only [go_sem, Nat.reduceBEq]; try rfl) (.v _)) (wk_fset _ _ (wk_data (by try simp only [go_sem, Nat.reduceBEq]; try rfl) (.v _)) wk_none))) heapWk0
          · refine AWp.exit ?_
            refine exitSeq ?_
            refine exitThen ?_
            refine exitHere ?_
            refine normSeq ?_
            refine sr (N' := 192) rfl ?_
            iterate 3 refine pu rfl (by simp only [go_sem, Nat.reduceBEq]; try with_reducible rfl) ?_
            refine fs ?_
            refine AWp.ret ?_
            cases hm
            exact ret2D (.inr rfl) Try.results17 (td (by try simp only [go_sem, Nat.reduceBEq]; try rfl) (.v _)) (td (by try simp only [go_sem, Nat.reduceBEq]; try rfl) (.v _))
def refDigit_m (n_0 : Int) : Option (ByteArray) :=
  ((sidx ⟨#[48, 49, 50, 51, 52, 53, 54, 55, 56, 57, 97, 98, 99, 100, 101, 102]⟩ n_0).bind fun b2 =>
  some (bstr [b2]))
theorem refDigit_c {n_0 : Int} {r : ByteArray} (hm : refDigit_m n_0 = some r) : PureC Try.prog 28 [.v (.int .u8 n_0)] (.v (.string r)) := by
  refine PureC.of_body Try.func28 rfl ?_
  simp only [Try.ntmps28, List.length_cons, List.length_nil, Nat.reduceAdd, Nat.reduceSub, empty_eq]
  unfold refDigit_m at hm
  refine sr (N' := 64) rfl ?_
  refine pu rfl (by simp only [go_sem, Nat.reduceBEq]; try with_reducible rfl) ?_
  refine fs ?_
  refine sr (N' := 128) rfl ?_
  refine pu rfl (by simp only [go_sem, Nat.reduceBEq]; try with_reducible rfl) ?_
  obtain ⟨b2, h1, hm⟩ := bnd hm
  refine pu rfl (ap_sidx Try.underlying9 (by try simp only [go_sem, Nat.reduceBEq]; try rfl) (by try simp only [go_sem, Nat.reduceBEq]; try rfl) h1) ?_
  refine hp (id := 66) rfl rfl (ah_list (CFi .u8) (l := [b2]) Try.underlying48 sz5 zc5 (by simp only [isFresh_upd, isFresh_no, Nat.reduceBEq, cond_true, cond_false]) (by decide) (by decide) (by decide) (by simp only [go_sem, Nat.reduceBEq]; try rfl) (by kernel_rfl)) ?_
  refine pu rfl (ap_bstro Try.underlying48 Try.underlying9 Try.underlying5 (by try simp only [go_sem, Nat.reduceBEq]; try rfl) (by simp only [upd_beq, Nat.reduceBEq, cond_true, cond_false]; try rfl) (by first | rfl | omega)) ?_
  refine pu rfl (by simp only [go_sem, Nat.reduceBEq]; try with_reducible rfl) ?_
  refine fs ?_
  refine AWp.ret ?_
  cases hm
  exact ret1D (.inr rfl) Try.results28 (td (by try simp only [go_sem, Nat.reduceBEq]; try rfl) (.v _))
def refHex_B1 (rec1 : ByteArray → ByteArray → Int → Option (ByteArray)) (s_0 : ByteArray) (out_3 : ByteArray) (i_4 : Int) : Option (ByteArray) :=
  (bif (decide (i_4 < (s_0.size : Int))) then
    ((sidx s_0 i_4).bind fun b2 =>
    ((refDigit_m (IntKind.u8.wrap (Int.tdiv b2 16))).bind fun r4 =>
    ((sadd out_3 r4).bind fun s6 =>
    ((sidx s_0 i_4).bind fun b8 =>
    ((refDigit_m (Int.tmod b8 16)).bind fun r10 =>
    ((sadd s6 r10).bind fun s12 =>
    rec1 s_0 s12 (IntKind.i64.wrap (i_4 + 1))))))))
  else
    some out_3)
def refHex_L1 : Nat → ByteArray → ByteArray → Int → Option (ByteArray)
  | 0 => fun _ _ _ => none
  | n + 1 => refHex_B1 (refHex_L1 n)
def refHex_m (s_0 : ByteArray) : Option (ByteArray) :=
  refHex_L1 FUEL s_0 ⟨#[]⟩ 0
theorem refHex_c {s_0 : ByteArray} {r : ByteArray} (hm : refHex_m s_0 = some r) : PureC Try.prog 23 [.v (.string s_0)] (.v (.string r)) := by
  refine PureC.of_body Try.func23 rfl ?_
  simp only [Try.ntmps23, List.length_cons, List.length_nil, Nat.reduceAdd, Nat.reduceSub, empty_eq]
  unfold refHex_m at hm
  refine sr (N' := 64) rfl ?_
  refine pu rfl (by simp only [go_sem, Nat.reduceBEq]; try with_reducible rfl) ?_
  refine fs ?_
  refine sr (N' := 128) rfl ?_
  refine pu rfl (by simp only [go_sem, Nat.reduceBEq]; try with_reducible rfl) ?_
  refine fs ?_
  refine AWp.seq' ?_
  refine sr (N' := 192) rfl ?_
  refine pu rfl (by simp only [go_sem, Nat.reduceBEq]; try with_reducible rfl) ?_
  refine fs ?_
  refine AWp.block ?_
  refine AWp.loopM (fun m s => ∃ (s_0 : ByteArray) (out_3 : ByteArray) (i_4 : Int), s = (⟨25, (fset (fset (fset (fun _ => AV.any) 0 (.v (.string s_0))) 3 (.v (.string out_3))) 4 (.v (.int .i64 i_4))), ⟨nofresh, 64⟩⟩ : St) ∧ refHex_L1 m s_0 out_3 i_4 = some r) FUEL ?_ ?_ ?_
  · rintro s ⟨_, _, _, _, h⟩
    cases h
  · refine ⟨_, ?_, s_0, ⟨#[]⟩, 0, rfl, hm⟩
    exact le_canon id (wk_fset _ _ (wk_data (by try simp only [go_sem, Nat.reduceBEq]; try rfl) (.v _)) (wk_fset _ _ (wk_data (by try simp only [go_sem, Nat.reduceBEq]; try rfl) (.v _)) (wk_fset _ _ (wk_data (by try simp only [go_sem, Nat.reduceBEq]; try rfl) (.v _)) wk_none))) heapWk0
  · rintro n1 s ⟨s_0, out_3, i_4, rfl, hm⟩
    replace hm : refHex_B1 (refHex_L1 n1) s_0 out_3 i_4 = some r := hm
    unfold refHex_B1 at hm
    refine AWp.seq' ?_
    refine sr (N' := 128) rfl ?_
    iterate 4 refine pu rfl (by simp only [go_sem, Nat.reduceBEq]; try with_reducible rfl) ?_
    refine fs ?_
    refine AWp.condM hm (by try simp only [go_sem, Nat.reduceBEq]; try rfl) (fun _ hm => ?_) (fun _ hm => ?_)
    · refine AWp.skip ?_
      refine normSeq ?_
      refine AWp.seq' ?_
      refine AWp.block ?_
      refine AWp.regD 64 mix (by kernel_rfl) (N' := 192) rfl ?_
      iterate 3 refine pu rfl (by simp only [go_sem, Nat.reduceBEq]; try with_reducible rfl) ?_
      obtain ⟨b2, h1, hm⟩ := bnd hm
      refine pu rfl (ap_sidx Try.underlying9 (by try simp only [go_sem, Nat.reduceBEq]; try rfl) (by try simp only [go_sem, Nat.reduceBEq]; try rfl) h1) ?_
      refine pu rfl (by simp only [go_sem, Nat.reduceBEq, Int.reduceEq, Int.reduceLE]; try with_reducible rfl) ?_
      obtain ⟨r4, h3, hm⟩ := bnd hm
      refine ARun.callQ (r := .v (.string r4)) (by decide) (by try simp only [go_sem, Nat.reduceBEq]; try rfl) fb28 (fun H => (.cons (td (by try simp only [go_sem, Nat.reduceBEq]; try rfl) (.v _)) .nil)) (refDigit_c h3) ?_
      obtain ⟨s6, h5, hm⟩ := bnd hm
      refine pu rfl (ap_sadd (by try simp only [go_sem, Nat.reduceBEq]; try rfl) (by try simp only [go_sem, Nat.reduceBEq]; try rfl) h5) ?_
      iterate 2 refine pu rfl (by simp only [go_sem, Nat.reduceBEq]; try with_reducible rfl) ?_
      obtain ⟨b8, h7, hm⟩ := bnd hm
      refine pu rfl (ap_sidx Try.underlying9 (by try simp only [go_sem, Nat.reduceBEq]; try rfl) (by try simp only [go_sem, Nat.reduceBEq]; try rfl) h7) ?_
      refine pu rfl (by simp only [go_sem, Nat.reduceBEq, Int.reduceEq, Int.reduceLE]; try with_reducible rfl) ?_
      obtain ⟨r10, h9, hm⟩ := bnd hm
      refine ARun.callQ (r := .v (.string r10)) (by decide) (by try simp only [go_sem, Nat.reduceBEq]; try rfl) fb28 (fun H => (.cons (td (by try simp only [go_sem, Nat.reduceBEq]; try rfl) (.v _)) .nil)) (refDigit_c h9) ?_
      obtain ⟨s12, h11, hm⟩ := bnd hm
      refine pu rfl (ap_sadd (by try simp only [go_sem, Nat.reduceBEq]; try rfl) (by try simp only [go_sem, Nat.reduceBEq]; try rfl) h11) ?_
      refine pu rfl (by simp only [go_sem, Nat.reduceBEq]; try with_reducible rfl) ?_
      refine ARun.fin ?_
      refine normIn ?_
      refine normSeq ?_
      refine AWp.reg 64 (N' := 256) rfl ?_
      iterate 3 refine pu rfl (by simp only [go_sem, Nat.reduceBEq]; try with_reducible rfl) ?_
      refine ARun.fin ?_
      refine normThen ?_
      refine ⟨_, ?_, s_0, s12, (IntKind.i64.wrap (i_4 + 1)), rfl, hm⟩
      exact le_canon id (wk_fset _ _ (wk_data (by try simp only [go_sem, Nat.reduceBEq]; try rfl) (.v _)) (wk_fset _ _ (wk_data (by try simp only [go_sem, Nat.reduceBEq]; try rfl) (.v _)) (wk_fset _ _ (wk_data (by try simp only [go_sem, Nat.reduceBEq]; try rfl) (.v _)) wk_none))) heapWk0
    · refine AWp.exit ?_
      refine exitSeq ?_
      refine exitThen ?_
      refine exitHere ?_
      refine normSeq ?_
      refine sr (N' := 192) rfl ?_
      iterate 2 refine pu rfl (by simp only [go_sem, Nat.reduceBEq]; try with_reducible rfl) ?_
      refine fs ?_
      refine AWp.ret ?_
      cases hm
      exact ret1D (.inr rfl) Try.results23 (td (by try simp only [go_sem, Nat.reduceBEq]; try rfl) (.v _))
def refValue_B1 (rec1 : Int → Int → Option (Int)) (c_0 : Int) (n_3 : Int) : Option (Int) :=
  (bif (decide (n_3 < 16)) then
    ((refDigit_m n_3).bind fun r2 =>
    (bif (decide (r2 = (bstr [c_0]))) then
      some n_3
    else
      rec1 c_0 (IntKind.u8.wrap (n_3 + 1))))
  else
    some 16)
def refValue_L1 : Nat → Int → Int → Option (Int)
  | 0 => fun _ _ => none
  | n + 1 => refValue_B1 (refValue_L1 n)
def refValue_m (c_0 : Int) : Option (Int) :=
  refValue_L1 FUEL c_0 0
theorem refValue_c {c_0 : Int} {r : Int} (hm : refValue_m c_0 = some r) : PureC Try.prog 27 [.v (.int .u8 c_0)] (.v (.int .u8 r)) := by
  refine PureC.of_body Try.func27 rfl ?_
  simp only [Try.ntmps27, List.length_cons, List.length_nil, Nat.reduceAdd, Nat.reduceSub, empty_eq]
  unfold refValue_m at hm
  refine sr (N' := 64) rfl ?_
  refine pu rfl (by simp only [go_sem, Nat.reduceBEq]; try with_reducible rfl) ?_
  refine fs ?_
  refine AWp.seq' ?_
  refine sr (N' := 128) rfl ?_
  refine pu rfl (by simp only [go_sem, Nat.reduceBEq]; try with_reducible rfl) ?_
  refine fs ?_
  refine AWp.block ?_
  refine AWp.loopM (fun m s => ∃ (c_0 : Int) (n_3 : Int), s = (⟨15, (fset (fset (fun _ => AV.any) 0 (.v (.int .u8 c_0))) 3 (.v (.int .u8 n_3))), ⟨nofresh, 64⟩⟩ : St) ∧ refValue_L1 m c_0 n_3 = some r) FUEL ?_ ?_ ?_
  · rintro s ⟨_, _, _, h⟩
    cases h
  · refine ⟨_, ?_, c_0, 0, rfl, hm⟩
    exact le_canon id (wk_fset _ _ (wk_data (by try simp only [go_sem, Nat.reduceBEq]; try rfl) (.v _)) (wk_fset _ _ (wk_data (by try simp only [go_sem, Nat.reduceBEq]; try rfl) (.v _)) wk_none)) heapWk0
  · rintro n1 s ⟨c_0, n_3, rfl, hm⟩
    replace hm : refValue_B1 (refValue_L1 n1) c_0 n_3 = some r := hm
    unfold refValue_B1 at hm
    refine AWp.seq' ?_
    refine sr (N' := 128) rfl ?_
    iterate 2 refine pu rfl (by simp only [go_sem, Nat.reduceBEq]; try with_reducible rfl) ?_
    refine fs ?_
    refine AWp.condM hm (by try simp only [go_sem, Nat.reduceBEq]; try rfl) (fun _ hm => ?_) (fun _ hm => ?_)
    · refine AWp.skip ?_
      refine normSeq ?_
      refine AWp.seq' ?_
      refine AWp.block ?_
      refine sd mix (by kernel_rfl) (N' := 192) rfl ?_
      refine pu rfl (by simp only [go_sem, Nat.reduceBEq]; try with_reducible rfl) ?_
      obtain ⟨r2, h1, hm⟩ := bnd hm
      refine ARun.callQ (r := .v (.string r2)) (by decide) (by try simp only [go_sem, Nat.reduceBEq]; try rfl) fb28 (fun H => (.cons (td (by try simp only [go_sem, Nat.reduceBEq]; try rfl) (.v _)) .nil)) (refDigit_c h1) ?_
      refine pu rfl (by simp only [go_sem, Nat.reduceBEq]; try with_reducible rfl) ?_
      refine hp (id := 131) rfl rfl (ah_list (CFi .u8) (l := [c_0]) Try.underlying48 sz5 zc5 (by simp only [isFresh_upd, isFresh_no, Nat.reduceBEq, cond_true, cond_false]) (by decide) (by decide) (by decide) (by simp only [go_sem, Nat.reduceBEq]; try rfl) (by kernel_rfl)) ?_
      refine pu rfl (ap_bstro Try.underlying48 Try.underlying9 Try.underlying5 (by try simp only [go_sem, Nat.reduceBEq]; try rfl) (by simp only [upd_beq, Nat.reduceBEq, cond_true, cond_false]; try rfl) (by first | rfl | omega)) ?_
      refine pu rfl (by simp only [go_sem, Nat.reduceBEq]; try with_reducible rfl) ?_
      refine fs ?_
      refine AWp.condM hm (by try simp only [go_sem, Nat.reduceBEq]; try rfl) (fun _ hm => ?_) (fun _ hm => ?_)
      · refine sr (N' := 256) rfl ?_
        iterate 2 refine pu rfl (by simp only [go_sem, Nat.reduceBEq]; try with_reducible rfl) ?_
        refine fs ?_
        refine AWp.ret ?_
        refine retIn ?_
        refine retSeq ?_
        refine retThen ?_
        refine retIn ?_
        refine retSeq ?_
        cases hm
        exact ret1D (.inr rfl) Try.results27 (td (by try simp only [go_sem, Nat.reduceBEq]; try rfl) (.v _))
      · refine AWp.skip ?_
        refine normIn ?_
        refine normSeq ?_
        refine AWp.reg 64 (N' := 256) rfl ?_
        iterate 3 refine pu rfl (by simp only [go_sem, Nat.reduceBEq]; try with_reducible rfl) ?_
        refine ARun.fin ?_
        refine normThen ?_
        refine ⟨_, ?_, c_0, (IntKind.u8.wrap (n_3 + 1)), rfl, hm⟩
        exact le_canon id (wk_fset _ _ (wk_data (by try simp only [go_sem, Nat.reduceBEq]; try rfl) (.v _)) (wk_fset _ _ (wk_data (by try simp only [go_sem, Nat.reduceBEq]; try rfl) (.v _)) wk_none)) heapWk0
    · refine AWp.exit ?_
      refine exitSeq ?_
      refine exitThen ?_
      refine exitHere ?_
      refine normSeq ?_
      refine sr (N' := 192) rfl ?_
      refine pu rfl (by simp only [go_sem, Nat.reduceBEq]; try with_reducible rfl) ?_
      refine fs ?_
      refine AWp.ret ?_
      cases hm
      exact ret1D (.inr rfl) Try.results27 (td (by try simp only [go_sem, Nat.reduceBEq]; try rfl) (.v _))
def refUnhex_B1 (rec1 : ByteArray → ByteArray → Int → Option (ByteArray × Bool)) (word_0 : ByteArray) (s_4 : ByteArray) (i_5 : Int) : Option (ByteArray × Bool) :=
  (bif (decide ((IntKind.i64.wrap (i_5 + 1)) < (word_0.size : Int))) then
    ((sidx word_0 i_5).bind fun b2 =>
    ((refValue_m b2).bind fun r4 =>
    ((sidx word_0 (IntKind.i64.wrap (i_5 + 1))).bind fun b6 =>
    ((refValue_m b6).bind fun r8 =>
    (bif ((decide (15 < r4)) || (decide (15 < r8))) then
      some (⟨#[]⟩, false)
    else
      ((sadd s_4 (bstr [(IntKind.u8.wrap ((IntKind.u8.wrap (16 * r4)) + r8))])).bind fun s10 =>
      rec1 word_0 s10 (IntKind.i64.wrap (i_5 + 2))))))))
  else
    (bif ((Int.tmod (word_0.size : Int) 2) == 1) then
      some (⟨#[]⟩, false)
    else
      some (s_4, true)))
def refUnhex_L1 : Nat → ByteArray → ByteArray → Int → Option (ByteArray × Bool)
  | 0 => fun _ _ _ => none
  | n + 1 => refUnhex_B1 (refUnhex_L1 n)
def refUnhex_m (word_0 : ByteArray) : Option (ByteArray × Bool) :=
  refUnhex_L1 FUEL word_0 ⟨#[]⟩ 0
theorem refUnhex_c {word_0 : ByteArray} {r : ByteArray × Bool} (hm : refUnhex_m word_0 = some r) : PureC Try.prog 21 [.v (.string word_0)] (.tup [.v (.string r.1), .v (.bool r.2)]) := by
  refine PureC.of_body Try.func21 rfl ?_
  simp only [Try.ntmps21, List.length_cons, List.length_nil, Nat.reduceAdd, Nat.reduceSub, empty_eq]
  unfold refUnhex_m at hm
  refine sr (N' := 64) rfl ?_
  iterate 2 refine pu rfl (by simp only [go_sem, Nat.reduceBEq]; try with_reducible rfl) ?_
  refine fs ?_
  refine sr (N' := 128) rfl ?_
  refine pu rfl (by simp only [go_sem, Nat.reduceBEq]; try with_reducible rfl) ?_
  refine fs ?_
  refine AWp.seq' ?_
  refine sr (N' := 192) rfl ?_
  refine pu rfl (by simp only [go_sem, Nat.reduceBEq]; try with_reducible rfl) ?_
  refine fs ?_
  refine AWp.block ?_
  refine AWp.loopM (fun m s => ∃ (word_0 : ByteArray) (s_4 : ByteArray) (i_5 : Int), s = (⟨43, (fset (fset (fset (fun _ => AV.any) 0 (.v (.string word_0))) 4 (.v (.string s_4))) 5 (.v (.int .i64 i_5))), ⟨nofresh, 64⟩⟩ : St) ∧ refUnhex_L1 m word_0 s_4 i_5 = some r) FUEL ?_ ?_ ?_
  · rintro s ⟨_, _, _, _, h⟩
    cases h
  · refine ⟨_, ?_, word_0, ⟨#[]⟩, 0, rfl, hm⟩
    exact le_canon id (wk_fset _ _ (wk_data (by try simp only [go_sem, Nat.reduceBEq]; try rfl) (.v _)) (wk_fset _ _ (wk_data (by try simp only [go_sem, Nat.reduceBEq]; try rfl) (.v _)) (wk_fset _ _ (wk_data (by try simp only [go_sem, Nat.reduceBEq]; try rfl) (.v _)) wk_none))) heapWk0
  · rintro n1 s ⟨word_0, s_4, i_5, rfl, hm⟩
    replace hm : refUnhex_B1 (refUnhex_L1 n1) word_0 s_4 i_5 = some r := hm
    unfold refUnhex_B1 at hm
    refine AWp.seq' ?_
    refine sr (N' := 128) rfl ?_
    iterate 5 refine pu rfl (by simp only [go_sem, Nat.reduceBEq]; try with_reducible rfl) ?_
    refine fs ?_
    refine AWp.condM hm (by try simp only [go_sem, Nat.reduceBEq]; try rfl) (fun _ hm => ?_) (fun _ hm => ?_)
    · refine AWp.skip ?_
      refine normSeq ?_
      refine AWp.seq' ?_
      refine AWp.block ?_
      refine sd mix (by kernel_rfl) (N' := 192) rfl ?_
      iterate 2 refine pu rfl (by simp only [go_sem, Nat.reduceBEq]; try with_reducible rfl) ?_
      obtain ⟨b2, h1, hm⟩ := bnd hm
      refine pu rfl (ap_sidx Try.underlying9 (by try simp only [go_sem, Nat.reduceBEq]; try rfl) (by try simp only [go_sem, Nat.reduceBEq]; try rfl) h1) ?_
      obtain ⟨r4, h3, hm⟩ := bnd hm
      refine ARun.callQ (r := .v (.int .u8 r4)) (by decide) (by try simp only [go_sem, Nat.reduceBEq]; try rfl) fb27 (fun H => (.cons (td (by try simp only [go_sem, Nat.reduceBEq]; try rfl) (.v _)) .nil)) (refValue_c h3) ?_
      iterate 3 refine pu rfl (by simp only [go_sem, Nat.reduceBEq]; try with_reducible rfl) ?_
      obtain ⟨b6, h5, hm⟩ := bnd hm
      refine pu rfl (ap_sidx Try.underlying9 (by try simp only [go_sem, Nat.reduceBEq]; try rfl) (by try simp only [go_sem, Nat.reduceBEq]; try rfl) h5) ?_
      obtain ⟨r8, h7, hm⟩ := bnd hm
      refine ARun.callQ (r := .v (.int .u8 r8)) (by decide) (by try simp only [go_sem, Nat.reduceBEq]; try rfl) fb27 (fun H => (.cons (td (by try simp only [go_sem, Nat.reduceBEq]; try rfl) (.v _)) .nil)) (refValue_c h7) ?_
      iterate 2 refine pu rfl (by simp only [go_sem, Nat.reduceBEq]; try with_reducible rfl) ?_
      refine fs ?_
      refine AWp.seq' ?_
      refine sr (N' := 256) rfl ?_
      iterate 6 (first | refine pu rfl (by simp only [go_sem, Nat.reduceBEq]; try with_reducible rfl) ?_ | refine pg rfl rfl (by simp only [go_sem, Nat.reduceBEq]; try with_reducible rfl) (by intro hb; simp only [go_sem, Nat.reduceBEq, hb, Bool.true_and]; try with_reducible rfl) ?_)
      refine fs ?_
      refine AWp.condM hm (by try simp only [go_sem, Nat.reduceBEq]; try rfl) (fun _ hm => ?_) (fun _ hm => ?_)
      · refine sr (N' := 320) rfl ?_
        iterate 2 refine pu rfl (by simp only [go_sem, Nat.reduceBEq]; try with_reducible rfl) ?_
        refine fs ?_
        refine AWp.ret ?_
        refine retSeq ?_
        refine retIn ?_
        refine retSeq ?_
        refine retThen ?_
        refine retIn ?_
        refine retSeq ?_
        cases hm
        exact ret2D (.inr rfl) Try.results21 (td (by try simp only [go_sem, Nat.reduceBEq]; try rfl) (.v _)) (td (by try simp only [go_sem, Nat.reduceBEq]; try rfl) (.v _))
      · refine AWp.skip ?_
        refine normSeq ?_
        refine AWp.reg 64 (N' := 320) rfl ?_
        iterate 5 refine pu rfl (by simp only [go_sem, Nat.reduceBEq]; try with_reducible rfl) ?_
        refine hp (id := 261) rfl rfl (ah_list (CFi .u8) (l := [(IntKind.u8.wrap ((IntKind.u8.wrap (16 * r4)) + r8))]) Try.underlying48 sz5 zc5 (by simp only [isFresh_upd, isFresh_no, Nat.reduceBEq, cond_true, cond_false]) (by decide) (by decide) (by decide) (by simp only [go_sem, Nat.reduceBEq]; try rfl) (by kernel_rfl)) ?_
        refine pu rfl (ap_bstro Try.underlying48 Try.underlying9 Try.underlying5 (by try simp only [go_sem, Nat.reduceBEq]; try rfl) (by simp only [upd_beq, Nat.reduceBEq, cond_true, cond_false]; try rfl) (by first | rfl | omega)) ?_
        obtain ⟨s10, h9, hm⟩ := bnd hm
        refine pu rfl (ap_sadd (by try simp only [go_sem, Nat.reduceBEq]; try rfl) (by try simp only [go_sem, Nat.reduceBEq]; try rfl) h9) ?_
        refine pu rfl (by simp only [go_sem, Nat.reduceBEq]; try with_reducible rfl) ?_
        refine ARun.fin ?_
        refine normIn ?_
        refine normSeq ?_
        refine AWp.reg 64 (N' := 384) rfl ?_
        iterate 3 refine pu rfl (by simp only [go_sem, Nat.reduceBEq]; try with_reducible rfl) ?_
        refine ARun.fin ?_
        refine normThen ?_
        refine ⟨_, ?_, word_0, s10, (IntKind.i64.wrap (i_5 + 2)), rfl, hm⟩
        exact le_canon id (wk_fset _ _ (wk_data (by try simp only [go_sem, Nat.reduceBEq]; try rfl) (.v _)) (wk_fset _ _ (wk_data (by try simp only [go_sem, Nat.reduceBEq]; try rfl) (.v _)) (wk_fset _ _ (wk_data (by try simp only [go_sem, Nat.reduceBEq]; try rfl) (.v _)) wk_none))) heapWk0
    · refine AWp.exit ?_
      refine exitSeq ?_
      refine exitThen ?_
      refine exitHere ?_
      refine normSeq ?_
      refine AWp.seq' ?_
      refine sr (N' := 192) rfl ?_
      iterate 4 refine pu rfl (by simp only [go_sem, Nat.reduceBEq, Int.reduceEq, Int.reduceLE]; try with_reducible rfl) ?_
      refine fs ?_
      refine AWp.condM hm (by try simp only [go_sem, Nat.reduceBEq]; try rfl) (fun _ hm => ?_) (fun _ hm => ?_)
      · refine sr (N' := 256) rfl ?_
        iterate 2 refine pu rfl (by simp only [go_sem, Nat.reduceBEq]; try with_reducible rfl) ?_
        refine fs ?_
        refine AWp.ret ?_
        refine retSeq ?_
        cases hm
        exact ret2D (.inr rfl) Try.results21 (td (by try simp only [go_sem, Nat.reduceBEq]; try rfl) (.v _)) (td (by try simp only [go_sem, Nat.reduceBEq]; try rfl) (.v _))
      · refine AWp.skip ?_
        refine normSeq ?_
        refine sr (N' := 256) rfl ?_
        iterate 3 refine pu rfl (by simp only [go_sem, Nat.reduceBEq]; try with_reducible rfl) ?_
        refine fs ?_
        refine AWp.ret ?_
        cases hm
        exact ret2D (.inr rfl) Try.results21 (td (by try simp only [go_sem, Nat.reduceBEq]; try rfl) (.v _)) (td (by try simp only [go_sem, Nat.reduceBEq]; try rfl) (.v _))
def refWords_B2 (rec1 : List (List ByteArray) → List (List ByteArray) → Int → Option (Bool)) (rec2 : List (List ByteArray) → List (List ByteArray) → Int → Int → Option (Bool)) (a_0 : List (List ByteArray)) (b_1 : List (List ByteArray)) (i_5 : Int) (k_6 : Int) : Option (Bool) :=
  ((idx a_0 i_5).bind fun x6 =>
  (bif (decide (k_6 < (x6.length : Int))) then
    ((idx a_0 i_5).bind fun x8 =>
    ((idx x8 k_6).bind fun x10 =>
    ((idx b_1 i_5).bind fun x12 =>
    ((idx x12 k_6).bind fun x14 =>
    (bif (!decide (x10 = x14)) then
      some false
    else
      rec2 a_0 b_1 i_5 (IntKind.i64.wrap (k_6 + 1)))))))
  else
    rec1 a_0 b_1 (IntKind.i64.wrap (i_5 + 1))))
def refWords_L2 (rec1 : List (List ByteArray) → List (List ByteArray) → Int → Option (Bool)) : Nat → List (List ByteArray) → List (List ByteArray) → Int → Int → Option (Bool)
  | 0 => fun _ _ _ _ => none
  | n + 1 => refWords_B2 rec1 (refWords_L2 rec1 n)
def refWords_B1 (rec1 : List (List ByteArray) → List (List ByteArray) → Int → Option (Bool)) (a_0 : List (List ByteArray)) (b_1 : List (List ByteArray)) (i_5 : Int) : Option (Bool) :=
  (bif (decide (i_5 < (a_0.length : Int))) then
    ((idx a_0 i_5).bind fun x2 =>
    ((idx b_1 i_5).bind fun x4 =>
    (bif ((x2.length : Int) != (x4.length : Int)) then
      some false
    else
      refWords_L2 rec1 FUEL a_0 b_1 i_5 0)))
  else
    some true)
def refWords_L1 : Nat → List (List ByteArray) → List (List ByteArray) → Int → Option (Bool)
  | 0 => fun _ _ _ => none
  | n + 1 => refWords_B1 (refWords_L1 n)
def refWords_m (a_0 : List (List ByteArray)) (b_1 : List (List ByteArray)) : Option (Bool) :=
  (bif ((a_0.length : Int) != (b_1.length : Int)) then
    some false
  else
    refWords_L1 FUEL a_0 b_1 0)
theorem refWords_c {a_0 : List (List ByteArray)} {b_1 : List (List ByteArray)} {r : Bool} (hm : refWords_m a_0 b_1 = some r) : PureC Try.prog 14 [.sl (a_0.flatMap (csl cstr)) a_0.length false, .sl (b_1.flatMap (csl cstr)) b_1.length false] (.v (.bool r)) := by
  refine PureC.of_body Try.func14 rfl ?_
  simp only [Try.ntmps14, List.length_cons, List.length_nil, Nat.reduceAdd, Nat.reduceSub, empty_eq]
  unfold refWords_m at hm
  refine sr (N' := 64) rfl ?_
  refine pu rfl (by simp only [go_sem, Nat.reduceBEq]; try with_reducible rfl) ?_
  refine fs ?_
  refine AWp.seq' ?_
  refine sr (N' := 128) rfl ?_
  iterate 5 refine pu rfl (by simp only [go_sem, Nat.reduceBEq]; try with_reducible rfl) ?_
  refine fs ?_
  refine AWp.condM hm (by try simp only [go_sem, Nat.reduceBEq]; try rfl) (fun _ hm => ?_) (fun _ hm => ?_)
  · refine sr (N' := 192) rfl ?_
    refine pu rfl (by simp only [go_sem, Nat.reduceBEq]; try with_reducible rfl) ?_
    refine fs ?_
    refine AWp.ret ?_
    refine retSeq ?_
    cases hm
    exact ret1D (.inr rfl) Try.results14 (td (by try simp only [go_sem, Nat.reduceBEq]; try rfl) (.v _))
  · refine AWp.skip ?_
    refine normSeq ?_
    refine AWp.seq' ?_
    refine sr (N' := 192) rfl ?_
    refine pu rfl (by simp only [go_sem, Nat.reduceBEq]; try with_reducible rfl) ?_
    refine fs ?_
    refine AWp.block ?_
    refine AWp.loopM (fun m s => ∃ (a_0 : List (List ByteArray)) (b_1 : List (List ByteArray)) (i_5 : Int), s = (⟨53, (fset (fset (fset (fun _ => AV.any) 0 (.sl (a_0.flatMap (csl cstr)) a_0.length false)) 1 (.sl (b_1.flatMap (csl cstr)) b_1.length false)) 5 (.v (.int .i64 i_5))), ⟨nofresh, 64⟩⟩ : St) ∧ refWords_L1 m a_0 b_1 i_5 = some r) FUEL ?_ ?_ ?_
    · rintro s ⟨_, _, _, _, h⟩
      cases h
    · refine ⟨_, ?_, a_0, b_1, 0, rfl, hm⟩
      exact le_canon id (wk_fset _ _ (wk_data (by try simp only [go_sem, Nat.reduceBEq]; try rfl) (.v _)) (wk_fset _ _ (wk_data (by try simp only [go_sem, Nat.reduceBEq]; try rfl) ((CFl CFs).sl _ _ _)) (wk_fset _ _ (wk_data (by try simp only [go_sem, Nat.reduceBEq]; try rfl) ((CFl CFs).sl _ _ _)) wk_none))) heapWk0
    · rintro n1 s ⟨a_0, b_1, i_5, rfl, hm⟩
      replace hm : refWords_B1 (refWords_L1 n1) a_0 b_1 i_5 = some r := hm
      unfold refWords_B1 at hm
      refine AWp.seq' ?_
      refine sr (N' := 128) rfl ?_
      iterate 4 refine pu rfl (by simp only [go_sem, Nat.reduceBEq]; try with_reducible rfl) ?_
      refine fs ?_
      refine AWp.condM hm (by try simp only [go_sem, Nat.reduceBEq]; try rfl) (fun _ hm => ?_) (fun _ hm => ?_)
      · refine AWp.skip ?_
        refine normSeq ?_
        refine AWp.seq' ?_
        refine AWp.block ?_
        refine AWp.seq' ?_
        refine sd mix (by kernel_rfl) (N' := 192) rfl ?_
        iterate 2 refine pu rfl (by simp only [go_sem, Nat.reduceBEq]; try with_reducible rfl) ?_
        obtain ⟨x2, h1, hm⟩ := bnd hm
        refine pu rfl (ap_idx (CFl CFs) (by decide) Try.underlying23 sz45 (by try simp only [go_sem, Nat.reduceBEq]; try rfl) rfl (by try simp only [go_sem, Nat.reduceBEq]; try rfl) h1) ?_
        iterate 4 refine pu rfl (by simp only [go_sem, Nat.reduceBEq]; try with_reducible rfl) ?_
        obtain ⟨x4, h3, hm⟩ := bnd hm
        refine pu rfl (ap_idx (CFl CFs) (by decide) Try.underlying23 sz45 (by try simp only [go_sem, Nat.reduceBEq]; try rfl) rfl (by try simp only [go_sem, Nat.reduceBEq]; try rfl) h3) ?_
        iterate 3 refine pu rfl (by simp only [go_sem, Nat.reduceBEq]; try with_reducible rfl) ?_
        refine fs ?_
        refine AWp.condM hm (by try simp only [go_sem, Nat.reduceBEq]; try rfl) (fun _ hm => ?_) (fun _ hm => ?_)
        · refine sr (N' := 256) rfl ?_
          refine pu rfl (by simp only [go_sem, Nat.reduceBEq]; try with_reducible rfl) ?_
          refine fs ?_
          refine AWp.ret ?_
          refine retSeq ?_
          refine retIn ?_
          refine retSeq ?_
          refine retThen ?_
          refine retIn ?_
          refine retSeq ?_
          cases hm
          exact ret1D (.inr rfl) Try.results14 (td (by try simp only [go_sem, Nat.reduceBEq]; try rfl) (.v _))
        · refine AWp.skip ?_
          refine normSeq ?_
          refine sr (N' := 256) rfl ?_
          refine pu rfl (by simp only [go_sem, Nat.reduceBEq]; try with_reducible rfl) ?_
          refine fs ?_
          refine AWp.block ?_
          refine AWp.loopM (fun m s => ∃ (a_0 : List (List ByteArray)) (b_1 : List (List ByteArray)) (i_5 : Int) (k_6 : Int), s = (⟨53, (fset (fset (fset (fset (fun _ => AV.any) 0 (.sl (a_0.flatMap (csl cstr)) a_0.length false)) 1 (.sl (b_1.flatMap (csl cstr)) b_1.length false)) 5 (.v (.int .i64 i_5))) 6 (.v (.int .i64 k_6))), ⟨nofresh, 64⟩⟩ : St) ∧ refWords_L2 (refWords_L1 n1) m a_0 b_1 i_5 k_6 = some r) FUEL ?_ ?_ ?_
          · rintro s ⟨_, _, _, _, _, h⟩
            cases h
          · refine ⟨_, ?_, a_0, b_1, i_5, 0, rfl, hm⟩
            exact le_canon id (wk_fset _ _ (wk_data (by try simp only [go_sem, Nat.reduceBEq]; try rfl) (.v _)) (wk_fset _ _ (wk_data (by try simp only [go_sem, Nat.reduceBEq]; try rfl) (.v _)) (wk_fset _ _ (wk_data (by try simp only [go_sem, Nat.reduceBEq]; try rfl) ((CFl CFs).sl _ _ _)) (wk_fset _ _ (wk_data (by try simp only [go_sem, Nat.reduceBEq]; try rfl) ((CFl CFs).sl _ _ _)) wk_none)))) heapWk0
          · rintro n2 s ⟨a_0, b_1, i_5, k_6, rfl, hm⟩
            replace hm : refWords_B2 (refWords_L1 n1) (refWords_L2 (refWords_L1 n1) n2) a_0 b_1 i_5 k_6 = some r := hm
            unfold refWords_B2 at hm
            refine AWp.seq' ?_
            refine sr (N' := 128) rfl ?_
            iterate 3 refine pu rfl (by simp only [go_sem, Nat.reduceBEq]; try with_reducible rfl) ?_
            obtain ⟨x6, h5, hm⟩ := bnd hm
            refine pu rfl (ap_idx (CFl CFs) (by decide) Try.underlying23 sz45 (by try simp only [go_sem, Nat.reduceBEq]; try rfl) rfl (by try simp only [go_sem, Nat.reduceBEq]; try rfl) h5) ?_
            iterate 3 refine pu rfl (by simp only [go_sem, Nat.reduceBEq]; try with_reducible rfl) ?_
            refine fs ?_
            refine AWp.condM hm (by try simp only [go_sem, Nat.reduceBEq]; try rfl) (fun _ hm => ?_) (fun _ hm => ?_)
            · refine AWp.skip ?_
              refine normSeq ?_
              refine AWp.seq' ?_
              refine AWp.block ?_
              refine sd mix (by kernel_rfl) (N' := 192) rfl ?_
              iterate 2 refine pu rfl (by simp only [go_sem, Nat.reduceBEq]; try with_reducible rfl) ?_
              obtain ⟨x8, h7, hm⟩ := bnd hm
              refine pu rfl (ap_idx (CFl CFs) (by decide) Try.underlying23 sz45 (by try simp only [go_sem, Nat.reduceBEq]; try rfl) rfl (by try simp only [go_sem, Nat.reduceBEq]; try rfl) h7) ?_
              iterate 2 refine pu rfl (by simp only [go_sem, Nat.reduceBEq]; try with_reducible rfl) ?_
              obtain ⟨x10, h9, hm⟩ := bnd hm
              refine pu rfl (ap_idx CFs (by decide) Try.underlying45 sz9 (by try simp only [go_sem, Nat.reduceBEq]; try rfl) rfl (by try simp only [go_sem, Nat.reduceBEq]; try rfl) h9) ?_
              iterate 3 refine pu rfl (by simp only [go_sem, Nat.reduceBEq]; try with_reducible rfl) ?_
              obtain ⟨x12, h11, hm⟩ := bnd hm
              refine pu rfl (ap_idx (CFl CFs) (by decide) Try.underlying23 sz45 (by try simp only [go_sem, Nat.reduceBEq]; try rfl) rfl (by try simp only [go_sem, Nat.reduceBEq]; try rfl) h11) ?_
              iterate 2 refine pu rfl (by simp only [go_sem, Nat.reduceBEq]; try with_reducible rfl) ?_
              obtain ⟨x14, h13, hm⟩ := bnd hm
              refine pu rfl (ap_idx CFs (by decide) Try.underlying45 sz9 (by try simp only [go_sem, Nat.reduceBEq]; try rfl) rfl (by try simp only [go_sem, Nat.reduceBEq]; try rfl) h13) ?_
              iterate 2 refine pu rfl (by simp only [go_sem, Nat.reduceBEq]; try with_reducible rfl) ?_
              refine fs ?_
              refine AWp.condM hm (by try simp only [go_sem, Nat.reduceBEq]; try rfl) (fun _ hm => ?_) (fun _ hm => ?_)
              · refine sr (N' := 256) rfl ?_
                refine pu rfl (by simp only [go_sem, Nat.reduceBEq]; try with_reducible rfl) ?_
                refine fs ?_
                refine AWp.ret ?_
                refine retIn ?_
                refine retSeq ?_
                refine retThen ?_
                refine retIn ?_
                refine retIn ?_
                refine retSeq ?_
                refine retThen ?_
                refine retIn ?_
                refine retSeq ?_
                cases hm
                exact ret1D (.inr rfl) Try.results14 (td (by try simp only [go_sem, Nat.reduceBEq]; try rfl) (.v _))
              · refine AWp.skip ?_
                refine normIn ?_
                refine normSeq ?_
                refine AWp.reg 64 (N' := 256) rfl ?_
                iterate 3 refine pu rfl (by simp only [go_sem, Nat.reduceBEq]; try with_reducible rfl) ?_
                refine ARun.fin ?_
                refine normThen ?_
                refine ⟨_, ?_, a_0, b_1, i_5, (IntKind.i64.wrap (k_6 + 1)), rfl, hm⟩
                exact le_canon id (wk_fset _ _ (wk_data (by try simp only [go_sem, Nat.reduceBEq]; try rfl) (.v _)) (wk_fset _ _ (wk_data (by try simp only [go_sem, Nat.reduceBEq]; try rfl) (.v _)) (wk_fset _ _ (wk_data (by try simp only [go_sem, Nat.reduceBEq]; try rfl) ((CFl CFs).sl _ _ _)) (wk_fset _ _ (wk_data (by try simp only [go_sem, Nat.reduceBEq]; try rfl) ((CFl CFs).sl _ _ _)) wk_none)))) heapWk0
            · refine AWp.exit ?_
              refine exitSeq ?_
              refine exitThen ?_
              refine exitHere ?_
              refine normIn ?_
              refine normSeq ?_
              refine AWp.reg 64 (N' := 192) rfl ?_
              iterate 3 refine pu rfl (by simp only [go_sem, Nat.reduceBEq]; try with_reducible rfl) ?_
              refine ARun.fin ?_
              refine normThen ?_
              refine ⟨_, ?_, a_0, b_1, (IntKind.i64.wrap (i_5 + 1)), rfl, hm⟩
              exact le_canon id (wk_fset _ _ (wk_data (by try simp only [go_sem, Nat.reduceBEq]; try rfl) (.v _)) (wk_fset _ _ (wk_data (by try simp only [go_sem, Nat.reduceBEq]; try rfl) ((CFl CFs).sl _ _ _)) (wk_fset _ _ (wk_data (by try simp only [go_sem, Nat.reduceBEq]; try rfl) ((CFl CFs).sl _ _ _)) wk_none))) heapWk0
      · refine AWp.exit ?_
        refine exitSeq ?_
        refine exitThen ?_
        refine exitHere ?_
        refine normSeq ?_
        refine sr (N' := 192) rfl ?_
        refine pu rfl (by simp only [go_sem, Nat.reduceBEq]; try with_reducible rfl) ?_
        refine fs ?_
        refine AWp.ret ?_
        cases hm
        exact ret1D (.inr rfl) Try.results14 (td (by try simp only [go_sem, Nat.reduceBEq]; try rfl) (.v _))
def lexAwake_m : Option (Bool) :=
  ((lexLines_m ⟨#[206, 187, 32, 49, 50, 32, 35, 32, 110, 111, 10, 9, 120]⟩).bind fun ⟨r2, r3, r4⟩ =>
  ((lexLines_m ⟨#[206, 187, 32, 88]⟩).bind fun ⟨r6, r7, r8⟩ =>
  ((lexValue_m ⟨#[49, 50]⟩).bind fun r10 =>
  ((lexIsNumber_m r10).bind fun ⟨r12, r13⟩ =>
  ((lexValue_m ⟨#[120, 49]⟩).bind fun r15 =>
  ((lexIsNumber_m r15).bind fun ⟨r17, r18⟩ =>
  ((lexIsNumber_m GA.nil).bind fun ⟨r20, r21⟩ =>
  ((lexNumber_m ⟨#[49, 56, 52, 52, 54, 55, 52, 52, 48, 55, 51, 55, 48, 57, 53, 53, 49, 54, 49, 54]⟩).bind fun ⟨r23, r24⟩ =>
  ((lexUnhex_m ⟨#[48, 97, 102, 102]⟩).bind fun ⟨r26, r27⟩ =>
  ((refWords_m r2 [[⟨#[206, 187]⟩, ⟨#[49, 50]⟩], [⟨#[120]⟩]]).bind fun r29 =>
  ((gopt ((((((((((((r29 && (r3 == 0)) && (r4 == 0)) && (r7 == 2)) && (r8 == 2)) && (r12 == 12)) && r13) && (!r18)) && (!r21)) && (r24 == 6)) && (decide (r26 = ⟨#[10, 255]⟩))) && (r27 == 0)) == true) ⟨#[]⟩ (lexHex_m r26)).bind fun r31 =>
  some ((((((((((((r29 && (r3 == 0)) && (r4 == 0)) && (r7 == 2)) && (r8 == 2)) && (r12 == 12)) && r13) && (!r18)) && (!r21)) && (r24 == 6)) && (decide (r26 = ⟨#[10, 255]⟩))) && (r27 == 0)) && (decide (r31 = ⟨#[48, 97, 102, 102]⟩))))))))))))))
theorem lexAwake_c {r : Bool} (hm : lexAwake_m = some r) : PureC Try.prog 11 [] (.v (.bool r)) := by
  refine PureC.of_body Try.func11 rfl ?_
  simp only [Try.ntmps11, List.length_cons, List.length_nil, Nat.reduceAdd, Nat.reduceSub, empty_eq]
  unfold lexAwake_m at hm
  refine sr (N' := 64) rfl ?_
  refine pu rfl (by simp only [go_sem, Nat.reduceBEq]; try with_reducible rfl) ?_
  refine fs ?_
  refine sr (N' := 128) rfl ?_
  obtain ⟨⟨r2, r3, r4⟩, h1, hm⟩ := bnd hm
  refine ARun.callQ (r := .tup [.sl (r2.flatMap (csl cstr)) r2.length false, .v (.int .i64 r3), .v (.int .i64 r4)]) (by decide) (by try simp only [go_sem, Nat.reduceBEq]; try rfl) fb12 (fun H => (.cons (td (by try simp only [go_sem, Nat.reduceBEq]; try rfl) (.v _)) .nil)) (lexLines_c h1) ?_
  iterate 7 refine pu rfl (by simp only [go_sem, Nat.reduceBEq]; try with_reducible rfl) ?_
  refine fs ?_
  refine sr (N' := 192) rfl ?_
  obtain ⟨⟨r6, r7, r8⟩, h5, hm⟩ := bnd hm
  refine ARun.callQ (r := .tup [.sl (r6.flatMap (csl cstr)) r6.length false, .v (.int .i64 r7), .v (.int .i64 r8)]) (by decide) (by try simp only [go_sem, Nat.reduceBEq]; try rfl) fb12 (fun H => (.cons (td (by try simp only [go_sem, Nat.reduceBEq]; try rfl) (.v _)) .nil)) (lexLines_c h5) ?_
  iterate 7 refine pu rfl (by simp only [go_sem, Nat.reduceBEq]; try with_reducible rfl) ?_
  refine fs ?_
  refine sr (N' := 256) rfl ?_
  obtain ⟨r10, h9, hm⟩ := bnd hm
  refine ARun.callQ (r := GA.av r10) (by decide) (by try simp only [go_sem, Nat.reduceBEq]; try rfl) fb19 (fun H => (.cons (td (by try simp only [go_sem, Nat.reduceBEq]; try rfl) (.v _)) .nil)) (lexValue_c h9) ?_
  obtain ⟨⟨r12, r13⟩, h11, hm⟩ := bnd hm
  refine ARun.callQ (r := .tup [.v (.int .u64 r12), .v (.bool r13)]) (by decide) (by try simp only [go_sem, Nat.reduceBEq]; try rfl) fb18 (fun H => (.cons (td (by try simp only [go_sem, Nat.reduceBEq]; try rfl) (GA.data _)) .nil)) (lexIsNumber_c h11) ?_
  iterate 5 refine pu rfl (by simp only [go_sem, Nat.reduceBEq]; try with_reducible rfl) ?_
  refine fs ?_
  refine sr (N' := 320) rfl ?_
  obtain ⟨r15, h14, hm⟩ := bnd hm
  refine ARun.callQ (r := GA.av r15) (by decide) (by try simp only [go_sem, Nat.reduceBEq]; try rfl) fb19 (fun H => (.cons (td (by try simp only [go_sem, Nat.reduceBEq]; try rfl) (.v _)) .nil)) (lexValue_c h14) ?_
  obtain ⟨⟨r17, r18⟩, h16, hm⟩ := bnd hm
  refine ARun.callQ (r := .tup [.v (.int .u64 r17), .v (.bool r18)]) (by decide) (by try simp only [go_sem, Nat.reduceBEq]; try rfl) fb18 (fun H => (.cons (td (by try simp only [go_sem, Nat.reduceBEq]; try rfl) (GA.data _)) .nil)) (lexIsNumber_c h16) ?_
  iterate 5 refine pu rfl (by simp only [go_sem, Nat.reduceBEq]; try with_reducible rfl) ?_
  refine fs ?_
  refine sr (N' := 384) rfl ?_
  obtain ⟨⟨r20, r21⟩, h19, hm⟩ := bnd hm
  refine ARun.callQ (r := .tup [.v (.int .u64 r20), .v (.bool r21)]) (by decide) (by try simp only [go_sem, Nat.reduceBEq]; try rfl) fb18 (fun H => (.cons (td (by try simp only [go_sem, Nat.reduceBEq]; try rfl) (GA.data _)) .nil)) (lexIsNumber_c h19) ?_
  iterate 5 refine pu rfl (by simp only [go_sem, Nat.reduceBEq]; try with_reducible rfl) ?_
  refine fs ?_
  refine sr (N' := 448) rfl ?_
  obtain ⟨⟨r23, r24⟩, h22, hm⟩ := bnd hm
  refine ARun.callQ (r := .tup [.v (.int .u64 r23), .v (.int .i64 r24)]) (by decide) (by try simp only [go_sem, Nat.reduceBEq]; try rfl) fb16 (fun H => (.cons (td (by try simp only [go_sem, Nat.reduceBEq]; try rfl) (.v _)) .nil)) (lexNumber_c h22) ?_
  iterate 5 refine pu rfl (by simp only [go_sem, Nat.reduceBEq]; try with_reducible rfl) ?_
  refine fs ?_
  refine sr (N' := 512) rfl ?_
  obtain ⟨⟨r26, r27⟩, h25, hm⟩ := bnd hm
  refine ARun.callQ (r := .tup [.v (.string r26), .v (.int .i64 r27)]) (by decide) (by try simp only [go_sem, Nat.reduceBEq]; try rfl) fb20 (fun H => (.cons (td (by try simp only [go_sem, Nat.reduceBEq]; try rfl) (.v _)) .nil)) (lexUnhex_c h25) ?_
  iterate 5 refine pu rfl (by simp only [go_sem, Nat.reduceBEq]; try with_reducible rfl) ?_
  refine fs ?_
  refine sr (N' := 576) rfl ?_
  refine pu rfl (by simp only [go_sem, Nat.reduceBEq]; try with_reducible rfl) ?_
  refine hp (id := 513) rfl rfl (ah_list CFs (l := [⟨#[206, 187]⟩, ⟨#[49, 50]⟩]) Try.underlying45 sz9 zc9 (by simp only [isFresh_upd, isFresh_no, Nat.reduceBEq, cond_true, cond_false]) (by decide) (by decide) (by decide) (by simp only [go_sem, Nat.reduceBEq]; try rfl) (by kernel_rfl)) ?_
  refine hp (id := 514) rfl rfl (ah_list CFs (l := [⟨#[120]⟩]) Try.underlying45 sz9 zc9 (by simp only [isFresh_upd, isFresh_no, Nat.reduceBEq, cond_true, cond_false]) (by decide) (by decide) (by decide) (by simp only [go_sem, Nat.reduceBEq]; try rfl) (by kernel_rfl)) ?_
  refine hp (id := 515) rfl rfl (aheap_list2 Try.underlying23 sz45 zc45 (by simp only [isFresh_upd, isFresh_no, Nat.reduceBEq, cond_true, cond_false]) (by try simp only [go_sem, Nat.reduceBEq]; try rfl) (by try simp only [go_sem, Nat.reduceBEq]; try rfl) rfl rfl) ?_
  obtain ⟨r29, h28, hm⟩ := bnd hm
  refine ARun.callL (r := .v (.bool r29)) (by decide) [515, 513, 514] (by try simp only [go_sem, Nat.reduceBEq]; try rfl) fb14 (.cons (td (by try simp only [go_sem, Nat.reduceBEq]; try rfl) ((CFl CFs).sl _ _ _)) (.cons (tdnest (P := Try.prog) CFs (ls := [[⟨#[206, 187]⟩, ⟨#[49, 50]⟩], [⟨#[120]⟩]]) (by try simp only [go_sem, Nat.reduceBEq]; try rfl) (by simp only [upd_beq, Nat.reduceBEq, cond_true, cond_false]; try rfl) (by simp) (by first | rfl | omega) (.cons (tdl CFs rfl (by simp only [upd_beq, Nat.reduceBEq, cond_true, cond_false]; try rfl) (by simp) (by first | rfl | omega)) (.cons (tdl CFs rfl (by simp only [upd_beq, Nat.reduceBEq, cond_true, cond_false]; try rfl) (by simp) (by first | rfl | omega)) .nil))) .nil)) (refWords_c h28) ?_
  iterate 45 (first | refine pu rfl (by simp only [go_sem, Nat.reduceBEq]; try with_reducible rfl) ?_ | refine pg rfl rfl (by simp only [go_sem, Nat.reduceBEq]; try with_reducible rfl) (by intro hb; simp only [go_sem, Nat.reduceBEq, hb, Bool.true_and]; try with_reducible rfl) ?_)
  obtain ⟨r31, h30, hm⟩ := bnd hm
  refine ARun.callQG (r := .v (.string r31)) (by decide) rfl (by simp only [go_sem, Nat.reduceBEq]; try with_reducible rfl) (by try simp only [go_sem, Nat.reduceBEq]; try rfl) fb22 (fun hb H => (.cons (td (by try simp only [go_sem, Nat.reduceBEq, hb, Bool.true_and]; try rfl) (.v _)) .nil)) (fun hb => lexHex_c (gopt_t h30 hb)) ?_
  iterate 3 (first | refine pu rfl (by simp only [go_sem, Nat.reduceBEq]; try with_reducible rfl) ?_ | refine pg rfl rfl (by simp only [go_sem, Nat.reduceBEq]; try with_reducible rfl) (by intro hb; simp only [go_sem, Nat.reduceBEq, hb, Bool.true_and]; try with_reducible rfl) ?_)
  refine fs ?_
  refine AWp.ret ?_
  cases hm
  exact ret1D (.inr rfl) Try.results11 (td (by try simp only [go_sem, Nat.reduceBEq]; try rfl) (.v _))
end Go.Proofs.Ytoenhcdjahpdhaa
