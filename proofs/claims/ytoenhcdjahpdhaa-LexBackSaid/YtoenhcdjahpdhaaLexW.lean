/- Plain functions in lockstep with the code, and that the code computes them. (Printed by a program.) -/
import Derived.Test.YtoenhcdjahpdhaaLexM
set_option linter.unusedVariables false
set_option linter.unusedSimpArgs false
set_option maxRecDepth 20000
set_option maxHeartbeats 4000000
namespace Go.Proofs.Ytoenhcdjahpdhaa
open Go Go.AM
theorem ld45LexW (H : Heap) (x : AV) (xs : List AV) : aload Try.prog H 45 (.ptr (x :: xs)) = some x := by kernel_rfl
attribute [go_sem] ld45LexW
theorem ld9LexW (H : Heap) (x : AV) (xs : List AV) : aload Try.prog H 9 (.ptr (x :: xs)) = some x := by kernel_rfl
attribute [go_sem] ld9LexW
theorem cv31_5LexW (H : Heap) (k : IntKind) (n : Int) : aconv Try.prog H 31 5 (.v (.int k n)) = some (.v (.int .u8 (IntKind.u8.wrap n))) := aconv_int Try.underlying31 Try.underlying5
attribute [go_sem] cv31_5LexW
def LexLines_m (text_0 : ByteArray) : Option (Bool) :=
  (bif (decide (300 < (text_0.size : Int))) then
    ((lexAwake_m ).bind fun r2 =>
    some r2)
  else
    ((lexLines_m text_0).bind fun ⟨r4, r5, r6⟩ =>
    ((refBad_m text_0).bind fun r8 =>
    (bif (decide (0 ≤ r8)) then
      ((gopt (((((r4.length : Int) == 0) && (r5 == r8)) && (r6 == 2)) == true) false (lexAwake_m )).bind fun r10 =>
      some (((((r4.length : Int) == 0) && (r5 == r8)) && (r6 == 2)) && r10))
    else
      ((refLines_m text_0).bind fun r12 =>
      ((refWords_m r4 r12).bind fun r14 =>
      ((gopt (((r14 && (r5 == 0)) && (r6 == 0)) == true) false (lexAwake_m )).bind fun r16 =>
      some (((r14 && (r5 == 0)) && (r6 == 0)) && r16))))))))
theorem LexLines_c {text_0 : ByteArray} {r : Bool} (hm : LexLines_m text_0 = some r) : PureC Try.prog 3 [.v (.string text_0)] (.v (.bool r)) := by
  refine PureC.of_body Try.func3 rfl ?_
  simp only [Try.ntmps3, List.length_cons, List.length_nil, Nat.reduceAdd, Nat.reduceSub, empty_eq]
  unfold LexLines_m at hm
  refine sr (N' := 64) rfl ?_
  refine pu rfl (by simp only [go_sem, Nat.reduceBEq]; try with_reducible rfl) ?_
  refine fs ?_
  refine AWp.seq' ?_
  refine sr (N' := 128) rfl ?_
  iterate 3 refine pu rfl (by simp only [go_sem, Nat.reduceBEq]; try with_reducible rfl) ?_
  refine fs ?_
  refine AWp.condM hm (by try simp only [go_sem, Nat.reduceBEq]; try rfl) (fun _ hm => ?_) (fun _ hm => ?_)
  · refine sr (N' := 192) rfl ?_
    obtain ⟨r2, h1, hm⟩ := bnd hm
    refine ARun.callQ (r := .v (.bool r2)) (by decide) (by try simp only [go_sem, Nat.reduceBEq]; try rfl) fb11 (fun H => .nil) (lexAwake_c h1) ?_
    refine pu rfl (by simp only [go_sem, Nat.reduceBEq]; try with_reducible rfl) ?_
    refine fs ?_
    refine AWp.ret ?_
    refine retSeq ?_
    cases hm
    exact ret1D (.inr rfl) Try.results3 (td (by try simp only [go_sem, Nat.reduceBEq]; try rfl) (.v _))
  · refine AWp.skip ?_
    refine normSeq ?_
    refine sr (N' := 192) rfl ?_
    refine pu rfl (by simp only [go_sem, Nat.reduceBEq]; try with_reducible rfl) ?_
    obtain ⟨⟨r4, r5, r6⟩, h3, hm⟩ := bnd hm
    refine ARun.callQ (r := .tup [.sl (r4.flatMap (csl cstr)) r4.length false, .v (.int .i64 r5), .v (.int .i64 r6)]) (by decide) (by try simp only [go_sem, Nat.reduceBEq]; try rfl) fb12 (fun H => (.cons (td (by try simp only [go_sem, Nat.reduceBEq]; try rfl) (.v _)) .nil)) (lexLines_c h3) ?_
    iterate 7 refine pu rfl (by simp only [go_sem, Nat.reduceBEq]; try with_reducible rfl) ?_
    refine fs ?_
    refine sr (N' := 256) rfl ?_
    refine pu rfl (by simp only [go_sem, Nat.reduceBEq]; try with_reducible rfl) ?_
    obtain ⟨r8, h7, hm⟩ := bnd hm
    refine ARun.callQ (r := .v (.int .i64 r8)) (by decide) (by try simp only [go_sem, Nat.reduceBEq]; try rfl) fb13 (fun H => (.cons (td (by try simp only [go_sem, Nat.reduceBEq]; try rfl) (.v _)) .nil)) (refBad_c h7) ?_
    refine pu rfl (by simp only [go_sem, Nat.reduceBEq]; try with_reducible rfl) ?_
    refine fs ?_
    refine AWp.seq' ?_
    refine sr (N' := 320) rfl ?_
    iterate 2 refine pu rfl (by simp only [go_sem, Nat.reduceBEq]; try with_reducible rfl) ?_
    refine fs ?_
    refine AWp.condM hm (by try simp only [go_sem, Nat.reduceBEq]; try rfl) (fun _ hm => ?_) (fun _ hm => ?_)
    · refine sr (N' := 384) rfl ?_
      iterate 13 (first | refine pu rfl (by simp only [go_sem, Nat.reduceBEq]; try with_reducible rfl) ?_ | refine pg rfl rfl (by simp only [go_sem, Nat.reduceBEq]; try with_reducible rfl) (by intro hb; simp only [go_sem, Nat.reduceBEq, hb, Bool.true_and]; try with_reducible rfl) ?_)
      obtain ⟨r10, h9, hm⟩ := bnd hm
      refine ARun.callQG (r := .v (.bool r10)) (by decide) rfl (by simp only [go_sem, Nat.reduceBEq]; try with_reducible rfl) (by try simp only [go_sem, Nat.reduceBEq]; try rfl) fb11 (fun hb H => .nil) (fun hb => lexAwake_c (gopt_t h9 hb)) ?_
      iterate 2 refine pu rfl (by simp only [go_sem, Nat.reduceBEq]; try with_reducible rfl) ?_
      refine fs ?_
      refine AWp.ret ?_
      refine retSeq ?_
      cases hm
      exact ret1D (.inr rfl) Try.results3 (td (by try simp only [go_sem, Nat.reduceBEq]; try rfl) (.v _))
    · refine AWp.skip ?_
      refine normSeq ?_
      refine sr (N' := 384) rfl ?_
      iterate 2 refine pu rfl (by simp only [go_sem, Nat.reduceBEq]; try with_reducible rfl) ?_
      obtain ⟨r12, h11, hm⟩ := bnd hm
      refine ARun.callQ (r := .sl (r12.flatMap (csl cstr)) r12.length false) (by decide) (by try simp only [go_sem, Nat.reduceBEq]; try rfl) fb15 (fun H => (.cons (td (by try simp only [go_sem, Nat.reduceBEq]; try rfl) (.v _)) .nil)) (refLines_c h11) ?_
      obtain ⟨r14, h13, hm⟩ := bnd hm
      refine ARun.callQ (r := .v (.bool r14)) (by decide) (by try simp only [go_sem, Nat.reduceBEq]; try rfl) fb14 (fun H => (.cons (td (by try simp only [go_sem, Nat.reduceBEq]; try rfl) ((CFl CFs).sl _ _ _)) (.cons (td (by try simp only [go_sem, Nat.reduceBEq]; try rfl) ((CFl CFs).sl _ _ _)) .nil))) (refWords_c h13) ?_
      iterate 9 (first | refine pu rfl (by simp only [go_sem, Nat.reduceBEq]; try with_reducible rfl) ?_ | refine pg rfl rfl (by simp only [go_sem, Nat.reduceBEq]; try with_reducible rfl) (by intro hb; simp only [go_sem, Nat.reduceBEq, hb, Bool.true_and]; try with_reducible rfl) ?_)
      obtain ⟨r16, h15, hm⟩ := bnd hm
      refine ARun.callQG (r := .v (.bool r16)) (by decide) rfl (by simp only [go_sem, Nat.reduceBEq]; try with_reducible rfl) (by try simp only [go_sem, Nat.reduceBEq]; try rfl) fb11 (fun hb H => .nil) (fun hb => lexAwake_c (gopt_t h15 hb)) ?_
      iterate 2 refine pu rfl (by simp only [go_sem, Nat.reduceBEq]; try with_reducible rfl) ?_
      refine fs ?_
      refine AWp.ret ?_
      cases hm
      exact ret1D (.inr rfl) Try.results3 (td (by try simp only [go_sem, Nat.reduceBEq]; try rfl) (.v _))
def LexTells_m (word_0 : ByteArray) (s_1 : ByteArray) : Option (Bool) :=
  (bif ((decide (300 < (word_0.size : Int))) || (decide (300 < (s_1.size : Int)))) then
    ((lexAwake_m ).bind fun r2 =>
    some r2)
  else
    ((lexNumber_m word_0).bind fun ⟨r4, r5⟩ =>
    ((refNumber_m word_0).bind fun ⟨r7, r8⟩ =>
    ((lexValue_m word_0).bind fun r10 =>
    ((lexIsNumber_m r10).bind fun ⟨r12, r13⟩ =>
    ((lexValue_m word_0).bind fun r15 =>
    ((gaStr 9 r15).bind fun ⟨r17, r18⟩ =>
    (bif ((((((r4 != r7) || (r5 != r8)) || (r12 != r7)) || (!(r13 == (r8 == 0)))) || (r18 == r13)) || (r18 && (!decide (r17 = word_0)))) then
      some false
    else
      ((lexUnhex_m word_0).bind fun ⟨r20, r21⟩ =>
      ((refUnhex_m word_0).bind fun ⟨r23, r24⟩ =>
      ((gopt ((((decide (r20 = r23)) && ((r21 == 0) == r24)) && (r24 || (r21 == 2))) == true) ⟨#[]⟩ (lexHex_m s_1)).bind fun r26 =>
      ((gopt ((((decide (r20 = r23)) && ((r21 == 0) == r24)) && (r24 || (r21 == 2))) == true) ⟨#[]⟩ (refHex_m s_1)).bind fun r28 =>
      ((gopt (((((decide (r20 = r23)) && ((r21 == 0) == r24)) && (r24 || (r21 == 2))) && (decide (r26 = r28))) == true) false (lexAwake_m )).bind fun r30 =>
      some (((((decide (r20 = r23)) && ((r21 == 0) == r24)) && (r24 || (r21 == 2))) && (decide (r26 = r28))) && r30))))))))))))))
theorem LexTells_c {word_0 : ByteArray} {s_1 : ByteArray} {r : Bool} (hm : LexTells_m word_0 s_1 = some r) : PureC Try.prog 4 [.v (.string word_0), .v (.string s_1)] (.v (.bool r)) := by
  refine PureC.of_body Try.func4 rfl ?_
  simp only [Try.ntmps4, List.length_cons, List.length_nil, Nat.reduceAdd, Nat.reduceSub, empty_eq]
  unfold LexTells_m at hm
  refine sr (N' := 64) rfl ?_
  refine pu rfl (by simp only [go_sem, Nat.reduceBEq]; try with_reducible rfl) ?_
  refine fs ?_
  refine AWp.seq' ?_
  refine sr (N' := 128) rfl ?_
  iterate 8 (first | refine pu rfl (by simp only [go_sem, Nat.reduceBEq]; try with_reducible rfl) ?_ | refine pg rfl rfl (by simp only [go_sem, Nat.reduceBEq]; try with_reducible rfl) (by intro hb; simp only [go_sem, Nat.reduceBEq, hb, Bool.true_and]; try with_reducible rfl) ?_)
  refine fs ?_
  refine AWp.condM hm (by try simp only [go_sem, Nat.reduceBEq]; try rfl) (fun _ hm => ?_) (fun _ hm => ?_)
  · refine sr (N' := 192) rfl ?_
    obtain ⟨r2, h1, hm⟩ := bnd hm
    refine ARun.callQ (r := .v (.bool r2)) (by decide) (by try simp only [go_sem, Nat.reduceBEq]; try rfl) fb11 (fun H => .nil) (lexAwake_c h1) ?_
    refine pu rfl (by simp only [go_sem, Nat.reduceBEq]; try with_reducible rfl) ?_
    refine fs ?_
    refine AWp.ret ?_
    refine retSeq ?_
    cases hm
    exact ret1D (.inr rfl) Try.results4 (td (by try simp only [go_sem, Nat.reduceBEq]; try rfl) (.v _))
  · refine AWp.skip ?_
    refine normSeq ?_
    refine sr (N' := 192) rfl ?_
    refine pu rfl (by simp only [go_sem, Nat.reduceBEq]; try with_reducible rfl) ?_
    obtain ⟨⟨r4, r5⟩, h3, hm⟩ := bnd hm
    refine ARun.callQ (r := .tup [.v (.int .u64 r4), .v (.int .i64 r5)]) (by decide) (by try simp only [go_sem, Nat.reduceBEq]; try rfl) fb16 (fun H => (.cons (td (by try simp only [go_sem, Nat.reduceBEq]; try rfl) (.v _)) .nil)) (lexNumber_c h3) ?_
    iterate 5 refine pu rfl (by simp only [go_sem, Nat.reduceBEq]; try with_reducible rfl) ?_
    refine fs ?_
    refine sr (N' := 256) rfl ?_
    refine pu rfl (by simp only [go_sem, Nat.reduceBEq]; try with_reducible rfl) ?_
    obtain ⟨⟨r7, r8⟩, h6, hm⟩ := bnd hm
    refine ARun.callQ (r := .tup [.v (.int .u64 r7), .v (.int .i64 r8)]) (by decide) (by try simp only [go_sem, Nat.reduceBEq]; try rfl) fb17 (fun H => (.cons (td (by try simp only [go_sem, Nat.reduceBEq]; try rfl) (.v _)) .nil)) (refNumber_c h6) ?_
    iterate 5 refine pu rfl (by simp only [go_sem, Nat.reduceBEq]; try with_reducible rfl) ?_
    refine fs ?_
    refine sr (N' := 320) rfl ?_
    refine pu rfl (by simp only [go_sem, Nat.reduceBEq]; try with_reducible rfl) ?_
    obtain ⟨r10, h9, hm⟩ := bnd hm
    refine ARun.callQ (r := GA.av r10) (by decide) (by try simp only [go_sem, Nat.reduceBEq]; try rfl) fb19 (fun H => (.cons (td (by try simp only [go_sem, Nat.reduceBEq]; try rfl) (.v _)) .nil)) (lexValue_c h9) ?_
    obtain ⟨⟨r12, r13⟩, h11, hm⟩ := bnd hm
    refine ARun.callQ (r := .tup [.v (.int .u64 r12), .v (.bool r13)]) (by decide) (by try simp only [go_sem, Nat.reduceBEq]; try rfl) fb18 (fun H => (.cons (td (by try simp only [go_sem, Nat.reduceBEq]; try rfl) (GA.data _)) .nil)) (lexIsNumber_c h11) ?_
    iterate 5 refine pu rfl (by simp only [go_sem, Nat.reduceBEq]; try with_reducible rfl) ?_
    refine fs ?_
    refine sr (N' := 384) rfl ?_
    refine pu rfl (by simp only [go_sem, Nat.reduceBEq]; try with_reducible rfl) ?_
    obtain ⟨r15, h14, hm⟩ := bnd hm
    refine ARun.callQ (r := GA.av r15) (by decide) (by try simp only [go_sem, Nat.reduceBEq]; try rfl) fb19 (fun H => (.cons (td (by try simp only [go_sem, Nat.reduceBEq]; try rfl) (.v _)) .nil)) (lexValue_c h14) ?_
    obtain ⟨⟨r17, r18⟩, h16, hm⟩ := bnd hm
    refine pu rfl (ap_asstr Try.underlying9 in9 tz9 (by try simp only [go_sem, Nat.reduceBEq]; try rfl) h16) ?_
    iterate 5 refine pu rfl (by simp only [go_sem, Nat.reduceBEq]; try with_reducible rfl) ?_
    refine fs ?_
    refine AWp.seq' ?_
    refine sr (N' := 448) rfl ?_
    iterate 32 (first | refine pu rfl (by simp only [go_sem, Nat.reduceBEq]; try with_reducible rfl) ?_ | refine pg rfl rfl (by simp only [go_sem, Nat.reduceBEq]; try with_reducible rfl) (by intro hb; simp only [go_sem, Nat.reduceBEq, hb, Bool.true_and]; try with_reducible rfl) ?_)
    refine fs ?_
    refine AWp.condM hm (by try simp only [go_sem, Nat.reduceBEq]; try rfl) (fun _ hm => ?_) (fun _ hm => ?_)
    · refine sr (N' := 512) rfl ?_
      refine pu rfl (by simp only [go_sem, Nat.reduceBEq]; try with_reducible rfl) ?_
      refine fs ?_
      refine AWp.ret ?_
      refine retSeq ?_
      cases hm
      exact ret1D (.inr rfl) Try.results4 (td (by try simp only [go_sem, Nat.reduceBEq]; try rfl) (.v _))
    · refine AWp.skip ?_
      refine normSeq ?_
      refine sr (N' := 512) rfl ?_
      refine pu rfl (by simp only [go_sem, Nat.reduceBEq]; try with_reducible rfl) ?_
      obtain ⟨⟨r20, r21⟩, h19, hm⟩ := bnd hm
      refine ARun.callQ (r := .tup [.v (.string r20), .v (.int .i64 r21)]) (by decide) (by try simp only [go_sem, Nat.reduceBEq]; try rfl) fb20 (fun H => (.cons (td (by try simp only [go_sem, Nat.reduceBEq]; try rfl) (.v _)) .nil)) (lexUnhex_c h19) ?_
      iterate 5 refine pu rfl (by simp only [go_sem, Nat.reduceBEq]; try with_reducible rfl) ?_
      refine fs ?_
      refine sr (N' := 576) rfl ?_
      refine pu rfl (by simp only [go_sem, Nat.reduceBEq]; try with_reducible rfl) ?_
      obtain ⟨⟨r23, r24⟩, h22, hm⟩ := bnd hm
      refine ARun.callQ (r := .tup [.v (.string r23), .v (.bool r24)]) (by decide) (by try simp only [go_sem, Nat.reduceBEq]; try rfl) fb21 (fun H => (.cons (td (by try simp only [go_sem, Nat.reduceBEq]; try rfl) (.v _)) .nil)) (refUnhex_c h22) ?_
      iterate 5 refine pu rfl (by simp only [go_sem, Nat.reduceBEq]; try with_reducible rfl) ?_
      refine fs ?_
      refine sr (N' := 640) rfl ?_
      iterate 18 (first | refine pu rfl (by simp only [go_sem, Nat.reduceBEq]; try with_reducible rfl) ?_ | refine pg rfl rfl (by simp only [go_sem, Nat.reduceBEq]; try with_reducible rfl) (by intro hb; simp only [go_sem, Nat.reduceBEq, hb, Bool.true_and]; try with_reducible rfl) ?_)
      obtain ⟨r26, h25, hm⟩ := bnd hm
      refine ARun.callQG (r := .v (.string r26)) (by decide) rfl (by simp only [go_sem, Nat.reduceBEq]; try with_reducible rfl) (by try simp only [go_sem, Nat.reduceBEq]; try rfl) fb22 (fun hb H => (.cons (td (by try simp only [go_sem, Nat.reduceBEq, hb, Bool.true_and]; try rfl) (.v _)) .nil)) (fun hb => lexHex_c (gopt_t h25 hb)) ?_
      refine pg rfl rfl (by simp only [go_sem, Nat.reduceBEq]; try with_reducible rfl) (by intro hb; simp only [go_sem, Nat.reduceBEq, hb, Bool.true_and]; try with_reducible rfl) ?_
      obtain ⟨r28, h27, hm⟩ := bnd hm
      refine ARun.callQG (r := .v (.string r28)) (by decide) rfl (by simp only [go_sem, Nat.reduceBEq]; try with_reducible rfl) (by try simp only [go_sem, Nat.reduceBEq]; try rfl) fb23 (fun hb H => (.cons (td (by try simp only [go_sem, Nat.reduceBEq, hb, Bool.true_and]; try rfl) (.v _)) .nil)) (fun hb => refHex_c (gopt_t h27 hb)) ?_
      iterate 3 (first | refine pu rfl (by simp only [go_sem, Nat.reduceBEq]; try with_reducible rfl) ?_ | refine pg rfl rfl (by simp only [go_sem, Nat.reduceBEq]; try with_reducible rfl) (by intro hb; simp only [go_sem, Nat.reduceBEq, hb, Bool.true_and]; try with_reducible rfl) ?_)
      obtain ⟨r30, h29, hm⟩ := bnd hm
      refine ARun.callQG (r := .v (.bool r30)) (by decide) rfl (by simp only [go_sem, Nat.reduceBEq]; try with_reducible rfl) (by try simp only [go_sem, Nat.reduceBEq]; try rfl) fb11 (fun hb H => .nil) (fun hb => lexAwake_c (gopt_t h29 hb)) ?_
      iterate 2 refine pu rfl (by simp only [go_sem, Nat.reduceBEq]; try with_reducible rfl) ?_
      refine fs ?_
      refine AWp.ret ?_
      cases hm
      exact ret1D (.inr rfl) Try.results4 (td (by try simp only [go_sem, Nat.reduceBEq]; try rfl) (.v _))
def LexBack_J1 (rec1 : List (List ByteArray) → ByteArray → ByteArray → List (List ByteArray) → Int → Int → Option (Bool)) (lines_0 : List (List ByteArray)) (note_1 : ByteArray) (text_5 : ByteArray) (t33 : List (List ByteArray)) (t34 : Int) (t35 : Int) : Option (Bool) :=
  rec1 lines_0 note_1 text_5 t33 t34 (IntKind.i64.wrap (t35 + 1))
def LexBack_J3 (rec1 : List (List ByteArray) → ByteArray → ByteArray → List (List ByteArray) → Int → Int → Option (Bool)) (rec2 : List (List ByteArray) → ByteArray → ByteArray → List (List ByteArray) → Int → Int → List ByteArray → Int → Int → Option (Bool)) (lines_0 : List (List ByteArray)) (note_1 : ByteArray) (text_5 : ByteArray) (t33 : List (List ByteArray)) (t34 : Int) (t35 : Int) (t48 : List ByteArray) (t49 : Int) (t50 : Int) : Option (Bool) :=
  rec2 lines_0 note_1 text_5 t33 t34 t35 t48 t49 (IntKind.i64.wrap (t50 + 1))
def LexBack_J4 (rec1 : List (List ByteArray) → ByteArray → ByteArray → List (List ByteArray) → Int → Int → Option (Bool)) (rec2 : List (List ByteArray) → ByteArray → ByteArray → List (List ByteArray) → Int → Int → List ByteArray → Int → Int → Option (Bool)) (lines_0 : List (List ByteArray)) (note_1 : ByteArray) (text_5 : ByteArray) (w_9 : ByteArray) (t33 : List (List ByteArray)) (t34 : Int) (t35 : Int) (t48 : List ByteArray) (t49 : Int) (t50 : Int) : Option (Bool) :=
  ((sadd text_5 w_9).bind fun s17 =>
  LexBack_J3 rec1 rec2 lines_0 note_1 s17 t33 t34 t35 t48 t49 t50)
def LexBack_B3 (rec1 : List (List ByteArray) → ByteArray → ByteArray → List (List ByteArray) → Int → Int → Option (Bool)) (rec2 : List (List ByteArray) → ByteArray → ByteArray → List (List ByteArray) → Int → Int → List ByteArray → Int → Int → Option (Bool)) (rec3 : List (List ByteArray) → ByteArray → ByteArray → Int → ByteArray → List (List ByteArray) → Int → Int → List ByteArray → Int → Int → ByteArray → Nat → Option (Bool)) (lines_0 : List (List ByteArray)) (note_1 : ByteArray) (text_5 : ByteArray) (k_8 : Int) (w_9 : ByteArray) (t33 : List (List ByteArray)) (t34 : Int) (t35 : Int) (t48 : List ByteArray) (t49 : Int) (t50 : Int) (t64s : ByteArray) (t64p : Nat) : Option (Bool) :=
  (bif (decide (t64p < t64s.size)) then
    ((refOf_m (((Utf8.decode t64s t64p).1 : Nat) : Int)).bind fun r13 =>
    (bif (!r13) then
      ((lexAwake_m ).bind fun r15 =>
      some r15)
    else
      rec3 lines_0 note_1 text_5 k_8 w_9 t33 t34 t35 t48 t49 t50 t64s (t64p + (Utf8.decode t64s t64p).2)))
  else
    (bif (decide (0 < k_8)) then
      ((sadd text_5 ⟨#[32]⟩).bind fun s19 =>
      LexBack_J4 rec1 rec2 lines_0 note_1 s19 w_9 t33 t34 t35 t48 t49 t50)
    else
      LexBack_J4 rec1 rec2 lines_0 note_1 text_5 w_9 t33 t34 t35 t48 t49 t50))
def LexBack_L3 (rec1 : List (List ByteArray) → ByteArray → ByteArray → List (List ByteArray) → Int → Int → Option (Bool)) (rec2 : List (List ByteArray) → ByteArray → ByteArray → List (List ByteArray) → Int → Int → List ByteArray → Int → Int → Option (Bool)) : Nat → List (List ByteArray) → ByteArray → ByteArray → Int → ByteArray → List (List ByteArray) → Int → Int → List ByteArray → Int → Int → ByteArray → Nat → Option (Bool)
  | 0 => fun _ _ _ _ _ _ _ _ _ _ _ _ _ => none
  | n + 1 => LexBack_B3 rec1 rec2 (LexBack_L3 rec1 rec2 n)
def LexBack_B2 (rec1 : List (List ByteArray) → ByteArray → ByteArray → List (List ByteArray) → Int → Int → Option (Bool)) (rec2 : List (List ByteArray) → ByteArray → ByteArray → List (List ByteArray) → Int → Int → List ByteArray → Int → Int → Option (Bool)) (lines_0 : List (List ByteArray)) (note_1 : ByteArray) (text_5 : ByteArray) (t33 : List (List ByteArray)) (t34 : Int) (t35 : Int) (t48 : List ByteArray) (t49 : Int) (t50 : Int) : Option (Bool) :=
  (bif (decide (t50 < t49)) then
    ((idx t48 t50).bind fun x8 =>
    (bif ((decide (x8 = ⟨#[]⟩)) || (decide (40 < (x8.size : Int)))) then
      ((lexAwake_m ).bind fun r10 =>
      some r10)
    else
      LexBack_L3 rec1 rec2 FUEL lines_0 note_1 text_5 t50 x8 t33 t34 t35 t48 t49 t50 x8 0))
  else
    LexBack_J1 rec1 lines_0 note_1 text_5 t33 t34 t35)
def LexBack_L2 (rec1 : List (List ByteArray) → ByteArray → ByteArray → List (List ByteArray) → Int → Int → Option (Bool)) : Nat → List (List ByteArray) → ByteArray → ByteArray → List (List ByteArray) → Int → Int → List ByteArray → Int → Int → Option (Bool)
  | 0 => fun _ _ _ _ _ _ _ _ _ => none
  | n + 1 => LexBack_B2 rec1 (LexBack_L2 rec1 n)
def LexBack_J2 (rec1 : List (List ByteArray) → ByteArray → ByteArray → List (List ByteArray) → Int → Int → Option (Bool)) (lines_0 : List (List ByteArray)) (note_1 : ByteArray) (text_5 : ByteArray) (l_7 : List ByteArray) (t33 : List (List ByteArray)) (t34 : Int) (t35 : Int) : Option (Bool) :=
  LexBack_L2 rec1 FUEL lines_0 note_1 text_5 t33 t34 t35 l_7 (l_7.length : Int) 0
def LexBack_B4 (rec4 : List (List ByteArray) → ByteArray → ByteArray → Int → Int → Option (Bool)) (lines_0 : List (List ByteArray)) (note_1 : ByteArray) (text_5 : ByteArray) (t82 : Int) (t83 : Int) : Option (Bool) :=
  (bif (decide (t83 < t82)) then
    ((sidx note_1 t83).bind fun b23 =>
    (bif (b23 == 10) then
      ((lexAwake_m ).bind fun r25 =>
      some r25)
    else
      rec4 lines_0 note_1 text_5 t82 (IntKind.i64.wrap (t83 + 1))))
  else
    ((lexLines_m text_5).bind fun ⟨r27, r28, r29⟩ =>
    ((sadd text_5 ⟨#[32, 35]⟩).bind fun s31 =>
    ((sadd s31 note_1).bind fun s33 =>
    ((lexLines_m s33).bind fun ⟨r35, r36, r37⟩ =>
    ((gopt (((r29 == 0) && (r37 == 0)) == true) false (refWords_m r27 lines_0)).bind fun r39 =>
    ((gopt ((((r29 == 0) && (r37 == 0)) && r39) == true) false (refWords_m r35 lines_0)).bind fun r41 =>
    ((gopt (((((r29 == 0) && (r37 == 0)) && r39) && r41) == true) false (lexAwake_m )).bind fun r43 =>
    some (((((r29 == 0) && (r37 == 0)) && r39) && r41) && r43)))))))))
def LexBack_L4 : Nat → List (List ByteArray) → ByteArray → ByteArray → Int → Int → Option (Bool)
  | 0 => fun _ _ _ _ _ => none
  | n + 1 => LexBack_B4 (LexBack_L4 n)
def LexBack_B1 (rec1 : List (List ByteArray) → ByteArray → ByteArray → List (List ByteArray) → Int → Int → Option (Bool)) (lines_0 : List (List ByteArray)) (note_1 : ByteArray) (text_5 : ByteArray) (t33 : List (List ByteArray)) (t34 : Int) (t35 : Int) : Option (Bool) :=
  (bif (decide (t35 < t34)) then
    ((idx t33 t35).bind fun x4 =>
    (bif (decide (12 < (x4.length : Int))) then
      ((lexAwake_m ).bind fun r6 =>
      some r6)
    else
      (bif (decide (0 < t35)) then
        ((sadd text_5 ⟨#[10]⟩).bind fun s21 =>
        LexBack_J2 rec1 lines_0 note_1 s21 x4 t33 t34 t35)
      else
        LexBack_J2 rec1 lines_0 note_1 text_5 x4 t33 t34 t35)))
  else
    LexBack_L4 FUEL lines_0 note_1 text_5 (note_1.size : Int) 0)
def LexBack_L1 : Nat → List (List ByteArray) → ByteArray → ByteArray → List (List ByteArray) → Int → Int → Option (Bool)
  | 0 => fun _ _ _ _ _ _ => none
  | n + 1 => LexBack_B1 (LexBack_L1 n)
def LexBack_m (lines_0 : List (List ByteArray)) (note_1 : ByteArray) : Option (Bool) :=
  (bif (((decide (12 < (lines_0.length : Int))) || ((lines_0.length : Int) == 0)) || (decide (40 < (note_1.size : Int)))) then
    ((lexAwake_m ).bind fun r2 =>
    some r2)
  else
    LexBack_L1 FUEL lines_0 note_1 ⟨#[]⟩ lines_0 (lines_0.length : Int) 0)
theorem LexBack_c {lines_0 : List (List ByteArray)} {note_1 : ByteArray} {r : Bool} (hm : LexBack_m lines_0 note_1 = some r) : PureC Try.prog 5 [.sl (lines_0.flatMap (csl cstr)) lines_0.length false, .v (.string note_1)] (.v (.bool r)) := by
  refine PureC.of_body Try.func5 rfl ?_
  simp only [Try.ntmps5, List.length_cons, List.length_nil, Nat.reduceAdd, Nat.reduceSub, empty_eq]
  unfold LexBack_m at hm
  refine sr (N' := 64) rfl ?_
  refine pu rfl (by simp only [go_sem, Nat.reduceBEq]; try with_reducible rfl) ?_
  refine fs ?_
  refine AWp.seq' ?_
  refine sr (N' := 128) rfl ?_
  iterate 13 (first | refine pu rfl (by simp only [go_sem, Nat.reduceBEq]; try with_reducible rfl) ?_ | refine pg rfl rfl (by simp only [go_sem, Nat.reduceBEq]; try with_reducible rfl) (by intro hb; simp only [go_sem, Nat.reduceBEq, hb, Bool.true_and]; try with_reducible rfl) ?_)
  refine fs ?_
  refine AWp.condM hm (by try simp only [go_sem, Nat.reduceBEq]; try rfl) (fun _ hm => ?_) (fun _ hm => ?_)
  · refine sr (N' := 192) rfl ?_
    obtain ⟨r2, h1, hm⟩ := bnd hm
    refine ARun.callQ (r := .v (.bool r2)) (by decide) (by try simp only [go_sem, Nat.reduceBEq]; try rfl) fb11 (fun H => .nil) (lexAwake_c h1) ?_
    refine pu rfl (by simp only [go_sem, Nat.reduceBEq]; try with_reducible rfl) ?_
    refine fs ?_
    refine AWp.ret ?_
    refine retSeq ?_
    cases hm
    exact ret1D (.inr rfl) Try.results5 (td (by try simp only [go_sem, Nat.reduceBEq]; try rfl) (.v _))
  · refine AWp.skip ?_
    refine normSeq ?_
    refine sr (N' := 192) rfl ?_
    refine pu rfl (by simp only [go_sem, Nat.reduceBEq]; try with_reducible rfl) ?_
    refine fs ?_
    refine AWp.seq' ?_
    refine sr (N' := 256) rfl ?_
    iterate 3 refine pu rfl (by simp only [go_sem, Nat.reduceBEq]; try with_reducible rfl) ?_
    refine fs ?_
    refine AWp.block ?_
    refine AWp.loopM (fun m s => ∃ (lines_0 : List (List ByteArray)) (note_1 : ByteArray) (text_5 : ByteArray) (t33 : List (List ByteArray)) (t34 : Int) (t35 : Int), s = (⟨126, (fset (fset (fset (fset (fset (fset (fun _ => AV.any) 0 (.sl (lines_0.flatMap (csl cstr)) lines_0.length false)) 1 (.v (.string note_1))) 5 (.v (.string text_5))) 33 (.sl (t33.flatMap (csl cstr)) t33.length false)) 34 (.v (.int .i64 t34))) 35 (.v (.int .i64 t35))), ⟨nofresh, 64⟩⟩ : St) ∧ LexBack_L1 m lines_0 note_1 text_5 t33 t34 t35 = some r) FUEL ?_ ?_ ?_
    · rintro s ⟨_, _, _, _, _, _, _, h⟩
      cases h
    · refine ⟨_, ?_, lines_0, note_1, ⟨#[]⟩, lines_0, (lines_0.length : Int), 0, rfl, hm⟩
      exact le_canon id (wk_fset _ _ (wk_data (by try simp only [go_sem, Nat.reduceBEq]; try rfl) (.v _)) (wk_fset _ _ (wk_data (by try simp only [go_sem, Nat.reduceBEq]; try rfl) (.v _)) (wk_fset _ _ (wk_data (by try simp only [go_sem, Nat.reduceBEq]; try rfl) ((CFl CFs).sl _ _ _)) (wk_fset _ _ (wk_data (by try simp only [go_sem, Nat.reduceBEq]; try rfl) (.v _)) (wk_fset _ _ (wk_data (by try simp only [go_sem, Nat.reduceBEq]; try rfl) (.v _)) (wk_fset _ _ (wk_data (by try simp only [go_sem, Nat.reduceBEq]; try rfl) ((CFl CFs).sl _ _ _)) wk_none)))))) heapWk0
    · rintro n1 s ⟨lines_0, note_1, text_5, t33, t34, t35, rfl, hm⟩
      replace hm : LexBack_B1 (LexBack_L1 n1) lines_0 note_1 text_5 t33 t34 t35 = some r := hm
      unfold LexBack_B1 at hm
      refine sr (N' := 128) rfl ?_
      refine pu rfl (by simp only [go_sem, Nat.reduceBEq]; try with_reducible rfl) ?_
      refine fs ?_
      refine AWp.seq' ?_
      refine AWp.condM hm (by try simp only [go_sem, Nat.reduceBEq]; try rfl) (fun _ hm => ?_) (fun _ hm => ?_)
      · refine AWp.skip ?_
        refine normSeq ?_
        refine AWp.seqJ (fun s => ∃ (lines_0 : List (List ByteArray)) (note_1 : ByteArray) (text_5 : ByteArray) (t33 : List (List ByteArray)) (t34 : Int) (t35 : Int), s = (⟨126, (fset (fset (fset (fset (fset (fset (fun _ => AV.any) 0 (.sl (lines_0.flatMap (csl cstr)) lines_0.length false)) 1 (.v (.string note_1))) 5 (.v (.string text_5))) 33 (.sl (t33.flatMap (csl cstr)) t33.length false)) 34 (.v (.int .i64 t34))) 35 (.v (.int .i64 t35))), ⟨nofresh, 64⟩⟩ : St) ∧ LexBack_J1 (LexBack_L1 n1) lines_0 note_1 text_5 t33 t34 t35 = some r) ?_ ?_
        · refine AWp.block ?_
          refine sr (N' := 192) rfl ?_
          refine pu rfl (by simp only [go_sem, Nat.reduceBEq]; try with_reducible rfl) ?_
          obtain ⟨x4, h3, hm⟩ := bnd hm
          refine pu rfl (ap_idx (CFl CFs) (by decide) Try.underlying23 sz45 (by try simp only [go_sem, Nat.reduceBEq]; try rfl) rfl (by try simp only [go_sem, Nat.reduceBEq]; try rfl) h3) ?_
          iterate 3 refine pu rfl (by simp only [go_sem, Nat.reduceBEq]; try with_reducible rfl) ?_
          refine fs ?_
          refine AWp.seq' ?_
          refine sr (N' := 256) rfl ?_
          iterate 3 refine pu rfl (by simp only [go_sem, Nat.reduceBEq]; try with_reducible rfl) ?_
          refine fs ?_
          refine AWp.condM hm (by try simp only [go_sem, Nat.reduceBEq]; try rfl) (fun _ hm => ?_) (fun _ hm => ?_)
          · refine sr (N' := 320) rfl ?_
            obtain ⟨r6, h5, hm⟩ := bnd hm
            refine ARun.callQ (r := .v (.bool r6)) (by decide) (by try simp only [go_sem, Nat.reduceBEq]; try rfl) fb11 (fun H => .nil) (lexAwake_c h5) ?_
            refine pu rfl (by simp only [go_sem, Nat.reduceBEq]; try with_reducible rfl) ?_
            refine fs ?_
            refine AWp.ret ?_
            refine retSeq ?_
            refine retIn ?_
            refine retJ ?_
            refine retThen ?_
            refine retIn ?_
            refine retSeq ?_
            cases hm
            exact ret1D (.inr rfl) Try.results5 (td (by try simp only [go_sem, Nat.reduceBEq]; try rfl) (.v _))
          · refine AWp.skip ?_
            refine normSeq ?_
            refine AWp.seqJ (fun s => ∃ (lines_0 : List (List ByteArray)) (note_1 : ByteArray) (text_5 : ByteArray) (l_7 : List ByteArray) (t33 : List (List ByteArray)) (t34 : Int) (t35 : Int), s = (⟨126, (fset (fset (fset (fset (fset (fset (fset (fun _ => AV.any) 0 (.sl (lines_0.flatMap (csl cstr)) lines_0.length false)) 1 (.v (.string note_1))) 5 (.v (.string text_5))) 7 (.sl (l_7.flatMap cstr) l_7.length false)) 33 (.sl (t33.flatMap (csl cstr)) t33.length false)) 34 (.v (.int .i64 t34))) 35 (.v (.int .i64 t35))), ⟨nofresh, 64⟩⟩ : St) ∧ LexBack_J2 (LexBack_L1 n1) lines_0 note_1 text_5 l_7 t33 t34 t35 = some r) ?_ ?_
            · refine sr (N' := 320) rfl ?_
              iterate 2 refine pu rfl (by simp only [go_sem, Nat.reduceBEq]; try with_reducible rfl) ?_
              refine fs ?_
              refine AWp.condM hm (by try simp only [go_sem, Nat.reduceBEq]; try rfl) (fun _ hm => ?_) (fun _ hm => ?_)
              · refine AWp.reg 64 (N' := 384) rfl ?_
                refine pu rfl (by simp only [go_sem, Nat.reduceBEq]; try with_reducible rfl) ?_
                obtain ⟨s21, h20, hm⟩ := bnd hm
                refine pu rfl (ap_sadd (by try simp only [go_sem, Nat.reduceBEq]; try rfl) (by try simp only [go_sem, Nat.reduceBEq]; try rfl) h20) ?_
                refine pu rfl (by simp only [go_sem, Nat.reduceBEq]; try with_reducible rfl) ?_
                refine ARun.fin ?_
                refine normJ ?_
                refine ⟨_, ?_, lines_0, note_1, s21, x4, t33, t34, t35, rfl, hm⟩
                exact le_canon id (wk_fset _ _ (wk_data (by try simp only [go_sem, Nat.reduceBEq]; try rfl) (.v _)) (wk_fset _ _ (wk_data (by try simp only [go_sem, Nat.reduceBEq]; try rfl) (.v _)) (wk_fset _ _ (wk_data (by try simp only [go_sem, Nat.reduceBEq]; try rfl) ((CFl CFs).sl _ _ _)) (wk_fset _ _ (wk_data (by try simp only [go_sem, Nat.reduceBEq]; try rfl) (CFs.sl _ _ _)) (wk_fset _ _ (wk_data (by try simp only [go_sem, Nat.reduceBEq]; try rfl) (.v _)) (wk_fset _ _ (wk_data (by try simp only [go_sem, Nat.reduceBEq]; try rfl) (.v _)) (wk_fset _ _ (wk_data (by try simp only [go_sem, Nat.reduceBEq]; try rfl) ((CFl CFs).sl _ _ _)) wk_none))))))) heapWk0
              · refine AWp.skip ?_
                refine normJ ?_
                refine ⟨_, ?_, lines_0, note_1, text_5, x4, t33, t34, t35, rfl, hm⟩
                exact le_canon id (wk_fset _ _ (wk_data (by try simp only [go_sem, Nat.reduceBEq]; try rfl) (.v _)) (wk_fset _ _ (wk_data (by try simp only [go_sem, Nat.reduceBEq]; try rfl) (.v _)) (wk_fset _ _ (wk_data (by try simp only [go_sem, Nat.reduceBEq]; try rfl) ((CFl CFs).sl _ _ _)) (wk_fset _ _ (wk_data (by try simp only [go_sem, Nat.reduceBEq]; try rfl) (CFs.sl _ _ _)) (wk_fset _ _ (wk_data (by try simp only [go_sem, Nat.reduceBEq]; try rfl) (.v _)) (wk_fset _ _ (wk_data (by try simp only [go_sem, Nat.reduceBEq]; try rfl) (.v _)) (wk_fset _ _ (wk_data (by try simp only [go_sem, Nat.reduceBEq]; try rfl) ((CFl CFs).sl _ _ _)) wk_none))))))) heapWk0
            · rintro s ⟨lines_0, note_1, text_5, l_7, t33, t34, t35, rfl, hm⟩
              unfold LexBack_J2 at hm
              refine sr (N' := 128) rfl ?_
              iterate 3 refine pu rfl (by simp only [go_sem, Nat.reduceBEq]; try with_reducible rfl) ?_
              refine fs ?_
              refine AWp.block ?_
              refine AWp.loopM (fun m s => ∃ (lines_0 : List (List ByteArray)) (note_1 : ByteArray) (text_5 : ByteArray) (t33 : List (List ByteArray)) (t34 : Int) (t35 : Int) (t48 : List ByteArray) (t49 : Int) (t50 : Int), s = (⟨126, (fset (fset (fset (fset (fset (fset (fset (fset (fset (fun _ => AV.any) 0 (.sl (lines_0.flatMap (csl cstr)) lines_0.length false)) 1 (.v (.string note_1))) 5 (.v (.string text_5))) 33 (.sl (t33.flatMap (csl cstr)) t33.length false)) 34 (.v (.int .i64 t34))) 35 (.v (.int .i64 t35))) 48 (.sl (t48.flatMap cstr) t48.length false)) 49 (.v (.int .i64 t49))) 50 (.v (.int .i64 t50))), ⟨nofresh, 64⟩⟩ : St) ∧ LexBack_L2 (LexBack_L1 n1) m lines_0 note_1 text_5 t33 t34 t35 t48 t49 t50 = some r) FUEL ?_ ?_ ?_
              · rintro s ⟨_, _, _, _, _, _, _, _, _, _, h⟩
                cases h
              · refine ⟨_, ?_, lines_0, note_1, text_5, t33, t34, t35, l_7, (l_7.length : Int), 0, rfl, hm⟩
                exact le_canon id (wk_fset _ _ (wk_data (by try simp only [go_sem, Nat.reduceBEq]; try rfl) (.v _)) (wk_fset _ _ (wk_data (by try simp only [go_sem, Nat.reduceBEq]; try rfl) (.v _)) (wk_fset _ _ (wk_data (by try simp only [go_sem, Nat.reduceBEq]; try rfl) (CFs.sl _ _ _)) (wk_fset _ _ (wk_data (by try simp only [go_sem, Nat.reduceBEq]; try rfl) (.v _)) (wk_fset _ _ (wk_data (by try simp only [go_sem, Nat.reduceBEq]; try rfl) (.v _)) (wk_fset _ _ (wk_data (by try simp only [go_sem, Nat.reduceBEq]; try rfl) ((CFl CFs).sl _ _ _)) (wk_fset _ _ (wk_data (by try simp only [go_sem, Nat.reduceBEq]; try rfl) (.v _)) (wk_fset _ _ (wk_data (by try simp only [go_sem, Nat.reduceBEq]; try rfl) (.v _)) (wk_fset _ _ (wk_data (by try simp only [go_sem, Nat.reduceBEq]; try rfl) ((CFl CFs).sl _ _ _)) wk_none))))))))) heapWk0
              · rintro n2 s ⟨lines_0, note_1, text_5, t33, t34, t35, t48, t49, t50, rfl, hm⟩
                replace hm : LexBack_B2 (LexBack_L1 n1) (LexBack_L2 (LexBack_L1 n1) n2) lines_0 note_1 text_5 t33 t34 t35 t48 t49 t50 = some r := hm
                unfold LexBack_B2 at hm
                refine sr (N' := 128) rfl ?_
                refine pu rfl (by simp only [go_sem, Nat.reduceBEq]; try with_reducible rfl) ?_
                refine fs ?_
                refine AWp.seq' ?_
                refine AWp.condM hm (by try simp only [go_sem, Nat.reduceBEq]; try rfl) (fun _ hm => ?_) (fun _ hm => ?_)
                · refine AWp.skip ?_
                  refine normSeq ?_
                  refine AWp.seqJ (fun s => ∃ (lines_0 : List (List ByteArray)) (note_1 : ByteArray) (text_5 : ByteArray) (t33 : List (List ByteArray)) (t34 : Int) (t35 : Int) (t48 : List ByteArray) (t49 : Int) (t50 : Int), s = (⟨126, (fset (fset (fset (fset (fset (fset (fset (fset (fset (fun _ => AV.any) 0 (.sl (lines_0.flatMap (csl cstr)) lines_0.length false)) 1 (.v (.string note_1))) 5 (.v (.string text_5))) 33 (.sl (t33.flatMap (csl cstr)) t33.length false)) 34 (.v (.int .i64 t34))) 35 (.v (.int .i64 t35))) 48 (.sl (t48.flatMap cstr) t48.length false)) 49 (.v (.int .i64 t49))) 50 (.v (.int .i64 t50))), ⟨nofresh, 64⟩⟩ : St) ∧ LexBack_J3 (LexBack_L1 n1) (LexBack_L2 (LexBack_L1 n1) n2) lines_0 note_1 text_5 t33 t34 t35 t48 t49 t50 = some r) ?_ ?_
                  · refine AWp.block ?_
                    refine sr (N' := 192) rfl ?_
                    refine pu rfl (by simp only [go_sem, Nat.reduceBEq]; try with_reducible rfl) ?_
                    obtain ⟨x8, h7, hm⟩ := bnd hm
                    refine pu rfl (ap_idx CFs (by decide) Try.underlying45 sz9 (by try simp only [go_sem, Nat.reduceBEq]; try rfl) rfl (by try simp only [go_sem, Nat.reduceBEq]; try rfl) h7) ?_
                    iterate 3 refine pu rfl (by simp only [go_sem, Nat.reduceBEq]; try with_reducible rfl) ?_
                    refine fs ?_
                    refine AWp.seq' ?_
                    refine sr (N' := 256) rfl ?_
                    iterate 7 (first | refine pu rfl (by simp only [go_sem, Nat.reduceBEq]; try with_reducible rfl) ?_ | refine pg rfl rfl (by simp only [go_sem, Nat.reduceBEq]; try with_reducible rfl) (by intro hb; simp only [go_sem, Nat.reduceBEq, hb, Bool.true_and]; try with_reducible rfl) ?_)
                    refine fs ?_
                    refine AWp.condM hm (by try simp only [go_sem, Nat.reduceBEq]; try rfl) (fun _ hm => ?_) (fun _ hm => ?_)
                    · refine sr (N' := 320) rfl ?_
                      obtain ⟨r10, h9, hm⟩ := bnd hm
                      refine ARun.callQ (r := .v (.bool r10)) (by decide) (by try simp only [go_sem, Nat.reduceBEq]; try rfl) fb11 (fun H => .nil) (lexAwake_c h9) ?_
                      refine pu rfl (by simp only [go_sem, Nat.reduceBEq]; try with_reducible rfl) ?_
                      refine fs ?_
                      refine AWp.ret ?_
                      refine retSeq ?_
                      refine retIn ?_
                      refine retJ ?_
                      refine retThen ?_
                      refine retIn ?_
                      refine retIn ?_
                      refine retJ ?_
                      refine retThen ?_
                      refine retIn ?_
                      refine retSeq ?_
                      cases hm
                      exact ret1D (.inr rfl) Try.results5 (td (by try simp only [go_sem, Nat.reduceBEq]; try rfl) (.v _))
                    · refine AWp.skip ?_
                      refine normSeq ?_
                      refine AWp.seq' ?_
                      refine sr (N' := 320) rfl ?_
                      refine pu rfl (by simp only [go_sem, Nat.reduceBEq]; try with_reducible rfl) ?_
                      refine hp (id := 257) rfl rfl (aheap_range Try.underlying9 (by try simp only [go_sem, Nat.reduceBEq]; try rfl) (by simp only [isFresh_upd, isFresh_no, Nat.reduceBEq, cond_true, cond_false])) ?_
                      refine fs ?_
                      refine AWp.block ?_
                      refine AWp.loopM (fun m s => ∃ (lines_0 : List (List ByteArray)) (note_1 : ByteArray) (text_5 : ByteArray) (k_8 : Int) (w_9 : ByteArray) (t33 : List (List ByteArray)) (t34 : Int) (t35 : Int) (t48 : List ByteArray) (t49 : Int) (t50 : Int) (t64s : ByteArray) (t64p : Nat), s = (⟨126, (fset (fset (fset (fset (fset (fset (fset (fset (fset (fset (fset (fset (fun _ => AV.any) 0 (.sl (lines_0.flatMap (csl cstr)) lines_0.length false)) 1 (.v (.string note_1))) 5 (.v (.string text_5))) 8 (.v (.int .i64 k_8))) 9 (.v (.string w_9))) 33 (.sl (t33.flatMap (csl cstr)) t33.length false)) 34 (.v (.int .i64 t34))) 35 (.v (.int .i64 t35))) 48 (.sl (t48.flatMap cstr) t48.length false)) 49 (.v (.int .i64 t49))) 50 (.v (.int .i64 t50))) 64 (.adr 1 0)), ⟨(upd nofresh 1 (.iter t64s t64p)), 64⟩⟩ : St) ∧ LexBack_L3 (LexBack_L1 n1) (LexBack_L2 (LexBack_L1 n1) n2) m lines_0 note_1 text_5 k_8 w_9 t33 t34 t35 t48 t49 t50 t64s t64p = some r) FUEL ?_ ?_ ?_
                      · rintro s ⟨_, _, _, _, _, _, _, _, _, _, _, _, _, _, h⟩
                        cases h
                      · refine ⟨_, ?_, lines_0, note_1, text_5, t50, x8, t33, t34, t35, t48, t49, t50, x8, 0, rfl, hm⟩
                        exact le_canon (fun j => bif j == 1 then 257 else 0) (wk_fset _ _ (wk_adr (by try simp only [go_sem, Nat.reduceBEq]; try rfl) rfl (by simp [upd])) (wk_fset _ _ (wk_data (by try simp only [go_sem, Nat.reduceBEq]; try rfl) (.v _)) (wk_fset _ _ (wk_data (by try simp only [go_sem, Nat.reduceBEq]; try rfl) (.v _)) (wk_fset _ _ (wk_data (by try simp only [go_sem, Nat.reduceBEq]; try rfl) (CFs.sl _ _ _)) (wk_fset _ _ (wk_data (by try simp only [go_sem, Nat.reduceBEq]; try rfl) (.v _)) (wk_fset _ _ (wk_data (by try simp only [go_sem, Nat.reduceBEq]; try rfl) (.v _)) (wk_fset _ _ (wk_data (by try simp only [go_sem, Nat.reduceBEq]; try rfl) ((CFl CFs).sl _ _ _)) (wk_fset _ _ (wk_data (by try simp only [go_sem, Nat.reduceBEq]; try rfl) (.v _)) (wk_fset _ _ (wk_data (by try simp only [go_sem, Nat.reduceBEq]; try rfl) (.v _)) (wk_fset _ _ (wk_data (by try simp only [go_sem, Nat.reduceBEq]; try rfl) (.v _)) (wk_fset _ _ (wk_data (by try simp only [go_sem, Nat.reduceBEq]; try rfl) (.v _)) (wk_fset _ _ (wk_data (by try simp only [go_sem, Nat.reduceBEq]; try rfl) ((CFl CFs).sl _ _ _)) wk_none)))))))))))) (heapWk_of _ (entWk_upd (entWk_iter (by simp only [upd_beq, Nat.reduceBEq, cond_true, cond_false]; try rfl)) entWk_none) (by repeat' (first | exact inj_none | exact liv_none | refine inj_upd ?_ ?_ | refine liv_upd ?_ ?_ | exact .inl rfl | exact .inr (by decide))))
                      · rintro n3 s ⟨lines_0, note_1, text_5, k_8, w_9, t33, t34, t35, t48, t49, t50, t64s, t64p, rfl, hm⟩
                        replace hm : LexBack_B3 (LexBack_L1 n1) (LexBack_L2 (LexBack_L1 n1) n2) (LexBack_L3 (LexBack_L1 n1) (LexBack_L2 (LexBack_L1 n1) n2) n3) lines_0 note_1 text_5 k_8 w_9 t33 t34 t35 t48 t49 t50 t64s t64p = some r := hm
                        unfold LexBack_B3 at hm
                        refine sr (N' := 128) rfl ?_
                        refine split_m hm (fun h11 hm => ?_) (fun h11 hm => ?_)
                        · refine hp (id := 64) rfl rfl (aheap_next_yes (by try simp only [go_sem, Nat.reduceBEq]; try rfl) (by simp only [upd_beq, Nat.reduceBEq, cond_true, cond_false]; try rfl) (of_decide_eq_true h11)) ?_
                          refine pu rfl (by simp only [go_sem, Nat.reduceBEq]; try with_reducible rfl) ?_
                          refine fs ?_
                          refine AWp.seq' ?_
                          refine AWp.condT (by try simp only [go_sem, Nat.reduceBEq]; try rfl) ?_
                          refine AWp.skip ?_
                          refine normSeq ?_
                          refine AWp.block ?_
                          refine sr (N' := 192) rfl ?_
                          iterate 2 refine pu rfl (by simp only [go_sem, Nat.reduceBEq]; try with_reducible rfl) ?_
                          refine fs ?_
                          refine sr (N' := 256) rfl ?_
                          refine pu rfl (by simp only [go_sem, Nat.reduceBEq]; try with_reducible rfl) ?_
                          obtain ⟨r13, h12, hm⟩ := bnd hm
                          refine ARun.callQ (r := .v (.bool r13)) (by decide) (by try simp only [go_sem, Nat.reduceBEq]; try rfl) fb24 (fun H => (.cons (td (by try simp only [go_sem, Nat.reduceBEq]; try rfl) (.v _)) .nil)) (refOf_c h12) ?_
                          refine pu rfl (by simp only [go_sem, Nat.reduceBEq]; try with_reducible rfl) ?_
                          refine fs ?_
                          refine AWp.condM hm (by try simp only [go_sem, Nat.reduceBEq]; try rfl) (fun _ hm => ?_) (fun _ hm => ?_)
                          · refine sr (N' := 320) rfl ?_
                            obtain ⟨r15, h14, hm⟩ := bnd hm
                            refine ARun.callQ (r := .v (.bool r15)) (by decide) (by try simp only [go_sem, Nat.reduceBEq]; try rfl) fb11 (fun H => .nil) (lexAwake_c h14) ?_
                            refine pu rfl (by simp only [go_sem, Nat.reduceBEq]; try with_reducible rfl) ?_
                            refine fs ?_
                            refine AWp.ret ?_
                            refine retIn ?_
                            refine retThen ?_
                            refine retIn ?_
                            refine retSeq ?_
                            refine retIn ?_
                            refine retJ ?_
                            refine retThen ?_
                            refine retIn ?_
                            refine retIn ?_
                            refine retJ ?_
                            refine retThen ?_
                            refine retIn ?_
                            refine retSeq ?_
                            cases hm
                            exact ret1D (.inr rfl) Try.results5 (td (by try simp only [go_sem, Nat.reduceBEq]; try rfl) (.v _))
                          · refine AWp.skip ?_
                            refine normIn ?_
                            refine normThen ?_
                            refine ⟨_, ?_, lines_0, note_1, text_5, k_8, w_9, t33, t34, t35, t48, t49, t50, t64s, (t64p + (Utf8.decode t64s t64p).2), rfl, hm⟩
                            exact le_canon (fun j => bif j == 1 then 1 else 0) (wk_fset _ _ (wk_adr (by try simp only [go_sem, Nat.reduceBEq]; try rfl) rfl (by simp [upd])) (wk_fset _ _ (wk_data (by try simp only [go_sem, Nat.reduceBEq]; try rfl) (.v _)) (wk_fset _ _ (wk_data (by try simp only [go_sem, Nat.reduceBEq]; try rfl) (.v _)) (wk_fset _ _ (wk_data (by try simp only [go_sem, Nat.reduceBEq]; try rfl) (CFs.sl _ _ _)) (wk_fset _ _ (wk_data (by try simp only [go_sem, Nat.reduceBEq]; try rfl) (.v _)) (wk_fset _ _ (wk_data (by try simp only [go_sem, Nat.reduceBEq]; try rfl) (.v _)) (wk_fset _ _ (wk_data (by try simp only [go_sem, Nat.reduceBEq]; try rfl) ((CFl CFs).sl _ _ _)) (wk_fset _ _ (wk_data (by try simp only [go_sem, Nat.reduceBEq]; try rfl) (.v _)) (wk_fset _ _ (wk_data (by try simp only [go_sem, Nat.reduceBEq]; try rfl) (.v _)) (wk_fset _ _ (wk_data (by try simp only [go_sem, Nat.reduceBEq]; try rfl) (.v _)) (wk_fset _ _ (wk_data (by try simp only [go_sem, Nat.reduceBEq]; try rfl) (.v _)) (wk_fset _ _ (wk_data (by try simp only [go_sem, Nat.reduceBEq]; try rfl) ((CFl CFs).sl _ _ _)) wk_none)))))))))))) (heapWk_of _ (entWk_upd (entWk_iter (by simp only [upd_beq, Nat.reduceBEq, cond_true, cond_false]; try rfl)) entWk_none) (by repeat' (first | exact inj_none | exact liv_none | refine inj_upd ?_ ?_ | refine liv_upd ?_ ?_ | exact .inl rfl | exact .inr (by decide))))
                        · refine hp (id := 64) rfl rfl (aheap_next_no (by try simp only [go_sem, Nat.reduceBEq]; try rfl) (by simp only [upd_beq, Nat.reduceBEq, cond_true, cond_false]; try rfl) (of_decide_eq_false h11)) ?_
                          refine pu rfl (by simp only [go_sem, Nat.reduceBEq]; try with_reducible rfl) ?_
                          refine fs ?_
                          refine AWp.seq' ?_
                          refine AWp.condF (by try simp only [go_sem, Nat.reduceBEq]; try rfl) ?_
                          refine AWp.exit ?_
                          refine exitSeq ?_
                          refine exitThen ?_
                          refine exitHere ?_
                          refine normSeq ?_
                          refine AWp.seqJ (fun s => ∃ (lines_0 : List (List ByteArray)) (note_1 : ByteArray) (text_5 : ByteArray) (w_9 : ByteArray) (t33 : List (List ByteArray)) (t34 : Int) (t35 : Int) (t48 : List ByteArray) (t49 : Int) (t50 : Int), s = (⟨126, (fset (fset (fset (fset (fset (fset (fset (fset (fset (fset (fun _ => AV.any) 0 (.sl (lines_0.flatMap (csl cstr)) lines_0.length false)) 1 (.v (.string note_1))) 5 (.v (.string text_5))) 9 (.v (.string w_9))) 33 (.sl (t33.flatMap (csl cstr)) t33.length false)) 34 (.v (.int .i64 t34))) 35 (.v (.int .i64 t35))) 48 (.sl (t48.flatMap cstr) t48.length false)) 49 (.v (.int .i64 t49))) 50 (.v (.int .i64 t50))), ⟨nofresh, 64⟩⟩ : St) ∧ LexBack_J4 (LexBack_L1 n1) (LexBack_L2 (LexBack_L1 n1) n2) lines_0 note_1 text_5 w_9 t33 t34 t35 t48 t49 t50 = some r) ?_ ?_
                          · refine sr (N' := 192) rfl ?_
                            iterate 2 refine pu rfl (by simp only [go_sem, Nat.reduceBEq]; try with_reducible rfl) ?_
                            refine fs ?_
                            refine AWp.condM hm (by try simp only [go_sem, Nat.reduceBEq]; try rfl) (fun _ hm => ?_) (fun _ hm => ?_)
                            · refine AWp.reg 64 (N' := 256) rfl ?_
                              refine pu rfl (by simp only [go_sem, Nat.reduceBEq]; try with_reducible rfl) ?_
                              obtain ⟨s19, h18, hm⟩ := bnd hm
                              refine pu rfl (ap_sadd (by try simp only [go_sem, Nat.reduceBEq]; try rfl) (by try simp only [go_sem, Nat.reduceBEq]; try rfl) h18) ?_
                              refine pu rfl (by simp only [go_sem, Nat.reduceBEq]; try with_reducible rfl) ?_
                              refine ARun.fin ?_
                              refine normJ ?_
                              refine ⟨_, ?_, lines_0, note_1, s19, w_9, t33, t34, t35, t48, t49, t50, rfl, hm⟩
                              exact le_canon id (wk_fset _ _ (wk_data (by try simp only [go_sem, Nat.reduceBEq]; try rfl) (.v _)) (wk_fset _ _ (wk_data (by try simp only [go_sem, Nat.reduceBEq]; try rfl) (.v _)) (wk_fset _ _ (wk_data (by try simp only [go_sem, Nat.reduceBEq]; try rfl) (CFs.sl _ _ _)) (wk_fset _ _ (wk_data (by try simp only [go_sem, Nat.reduceBEq]; try rfl) (.v _)) (wk_fset _ _ (wk_data (by try simp only [go_sem, Nat.reduceBEq]; try rfl) (.v _)) (wk_fset _ _ (wk_data (by try simp only [go_sem, Nat.reduceBEq]; try rfl) ((CFl CFs).sl _ _ _)) (wk_fset _ _ (wk_data (by try simp only [go_sem, Nat.reduceBEq]; try rfl) (.v _)) (wk_fset _ _ (wk_data (by try simp only [go_sem, Nat.reduceBEq]; try rfl) (.v _)) (wk_fset _ _ (wk_data (by try simp only [go_sem, Nat.reduceBEq]; try rfl) (.v _)) (wk_fset _ _ (wk_data (by try simp only [go_sem, Nat.reduceBEq]; try rfl) ((CFl CFs).sl _ _ _)) wk_none)))))))))) heapWk0
                            · refine AWp.skip ?_
                              refine normJ ?_
                              refine ⟨_, ?_, lines_0, note_1, text_5, w_9, t33, t34, t35, t48, t49, t50, rfl, hm⟩
                              exact le_canon id (wk_fset _ _ (wk_data (by try simp only [go_sem, Nat.reduceBEq]; try rfl) (.v _)) (wk_fset _ _ (wk_data (by try simp only [go_sem, Nat.reduceBEq]; try rfl) (.v _)) (wk_fset _ _ (wk_data (by try simp only [go_sem, Nat.reduceBEq]; try rfl) (CFs.sl _ _ _)) (wk_fset _ _ (wk_data (by try simp only [go_sem, Nat.reduceBEq]; try rfl) (.v _)) (wk_fset _ _ (wk_data (by try simp only [go_sem, Nat.reduceBEq]; try rfl) (.v _)) (wk_fset _ _ (wk_data (by try simp only [go_sem, Nat.reduceBEq]; try rfl) ((CFl CFs).sl _ _ _)) (wk_fset _ _ (wk_data (by try simp only [go_sem, Nat.reduceBEq]; try rfl) (.v _)) (wk_fset _ _ (wk_data (by try simp only [go_sem, Nat.reduceBEq]; try rfl) (.v _)) (wk_fset _ _ (wk_data (by try simp only [go_sem, Nat.reduceBEq]; try rfl) (.v _)) (wk_fset _ _ (wk_data (by try simp only [go_sem, Nat.reduceBEq]; try rfl) ((CFl CFs).sl _ _ _)) wk_none)))))))))) heapWk0
                          · rintro s ⟨lines_0, note_1, text_5, w_9, t33, t34, t35, t48, t49, t50, rfl, hm⟩
                            unfold LexBack_J4 at hm
                            refine AWp.reg 64 (N' := 128) rfl ?_
                            iterate 2 refine pu rfl (by simp only [go_sem, Nat.reduceBEq]; try with_reducible rfl) ?_
                            obtain ⟨s17, h16, hm⟩ := bnd hm
                            refine pu rfl (ap_sadd (by try simp only [go_sem, Nat.reduceBEq]; try rfl) (by try simp only [go_sem, Nat.reduceBEq]; try rfl) h16) ?_
                            refine pu rfl (by simp only [go_sem, Nat.reduceBEq]; try with_reducible rfl) ?_
                            refine ARun.fin ?_
                            refine normIn ?_
                            refine normJ ?_
                            refine ⟨_, ?_, lines_0, note_1, s17, t33, t34, t35, t48, t49, t50, rfl, hm⟩
                            exact le_canon id (wk_fset _ _ (wk_data (by try simp only [go_sem, Nat.reduceBEq]; try rfl) (.v _)) (wk_fset _ _ (wk_data (by try simp only [go_sem, Nat.reduceBEq]; try rfl) (.v _)) (wk_fset _ _ (wk_data (by try simp only [go_sem, Nat.reduceBEq]; try rfl) (CFs.sl _ _ _)) (wk_fset _ _ (wk_data (by try simp only [go_sem, Nat.reduceBEq]; try rfl) (.v _)) (wk_fset _ _ (wk_data (by try simp only [go_sem, Nat.reduceBEq]; try rfl) (.v _)) (wk_fset _ _ (wk_data (by try simp only [go_sem, Nat.reduceBEq]; try rfl) ((CFl CFs).sl _ _ _)) (wk_fset _ _ (wk_data (by try simp only [go_sem, Nat.reduceBEq]; try rfl) (.v _)) (wk_fset _ _ (wk_data (by try simp only [go_sem, Nat.reduceBEq]; try rfl) (.v _)) (wk_fset _ _ (wk_data (by try simp only [go_sem, Nat.reduceBEq]; try rfl) ((CFl CFs).sl _ _ _)) wk_none))))))))) heapWk0
                  · rintro s ⟨lines_0, note_1, text_5, t33, t34, t35, t48, t49, t50, rfl, hm⟩
                    unfold LexBack_J3 at hm
                    refine AWp.reg 64 (N' := 128) rfl ?_
                    iterate 2 refine pu rfl (by simp only [go_sem, Nat.reduceBEq]; try with_reducible rfl) ?_
                    refine ARun.fin ?_
                    refine normThen ?_
                    refine ⟨_, ?_, lines_0, note_1, text_5, t33, t34, t35, t48, t49, (IntKind.i64.wrap (t50 + 1)), rfl, hm⟩
                    exact le_canon id (wk_fset _ _ (wk_data (by try simp only [go_sem, Nat.reduceBEq]; try rfl) (.v _)) (wk_fset _ _ (wk_data (by try simp only [go_sem, Nat.reduceBEq]; try rfl) (.v _)) (wk_fset _ _ (wk_data (by try simp only [go_sem, Nat.reduceBEq]; try rfl) (CFs.sl _ _ _)) (wk_fset _ _ (wk_data (by try simp only [go_sem, Nat.reduceBEq]; try rfl) (.v _)) (wk_fset _ _ (wk_data (by try simp only [go_sem, Nat.reduceBEq]; try rfl) (.v _)) (wk_fset _ _ (wk_data (by try simp only [go_sem, Nat.reduceBEq]; try rfl) ((CFl CFs).sl _ _ _)) (wk_fset _ _ (wk_data (by try simp only [go_sem, Nat.reduceBEq]; try rfl) (.v _)) (wk_fset _ _ (wk_data (by try simp only [go_sem, Nat.reduceBEq]; try rfl) (.v _)) (wk_fset _ _ (wk_data (by try simp only [go_sem, Nat.reduceBEq]; try rfl) ((CFl CFs).sl _ _ _)) wk_none))))))))) heapWk0
                · refine AWp.exit ?_
                  refine exitSeq ?_
                  refine exitThen ?_
                  refine exitHere ?_
                  refine normIn ?_
                  refine normJ ?_
                  refine ⟨_, ?_, lines_0, note_1, text_5, t33, t34, t35, rfl, hm⟩
                  exact le_canon id (wk_fset _ _ (wk_data (by try simp only [go_sem, Nat.reduceBEq]; try rfl) (.v _)) (wk_fset _ _ (wk_data (by try simp only [go_sem, Nat.reduceBEq]; try rfl) (.v _)) (wk_fset _ _ (wk_data (by try simp only [go_sem, Nat.reduceBEq]; try rfl) ((CFl CFs).sl _ _ _)) (wk_fset _ _ (wk_data (by try simp only [go_sem, Nat.reduceBEq]; try rfl) (.v _)) (wk_fset _ _ (wk_data (by try simp only [go_sem, Nat.reduceBEq]; try rfl) (.v _)) (wk_fset _ _ (wk_data (by try simp only [go_sem, Nat.reduceBEq]; try rfl) ((CFl CFs).sl _ _ _)) wk_none)))))) heapWk0
        · rintro s ⟨lines_0, note_1, text_5, t33, t34, t35, rfl, hm⟩
          unfold LexBack_J1 at hm
          refine AWp.reg 64 (N' := 128) rfl ?_
          iterate 2 refine pu rfl (by simp only [go_sem, Nat.reduceBEq]; try with_reducible rfl) ?_
          refine ARun.fin ?_
          refine normThen ?_
          refine ⟨_, ?_, lines_0, note_1, text_5, t33, t34, (IntKind.i64.wrap (t35 + 1)), rfl, hm⟩
          exact le_canon id (wk_fset _ _ (wk_data (by try simp only [go_sem, Nat.reduceBEq]; try rfl) (.v _)) (wk_fset _ _ (wk_data (by try simp only [go_sem, Nat.reduceBEq]; try rfl) (.v _)) (wk_fset _ _ (wk_data (by try simp only [go_sem, Nat.reduceBEq]; try rfl) ((CFl CFs).sl _ _ _)) (wk_fset _ _ (wk_data (by try simp only [go_sem, Nat.reduceBEq]; try rfl) (.v _)) (wk_fset _ _ (wk_data (by try simp only [go_sem, Nat.reduceBEq]; try rfl) (.v _)) (wk_fset _ _ (wk_data (by try simp only [go_sem, Nat.reduceBEq]; try rfl) ((CFl CFs).sl _ _ _)) wk_none)))))) heapWk0
      · refine AWp.exit ?_
        refine exitSeq ?_
        refine exitThen ?_
        refine exitHere ?_
        refine normSeq ?_
        refine AWp.seq' ?_
        refine sr (N' := 192) rfl ?_
        iterate 3 refine pu rfl (by simp only [go_sem, Nat.reduceBEq]; try with_reducible rfl) ?_
        refine fs ?_
        refine AWp.block ?_
        refine AWp.loopM (fun m s => ∃ (lines_0 : List (List ByteArray)) (note_1 : ByteArray) (text_5 : ByteArray) (t82 : Int) (t83 : Int), s = (⟨126, (fset (fset (fset (fset (fset (fun _ => AV.any) 0 (.sl (lines_0.flatMap (csl cstr)) lines_0.length false)) 1 (.v (.string note_1))) 5 (.v (.string text_5))) 82 (.v (.int .i64 t82))) 83 (.v (.int .i64 t83))), ⟨nofresh, 64⟩⟩ : St) ∧ LexBack_L4 m lines_0 note_1 text_5 t82 t83 = some r) FUEL ?_ ?_ ?_
        · rintro s ⟨_, _, _, _, _, _, h⟩
          cases h
        · refine ⟨_, ?_, lines_0, note_1, text_5, (note_1.size : Int), 0, rfl, hm⟩
          exact le_canon id (wk_fset _ _ (wk_data (by try simp only [go_sem, Nat.reduceBEq]; try rfl) (.v _)) (wk_fset _ _ (wk_data (by try simp only [go_sem, Nat.reduceBEq]; try rfl) (.v _)) (wk_fset _ _ (wk_data (by try simp only [go_sem, Nat.reduceBEq]; try rfl) (.v _)) (wk_fset _ _ (wk_data (by try simp only [go_sem, Nat.reduceBEq]; try rfl) (.v _)) (wk_fset _ _ (wk_data (by try simp only [go_sem, Nat.reduceBEq]; try rfl) ((CFl CFs).sl _ _ _)) wk_none))))) heapWk0
        · rintro n4 s ⟨lines_0, note_1, text_5, t82, t83, rfl, hm⟩
          replace hm : LexBack_B4 (LexBack_L4 n4) lines_0 note_1 text_5 t82 t83 = some r := hm
          unfold LexBack_B4 at hm
          refine sr (N' := 128) rfl ?_
          refine pu rfl (by simp only [go_sem, Nat.reduceBEq]; try with_reducible rfl) ?_
          refine fs ?_
          refine AWp.seq' ?_
          refine AWp.condM hm (by try simp only [go_sem, Nat.reduceBEq]; try rfl) (fun _ hm => ?_) (fun _ hm => ?_)
          · refine AWp.skip ?_
            refine normSeq ?_
            refine AWp.seq' ?_
            refine AWp.block ?_
            refine sr (N' := 192) rfl ?_
            iterate 2 refine pu rfl (by simp only [go_sem, Nat.reduceBEq]; try with_reducible rfl) ?_
            refine fs ?_
            refine sr (N' := 256) rfl ?_
            iterate 2 refine pu rfl (by simp only [go_sem, Nat.reduceBEq]; try with_reducible rfl) ?_
            obtain ⟨b23, h22, hm⟩ := bnd hm
            refine pu rfl (ap_sidx Try.underlying9 (by try simp only [go_sem, Nat.reduceBEq]; try rfl) (by try simp only [go_sem, Nat.reduceBEq]; try rfl) h22) ?_
            refine pu rfl (by simp only [go_sem, Nat.reduceBEq]; try with_reducible rfl) ?_
            refine fs ?_
            refine AWp.condM hm (by try simp only [go_sem, Nat.reduceBEq]; try rfl) (fun _ hm => ?_) (fun _ hm => ?_)
            · refine sr (N' := 320) rfl ?_
              obtain ⟨r25, h24, hm⟩ := bnd hm
              refine ARun.callQ (r := .v (.bool r25)) (by decide) (by try simp only [go_sem, Nat.reduceBEq]; try rfl) fb11 (fun H => .nil) (lexAwake_c h24) ?_
              refine pu rfl (by simp only [go_sem, Nat.reduceBEq]; try with_reducible rfl) ?_
              refine fs ?_
              refine AWp.ret ?_
              refine retIn ?_
              refine retSeq ?_
              refine retThen ?_
              refine retIn ?_
              refine retSeq ?_
              cases hm
              exact ret1D (.inr rfl) Try.results5 (td (by try simp only [go_sem, Nat.reduceBEq]; try rfl) (.v _))
            · refine AWp.skip ?_
              refine normIn ?_
              refine normSeq ?_
              refine AWp.reg 64 (N' := 320) rfl ?_
              iterate 2 refine pu rfl (by simp only [go_sem, Nat.reduceBEq]; try with_reducible rfl) ?_
              refine ARun.fin ?_
              refine normThen ?_
              refine ⟨_, ?_, lines_0, note_1, text_5, t82, (IntKind.i64.wrap (t83 + 1)), rfl, hm⟩
              exact le_canon id (wk_fset _ _ (wk_data (by try simp only [go_sem, Nat.reduceBEq]; try rfl) (.v _)) (wk_fset _ _ (wk_data (by try simp only [go_sem, Nat.reduceBEq]; try rfl) (.v _)) (wk_fset _ _ (wk_data (by try simp only [go_sem, Nat.reduceBEq]; try rfl) (.v _)) (wk_fset _ _ (wk_data (by try simp only [go_sem, Nat.reduceBEq]; try rfl) (.v _)) (wk_fset _ _ (wk_data (by try simp only [go_sem, Nat.reduceBEq]; try rfl) ((CFl CFs).sl _ _ _)) wk_none))))) heapWk0
          · refine AWp.exit ?_
            refine exitSeq ?_
            refine exitThen ?_
            refine exitHere ?_
            refine normSeq ?_
            refine sr (N' := 192) rfl ?_
            refine pu rfl (by simp only [go_sem, Nat.reduceBEq]; try with_reducible rfl) ?_
            obtain ⟨⟨r27, r28, r29⟩, h26, hm⟩ := bnd hm
            refine ARun.callQ (r := .tup [.sl (r27.flatMap (csl cstr)) r27.length false, .v (.int .i64 r28), .v (.int .i64 r29)]) (by decide) (by try simp only [go_sem, Nat.reduceBEq]; try rfl) fb12 (fun H => (.cons (td (by try simp only [go_sem, Nat.reduceBEq]; try rfl) (.v _)) .nil)) (lexLines_c h26) ?_
            iterate 7 refine pu rfl (by simp only [go_sem, Nat.reduceBEq]; try with_reducible rfl) ?_
            refine fs ?_
            refine sr (N' := 256) rfl ?_
            refine pu rfl (by simp only [go_sem, Nat.reduceBEq]; try with_reducible rfl) ?_
            obtain ⟨s31, h30, hm⟩ := bnd hm
            refine pu rfl (ap_sadd (by try simp only [go_sem, Nat.reduceBEq]; try rfl) (by try simp only [go_sem, Nat.reduceBEq]; try rfl) h30) ?_
            refine pu rfl (by simp only [go_sem, Nat.reduceBEq]; try with_reducible rfl) ?_
            obtain ⟨s33, h32, hm⟩ := bnd hm
            refine pu rfl (ap_sadd (by try simp only [go_sem, Nat.reduceBEq]; try rfl) (by try simp only [go_sem, Nat.reduceBEq]; try rfl) h32) ?_
            obtain ⟨⟨r35, r36, r37⟩, h34, hm⟩ := bnd hm
            refine ARun.callQ (r := .tup [.sl (r35.flatMap (csl cstr)) r35.length false, .v (.int .i64 r36), .v (.int .i64 r37)]) (by decide) (by try simp only [go_sem, Nat.reduceBEq]; try rfl) fb12 (fun H => (.cons (td (by try simp only [go_sem, Nat.reduceBEq]; try rfl) (.v _)) .nil)) (lexLines_c h34) ?_
            iterate 7 refine pu rfl (by simp only [go_sem, Nat.reduceBEq]; try with_reducible rfl) ?_
            refine fs ?_
            refine sr (N' := 320) rfl ?_
            iterate 9 (first | refine pu rfl (by simp only [go_sem, Nat.reduceBEq]; try with_reducible rfl) ?_ | refine pg rfl rfl (by simp only [go_sem, Nat.reduceBEq]; try with_reducible rfl) (by intro hb; simp only [go_sem, Nat.reduceBEq, hb, Bool.true_and]; try with_reducible rfl) ?_)
            obtain ⟨r39, h38, hm⟩ := bnd hm
            refine ARun.callQG (r := .v (.bool r39)) (by decide) rfl (by simp only [go_sem, Nat.reduceBEq]; try with_reducible rfl) (by try simp only [go_sem, Nat.reduceBEq]; try rfl) fb14 (fun hb H => (.cons (td (by try simp only [go_sem, Nat.reduceBEq, hb, Bool.true_and]; try rfl) ((CFl CFs).sl _ _ _)) (.cons (td (by try simp only [go_sem, Nat.reduceBEq, hb, Bool.true_and]; try rfl) ((CFl CFs).sl _ _ _)) .nil))) (fun hb => refWords_c (gopt_t h38 hb)) ?_
            iterate 4 (first | refine pu rfl (by simp only [go_sem, Nat.reduceBEq]; try with_reducible rfl) ?_ | refine pg rfl rfl (by simp only [go_sem, Nat.reduceBEq]; try with_reducible rfl) (by intro hb; simp only [go_sem, Nat.reduceBEq, hb, Bool.true_and]; try with_reducible rfl) ?_)
            obtain ⟨r41, h40, hm⟩ := bnd hm
            refine ARun.callQG (r := .v (.bool r41)) (by decide) rfl (by simp only [go_sem, Nat.reduceBEq]; try with_reducible rfl) (by try simp only [go_sem, Nat.reduceBEq]; try rfl) fb14 (fun hb H => (.cons (td (by try simp only [go_sem, Nat.reduceBEq, hb, Bool.true_and]; try rfl) ((CFl CFs).sl _ _ _)) (.cons (td (by try simp only [go_sem, Nat.reduceBEq, hb, Bool.true_and]; try rfl) ((CFl CFs).sl _ _ _)) .nil))) (fun hb => refWords_c (gopt_t h40 hb)) ?_
            iterate 2 refine pu rfl (by simp only [go_sem, Nat.reduceBEq]; try with_reducible rfl) ?_
            obtain ⟨r43, h42, hm⟩ := bnd hm
            refine ARun.callQG (r := .v (.bool r43)) (by decide) rfl (by simp only [go_sem, Nat.reduceBEq]; try with_reducible rfl) (by try simp only [go_sem, Nat.reduceBEq]; try rfl) fb11 (fun hb H => .nil) (fun hb => lexAwake_c (gopt_t h42 hb)) ?_
            iterate 2 refine pu rfl (by simp only [go_sem, Nat.reduceBEq]; try with_reducible rfl) ?_
            refine fs ?_
            refine AWp.ret ?_
            cases hm
            exact ret1D (.inr rfl) Try.results5 (td (by try simp only [go_sem, Nat.reduceBEq]; try rfl) (.v _))
def LexHex_B1 (rec1 : ByteArray → Int → ByteArray → ByteArray → Int → List (List ByteArray) → Int → ByteArray → Int → Option (Bool)) (s_0 : ByteArray) (n_1 : Int) (h_5 : ByteArray) (t_6 : ByteArray) (e_7 : Int) (l_8 : List (List ByteArray)) (f_10 : Int) (word_11 : ByteArray) (m_12 : Int) : Option (Bool) :=
  (bif ((decide (0 < m_12)) || (decide (word_11 = ⟨#[]⟩))) then
    ((sadd (bstr [(IntKind.u8.wrap (IntKind.u64.wrap (48 + (Int.tmod m_12 10))))]) word_11).bind fun s13 =>
    rec1 s_0 n_1 h_5 t_6 e_7 l_8 f_10 s13 (IntKind.u64.wrap (Int.tdiv m_12 10)))
  else
    ((lexNumber_m word_11).bind fun ⟨r15, r16⟩ =>
    ((lexValue_m word_11).bind fun r18 =>
    ((lexIsNumber_m r18).bind fun ⟨r20, r21⟩ =>
    ((gopt ((((l_8.length : Int) != 1) == false) && ((!decide (s_0 = ⟨#[]⟩)) == true)) [] (idx l_8 0)).bind fun x23 =>
    ((gopt (((((l_8.length : Int) != 1) == false) && ((!decide (s_0 = ⟨#[]⟩)) == true)) && (((x23.length : Int) != 1) == false)) [] (idx l_8 0)).bind fun x25 =>
    ((gopt (((((l_8.length : Int) != 1) == false) && ((!decide (s_0 = ⟨#[]⟩)) == true)) && (((x23.length : Int) != 1) == false)) ⟨#[]⟩ (idx x25 0)).bind fun x27 =>
    (bif (((l_8.length : Int) != 1) || ((!decide (s_0 = ⟨#[]⟩)) && (((x23.length : Int) != 1) || (!decide (x27 = h_5))))) then
      some false
    else
      ((gopt (((((((((decide (t_6 = s_0)) && (e_7 == 0)) && (f_10 == 0)) && ((h_5.size : Int) == (IntKind.i64.wrap (2 * (s_0.size : Int))))) && (r15 == n_1)) && (r16 == 0)) && (r20 == n_1)) && r21) == true) false (lexAwake_m )).bind fun r29 =>
      some (((((((((decide (t_6 = s_0)) && (e_7 == 0)) && (f_10 == 0)) && ((h_5.size : Int) == (IntKind.i64.wrap (2 * (s_0.size : Int))))) && (r15 == n_1)) && (r16 == 0)) && (r20 == n_1)) && r21) && r29))))))))))
def LexHex_L1 : Nat → ByteArray → Int → ByteArray → ByteArray → Int → List (List ByteArray) → Int → ByteArray → Int → Option (Bool)
  | 0 => fun _ _ _ _ _ _ _ _ _ => none
  | n + 1 => LexHex_B1 (LexHex_L1 n)
def LexHex_m (s_0 : ByteArray) (n_1 : Int) : Option (Bool) :=
  (bif (decide (300 < (s_0.size : Int))) then
    ((lexAwake_m ).bind fun r2 =>
    some r2)
  else
    ((lexHex_m s_0).bind fun r4 =>
    ((lexUnhex_m r4).bind fun ⟨r6, r7⟩ =>
    ((lexLines_m r4).bind fun ⟨r9, r10, r11⟩ =>
    LexHex_L1 FUEL s_0 n_1 r4 r6 r7 r9 r11 ⟨#[]⟩ n_1))))
theorem LexHex_c {s_0 : ByteArray} {n_1 : Int} {r : Bool} (hm : LexHex_m s_0 n_1 = some r) : PureC Try.prog 6 [.v (.string s_0), .v (.int .u64 n_1)] (.v (.bool r)) := by
  refine PureC.of_body Try.func6 rfl ?_
  simp only [Try.ntmps6, List.length_cons, List.length_nil, Nat.reduceAdd, Nat.reduceSub, empty_eq]
  unfold LexHex_m at hm
  refine sr (N' := 64) rfl ?_
  refine pu rfl (by simp only [go_sem, Nat.reduceBEq]; try with_reducible rfl) ?_
  refine fs ?_
  refine AWp.seq' ?_
  refine sr (N' := 128) rfl ?_
  iterate 3 refine pu rfl (by simp only [go_sem, Nat.reduceBEq]; try with_reducible rfl) ?_
  refine fs ?_
  refine AWp.condM hm (by try simp only [go_sem, Nat.reduceBEq]; try rfl) (fun _ hm => ?_) (fun _ hm => ?_)
  · refine sr (N' := 192) rfl ?_
    obtain ⟨r2, h1, hm⟩ := bnd hm
    refine ARun.callQ (r := .v (.bool r2)) (by decide) (by try simp only [go_sem, Nat.reduceBEq]; try rfl) fb11 (fun H => .nil) (lexAwake_c h1) ?_
    refine pu rfl (by simp only [go_sem, Nat.reduceBEq]; try with_reducible rfl) ?_
    refine fs ?_
    refine AWp.ret ?_
    refine retSeq ?_
    cases hm
    exact ret1D (.inr rfl) Try.results6 (td (by try simp only [go_sem, Nat.reduceBEq]; try rfl) (.v _))
  · refine AWp.skip ?_
    refine normSeq ?_
    refine sr (N' := 192) rfl ?_
    refine pu rfl (by simp only [go_sem, Nat.reduceBEq]; try with_reducible rfl) ?_
    obtain ⟨r4, h3, hm⟩ := bnd hm
    refine ARun.callQ (r := .v (.string r4)) (by decide) (by try simp only [go_sem, Nat.reduceBEq]; try rfl) fb22 (fun H => (.cons (td (by try simp only [go_sem, Nat.reduceBEq]; try rfl) (.v _)) .nil)) (lexHex_c h3) ?_
    refine pu rfl (by simp only [go_sem, Nat.reduceBEq]; try with_reducible rfl) ?_
    refine fs ?_
    refine sr (N' := 256) rfl ?_
    refine pu rfl (by simp only [go_sem, Nat.reduceBEq]; try with_reducible rfl) ?_
    obtain ⟨⟨r6, r7⟩, h5, hm⟩ := bnd hm
    refine ARun.callQ (r := .tup [.v (.string r6), .v (.int .i64 r7)]) (by decide) (by try simp only [go_sem, Nat.reduceBEq]; try rfl) fb20 (fun H => (.cons (td (by try simp only [go_sem, Nat.reduceBEq]; try rfl) (.v _)) .nil)) (lexUnhex_c h5) ?_
    iterate 5 refine pu rfl (by simp only [go_sem, Nat.reduceBEq]; try with_reducible rfl) ?_
    refine fs ?_
    refine sr (N' := 320) rfl ?_
    refine pu rfl (by simp only [go_sem, Nat.reduceBEq]; try with_reducible rfl) ?_
    obtain ⟨⟨r9, r10, r11⟩, h8, hm⟩ := bnd hm
    refine ARun.callQ (r := .tup [.sl (r9.flatMap (csl cstr)) r9.length false, .v (.int .i64 r10), .v (.int .i64 r11)]) (by decide) (by try simp only [go_sem, Nat.reduceBEq]; try rfl) fb12 (fun H => (.cons (td (by try simp only [go_sem, Nat.reduceBEq]; try rfl) (.v _)) .nil)) (lexLines_c h8) ?_
    iterate 7 refine pu rfl (by simp only [go_sem, Nat.reduceBEq]; try with_reducible rfl) ?_
    refine fs ?_
    refine sr (N' := 384) rfl ?_
    refine pu rfl (by simp only [go_sem, Nat.reduceBEq]; try with_reducible rfl) ?_
    refine fs ?_
    refine AWp.seq' ?_
    refine sr (N' := 448) rfl ?_
    iterate 2 refine pu rfl (by simp only [go_sem, Nat.reduceBEq]; try with_reducible rfl) ?_
    refine fs ?_
    refine AWp.block ?_
    refine AWp.loopM (fun m s => ∃ (s_0 : ByteArray) (n_1 : Int) (h_5 : ByteArray) (t_6 : ByteArray) (e_7 : Int) (l_8 : List (List ByteArray)) (f_10 : Int) (word_11 : ByteArray) (m_12 : Int), s = (⟨124, (fset (fset (fset (fset (fset (fset (fset (fset (fset (fun _ => AV.any) 0 (.v (.string s_0))) 1 (.v (.int .u64 n_1))) 5 (.v (.string h_5))) 6 (.v (.string t_6))) 7 (.v (.int .i64 e_7))) 8 (.sl (l_8.flatMap (csl cstr)) l_8.length false)) 10 (.v (.int .i64 f_10))) 11 (.v (.string word_11))) 12 (.v (.int .u64 m_12))), ⟨nofresh, 64⟩⟩ : St) ∧ LexHex_L1 m s_0 n_1 h_5 t_6 e_7 l_8 f_10 word_11 m_12 = some r) FUEL ?_ ?_ ?_
    · rintro s ⟨_, _, _, _, _, _, _, _, _, _, h⟩
      cases h
    · refine ⟨_, ?_, s_0, n_1, r4, r6, r7, r9, r11, ⟨#[]⟩, n_1, rfl, hm⟩
      exact le_canon id (wk_fset _ _ (wk_data (by try simp only [go_sem, Nat.reduceBEq]; try rfl) (.v _)) (wk_fset _ _ (wk_data (by try simp only [go_sem, Nat.reduceBEq]; try rfl) (.v _)) (wk_fset _ _ (wk_data (by try simp only [go_sem, Nat.reduceBEq]; try rfl) (.v _)) (wk_fset _ _ (wk_data (by try simp only [go_sem, Nat.reduceBEq]; try rfl) ((CFl CFs).sl _ _ _)) (wk_fset _ _ (wk_data (by try simp only [go_sem, Nat.reduceBEq]; try rfl) (.v _)) (wk_fset _ _ (wk_data (by try simp only [go_sem, Nat.reduceBEq]; try rfl) (.v _)) (wk_fset _ _ (wk_data (by try simp only [go_sem, Nat.reduceBEq]; try rfl) (.v _)) (wk_fset _ _ (wk_data (by try simp only [go_sem, Nat.reduceBEq]; try rfl) (.v _)) (wk_fset _ _ (wk_data (by try simp only [go_sem, Nat.reduceBEq]; try rfl) (.v _)) wk_none))))))))) heapWk0
    · rintro n1 s ⟨s_0, n_1, h_5, t_6, e_7, l_8, f_10, word_11, m_12, rfl, hm⟩
      replace hm : LexHex_B1 (LexHex_L1 n1) s_0 n_1 h_5 t_6 e_7 l_8 f_10 word_11 m_12 = some r := hm
      unfold LexHex_B1 at hm
      refine AWp.seq' ?_
      refine sr (N' := 128) rfl ?_
      iterate 6 (first | refine pu rfl (by simp only [go_sem, Nat.reduceBEq]; try with_reducible rfl) ?_ | refine pg rfl rfl (by simp only [go_sem, Nat.reduceBEq]; try with_reducible rfl) (by intro hb; simp only [go_sem, Nat.reduceBEq, hb, Bool.true_and]; try with_reducible rfl) ?_)
      refine fs ?_
      refine AWp.condM hm (by try simp only [go_sem, Nat.reduceBEq]; try rfl) (fun _ hm => ?_) (fun _ hm => ?_)
      · refine AWp.skip ?_
        refine normSeq ?_
        refine AWp.seq' ?_
        refine AWp.block ?_
        refine AWp.reg 64 (N' := 192) rfl ?_
        iterate 4 refine pu rfl (by simp only [go_sem, Nat.reduceBEq, Int.reduceEq, Int.reduceLE]; try with_reducible rfl) ?_
        refine hp (id := 132) rfl rfl (ah_list (CFi .u8) (l := [(IntKind.u8.wrap (IntKind.u64.wrap (48 + (Int.tmod m_12 10))))]) Try.underlying48 sz5 zc5 (by simp only [isFresh_upd, isFresh_no, Nat.reduceBEq, cond_true, cond_false]) (by decide) (by decide) (by decide) (by simp only [go_sem, Nat.reduceBEq]; try rfl) (by kernel_rfl)) ?_
        refine pu rfl (ap_bstro Try.underlying48 Try.underlying9 Try.underlying5 (by try simp only [go_sem, Nat.reduceBEq]; try rfl) (by simp only [upd_beq, Nat.reduceBEq, cond_true, cond_false]; try rfl) (by first | rfl | omega)) ?_
        refine pu rfl (by simp only [go_sem, Nat.reduceBEq]; try with_reducible rfl) ?_
        obtain ⟨s13, h12, hm⟩ := bnd hm
        refine pu rfl (ap_sadd (by try simp only [go_sem, Nat.reduceBEq]; try rfl) (by try simp only [go_sem, Nat.reduceBEq]; try rfl) h12) ?_
        refine pu rfl (by simp only [go_sem, Nat.reduceBEq]; try with_reducible rfl) ?_
        refine ARun.fin ?_
        refine normIn ?_
        refine normSeq ?_
        refine AWp.reg 64 (N' := 256) rfl ?_
        iterate 3 refine pu rfl (by simp only [go_sem, Nat.reduceBEq, Int.reduceEq, Int.reduceLE]; try with_reducible rfl) ?_
        refine ARun.fin ?_
        refine normThen ?_
        refine ⟨_, ?_, s_0, n_1, h_5, t_6, e_7, l_8, f_10, s13, (IntKind.u64.wrap (Int.tdiv m_12 10)), rfl, hm⟩
        exact le_canon id (wk_fset _ _ (wk_data (by try simp only [go_sem, Nat.reduceBEq]; try rfl) (.v _)) (wk_fset _ _ (wk_data (by try simp only [go_sem, Nat.reduceBEq]; try rfl) (.v _)) (wk_fset _ _ (wk_data (by try simp only [go_sem, Nat.reduceBEq]; try rfl) (.v _)) (wk_fset _ _ (wk_data (by try simp only [go_sem, Nat.reduceBEq]; try rfl) ((CFl CFs).sl _ _ _)) (wk_fset _ _ (wk_data (by try simp only [go_sem, Nat.reduceBEq]; try rfl) (.v _)) (wk_fset _ _ (wk_data (by try simp only [go_sem, Nat.reduceBEq]; try rfl) (.v _)) (wk_fset _ _ (wk_data (by try simp only [go_sem, Nat.reduceBEq]; try rfl) (.v _)) (wk_fset _ _ (wk_data (by try simp only [go_sem, Nat.reduceBEq]; try rfl) (.v _)) (wk_fset _ _ (wk_data (by try simp only [go_sem, Nat.reduceBEq]; try rfl) (.v _)) wk_none))))))))) heapWk0
      · refine AWp.exit ?_
        refine exitSeq ?_
        refine exitThen ?_
        refine exitHere ?_
        refine normSeq ?_
        refine sr (N' := 192) rfl ?_
        refine pu rfl (by simp only [go_sem, Nat.reduceBEq]; try with_reducible rfl) ?_
        obtain ⟨⟨r15, r16⟩, h14, hm⟩ := bnd hm
        refine ARun.callQ (r := .tup [.v (.int .u64 r15), .v (.int .i64 r16)]) (by decide) (by try simp only [go_sem, Nat.reduceBEq]; try rfl) fb16 (fun H => (.cons (td (by try simp only [go_sem, Nat.reduceBEq]; try rfl) (.v _)) .nil)) (lexNumber_c h14) ?_
        iterate 5 refine pu rfl (by simp only [go_sem, Nat.reduceBEq]; try with_reducible rfl) ?_
        refine fs ?_
        refine sr (N' := 256) rfl ?_
        refine pu rfl (by simp only [go_sem, Nat.reduceBEq]; try with_reducible rfl) ?_
        obtain ⟨r18, h17, hm⟩ := bnd hm
        refine ARun.callQ (r := GA.av r18) (by decide) (by try simp only [go_sem, Nat.reduceBEq]; try rfl) fb19 (fun H => (.cons (td (by try simp only [go_sem, Nat.reduceBEq]; try rfl) (.v _)) .nil)) (lexValue_c h17) ?_
        obtain ⟨⟨r20, r21⟩, h19, hm⟩ := bnd hm
        refine ARun.callQ (r := .tup [.v (.int .u64 r20), .v (.bool r21)]) (by decide) (by try simp only [go_sem, Nat.reduceBEq]; try rfl) fb18 (fun H => (.cons (td (by try simp only [go_sem, Nat.reduceBEq]; try rfl) (GA.data _)) .nil)) (lexIsNumber_c h19) ?_
        iterate 5 refine pu rfl (by simp only [go_sem, Nat.reduceBEq]; try with_reducible rfl) ?_
        refine fs ?_
        refine AWp.seq' ?_
        refine sr (N' := 320) rfl ?_
        iterate 8 (first | refine pu rfl (by simp only [go_sem, Nat.reduceBEq]; try with_reducible rfl) ?_ | refine pg rfl rfl (by simp only [go_sem, Nat.reduceBEq]; try with_reducible rfl) (by intro hb; simp only [go_sem, Nat.reduceBEq, hb, Bool.true_and]; try with_reducible rfl) ?_)
        obtain ⟨x23, h22, hm⟩ := bnd hm
        refine pg rfl rfl (by simp only [go_sem, Nat.reduceBEq]; try with_reducible rfl) (fun hb => (ap_idx (CFl CFs) (by decide) Try.underlying23 sz45 (by try simp only [go_sem, Nat.reduceBEq, hb, Bool.true_and]; try rfl) rfl (by try simp only [go_sem, Nat.reduceBEq, hb, Bool.true_and]; try rfl) (gopt_t h22 hb))) ?_
        iterate 5 refine pg rfl rfl (by simp only [go_sem, Nat.reduceBEq]; try with_reducible rfl) (by intro hb; simp only [go_sem, Nat.reduceBEq, hb, Bool.true_and]; try with_reducible rfl) ?_
        obtain ⟨x25, h24, hm⟩ := bnd hm
        refine pg rfl rfl (by simp only [go_sem, Nat.reduceBEq]; try with_reducible rfl) (fun hb => (ap_idx (CFl CFs) (by decide) Try.underlying23 sz45 (by try simp only [go_sem, Nat.reduceBEq, hb, Bool.true_and]; try rfl) rfl (by try simp only [go_sem, Nat.reduceBEq, hb, Bool.true_and]; try rfl) (gopt_t h24 hb))) ?_
        refine pg rfl rfl (by simp only [go_sem, Nat.reduceBEq]; try with_reducible rfl) (by intro hb; simp only [go_sem, Nat.reduceBEq, hb, Bool.true_and]; try with_reducible rfl) ?_
        obtain ⟨x27, h26, hm⟩ := bnd hm
        refine pg rfl rfl (by simp only [go_sem, Nat.reduceBEq]; try with_reducible rfl) (fun hb => (ap_idx CFs (by decide) Try.underlying45 sz9 (by try simp only [go_sem, Nat.reduceBEq, hb, Bool.true_and]; try rfl) rfl (by try simp only [go_sem, Nat.reduceBEq, hb, Bool.true_and]; try rfl) (gopt_t h26 hb))) ?_
        iterate 6 (first | refine pu rfl (by simp only [go_sem, Nat.reduceBEq]; try with_reducible rfl) ?_ | refine pg rfl rfl (by simp only [go_sem, Nat.reduceBEq]; try with_reducible rfl) (by intro hb; simp only [go_sem, Nat.reduceBEq, hb, Bool.true_and]; try with_reducible rfl) ?_)
        refine fs ?_
        refine AWp.condM hm (by try simp only [go_sem, Nat.reduceBEq]; try rfl) (fun _ hm => ?_) (fun _ hm => ?_)
        · refine sr (N' := 384) rfl ?_
          refine pu rfl (by simp only [go_sem, Nat.reduceBEq]; try with_reducible rfl) ?_
          refine fs ?_
          refine AWp.ret ?_
          refine retSeq ?_
          cases hm
          exact ret1D (.inr rfl) Try.results6 (td (by try simp only [go_sem, Nat.reduceBEq]; try rfl) (.v _))
        · refine AWp.skip ?_
          refine normSeq ?_
          refine sr (N' := 384) rfl ?_
          iterate 37 (first | refine pu rfl (by simp only [go_sem, Nat.reduceBEq]; try with_reducible rfl) ?_ | refine pg rfl rfl (by simp only [go_sem, Nat.reduceBEq]; try with_reducible rfl) (by intro hb; simp only [go_sem, Nat.reduceBEq, hb, Bool.true_and]; try with_reducible rfl) ?_)
          obtain ⟨r29, h28, hm⟩ := bnd hm
          refine ARun.callQG (r := .v (.bool r29)) (by decide) rfl (by simp only [go_sem, Nat.reduceBEq]; try with_reducible rfl) (by try simp only [go_sem, Nat.reduceBEq]; try rfl) fb11 (fun hb H => .nil) (fun hb => lexAwake_c (gopt_t h28 hb)) ?_
          iterate 2 refine pu rfl (by simp only [go_sem, Nat.reduceBEq]; try with_reducible rfl) ?_
          refine fs ?_
          refine AWp.ret ?_
          cases hm
          exact ret1D (.inr rfl) Try.results6 (td (by try simp only [go_sem, Nat.reduceBEq]; try rfl) (.v _))
def LexParts_B1 (rec1 : Int → Int → Int → Int → ByteArray → Nat → Option (Bool)) (m_9 : Int) (k_12 : Int) (g_13 : Int) (runes_14 : Int) (t62s : ByteArray) (t62p : Nat) : Option (Bool) :=
  (bif (decide (t62p < t62s.size)) then
    rec1 m_9 k_12 g_13 (IntKind.i64.wrap (runes_14 + 1)) t62s (t62p + (Utf8.decode t62s t62p).2)
  else
    ((gopt (((g_13 == 2) && (k_12 == (IntKind.i64.wrap (runes_14 + m_9)))) == true) false (lexAwake_m )).bind fun r23 =>
    some (((g_13 == 2) && (k_12 == (IntKind.i64.wrap (runes_14 + m_9)))) && r23)))
def LexParts_L1 : Nat → Int → Int → Int → Int → ByteArray → Nat → Option (Bool)
  | 0 => fun _ _ _ _ _ _ => none
  | n + 1 => LexParts_B1 (LexParts_L1 n)
def LexParts_m (a_0 : ByteArray) (b_1 : ByteArray) : Option (Bool) :=
  (bif ((decide (200 < (a_0.size : Int))) || (decide (200 < (b_1.size : Int)))) then
    ((lexAwake_m ).bind fun r2 =>
    some r2)
  else
    ((lexLines_m a_0).bind fun ⟨r4, r5, r6⟩ =>
    ((lexLines_m b_1).bind fun ⟨r8, r9, r10⟩ =>
    ((sadd a_0 ⟨#[10]⟩).bind fun s12 =>
    ((sadd s12 b_1).bind fun s14 =>
    ((lexLines_m s14).bind fun ⟨r16, r17, r18⟩ =>
    (bif (r6 != 0) then
      ((gopt (((r18 == 2) && (r17 == r5)) == true) false (lexAwake_m )).bind fun r20 =>
      some (((r18 == 2) && (r17 == r5)) && r20))
    else
      (bif (r10 != 0) then
        LexParts_L1 FUEL r9 r17 r18 1 a_0 0
      else
        (bif (r18 == 0) then
          ((app [] r4).bind fun l26 =>
          ((app l26 r8).bind fun l28 =>
          ((refWords_m r16 l28).bind fun r30 =>
          ((gopt (r30 == true) false (lexAwake_m )).bind fun r32 =>
          some (r30 && r32)))))
        else
          some false)))))))))
theorem LexParts_c {a_0 : ByteArray} {b_1 : ByteArray} {r : Bool} (hm : LexParts_m a_0 b_1 = some r) : PureC Try.prog 7 [.v (.string a_0), .v (.string b_1)] (.v (.bool r)) := by
  refine PureC.of_body Try.func7 rfl ?_
  simp only [Try.ntmps7, List.length_cons, List.length_nil, Nat.reduceAdd, Nat.reduceSub, empty_eq]
  unfold LexParts_m at hm
  refine sr (N' := 64) rfl ?_
  refine pu rfl (by simp only [go_sem, Nat.reduceBEq]; try with_reducible rfl) ?_
  refine fs ?_
  refine AWp.seq' ?_
  refine sr (N' := 128) rfl ?_
  iterate 8 (first | refine pu rfl (by simp only [go_sem, Nat.reduceBEq]; try with_reducible rfl) ?_ | refine pg rfl rfl (by simp only [go_sem, Nat.reduceBEq]; try with_reducible rfl) (by intro hb; simp only [go_sem, Nat.reduceBEq, hb, Bool.true_and]; try with_reducible rfl) ?_)
  refine fs ?_
  refine AWp.condM hm (by try simp only [go_sem, Nat.reduceBEq]; try rfl) (fun _ hm => ?_) (fun _ hm => ?_)
  · refine sr (N' := 192) rfl ?_
    obtain ⟨r2, h1, hm⟩ := bnd hm
    refine ARun.callQ (r := .v (.bool r2)) (by decide) (by try simp only [go_sem, Nat.reduceBEq]; try rfl) fb11 (fun H => .nil) (lexAwake_c h1) ?_
    refine pu rfl (by simp only [go_sem, Nat.reduceBEq]; try with_reducible rfl) ?_
    refine fs ?_
    refine AWp.ret ?_
    refine retSeq ?_
    cases hm
    exact ret1D (.inr rfl) Try.results7 (td (by try simp only [go_sem, Nat.reduceBEq]; try rfl) (.v _))
  · refine AWp.skip ?_
    refine normSeq ?_
    refine sr (N' := 192) rfl ?_
    refine pu rfl (by simp only [go_sem, Nat.reduceBEq]; try with_reducible rfl) ?_
    obtain ⟨⟨r4, r5, r6⟩, h3, hm⟩ := bnd hm
    refine ARun.callQ (r := .tup [.sl (r4.flatMap (csl cstr)) r4.length false, .v (.int .i64 r5), .v (.int .i64 r6)]) (by decide) (by try simp only [go_sem, Nat.reduceBEq]; try rfl) fb12 (fun H => (.cons (td (by try simp only [go_sem, Nat.reduceBEq]; try rfl) (.v _)) .nil)) (lexLines_c h3) ?_
    iterate 7 refine pu rfl (by simp only [go_sem, Nat.reduceBEq]; try with_reducible rfl) ?_
    refine fs ?_
    refine sr (N' := 256) rfl ?_
    refine pu rfl (by simp only [go_sem, Nat.reduceBEq]; try with_reducible rfl) ?_
    obtain ⟨⟨r8, r9, r10⟩, h7, hm⟩ := bnd hm
    refine ARun.callQ (r := .tup [.sl (r8.flatMap (csl cstr)) r8.length false, .v (.int .i64 r9), .v (.int .i64 r10)]) (by decide) (by try simp only [go_sem, Nat.reduceBEq]; try rfl) fb12 (fun H => (.cons (td (by try simp only [go_sem, Nat.reduceBEq]; try rfl) (.v _)) .nil)) (lexLines_c h7) ?_
    iterate 7 refine pu rfl (by simp only [go_sem, Nat.reduceBEq]; try with_reducible rfl) ?_
    refine fs ?_
    refine sr (N' := 320) rfl ?_
    refine pu rfl (by simp only [go_sem, Nat.reduceBEq]; try with_reducible rfl) ?_
    obtain ⟨s12, h11, hm⟩ := bnd hm
    refine pu rfl (ap_sadd (by try simp only [go_sem, Nat.reduceBEq]; try rfl) (by try simp only [go_sem, Nat.reduceBEq]; try rfl) h11) ?_
    refine pu rfl (by simp only [go_sem, Nat.reduceBEq]; try with_reducible rfl) ?_
    obtain ⟨s14, h13, hm⟩ := bnd hm
    refine pu rfl (ap_sadd (by try simp only [go_sem, Nat.reduceBEq]; try rfl) (by try simp only [go_sem, Nat.reduceBEq]; try rfl) h13) ?_
    obtain ⟨⟨r16, r17, r18⟩, h15, hm⟩ := bnd hm
    refine ARun.callQ (r := .tup [.sl (r16.flatMap (csl cstr)) r16.length false, .v (.int .i64 r17), .v (.int .i64 r18)]) (by decide) (by try simp only [go_sem, Nat.reduceBEq]; try rfl) fb12 (fun H => (.cons (td (by try simp only [go_sem, Nat.reduceBEq]; try rfl) (.v _)) .nil)) (lexLines_c h15) ?_
    iterate 7 refine pu rfl (by simp only [go_sem, Nat.reduceBEq]; try with_reducible rfl) ?_
    refine fs ?_
    refine AWp.seq' ?_
    refine AWp.block ?_
    refine sr (N' := 384) rfl ?_
    iterate 3 refine pu rfl (by simp only [go_sem, Nat.reduceBEq]; try with_reducible rfl) ?_
    refine fs ?_
    refine AWp.condM hm (by try simp only [go_sem, Nat.reduceBEq]; try rfl) (fun _ hm => ?_) (fun _ hm => ?_)
    · refine sr (N' := 448) rfl ?_
      iterate 8 (first | refine pu rfl (by simp only [go_sem, Nat.reduceBEq]; try with_reducible rfl) ?_ | refine pg rfl rfl (by simp only [go_sem, Nat.reduceBEq]; try with_reducible rfl) (by intro hb; simp only [go_sem, Nat.reduceBEq, hb, Bool.true_and]; try with_reducible rfl) ?_)
      obtain ⟨r20, h19, hm⟩ := bnd hm
      refine ARun.callQG (r := .v (.bool r20)) (by decide) rfl (by simp only [go_sem, Nat.reduceBEq]; try with_reducible rfl) (by try simp only [go_sem, Nat.reduceBEq]; try rfl) fb11 (fun hb H => .nil) (fun hb => lexAwake_c (gopt_t h19 hb)) ?_
      iterate 2 refine pu rfl (by simp only [go_sem, Nat.reduceBEq]; try with_reducible rfl) ?_
      refine fs ?_
      refine AWp.ret ?_
      refine retIn ?_
      refine retSeq ?_
      cases hm
      exact ret1D (.inr rfl) Try.results7 (td (by try simp only [go_sem, Nat.reduceBEq]; try rfl) (.v _))
    · refine sr (N' := 448) rfl ?_
      iterate 3 refine pu rfl (by simp only [go_sem, Nat.reduceBEq]; try with_reducible rfl) ?_
      refine fs ?_
      refine AWp.condM hm (by try simp only [go_sem, Nat.reduceBEq]; try rfl) (fun _ hm => ?_) (fun _ hm => ?_)
      · refine sr (N' := 512) rfl ?_
        refine pu rfl (by simp only [go_sem, Nat.reduceBEq]; try with_reducible rfl) ?_
        refine fs ?_
        refine AWp.seq' ?_
        refine sr (N' := 576) rfl ?_
        refine pu rfl (by simp only [go_sem, Nat.reduceBEq]; try with_reducible rfl) ?_
        refine hp (id := 513) rfl rfl (aheap_range Try.underlying9 (by try simp only [go_sem, Nat.reduceBEq]; try rfl) (by simp only [isFresh_upd, isFresh_no, Nat.reduceBEq, cond_true, cond_false])) ?_
        refine fs ?_
        refine AWp.block ?_
        refine AWp.loopM (fun m s => ∃ (m_9 : Int) (k_12 : Int) (g_13 : Int) (runes_14 : Int) (t62s : ByteArray) (t62p : Nat), s = (⟨93, (fset (fset (fset (fset (fset (fun _ => AV.any) 9 (.v (.int .i64 m_9))) 12 (.v (.int .i64 k_12))) 13 (.v (.int .i64 g_13))) 14 (.v (.int .i64 runes_14))) 62 (.adr 1 0)), ⟨(upd nofresh 1 (.iter t62s t62p)), 64⟩⟩ : St) ∧ LexParts_L1 m m_9 k_12 g_13 runes_14 t62s t62p = some r) FUEL ?_ ?_ ?_
        · rintro s ⟨_, _, _, _, _, _, _, h⟩
          cases h
        · refine ⟨_, ?_, r9, r17, r18, 1, a_0, 0, rfl, hm⟩
          exact le_canon (fun j => bif j == 1 then 513 else 0) (wk_fset _ _ (wk_adr (by try simp only [go_sem, Nat.reduceBEq]; try rfl) rfl (by simp [upd])) (wk_fset _ _ (wk_data (by try simp only [go_sem, Nat.reduceBEq]; try rfl) (.v _)) (wk_fset _ _ (wk_data (by try simp only [go_sem, Nat.reduceBEq]; try rfl) (.v _)) (wk_fset _ _ (wk_data (by try simp only [go_sem, Nat.reduceBEq]; try rfl) (.v _)) (wk_fset _ _ (wk_data (by try simp only [go_sem, Nat.reduceBEq]; try rfl) (.v _)) wk_none))))) (heapWk_of _ (entWk_upd (entWk_iter (by simp only [upd_beq, Nat.reduceBEq, cond_true, cond_false]; try rfl)) entWk_none) (by repeat' (first | exact inj_none | exact liv_none | refine inj_upd ?_ ?_ | refine liv_upd ?_ ?_ | exact .inl rfl | exact .inr (by decide))))
        · rintro n1 s ⟨m_9, k_12, g_13, runes_14, t62s, t62p, rfl, hm⟩
          replace hm : LexParts_B1 (LexParts_L1 n1) m_9 k_12 g_13 runes_14 t62s t62p = some r := hm
          unfold LexParts_B1 at hm
          refine sr (N' := 128) rfl ?_
          refine split_m hm (fun h21 hm => ?_) (fun h21 hm => ?_)
          · refine hp (id := 64) rfl rfl (aheap_next_yes (by try simp only [go_sem, Nat.reduceBEq]; try rfl) (by simp only [upd_beq, Nat.reduceBEq, cond_true, cond_false]; try rfl) (of_decide_eq_true h21)) ?_
            refine pu rfl (by simp only [go_sem, Nat.reduceBEq]; try with_reducible rfl) ?_
            refine fs ?_
            refine AWp.seq' ?_
            refine AWp.condT (by try simp only [go_sem, Nat.reduceBEq]; try rfl) ?_
            refine AWp.skip ?_
            refine normSeq ?_
            refine AWp.block ?_
            refine AWp.reg 64 (N' := 192) rfl ?_
            iterate 3 refine pu rfl (by simp only [go_sem, Nat.reduceBEq]; try with_reducible rfl) ?_
            refine ARun.fin ?_
            refine normIn ?_
            refine normThen ?_
            refine ⟨_, ?_, m_9, k_12, g_13, (IntKind.i64.wrap (runes_14 + 1)), t62s, (t62p + (Utf8.decode t62s t62p).2), rfl, hm⟩
            exact le_canon (fun j => bif j == 1 then 1 else 0) (wk_fset _ _ (wk_adr (by try simp only [go_sem, Nat.reduceBEq]; try rfl) rfl (by simp [upd])) (wk_fset _ _ (wk_data (by try simp only [go_sem, Nat.reduceBEq]; try rfl) (.v _)) (wk_fset _ _ (wk_data (by try simp only [go_sem, Nat.reduceBEq]; try rfl) (.v _)) (wk_fset _ _ (wk_data (by try simp only [go_sem, Nat.reduceBEq]; try rfl) (.v _)) (wk_fset _ _ (wk_data (by try simp only [go_sem, Nat.reduceBEq]; try rfl) (.v _)) wk_none))))) (heapWk_of _ (entWk_upd (entWk_iter (by simp only [upd_beq, Nat.reduceBEq, cond_true, cond_false]; try rfl)) entWk_none) (by repeat' (first | exact inj_none | exact liv_none | refine inj_upd ?_ ?_ | refine liv_upd ?_ ?_ | exact .inl rfl | exact .inr (by decide))))
          · refine hp (id := 64) rfl rfl (aheap_next_no (by try simp only [go_sem, Nat.reduceBEq]; try rfl) (by simp only [upd_beq, Nat.reduceBEq, cond_true, cond_false]; try rfl) (of_decide_eq_false h21)) ?_
            refine pu rfl (by simp only [go_sem, Nat.reduceBEq]; try with_reducible rfl) ?_
            refine fs ?_
            refine AWp.seq' ?_
            refine AWp.condF (by try simp only [go_sem, Nat.reduceBEq]; try rfl) ?_
            refine AWp.exit ?_
            refine exitSeq ?_
            refine exitThen ?_
            refine exitHere ?_
            refine normSeq ?_
            refine sr (N' := 192) rfl ?_
            iterate 10 (first | refine pu rfl (by simp only [go_sem, Nat.reduceBEq]; try with_reducible rfl) ?_ | refine pg rfl rfl (by simp only [go_sem, Nat.reduceBEq]; try with_reducible rfl) (by intro hb; simp only [go_sem, Nat.reduceBEq, hb, Bool.true_and]; try with_reducible rfl) ?_)
            obtain ⟨r23, h22, hm⟩ := bnd hm
            refine ARun.callQG (r := .v (.bool r23)) (by decide) rfl (by simp only [go_sem, Nat.reduceBEq]; try with_reducible rfl) (by try simp only [go_sem, Nat.reduceBEq]; try rfl) fb11 (fun hb H => .nil) (fun hb => lexAwake_c (gopt_t h22 hb)) ?_
            iterate 2 refine pu rfl (by simp only [go_sem, Nat.reduceBEq]; try with_reducible rfl) ?_
            refine fs ?_
            refine AWp.ret ?_
            refine retIn ?_
            refine retSeq ?_
            cases hm
            exact ret1D (.inr rfl) Try.results7 (td (by try simp only [go_sem, Nat.reduceBEq]; try rfl) (.v _))
      · refine AWp.skip ?_
        refine normIn ?_
        refine normSeq ?_
        refine sr (N' := 512) rfl ?_
        iterate 4 (first | refine pu rfl (by simp only [go_sem, Nat.reduceBEq]; try with_reducible rfl) ?_ | refine pg rfl rfl (by simp only [go_sem, Nat.reduceBEq]; try with_reducible rfl) (by intro hb; simp only [go_sem, Nat.reduceBEq, hb, Bool.true_and]; try with_reducible rfl) ?_)
        refine split_m hm (fun h24 hm => ?_) (fun h24 hm => ?_)
        · refine ARun.heapG (by decide) rfl (by simp only [go_sem, Nat.reduceBEq, h24]; try with_reducible rfl) (id := 452) rfl (ah_list (CFl CFs) (l := []) Try.underlying23 sz45 zc45 (by simp only [isFresh_upd, isFresh_no, Nat.reduceBEq, cond_true, cond_false]) (by decide) (by decide) (by decide) (by simp only [go_sem, Nat.reduceBEq, h24]; try rfl) (by kernel_rfl)) ?_
          refine pg rfl rfl (by simp only [go_sem, Nat.reduceBEq, h24]; try with_reducible rfl) (by intro hb; simp only [go_sem, Nat.reduceBEq, h24, hb, Bool.true_and]; try with_reducible rfl) ?_
          obtain ⟨l26, h25, hm⟩ := bnd hm
          refine ARun.heapG (by decide) rfl (by simp only [go_sem, Nat.reduceBEq, h24]; try with_reducible rfl) (id := 454) rfl (ah_app (CFl CFs) Try.underlying23 Try.underlying23 rfl in45 ts45 (by rw [tb45]; decide) (by rw [tb45]; decide) tz45 (by decide) (by decide) (by try simp only [go_sem, Nat.reduceBEq, h24]; try rfl) (by simp only [upd_beq, Nat.reduceBEq, cond_true, cond_false]; try rfl) (by first | rfl | omega) (as_sl (CFl CFs) (by try simp only [go_sem, Nat.reduceBEq, h24]; try rfl) rfl) rfl (by simp only [isFresh_upd, isFresh_no, Nat.reduceBEq, cond_true, cond_false]) h25) ?_
          refine pg rfl rfl (by simp only [go_sem, Nat.reduceBEq, h24]; try with_reducible rfl) (by intro hb; simp only [go_sem, Nat.reduceBEq, h24, hb, Bool.true_and]; try with_reducible rfl) ?_
          obtain ⟨l28, h27, hm⟩ := bnd hm
          refine ARun.heapG (by decide) rfl (by simp only [go_sem, Nat.reduceBEq, h24]; try with_reducible rfl) (id := 456) rfl (ah_app (CFl CFs) Try.underlying23 Try.underlying23 rfl in45 ts45 (by rw [tb45]; decide) (by rw [tb45]; decide) tz45 (by decide) (by decide) (by try simp only [go_sem, Nat.reduceBEq, h24]; try rfl) (by simp only [upd_beq, Nat.reduceBEq, cond_true, cond_false]; try rfl) (by first | rfl | omega) (as_sl (CFl CFs) (by try simp only [go_sem, Nat.reduceBEq, h24]; try rfl) rfl) rfl (by simp only [isFresh_upd, isFresh_no, Nat.reduceBEq, cond_true, cond_false]) h27) ?_
          obtain ⟨r30, h29, hm⟩ := bnd hm
          refine ARun.callBG (r := .v (.bool r30)) (by decide) rfl (by simp only [go_sem, Nat.reduceBEq, h24]; try with_reducible rfl) (by try simp only [go_sem, Nat.reduceBEq, h24]; try rfl) fb14 (fun hb => (.cons (ltd fun H => (td (by try simp only [go_sem, Nat.reduceBEq, h24]; try rfl) ((CFl CFs).sl _ _ _))) (.cons (lto (CFl CFs) (by try simp only [go_sem, Nat.reduceBEq, h24]; try rfl) (by simp only [upd_beq, Nat.reduceBEq, cond_true, cond_false]; try rfl) (by first | rfl | omega)) Lent.nil))) scal1 (fun hb => refWords_c h29) ?_
          iterate 2 refine pu rfl (by simp only [go_sem, Nat.reduceBEq, h24]; try with_reducible rfl) ?_
          obtain ⟨r32, h31, hm⟩ := bnd hm
          refine ARun.callQG (r := .v (.bool r32)) (by decide) rfl (by simp only [go_sem, Nat.reduceBEq, h24]; try with_reducible rfl) (by try simp only [go_sem, Nat.reduceBEq, h24]; try rfl) fb11 (fun hb H => .nil) (fun hb => lexAwake_c (gopt_t h31 hb)) ?_
          iterate 2 refine pu rfl (by simp only [go_sem, Nat.reduceBEq, h24]; try with_reducible rfl) ?_
          refine fs ?_
          refine AWp.ret ?_
          cases hm
          exact ret1D (.inr rfl) Try.results7 (td (by try simp only [go_sem, Nat.reduceBEq]; try rfl) (.v _))
        · refine ARun.skipG (by decide) rfl (by simp only [go_sem, Nat.reduceBEq, h24]; try with_reducible rfl) ?_
          refine ARun.skipG (by decide) rfl (by simp only [go_sem, Nat.reduceBEq, h24]; try with_reducible rfl) ?_
          refine ARun.skipG (by decide) rfl (by simp only [go_sem, Nat.reduceBEq, h24]; try with_reducible rfl) ?_
          refine ARun.skipG (by decide) rfl (by simp only [go_sem, Nat.reduceBEq, h24]; try with_reducible rfl) ?_
          refine ARun.skipG (by decide) rfl (by simp only [go_sem, Nat.reduceBEq, h24]; try with_reducible rfl) ?_
          refine ARun.skipG (by decide) rfl (by simp only [go_sem, Nat.reduceBEq, h24]; try with_reducible rfl) ?_
          iterate 2 refine pu rfl (by simp only [go_sem, Nat.reduceBEq, h24]; try with_reducible rfl) ?_
          refine ARun.skipG (by decide) rfl (by simp only [go_sem, Nat.reduceBEq, h24]; try with_reducible rfl) ?_
          iterate 2 refine pu rfl (by simp only [go_sem, Nat.reduceBEq, h24]; try with_reducible rfl) ?_
          refine fs ?_
          refine AWp.ret ?_
          cases hm
          exact ret1D (.inr rfl) Try.results7 (td (by try simp only [go_sem, Nat.reduceBEq]; try rfl) (.v _))
def LexOnly_m (word_0 : ByteArray) (s_1 : ByteArray) (t_2 : ByteArray) : Option (Bool) :=
  (bif (((decide (300 < (word_0.size : Int))) || (decide (300 < (s_1.size : Int)))) || (decide (300 < (t_2.size : Int)))) then
    ((lexAwake_m ).bind fun r2 =>
    some r2)
  else
    ((lexUnhex_m word_0).bind fun ⟨r4, r5⟩ =>
    ((gopt ((r5 == 0) == true) ⟨#[]⟩ (lexHex_m r4)).bind fun r7 =>
    (bif (((r5 == 0) && (!decide (r7 = word_0))) || ((r5 != 0) && ((r5 != 2) || (!decide (r4 = ⟨#[]⟩))))) then
      some false
    else
      ((lexHex_m s_1).bind fun r9 =>
      ((lexHex_m t_2).bind fun r11 =>
      ((gopt (((decide (r9 = r11)) == (decide (s_1 = t_2))) == true) ⟨#[]⟩ (sadd s_1 t_2)).bind fun s13 =>
      ((gopt (((decide (r9 = r11)) == (decide (s_1 = t_2))) == true) ⟨#[]⟩ (lexHex_m s13)).bind fun r15 =>
      ((gopt (((decide (r9 = r11)) == (decide (s_1 = t_2))) == true) ⟨#[]⟩ (lexHex_m s_1)).bind fun r17 =>
      ((gopt (((decide (r9 = r11)) == (decide (s_1 = t_2))) == true) ⟨#[]⟩ (lexHex_m t_2)).bind fun r19 =>
      ((gopt (((decide (r9 = r11)) == (decide (s_1 = t_2))) == true) ⟨#[]⟩ (sadd r17 r19)).bind fun s21 =>
      ((gopt ((((decide (r9 = r11)) == (decide (s_1 = t_2))) && (decide (r15 = s21))) == true) false (lexAwake_m )).bind fun r23 =>
      some ((((decide (r9 = r11)) == (decide (s_1 = t_2))) && (decide (r15 = s21))) && r23)))))))))))))
theorem LexOnly_c {word_0 : ByteArray} {s_1 : ByteArray} {t_2 : ByteArray} {r : Bool} (hm : LexOnly_m word_0 s_1 t_2 = some r) : PureC Try.prog 9 [.v (.string word_0), .v (.string s_1), .v (.string t_2)] (.v (.bool r)) := by
  refine PureC.of_body Try.func9 rfl ?_
  simp only [Try.ntmps9, List.length_cons, List.length_nil, Nat.reduceAdd, Nat.reduceSub, empty_eq]
  unfold LexOnly_m at hm
  refine sr (N' := 64) rfl ?_
  refine pu rfl (by simp only [go_sem, Nat.reduceBEq]; try with_reducible rfl) ?_
  refine fs ?_
  refine AWp.seq' ?_
  refine sr (N' := 128) rfl ?_
  iterate 13 (first | refine pu rfl (by simp only [go_sem, Nat.reduceBEq]; try with_reducible rfl) ?_ | refine pg rfl rfl (by simp only [go_sem, Nat.reduceBEq]; try with_reducible rfl) (by intro hb; simp only [go_sem, Nat.reduceBEq, hb, Bool.true_and]; try with_reducible rfl) ?_)
  refine fs ?_
  refine AWp.condM hm (by try simp only [go_sem, Nat.reduceBEq]; try rfl) (fun _ hm => ?_) (fun _ hm => ?_)
  · refine sr (N' := 192) rfl ?_
    obtain ⟨r2, h1, hm⟩ := bnd hm
    refine ARun.callQ (r := .v (.bool r2)) (by decide) (by try simp only [go_sem, Nat.reduceBEq]; try rfl) fb11 (fun H => .nil) (lexAwake_c h1) ?_
    refine pu rfl (by simp only [go_sem, Nat.reduceBEq]; try with_reducible rfl) ?_
    refine fs ?_
    refine AWp.ret ?_
    refine retSeq ?_
    cases hm
    exact ret1D (.inr rfl) Try.results9 (td (by try simp only [go_sem, Nat.reduceBEq]; try rfl) (.v _))
  · refine AWp.skip ?_
    refine normSeq ?_
    refine sr (N' := 192) rfl ?_
    refine pu rfl (by simp only [go_sem, Nat.reduceBEq]; try with_reducible rfl) ?_
    obtain ⟨⟨r4, r5⟩, h3, hm⟩ := bnd hm
    refine ARun.callQ (r := .tup [.v (.string r4), .v (.int .i64 r5)]) (by decide) (by try simp only [go_sem, Nat.reduceBEq]; try rfl) fb20 (fun H => (.cons (td (by try simp only [go_sem, Nat.reduceBEq]; try rfl) (.v _)) .nil)) (lexUnhex_c h3) ?_
    iterate 5 refine pu rfl (by simp only [go_sem, Nat.reduceBEq]; try with_reducible rfl) ?_
    refine fs ?_
    refine AWp.seq' ?_
    refine sr (N' := 256) rfl ?_
    iterate 4 (first | refine pu rfl (by simp only [go_sem, Nat.reduceBEq]; try with_reducible rfl) ?_ | refine pg rfl rfl (by simp only [go_sem, Nat.reduceBEq]; try with_reducible rfl) (by intro hb; simp only [go_sem, Nat.reduceBEq, hb, Bool.true_and]; try with_reducible rfl) ?_)
    obtain ⟨r7, h6, hm⟩ := bnd hm
    refine ARun.callQG (r := .v (.string r7)) (by decide) rfl (by simp only [go_sem, Nat.reduceBEq]; try with_reducible rfl) (by try simp only [go_sem, Nat.reduceBEq]; try rfl) fb22 (fun hb H => (.cons (td (by try simp only [go_sem, Nat.reduceBEq, hb, Bool.true_and]; try rfl) (.v _)) .nil)) (fun hb => lexHex_c (gopt_t h6 hb)) ?_
    iterate 15 (first | refine pu rfl (by simp only [go_sem, Nat.reduceBEq]; try with_reducible rfl) ?_ | refine pg rfl rfl (by simp only [go_sem, Nat.reduceBEq]; try with_reducible rfl) (by intro hb; simp only [go_sem, Nat.reduceBEq, hb, Bool.true_and]; try with_reducible rfl) ?_)
    refine fs ?_
    refine AWp.condM hm (by try simp only [go_sem, Nat.reduceBEq]; try rfl) (fun _ hm => ?_) (fun _ hm => ?_)
    · refine sr (N' := 320) rfl ?_
      refine pu rfl (by simp only [go_sem, Nat.reduceBEq]; try with_reducible rfl) ?_
      refine fs ?_
      refine AWp.ret ?_
      refine retSeq ?_
      cases hm
      exact ret1D (.inr rfl) Try.results9 (td (by try simp only [go_sem, Nat.reduceBEq]; try rfl) (.v _))
    · refine AWp.skip ?_
      refine normSeq ?_
      refine sr (N' := 320) rfl ?_
      refine pu rfl (by simp only [go_sem, Nat.reduceBEq]; try with_reducible rfl) ?_
      obtain ⟨r9, h8, hm⟩ := bnd hm
      refine ARun.callQ (r := .v (.string r9)) (by decide) (by try simp only [go_sem, Nat.reduceBEq]; try rfl) fb22 (fun H => (.cons (td (by try simp only [go_sem, Nat.reduceBEq]; try rfl) (.v _)) .nil)) (lexHex_c h8) ?_
      refine pu rfl (by simp only [go_sem, Nat.reduceBEq]; try with_reducible rfl) ?_
      obtain ⟨r11, h10, hm⟩ := bnd hm
      refine ARun.callQ (r := .v (.string r11)) (by decide) (by try simp only [go_sem, Nat.reduceBEq]; try rfl) fb22 (fun H => (.cons (td (by try simp only [go_sem, Nat.reduceBEq]; try rfl) (.v _)) .nil)) (lexHex_c h10) ?_
      iterate 8 (first | refine pu rfl (by simp only [go_sem, Nat.reduceBEq]; try with_reducible rfl) ?_ | refine pg rfl rfl (by simp only [go_sem, Nat.reduceBEq]; try with_reducible rfl) (by intro hb; simp only [go_sem, Nat.reduceBEq, hb, Bool.true_and]; try with_reducible rfl) ?_)
      obtain ⟨s13, h12, hm⟩ := bnd hm
      refine pg rfl rfl (by simp only [go_sem, Nat.reduceBEq]; try with_reducible rfl) (fun hb => (ap_sadd (by try simp only [go_sem, Nat.reduceBEq, hb, Bool.true_and]; try rfl) (by try simp only [go_sem, Nat.reduceBEq, hb, Bool.true_and]; try rfl) (gopt_t h12 hb))) ?_
      obtain ⟨r15, h14, hm⟩ := bnd hm
      refine ARun.callQG (r := .v (.string r15)) (by decide) rfl (by simp only [go_sem, Nat.reduceBEq]; try with_reducible rfl) (by try simp only [go_sem, Nat.reduceBEq]; try rfl) fb22 (fun hb H => (.cons (td (by try simp only [go_sem, Nat.reduceBEq, hb, Bool.true_and]; try rfl) (.v _)) .nil)) (fun hb => lexHex_c (gopt_t h14 hb)) ?_
      refine pg rfl rfl (by simp only [go_sem, Nat.reduceBEq]; try with_reducible rfl) (by intro hb; simp only [go_sem, Nat.reduceBEq, hb, Bool.true_and]; try with_reducible rfl) ?_
      obtain ⟨r17, h16, hm⟩ := bnd hm
      refine ARun.callQG (r := .v (.string r17)) (by decide) rfl (by simp only [go_sem, Nat.reduceBEq]; try with_reducible rfl) (by try simp only [go_sem, Nat.reduceBEq]; try rfl) fb22 (fun hb H => (.cons (td (by try simp only [go_sem, Nat.reduceBEq, hb, Bool.true_and]; try rfl) (.v _)) .nil)) (fun hb => lexHex_c (gopt_t h16 hb)) ?_
      refine pg rfl rfl (by simp only [go_sem, Nat.reduceBEq]; try with_reducible rfl) (by intro hb; simp only [go_sem, Nat.reduceBEq, hb, Bool.true_and]; try with_reducible rfl) ?_
      obtain ⟨r19, h18, hm⟩ := bnd hm
      refine ARun.callQG (r := .v (.string r19)) (by decide) rfl (by simp only [go_sem, Nat.reduceBEq]; try with_reducible rfl) (by try simp only [go_sem, Nat.reduceBEq]; try rfl) fb22 (fun hb H => (.cons (td (by try simp only [go_sem, Nat.reduceBEq, hb, Bool.true_and]; try rfl) (.v _)) .nil)) (fun hb => lexHex_c (gopt_t h18 hb)) ?_
      obtain ⟨s21, h20, hm⟩ := bnd hm
      refine pg rfl rfl (by simp only [go_sem, Nat.reduceBEq]; try with_reducible rfl) (fun hb => (ap_sadd (by try simp only [go_sem, Nat.reduceBEq, hb, Bool.true_and]; try rfl) (by try simp only [go_sem, Nat.reduceBEq, hb, Bool.true_and]; try rfl) (gopt_t h20 hb))) ?_
      iterate 3 (first | refine pu rfl (by simp only [go_sem, Nat.reduceBEq]; try with_reducible rfl) ?_ | refine pg rfl rfl (by simp only [go_sem, Nat.reduceBEq]; try with_reducible rfl) (by intro hb; simp only [go_sem, Nat.reduceBEq, hb, Bool.true_and]; try with_reducible rfl) ?_)
      obtain ⟨r23, h22, hm⟩ := bnd hm
      refine ARun.callQG (r := .v (.bool r23)) (by decide) rfl (by simp only [go_sem, Nat.reduceBEq]; try with_reducible rfl) (by try simp only [go_sem, Nat.reduceBEq]; try rfl) fb11 (fun hb H => .nil) (fun hb => lexAwake_c (gopt_t h22 hb)) ?_
      iterate 2 refine pu rfl (by simp only [go_sem, Nat.reduceBEq]; try with_reducible rfl) ?_
      refine fs ?_
      refine AWp.ret ?_
      cases hm
      exact ret1D (.inr rfl) Try.results9 (td (by try simp only [go_sem, Nat.reduceBEq]; try rfl) (.v _))
def LexValues_B2 (rec1 : List (List ByteArray) → Int → Int → Option (Bool)) (rec2 : List (List ByteArray) → Int → Int → List ByteArray → Int → Int → Option (Bool)) (t35 : List (List ByteArray)) (t36 : Int) (t37 : Int) (t41 : List ByteArray) (t42 : Int) (t43 : Int) : Option (Bool) :=
  (bif (decide (t43 < t42)) then
    ((idx t41 t43).bind fun x12 =>
    ((lexValue_m x12).bind fun r14 =>
    ((lexIsNumber_m r14).bind fun ⟨r16, r17⟩ =>
    ((gaStr 9 r14).bind fun ⟨r19, r20⟩ =>
    (bif (((r17 == r20) || (r20 && (!decide (r19 = x12)))) || (decide (x12 = ⟨#[]⟩))) then
      some false
    else
      ((lexNumber_m x12).bind fun ⟨r22, r23⟩ =>
      (bif ((r17 && ((r23 != 0) || (r22 != r16))) || (r20 && (r23 == 0))) then
        some false
      else
        rec2 t35 t36 t37 t41 t42 (IntKind.i64.wrap (t43 + 1)))))))))
  else
    rec1 t35 t36 (IntKind.i64.wrap (t37 + 1)))
def LexValues_L2 (rec1 : List (List ByteArray) → Int → Int → Option (Bool)) : Nat → List (List ByteArray) → Int → Int → List ByteArray → Int → Int → Option (Bool)
  | 0 => fun _ _ _ _ _ _ => none
  | n + 1 => LexValues_B2 rec1 (LexValues_L2 rec1 n)
def LexValues_B1 (rec1 : List (List ByteArray) → Int → Int → Option (Bool)) (t35 : List (List ByteArray)) (t36 : Int) (t37 : Int) : Option (Bool) :=
  (bif (decide (t37 < t36)) then
    ((idx t35 t37).bind fun x10 =>
    LexValues_L2 rec1 FUEL t35 t36 t37 x10 (x10.length : Int) 0)
  else
    ((lexAwake_m ).bind fun r25 =>
    some r25))
def LexValues_L1 : Nat → List (List ByteArray) → Int → Int → Option (Bool)
  | 0 => fun _ _ _ => none
  | n + 1 => LexValues_B1 (LexValues_L1 n)
def LexValues_m (text_0 : ByteArray) : Option (Bool) :=
  (bif (decide (300 < (text_0.size : Int))) then
    ((lexAwake_m ).bind fun r2 =>
    some r2)
  else
    ((lexLines_m text_0).bind fun ⟨r4, r5, r6⟩ =>
    (bif (r6 != 0) then
      ((gopt (((r4.length : Int) == 0) == true) false (lexAwake_m )).bind fun r8 =>
      some (((r4.length : Int) == 0) && r8))
    else
      LexValues_L1 FUEL r4 (r4.length : Int) 0)))
theorem LexValues_c {text_0 : ByteArray} {r : Bool} (hm : LexValues_m text_0 = some r) : PureC Try.prog 10 [.v (.string text_0)] (.v (.bool r)) := by
  refine PureC.of_body Try.func10 rfl ?_
  simp only [Try.ntmps10, List.length_cons, List.length_nil, Nat.reduceAdd, Nat.reduceSub, empty_eq]
  unfold LexValues_m at hm
  refine sr (N' := 64) rfl ?_
  refine pu rfl (by simp only [go_sem, Nat.reduceBEq]; try with_reducible rfl) ?_
  refine fs ?_
  refine AWp.seq' ?_
  refine sr (N' := 128) rfl ?_
  iterate 3 refine pu rfl (by simp only [go_sem, Nat.reduceBEq]; try with_reducible rfl) ?_
  refine fs ?_
  refine AWp.condM hm (by try simp only [go_sem, Nat.reduceBEq]; try rfl) (fun _ hm => ?_) (fun _ hm => ?_)
  · refine sr (N' := 192) rfl ?_
    obtain ⟨r2, h1, hm⟩ := bnd hm
    refine ARun.callQ (r := .v (.bool r2)) (by decide) (by try simp only [go_sem, Nat.reduceBEq]; try rfl) fb11 (fun H => .nil) (lexAwake_c h1) ?_
    refine pu rfl (by simp only [go_sem, Nat.reduceBEq]; try with_reducible rfl) ?_
    refine fs ?_
    refine AWp.ret ?_
    refine retSeq ?_
    cases hm
    exact ret1D (.inr rfl) Try.results10 (td (by try simp only [go_sem, Nat.reduceBEq]; try rfl) (.v _))
  · refine AWp.skip ?_
    refine normSeq ?_
    refine sr (N' := 192) rfl ?_
    refine pu rfl (by simp only [go_sem, Nat.reduceBEq]; try with_reducible rfl) ?_
    obtain ⟨⟨r4, r5, r6⟩, h3, hm⟩ := bnd hm
    refine ARun.callQ (r := .tup [.sl (r4.flatMap (csl cstr)) r4.length false, .v (.int .i64 r5), .v (.int .i64 r6)]) (by decide) (by try simp only [go_sem, Nat.reduceBEq]; try rfl) fb12 (fun H => (.cons (td (by try simp only [go_sem, Nat.reduceBEq]; try rfl) (.v _)) .nil)) (lexLines_c h3) ?_
    iterate 7 refine pu rfl (by simp only [go_sem, Nat.reduceBEq]; try with_reducible rfl) ?_
    refine fs ?_
    refine AWp.seq' ?_
    refine sr (N' := 256) rfl ?_
    iterate 2 refine pu rfl (by simp only [go_sem, Nat.reduceBEq]; try with_reducible rfl) ?_
    refine fs ?_
    refine AWp.condM hm (by try simp only [go_sem, Nat.reduceBEq]; try rfl) (fun _ hm => ?_) (fun _ hm => ?_)
    · refine sr (N' := 320) rfl ?_
      iterate 4 refine pu rfl (by simp only [go_sem, Nat.reduceBEq]; try with_reducible rfl) ?_
      obtain ⟨r8, h7, hm⟩ := bnd hm
      refine ARun.callQG (r := .v (.bool r8)) (by decide) rfl (by simp only [go_sem, Nat.reduceBEq]; try with_reducible rfl) (by try simp only [go_sem, Nat.reduceBEq]; try rfl) fb11 (fun hb H => .nil) (fun hb => lexAwake_c (gopt_t h7 hb)) ?_
      iterate 2 refine pu rfl (by simp only [go_sem, Nat.reduceBEq]; try with_reducible rfl) ?_
      refine fs ?_
      refine AWp.ret ?_
      refine retSeq ?_
      cases hm
      exact ret1D (.inr rfl) Try.results10 (td (by try simp only [go_sem, Nat.reduceBEq]; try rfl) (.v _))
    · refine AWp.skip ?_
      refine normSeq ?_
      refine AWp.seq' ?_
      refine sr (N' := 320) rfl ?_
      iterate 3 refine pu rfl (by simp only [go_sem, Nat.reduceBEq]; try with_reducible rfl) ?_
      refine fs ?_
      refine AWp.block ?_
      refine AWp.loopM (fun m s => ∃ (t35 : List (List ByteArray)) (t36 : Int) (t37 : Int), s = (⟨99, (fset (fset (fset (fun _ => AV.any) 35 (.sl (t35.flatMap (csl cstr)) t35.length false)) 36 (.v (.int .i64 t36))) 37 (.v (.int .i64 t37))), ⟨nofresh, 64⟩⟩ : St) ∧ LexValues_L1 m t35 t36 t37 = some r) FUEL ?_ ?_ ?_
      · rintro s ⟨_, _, _, _, h⟩
        cases h
      · refine ⟨_, ?_, r4, (r4.length : Int), 0, rfl, hm⟩
        exact le_canon id (wk_fset _ _ (wk_data (by try simp only [go_sem, Nat.reduceBEq]; try rfl) (.v _)) (wk_fset _ _ (wk_data (by try simp only [go_sem, Nat.reduceBEq]; try rfl) (.v _)) (wk_fset _ _ (wk_data (by try simp only [go_sem, Nat.reduceBEq]; try rfl) ((CFl CFs).sl _ _ _)) wk_none))) heapWk0
      · rintro n1 s ⟨t35, t36, t37, rfl, hm⟩
        replace hm : LexValues_B1 (LexValues_L1 n1) t35 t36 t37 = some r := hm
        unfold LexValues_B1 at hm
        refine sr (N' := 128) rfl ?_
        refine pu rfl (by simp only [go_sem, Nat.reduceBEq]; try with_reducible rfl) ?_
        refine fs ?_
        refine AWp.seq' ?_
        refine AWp.condM hm (by try simp only [go_sem, Nat.reduceBEq]; try rfl) (fun _ hm => ?_) (fun _ hm => ?_)
        · refine AWp.skip ?_
          refine normSeq ?_
          refine AWp.seq' ?_
          refine AWp.block ?_
          refine sr (N' := 192) rfl ?_
          obtain ⟨x10, h9, hm⟩ := bnd hm
          refine pu rfl (ap_idx (CFl CFs) (by decide) Try.underlying23 sz45 (by try simp only [go_sem, Nat.reduceBEq]; try rfl) rfl (by try simp only [go_sem, Nat.reduceBEq]; try rfl) h9) ?_
          iterate 2 refine pu rfl (by simp only [go_sem, Nat.reduceBEq]; try with_reducible rfl) ?_
          refine fs ?_
          refine sr (N' := 256) rfl ?_
          iterate 3 refine pu rfl (by simp only [go_sem, Nat.reduceBEq]; try with_reducible rfl) ?_
          refine fs ?_
          refine AWp.block ?_
          refine AWp.loopM (fun m s => ∃ (t35 : List (List ByteArray)) (t36 : Int) (t37 : Int) (t41 : List ByteArray) (t42 : Int) (t43 : Int), s = (⟨99, (fset (fset (fset (fset (fset (fset (fun _ => AV.any) 35 (.sl (t35.flatMap (csl cstr)) t35.length false)) 36 (.v (.int .i64 t36))) 37 (.v (.int .i64 t37))) 41 (.sl (t41.flatMap cstr) t41.length false)) 42 (.v (.int .i64 t42))) 43 (.v (.int .i64 t43))), ⟨nofresh, 64⟩⟩ : St) ∧ LexValues_L2 (LexValues_L1 n1) m t35 t36 t37 t41 t42 t43 = some r) FUEL ?_ ?_ ?_
          · rintro s ⟨_, _, _, _, _, _, _, h⟩
            cases h
          · refine ⟨_, ?_, t35, t36, t37, x10, (x10.length : Int), 0, rfl, hm⟩
            exact le_canon id (wk_fset _ _ (wk_data (by try simp only [go_sem, Nat.reduceBEq]; try rfl) (.v _)) (wk_fset _ _ (wk_data (by try simp only [go_sem, Nat.reduceBEq]; try rfl) (.v _)) (wk_fset _ _ (wk_data (by try simp only [go_sem, Nat.reduceBEq]; try rfl) (CFs.sl _ _ _)) (wk_fset _ _ (wk_data (by try simp only [go_sem, Nat.reduceBEq]; try rfl) (.v _)) (wk_fset _ _ (wk_data (by try simp only [go_sem, Nat.reduceBEq]; try rfl) (.v _)) (wk_fset _ _ (wk_data (by try simp only [go_sem, Nat.reduceBEq]; try rfl) ((CFl CFs).sl _ _ _)) wk_none)))))) heapWk0
          · rintro n2 s ⟨t35, t36, t37, t41, t42, t43, rfl, hm⟩
            replace hm : LexValues_B2 (LexValues_L1 n1) (LexValues_L2 (LexValues_L1 n1) n2) t35 t36 t37 t41 t42 t43 = some r := hm
            unfold LexValues_B2 at hm
            refine sr (N' := 128) rfl ?_
            refine pu rfl (by simp only [go_sem, Nat.reduceBEq]; try with_reducible rfl) ?_
            refine fs ?_
            refine AWp.seq' ?_
            refine AWp.condM hm (by try simp only [go_sem, Nat.reduceBEq]; try rfl) (fun _ hm => ?_) (fun _ hm => ?_)
            · refine AWp.skip ?_
              refine normSeq ?_
              refine AWp.seq' ?_
              refine AWp.block ?_
              refine sr (N' := 192) rfl ?_
              obtain ⟨x12, h11, hm⟩ := bnd hm
              refine pu rfl (ap_idx CFs (by decide) Try.underlying45 sz9 (by try simp only [go_sem, Nat.reduceBEq]; try rfl) rfl (by try simp only [go_sem, Nat.reduceBEq]; try rfl) h11) ?_
              iterate 2 refine pu rfl (by simp only [go_sem, Nat.reduceBEq]; try with_reducible rfl) ?_
              refine fs ?_
              refine sr (N' := 256) rfl ?_
              refine pu rfl (by simp only [go_sem, Nat.reduceBEq]; try with_reducible rfl) ?_
              obtain ⟨r14, h13, hm⟩ := bnd hm
              refine ARun.callQ (r := GA.av r14) (by decide) (by try simp only [go_sem, Nat.reduceBEq]; try rfl) fb19 (fun H => (.cons (td (by try simp only [go_sem, Nat.reduceBEq]; try rfl) (.v _)) .nil)) (lexValue_c h13) ?_
              refine pu rfl (by simp only [go_sem, Nat.reduceBEq]; try with_reducible rfl) ?_
              refine fs ?_
              refine sr (N' := 320) rfl ?_
              refine pu rfl (by simp only [go_sem, Nat.reduceBEq]; try with_reducible rfl) ?_
              obtain ⟨⟨r16, r17⟩, h15, hm⟩ := bnd hm
              refine ARun.callQ (r := .tup [.v (.int .u64 r16), .v (.bool r17)]) (by decide) (by try simp only [go_sem, Nat.reduceBEq]; try rfl) fb18 (fun H => (.cons (td (by try simp only [go_sem, Nat.reduceBEq]; try rfl) (GA.data _)) .nil)) (lexIsNumber_c h15) ?_
              iterate 5 refine pu rfl (by simp only [go_sem, Nat.reduceBEq]; try with_reducible rfl) ?_
              refine fs ?_
              refine sr (N' := 384) rfl ?_
              refine pu rfl (by simp only [go_sem, Nat.reduceBEq]; try with_reducible rfl) ?_
              obtain ⟨⟨r19, r20⟩, h18, hm⟩ := bnd hm
              refine pu rfl (ap_asstr Try.underlying9 in9 tz9 (by try simp only [go_sem, Nat.reduceBEq]; try rfl) h18) ?_
              iterate 5 refine pu rfl (by simp only [go_sem, Nat.reduceBEq]; try with_reducible rfl) ?_
              refine fs ?_
              refine AWp.seq' ?_
              refine sr (N' := 448) rfl ?_
              iterate 15 (first | refine pu rfl (by simp only [go_sem, Nat.reduceBEq]; try with_reducible rfl) ?_ | refine pg rfl rfl (by simp only [go_sem, Nat.reduceBEq]; try with_reducible rfl) (by intro hb; simp only [go_sem, Nat.reduceBEq, hb, Bool.true_and]; try with_reducible rfl) ?_)
              refine fs ?_
              refine AWp.condM hm (by try simp only [go_sem, Nat.reduceBEq]; try rfl) (fun _ hm => ?_) (fun _ hm => ?_)
              · refine sr (N' := 512) rfl ?_
                refine pu rfl (by simp only [go_sem, Nat.reduceBEq]; try with_reducible rfl) ?_
                refine fs ?_
                refine AWp.ret ?_
                refine retSeq ?_
                refine retIn ?_
                refine retSeq ?_
                refine retThen ?_
                refine retIn ?_
                refine retIn ?_
                refine retSeq ?_
                refine retThen ?_
                refine retIn ?_
                refine retSeq ?_
                cases hm
                exact ret1D (.inr rfl) Try.results10 (td (by try simp only [go_sem, Nat.reduceBEq]; try rfl) (.v _))
              · refine AWp.skip ?_
                refine normSeq ?_
                refine sr (N' := 512) rfl ?_
                refine pu rfl (by simp only [go_sem, Nat.reduceBEq]; try with_reducible rfl) ?_
                obtain ⟨⟨r22, r23⟩, h21, hm⟩ := bnd hm
                refine ARun.callQ (r := .tup [.v (.int .u64 r22), .v (.int .i64 r23)]) (by decide) (by try simp only [go_sem, Nat.reduceBEq]; try rfl) fb16 (fun H => (.cons (td (by try simp only [go_sem, Nat.reduceBEq]; try rfl) (.v _)) .nil)) (lexNumber_c h21) ?_
                iterate 5 refine pu rfl (by simp only [go_sem, Nat.reduceBEq]; try with_reducible rfl) ?_
                refine fs ?_
                refine sr (N' := 576) rfl ?_
                iterate 17 (first | refine pu rfl (by simp only [go_sem, Nat.reduceBEq]; try with_reducible rfl) ?_ | refine pg rfl rfl (by simp only [go_sem, Nat.reduceBEq]; try with_reducible rfl) (by intro hb; simp only [go_sem, Nat.reduceBEq, hb, Bool.true_and]; try with_reducible rfl) ?_)
                refine fs ?_
                refine AWp.condM hm (by try simp only [go_sem, Nat.reduceBEq]; try rfl) (fun _ hm => ?_) (fun _ hm => ?_)
                · refine sr (N' := 640) rfl ?_
                  refine pu rfl (by simp only [go_sem, Nat.reduceBEq]; try with_reducible rfl) ?_
                  refine fs ?_
                  refine AWp.ret ?_
                  refine retIn ?_
                  refine retSeq ?_
                  refine retThen ?_
                  refine retIn ?_
                  refine retIn ?_
                  refine retSeq ?_
                  refine retThen ?_
                  refine retIn ?_
                  refine retSeq ?_
                  cases hm
                  exact ret1D (.inr rfl) Try.results10 (td (by try simp only [go_sem, Nat.reduceBEq]; try rfl) (.v _))
                · refine AWp.skip ?_
                  refine normIn ?_
                  refine normSeq ?_
                  refine AWp.reg 64 (N' := 640) rfl ?_
                  iterate 2 refine pu rfl (by simp only [go_sem, Nat.reduceBEq]; try with_reducible rfl) ?_
                  refine ARun.fin ?_
                  refine normThen ?_
                  refine ⟨_, ?_, t35, t36, t37, t41, t42, (IntKind.i64.wrap (t43 + 1)), rfl, hm⟩
                  exact le_canon id (wk_fset _ _ (wk_data (by try simp only [go_sem, Nat.reduceBEq]; try rfl) (.v _)) (wk_fset _ _ (wk_data (by try simp only [go_sem, Nat.reduceBEq]; try rfl) (.v _)) (wk_fset _ _ (wk_data (by try simp only [go_sem, Nat.reduceBEq]; try rfl) (CFs.sl _ _ _)) (wk_fset _ _ (wk_data (by try simp only [go_sem, Nat.reduceBEq]; try rfl) (.v _)) (wk_fset _ _ (wk_data (by try simp only [go_sem, Nat.reduceBEq]; try rfl) (.v _)) (wk_fset _ _ (wk_data (by try simp only [go_sem, Nat.reduceBEq]; try rfl) ((CFl CFs).sl _ _ _)) wk_none)))))) heapWk0
            · refine AWp.exit ?_
              refine exitSeq ?_
              refine exitThen ?_
              refine exitHere ?_
              refine normIn ?_
              refine normSeq ?_
              refine AWp.reg 64 (N' := 192) rfl ?_
              iterate 2 refine pu rfl (by simp only [go_sem, Nat.reduceBEq]; try with_reducible rfl) ?_
              refine ARun.fin ?_
              refine normThen ?_
              refine ⟨_, ?_, t35, t36, (IntKind.i64.wrap (t37 + 1)), rfl, hm⟩
              exact le_canon id (wk_fset _ _ (wk_data (by try simp only [go_sem, Nat.reduceBEq]; try rfl) (.v _)) (wk_fset _ _ (wk_data (by try simp only [go_sem, Nat.reduceBEq]; try rfl) (.v _)) (wk_fset _ _ (wk_data (by try simp only [go_sem, Nat.reduceBEq]; try rfl) ((CFl CFs).sl _ _ _)) wk_none))) heapWk0
        · refine AWp.exit ?_
          refine exitSeq ?_
          refine exitThen ?_
          refine exitHere ?_
          refine normSeq ?_
          refine sr (N' := 192) rfl ?_
          obtain ⟨r25, h24, hm⟩ := bnd hm
          refine ARun.callQ (r := .v (.bool r25)) (by decide) (by try simp only [go_sem, Nat.reduceBEq]; try rfl) fb11 (fun H => .nil) (lexAwake_c h24) ?_
          refine pu rfl (by simp only [go_sem, Nat.reduceBEq]; try with_reducible rfl) ?_
          refine fs ?_
          refine AWp.ret ?_
          cases hm
          exact ret1D (.inr rfl) Try.results10 (td (by try simp only [go_sem, Nat.reduceBEq]; try rfl) (.v _))
end Go.Proofs.Ytoenhcdjahpdhaa
