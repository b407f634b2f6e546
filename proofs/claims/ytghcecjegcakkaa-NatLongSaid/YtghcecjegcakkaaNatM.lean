/- Plain functions in lockstep with the code, and that the code computes them. (Printed by a program.) -/
import Derived.Test.YtghcecjegcakkaaAmD
import Derived.Test.YtghcecjegcakkaaFacts
set_option linter.unusedVariables false
set_option linter.unusedSimpArgs false
set_option maxRecDepth 20000
set_option maxHeartbeats 4000000
namespace Go.Proofs.Ytghcecjegcakkaa
open Go Go.AM
theorem ld3 (H : Heap) (x : AV) (xs : List AV) : aload Try.prog H 3 (.ptr (x :: xs)) = some x := by kernel_rfl
attribute [go_sem] ld3
theorem ld33 (H : Heap) (x : AV) (xs : List AV) : aload Try.prog H 33 (.ptr (x :: xs)) = some x := by kernel_rfl
attribute [go_sem] ld33
theorem cv3_34 (H : Heap) (k : IntKind) (n : Int) : aconv Try.prog H 3 34 (.v (.int k n)) = some (.v (.int .u64 (IntKind.u64.wrap n))) := aconv_int Try.underlying3 Try.underlying34
attribute [go_sem] cv3_34
theorem cv5_3 (H : Heap) (k : IntKind) (n : Int) : aconv Try.prog H 5 3 (.v (.int k n)) = some (.v (.int .i64 (IntKind.i64.wrap n))) := aconv_int Try.underlying5 Try.underlying3
attribute [go_sem] cv5_3
theorem cv23_33 (H : Heap) (k : IntKind) (n : Int) : aconv Try.prog H 23 33 (.v (.int k n)) = some (.v (.int .u32 (IntKind.u32.wrap n))) := aconv_int Try.underlying23 Try.underlying33
attribute [go_sem] cv23_33
theorem cv33_3 (H : Heap) (k : IntKind) (n : Int) : aconv Try.prog H 33 3 (.v (.int k n)) = some (.v (.int .i64 (IntKind.i64.wrap n))) := aconv_int Try.underlying33 Try.underlying3
attribute [go_sem] cv33_3
theorem cv33_23 (H : Heap) (k : IntKind) (n : Int) : aconv Try.prog H 33 23 (.v (.int k n)) = some (.v (.int .u64 (IntKind.u64.wrap n))) := aconv_int Try.underlying33 Try.underlying23
attribute [go_sem] cv33_23
def natRight_m (a_0 : List Int) : Option (Bool) :=
  ((gopt (((decide ((a_0.length : Int) ≤ 64)) == true) && (((a_0.length : Int) == 0) == false)) 0 (idx a_0 (IntKind.i64.wrap ((a_0.length : Int) - 1)))).bind fun x2 =>
  some ((decide ((a_0.length : Int) ≤ 64)) && (((a_0.length : Int) == 0) || (x2 != 0))))
theorem natRight_c {a_0 : List Int} {r : Bool} (hm : natRight_m a_0 = some r) : PureC Try.prog 15 [.sl (a_0.flatMap (ci .u32)) a_0.length false] (.v (.bool r)) := by
  refine PureC.of_body Try.func15 rfl ?_
  simp only [Try.ntmps15, List.length_cons, List.length_nil, Nat.reduceAdd, Nat.reduceSub, empty_eq]
  unfold natRight_m at hm
  refine sr (N' := 64) rfl ?_
  refine pu rfl (by simp only [go_sem, Nat.reduceBEq]; try with_reducible rfl) ?_
  refine fs ?_
  refine sr (N' := 128) rfl ?_
  iterate 12 (first | refine pu rfl (by simp only [go_sem, Nat.reduceBEq]; try with_reducible rfl) ?_ | refine pg rfl rfl (by simp only [go_sem, Nat.reduceBEq]; try with_reducible rfl) (by intro hb; simp only [go_sem, Nat.reduceBEq, hb, Bool.true_and]; try with_reducible rfl) ?_)
  obtain ⟨x2, h1, hm⟩ := bnd hm
  refine pg rfl rfl (by simp only [go_sem, Nat.reduceBEq]; try with_reducible rfl) (fun hb => (ap_idx (CFi .u32) (by decide) Try.underlying22 sz33 (by try simp only [go_sem, Nat.reduceBEq, hb, Bool.true_and]; try rfl) rfl (by try simp only [go_sem, Nat.reduceBEq, hb, Bool.true_and]; try rfl) (gopt_t h1 hb))) ?_
  iterate 5 (first | refine pu rfl (by simp only [go_sem, Nat.reduceBEq]; try with_reducible rfl) ?_ | refine pg rfl rfl (by simp only [go_sem, Nat.reduceBEq]; try with_reducible rfl) (by intro hb; simp only [go_sem, Nat.reduceBEq, hb, Bool.true_and]; try with_reducible rfl) ?_)
  refine fs ?_
  refine AWp.ret ?_
  cases hm
  exact ret1D (.inr rfl) Try.results15 (td (by try simp only [go_sem, Nat.reduceBEq]; try rfl) (.v _))
def isNaNi_m (x_0 : Int) : Option (Bool) :=
  some (x_0 != x_0)
theorem isNaNi_c {x_0 : Int} {r : Bool} (hm : isNaNi_m x_0 = some r) : PureC Try.prog 32 [.v (.int .i64 x_0)] (.v (.bool r)) := by
  refine PureC.of_body Try.func32 rfl ?_
  simp only [Try.ntmps32, List.length_cons, List.length_nil, Nat.reduceAdd, Nat.reduceSub, empty_eq]
  unfold isNaNi_m at hm
  refine sr (N' := 64) rfl ?_
  refine pu rfl (by simp only [go_sem, Nat.reduceBEq]; try with_reducible rfl) ?_
  refine fs ?_
  refine sr (N' := 128) rfl ?_
  iterate 4 refine pu rfl (by simp only [go_sem, Nat.reduceBEq]; try with_reducible rfl) ?_
  refine fs ?_
  refine AWp.ret ?_
  cases hm
  exact ret1D (.inr rfl) Try.results32 (td (by try simp only [go_sem, Nat.reduceBEq]; try rfl) (.v _))
def isNaNu_m (x_0 : Int) : Option (Bool) :=
  some (x_0 != x_0)
theorem isNaNu_c {x_0 : Int} {r : Bool} (hm : isNaNu_m x_0 = some r) : PureC Try.prog 33 [.v (.int .u32 x_0)] (.v (.bool r)) := by
  refine PureC.of_body Try.func33 rfl ?_
  simp only [Try.ntmps33, List.length_cons, List.length_nil, Nat.reduceAdd, Nat.reduceSub, empty_eq]
  unfold isNaNu_m at hm
  refine sr (N' := 64) rfl ?_
  refine pu rfl (by simp only [go_sem, Nat.reduceBEq]; try with_reducible rfl) ?_
  refine fs ?_
  refine sr (N' := 128) rfl ?_
  iterate 4 refine pu rfl (by simp only [go_sem, Nat.reduceBEq]; try with_reducible rfl) ?_
  refine fs ?_
  refine AWp.ret ?_
  cases hm
  exact ret1D (.inr rfl) Try.results33 (td (by try simp only [go_sem, Nat.reduceBEq]; try rfl) (.v _))
def refRight_m (a_0 : List Int) : Option (Bool) :=
  (bif (decide (64 < (a_0.length : Int))) then
    some false
  else
    ((gopt (((a_0.length : Int) == 0) == false) 0 (idx a_0 (IntKind.i64.wrap ((a_0.length : Int) - 1)))).bind fun x2 =>
    some (((a_0.length : Int) == 0) || (decide (0 < x2)))))
theorem refRight_c {a_0 : List Int} {r : Bool} (hm : refRight_m a_0 = some r) : PureC Try.prog 14 [.sl (a_0.flatMap (ci .u32)) a_0.length false] (.v (.bool r)) := by
  refine PureC.of_body Try.func14 rfl ?_
  simp only [Try.ntmps14, List.length_cons, List.length_nil, Nat.reduceAdd, Nat.reduceSub, empty_eq]
  unfold refRight_m at hm
  refine sr (N' := 64) rfl ?_
  refine pu rfl (by simp only [go_sem, Nat.reduceBEq]; try with_reducible rfl) ?_
  refine fs ?_
  refine AWp.seq' ?_
  refine sr (N' := 128) rfl ?_
  iterate 3 refine pu rfl (by simp only [go_sem, Nat.reduceBEq]; try with_reducible rfl) ?_
  refine fs ?_
  refine AWp.condM hm (by try simp only [go_sem, Nat.reduceBEq]; try rfl) (fun _ hm => ?_) (fun _ hm => ?_)
  · refine sr (N' := 192) rfl ?_
    refine pu rfl (by simp only [go_sem, Nat.reduceBEq]; try with_reducible rfl) ?_
    refine fs ?_
    refine AWp.ret ?_
    refine retSeq ?_
    cases hm
    exact ret1D (.inr rfl) Try.results14 (td (by try simp only [go_sem, Nat.reduceBEq]; try rfl) (.v _))
  · refine AWp.skip ?_
    refine normSeq ?_
    refine sr (N' := 192) rfl ?_
    iterate 8 (first | refine pu rfl (by simp only [go_sem, Nat.reduceBEq]; try with_reducible rfl) ?_ | refine pg rfl rfl (by simp only [go_sem, Nat.reduceBEq]; try with_reducible rfl) (by intro hb; simp only [go_sem, Nat.reduceBEq, hb, Bool.true_and]; try with_reducible rfl) ?_)
    obtain ⟨x2, h1, hm⟩ := bnd hm
    refine pg rfl rfl (by simp only [go_sem, Nat.reduceBEq]; try with_reducible rfl) (fun hb => (ap_idx (CFi .u32) (by decide) Try.underlying22 sz33 (by try simp only [go_sem, Nat.reduceBEq, hb, Bool.true_and]; try rfl) rfl (by try simp only [go_sem, Nat.reduceBEq, hb, Bool.true_and]; try rfl) (gopt_t h1 hb))) ?_
    iterate 4 (first | refine pu rfl (by simp only [go_sem, Nat.reduceBEq]; try with_reducible rfl) ?_ | refine pg rfl rfl (by simp only [go_sem, Nat.reduceBEq]; try with_reducible rfl) (by intro hb; simp only [go_sem, Nat.reduceBEq, hb, Bool.true_and]; try with_reducible rfl) ?_)
    refine fs ?_
    refine AWp.ret ?_
    cases hm
    exact ret1D (.inr rfl) Try.results14 (td (by try simp only [go_sem, Nat.reduceBEq]; try rfl) (.v _))
def refSame_B1 (rec1 : List Int → List Int → Int → Option (Bool)) (a_0 : List Int) (b_1 : List Int) (i_5 : Int) : Option (Bool) :=
  (bif (decide (i_5 < (a_0.length : Int))) then
    ((idx a_0 i_5).bind fun x2 =>
    ((idx b_1 i_5).bind fun x4 =>
    (bif (x2 != x4) then
      some false
    else
      rec1 a_0 b_1 (IntKind.i64.wrap (i_5 + 1)))))
  else
    some true)
def refSame_L1 : Nat → List Int → List Int → Int → Option (Bool)
  | 0 => fun _ _ _ => none
  | n + 1 => refSame_B1 (refSame_L1 n)
def refSame_m (a_0 : List Int) (b_1 : List Int) : Option (Bool) :=
  (bif ((a_0.length : Int) != (b_1.length : Int)) then
    some false
  else
    refSame_L1 FUEL a_0 b_1 0)
theorem refSame_c {a_0 : List Int} {b_1 : List Int} {r : Bool} (hm : refSame_m a_0 b_1 = some r) : PureC Try.prog 16 [.sl (a_0.flatMap (ci .u32)) a_0.length false, .sl (b_1.flatMap (ci .u32)) b_1.length false] (.v (.bool r)) := by
  refine PureC.of_body Try.func16 rfl ?_
  simp only [Try.ntmps16, List.length_cons, List.length_nil, Nat.reduceAdd, Nat.reduceSub, empty_eq]
  unfold refSame_m at hm
  refine sr (N' := 64) rfl ?_
  refine pu rfl (by simp only [go_sem, Nat.reduceBEq]; try with_reducible rfl) ?_
  refine fs ?_
  refine AWp.seq' ?_
  refine sr (N' := 128) rfl ?_
  iterate 5 refine pu rfl (by simp only [go_sem, Nat.reduceBEq]; try with_reducible rfl) ?_
  refine fs ?_
  refine AWp.condM hm (by try simp only [go_sem, Nat.reduceBEq]; try rfl) (fun _ hm => ?_) (fun _ hm => ?_)
  · refine sr (N' := 192) rfl ?_
    refine pu rfl (by simp only [go_sem, Nat.reduceBEq]; try with_reducible rfl) ?_
    refine fs ?_
    refine AWp.ret ?_
    refine retSeq ?_
    cases hm
    exact ret1D (.inr rfl) Try.results16 (td (by try simp only [go_sem, Nat.reduceBEq]; try rfl) (.v _))
  · refine AWp.skip ?_
    refine normSeq ?_
    refine AWp.seq' ?_
    refine sr (N' := 192) rfl ?_
    refine pu rfl (by simp only [go_sem, Nat.reduceBEq]; try with_reducible rfl) ?_
    refine fs ?_
    refine AWp.block ?_
    refine AWp.loopM (fun m s => ∃ (a_0 : List Int) (b_1 : List Int) (i_5 : Int), s = (⟨26, (fset (fset (fset (fun _ => AV.any) 0 (.sl (a_0.flatMap (ci .u32)) a_0.length false)) 1 (.sl (b_1.flatMap (ci .u32)) b_1.length false)) 5 (.v (.int .i64 i_5))), ⟨nofresh, 64⟩⟩ : St) ∧ refSame_L1 m a_0 b_1 i_5 = some r) FUEL ?_ ?_ ?_
    · rintro s ⟨_, _, _, _, h⟩
      cases h
    · refine ⟨_, ?_, a_0, b_1, 0, rfl, hm⟩
      exact le_canon id (wk_fset _ _ (wk_data (by try simp only [go_sem, Nat.reduceBEq]; try rfl) (.v _)) (wk_fset _ _ (wk_data (by try simp only [go_sem, Nat.reduceBEq]; try rfl) ((CFi .u32).sl _ _ _)) (wk_fset _ _ (wk_data (by try simp only [go_sem, Nat.reduceBEq]; try rfl) ((CFi .u32).sl _ _ _)) wk_none))) heapWk0
    · rintro n1 s ⟨a_0, b_1, i_5, rfl, hm⟩
      replace hm : refSame_B1 (refSame_L1 n1) a_0 b_1 i_5 = some r := hm
      unfold refSame_B1 at hm
      refine AWp.seq' ?_
      refine sr (N' := 128) rfl ?_
      iterate 4 refine pu rfl (by simp only [go_sem, Nat.reduceBEq]; try with_reducible rfl) ?_
      refine fs ?_
      refine AWp.condM hm (by try simp only [go_sem, Nat.reduceBEq]; try rfl) (fun _ hm => ?_) (fun _ hm => ?_)
      · refine AWp.skip ?_
        refine normSeq ?_
        refine AWp.seq' ?_
        refine AWp.block ?_
        refine sd mix (by kernel_rfl) (N' := 192) rfl ?_
        iterate 2 refine pu rfl (by simp only [go_sem, Nat.reduceBEq]; try with_reducible rfl) ?_
        obtain ⟨x2, h1, hm⟩ := bnd hm
        refine pu rfl (ap_idx (CFi .u32) (by decide) Try.underlying22 sz33 (by try simp only [go_sem, Nat.reduceBEq]; try rfl) rfl (by try simp only [go_sem, Nat.reduceBEq]; try rfl) h1) ?_
        iterate 3 refine pu rfl (by simp only [go_sem, Nat.reduceBEq]; try with_reducible rfl) ?_
        obtain ⟨x4, h3, hm⟩ := bnd hm
        refine pu rfl (ap_idx (CFi .u32) (by decide) Try.underlying22 sz33 (by try simp only [go_sem, Nat.reduceBEq]; try rfl) rfl (by try simp only [go_sem, Nat.reduceBEq]; try rfl) h3) ?_
        iterate 2 refine pu rfl (by simp only [go_sem, Nat.reduceBEq]; try with_reducible rfl) ?_
        refine fs ?_
        refine AWp.condM hm (by try simp only [go_sem, Nat.reduceBEq]; try rfl) (fun _ hm => ?_) (fun _ hm => ?_)
        · refine sr (N' := 256) rfl ?_
          refine pu rfl (by simp only [go_sem, Nat.reduceBEq]; try with_reducible rfl) ?_
          refine fs ?_
          refine AWp.ret ?_
          refine retIn ?_
          refine retSeq ?_
          refine retThen ?_
          refine retIn ?_
          refine retSeq ?_
          cases hm
          exact ret1D (.inr rfl) Try.results16 (td (by try simp only [go_sem, Nat.reduceBEq]; try rfl) (.v _))
        · refine AWp.skip ?_
          refine normIn ?_
          refine normSeq ?_
          refine AWp.reg 64 (N' := 256) rfl ?_
          iterate 3 refine pu rfl (by simp only [go_sem, Nat.reduceBEq]; try with_reducible rfl) ?_
          refine ARun.fin ?_
          refine normThen ?_
          refine ⟨_, ?_, a_0, b_1, (IntKind.i64.wrap (i_5 + 1)), rfl, hm⟩
          exact le_canon id (wk_fset _ _ (wk_data (by try simp only [go_sem, Nat.reduceBEq]; try rfl) (.v _)) (wk_fset _ _ (wk_data (by try simp only [go_sem, Nat.reduceBEq]; try rfl) ((CFi .u32).sl _ _ _)) (wk_fset _ _ (wk_data (by try simp only [go_sem, Nat.reduceBEq]; try rfl) ((CFi .u32).sl _ _ _)) wk_none))) heapWk0
      · refine AWp.exit ?_
        refine exitSeq ?_
        refine exitThen ?_
        refine exitHere ?_
        refine normSeq ?_
        refine sr (N' := 192) rfl ?_
        refine pu rfl (by simp only [go_sem, Nat.reduceBEq]; try with_reducible rfl) ?_
        refine fs ?_
        refine AWp.ret ?_
        cases hm
        exact ret1D (.inr rfl) Try.results16 (td (by try simp only [go_sem, Nat.reduceBEq]; try rfl) (.v _))
def cmpI_m (x_0 : Int) (y_1 : Int) : Option (Int) :=
  ((isNaNi_m x_0).bind fun r2 =>
  ((isNaNi_m y_1).bind fun r4 =>
  (bif r2 then
    (bif r4 then
      some 0
    else
      some (-1))
  else
    (bif r4 then
      some 1
    else
      (bif (decide (x_0 < y_1)) then
        some (-1)
      else
        (bif (decide (y_1 < x_0)) then
          some 1
        else
          some 0))))))
theorem cmpI_c {x_0 : Int} {y_1 : Int} {r : Int} (hm : cmpI_m x_0 y_1 = some r) : PureC Try.prog 26 [.v (.int .i64 x_0), .v (.int .i64 y_1)] (.v (.int .i64 r)) := by
  refine PureC.of_body Try.func26 rfl ?_
  simp only [Try.ntmps26, List.length_cons, List.length_nil, Nat.reduceAdd, Nat.reduceSub, empty_eq]
  unfold cmpI_m at hm
  refine sr (N' := 64) rfl ?_
  refine pu rfl (by simp only [go_sem, Nat.reduceBEq]; try with_reducible rfl) ?_
  refine fs ?_
  refine sr (N' := 128) rfl ?_
  refine pu rfl (by simp only [go_sem, Nat.reduceBEq]; try with_reducible rfl) ?_
  obtain ⟨r2, h1, hm⟩ := bnd hm
  refine ARun.callQ (r := .v (.bool r2)) (by decide) (by try simp only [go_sem, Nat.reduceBEq]; try rfl) fb32 (fun H => (.cons (td (by try simp only [go_sem, Nat.reduceBEq]; try rfl) (.v _)) .nil)) (isNaNi_c h1) ?_
  refine pu rfl (by simp only [go_sem, Nat.reduceBEq]; try with_reducible rfl) ?_
  refine fs ?_
  refine sr (N' := 192) rfl ?_
  refine pu rfl (by simp only [go_sem, Nat.reduceBEq]; try with_reducible rfl) ?_
  obtain ⟨r4, h3, hm⟩ := bnd hm
  refine ARun.callQ (r := .v (.bool r4)) (by decide) (by try simp only [go_sem, Nat.reduceBEq]; try rfl) fb32 (fun H => (.cons (td (by try simp only [go_sem, Nat.reduceBEq]; try rfl) (.v _)) .nil)) (isNaNi_c h3) ?_
  refine pu rfl (by simp only [go_sem, Nat.reduceBEq]; try with_reducible rfl) ?_
  refine fs ?_
  refine AWp.seq' ?_
  refine sr (N' := 256) rfl ?_
  refine pu rfl (by simp only [go_sem, Nat.reduceBEq]; try with_reducible rfl) ?_
  refine fs ?_
  refine AWp.condM hm (by try simp only [go_sem, Nat.reduceBEq]; try rfl) (fun _ hm => ?_) (fun _ hm => ?_)
  · refine AWp.seq' ?_
    refine sr (N' := 320) rfl ?_
    refine pu rfl (by simp only [go_sem, Nat.reduceBEq]; try with_reducible rfl) ?_
    refine fs ?_
    refine AWp.condM hm (by try simp only [go_sem, Nat.reduceBEq]; try rfl) (fun _ hm => ?_) (fun _ hm => ?_)
    · refine sr (N' := 384) rfl ?_
      refine pu rfl (by simp only [go_sem, Nat.reduceBEq]; try with_reducible rfl) ?_
      refine fs ?_
      refine AWp.ret ?_
      refine retSeq ?_
      refine retSeq ?_
      cases hm
      exact ret1D (.inr rfl) Try.results26 (td (by try simp only [go_sem, Nat.reduceBEq]; try rfl) (.v _))
    · refine AWp.skip ?_
      refine normSeq ?_
      refine sr (N' := 384) rfl ?_
      refine pu rfl (by simp only [go_sem, Nat.reduceBEq]; try with_reducible rfl) ?_
      refine fs ?_
      refine AWp.ret ?_
      refine retSeq ?_
      cases hm
      exact ret1D (.inr rfl) Try.results26 (td (by try simp only [go_sem, Nat.reduceBEq]; try rfl) (.v _))
  · refine AWp.skip ?_
    refine normSeq ?_
    refine AWp.seq' ?_
    refine sr (N' := 320) rfl ?_
    refine pu rfl (by simp only [go_sem, Nat.reduceBEq]; try with_reducible rfl) ?_
    refine fs ?_
    refine AWp.condM hm (by try simp only [go_sem, Nat.reduceBEq]; try rfl) (fun _ hm => ?_) (fun _ hm => ?_)
    · refine sr (N' := 384) rfl ?_
      refine pu rfl (by simp only [go_sem, Nat.reduceBEq]; try with_reducible rfl) ?_
      refine fs ?_
      refine AWp.ret ?_
      refine retSeq ?_
      cases hm
      exact ret1D (.inr rfl) Try.results26 (td (by try simp only [go_sem, Nat.reduceBEq]; try rfl) (.v _))
    · refine AWp.skip ?_
      refine normSeq ?_
      refine AWp.seq' ?_
      refine sr (N' := 384) rfl ?_
      iterate 3 refine pu rfl (by simp only [go_sem, Nat.reduceBEq]; try with_reducible rfl) ?_
      refine fs ?_
      refine AWp.condM hm (by try simp only [go_sem, Nat.reduceBEq]; try rfl) (fun _ hm => ?_) (fun _ hm => ?_)
      · refine sr (N' := 448) rfl ?_
        refine pu rfl (by simp only [go_sem, Nat.reduceBEq]; try with_reducible rfl) ?_
        refine fs ?_
        refine AWp.ret ?_
        refine retSeq ?_
        cases hm
        exact ret1D (.inr rfl) Try.results26 (td (by try simp only [go_sem, Nat.reduceBEq]; try rfl) (.v _))
      · refine AWp.skip ?_
        refine normSeq ?_
        refine AWp.seq' ?_
        refine sr (N' := 448) rfl ?_
        iterate 3 refine pu rfl (by simp only [go_sem, Nat.reduceBEq]; try with_reducible rfl) ?_
        refine fs ?_
        refine AWp.condM hm (by try simp only [go_sem, Nat.reduceBEq]; try rfl) (fun _ hm => ?_) (fun _ hm => ?_)
        · refine sr (N' := 512) rfl ?_
          refine pu rfl (by simp only [go_sem, Nat.reduceBEq]; try with_reducible rfl) ?_
          refine fs ?_
          refine AWp.ret ?_
          refine retSeq ?_
          cases hm
          exact ret1D (.inr rfl) Try.results26 (td (by try simp only [go_sem, Nat.reduceBEq]; try rfl) (.v _))
        · refine AWp.skip ?_
          refine normSeq ?_
          refine sr (N' := 512) rfl ?_
          refine pu rfl (by simp only [go_sem, Nat.reduceBEq]; try with_reducible rfl) ?_
          refine fs ?_
          refine AWp.ret ?_
          cases hm
          exact ret1D (.inr rfl) Try.results26 (td (by try simp only [go_sem, Nat.reduceBEq]; try rfl) (.v _))
def cmpU_m (x_0 : Int) (y_1 : Int) : Option (Int) :=
  ((isNaNu_m x_0).bind fun r2 =>
  ((isNaNu_m y_1).bind fun r4 =>
  (bif r2 then
    (bif r4 then
      some 0
    else
      some (-1))
  else
    (bif r4 then
      some 1
    else
      (bif (decide (x_0 < y_1)) then
        some (-1)
      else
        (bif (decide (y_1 < x_0)) then
          some 1
        else
          some 0))))))
theorem cmpU_c {x_0 : Int} {y_1 : Int} {r : Int} (hm : cmpU_m x_0 y_1 = some r) : PureC Try.prog 27 [.v (.int .u32 x_0), .v (.int .u32 y_1)] (.v (.int .i64 r)) := by
  refine PureC.of_body Try.func27 rfl ?_
  simp only [Try.ntmps27, List.length_cons, List.length_nil, Nat.reduceAdd, Nat.reduceSub, empty_eq]
  unfold cmpU_m at hm
  refine sr (N' := 64) rfl ?_
  refine pu rfl (by simp only [go_sem, Nat.reduceBEq]; try with_reducible rfl) ?_
  refine fs ?_
  refine sr (N' := 128) rfl ?_
  refine pu rfl (by simp only [go_sem, Nat.reduceBEq]; try with_reducible rfl) ?_
  obtain ⟨r2, h1, hm⟩ := bnd hm
  refine ARun.callQ (r := .v (.bool r2)) (by decide) (by try simp only [go_sem, Nat.reduceBEq]; try rfl) fb33 (fun H => (.cons (td (by try simp only [go_sem, Nat.reduceBEq]; try rfl) (.v _)) .nil)) (isNaNu_c h1) ?_
  refine pu rfl (by simp only [go_sem, Nat.reduceBEq]; try with_reducible rfl) ?_
  refine fs ?_
  refine sr (N' := 192) rfl ?_
  refine pu rfl (by simp only [go_sem, Nat.reduceBEq]; try with_reducible rfl) ?_
  obtain ⟨r4, h3, hm⟩ := bnd hm
  refine ARun.callQ (r := .v (.bool r4)) (by decide) (by try simp only [go_sem, Nat.reduceBEq]; try rfl) fb33 (fun H => (.cons (td (by try simp only [go_sem, Nat.reduceBEq]; try rfl) (.v _)) .nil)) (isNaNu_c h3) ?_
  refine pu rfl (by simp only [go_sem, Nat.reduceBEq]; try with_reducible rfl) ?_
  refine fs ?_
  refine AWp.seq' ?_
  refine sr (N' := 256) rfl ?_
  refine pu rfl (by simp only [go_sem, Nat.reduceBEq]; try with_reducible rfl) ?_
  refine fs ?_
  refine AWp.condM hm (by try simp only [go_sem, Nat.reduceBEq]; try rfl) (fun _ hm => ?_) (fun _ hm => ?_)
  · refine AWp.seq' ?_
    refine sr (N' := 320) rfl ?_
    refine pu rfl (by simp only [go_sem, Nat.reduceBEq]; try with_reducible rfl) ?_
    refine fs ?_
    refine AWp.condM hm (by try simp only [go_sem, Nat.reduceBEq]; try rfl) (fun _ hm => ?_) (fun _ hm => ?_)
    · refine sr (N' := 384) rfl ?_
      refine pu rfl (by simp only [go_sem, Nat.reduceBEq]; try with_reducible rfl) ?_
      refine fs ?_
      refine AWp.ret ?_
      refine retSeq ?_
      refine retSeq ?_
      cases hm
      exact ret1D (.inr rfl) Try.results27 (td (by try simp only [go_sem, Nat.reduceBEq]; try rfl) (.v _))
    · refine AWp.skip ?_
      refine normSeq ?_
      refine sr (N' := 384) rfl ?_
      refine pu rfl (by simp only [go_sem, Nat.reduceBEq]; try with_reducible rfl) ?_
      refine fs ?_
      refine AWp.ret ?_
      refine retSeq ?_
      cases hm
      exact ret1D (.inr rfl) Try.results27 (td (by try simp only [go_sem, Nat.reduceBEq]; try rfl) (.v _))
  · refine AWp.skip ?_
    refine normSeq ?_
    refine AWp.seq' ?_
    refine sr (N' := 320) rfl ?_
    refine pu rfl (by simp only [go_sem, Nat.reduceBEq]; try with_reducible rfl) ?_
    refine fs ?_
    refine AWp.condM hm (by try simp only [go_sem, Nat.reduceBEq]; try rfl) (fun _ hm => ?_) (fun _ hm => ?_)
    · refine sr (N' := 384) rfl ?_
      refine pu rfl (by simp only [go_sem, Nat.reduceBEq]; try with_reducible rfl) ?_
      refine fs ?_
      refine AWp.ret ?_
      refine retSeq ?_
      cases hm
      exact ret1D (.inr rfl) Try.results27 (td (by try simp only [go_sem, Nat.reduceBEq]; try rfl) (.v _))
    · refine AWp.skip ?_
      refine normSeq ?_
      refine AWp.seq' ?_
      refine sr (N' := 384) rfl ?_
      iterate 3 refine pu rfl (by simp only [go_sem, Nat.reduceBEq]; try with_reducible rfl) ?_
      refine fs ?_
      refine AWp.condM hm (by try simp only [go_sem, Nat.reduceBEq]; try rfl) (fun _ hm => ?_) (fun _ hm => ?_)
      · refine sr (N' := 448) rfl ?_
        refine pu rfl (by simp only [go_sem, Nat.reduceBEq]; try with_reducible rfl) ?_
        refine fs ?_
        refine AWp.ret ?_
        refine retSeq ?_
        cases hm
        exact ret1D (.inr rfl) Try.results27 (td (by try simp only [go_sem, Nat.reduceBEq]; try rfl) (.v _))
      · refine AWp.skip ?_
        refine normSeq ?_
        refine AWp.seq' ?_
        refine sr (N' := 448) rfl ?_
        iterate 3 refine pu rfl (by simp only [go_sem, Nat.reduceBEq]; try with_reducible rfl) ?_
        refine fs ?_
        refine AWp.condM hm (by try simp only [go_sem, Nat.reduceBEq]; try rfl) (fun _ hm => ?_) (fun _ hm => ?_)
        · refine sr (N' := 512) rfl ?_
          refine pu rfl (by simp only [go_sem, Nat.reduceBEq]; try with_reducible rfl) ?_
          refine fs ?_
          refine AWp.ret ?_
          refine retSeq ?_
          cases hm
          exact ret1D (.inr rfl) Try.results27 (td (by try simp only [go_sem, Nat.reduceBEq]; try rfl) (.v _))
        · refine AWp.skip ?_
          refine normSeq ?_
          refine sr (N' := 512) rfl ?_
          refine pu rfl (by simp only [go_sem, Nat.reduceBEq]; try with_reducible rfl) ?_
          refine fs ?_
          refine AWp.ret ?_
          cases hm
          exact ret1D (.inr rfl) Try.results27 (td (by try simp only [go_sem, Nat.reduceBEq]; try rfl) (.v _))
def clipU_m (s_0 : List Int) : Option ((List Int)) :=
  ((slc3 s_0 0 (s_0.length : Int) (s_0.length : Int)).bind fun l2 =>
  some l2)
theorem clipU_c {s_0 : List Int} {r : (List Int)} (hm : clipU_m s_0 = some r) : PureC Try.prog 34 [.sl (s_0.flatMap (ci .u32)) s_0.length false] (.sl (r.flatMap (ci .u32)) r.length false) := by
  refine PureC.of_body Try.func34 rfl ?_
  simp only [Try.ntmps34, List.length_cons, List.length_nil, Nat.reduceAdd, Nat.reduceSub, empty_eq]
  unfold clipU_m at hm
  refine sr (N' := 64) rfl ?_
  refine pu rfl (by simp only [go_sem, Nat.reduceBEq]; try with_reducible rfl) ?_
  refine fs ?_
  refine sr (N' := 128) rfl ?_
  iterate 5 refine pu rfl (by simp only [go_sem, Nat.reduceBEq]; try with_reducible rfl) ?_
  obtain ⟨l2, h1, hm⟩ := bnd hm
  refine pu rfl (ap_slc3 (CFi .u32) Try.underlying22 sz33 (by try simp only [go_sem, Nat.reduceBEq]; try rfl) rfl ab_none0 (ab_some (by try simp only [go_sem, Nat.reduceBEq]; try rfl) (slc3_0 h1).2.1) (ab_some (by try simp only [go_sem, Nat.reduceBEq]; try rfl) (slc3_0 h1).2.2) rfl rfl h1) ?_
  refine pu rfl (by simp only [go_sem, Nat.reduceBEq]; try with_reducible rfl) ?_
  refine fs ?_
  refine AWp.ret ?_
  cases hm
  exact ret1D (.inr rfl) Try.results34 (tdf (by try simp only [go_sem, Nat.reduceBEq]; try rfl) ((CFi .u32).sl _ _ _))
def natTrimmed_B1 (rec1 : List Int → Option ((List Int))) (a_0 : List Int) : Option ((List Int)) :=
  ((gopt ((decide (0 < (a_0.length : Int))) == true) 0 (idx a_0 (IntKind.i64.wrap ((a_0.length : Int) - 1)))).bind fun x2 =>
  (bif ((decide (0 < (a_0.length : Int))) && (x2 == 0)) then
    ((slc a_0 0 (IntKind.i64.wrap ((a_0.length : Int) - 1))).bind fun l4 =>
    rec1 l4)
  else
    ((clipU_m a_0).bind fun r6 =>
    some r6)))
def natTrimmed_L1 : Nat → List Int → Option ((List Int))
  | 0 => fun _ => none
  | n + 1 => natTrimmed_B1 (natTrimmed_L1 n)
def natTrimmed_m (a_0 : List Int) : Option ((List Int)) :=
  natTrimmed_L1 FUEL a_0
theorem natTrimmed_c {a_0 : List Int} {r : (List Int)} (hm : natTrimmed_m a_0 = some r) : PureC Try.prog 28 [.sl (a_0.flatMap (ci .u32)) a_0.length false] (.sl (r.flatMap (ci .u32)) r.length false) := by
  refine PureC.of_body Try.func28 rfl ?_
  simp only [Try.ntmps28, List.length_cons, List.length_nil, Nat.reduceAdd, Nat.reduceSub, empty_eq]
  unfold natTrimmed_m at hm
  refine sr (N' := 64) rfl ?_
  refine pu rfl (by simp only [go_sem, Nat.reduceBEq]; try with_reducible rfl) ?_
  refine fs ?_
  refine AWp.seq' ?_
  refine AWp.block ?_
  refine AWp.loopM (fun m s => ∃ (a_0 : List Int), s = (⟨22, (fset (fun _ => AV.any) 0 (.sl (a_0.flatMap (ci .u32)) a_0.length false)), ⟨nofresh, 64⟩⟩ : St) ∧ natTrimmed_L1 m a_0 = some r) FUEL ?_ ?_ ?_
  · rintro s ⟨_, _, h⟩
    cases h
  · refine ⟨_, ?_, a_0, rfl, hm⟩
    exact le_canon id (wk_fset _ _ (wk_data (by try simp only [go_sem, Nat.reduceBEq]; try rfl) ((CFi .u32).sl _ _ _)) wk_none) heapWk0
  · rintro n1 s ⟨a_0, rfl, hm⟩
    replace hm : natTrimmed_B1 (natTrimmed_L1 n1) a_0 = some r := hm
    unfold natTrimmed_B1 at hm
    refine AWp.seq' ?_
    refine sr (N' := 128) rfl ?_
    iterate 8 (first | refine pu rfl (by simp only [go_sem, Nat.reduceBEq]; try with_reducible rfl) ?_ | refine pg rfl rfl (by simp only [go_sem, Nat.reduceBEq]; try with_reducible rfl) (by intro hb; simp only [go_sem, Nat.reduceBEq, hb, Bool.true_and]; try with_reducible rfl) ?_)
    obtain ⟨x2, h1, hm⟩ := bnd hm
    refine pg rfl rfl (by simp only [go_sem, Nat.reduceBEq]; try with_reducible rfl) (fun hb => (ap_idx (CFi .u32) (by decide) Try.underlying22 sz33 (by try simp only [go_sem, Nat.reduceBEq, hb, Bool.true_and]; try rfl) rfl (by try simp only [go_sem, Nat.reduceBEq, hb, Bool.true_and]; try rfl) (gopt_t h1 hb))) ?_
    iterate 3 (first | refine pu rfl (by simp only [go_sem, Nat.reduceBEq]; try with_reducible rfl) ?_ | refine pg rfl rfl (by simp only [go_sem, Nat.reduceBEq]; try with_reducible rfl) (by intro hb; simp only [go_sem, Nat.reduceBEq, hb, Bool.true_and]; try with_reducible rfl) ?_)
    refine fs ?_
    refine AWp.condM hm (by try simp only [go_sem, Nat.reduceBEq]; try rfl) (fun _ hm => ?_) (fun _ hm => ?_)
    · refine AWp.skip ?_
      refine normSeq ?_
      refine AWp.block ?_
      refine AWp.reg 64 (N' := 192) rfl ?_
      iterate 4 refine pu rfl (by simp only [go_sem, Nat.reduceBEq]; try with_reducible rfl) ?_
      obtain ⟨l4, h3, hm⟩ := bnd hm
      refine pu rfl (ap_slc (CFi .u32) Try.underlying22 sz33 (by try simp only [go_sem, Nat.reduceBEq]; try rfl) rfl ab_none0 (ab_some (by try simp only [go_sem, Nat.reduceBEq]; try rfl) (slc_0 h3).2) h3) ?_
      refine pu rfl (by simp only [go_sem, Nat.reduceBEq]; try with_reducible rfl) ?_
      refine ARun.fin ?_
      refine normIn ?_
      refine normThen ?_
      refine ⟨_, ?_, l4, rfl, hm⟩
      refine St.Le.trans (le_tod 0 (.sl (l4.flatMap (ci .u32)) l4.length false) (fun H => (tdf (by try simp only [go_sem, Nat.reduceBEq]; try rfl) ((CFi .u32).sl _ _ _)))) ?_
      exact le_canon id (wk_fset _ _ (wk_data (by try simp only [go_sem, Nat.reduceBEq]; try rfl) ((CFi .u32).sl _ _ _)) wk_none) heapWk0
    · refine AWp.exit ?_
      refine exitSeq ?_
      refine exitThen ?_
      refine exitHere ?_
      refine normSeq ?_
      refine sr (N' := 192) rfl ?_
      refine pu rfl (by simp only [go_sem, Nat.reduceBEq]; try with_reducible rfl) ?_
      obtain ⟨r6, h5, hm⟩ := bnd hm
      refine ARun.callQ (r := .sl (r6.flatMap (ci .u32)) r6.length false) (by decide) (by try simp only [go_sem, Nat.reduceBEq]; try rfl) fb34 (fun H => (.cons (td (by try simp only [go_sem, Nat.reduceBEq]; try rfl) ((CFi .u32).sl _ _ _)) .nil)) (clipU_c h5) ?_
      refine pu rfl (by simp only [go_sem, Nat.reduceBEq]; try with_reducible rfl) ?_
      refine fs ?_
      refine AWp.ret ?_
      cases hm
      exact ret1D (.inr rfl) Try.results28 (td (by try simp only [go_sem, Nat.reduceBEq]; try rfl) ((CFi .u32).sl _ _ _))
def natBounded_m (a_0 : List Int) : Option ((List Int) × Int) :=
  ((natTrimmed_m a_0).bind fun r2 =>
  (bif (decide (64 < (r2.length : Int))) then
    some ([], 6)
  else
    some (r2, 0)))
theorem natBounded_c {a_0 : List Int} {r : (List Int) × Int} (hm : natBounded_m a_0 = some r) : PureC Try.prog 25 [.sl (a_0.flatMap (ci .u32)) a_0.length false] (.tup [.sl (r.1.flatMap (ci .u32)) r.1.length false, .v (.int .i64 r.2)]) := by
  refine PureC.of_body Try.func25 rfl ?_
  simp only [Try.ntmps25, List.length_cons, List.length_nil, Nat.reduceAdd, Nat.reduceSub, empty_eq]
  unfold natBounded_m at hm
  refine sr (N' := 64) rfl ?_
  iterate 2 refine pu rfl (by simp only [go_sem, Nat.reduceBEq]; try with_reducible rfl) ?_
  refine fs ?_
  refine sr (N' := 128) rfl ?_
  refine pu rfl (by simp only [go_sem, Nat.reduceBEq]; try with_reducible rfl) ?_
  obtain ⟨r2, h1, hm⟩ := bnd hm
  refine ARun.callQ (r := .sl (r2.flatMap (ci .u32)) r2.length false) (by decide) (by try simp only [go_sem, Nat.reduceBEq]; try rfl) fb28 (fun H => (.cons (td (by try simp only [go_sem, Nat.reduceBEq]; try rfl) ((CFi .u32).sl _ _ _)) .nil)) (natTrimmed_c h1) ?_
  refine pu rfl (by simp only [go_sem, Nat.reduceBEq]; try with_reducible rfl) ?_
  refine fs ?_
  refine AWp.seq' ?_
  refine sr (N' := 192) rfl ?_
  iterate 3 refine pu rfl (by simp only [go_sem, Nat.reduceBEq]; try with_reducible rfl) ?_
  refine fs ?_
  refine AWp.condM hm (by try simp only [go_sem, Nat.reduceBEq]; try rfl) (fun _ hm => ?_) (fun _ hm => ?_)
  · refine sr (N' := 256) rfl ?_
    iterate 2 refine pu rfl (by simp only [go_sem, Nat.reduceBEq]; try with_reducible rfl) ?_
    refine fs ?_
    refine AWp.ret ?_
    refine retSeq ?_
    cases hm
    exact ret2D (.inr rfl) Try.results25 (tdn (by try simp only [go_sem, Nat.reduceBEq]; try rfl)) (td (by try simp only [go_sem, Nat.reduceBEq]; try rfl) (.v _))
  · refine AWp.skip ?_
    refine normSeq ?_
    refine sr (N' := 256) rfl ?_
    iterate 3 refine pu rfl (by simp only [go_sem, Nat.reduceBEq]; try with_reducible rfl) ?_
    refine fs ?_
    refine AWp.ret ?_
    cases hm
    exact ret2D (.inr rfl) Try.results25 (td (by try simp only [go_sem, Nat.reduceBEq]; try rfl) ((CFi .u32).sl _ _ _)) (td (by try simp only [go_sem, Nat.reduceBEq]; try rfl) (.v _))
def natOf_m (n_0 : Int) : Option ((List Int)) :=
  ((natTrimmed_m [(IntKind.u32.wrap n_0), (IntKind.u32.wrap (shr .u64 n_0 32))]).bind fun r2 =>
  some r2)
theorem natOf_c {n_0 : Int} {r : (List Int)} (hm : natOf_m n_0 = some r) : PureC Try.prog 17 [.v (.int .u64 n_0)] (.sl (r.flatMap (ci .u32)) r.length false) := by
  refine PureC.of_body Try.func17 rfl ?_
  simp only [Try.ntmps17, List.length_cons, List.length_nil, Nat.reduceAdd, Nat.reduceSub, empty_eq]
  unfold natOf_m at hm
  refine sr (N' := 64) rfl ?_
  refine pu rfl (by simp only [go_sem, Nat.reduceBEq]; try with_reducible rfl) ?_
  refine fs ?_
  refine sr (N' := 128) rfl ?_
  iterate 5 refine pu rfl (by simp only [go_sem, Nat.reduceBEq, Int.reduceEq, Int.reduceLE]; try with_reducible rfl) ?_
  refine hp (id := 69) rfl rfl (ah_list (CFi .u32) (l := [(IntKind.u32.wrap n_0), (IntKind.u32.wrap (shr .u64 n_0 32))]) Try.underlying22 sz33 zc33 (by simp only [isFresh_upd, isFresh_no, Nat.reduceBEq, cond_true, cond_false]) (by decide) (by decide) (by decide) (by simp only [go_sem, Nat.reduceBEq]; try rfl) (by kernel_rfl)) ?_
  obtain ⟨r2, h1, hm⟩ := bnd hm
  refine ARun.callL1 (r := .sl (r2.flatMap (ci .u32)) r2.length false) (id := 69) (by decide) (by try simp only [go_sem, Nat.reduceBEq]; try rfl) fb28 (by simp only [upd_beq, Nat.reduceBEq, cond_true, cond_false]; try rfl) (.cons (tdl (CFi .u32) (by try simp only [go_sem, Nat.reduceBEq]; try rfl) (by simp only [upd_beq, Nat.reduceBEq, cond_true, cond_false]; try rfl) (by simp) (by first | rfl | omega)) .nil) (natTrimmed_c h1) ?_
  refine pu rfl (by simp only [go_sem, Nat.reduceBEq]; try with_reducible rfl) ?_
  refine fs ?_
  refine AWp.ret ?_
  cases hm
  exact ret1D (.inr rfl) Try.results17 (td (by try simp only [go_sem, Nat.reduceBEq]; try rfl) ((CFi .u32).sl _ _ _))
def natAdd_J1 (rec1 : List Int → List Int → List Int → Int → Int → Int → Option ((List Int) × Int)) (a_0 : List Int) (b_1 : List Int) (sum_6 : List Int) (carry_7 : Int) (t26 : Int) (t27 : Int) : Option ((List Int) × Int) :=
  rec1 a_0 b_1 sum_6 carry_7 t26 (IntKind.i64.wrap (t27 + 1))
def natAdd_J3 (rec1 : List Int → List Int → List Int → Int → Int → Int → Option ((List Int) × Int)) (a_0 : List Int) (b_1 : List Int) (sum_6 : List Int) (i_8 : Int) (t_9 : Int) (t26 : Int) (t27 : Int) : Option ((List Int) × Int) :=
  ((idx sum_6 i_8).bind fun x8 =>
  ((stt sum_6 i_8 (IntKind.u32.wrap t_9)).bind fun l10 =>
  natAdd_J1 rec1 a_0 b_1 l10 (shr .u64 t_9 32) t26 t27))
def natAdd_J2 (rec1 : List Int → List Int → List Int → Int → Int → Int → Option ((List Int) × Int)) (a_0 : List Int) (b_1 : List Int) (sum_6 : List Int) (i_8 : Int) (t_9 : Int) (t26 : Int) (t27 : Int) : Option ((List Int) × Int) :=
  (bif (decide (i_8 < (b_1.length : Int))) then
    ((idx b_1 i_8).bind fun x12 =>
    natAdd_J3 rec1 a_0 b_1 sum_6 i_8 (IntKind.u64.wrap (t_9 + (IntKind.u64.wrap x12))) t26 t27)
  else
    natAdd_J3 rec1 a_0 b_1 sum_6 i_8 t_9 t26 t27)
def natAdd_B1 (rec1 : List Int → List Int → List Int → Int → Int → Int → Option ((List Int) × Int)) (a_0 : List Int) (b_1 : List Int) (sum_6 : List Int) (carry_7 : Int) (t26 : Int) (t27 : Int) : Option ((List Int) × Int) :=
  (bif (decide (t27 < t26)) then
    (bif (decide (t27 < (a_0.length : Int))) then
      ((idx a_0 t27).bind fun x14 =>
      natAdd_J2 rec1 a_0 b_1 sum_6 t27 (IntKind.u64.wrap (carry_7 + (IntKind.u64.wrap x14))) t26 t27)
    else
      natAdd_J2 rec1 a_0 b_1 sum_6 t27 carry_7 t26 t27)
  else
    ((natBounded_m sum_6).bind fun ⟨r16, r17⟩ =>
    some (r16, r17)))
def natAdd_L1 : Nat → List Int → List Int → List Int → Int → Int → Int → Option ((List Int) × Int)
  | 0 => fun _ _ _ _ _ _ => none
  | n + 1 => natAdd_B1 (natAdd_L1 n)
def natAdd_m (a_0 : List Int) (b_1 : List Int) : Option ((List Int) × Int) :=
  ((natRight_m a_0).bind fun r2 =>
  ((gopt ((!r2) == false) false (natRight_m b_1)).bind fun r4 =>
  (bif ((!r2) || (!r4)) then
    some ([], 1)
  else
    ((mkc (IntKind.i64.wrap ((if (a_0.length : Int) < (b_1.length : Int) then (b_1.length : Int) else (a_0.length : Int)) + 1)) (IntKind.i64.wrap ((if (a_0.length : Int) < (b_1.length : Int) then (b_1.length : Int) else (a_0.length : Int)) + 1)) 0).bind fun l6 =>
    natAdd_L1 FUEL a_0 b_1 l6 0 (l6.length : Int) 0))))
theorem natAdd_c {a_0 : List Int} {b_1 : List Int} {r : (List Int) × Int} (hm : natAdd_m a_0 b_1 = some r) : PureC Try.prog 11 [.sl (a_0.flatMap (ci .u32)) a_0.length false, .sl (b_1.flatMap (ci .u32)) b_1.length false] (.tup [.sl (r.1.flatMap (ci .u32)) r.1.length false, .v (.int .i64 r.2)]) := by
  refine PureC.of_body Try.func11 rfl ?_
  simp only [Try.ntmps11, List.length_cons, List.length_nil, Nat.reduceAdd, Nat.reduceSub, empty_eq]
  unfold natAdd_m at hm
  refine sr (N' := 64) rfl ?_
  iterate 2 refine pu rfl (by simp only [go_sem, Nat.reduceBEq]; try with_reducible rfl) ?_
  refine fs ?_
  refine AWp.seq' ?_
  refine sr (N' := 128) rfl ?_
  refine pu rfl (by simp only [go_sem, Nat.reduceBEq]; try with_reducible rfl) ?_
  obtain ⟨r2, h1, hm⟩ := bnd hm
  refine ARun.callQ (r := .v (.bool r2)) (by decide) (by try simp only [go_sem, Nat.reduceBEq]; try rfl) fb15 (fun H => (.cons (td (by try simp only [go_sem, Nat.reduceBEq]; try rfl) ((CFi .u32).sl _ _ _)) .nil)) (natRight_c h1) ?_
  iterate 3 (first | refine pu rfl (by simp only [go_sem, Nat.reduceBEq]; try with_reducible rfl) ?_ | refine pg rfl rfl (by simp only [go_sem, Nat.reduceBEq]; try with_reducible rfl) (by intro hb; simp only [go_sem, Nat.reduceBEq, hb, Bool.true_and]; try with_reducible rfl) ?_)
  obtain ⟨r4, h3, hm⟩ := bnd hm
  refine ARun.callQG (r := .v (.bool r4)) (by decide) rfl (by simp only [go_sem, Nat.reduceBEq]; try with_reducible rfl) (by try simp only [go_sem, Nat.reduceBEq]; try rfl) fb15 (fun hb H => (.cons (td (by try simp only [go_sem, Nat.reduceBEq, hb, Bool.true_and]; try rfl) ((CFi .u32).sl _ _ _)) .nil)) (fun hb => natRight_c (gopt_t h3 hb)) ?_
  iterate 2 (first | refine pu rfl (by simp only [go_sem, Nat.reduceBEq]; try with_reducible rfl) ?_ | refine pg rfl rfl (by simp only [go_sem, Nat.reduceBEq]; try with_reducible rfl) (by intro hb; simp only [go_sem, Nat.reduceBEq, hb, Bool.true_and]; try with_reducible rfl) ?_)
  refine fs ?_
  refine AWp.condM hm (by try simp only [go_sem, Nat.reduceBEq]; try rfl) (fun _ hm => ?_) (fun _ hm => ?_)
  · refine sr (N' := 192) rfl ?_
    iterate 2 refine pu rfl (by simp only [go_sem, Nat.reduceBEq]; try with_reducible rfl) ?_
    refine fs ?_
    refine AWp.ret ?_
    refine retSeq ?_
    cases hm
    exact ret2D (.inr rfl) Try.results11 (tdn (by try simp only [go_sem, Nat.reduceBEq]; try rfl)) (td (by try simp only [go_sem, Nat.reduceBEq]; try rfl) (.v _))
  · refine AWp.skip ?_
    refine normSeq ?_
    refine sr (N' := 192) rfl ?_
    iterate 6 refine pu rfl (by simp only [go_sem, Nat.reduceBEq]; try with_reducible rfl) ?_
    obtain ⟨l6, h5, hm⟩ := bnd hm
    refine hp (id := 134) rfl rfl (ah_mk (CFi .u32) Try.underlying22 in33 (zc33) (by rw [tb33]; decide) ts33 (by decide) (by simp only [isFresh_upd, isFresh_no, Nat.reduceBEq, cond_true, cond_false]) (by try simp only [go_sem, Nat.reduceBEq]; try rfl) (by try simp only [go_sem, Nat.reduceBEq]; try rfl) h5) ?_
    refine pu rfl (by simp only [go_sem, Nat.reduceBEq]; try with_reducible rfl) ?_
    refine fs ?_
    refine sr (N' := 256) rfl ?_
    refine pu rfl (by simp only [go_sem, Nat.reduceBEq]; try with_reducible rfl) ?_
    refine fs ?_
    refine AWp.seq' ?_
    refine sr (N' := 320) rfl ?_
    iterate 3 refine pu rfl (by simp only [go_sem, Nat.reduceBEq]; try with_reducible rfl) ?_
    refine fs ?_
    refine AWp.block ?_
    refine AWp.loopM (fun m s => ∃ (a_0 : List Int) (b_1 : List Int) (sum_6 : List Int) (carry_7 : Int) (t26 : Int) (t27 : Int), s = (⟨65, (fset (fset (fset (fset (fset (fset (fun _ => AV.any) 0 (.sl (a_0.flatMap (ci .u32)) a_0.length false)) 1 (.sl (b_1.flatMap (ci .u32)) b_1.length false)) 6 (.own 1 0 sum_6.length)) 7 (.v (.int .u64 carry_7))) 26 (.v (.int .i64 t26))) 27 (.v (.int .i64 t27))), ⟨(upd nofresh 1 (.cells 1 (sum_6.flatMap (ci .u32)) 0)), 64⟩⟩ : St) ∧ natAdd_L1 m a_0 b_1 sum_6 carry_7 t26 t27 = some r) FUEL ?_ ?_ ?_
    · rintro s ⟨_, _, _, _, _, _, _, h⟩
      cases h
    · refine ⟨_, ?_, a_0, b_1, l6, 0, (l6.length : Int), 0, rfl, hm⟩
      exact le_canon (fun j => bif j == 1 then 134 else 0) (wk_fset _ _ (wk_data (by try simp only [go_sem, Nat.reduceBEq]; try rfl) (.v _)) (wk_fset _ _ (wk_data (by try simp only [go_sem, Nat.reduceBEq]; try rfl) (.v _)) (wk_fset _ _ (wk_data (by try simp only [go_sem, Nat.reduceBEq]; try rfl) (.v _)) (wk_fset _ _ (wk_own (by try simp only [go_sem, Nat.reduceBEq]; try rfl) (by first | rfl | omega) rfl (by simp [upd])) (wk_fset _ _ (wk_data (by try simp only [go_sem, Nat.reduceBEq]; try rfl) ((CFi .u32).sl _ _ _)) (wk_fset _ _ (wk_data (by try simp only [go_sem, Nat.reduceBEq]; try rfl) ((CFi .u32).sl _ _ _)) wk_none)))))) (heapWk_of _ (entWk_upd (ent_fm (CFi .u32) (by simp only [upd_beq, Nat.reduceBEq, cond_true, cond_false]; try rfl) rfl) entWk_none) (by repeat' (first | exact inj_none | exact liv_none | refine inj_upd ?_ ?_ | refine liv_upd ?_ ?_ | exact .inl rfl | exact .inr (by decide))))
    · rintro n1 s ⟨a_0, b_1, sum_6, carry_7, t26, t27, rfl, hm⟩
      replace hm : natAdd_B1 (natAdd_L1 n1) a_0 b_1 sum_6 carry_7 t26 t27 = some r := hm
      unfold natAdd_B1 at hm
      refine sr (N' := 128) rfl ?_
      refine pu rfl (by simp only [go_sem, Nat.reduceBEq]; try with_reducible rfl) ?_
      refine fs ?_
      refine AWp.seq' ?_
      refine AWp.condM hm (by try simp only [go_sem, Nat.reduceBEq]; try rfl) (fun _ hm => ?_) (fun _ hm => ?_)
      · refine AWp.skip ?_
        refine normSeq ?_
        refine AWp.seqJ (fun s => ∃ (a_0 : List Int) (b_1 : List Int) (sum_6 : List Int) (carry_7 : Int) (t26 : Int) (t27 : Int), s = (⟨65, (fset (fset (fset (fset (fset (fset (fun _ => AV.any) 0 (.sl (a_0.flatMap (ci .u32)) a_0.length false)) 1 (.sl (b_1.flatMap (ci .u32)) b_1.length false)) 6 (.own 1 0 sum_6.length)) 7 (.v (.int .u64 carry_7))) 26 (.v (.int .i64 t26))) 27 (.v (.int .i64 t27))), ⟨(upd nofresh 1 (.cells 1 (sum_6.flatMap (ci .u32)) 0)), 64⟩⟩ : St) ∧ natAdd_J1 (natAdd_L1 n1) a_0 b_1 sum_6 carry_7 t26 t27 = some r) ?_ ?_
        · refine AWp.block ?_
          refine sr (N' := 192) rfl ?_
          iterate 2 refine pu rfl (by simp only [go_sem, Nat.reduceBEq]; try with_reducible rfl) ?_
          refine fs ?_
          refine sr (N' := 256) rfl ?_
          iterate 2 refine pu rfl (by simp only [go_sem, Nat.reduceBEq]; try with_reducible rfl) ?_
          refine fs ?_
          refine AWp.seqJ (fun s => ∃ (a_0 : List Int) (b_1 : List Int) (sum_6 : List Int) (i_8 : Int) (t_9 : Int) (t26 : Int) (t27 : Int), s = (⟨65, (fset (fset (fset (fset (fset (fset (fset (fun _ => AV.any) 0 (.sl (a_0.flatMap (ci .u32)) a_0.length false)) 1 (.sl (b_1.flatMap (ci .u32)) b_1.length false)) 6 (.own 1 0 sum_6.length)) 8 (.v (.int .i64 i_8))) 9 (.v (.int .u64 t_9))) 26 (.v (.int .i64 t26))) 27 (.v (.int .i64 t27))), ⟨(upd nofresh 1 (.cells 1 (sum_6.flatMap (ci .u32)) 0)), 64⟩⟩ : St) ∧ natAdd_J2 (natAdd_L1 n1) a_0 b_1 sum_6 i_8 t_9 t26 t27 = some r) ?_ ?_
          · refine sr (N' := 320) rfl ?_
            iterate 4 refine pu rfl (by simp only [go_sem, Nat.reduceBEq]; try with_reducible rfl) ?_
            refine fs ?_
            refine AWp.condM hm (by try simp only [go_sem, Nat.reduceBEq]; try rfl) (fun _ hm => ?_) (fun _ hm => ?_)
            · refine AWp.reg 64 (N' := 384) rfl ?_
              iterate 3 refine pu rfl (by simp only [go_sem, Nat.reduceBEq]; try with_reducible rfl) ?_
              obtain ⟨x14, h13, hm⟩ := bnd hm
              refine pu rfl (ap_idx (CFi .u32) (by decide) Try.underlying22 sz33 (by try simp only [go_sem, Nat.reduceBEq]; try rfl) rfl (by try simp only [go_sem, Nat.reduceBEq]; try rfl) h13) ?_
              iterate 4 refine pu rfl (by simp only [go_sem, Nat.reduceBEq]; try with_reducible rfl) ?_
              refine ARun.fin ?_
              refine normJ ?_
              refine ⟨_, ?_, a_0, b_1, sum_6, t27, (IntKind.u64.wrap (carry_7 + (IntKind.u64.wrap x14))), t26, t27, rfl, hm⟩
              exact le_canon (fun j => bif j == 1 then 1 else 0) (wk_fset _ _ (wk_data (by try simp only [go_sem, Nat.reduceBEq]; try rfl) (.v _)) (wk_fset _ _ (wk_data (by try simp only [go_sem, Nat.reduceBEq]; try rfl) (.v _)) (wk_fset _ _ (wk_data (by try simp only [go_sem, Nat.reduceBEq]; try rfl) (.v _)) (wk_fset _ _ (wk_data (by try simp only [go_sem, Nat.reduceBEq]; try rfl) (.v _)) (wk_fset _ _ (wk_own (by try simp only [go_sem, Nat.reduceBEq]; try rfl) (by first | rfl | omega) rfl (by simp [upd])) (wk_fset _ _ (wk_data (by try simp only [go_sem, Nat.reduceBEq]; try rfl) ((CFi .u32).sl _ _ _)) (wk_fset _ _ (wk_data (by try simp only [go_sem, Nat.reduceBEq]; try rfl) ((CFi .u32).sl _ _ _)) wk_none))))))) (heapWk_of _ (entWk_upd (ent_fm (CFi .u32) (by simp only [upd_beq, Nat.reduceBEq, cond_true, cond_false]; try rfl) rfl) entWk_none) (by repeat' (first | exact inj_none | exact liv_none | refine inj_upd ?_ ?_ | refine liv_upd ?_ ?_ | exact .inl rfl | exact .inr (by decide))))
            · refine AWp.skip ?_
              refine normJ ?_
              refine ⟨_, ?_, a_0, b_1, sum_6, t27, carry_7, t26, t27, rfl, hm⟩
              exact le_canon (fun j => bif j == 1 then 1 else 0) (wk_fset _ _ (wk_data (by try simp only [go_sem, Nat.reduceBEq]; try rfl) (.v _)) (wk_fset _ _ (wk_data (by try simp only [go_sem, Nat.reduceBEq]; try rfl) (.v _)) (wk_fset _ _ (wk_data (by try simp only [go_sem, Nat.reduceBEq]; try rfl) (.v _)) (wk_fset _ _ (wk_data (by try simp only [go_sem, Nat.reduceBEq]; try rfl) (.v _)) (wk_fset _ _ (wk_own (by try simp only [go_sem, Nat.reduceBEq]; try rfl) (by first | rfl | omega) rfl (by simp [upd])) (wk_fset _ _ (wk_data (by try simp only [go_sem, Nat.reduceBEq]; try rfl) ((CFi .u32).sl _ _ _)) (wk_fset _ _ (wk_data (by try simp only [go_sem, Nat.reduceBEq]; try rfl) ((CFi .u32).sl _ _ _)) wk_none))))))) (heapWk_of _ (entWk_upd (ent_fm (CFi .u32) (by simp only [upd_beq, Nat.reduceBEq, cond_true, cond_false]; try rfl) rfl) entWk_none) (by repeat' (first | exact inj_none | exact liv_none | refine inj_upd ?_ ?_ | refine liv_upd ?_ ?_ | exact .inl rfl | exact .inr (by decide))))
          · rintro s ⟨a_0, b_1, sum_6, i_8, t_9, t26, t27, rfl, hm⟩
            unfold natAdd_J2 at hm
            refine AWp.seqJ (fun s => ∃ (a_0 : List Int) (b_1 : List Int) (sum_6 : List Int) (i_8 : Int) (t_9 : Int) (t26 : Int) (t27 : Int), s = (⟨65, (fset (fset (fset (fset (fset (fset (fset (fun _ => AV.any) 0 (.sl (a_0.flatMap (ci .u32)) a_0.length false)) 1 (.sl (b_1.flatMap (ci .u32)) b_1.length false)) 6 (.own 1 0 sum_6.length)) 8 (.v (.int .i64 i_8))) 9 (.v (.int .u64 t_9))) 26 (.v (.int .i64 t26))) 27 (.v (.int .i64 t27))), ⟨(upd nofresh 1 (.cells 1 (sum_6.flatMap (ci .u32)) 0)), 64⟩⟩ : St) ∧ natAdd_J3 (natAdd_L1 n1) a_0 b_1 sum_6 i_8 t_9 t26 t27 = some r) ?_ ?_
            · refine sr (N' := 128) rfl ?_
              iterate 4 refine pu rfl (by simp only [go_sem, Nat.reduceBEq]; try with_reducible rfl) ?_
              refine fs ?_
              refine AWp.condM hm (by try simp only [go_sem, Nat.reduceBEq]; try rfl) (fun _ hm => ?_) (fun _ hm => ?_)
              · refine AWp.reg 64 (N' := 192) rfl ?_
                iterate 3 refine pu rfl (by simp only [go_sem, Nat.reduceBEq]; try with_reducible rfl) ?_
                obtain ⟨x12, h11, hm⟩ := bnd hm
                refine pu rfl (ap_idx (CFi .u32) (by decide) Try.underlying22 sz33 (by try simp only [go_sem, Nat.reduceBEq]; try rfl) rfl (by try simp only [go_sem, Nat.reduceBEq]; try rfl) h11) ?_
                iterate 4 refine pu rfl (by simp only [go_sem, Nat.reduceBEq]; try with_reducible rfl) ?_
                refine ARun.fin ?_
                refine normJ ?_
                refine ⟨_, ?_, a_0, b_1, sum_6, i_8, (IntKind.u64.wrap (t_9 + (IntKind.u64.wrap x12))), t26, t27, rfl, hm⟩
                exact le_canon (fun j => bif j == 1 then 1 else 0) (wk_fset _ _ (wk_data (by try simp only [go_sem, Nat.reduceBEq]; try rfl) (.v _)) (wk_fset _ _ (wk_data (by try simp only [go_sem, Nat.reduceBEq]; try rfl) (.v _)) (wk_fset _ _ (wk_data (by try simp only [go_sem, Nat.reduceBEq]; try rfl) (.v _)) (wk_fset _ _ (wk_data (by try simp only [go_sem, Nat.reduceBEq]; try rfl) (.v _)) (wk_fset _ _ (wk_own (by try simp only [go_sem, Nat.reduceBEq]; try rfl) (by first | rfl | omega) rfl (by simp [upd])) (wk_fset _ _ (wk_data (by try simp only [go_sem, Nat.reduceBEq]; try rfl) ((CFi .u32).sl _ _ _)) (wk_fset _ _ (wk_data (by try simp only [go_sem, Nat.reduceBEq]; try rfl) ((CFi .u32).sl _ _ _)) wk_none))))))) (heapWk_of _ (entWk_upd (ent_fm (CFi .u32) (by simp only [upd_beq, Nat.reduceBEq, cond_true, cond_false]; try rfl) rfl) entWk_none) (by repeat' (first | exact inj_none | exact liv_none | refine inj_upd ?_ ?_ | refine liv_upd ?_ ?_ | exact .inl rfl | exact .inr (by decide))))
              · refine AWp.skip ?_
                refine normJ ?_
                refine ⟨_, ?_, a_0, b_1, sum_6, i_8, t_9, t26, t27, rfl, hm⟩
                exact le_canon (fun j => bif j == 1 then 1 else 0) (wk_fset _ _ (wk_data (by try simp only [go_sem, Nat.reduceBEq]; try rfl) (.v _)) (wk_fset _ _ (wk_data (by try simp only [go_sem, Nat.reduceBEq]; try rfl) (.v _)) (wk_fset _ _ (wk_data (by try simp only [go_sem, Nat.reduceBEq]; try rfl) (.v _)) (wk_fset _ _ (wk_data (by try simp only [go_sem, Nat.reduceBEq]; try rfl) (.v _)) (wk_fset _ _ (wk_own (by try simp only [go_sem, Nat.reduceBEq]; try rfl) (by first | rfl | omega) rfl (by simp [upd])) (wk_fset _ _ (wk_data (by try simp only [go_sem, Nat.reduceBEq]; try rfl) ((CFi .u32).sl _ _ _)) (wk_fset _ _ (wk_data (by try simp only [go_sem, Nat.reduceBEq]; try rfl) ((CFi .u32).sl _ _ _)) wk_none))))))) (heapWk_of _ (entWk_upd (ent_fm (CFi .u32) (by simp only [upd_beq, Nat.reduceBEq, cond_true, cond_false]; try rfl) rfl) entWk_none) (by repeat' (first | exact inj_none | exact liv_none | refine inj_upd ?_ ?_ | refine liv_upd ?_ ?_ | exact .inl rfl | exact .inr (by decide))))
            · rintro s ⟨a_0, b_1, sum_6, i_8, t_9, t26, t27, rfl, hm⟩
              unfold natAdd_J3 at hm
              refine sr (N' := 128) rfl ?_
              iterate 4 refine pu rfl (by simp only [go_sem, Nat.reduceBEq]; try with_reducible rfl) ?_
              obtain ⟨x8, h7, hm⟩ := bnd hm
              refine pu rfl (ap_idxo Try.underlying22 sz33 (by try simp only [go_sem, Nat.reduceBEq]; try rfl) (by simp only [upd_beq, Nat.reduceBEq, cond_true, cond_false]; try rfl) (by first | rfl | omega) (by try simp only [go_sem, Nat.reduceBEq]; try rfl) h7) ?_
              obtain ⟨l10, h9, hm⟩ := bnd hm
              have qh9 := stt_len h9
              refine ARun.heap0 (id := 69) rfl (ah_stt (CFi .u32) sz33 (by try simp only [go_sem, Nat.reduceBEq]; try rfl) (by try simp only [go_sem, Nat.reduceBEq]; try rfl) (by simp only [upd_beq, Nat.reduceBEq, cond_true, cond_false]; try rfl) rfl h9) ?_
              refine fs ?_
              refine AWp.reg 64 (N' := 192) rfl ?_
              iterate 3 refine pu rfl (by simp only [go_sem, Nat.reduceBEq, Int.reduceEq, Int.reduceLE]; try with_reducible rfl) ?_
              refine ARun.fin ?_
              refine normIn ?_
              refine normJ ?_
              refine ⟨_, ?_, a_0, b_1, l10, (shr .u64 t_9 32), t26, t27, rfl, hm⟩
              exact le_canon (fun j => bif j == 1 then 1 else 0) (wk_fset _ _ (wk_data (by try simp only [go_sem, Nat.reduceBEq]; try rfl) (.v _)) (wk_fset _ _ (wk_data (by try simp only [go_sem, Nat.reduceBEq]; try rfl) (.v _)) (wk_fset _ _ (wk_data (by try simp only [go_sem, Nat.reduceBEq]; try rfl) (.v _)) (wk_fset _ _ (wk_own (by try simp only [go_sem, Nat.reduceBEq]; try rfl) (by first | rfl | omega) rfl (by simp [upd])) (wk_fset _ _ (wk_data (by try simp only [go_sem, Nat.reduceBEq]; try rfl) ((CFi .u32).sl _ _ _)) (wk_fset _ _ (wk_data (by try simp only [go_sem, Nat.reduceBEq]; try rfl) ((CFi .u32).sl _ _ _)) wk_none)))))) (heapWk_of _ (entWk_upd (ent_fm (CFi .u32) (by simp only [upd_beq, Nat.reduceBEq, cond_true, cond_false]; try rfl) rfl) entWk_none) (by repeat' (first | exact inj_none | exact liv_none | refine inj_upd ?_ ?_ | refine liv_upd ?_ ?_ | exact .inl rfl | exact .inr (by decide))))
        · rintro s ⟨a_0, b_1, sum_6, carry_7, t26, t27, rfl, hm⟩
          unfold natAdd_J1 at hm
          refine AWp.reg 64 (N' := 128) rfl ?_
          iterate 2 refine pu rfl (by simp only [go_sem, Nat.reduceBEq]; try with_reducible rfl) ?_
          refine ARun.fin ?_
          refine normThen ?_
          refine ⟨_, ?_, a_0, b_1, sum_6, carry_7, t26, (IntKind.i64.wrap (t27 + 1)), rfl, hm⟩
          exact le_canon (fun j => bif j == 1 then 1 else 0) (wk_fset _ _ (wk_data (by try simp only [go_sem, Nat.reduceBEq]; try rfl) (.v _)) (wk_fset _ _ (wk_data (by try simp only [go_sem, Nat.reduceBEq]; try rfl) (.v _)) (wk_fset _ _ (wk_data (by try simp only [go_sem, Nat.reduceBEq]; try rfl) (.v _)) (wk_fset _ _ (wk_own (by try simp only [go_sem, Nat.reduceBEq]; try rfl) (by first | rfl | omega) rfl (by simp [upd])) (wk_fset _ _ (wk_data (by try simp only [go_sem, Nat.reduceBEq]; try rfl) ((CFi .u32).sl _ _ _)) (wk_fset _ _ (wk_data (by try simp only [go_sem, Nat.reduceBEq]; try rfl) ((CFi .u32).sl _ _ _)) wk_none)))))) (heapWk_of _ (entWk_upd (ent_fm (CFi .u32) (by simp only [upd_beq, Nat.reduceBEq, cond_true, cond_false]; try rfl) rfl) entWk_none) (by repeat' (first | exact inj_none | exact liv_none | refine inj_upd ?_ ?_ | refine liv_upd ?_ ?_ | exact .inl rfl | exact .inr (by decide))))
      · refine AWp.exit ?_
        refine exitSeq ?_
        refine exitThen ?_
        refine exitHere ?_
        refine normSeq ?_
        refine AWp.seq' ?_
        refine AWp.weaken (le_lock (CFi .u32) 6 1 (by try simp only [go_sem, Nat.reduceBEq]; try rfl) (by simp only [upd_beq, Nat.reduceBEq, cond_true, cond_false]; try rfl) (by first | rfl | omega)) ?_
        refine AWp.reg 64 (N' := 192) rfl ?_
        refine pu rfl (by simp only [go_sem, Nat.reduceBEq]; try with_reducible rfl) ?_
        obtain ⟨⟨r16, r17⟩, h15, hm⟩ := bnd hm
        refine ARun.callQ (r := .tup [.sl (r16.flatMap (ci .u32)) r16.length false, .v (.int .i64 r17)]) (by decide) (by try simp only [go_sem, Nat.reduceBEq]; try rfl) fb25 (fun H => (.cons (td (by try simp only [go_sem, Nat.reduceBEq]; try rfl) ((CFi .u32).sl _ _ _)) .nil)) (natBounded_c h15) ?_
        iterate 4 refine pu rfl (by simp only [go_sem, Nat.reduceBEq]; try with_reducible rfl) ?_
        refine fs ?_
        refine AWp.ret ?_
        cases hm
        exact ret2D (.inr rfl) Try.results11 (td (by try simp only [go_sem, Nat.reduceBEq]; try rfl) ((CFi .u32).sl _ _ _)) (td (by try simp only [go_sem, Nat.reduceBEq]; try rfl) (.v _))
def natMul_B2 (rec1 : List Int → List Int → List Int → Int → Int → Option ((List Int) × Int)) (rec2 : List Int → List Int → Int → Int → Int → List Int → Int → Int → List Int → Int → Int → Option ((List Int) × Int)) (b_1 : List Int) (product_6 : List Int) (i_7 : Int) (x_8 : Int) (carry_9 : Int) (t27 : List Int) (t28 : Int) (t29 : Int) (t34 : List Int) (t35 : Int) (t36 : Int) : Option ((List Int) × Int) :=
  (bif (decide (t36 < t35)) then
    ((idx t34 t36).bind fun x10 =>
    ((idx product_6 (IntKind.i64.wrap (i_7 + t36))).bind fun x12 =>
    ((idx product_6 (IntKind.i64.wrap (i_7 + t36))).bind fun x14 =>
    ((stt product_6 (IntKind.i64.wrap (i_7 + t36)) (IntKind.u32.wrap (IntKind.u64.wrap ((IntKind.u64.wrap ((IntKind.u64.wrap x12) + (IntKind.u64.wrap ((IntKind.u64.wrap x_8) * (IntKind.u64.wrap x10))))) + carry_9)))).bind fun l16 =>
    rec2 b_1 l16 i_7 x_8 (shr .u64 (IntKind.u64.wrap ((IntKind.u64.wrap ((IntKind.u64.wrap x12) + (IntKind.u64.wrap ((IntKind.u64.wrap x_8) * (IntKind.u64.wrap x10))))) + carry_9)) 32) t27 t28 t29 t34 t35 (IntKind.i64.wrap (t36 + 1))))))
  else
    ((idx product_6 (IntKind.i64.wrap (i_7 + (b_1.length : Int)))).bind fun x18 =>
    ((stt product_6 (IntKind.i64.wrap (i_7 + (b_1.length : Int))) (IntKind.u32.wrap carry_9)).bind fun l20 =>
    rec1 b_1 l20 t27 t28 (IntKind.i64.wrap (t29 + 1)))))
def natMul_L2 (rec1 : List Int → List Int → List Int → Int → Int → Option ((List Int) × Int)) : Nat → List Int → List Int → Int → Int → Int → List Int → Int → Int → List Int → Int → Int → Option ((List Int) × Int)
  | 0 => fun _ _ _ _ _ _ _ _ _ _ _ => none
  | n + 1 => natMul_B2 rec1 (natMul_L2 rec1 n)
def natMul_B1 (rec1 : List Int → List Int → List Int → Int → Int → Option ((List Int) × Int)) (b_1 : List Int) (product_6 : List Int) (t27 : List Int) (t28 : Int) (t29 : Int) : Option ((List Int) × Int) :=
  (bif (decide (t29 < t28)) then
    ((idx t27 t29).bind fun x8 =>
    natMul_L2 rec1 FUEL b_1 product_6 t29 x8 0 t27 t28 t29 b_1 (b_1.length : Int) 0)
  else
    ((natBounded_m product_6).bind fun ⟨r22, r23⟩ =>
    some (r22, r23)))
def natMul_L1 : Nat → List Int → List Int → List Int → Int → Int → Option ((List Int) × Int)
  | 0 => fun _ _ _ _ _ => none
  | n + 1 => natMul_B1 (natMul_L1 n)
def natMul_m (a_0 : List Int) (b_1 : List Int) : Option ((List Int) × Int) :=
  ((natRight_m a_0).bind fun r2 =>
  ((gopt ((!r2) == false) false (natRight_m b_1)).bind fun r4 =>
  (bif ((!r2) || (!r4)) then
    some ([], 1)
  else
    ((mkc (IntKind.i64.wrap ((a_0.length : Int) + (b_1.length : Int))) (IntKind.i64.wrap ((a_0.length : Int) + (b_1.length : Int))) 0).bind fun l6 =>
    natMul_L1 FUEL b_1 l6 a_0 (a_0.length : Int) 0))))
theorem natMul_c {a_0 : List Int} {b_1 : List Int} {r : (List Int) × Int} (hm : natMul_m a_0 b_1 = some r) : PureC Try.prog 12 [.sl (a_0.flatMap (ci .u32)) a_0.length false, .sl (b_1.flatMap (ci .u32)) b_1.length false] (.tup [.sl (r.1.flatMap (ci .u32)) r.1.length false, .v (.int .i64 r.2)]) := by
  refine PureC.of_body Try.func12 rfl ?_
  simp only [Try.ntmps12, List.length_cons, List.length_nil, Nat.reduceAdd, Nat.reduceSub, empty_eq]
  unfold natMul_m at hm
  refine sr (N' := 64) rfl ?_
  iterate 2 refine pu rfl (by simp only [go_sem, Nat.reduceBEq]; try with_reducible rfl) ?_
  refine fs ?_
  refine AWp.seq' ?_
  refine sr (N' := 128) rfl ?_
  refine pu rfl (by simp only [go_sem, Nat.reduceBEq]; try with_reducible rfl) ?_
  obtain ⟨r2, h1, hm⟩ := bnd hm
  refine ARun.callQ (r := .v (.bool r2)) (by decide) (by try simp only [go_sem, Nat.reduceBEq]; try rfl) fb15 (fun H => (.cons (td (by try simp only [go_sem, Nat.reduceBEq]; try rfl) ((CFi .u32).sl _ _ _)) .nil)) (natRight_c h1) ?_
  iterate 3 (first | refine pu rfl (by simp only [go_sem, Nat.reduceBEq]; try with_reducible rfl) ?_ | refine pg rfl rfl (by simp only [go_sem, Nat.reduceBEq]; try with_reducible rfl) (by intro hb; simp only [go_sem, Nat.reduceBEq, hb, Bool.true_and]; try with_reducible rfl) ?_)
  obtain ⟨r4, h3, hm⟩ := bnd hm
  refine ARun.callQG (r := .v (.bool r4)) (by decide) rfl (by simp only [go_sem, Nat.reduceBEq]; try with_reducible rfl) (by try simp only [go_sem, Nat.reduceBEq]; try rfl) fb15 (fun hb H => (.cons (td (by try simp only [go_sem, Nat.reduceBEq, hb, Bool.true_and]; try rfl) ((CFi .u32).sl _ _ _)) .nil)) (fun hb => natRight_c (gopt_t h3 hb)) ?_
  iterate 2 (first | refine pu rfl (by simp only [go_sem, Nat.reduceBEq]; try with_reducible rfl) ?_ | refine pg rfl rfl (by simp only [go_sem, Nat.reduceBEq]; try with_reducible rfl) (by intro hb; simp only [go_sem, Nat.reduceBEq, hb, Bool.true_and]; try with_reducible rfl) ?_)
  refine fs ?_
  refine AWp.condM hm (by try simp only [go_sem, Nat.reduceBEq]; try rfl) (fun _ hm => ?_) (fun _ hm => ?_)
  · refine sr (N' := 192) rfl ?_
    iterate 2 refine pu rfl (by simp only [go_sem, Nat.reduceBEq]; try with_reducible rfl) ?_
    refine fs ?_
    refine AWp.ret ?_
    refine retSeq ?_
    cases hm
    exact ret2D (.inr rfl) Try.results12 (tdn (by try simp only [go_sem, Nat.reduceBEq]; try rfl)) (td (by try simp only [go_sem, Nat.reduceBEq]; try rfl) (.v _))
  · refine AWp.skip ?_
    refine normSeq ?_
    refine sr (N' := 192) rfl ?_
    iterate 5 refine pu rfl (by simp only [go_sem, Nat.reduceBEq]; try with_reducible rfl) ?_
    obtain ⟨l6, h5, hm⟩ := bnd hm
    refine hp (id := 133) rfl rfl (ah_mk (CFi .u32) Try.underlying22 in33 (zc33) (by rw [tb33]; decide) ts33 (by decide) (by simp only [isFresh_upd, isFresh_no, Nat.reduceBEq, cond_true, cond_false]) (by try simp only [go_sem, Nat.reduceBEq]; try rfl) (by try simp only [go_sem, Nat.reduceBEq]; try rfl) h5) ?_
    refine pu rfl (by simp only [go_sem, Nat.reduceBEq]; try with_reducible rfl) ?_
    refine fs ?_
    refine AWp.seq' ?_
    refine sr (N' := 256) rfl ?_
    iterate 3 refine pu rfl (by simp only [go_sem, Nat.reduceBEq]; try with_reducible rfl) ?_
    refine fs ?_
    refine AWp.block ?_
    refine AWp.loopM (fun m s => ∃ (b_1 : List Int) (product_6 : List Int) (t27 : List Int) (t28 : Int) (t29 : Int), s = (⟨79, (fset (fset (fset (fset (fset (fun _ => AV.any) 1 (.sl (b_1.flatMap (ci .u32)) b_1.length false)) 6 (.own 1 0 product_6.length)) 27 (.sl (t27.flatMap (ci .u32)) t27.length false)) 28 (.v (.int .i64 t28))) 29 (.v (.int .i64 t29))), ⟨(upd nofresh 1 (.cells 1 (product_6.flatMap (ci .u32)) 0)), 64⟩⟩ : St) ∧ natMul_L1 m b_1 product_6 t27 t28 t29 = some r) FUEL ?_ ?_ ?_
    · rintro s ⟨_, _, _, _, _, _, h⟩
      cases h
    · refine ⟨_, ?_, b_1, l6, a_0, (a_0.length : Int), 0, rfl, hm⟩
      exact le_canon (fun j => bif j == 1 then 133 else 0) (wk_fset _ _ (wk_data (by try simp only [go_sem, Nat.reduceBEq]; try rfl) (.v _)) (wk_fset _ _ (wk_data (by try simp only [go_sem, Nat.reduceBEq]; try rfl) (.v _)) (wk_fset _ _ (wk_data (by try simp only [go_sem, Nat.reduceBEq]; try rfl) ((CFi .u32).sl _ _ _)) (wk_fset _ _ (wk_own (by try simp only [go_sem, Nat.reduceBEq]; try rfl) (by first | rfl | omega) rfl (by simp [upd])) (wk_fset _ _ (wk_data (by try simp only [go_sem, Nat.reduceBEq]; try rfl) ((CFi .u32).sl _ _ _)) wk_none))))) (heapWk_of _ (entWk_upd (ent_fm (CFi .u32) (by simp only [upd_beq, Nat.reduceBEq, cond_true, cond_false]; try rfl) rfl) entWk_none) (by repeat' (first | exact inj_none | exact liv_none | refine inj_upd ?_ ?_ | refine liv_upd ?_ ?_ | exact .inl rfl | exact .inr (by decide))))
    · rintro n1 s ⟨b_1, product_6, t27, t28, t29, rfl, hm⟩
      replace hm : natMul_B1 (natMul_L1 n1) b_1 product_6 t27 t28 t29 = some r := hm
      unfold natMul_B1 at hm
      refine sr (N' := 128) rfl ?_
      refine pu rfl (by simp only [go_sem, Nat.reduceBEq]; try with_reducible rfl) ?_
      refine fs ?_
      refine AWp.seq' ?_
      refine AWp.condM hm (by try simp only [go_sem, Nat.reduceBEq]; try rfl) (fun _ hm => ?_) (fun _ hm => ?_)
      · refine AWp.skip ?_
        refine normSeq ?_
        refine AWp.seq' ?_
        refine AWp.block ?_
        refine sr (N' := 192) rfl ?_
        refine pu rfl (by simp only [go_sem, Nat.reduceBEq]; try with_reducible rfl) ?_
        obtain ⟨x8, h7, hm⟩ := bnd hm
        refine pu rfl (ap_idx (CFi .u32) (by decide) Try.underlying22 sz33 (by try simp only [go_sem, Nat.reduceBEq]; try rfl) rfl (by try simp only [go_sem, Nat.reduceBEq]; try rfl) h7) ?_
        iterate 3 refine pu rfl (by simp only [go_sem, Nat.reduceBEq]; try with_reducible rfl) ?_
        refine fs ?_
        refine sr (N' := 256) rfl ?_
        refine pu rfl (by simp only [go_sem, Nat.reduceBEq]; try with_reducible rfl) ?_
        refine fs ?_
        refine AWp.seq' ?_
        refine sr (N' := 320) rfl ?_
        iterate 3 refine pu rfl (by simp only [go_sem, Nat.reduceBEq]; try with_reducible rfl) ?_
        refine fs ?_
        refine AWp.block ?_
        refine AWp.loopM (fun m s => ∃ (b_1 : List Int) (product_6 : List Int) (i_7 : Int) (x_8 : Int) (carry_9 : Int) (t27 : List Int) (t28 : Int) (t29 : Int) (t34 : List Int) (t35 : Int) (t36 : Int), s = (⟨79, (fset (fset (fset (fset (fset (fset (fset (fset (fset (fset (fset (fun _ => AV.any) 1 (.sl (b_1.flatMap (ci .u32)) b_1.length false)) 6 (.own 1 0 product_6.length)) 7 (.v (.int .i64 i_7))) 8 (.v (.int .u32 x_8))) 9 (.v (.int .u64 carry_9))) 27 (.sl (t27.flatMap (ci .u32)) t27.length false)) 28 (.v (.int .i64 t28))) 29 (.v (.int .i64 t29))) 34 (.sl (t34.flatMap (ci .u32)) t34.length false)) 35 (.v (.int .i64 t35))) 36 (.v (.int .i64 t36))), ⟨(upd nofresh 1 (.cells 1 (product_6.flatMap (ci .u32)) 0)), 64⟩⟩ : St) ∧ natMul_L2 (natMul_L1 n1) m b_1 product_6 i_7 x_8 carry_9 t27 t28 t29 t34 t35 t36 = some r) FUEL ?_ ?_ ?_
        · rintro s ⟨_, _, _, _, _, _, _, _, _, _, _, _, h⟩
          cases h
        · refine ⟨_, ?_, b_1, product_6, t29, x8, 0, t27, t28, t29, b_1, (b_1.length : Int), 0, rfl, hm⟩
          exact le_canon (fun j => bif j == 1 then 1 else 0) (wk_fset _ _ (wk_data (by try simp only [go_sem, Nat.reduceBEq]; try rfl) (.v _)) (wk_fset _ _ (wk_data (by try simp only [go_sem, Nat.reduceBEq]; try rfl) (.v _)) (wk_fset _ _ (wk_data (by try simp only [go_sem, Nat.reduceBEq]; try rfl) ((CFi .u32).sl _ _ _)) (wk_fset _ _ (wk_data (by try simp only [go_sem, Nat.reduceBEq]; try rfl) (.v _)) (wk_fset _ _ (wk_data (by try simp only [go_sem, Nat.reduceBEq]; try rfl) (.v _)) (wk_fset _ _ (wk_data (by try simp only [go_sem, Nat.reduceBEq]; try rfl) ((CFi .u32).sl _ _ _)) (wk_fset _ _ (wk_data (by try simp only [go_sem, Nat.reduceBEq]; try rfl) (.v _)) (wk_fset _ _ (wk_data (by try simp only [go_sem, Nat.reduceBEq]; try rfl) (.v _)) (wk_fset _ _ (wk_data (by try simp only [go_sem, Nat.reduceBEq]; try rfl) (.v _)) (wk_fset _ _ (wk_own (by try simp only [go_sem, Nat.reduceBEq]; try rfl) (by first | rfl | omega) rfl (by simp [upd])) (wk_fset _ _ (wk_data (by try simp only [go_sem, Nat.reduceBEq]; try rfl) ((CFi .u32).sl _ _ _)) wk_none))))))))))) (heapWk_of _ (entWk_upd (ent_fm (CFi .u32) (by simp only [upd_beq, Nat.reduceBEq, cond_true, cond_false]; try rfl) rfl) entWk_none) (by repeat' (first | exact inj_none | exact liv_none | refine inj_upd ?_ ?_ | refine liv_upd ?_ ?_ | exact .inl rfl | exact .inr (by decide))))
        · rintro n2 s ⟨b_1, product_6, i_7, x_8, carry_9, t27, t28, t29, t34, t35, t36, rfl, hm⟩
          replace hm : natMul_B2 (natMul_L1 n1) (natMul_L2 (natMul_L1 n1) n2) b_1 product_6 i_7 x_8 carry_9 t27 t28 t29 t34 t35 t36 = some r := hm
          unfold natMul_B2 at hm
          refine sr (N' := 128) rfl ?_
          refine pu rfl (by simp only [go_sem, Nat.reduceBEq]; try with_reducible rfl) ?_
          refine fs ?_
          refine AWp.seq' ?_
          refine AWp.condM hm (by try simp only [go_sem, Nat.reduceBEq]; try rfl) (fun _ hm => ?_) (fun _ hm => ?_)
          · refine AWp.skip ?_
            refine normSeq ?_
            refine AWp.seq' ?_
            refine AWp.block ?_
            refine sr (N' := 192) rfl ?_
            refine pu rfl (by simp only [go_sem, Nat.reduceBEq]; try with_reducible rfl) ?_
            obtain ⟨x10, h9, hm⟩ := bnd hm
            refine pu rfl (ap_idx (CFi .u32) (by decide) Try.underlying22 sz33 (by try simp only [go_sem, Nat.reduceBEq]; try rfl) rfl (by try simp only [go_sem, Nat.reduceBEq]; try rfl) h9) ?_
            iterate 3 refine pu rfl (by simp only [go_sem, Nat.reduceBEq]; try with_reducible rfl) ?_
            refine fs ?_
            refine sr (N' := 256) rfl ?_
            iterate 4 refine pu rfl (by simp only [go_sem, Nat.reduceBEq]; try with_reducible rfl) ?_
            obtain ⟨x12, h11, hm⟩ := bnd hm
            refine pu rfl (ap_idxo Try.underlying22 sz33 (by try simp only [go_sem, Nat.reduceBEq]; try rfl) (by simp only [upd_beq, Nat.reduceBEq, cond_true, cond_false]; try rfl) (by first | rfl | omega) (by try simp only [go_sem, Nat.reduceBEq]; try rfl) h11) ?_
            refine pu rfl (ap_ldo (CFi .u32) (by try simp only [go_sem, Nat.reduceBEq]; try rfl) (by simp only [upd_beq, Nat.reduceBEq, cond_true, cond_false]; try rfl) h11 (fun _ => by simp only [go_sem, Nat.reduceBEq]; try with_reducible rfl)) ?_
            iterate 10 refine pu rfl (by simp only [go_sem, Nat.reduceBEq]; try with_reducible rfl) ?_
            refine fs ?_
            refine sr (N' := 320) rfl ?_
            iterate 6 refine pu rfl (by simp only [go_sem, Nat.reduceBEq]; try with_reducible rfl) ?_
            obtain ⟨x14, h13, hm⟩ := bnd hm
            refine pu rfl (ap_idxo Try.underlying22 sz33 (by try simp only [go_sem, Nat.reduceBEq]; try rfl) (by simp only [upd_beq, Nat.reduceBEq, cond_true, cond_false]; try rfl) (by first | rfl | omega) (by try simp only [go_sem, Nat.reduceBEq]; try rfl) h13) ?_
            obtain ⟨l16, h15, hm⟩ := bnd hm
            have qh15 := stt_len h15
            refine ARun.heap0 (id := 263) rfl (ah_stt (CFi .u32) sz33 (by try simp only [go_sem, Nat.reduceBEq]; try rfl) (by try simp only [go_sem, Nat.reduceBEq]; try rfl) (by simp only [upd_beq, Nat.reduceBEq, cond_true, cond_false]; try rfl) rfl h15) ?_
            refine fs ?_
            refine AWp.reg 64 (N' := 384) rfl ?_
            iterate 3 refine pu rfl (by simp only [go_sem, Nat.reduceBEq, Int.reduceEq, Int.reduceLE]; try with_reducible rfl) ?_
            refine ARun.fin ?_
            refine normIn ?_
            refine normSeq ?_
            refine AWp.reg 64 (N' := 448) rfl ?_
            iterate 2 refine pu rfl (by simp only [go_sem, Nat.reduceBEq]; try with_reducible rfl) ?_
            refine ARun.fin ?_
            refine normThen ?_
            refine ⟨_, ?_, b_1, l16, i_7, x_8, (shr .u64 (IntKind.u64.wrap ((IntKind.u64.wrap ((IntKind.u64.wrap x12) + (IntKind.u64.wrap ((IntKind.u64.wrap x_8) * (IntKind.u64.wrap x10))))) + carry_9)) 32), t27, t28, t29, t34, t35, (IntKind.i64.wrap (t36 + 1)), rfl, hm⟩
            exact le_canon (fun j => bif j == 1 then 1 else 0) (wk_fset _ _ (wk_data (by try simp only [go_sem, Nat.reduceBEq]; try rfl) (.v _)) (wk_fset _ _ (wk_data (by try simp only [go_sem, Nat.reduceBEq]; try rfl) (.v _)) (wk_fset _ _ (wk_data (by try simp only [go_sem, Nat.reduceBEq]; try rfl) ((CFi .u32).sl _ _ _)) (wk_fset _ _ (wk_data (by try simp only [go_sem, Nat.reduceBEq]; try rfl) (.v _)) (wk_fset _ _ (wk_data (by try simp only [go_sem, Nat.reduceBEq]; try rfl) (.v _)) (wk_fset _ _ (wk_data (by try simp only [go_sem, Nat.reduceBEq]; try rfl) ((CFi .u32).sl _ _ _)) (wk_fset _ _ (wk_data (by try simp only [go_sem, Nat.reduceBEq]; try rfl) (.v _)) (wk_fset _ _ (wk_data (by try simp only [go_sem, Nat.reduceBEq]; try rfl) (.v _)) (wk_fset _ _ (wk_data (by try simp only [go_sem, Nat.reduceBEq]; try rfl) (.v _)) (wk_fset _ _ (wk_own (by try simp only [go_sem, Nat.reduceBEq]; try rfl) (by first | rfl | omega) rfl (by simp [upd])) (wk_fset _ _ (wk_data (by try simp only [go_sem, Nat.reduceBEq]; try rfl) ((CFi .u32).sl _ _ _)) wk_none))))))))))) (heapWk_of _ (entWk_upd (ent_fm (CFi .u32) (by simp only [upd_beq, Nat.reduceBEq, cond_true, cond_false]; try rfl) rfl) entWk_none) (by repeat' (first | exact inj_none | exact liv_none | refine inj_upd ?_ ?_ | refine liv_upd ?_ ?_ | exact .inl rfl | exact .inr (by decide))))
          · refine AWp.exit ?_
            refine exitSeq ?_
            refine exitThen ?_
            refine exitHere ?_
            refine normSeq ?_
            refine AWp.reg 64 (N' := 192) rfl ?_
            iterate 7 refine pu rfl (by simp only [go_sem, Nat.reduceBEq]; try with_reducible rfl) ?_
            obtain ⟨x18, h17, hm⟩ := bnd hm
            refine pu rfl (ap_idxo Try.underlying22 sz33 (by try simp only [go_sem, Nat.reduceBEq]; try rfl) (by simp only [upd_beq, Nat.reduceBEq, cond_true, cond_false]; try rfl) (by first | rfl | omega) (by try simp only [go_sem, Nat.reduceBEq]; try rfl) h17) ?_
            obtain ⟨l20, h19, hm⟩ := bnd hm
            have qh19 := stt_len h19
            refine ARun.heap0 (id := 136) rfl (ah_stt (CFi .u32) sz33 (by try simp only [go_sem, Nat.reduceBEq]; try rfl) (by try simp only [go_sem, Nat.reduceBEq]; try rfl) (by simp only [upd_beq, Nat.reduceBEq, cond_true, cond_false]; try rfl) rfl h19) ?_
            refine ARun.fin ?_
            refine normIn ?_
            refine normSeq ?_
            refine AWp.reg 64 (N' := 256) rfl ?_
            iterate 2 refine pu rfl (by simp only [go_sem, Nat.reduceBEq]; try with_reducible rfl) ?_
            refine ARun.fin ?_
            refine normThen ?_
            refine ⟨_, ?_, b_1, l20, t27, t28, (IntKind.i64.wrap (t29 + 1)), rfl, hm⟩
            exact le_canon (fun j => bif j == 1 then 1 else 0) (wk_fset _ _ (wk_data (by try simp only [go_sem, Nat.reduceBEq]; try rfl) (.v _)) (wk_fset _ _ (wk_data (by try simp only [go_sem, Nat.reduceBEq]; try rfl) (.v _)) (wk_fset _ _ (wk_data (by try simp only [go_sem, Nat.reduceBEq]; try rfl) ((CFi .u32).sl _ _ _)) (wk_fset _ _ (wk_own (by try simp only [go_sem, Nat.reduceBEq]; try rfl) (by first | rfl | omega) rfl (by simp [upd])) (wk_fset _ _ (wk_data (by try simp only [go_sem, Nat.reduceBEq]; try rfl) ((CFi .u32).sl _ _ _)) wk_none))))) (heapWk_of _ (entWk_upd (ent_fm (CFi .u32) (by simp only [upd_beq, Nat.reduceBEq, cond_true, cond_false]; try rfl) rfl) entWk_none) (by repeat' (first | exact inj_none | exact liv_none | refine inj_upd ?_ ?_ | refine liv_upd ?_ ?_ | exact .inl rfl | exact .inr (by decide))))
      · refine AWp.exit ?_
        refine exitSeq ?_
        refine exitThen ?_
        refine exitHere ?_
        refine normSeq ?_
        refine AWp.seq' ?_
        refine AWp.weaken (le_lock (CFi .u32) 6 1 (by try simp only [go_sem, Nat.reduceBEq]; try rfl) (by simp only [upd_beq, Nat.reduceBEq, cond_true, cond_false]; try rfl) (by first | rfl | omega)) ?_
        refine AWp.reg 64 (N' := 192) rfl ?_
        refine pu rfl (by simp only [go_sem, Nat.reduceBEq]; try with_reducible rfl) ?_
        obtain ⟨⟨r22, r23⟩, h21, hm⟩ := bnd hm
        refine ARun.callQ (r := .tup [.sl (r22.flatMap (ci .u32)) r22.length false, .v (.int .i64 r23)]) (by decide) (by try simp only [go_sem, Nat.reduceBEq]; try rfl) fb25 (fun H => (.cons (td (by try simp only [go_sem, Nat.reduceBEq]; try rfl) ((CFi .u32).sl _ _ _)) .nil)) (natBounded_c h21) ?_
        iterate 4 refine pu rfl (by simp only [go_sem, Nat.reduceBEq]; try with_reducible rfl) ?_
        refine fs ?_
        refine AWp.ret ?_
        cases hm
        exact ret2D (.inr rfl) Try.results12 (td (by try simp only [go_sem, Nat.reduceBEq]; try rfl) ((CFi .u32).sl _ _ _)) (td (by try simp only [go_sem, Nat.reduceBEq]; try rfl) (.v _))
def natCmp_B1 (rec1 : List Int → List Int → Int → Option (Int)) (a_0 : List Int) (b_1 : List Int) (i_5 : Int) : Option (Int) :=
  (bif (decide (0 ≤ i_5)) then
    ((idx a_0 i_5).bind fun x8 =>
    ((idx b_1 i_5).bind fun x10 =>
    (bif (x8 != x10) then
      ((idx a_0 i_5).bind fun x12 =>
      ((idx b_1 i_5).bind fun x14 =>
      ((cmpU_m x12 x14).bind fun r16 =>
      some r16)))
    else
      rec1 a_0 b_1 (IntKind.i64.wrap (i_5 - 1)))))
  else
    some 0)
def natCmp_L1 : Nat → List Int → List Int → Int → Option (Int)
  | 0 => fun _ _ _ => none
  | n + 1 => natCmp_B1 (natCmp_L1 n)
def natCmp_m (a_0 : List Int) (b_1 : List Int) : Option (Int) :=
  ((natRight_m a_0).bind fun r2 =>
  ((gopt ((!r2) == false) false (natRight_m b_1)).bind fun r4 =>
  (bif ((!r2) || (!r4)) then
    some 0
  else
    (bif ((a_0.length : Int) != (b_1.length : Int)) then
      ((cmpI_m (a_0.length : Int) (b_1.length : Int)).bind fun r6 =>
      some r6)
    else
      natCmp_L1 FUEL a_0 b_1 (IntKind.i64.wrap ((a_0.length : Int) - 1))))))
theorem natCmp_c {a_0 : List Int} {b_1 : List Int} {r : Int} (hm : natCmp_m a_0 b_1 = some r) : PureC Try.prog 13 [.sl (a_0.flatMap (ci .u32)) a_0.length false, .sl (b_1.flatMap (ci .u32)) b_1.length false] (.v (.int .i64 r)) := by
  refine PureC.of_body Try.func13 rfl ?_
  simp only [Try.ntmps13, List.length_cons, List.length_nil, Nat.reduceAdd, Nat.reduceSub, empty_eq]
  unfold natCmp_m at hm
  refine sr (N' := 64) rfl ?_
  refine pu rfl (by simp only [go_sem, Nat.reduceBEq]; try with_reducible rfl) ?_
  refine fs ?_
  refine AWp.seq' ?_
  refine sr (N' := 128) rfl ?_
  refine pu rfl (by simp only [go_sem, Nat.reduceBEq]; try with_reducible rfl) ?_
  obtain ⟨r2, h1, hm⟩ := bnd hm
  refine ARun.callQ (r := .v (.bool r2)) (by decide) (by try simp only [go_sem, Nat.reduceBEq]; try rfl) fb15 (fun H => (.cons (td (by try simp only [go_sem, Nat.reduceBEq]; try rfl) ((CFi .u32).sl _ _ _)) .nil)) (natRight_c h1) ?_
  iterate 3 (first | refine pu rfl (by simp only [go_sem, Nat.reduceBEq]; try with_reducible rfl) ?_ | refine pg rfl rfl (by simp only [go_sem, Nat.reduceBEq]; try with_reducible rfl) (by intro hb; simp only [go_sem, Nat.reduceBEq, hb, Bool.true_and]; try with_reducible rfl) ?_)
  obtain ⟨r4, h3, hm⟩ := bnd hm
  refine ARun.callQG (r := .v (.bool r4)) (by decide) rfl (by simp only [go_sem, Nat.reduceBEq]; try with_reducible rfl) (by try simp only [go_sem, Nat.reduceBEq]; try rfl) fb15 (fun hb H => (.cons (td (by try simp only [go_sem, Nat.reduceBEq, hb, Bool.true_and]; try rfl) ((CFi .u32).sl _ _ _)) .nil)) (fun hb => natRight_c (gopt_t h3 hb)) ?_
  iterate 2 (first | refine pu rfl (by simp only [go_sem, Nat.reduceBEq]; try with_reducible rfl) ?_ | refine pg rfl rfl (by simp only [go_sem, Nat.reduceBEq]; try with_reducible rfl) (by intro hb; simp only [go_sem, Nat.reduceBEq, hb, Bool.true_and]; try with_reducible rfl) ?_)
  refine fs ?_
  refine AWp.condM hm (by try simp only [go_sem, Nat.reduceBEq]; try rfl) (fun _ hm => ?_) (fun _ hm => ?_)
  · refine sr (N' := 192) rfl ?_
    refine pu rfl (by simp only [go_sem, Nat.reduceBEq]; try with_reducible rfl) ?_
    refine fs ?_
    refine AWp.ret ?_
    refine retSeq ?_
    cases hm
    exact ret1D (.inr rfl) Try.results13 (td (by try simp only [go_sem, Nat.reduceBEq]; try rfl) (.v _))
  · refine AWp.skip ?_
    refine normSeq ?_
    refine AWp.seq' ?_
    refine sr (N' := 192) rfl ?_
    iterate 5 refine pu rfl (by simp only [go_sem, Nat.reduceBEq]; try with_reducible rfl) ?_
    refine fs ?_
    refine AWp.condM hm (by try simp only [go_sem, Nat.reduceBEq]; try rfl) (fun _ hm => ?_) (fun _ hm => ?_)
    · refine sr (N' := 256) rfl ?_
      iterate 4 refine pu rfl (by simp only [go_sem, Nat.reduceBEq]; try with_reducible rfl) ?_
      obtain ⟨r6, h5, hm⟩ := bnd hm
      refine ARun.callQ (r := .v (.int .i64 r6)) (by decide) (by try simp only [go_sem, Nat.reduceBEq]; try rfl) fb26 (fun H => (.cons (td (by try simp only [go_sem, Nat.reduceBEq]; try rfl) (.v _)) (.cons (td (by try simp only [go_sem, Nat.reduceBEq]; try rfl) (.v _)) .nil))) (cmpI_c h5) ?_
      refine pu rfl (by simp only [go_sem, Nat.reduceBEq]; try with_reducible rfl) ?_
      refine fs ?_
      refine AWp.ret ?_
      refine retSeq ?_
      cases hm
      exact ret1D (.inr rfl) Try.results13 (td (by try simp only [go_sem, Nat.reduceBEq]; try rfl) (.v _))
    · refine AWp.skip ?_
      refine normSeq ?_
      refine AWp.seq' ?_
      refine sr (N' := 256) rfl ?_
      iterate 4 refine pu rfl (by simp only [go_sem, Nat.reduceBEq]; try with_reducible rfl) ?_
      refine fs ?_
      refine AWp.block ?_
      refine AWp.loopM (fun m s => ∃ (a_0 : List Int) (b_1 : List Int) (i_5 : Int), s = (⟨49, (fset (fset (fset (fun _ => AV.any) 0 (.sl (a_0.flatMap (ci .u32)) a_0.length false)) 1 (.sl (b_1.flatMap (ci .u32)) b_1.length false)) 5 (.v (.int .i64 i_5))), ⟨nofresh, 64⟩⟩ : St) ∧ natCmp_L1 m a_0 b_1 i_5 = some r) FUEL ?_ ?_ ?_
      · rintro s ⟨_, _, _, _, h⟩
        cases h
      · refine ⟨_, ?_, a_0, b_1, (IntKind.i64.wrap ((a_0.length : Int) - 1)), rfl, hm⟩
        exact le_canon id (wk_fset _ _ (wk_data (by try simp only [go_sem, Nat.reduceBEq]; try rfl) (.v _)) (wk_fset _ _ (wk_data (by try simp only [go_sem, Nat.reduceBEq]; try rfl) ((CFi .u32).sl _ _ _)) (wk_fset _ _ (wk_data (by try simp only [go_sem, Nat.reduceBEq]; try rfl) ((CFi .u32).sl _ _ _)) wk_none))) heapWk0
      · rintro n1 s ⟨a_0, b_1, i_5, rfl, hm⟩
        replace hm : natCmp_B1 (natCmp_L1 n1) a_0 b_1 i_5 = some r := hm
        unfold natCmp_B1 at hm
        refine AWp.seq' ?_
        refine sr (N' := 128) rfl ?_
        iterate 2 refine pu rfl (by simp only [go_sem, Nat.reduceBEq]; try with_reducible rfl) ?_
        refine fs ?_
        refine AWp.condM hm (by try simp only [go_sem, Nat.reduceBEq]; try rfl) (fun _ hm => ?_) (fun _ hm => ?_)
        · refine AWp.skip ?_
          refine normSeq ?_
          refine AWp.seq' ?_
          refine AWp.block ?_
          refine sd mix (by kernel_rfl) (N' := 192) rfl ?_
          iterate 2 refine pu rfl (by simp only [go_sem, Nat.reduceBEq]; try with_reducible rfl) ?_
          obtain ⟨x8, h7, hm⟩ := bnd hm
          refine pu rfl (ap_idx (CFi .u32) (by decide) Try.underlying22 sz33 (by try simp only [go_sem, Nat.reduceBEq]; try rfl) rfl (by try simp only [go_sem, Nat.reduceBEq]; try rfl) h7) ?_
          iterate 3 refine pu rfl (by simp only [go_sem, Nat.reduceBEq]; try with_reducible rfl) ?_
          obtain ⟨x10, h9, hm⟩ := bnd hm
          refine pu rfl (ap_idx (CFi .u32) (by decide) Try.underlying22 sz33 (by try simp only [go_sem, Nat.reduceBEq]; try rfl) rfl (by try simp only [go_sem, Nat.reduceBEq]; try rfl) h9) ?_
          iterate 2 refine pu rfl (by simp only [go_sem, Nat.reduceBEq]; try with_reducible rfl) ?_
          refine fs ?_
          refine AWp.condM hm (by try simp only [go_sem, Nat.reduceBEq]; try rfl) (fun _ hm => ?_) (fun _ hm => ?_)
          · refine sd mix (by kernel_rfl) (N' := 256) rfl ?_
            iterate 2 refine pu rfl (by simp only [go_sem, Nat.reduceBEq]; try with_reducible rfl) ?_
            obtain ⟨x12, h11, hm⟩ := bnd hm
            refine pu rfl (ap_idx (CFi .u32) (by decide) Try.underlying22 sz33 (by try simp only [go_sem, Nat.reduceBEq]; try rfl) rfl (by try simp only [go_sem, Nat.reduceBEq]; try rfl) h11) ?_
            iterate 3 refine pu rfl (by simp only [go_sem, Nat.reduceBEq]; try with_reducible rfl) ?_
            obtain ⟨x14, h13, hm⟩ := bnd hm
            refine pu rfl (ap_idx (CFi .u32) (by decide) Try.underlying22 sz33 (by try simp only [go_sem, Nat.reduceBEq]; try rfl) rfl (by try simp only [go_sem, Nat.reduceBEq]; try rfl) h13) ?_
            refine pu rfl (by simp only [go_sem, Nat.reduceBEq]; try with_reducible rfl) ?_
            obtain ⟨r16, h15, hm⟩ := bnd hm
            refine ARun.callQ (r := .v (.int .i64 r16)) (by decide) (by try simp only [go_sem, Nat.reduceBEq]; try rfl) fb27 (fun H => (.cons (td (by try simp only [go_sem, Nat.reduceBEq]; try rfl) (.v _)) (.cons (td (by try simp only [go_sem, Nat.reduceBEq]; try rfl) (.v _)) .nil))) (cmpU_c h15) ?_
            refine pu rfl (by simp only [go_sem, Nat.reduceBEq]; try with_reducible rfl) ?_
            refine fs ?_
            refine AWp.ret ?_
            refine retIn ?_
            refine retSeq ?_
            refine retThen ?_
            refine retIn ?_
            refine retSeq ?_
            cases hm
            exact ret1D (.inr rfl) Try.results13 (td (by try simp only [go_sem, Nat.reduceBEq]; try rfl) (.v _))
          · refine AWp.skip ?_
            refine normIn ?_
            refine normSeq ?_
            refine AWp.reg 64 (N' := 256) rfl ?_
            iterate 3 refine pu rfl (by simp only [go_sem, Nat.reduceBEq]; try with_reducible rfl) ?_
            refine ARun.fin ?_
            refine normThen ?_
            refine ⟨_, ?_, a_0, b_1, (IntKind.i64.wrap (i_5 - 1)), rfl, hm⟩
            exact le_canon id (wk_fset _ _ (wk_data (by try simp only [go_sem, Nat.reduceBEq]; try rfl) (.v _)) (wk_fset _ _ (wk_data (by try simp only [go_sem, Nat.reduceBEq]; try rfl) ((CFi .u32).sl _ _ _)) (wk_fset _ _ (wk_data (by try simp only [go_sem, Nat.reduceBEq]; try rfl) ((CFi .u32).sl _ _ _)) wk_none))) heapWk0
        · refine AWp.exit ?_
          refine exitSeq ?_
          refine exitThen ?_
          refine exitHere ?_
          refine normSeq ?_
          refine sr (N' := 192) rfl ?_
          refine pu rfl (by simp only [go_sem, Nat.reduceBEq]; try with_reducible rfl) ?_
          refine fs ?_
          refine AWp.ret ?_
          cases hm
          exact ret1D (.inr rfl) Try.results13 (td (by try simp only [go_sem, Nat.reduceBEq]; try rfl) (.v _))
def natPow_B1 (rec1 : List Int → List Int → Int → Int → Option ((List Int) × Int)) (a_0 : List Int) (power_6 : List Int) (t21 : Int) (t22 : Int) : Option ((List Int) × Int) :=
  (bif (decide (t22 < t21)) then
    ((natMul_m power_6 a_0).bind fun ⟨r6, r7⟩ =>
    (bif (r7 != 0) then
      some ([], r7)
    else
      rec1 a_0 r6 t21 (IntKind.i64.wrap (t22 + 1))))
  else
    some (power_6, 0))
def natPow_L1 : Nat → List Int → List Int → Int → Int → Option ((List Int) × Int)
  | 0 => fun _ _ _ _ => none
  | n + 1 => natPow_B1 (natPow_L1 n)
def natPow_m (a_0 : List Int) (n_1 : Int) : Option ((List Int) × Int) :=
  ((natRight_m a_0).bind fun r2 =>
  (bif (((!r2) || (decide (n_1 < 0))) || (decide (1024 < n_1))) then
    some ([], 1)
  else
    ((natOf_m 1).bind fun r4 =>
    natPow_L1 FUEL a_0 r4 n_1 0)))
theorem natPow_c {a_0 : List Int} {n_1 : Int} {r : (List Int) × Int} (hm : natPow_m a_0 n_1 = some r) : PureC Try.prog 23 [.sl (a_0.flatMap (ci .u32)) a_0.length false, .v (.int .i64 n_1)] (.tup [.sl (r.1.flatMap (ci .u32)) r.1.length false, .v (.int .i64 r.2)]) := by
  refine PureC.of_body Try.func23 rfl ?_
  simp only [Try.ntmps23, List.length_cons, List.length_nil, Nat.reduceAdd, Nat.reduceSub, empty_eq]
  unfold natPow_m at hm
  refine sr (N' := 64) rfl ?_
  iterate 2 refine pu rfl (by simp only [go_sem, Nat.reduceBEq]; try with_reducible rfl) ?_
  refine fs ?_
  refine AWp.seq' ?_
  refine sr (N' := 128) rfl ?_
  refine pu rfl (by simp only [go_sem, Nat.reduceBEq]; try with_reducible rfl) ?_
  obtain ⟨r2, h1, hm⟩ := bnd hm
  refine ARun.callQ (r := .v (.bool r2)) (by decide) (by try simp only [go_sem, Nat.reduceBEq]; try rfl) fb15 (fun H => (.cons (td (by try simp only [go_sem, Nat.reduceBEq]; try rfl) ((CFi .u32).sl _ _ _)) .nil)) (natRight_c h1) ?_
  iterate 9 (first | refine pu rfl (by simp only [go_sem, Nat.reduceBEq]; try with_reducible rfl) ?_ | refine pg rfl rfl (by simp only [go_sem, Nat.reduceBEq]; try with_reducible rfl) (by intro hb; simp only [go_sem, Nat.reduceBEq, hb, Bool.true_and]; try with_reducible rfl) ?_)
  refine fs ?_
  refine AWp.condM hm (by try simp only [go_sem, Nat.reduceBEq]; try rfl) (fun _ hm => ?_) (fun _ hm => ?_)
  · refine sr (N' := 192) rfl ?_
    iterate 2 refine pu rfl (by simp only [go_sem, Nat.reduceBEq]; try with_reducible rfl) ?_
    refine fs ?_
    refine AWp.ret ?_
    refine retSeq ?_
    cases hm
    exact ret2D (.inr rfl) Try.results23 (tdn (by try simp only [go_sem, Nat.reduceBEq]; try rfl)) (td (by try simp only [go_sem, Nat.reduceBEq]; try rfl) (.v _))
  · refine AWp.skip ?_
    refine normSeq ?_
    refine sr (N' := 192) rfl ?_
    obtain ⟨r4, h3, hm⟩ := bnd hm
    refine ARun.callQ (r := .sl (r4.flatMap (ci .u32)) r4.length false) (by decide) (by try simp only [go_sem, Nat.reduceBEq]; try rfl) fb17 (fun H => (.cons (td (by try simp only [go_sem, Nat.reduceBEq]; try rfl) (.v _)) .nil)) (natOf_c h3) ?_
    refine pu rfl (by simp only [go_sem, Nat.reduceBEq]; try with_reducible rfl) ?_
    refine fs ?_
    refine AWp.seq' ?_
    refine sr (N' := 256) rfl ?_
    iterate 2 refine pu rfl (by simp only [go_sem, Nat.reduceBEq]; try with_reducible rfl) ?_
    refine fs ?_
    refine AWp.block ?_
    refine AWp.loopM (fun m s => ∃ (a_0 : List Int) (power_6 : List Int) (t21 : Int) (t22 : Int), s = (⟨36, (fset (fset (fset (fset (fun _ => AV.any) 0 (.sl (a_0.flatMap (ci .u32)) a_0.length false)) 6 (.sl (power_6.flatMap (ci .u32)) power_6.length false)) 21 (.v (.int .i64 t21))) 22 (.v (.int .i64 t22))), ⟨nofresh, 64⟩⟩ : St) ∧ natPow_L1 m a_0 power_6 t21 t22 = some r) FUEL ?_ ?_ ?_
    · rintro s ⟨_, _, _, _, _, h⟩
      cases h
    · refine ⟨_, ?_, a_0, r4, n_1, 0, rfl, hm⟩
      exact le_canon id (wk_fset _ _ (wk_data (by try simp only [go_sem, Nat.reduceBEq]; try rfl) (.v _)) (wk_fset _ _ (wk_data (by try simp only [go_sem, Nat.reduceBEq]; try rfl) (.v _)) (wk_fset _ _ (wk_data (by try simp only [go_sem, Nat.reduceBEq]; try rfl) ((CFi .u32).sl _ _ _)) (wk_fset _ _ (wk_data (by try simp only [go_sem, Nat.reduceBEq]; try rfl) ((CFi .u32).sl _ _ _)) wk_none)))) heapWk0
    · rintro n1 s ⟨a_0, power_6, t21, t22, rfl, hm⟩
      replace hm : natPow_B1 (natPow_L1 n1) a_0 power_6 t21 t22 = some r := hm
      unfold natPow_B1 at hm
      refine sr (N' := 128) rfl ?_
      refine pu rfl (by simp only [go_sem, Nat.reduceBEq]; try with_reducible rfl) ?_
      refine fs ?_
      refine AWp.seq' ?_
      refine AWp.condM hm (by try simp only [go_sem, Nat.reduceBEq]; try rfl) (fun _ hm => ?_) (fun _ hm => ?_)
      · refine AWp.skip ?_
        refine normSeq ?_
        refine AWp.seq' ?_
        refine AWp.block ?_
        refine sr (N' := 192) rfl ?_
        iterate 2 refine pu rfl (by simp only [go_sem, Nat.reduceBEq]; try with_reducible rfl) ?_
        obtain ⟨⟨r6, r7⟩, h5, hm⟩ := bnd hm
        refine ARun.callQ (r := .tup [.sl (r6.flatMap (ci .u32)) r6.length false, .v (.int .i64 r7)]) (by decide) (by try simp only [go_sem, Nat.reduceBEq]; try rfl) fb12 (fun H => (.cons (td (by try simp only [go_sem, Nat.reduceBEq]; try rfl) ((CFi .u32).sl _ _ _)) (.cons (td (by try simp only [go_sem, Nat.reduceBEq]; try rfl) ((CFi .u32).sl _ _ _)) .nil))) (natMul_c h5) ?_
        iterate 5 refine pu rfl (by simp only [go_sem, Nat.reduceBEq]; try with_reducible rfl) ?_
        refine fs ?_
        refine AWp.seq' ?_
        refine sr (N' := 256) rfl ?_
        iterate 2 refine pu rfl (by simp only [go_sem, Nat.reduceBEq]; try with_reducible rfl) ?_
        refine fs ?_
        refine AWp.condM hm (by try simp only [go_sem, Nat.reduceBEq]; try rfl) (fun _ hm => ?_) (fun _ hm => ?_)
        · refine sr (N' := 320) rfl ?_
          iterate 3 refine pu rfl (by simp only [go_sem, Nat.reduceBEq]; try with_reducible rfl) ?_
          refine fs ?_
          refine AWp.ret ?_
          refine retSeq ?_
          refine retIn ?_
          refine retSeq ?_
          refine retThen ?_
          refine retIn ?_
          refine retSeq ?_
          cases hm
          exact ret2D (.inr rfl) Try.results23 (tdn (by try simp only [go_sem, Nat.reduceBEq]; try rfl)) (td (by try simp only [go_sem, Nat.reduceBEq]; try rfl) (.v _))
        · refine AWp.skip ?_
          refine normSeq ?_
          refine AWp.reg 64 (N' := 320) rfl ?_
          iterate 2 refine pu rfl (by simp only [go_sem, Nat.reduceBEq]; try with_reducible rfl) ?_
          refine ARun.fin ?_
          refine normIn ?_
          refine normSeq ?_
          refine AWp.reg 64 (N' := 384) rfl ?_
          iterate 2 refine pu rfl (by simp only [go_sem, Nat.reduceBEq]; try with_reducible rfl) ?_
          refine ARun.fin ?_
          refine normThen ?_
          refine ⟨_, ?_, a_0, r6, t21, (IntKind.i64.wrap (t22 + 1)), rfl, hm⟩
          exact le_canon id (wk_fset _ _ (wk_data (by try simp only [go_sem, Nat.reduceBEq]; try rfl) (.v _)) (wk_fset _ _ (wk_data (by try simp only [go_sem, Nat.reduceBEq]; try rfl) (.v _)) (wk_fset _ _ (wk_data (by try simp only [go_sem, Nat.reduceBEq]; try rfl) ((CFi .u32).sl _ _ _)) (wk_fset _ _ (wk_data (by try simp only [go_sem, Nat.reduceBEq]; try rfl) ((CFi .u32).sl _ _ _)) wk_none)))) heapWk0
      · refine AWp.exit ?_
        refine exitSeq ?_
        refine exitThen ?_
        refine exitHere ?_
        refine normSeq ?_
        refine sr (N' := 192) rfl ?_
        iterate 3 refine pu rfl (by simp only [go_sem, Nat.reduceBEq]; try with_reducible rfl) ?_
        refine fs ?_
        refine AWp.ret ?_
        cases hm
        exact ret2D (.inr rfl) Try.results23 (td (by try simp only [go_sem, Nat.reduceBEq]; try rfl) ((CFi .u32).sl _ _ _)) (td (by try simp only [go_sem, Nat.reduceBEq]; try rfl) (.v _))
def refBits_B2 (rec1 : List Int → List Int → Int → Option ((List Int))) (rec2 : List Int → List Int → Int → Int → Option ((List Int))) (a_0 : List Int) (out_3 : List Int) (i_4 : Int) (k_5 : Int) : Option ((List Int)) :=
  (bif (decide (k_5 < 32)) then
    ((idx a_0 i_4).bind fun x2 =>
    ((chk (decide (0 ≤ (IntKind.u64.wrap k_5)))).bind fun _ =>
    ((app out_3 [(IntKind.i64.wrap (Int.tmod (shr .u32 x2 (IntKind.u64.wrap k_5)) 2))]).bind fun l5 =>
    rec2 a_0 l5 i_4 (IntKind.i64.wrap (k_5 + 1)))))
  else
    rec1 a_0 out_3 (IntKind.i64.wrap (i_4 + 1)))
def refBits_L2 (rec1 : List Int → List Int → Int → Option ((List Int))) : Nat → List Int → List Int → Int → Int → Option ((List Int))
  | 0 => fun _ _ _ _ => none
  | n + 1 => refBits_B2 rec1 (refBits_L2 rec1 n)
def refBits_B1 (rec1 : List Int → List Int → Int → Option ((List Int))) (a_0 : List Int) (out_3 : List Int) (i_4 : Int) : Option ((List Int)) :=
  (bif (decide (i_4 < (a_0.length : Int))) then
    refBits_L2 rec1 FUEL a_0 out_3 i_4 0
  else
    some out_3)
def refBits_L1 : Nat → List Int → List Int → Int → Option ((List Int))
  | 0 => fun _ _ _ => none
  | n + 1 => refBits_B1 (refBits_L1 n)
def refBits_m (a_0 : List Int) : Option ((List Int)) :=
  refBits_L1 FUEL a_0 [] 0
theorem refBits_c {a_0 : List Int} {r : (List Int)} (hm : refBits_m a_0 = some r) : PureC Try.prog 29 [.sl (a_0.flatMap (ci .u32)) a_0.length false] (.sl (r.flatMap (ci .i64)) r.length false) := by
  refine PureC.of_body Try.func29 rfl ?_
  simp only [Try.ntmps29, List.length_cons, List.length_nil, Nat.reduceAdd, Nat.reduceSub, empty_eq]
  unfold refBits_m at hm
  refine sr (N' := 64) rfl ?_
  refine pu rfl (by simp only [go_sem, Nat.reduceBEq]; try with_reducible rfl) ?_
  refine fs ?_
  refine sr (N' := 128) rfl ?_
  refine pu rfl (by simp only [go_sem, Nat.reduceBEq]; try with_reducible rfl) ?_
  refine fs ?_
  refine AWp.seq' ?_
  refine sr (N' := 192) rfl ?_
  refine pu rfl (by simp only [go_sem, Nat.reduceBEq]; try with_reducible rfl) ?_
  refine fs ?_
  refine AWp.block ?_
  refine AWp.loopM (fun m s => ∃ (a_0 : List Int) (out_3 : List Int) (i_4 : Int), s = (⟨29, (fset (fset (fset (fun _ => AV.any) 0 (.sl (a_0.flatMap (ci .u32)) a_0.length false)) 3 (.own 1 0 out_3.length)) 4 (.v (.int .i64 i_4))), ⟨(upd nofresh 1 (.cells 1 (out_3.flatMap (ci .i64)) 0)), 64⟩⟩ : St) ∧ refBits_L1 m a_0 out_3 i_4 = some r) FUEL ?_ ?_ ?_
  · rintro s ⟨_, _, _, _, h⟩
    cases h
  · refine ⟨_, ?_, a_0, [], 0, rfl, hm⟩
    refine St.Le.trans (le_nil 3 900003 1 (by try simp only [go_sem, Nat.reduceBEq]; try rfl) (by simp only [isFresh_upd, isFresh_no, Nat.reduceBEq, cond_true, cond_false])) ?_
    exact le_canon (fun j => bif j == 1 then 900003 else 0) (wk_fset _ _ (wk_data (by try simp only [go_sem, Nat.reduceBEq]; try rfl) (.v _)) (wk_fset _ _ (wk_own (by try simp only [go_sem, Nat.reduceBEq]; try rfl) (by first | rfl | omega) rfl (by simp [upd])) (wk_fset _ _ (wk_data (by try simp only [go_sem, Nat.reduceBEq]; try rfl) ((CFi .u32).sl _ _ _)) wk_none))) (heapWk_of _ (entWk_upd (ent_fm (CFi .i64) (by simp only [upd_beq, Nat.reduceBEq, cond_true, cond_false]; try rfl) rfl) entWk_none) (by repeat' (first | exact inj_none | exact liv_none | refine inj_upd ?_ ?_ | refine liv_upd ?_ ?_ | exact .inl rfl | exact .inr (by decide))))
  · rintro n1 s ⟨a_0, out_3, i_4, rfl, hm⟩
    replace hm : refBits_B1 (refBits_L1 n1) a_0 out_3 i_4 = some r := hm
    unfold refBits_B1 at hm
    refine AWp.seq' ?_
    refine sr (N' := 128) rfl ?_
    iterate 4 refine pu rfl (by simp only [go_sem, Nat.reduceBEq]; try with_reducible rfl) ?_
    refine fs ?_
    refine AWp.condM hm (by try simp only [go_sem, Nat.reduceBEq]; try rfl) (fun _ hm => ?_) (fun _ hm => ?_)
    · refine AWp.skip ?_
      refine normSeq ?_
      refine AWp.seq' ?_
      refine AWp.block ?_
      refine sr (N' := 192) rfl ?_
      refine pu rfl (by simp only [go_sem, Nat.reduceBEq]; try with_reducible rfl) ?_
      refine fs ?_
      refine AWp.block ?_
      refine AWp.loopM (fun m s => ∃ (a_0 : List Int) (out_3 : List Int) (i_4 : Int) (k_5 : Int), s = (⟨29, (fset (fset (fset (fset (fun _ => AV.any) 0 (.sl (a_0.flatMap (ci .u32)) a_0.length false)) 3 (.own 1 0 out_3.length)) 4 (.v (.int .i64 i_4))) 5 (.v (.int .i64 k_5))), ⟨(upd nofresh 1 (.cells 1 (out_3.flatMap (ci .i64)) 0)), 64⟩⟩ : St) ∧ refBits_L2 (refBits_L1 n1) m a_0 out_3 i_4 k_5 = some r) FUEL ?_ ?_ ?_
      · rintro s ⟨_, _, _, _, _, h⟩
        cases h
      · refine ⟨_, ?_, a_0, out_3, i_4, 0, rfl, hm⟩
        exact le_canon (fun j => bif j == 1 then 1 else 0) (wk_fset _ _ (wk_data (by try simp only [go_sem, Nat.reduceBEq]; try rfl) (.v _)) (wk_fset _ _ (wk_data (by try simp only [go_sem, Nat.reduceBEq]; try rfl) (.v _)) (wk_fset _ _ (wk_own (by try simp only [go_sem, Nat.reduceBEq]; try rfl) (by first | rfl | omega) rfl (by simp [upd])) (wk_fset _ _ (wk_data (by try simp only [go_sem, Nat.reduceBEq]; try rfl) ((CFi .u32).sl _ _ _)) wk_none)))) (heapWk_of _ (entWk_upd (ent_fm (CFi .i64) (by simp only [upd_beq, Nat.reduceBEq, cond_true, cond_false]; try rfl) rfl) entWk_none) (by repeat' (first | exact inj_none | exact liv_none | refine inj_upd ?_ ?_ | refine liv_upd ?_ ?_ | exact .inl rfl | exact .inr (by decide))))
      · rintro n2 s ⟨a_0, out_3, i_4, k_5, rfl, hm⟩
        replace hm : refBits_B2 (refBits_L1 n1) (refBits_L2 (refBits_L1 n1) n2) a_0 out_3 i_4 k_5 = some r := hm
        unfold refBits_B2 at hm
        refine AWp.seq' ?_
        refine sr (N' := 128) rfl ?_
        iterate 2 refine pu rfl (by simp only [go_sem, Nat.reduceBEq]; try with_reducible rfl) ?_
        refine fs ?_
        refine AWp.condM hm (by try simp only [go_sem, Nat.reduceBEq]; try rfl) (fun _ hm => ?_) (fun _ hm => ?_)
        · refine AWp.skip ?_
          refine normSeq ?_
          refine AWp.seq' ?_
          refine AWp.block ?_
          refine AWp.reg 64 (N' := 192) rfl ?_
          iterate 3 refine pu rfl (by simp only [go_sem, Nat.reduceBEq]; try with_reducible rfl) ?_
          obtain ⟨x2, h1, hm⟩ := bnd hm
          refine pu rfl (ap_idx (CFi .u32) (by decide) Try.underlying22 sz33 (by try simp only [go_sem, Nat.reduceBEq]; try rfl) rfl (by try simp only [go_sem, Nat.reduceBEq]; try rfl) h1) ?_
          iterate 3 refine pu rfl (by simp only [go_sem, Nat.reduceBEq]; try with_reducible rfl) ?_
          obtain ⟨_, h3, hm⟩ := bnd hm
          refine pu rfl (ap_shr (by try simp only [go_sem, Nat.reduceBEq]; try rfl) (by try simp only [go_sem, Nat.reduceBEq]; try rfl) (chk_t h3)) ?_
          iterate 2 refine pu rfl (by simp only [go_sem, Nat.reduceBEq, Int.reduceEq, Int.reduceLE]; try with_reducible rfl) ?_
          refine hp (id := 138) rfl rfl (ah_list (CFi .i64) (l := [(IntKind.i64.wrap (Int.tmod (shr .u32 x2 (IntKind.u64.wrap k_5)) 2))]) Try.underlying50 sz3 zc3 (by simp only [isFresh_upd, isFresh_no, Nat.reduceBEq, cond_true, cond_false]) (by decide) (by decide) (by decide) (by simp only [go_sem, Nat.reduceBEq]; try rfl) (by kernel_rfl)) ?_
          obtain ⟨l5, h4, hm⟩ := bnd hm
          refine hp (id := 139) rfl rfl (ah_app (CFi .i64) Try.underlying50 Try.underlying50 rfl in3 ts3 (by rw [tb3]; decide) (by rw [tb3]; decide) tz3 (by decide) (by decide) (by try simp only [go_sem, Nat.reduceBEq]; try rfl) (by simp only [upd_beq, Nat.reduceBEq, cond_true, cond_false]; try rfl) (by first | rfl | omega) (as_own (CFi .i64) (by try simp only [go_sem, Nat.reduceBEq]; try rfl) (by simp only [upd_beq, Nat.reduceBEq, cond_true, cond_false]; try rfl) (by first | rfl | omega)) rfl (by simp only [isFresh_upd, isFresh_no, Nat.reduceBEq, cond_true, cond_false]) h4) ?_
          refine pu rfl (by simp only [go_sem, Nat.reduceBEq]; try with_reducible rfl) ?_
          refine ARun.fin ?_
          refine normIn ?_
          refine normSeq ?_
          refine AWp.reg 64 (N' := 256) rfl ?_
          iterate 3 refine pu rfl (by simp only [go_sem, Nat.reduceBEq]; try with_reducible rfl) ?_
          refine ARun.fin ?_
          refine normThen ?_
          refine ⟨_, ?_, a_0, l5, i_4, (IntKind.i64.wrap (k_5 + 1)), rfl, hm⟩
          exact le_canon (fun j => bif j == 1 then 139 else 0) (wk_fset _ _ (wk_data (by try simp only [go_sem, Nat.reduceBEq]; try rfl) (.v _)) (wk_fset _ _ (wk_data (by try simp only [go_sem, Nat.reduceBEq]; try rfl) (.v _)) (wk_fset _ _ (wk_own (by try simp only [go_sem, Nat.reduceBEq]; try rfl) (by first | rfl | omega) rfl (by simp [upd])) (wk_fset _ _ (wk_data (by try simp only [go_sem, Nat.reduceBEq]; try rfl) ((CFi .u32).sl _ _ _)) wk_none)))) (heapWk_of _ (entWk_upd (ent_fm (CFi .i64) (by simp only [upd_beq, Nat.reduceBEq, cond_true, cond_false]; try rfl) rfl) entWk_none) (by repeat' (first | exact inj_none | exact liv_none | refine inj_upd ?_ ?_ | refine liv_upd ?_ ?_ | exact .inl rfl | exact .inr (by decide))))
        · refine AWp.exit ?_
          refine exitSeq ?_
          refine exitThen ?_
          refine exitHere ?_
          refine normIn ?_
          refine normSeq ?_
          refine AWp.reg 64 (N' := 192) rfl ?_
          iterate 3 refine pu rfl (by simp only [go_sem, Nat.reduceBEq]; try with_reducible rfl) ?_
          refine ARun.fin ?_
          refine normThen ?_
          refine ⟨_, ?_, a_0, out_3, (IntKind.i64.wrap (i_4 + 1)), rfl, hm⟩
          exact le_canon (fun j => bif j == 1 then 1 else 0) (wk_fset _ _ (wk_data (by try simp only [go_sem, Nat.reduceBEq]; try rfl) (.v _)) (wk_fset _ _ (wk_own (by try simp only [go_sem, Nat.reduceBEq]; try rfl) (by first | rfl | omega) rfl (by simp [upd])) (wk_fset _ _ (wk_data (by try simp only [go_sem, Nat.reduceBEq]; try rfl) ((CFi .u32).sl _ _ _)) wk_none))) (heapWk_of _ (entWk_upd (ent_fm (CFi .i64) (by simp only [upd_beq, Nat.reduceBEq, cond_true, cond_false]; try rfl) rfl) entWk_none) (by repeat' (first | exact inj_none | exact liv_none | refine inj_upd ?_ ?_ | refine liv_upd ?_ ?_ | exact .inl rfl | exact .inr (by decide))))
    · refine AWp.exit ?_
      refine exitSeq ?_
      refine exitThen ?_
      refine exitHere ?_
      refine normSeq ?_
      refine sr (N' := 192) rfl ?_
      iterate 2 refine pu rfl (by simp only [go_sem, Nat.reduceBEq]; try with_reducible rfl) ?_
      refine fs ?_
      refine AWp.ret ?_
      cases hm
      exact ret1D (.inr rfl) Try.results29 (tdo (CFi .i64) (by try simp only [go_sem, Nat.reduceBEq]; try rfl) (by simp only [upd_beq, Nat.reduceBEq, cond_true, cond_false]; try rfl) (by first | rfl | omega))
def refWhole_J1 (rec1 : List Int → List Int → Int → Option ((List Int))) (l_0 : List Int) (out_3 : List Int) (i_4 : Int) : Option ((List Int)) :=
  rec1 l_0 out_3 (IntKind.i64.wrap (i_4 + 1))
def refWhole_J2 (rec1 : List Int → List Int → Int → Option ((List Int))) (l_0 : List Int) (out_3 : List Int) (i_4 : Int) : Option ((List Int)) :=
  ((idx l_0 i_4).bind fun x2 =>
  (bif (x2 == 1) then
    ((idx out_3 (IntKind.i64.wrap (Int.tdiv i_4 32))).bind fun x4 =>
    ((chk (decide (0 ≤ (IntKind.u64.wrap (Int.tmod i_4 32))))).bind fun _ =>
    ((idx out_3 (IntKind.i64.wrap (Int.tdiv i_4 32))).bind fun x7 =>
    ((stt out_3 (IntKind.i64.wrap (Int.tdiv i_4 32)) (bor .u32 x4 (shl .u32 1 (IntKind.u64.wrap (Int.tmod i_4 32))))).bind fun l9 =>
    refWhole_J1 rec1 l_0 l9 i_4))))
  else
    refWhole_J1 rec1 l_0 out_3 i_4))
def refWhole_B2 (rec2 : List Int → Option ((List Int))) (out_3 : List Int) : Option ((List Int)) :=
  ((gopt ((decide (0 < (out_3.length : Int))) == true) 0 (idx out_3 (IntKind.i64.wrap ((out_3.length : Int) - 1)))).bind fun x13 =>
  (bif ((decide (0 < (out_3.length : Int))) && (x13 == 0)) then
    ((slc out_3 0 (IntKind.i64.wrap ((out_3.length : Int) - 1))).bind fun l15 =>
    rec2 l15)
  else
    some out_3))
def refWhole_L2 : Nat → List Int → Option ((List Int))
  | 0 => fun _ => none
  | n + 1 => refWhole_B2 (refWhole_L2 n)
def refWhole_B1 (rec1 : List Int → List Int → Int → Option ((List Int))) (l_0 : List Int) (out_3 : List Int) (i_4 : Int) : Option ((List Int)) :=
  (bif (decide (i_4 < (l_0.length : Int))) then
    (bif ((Int.tmod i_4 32) == 0) then
      ((app out_3 [0]).bind fun l11 =>
      refWhole_J2 rec1 l_0 l11 i_4)
    else
      refWhole_J2 rec1 l_0 out_3 i_4)
  else
    refWhole_L2 FUEL out_3)
def refWhole_L1 : Nat → List Int → List Int → Int → Option ((List Int))
  | 0 => fun _ _ _ => none
  | n + 1 => refWhole_B1 (refWhole_L1 n)
def refWhole_m (l_0 : List Int) : Option ((List Int)) :=
  refWhole_L1 FUEL l_0 [] 0
theorem refWhole_c {l_0 : List Int} {r : (List Int)} (hm : refWhole_m l_0 = some r) : PureC Try.prog 30 [.sl (l_0.flatMap (ci .i64)) l_0.length false] (.sl (r.flatMap (ci .u32)) r.length false) := by
  refine PureC.of_body Try.func30 rfl ?_
  simp only [Try.ntmps30, List.length_cons, List.length_nil, Nat.reduceAdd, Nat.reduceSub, empty_eq]
  unfold refWhole_m at hm
  refine sr (N' := 64) rfl ?_
  refine pu rfl (by simp only [go_sem, Nat.reduceBEq]; try with_reducible rfl) ?_
  refine fs ?_
  refine sr (N' := 128) rfl ?_
  refine pu rfl (by simp only [go_sem, Nat.reduceBEq]; try with_reducible rfl) ?_
  refine fs ?_
  refine AWp.seq' ?_
  refine sr (N' := 192) rfl ?_
  refine pu rfl (by simp only [go_sem, Nat.reduceBEq]; try with_reducible rfl) ?_
  refine fs ?_
  refine AWp.block ?_
  refine AWp.loopM (fun m s => ∃ (l_0 : List Int) (out_3 : List Int) (i_4 : Int), s = (⟨54, (fset (fset (fset (fun _ => AV.any) 0 (.sl (l_0.flatMap (ci .i64)) l_0.length false)) 3 (.own 1 0 out_3.length)) 4 (.v (.int .i64 i_4))), ⟨(upd nofresh 1 (.cells 1 (out_3.flatMap (ci .u32)) 0)), 64⟩⟩ : St) ∧ refWhole_L1 m l_0 out_3 i_4 = some r) FUEL ?_ ?_ ?_
  · rintro s ⟨_, _, _, _, h⟩
    cases h
  · refine ⟨_, ?_, l_0, [], 0, rfl, hm⟩
    refine St.Le.trans (le_nil 3 900003 1 (by try simp only [go_sem, Nat.reduceBEq]; try rfl) (by simp only [isFresh_upd, isFresh_no, Nat.reduceBEq, cond_true, cond_false])) ?_
    exact le_canon (fun j => bif j == 1 then 900003 else 0) (wk_fset _ _ (wk_data (by try simp only [go_sem, Nat.reduceBEq]; try rfl) (.v _)) (wk_fset _ _ (wk_own (by try simp only [go_sem, Nat.reduceBEq]; try rfl) (by first | rfl | omega) rfl (by simp [upd])) (wk_fset _ _ (wk_data (by try simp only [go_sem, Nat.reduceBEq]; try rfl) ((CFi .i64).sl _ _ _)) wk_none))) (heapWk_of _ (entWk_upd (ent_fm (CFi .u32) (by simp only [upd_beq, Nat.reduceBEq, cond_true, cond_false]; try rfl) rfl) entWk_none) (by repeat' (first | exact inj_none | exact liv_none | refine inj_upd ?_ ?_ | refine liv_upd ?_ ?_ | exact .inl rfl | exact .inr (by decide))))
  · rintro n1 s ⟨l_0, out_3, i_4, rfl, hm⟩
    replace hm : refWhole_B1 (refWhole_L1 n1) l_0 out_3 i_4 = some r := hm
    unfold refWhole_B1 at hm
    refine AWp.seq' ?_
    refine sr (N' := 128) rfl ?_
    iterate 4 refine pu rfl (by simp only [go_sem, Nat.reduceBEq]; try with_reducible rfl) ?_
    refine fs ?_
    refine AWp.condM hm (by try simp only [go_sem, Nat.reduceBEq]; try rfl) (fun _ hm => ?_) (fun _ hm => ?_)
    · refine AWp.skip ?_
      refine normSeq ?_
      refine AWp.seqJ (fun s => ∃ (l_0 : List Int) (out_3 : List Int) (i_4 : Int), s = (⟨54, (fset (fset (fset (fun _ => AV.any) 0 (.sl (l_0.flatMap (ci .i64)) l_0.length false)) 3 (.own 1 0 out_3.length)) 4 (.v (.int .i64 i_4))), ⟨(upd nofresh 1 (.cells 1 (out_3.flatMap (ci .u32)) 0)), 64⟩⟩ : St) ∧ refWhole_J1 (refWhole_L1 n1) l_0 out_3 i_4 = some r) ?_ ?_
      · refine AWp.block ?_
        refine AWp.seqJ (fun s => ∃ (l_0 : List Int) (out_3 : List Int) (i_4 : Int), s = (⟨54, (fset (fset (fset (fun _ => AV.any) 0 (.sl (l_0.flatMap (ci .i64)) l_0.length false)) 3 (.own 1 0 out_3.length)) 4 (.v (.int .i64 i_4))), ⟨(upd nofresh 1 (.cells 1 (out_3.flatMap (ci .u32)) 0)), 64⟩⟩ : St) ∧ refWhole_J2 (refWhole_L1 n1) l_0 out_3 i_4 = some r) ?_ ?_
        · refine sr (N' := 192) rfl ?_
          iterate 3 refine pu rfl (by simp only [go_sem, Nat.reduceBEq, Int.reduceEq, Int.reduceLE]; try with_reducible rfl) ?_
          refine fs ?_
          refine AWp.condM hm (by try simp only [go_sem, Nat.reduceBEq]; try rfl) (fun _ hm => ?_) (fun _ hm => ?_)
          · refine AWp.reg 64 (N' := 256) rfl ?_
            refine pu rfl (by simp only [go_sem, Nat.reduceBEq]; try with_reducible rfl) ?_
            refine hp (id := 193) rfl rfl (ah_list (CFi .u32) (l := [0]) Try.underlying22 sz33 zc33 (by simp only [isFresh_upd, isFresh_no, Nat.reduceBEq, cond_true, cond_false]) (by decide) (by decide) (by decide) (by simp only [go_sem, Nat.reduceBEq]; try rfl) (by kernel_rfl)) ?_
            obtain ⟨l11, h10, hm⟩ := bnd hm
            refine hp (id := 194) rfl rfl (ah_app (CFi .u32) Try.underlying22 Try.underlying22 rfl in33 ts33 (by rw [tb33]; decide) (by rw [tb33]; decide) tz33 (by decide) (by decide) (by try simp only [go_sem, Nat.reduceBEq]; try rfl) (by simp only [upd_beq, Nat.reduceBEq, cond_true, cond_false]; try rfl) (by first | rfl | omega) (as_own (CFi .u32) (by try simp only [go_sem, Nat.reduceBEq]; try rfl) (by simp only [upd_beq, Nat.reduceBEq, cond_true, cond_false]; try rfl) (by first | rfl | omega)) rfl (by simp only [isFresh_upd, isFresh_no, Nat.reduceBEq, cond_true, cond_false]) h10) ?_
            refine pu rfl (by simp only [go_sem, Nat.reduceBEq]; try with_reducible rfl) ?_
            refine ARun.fin ?_
            refine normJ ?_
            refine ⟨_, ?_, l_0, l11, i_4, rfl, hm⟩
            exact le_canon (fun j => bif j == 1 then 194 else 0) (wk_fset _ _ (wk_data (by try simp only [go_sem, Nat.reduceBEq]; try rfl) (.v _)) (wk_fset _ _ (wk_own (by try simp only [go_sem, Nat.reduceBEq]; try rfl) (by first | rfl | omega) rfl (by simp [upd])) (wk_fset _ _ (wk_data (by try simp only [go_sem, Nat.reduceBEq]; try rfl) ((CFi .i64).sl _ _ _)) wk_none))) (heapWk_of _ (entWk_upd (ent_fm (CFi .u32) (by simp only [upd_beq, Nat.reduceBEq, cond_true, cond_false]; try rfl) rfl) entWk_none) (by repeat' (first | exact inj_none | exact liv_none | refine inj_upd ?_ ?_ | refine liv_upd ?_ ?_ | exact .inl rfl | exact .inr (by decide))))
          · refine AWp.skip ?_
            refine normJ ?_
            refine ⟨_, ?_, l_0, out_3, i_4, rfl, hm⟩
            exact le_canon (fun j => bif j == 1 then 1 else 0) (wk_fset _ _ (wk_data (by try simp only [go_sem, Nat.reduceBEq]; try rfl) (.v _)) (wk_fset _ _ (wk_own (by try simp only [go_sem, Nat.reduceBEq]; try rfl) (by first | rfl | omega) rfl (by simp [upd])) (wk_fset _ _ (wk_data (by try simp only [go_sem, Nat.reduceBEq]; try rfl) ((CFi .i64).sl _ _ _)) wk_none))) (heapWk_of _ (entWk_upd (ent_fm (CFi .u32) (by simp only [upd_beq, Nat.reduceBEq, cond_true, cond_false]; try rfl) rfl) entWk_none) (by repeat' (first | exact inj_none | exact liv_none | refine inj_upd ?_ ?_ | refine liv_upd ?_ ?_ | exact .inl rfl | exact .inr (by decide))))
        · rintro s ⟨l_0, out_3, i_4, rfl, hm⟩
          unfold refWhole_J2 at hm
          refine sr (N' := 128) rfl ?_
          iterate 2 refine pu rfl (by simp only [go_sem, Nat.reduceBEq]; try with_reducible rfl) ?_
          obtain ⟨x2, h1, hm⟩ := bnd hm
          refine pu rfl (ap_idx (CFi .i64) (by decide) Try.underlying50 sz3 (by try simp only [go_sem, Nat.reduceBEq]; try rfl) rfl (by try simp only [go_sem, Nat.reduceBEq]; try rfl) h1) ?_
          iterate 2 refine pu rfl (by simp only [go_sem, Nat.reduceBEq]; try with_reducible rfl) ?_
          refine fs ?_
          refine AWp.condM hm (by try simp only [go_sem, Nat.reduceBEq]; try rfl) (fun _ hm => ?_) (fun _ hm => ?_)
          · refine AWp.reg 64 (N' := 192) rfl ?_
            iterate 6 refine pu rfl (by simp only [go_sem, Nat.reduceBEq, Int.reduceEq, Int.reduceLE]; try with_reducible rfl) ?_
            obtain ⟨x4, h3, hm⟩ := bnd hm
            refine pu rfl (ap_idxo Try.underlying22 sz33 (by try simp only [go_sem, Nat.reduceBEq]; try rfl) (by simp only [upd_beq, Nat.reduceBEq, cond_true, cond_false]; try rfl) (by first | rfl | omega) (by try simp only [go_sem, Nat.reduceBEq]; try rfl) h3) ?_
            refine pu rfl (ap_ldo (CFi .u32) (by try simp only [go_sem, Nat.reduceBEq]; try rfl) (by simp only [upd_beq, Nat.reduceBEq, cond_true, cond_false]; try rfl) h3 (fun _ => by simp only [go_sem, Nat.reduceBEq]; try with_reducible rfl)) ?_
            iterate 3 refine pu rfl (by simp only [go_sem, Nat.reduceBEq, Int.reduceEq, Int.reduceLE]; try with_reducible rfl) ?_
            obtain ⟨_, h5, hm⟩ := bnd hm
            refine pu rfl (ap_shl (by try simp only [go_sem, Nat.reduceBEq]; try rfl) (by try simp only [go_sem, Nat.reduceBEq]; try rfl) (chk_t h5)) ?_
            refine pu rfl (by simp only [go_sem, Nat.reduceBEq]; try with_reducible rfl) ?_
            obtain ⟨x7, h6, hm⟩ := bnd hm
            refine pu rfl (ap_idxo Try.underlying22 sz33 (by try simp only [go_sem, Nat.reduceBEq]; try rfl) (by simp only [upd_beq, Nat.reduceBEq, cond_true, cond_false]; try rfl) (by first | rfl | omega) (by try simp only [go_sem, Nat.reduceBEq]; try rfl) h6) ?_
            obtain ⟨l9, h8, hm⟩ := bnd hm
            have qh8 := stt_len h8
            refine ARun.heap0 (id := 142) rfl (ah_stt (CFi .u32) sz33 (by try simp only [go_sem, Nat.reduceBEq]; try rfl) (by try simp only [go_sem, Nat.reduceBEq]; try rfl) (by simp only [upd_beq, Nat.reduceBEq, cond_true, cond_false]; try rfl) rfl h8) ?_
            refine ARun.fin ?_
            refine normIn ?_
            refine normJ ?_
            refine ⟨_, ?_, l_0, l9, i_4, rfl, hm⟩
            exact le_canon (fun j => bif j == 1 then 1 else 0) (wk_fset _ _ (wk_data (by try simp only [go_sem, Nat.reduceBEq]; try rfl) (.v _)) (wk_fset _ _ (wk_own (by try simp only [go_sem, Nat.reduceBEq]; try rfl) (by first | rfl | omega) rfl (by simp [upd])) (wk_fset _ _ (wk_data (by try simp only [go_sem, Nat.reduceBEq]; try rfl) ((CFi .i64).sl _ _ _)) wk_none))) (heapWk_of _ (entWk_upd (ent_fm (CFi .u32) (by simp only [upd_beq, Nat.reduceBEq, cond_true, cond_false]; try rfl) rfl) entWk_none) (by repeat' (first | exact inj_none | exact liv_none | refine inj_upd ?_ ?_ | refine liv_upd ?_ ?_ | exact .inl rfl | exact .inr (by decide))))
          · refine AWp.skip ?_
            refine normIn ?_
            refine normJ ?_
            refine ⟨_, ?_, l_0, out_3, i_4, rfl, hm⟩
            exact le_canon (fun j => bif j == 1 then 1 else 0) (wk_fset _ _ (wk_data (by try simp only [go_sem, Nat.reduceBEq]; try rfl) (.v _)) (wk_fset _ _ (wk_own (by try simp only [go_sem, Nat.reduceBEq]; try rfl) (by first | rfl | omega) rfl (by simp [upd])) (wk_fset _ _ (wk_data (by try simp only [go_sem, Nat.reduceBEq]; try rfl) ((CFi .i64).sl _ _ _)) wk_none))) (heapWk_of _ (entWk_upd (ent_fm (CFi .u32) (by simp only [upd_beq, Nat.reduceBEq, cond_true, cond_false]; try rfl) rfl) entWk_none) (by repeat' (first | exact inj_none | exact liv_none | refine inj_upd ?_ ?_ | refine liv_upd ?_ ?_ | exact .inl rfl | exact .inr (by decide))))
      · rintro s ⟨l_0, out_3, i_4, rfl, hm⟩
        unfold refWhole_J1 at hm
        refine AWp.reg 64 (N' := 128) rfl ?_
        iterate 3 refine pu rfl (by simp only [go_sem, Nat.reduceBEq]; try with_reducible rfl) ?_
        refine ARun.fin ?_
        refine normThen ?_
        refine ⟨_, ?_, l_0, out_3, (IntKind.i64.wrap (i_4 + 1)), rfl, hm⟩
        exact le_canon (fun j => bif j == 1 then 1 else 0) (wk_fset _ _ (wk_data (by try simp only [go_sem, Nat.reduceBEq]; try rfl) (.v _)) (wk_fset _ _ (wk_own (by try simp only [go_sem, Nat.reduceBEq]; try rfl) (by first | rfl | omega) rfl (by simp [upd])) (wk_fset _ _ (wk_data (by try simp only [go_sem, Nat.reduceBEq]; try rfl) ((CFi .i64).sl _ _ _)) wk_none))) (heapWk_of _ (entWk_upd (ent_fm (CFi .u32) (by simp only [upd_beq, Nat.reduceBEq, cond_true, cond_false]; try rfl) rfl) entWk_none) (by repeat' (first | exact inj_none | exact liv_none | refine inj_upd ?_ ?_ | refine liv_upd ?_ ?_ | exact .inl rfl | exact .inr (by decide))))
    · refine AWp.exit ?_
      refine exitSeq ?_
      refine exitThen ?_
      refine exitHere ?_
      refine normSeq ?_
      refine AWp.seq' ?_
      refine AWp.block ?_
      refine AWp.loopM (fun m s => ∃ (out_3 : List Int), s = (⟨54, (fset (fun _ => AV.any) 3 (.sl (out_3.flatMap (ci .u32)) out_3.length false)), ⟨nofresh, 64⟩⟩ : St) ∧ refWhole_L2 m out_3 = some r) FUEL ?_ ?_ ?_
      · rintro s ⟨_, _, h⟩
        cases h
      · refine ⟨_, ?_, out_3, rfl, hm⟩
        refine St.Le.trans (le_lock (CFi .u32) 3 1 (by try simp only [go_sem, Nat.reduceBEq]; try rfl) (by simp only [upd_beq, Nat.reduceBEq, cond_true, cond_false]; try rfl) (by first | rfl | omega)) ?_
        exact le_canon id (wk_fset _ _ (wk_data (by try simp only [go_sem, Nat.reduceBEq]; try rfl) ((CFi .u32).sl _ _ _)) wk_none) heapWk0
      · rintro n2 s ⟨out_3, rfl, hm⟩
        replace hm : refWhole_B2 (refWhole_L2 n2) out_3 = some r := hm
        unfold refWhole_B2 at hm
        refine AWp.seq' ?_
        refine sr (N' := 128) rfl ?_
        iterate 8 (first | refine pu rfl (by simp only [go_sem, Nat.reduceBEq]; try with_reducible rfl) ?_ | refine pg rfl rfl (by simp only [go_sem, Nat.reduceBEq]; try with_reducible rfl) (by intro hb; simp only [go_sem, Nat.reduceBEq, hb, Bool.true_and]; try with_reducible rfl) ?_)
        obtain ⟨x13, h12, hm⟩ := bnd hm
        refine pg rfl rfl (by simp only [go_sem, Nat.reduceBEq]; try with_reducible rfl) (fun hb => (ap_idx (CFi .u32) (by decide) Try.underlying22 sz33 (by try simp only [go_sem, Nat.reduceBEq, hb, Bool.true_and]; try rfl) rfl (by try simp only [go_sem, Nat.reduceBEq, hb, Bool.true_and]; try rfl) (gopt_t h12 hb))) ?_
        iterate 3 (first | refine pu rfl (by simp only [go_sem, Nat.reduceBEq]; try with_reducible rfl) ?_ | refine pg rfl rfl (by simp only [go_sem, Nat.reduceBEq]; try with_reducible rfl) (by intro hb; simp only [go_sem, Nat.reduceBEq, hb, Bool.true_and]; try with_reducible rfl) ?_)
        refine fs ?_
        refine AWp.condM hm (by try simp only [go_sem, Nat.reduceBEq]; try rfl) (fun _ hm => ?_) (fun _ hm => ?_)
        · refine AWp.skip ?_
          refine normSeq ?_
          refine AWp.block ?_
          refine AWp.reg 64 (N' := 192) rfl ?_
          iterate 4 refine pu rfl (by simp only [go_sem, Nat.reduceBEq]; try with_reducible rfl) ?_
          obtain ⟨l15, h14, hm⟩ := bnd hm
          refine pu rfl (ap_slc (CFi .u32) Try.underlying22 sz33 (by try simp only [go_sem, Nat.reduceBEq]; try rfl) rfl ab_none0 (ab_some (by try simp only [go_sem, Nat.reduceBEq]; try rfl) (slc_0 h14).2) h14) ?_
          refine pu rfl (by simp only [go_sem, Nat.reduceBEq]; try with_reducible rfl) ?_
          refine ARun.fin ?_
          refine normIn ?_
          refine normThen ?_
          refine ⟨_, ?_, l15, rfl, hm⟩
          refine St.Le.trans (le_tod 3 (.sl (l15.flatMap (ci .u32)) l15.length false) (fun H => (tdf (by try simp only [go_sem, Nat.reduceBEq]; try rfl) ((CFi .u32).sl _ _ _)))) ?_
          exact le_canon id (wk_fset _ _ (wk_data (by try simp only [go_sem, Nat.reduceBEq]; try rfl) ((CFi .u32).sl _ _ _)) wk_none) heapWk0
        · refine AWp.exit ?_
          refine exitSeq ?_
          refine exitThen ?_
          refine exitHere ?_
          refine normSeq ?_
          refine sr (N' := 192) rfl ?_
          iterate 2 refine pu rfl (by simp only [go_sem, Nat.reduceBEq]; try with_reducible rfl) ?_
          refine fs ?_
          refine AWp.ret ?_
          cases hm
          exact ret1D (.inr rfl) Try.results30 (td (by try simp only [go_sem, Nat.reduceBEq]; try rfl) ((CFi .u32).sl _ _ _))
def refShift_B1 (rec1 : List Int → Int → List Int → Int → Option ((List Int))) (a_0 : List Int) (by_1 : Int) (l_5 : List Int) (i_6 : Int) : Option ((List Int)) :=
  (bif (decide (i_6 < by_1)) then
    ((app l_5 [0]).bind fun l2 =>
    rec1 a_0 by_1 l2 (IntKind.i64.wrap (i_6 + 1)))
  else
    ((refBits_m a_0).bind fun r4 =>
    ((app l_5 r4).bind fun l6 =>
    ((refWhole_m l6).bind fun r8 =>
    some r8))))
def refShift_L1 : Nat → List Int → Int → List Int → Int → Option ((List Int))
  | 0 => fun _ _ _ _ => none
  | n + 1 => refShift_B1 (refShift_L1 n)
def refShift_m (a_0 : List Int) (by_1 : Int) : Option ((List Int)) :=
  refShift_L1 FUEL a_0 by_1 [] 0
theorem refShift_c {a_0 : List Int} {by_1 : Int} {r : (List Int)} (hm : refShift_m a_0 by_1 = some r) : PureC Try.prog 31 [.sl (a_0.flatMap (ci .u32)) a_0.length false, .v (.int .i64 by_1)] (.sl (r.flatMap (ci .u32)) r.length false) := by
  refine PureC.of_body Try.func31 rfl ?_
  simp only [Try.ntmps31, List.length_cons, List.length_nil, Nat.reduceAdd, Nat.reduceSub, empty_eq]
  unfold refShift_m at hm
  refine sr (N' := 64) rfl ?_
  refine pu rfl (by simp only [go_sem, Nat.reduceBEq]; try with_reducible rfl) ?_
  refine fs ?_
  refine sr (N' := 128) rfl ?_
  refine pu rfl (by simp only [go_sem, Nat.reduceBEq]; try with_reducible rfl) ?_
  refine fs ?_
  refine AWp.seq' ?_
  refine sr (N' := 192) rfl ?_
  refine pu rfl (by simp only [go_sem, Nat.reduceBEq]; try with_reducible rfl) ?_
  refine fs ?_
  refine AWp.block ?_
  refine AWp.loopM (fun m s => ∃ (a_0 : List Int) (by_1 : Int) (l_5 : List Int) (i_6 : Int), s = (⟨20, (fset (fset (fset (fset (fun _ => AV.any) 0 (.sl (a_0.flatMap (ci .u32)) a_0.length false)) 1 (.v (.int .i64 by_1))) 5 (.own 1 0 l_5.length)) 6 (.v (.int .i64 i_6))), ⟨(upd nofresh 1 (.cells 1 (l_5.flatMap (ci .i64)) 0)), 64⟩⟩ : St) ∧ refShift_L1 m a_0 by_1 l_5 i_6 = some r) FUEL ?_ ?_ ?_
  · rintro s ⟨_, _, _, _, _, h⟩
    cases h
  · refine ⟨_, ?_, a_0, by_1, [], 0, rfl, hm⟩
    refine St.Le.trans (le_nil 5 900005 1 (by try simp only [go_sem, Nat.reduceBEq]; try rfl) (by simp only [isFresh_upd, isFresh_no, Nat.reduceBEq, cond_true, cond_false])) ?_
    exact le_canon (fun j => bif j == 1 then 900005 else 0) (wk_fset _ _ (wk_data (by try simp only [go_sem, Nat.reduceBEq]; try rfl) (.v _)) (wk_fset _ _ (wk_own (by try simp only [go_sem, Nat.reduceBEq]; try rfl) (by first | rfl | omega) rfl (by simp [upd])) (wk_fset _ _ (wk_data (by try simp only [go_sem, Nat.reduceBEq]; try rfl) (.v _)) (wk_fset _ _ (wk_data (by try simp only [go_sem, Nat.reduceBEq]; try rfl) ((CFi .u32).sl _ _ _)) wk_none)))) (heapWk_of _ (entWk_upd (ent_fm (CFi .i64) (by simp only [upd_beq, Nat.reduceBEq, cond_true, cond_false]; try rfl) rfl) entWk_none) (by repeat' (first | exact inj_none | exact liv_none | refine inj_upd ?_ ?_ | refine liv_upd ?_ ?_ | exact .inl rfl | exact .inr (by decide))))
  · rintro n1 s ⟨a_0, by_1, l_5, i_6, rfl, hm⟩
    replace hm : refShift_B1 (refShift_L1 n1) a_0 by_1 l_5 i_6 = some r := hm
    unfold refShift_B1 at hm
    refine AWp.seq' ?_
    refine sr (N' := 128) rfl ?_
    iterate 3 refine pu rfl (by simp only [go_sem, Nat.reduceBEq]; try with_reducible rfl) ?_
    refine fs ?_
    refine AWp.condM hm (by try simp only [go_sem, Nat.reduceBEq]; try rfl) (fun _ hm => ?_) (fun _ hm => ?_)
    · refine AWp.skip ?_
      refine normSeq ?_
      refine AWp.seq' ?_
      refine AWp.block ?_
      refine AWp.reg 64 (N' := 192) rfl ?_
      refine pu rfl (by simp only [go_sem, Nat.reduceBEq]; try with_reducible rfl) ?_
      refine hp (id := 129) rfl rfl (ah_list (CFi .i64) (l := [0]) Try.underlying50 sz3 zc3 (by simp only [isFresh_upd, isFresh_no, Nat.reduceBEq, cond_true, cond_false]) (by decide) (by decide) (by decide) (by simp only [go_sem, Nat.reduceBEq]; try rfl) (by kernel_rfl)) ?_
      obtain ⟨l2, h1, hm⟩ := bnd hm
      refine hp (id := 130) rfl rfl (ah_app (CFi .i64) Try.underlying50 Try.underlying50 rfl in3 ts3 (by rw [tb3]; decide) (by rw [tb3]; decide) tz3 (by decide) (by decide) (by try simp only [go_sem, Nat.reduceBEq]; try rfl) (by simp only [upd_beq, Nat.reduceBEq, cond_true, cond_false]; try rfl) (by first | rfl | omega) (as_own (CFi .i64) (by try simp only [go_sem, Nat.reduceBEq]; try rfl) (by simp only [upd_beq, Nat.reduceBEq, cond_true, cond_false]; try rfl) (by first | rfl | omega)) rfl (by simp only [isFresh_upd, isFresh_no, Nat.reduceBEq, cond_true, cond_false]) h1) ?_
      refine pu rfl (by simp only [go_sem, Nat.reduceBEq]; try with_reducible rfl) ?_
      refine ARun.fin ?_
      refine normIn ?_
      refine normSeq ?_
      refine AWp.reg 64 (N' := 256) rfl ?_
      iterate 3 refine pu rfl (by simp only [go_sem, Nat.reduceBEq]; try with_reducible rfl) ?_
      refine ARun.fin ?_
      refine normThen ?_
      refine ⟨_, ?_, a_0, by_1, l2, (IntKind.i64.wrap (i_6 + 1)), rfl, hm⟩
      exact le_canon (fun j => bif j == 1 then 130 else 0) (wk_fset _ _ (wk_data (by try simp only [go_sem, Nat.reduceBEq]; try rfl) (.v _)) (wk_fset _ _ (wk_own (by try simp only [go_sem, Nat.reduceBEq]; try rfl) (by first | rfl | omega) rfl (by simp [upd])) (wk_fset _ _ (wk_data (by try simp only [go_sem, Nat.reduceBEq]; try rfl) (.v _)) (wk_fset _ _ (wk_data (by try simp only [go_sem, Nat.reduceBEq]; try rfl) ((CFi .u32).sl _ _ _)) wk_none)))) (heapWk_of _ (entWk_upd (ent_fm (CFi .i64) (by simp only [upd_beq, Nat.reduceBEq, cond_true, cond_false]; try rfl) rfl) entWk_none) (by repeat' (first | exact inj_none | exact liv_none | refine inj_upd ?_ ?_ | refine liv_upd ?_ ?_ | exact .inl rfl | exact .inr (by decide))))
    · refine AWp.exit ?_
      refine exitSeq ?_
      refine exitThen ?_
      refine exitHere ?_
      refine normSeq ?_
      refine sr (N' := 192) rfl ?_
      iterate 2 refine pu rfl (by simp only [go_sem, Nat.reduceBEq]; try with_reducible rfl) ?_
      obtain ⟨r4, h3, hm⟩ := bnd hm
      refine ARun.callQ (r := .sl (r4.flatMap (ci .i64)) r4.length false) (by decide) (by try simp only [go_sem, Nat.reduceBEq]; try rfl) fb29 (fun H => (.cons (td (by try simp only [go_sem, Nat.reduceBEq]; try rfl) ((CFi .u32).sl _ _ _)) .nil)) (refBits_c h3) ?_
      obtain ⟨l6, h5, hm⟩ := bnd hm
      refine hp (id := 131) rfl rfl (ah_app (CFi .i64) Try.underlying50 Try.underlying50 rfl in3 ts3 (by rw [tb3]; decide) (by rw [tb3]; decide) tz3 (by decide) (by decide) (by try simp only [go_sem, Nat.reduceBEq]; try rfl) (by simp only [upd_beq, Nat.reduceBEq, cond_true, cond_false]; try rfl) (by first | rfl | omega) (as_sl (CFi .i64) (by try simp only [go_sem, Nat.reduceBEq]; try rfl) rfl) rfl (by simp only [isFresh_upd, isFresh_no, Nat.reduceBEq, cond_true, cond_false]) h5) ?_
      obtain ⟨r8, h7, hm⟩ := bnd hm
      refine ARun.callL1 (r := .sl (r8.flatMap (ci .u32)) r8.length false) (id := 131) (by decide) (by try simp only [go_sem, Nat.reduceBEq]; try rfl) fb30 (by simp only [upd_beq, Nat.reduceBEq, cond_true, cond_false]; try rfl) (.cons (tdl (CFi .i64) (by try simp only [go_sem, Nat.reduceBEq]; try rfl) (by simp only [upd_beq, Nat.reduceBEq, cond_true, cond_false]; try rfl) (by simp) (by first | rfl | omega)) .nil) (refWhole_c h7) ?_
      refine pu rfl (by simp only [go_sem, Nat.reduceBEq]; try with_reducible rfl) ?_
      refine fs ?_
      refine AWp.ret ?_
      cases hm
      exact ret1D (.inr rfl) Try.results31 (td (by try simp only [go_sem, Nat.reduceBEq]; try rfl) ((CFi .u32).sl _ _ _))
def refAdd_J2 (rec1 : List Int → List Int → Int → List Int → Int → Int → Option ((List Int))) (x_5 : List Int) (y_6 : List Int) (n_7 : Int) (out_8 : List Int) (over_9 : Int) (i_10 : Int) : Option ((List Int)) :=
  rec1 x_5 y_6 n_7 out_8 over_9 (IntKind.i64.wrap (i_10 + 1))
def refAdd_J4 (rec1 : List Int → List Int → Int → List Int → Int → Int → Option ((List Int))) (x_5 : List Int) (y_6 : List Int) (n_7 : Int) (out_8 : List Int) (i_10 : Int) (s_11 : Int) : Option ((List Int)) :=
  ((app out_8 [(Int.tmod s_11 2)]).bind fun l6 =>
  refAdd_J2 rec1 x_5 y_6 n_7 l6 (IntKind.i64.wrap (Int.tdiv s_11 2)) i_10)
def refAdd_J3 (rec1 : List Int → List Int → Int → List Int → Int → Int → Option ((List Int))) (x_5 : List Int) (y_6 : List Int) (n_7 : Int) (out_8 : List Int) (i_10 : Int) (s_11 : Int) : Option ((List Int)) :=
  (bif (decide (i_10 < (y_6.length : Int))) then
    ((idx y_6 i_10).bind fun x8 =>
    refAdd_J4 rec1 x_5 y_6 n_7 out_8 i_10 (IntKind.i64.wrap (s_11 + x8)))
  else
    refAdd_J4 rec1 x_5 y_6 n_7 out_8 i_10 s_11)
def refAdd_B1 (rec1 : List Int → List Int → Int → List Int → Int → Int → Option ((List Int))) (x_5 : List Int) (y_6 : List Int) (n_7 : Int) (out_8 : List Int) (over_9 : Int) (i_10 : Int) : Option ((List Int)) :=
  (bif (decide (i_10 ≤ n_7)) then
    (bif (decide (i_10 < (x_5.length : Int))) then
      ((idx x_5 i_10).bind fun x10 =>
      refAdd_J3 rec1 x_5 y_6 n_7 out_8 i_10 (IntKind.i64.wrap (over_9 + x10)))
    else
      refAdd_J3 rec1 x_5 y_6 n_7 out_8 i_10 over_9)
  else
    ((refWhole_m out_8).bind fun r12 =>
    some r12))
def refAdd_L1 : Nat → List Int → List Int → Int → List Int → Int → Int → Option ((List Int))
  | 0 => fun _ _ _ _ _ _ => none
  | n + 1 => refAdd_B1 (refAdd_L1 n)
def refAdd_J1 (x_5 : List Int) (y_6 : List Int) (n_7 : Int) : Option ((List Int)) :=
  refAdd_L1 FUEL x_5 y_6 n_7 [] 0 0
def refAdd_m (a_0 : List Int) (b_1 : List Int) : Option ((List Int)) :=
  ((refBits_m a_0).bind fun r2 =>
  ((refBits_m b_1).bind fun r4 =>
  (bif (decide ((r2.length : Int) < (r4.length : Int))) then
    refAdd_J1 r2 r4 (r4.length : Int)
  else
    refAdd_J1 r2 r4 (r2.length : Int))))
theorem refAdd_c {a_0 : List Int} {b_1 : List Int} {r : (List Int)} (hm : refAdd_m a_0 b_1 = some r) : PureC Try.prog 18 [.sl (a_0.flatMap (ci .u32)) a_0.length false, .sl (b_1.flatMap (ci .u32)) b_1.length false] (.sl (r.flatMap (ci .u32)) r.length false) := by
  refine PureC.of_body Try.func18 rfl ?_
  simp only [Try.ntmps18, List.length_cons, List.length_nil, Nat.reduceAdd, Nat.reduceSub, empty_eq]
  unfold refAdd_m at hm
  refine sr (N' := 64) rfl ?_
  refine pu rfl (by simp only [go_sem, Nat.reduceBEq]; try with_reducible rfl) ?_
  refine fs ?_
  refine sr (N' := 128) rfl ?_
  refine pu rfl (by simp only [go_sem, Nat.reduceBEq]; try with_reducible rfl) ?_
  obtain ⟨r2, h1, hm⟩ := bnd hm
  refine ARun.callQ (r := .sl (r2.flatMap (ci .i64)) r2.length false) (by decide) (by try simp only [go_sem, Nat.reduceBEq]; try rfl) fb29 (fun H => (.cons (td (by try simp only [go_sem, Nat.reduceBEq]; try rfl) ((CFi .u32).sl _ _ _)) .nil)) (refBits_c h1) ?_
  refine pu rfl (by simp only [go_sem, Nat.reduceBEq]; try with_reducible rfl) ?_
  obtain ⟨r4, h3, hm⟩ := bnd hm
  refine ARun.callQ (r := .sl (r4.flatMap (ci .i64)) r4.length false) (by decide) (by try simp only [go_sem, Nat.reduceBEq]; try rfl) fb29 (fun H => (.cons (td (by try simp only [go_sem, Nat.reduceBEq]; try rfl) ((CFi .u32).sl _ _ _)) .nil)) (refBits_c h3) ?_
  iterate 2 refine pu rfl (by simp only [go_sem, Nat.reduceBEq]; try with_reducible rfl) ?_
  refine fs ?_
  refine sr (N' := 192) rfl ?_
  iterate 3 refine pu rfl (by simp only [go_sem, Nat.reduceBEq]; try with_reducible rfl) ?_
  refine fs ?_
  refine AWp.seqJ (fun s => ∃ (x_5 : List Int) (y_6 : List Int) (n_7 : Int), s = (⟨59, (fset (fset (fset (fun _ => AV.any) 5 (.sl (x_5.flatMap (ci .i64)) x_5.length false)) 6 (.sl (y_6.flatMap (ci .i64)) y_6.length false)) 7 (.v (.int .i64 n_7))), ⟨nofresh, 64⟩⟩ : St) ∧ refAdd_J1 x_5 y_6 n_7 = some r) ?_ ?_
  · refine sr (N' := 256) rfl ?_
    iterate 4 refine pu rfl (by simp only [go_sem, Nat.reduceBEq]; try with_reducible rfl) ?_
    refine fs ?_
    refine AWp.condM hm (by try simp only [go_sem, Nat.reduceBEq]; try rfl) (fun _ hm => ?_) (fun _ hm => ?_)
    · refine AWp.reg 64 (N' := 320) rfl ?_
      iterate 3 refine pu rfl (by simp only [go_sem, Nat.reduceBEq]; try with_reducible rfl) ?_
      refine ARun.fin ?_
      refine normJ ?_
      refine ⟨_, ?_, r2, r4, (r4.length : Int), rfl, hm⟩
      exact le_canon id (wk_fset _ _ (wk_data (by try simp only [go_sem, Nat.reduceBEq]; try rfl) (.v _)) (wk_fset _ _ (wk_data (by try simp only [go_sem, Nat.reduceBEq]; try rfl) ((CFi .i64).sl _ _ _)) (wk_fset _ _ (wk_data (by try simp only [go_sem, Nat.reduceBEq]; try rfl) ((CFi .i64).sl _ _ _)) wk_none))) heapWk0
    · refine AWp.skip ?_
      refine normJ ?_
      refine ⟨_, ?_, r2, r4, (r2.length : Int), rfl, hm⟩
      exact le_canon id (wk_fset _ _ (wk_data (by try simp only [go_sem, Nat.reduceBEq]; try rfl) (.v _)) (wk_fset _ _ (wk_data (by try simp only [go_sem, Nat.reduceBEq]; try rfl) ((CFi .i64).sl _ _ _)) (wk_fset _ _ (wk_data (by try simp only [go_sem, Nat.reduceBEq]; try rfl) ((CFi .i64).sl _ _ _)) wk_none))) heapWk0
  · rintro s ⟨x_5, y_6, n_7, rfl, hm⟩
    unfold refAdd_J1 at hm
    refine sr (N' := 128) rfl ?_
    refine pu rfl (by simp only [go_sem, Nat.reduceBEq]; try with_reducible rfl) ?_
    refine fs ?_
    refine sr (N' := 192) rfl ?_
    refine pu rfl (by simp only [go_sem, Nat.reduceBEq]; try with_reducible rfl) ?_
    refine fs ?_
    refine AWp.seq' ?_
    refine sr (N' := 256) rfl ?_
    refine pu rfl (by simp only [go_sem, Nat.reduceBEq]; try with_reducible rfl) ?_
    refine fs ?_
    refine AWp.block ?_
    refine AWp.loopM (fun m s => ∃ (x_5 : List Int) (y_6 : List Int) (n_7 : Int) (out_8 : List Int) (over_9 : Int) (i_10 : Int), s = (⟨59, (fset (fset (fset (fset (fset (fset (fun _ => AV.any) 5 (.sl (x_5.flatMap (ci .i64)) x_5.length false)) 6 (.sl (y_6.flatMap (ci .i64)) y_6.length false)) 7 (.v (.int .i64 n_7))) 8 (.own 1 0 out_8.length)) 9 (.v (.int .i64 over_9))) 10 (.v (.int .i64 i_10))), ⟨(upd nofresh 1 (.cells 1 (out_8.flatMap (ci .i64)) 0)), 64⟩⟩ : St) ∧ refAdd_L1 m x_5 y_6 n_7 out_8 over_9 i_10 = some r) FUEL ?_ ?_ ?_
    · rintro s ⟨_, _, _, _, _, _, _, h⟩
      cases h
    · refine ⟨_, ?_, x_5, y_6, n_7, [], 0, 0, rfl, hm⟩
      refine St.Le.trans (le_nil 8 900008 1 (by try simp only [go_sem, Nat.reduceBEq]; try rfl) (by simp only [isFresh_upd, isFresh_no, Nat.reduceBEq, cond_true, cond_false])) ?_
      exact le_canon (fun j => bif j == 1 then 900008 else 0) (wk_fset _ _ (wk_data (by try simp only [go_sem, Nat.reduceBEq]; try rfl) (.v _)) (wk_fset _ _ (wk_data (by try simp only [go_sem, Nat.reduceBEq]; try rfl) (.v _)) (wk_fset _ _ (wk_own (by try simp only [go_sem, Nat.reduceBEq]; try rfl) (by first | rfl | omega) rfl (by simp [upd])) (wk_fset _ _ (wk_data (by try simp only [go_sem, Nat.reduceBEq]; try rfl) (.v _)) (wk_fset _ _ (wk_data (by try simp only [go_sem, Nat.reduceBEq]; try rfl) ((CFi .i64).sl _ _ _)) (wk_fset _ _ (wk_data (by try simp only [go_sem, Nat.reduceBEq]; try rfl) ((CFi .i64).sl _ _ _)) wk_none)))))) (heapWk_of _ (entWk_upd (ent_fm (CFi .i64) (by simp only [upd_beq, Nat.reduceBEq, cond_true, cond_false]; try rfl) rfl) entWk_none) (by repeat' (first | exact inj_none | exact liv_none | refine inj_upd ?_ ?_ | refine liv_upd ?_ ?_ | exact .inl rfl | exact .inr (by decide))))
    · rintro n1 s ⟨x_5, y_6, n_7, out_8, over_9, i_10, rfl, hm⟩
      replace hm : refAdd_B1 (refAdd_L1 n1) x_5 y_6 n_7 out_8 over_9 i_10 = some r := hm
      unfold refAdd_B1 at hm
      refine AWp.seq' ?_
      refine sr (N' := 128) rfl ?_
      iterate 3 refine pu rfl (by simp only [go_sem, Nat.reduceBEq]; try with_reducible rfl) ?_
      refine fs ?_
      refine AWp.condM hm (by try simp only [go_sem, Nat.reduceBEq]; try rfl) (fun _ hm => ?_) (fun _ hm => ?_)
      · refine AWp.skip ?_
        refine normSeq ?_
        refine AWp.seqJ (fun s => ∃ (x_5 : List Int) (y_6 : List Int) (n_7 : Int) (out_8 : List Int) (over_9 : Int) (i_10 : Int), s = (⟨59, (fset (fset (fset (fset (fset (fset (fun _ => AV.any) 5 (.sl (x_5.flatMap (ci .i64)) x_5.length false)) 6 (.sl (y_6.flatMap (ci .i64)) y_6.length false)) 7 (.v (.int .i64 n_7))) 8 (.own 1 0 out_8.length)) 9 (.v (.int .i64 over_9))) 10 (.v (.int .i64 i_10))), ⟨(upd nofresh 1 (.cells 1 (out_8.flatMap (ci .i64)) 0)), 64⟩⟩ : St) ∧ refAdd_J2 (refAdd_L1 n1) x_5 y_6 n_7 out_8 over_9 i_10 = some r) ?_ ?_
        · refine AWp.block ?_
          refine sr (N' := 192) rfl ?_
          iterate 2 refine pu rfl (by simp only [go_sem, Nat.reduceBEq]; try with_reducible rfl) ?_
          refine fs ?_
          refine AWp.seqJ (fun s => ∃ (x_5 : List Int) (y_6 : List Int) (n_7 : Int) (out_8 : List Int) (i_10 : Int) (s_11 : Int), s = (⟨59, (fset (fset (fset (fset (fset (fset (fun _ => AV.any) 5 (.sl (x_5.flatMap (ci .i64)) x_5.length false)) 6 (.sl (y_6.flatMap (ci .i64)) y_6.length false)) 7 (.v (.int .i64 n_7))) 8 (.own 1 0 out_8.length)) 10 (.v (.int .i64 i_10))) 11 (.v (.int .i64 s_11))), ⟨(upd nofresh 1 (.cells 1 (out_8.flatMap (ci .i64)) 0)), 64⟩⟩ : St) ∧ refAdd_J3 (refAdd_L1 n1) x_5 y_6 n_7 out_8 i_10 s_11 = some r) ?_ ?_
          · refine sr (N' := 256) rfl ?_
            iterate 4 refine pu rfl (by simp only [go_sem, Nat.reduceBEq]; try with_reducible rfl) ?_
            refine fs ?_
            refine AWp.condM hm (by try simp only [go_sem, Nat.reduceBEq]; try rfl) (fun _ hm => ?_) (fun _ hm => ?_)
            · refine AWp.reg 64 (N' := 320) rfl ?_
              iterate 3 refine pu rfl (by simp only [go_sem, Nat.reduceBEq]; try with_reducible rfl) ?_
              obtain ⟨x10, h9, hm⟩ := bnd hm
              refine pu rfl (ap_idx (CFi .i64) (by decide) Try.underlying50 sz3 (by try simp only [go_sem, Nat.reduceBEq]; try rfl) rfl (by try simp only [go_sem, Nat.reduceBEq]; try rfl) h9) ?_
              iterate 3 refine pu rfl (by simp only [go_sem, Nat.reduceBEq]; try with_reducible rfl) ?_
              refine ARun.fin ?_
              refine normJ ?_
              refine ⟨_, ?_, x_5, y_6, n_7, out_8, i_10, (IntKind.i64.wrap (over_9 + x10)), rfl, hm⟩
              exact le_canon (fun j => bif j == 1 then 1 else 0) (wk_fset _ _ (wk_data (by try simp only [go_sem, Nat.reduceBEq]; try rfl) (.v _)) (wk_fset _ _ (wk_data (by try simp only [go_sem, Nat.reduceBEq]; try rfl) (.v _)) (wk_fset _ _ (wk_own (by try simp only [go_sem, Nat.reduceBEq]; try rfl) (by first | rfl | omega) rfl (by simp [upd])) (wk_fset _ _ (wk_data (by try simp only [go_sem, Nat.reduceBEq]; try rfl) (.v _)) (wk_fset _ _ (wk_data (by try simp only [go_sem, Nat.reduceBEq]; try rfl) ((CFi .i64).sl _ _ _)) (wk_fset _ _ (wk_data (by try simp only [go_sem, Nat.reduceBEq]; try rfl) ((CFi .i64).sl _ _ _)) wk_none)))))) (heapWk_of _ (entWk_upd (ent_fm (CFi .i64) (by simp only [upd_beq, Nat.reduceBEq, cond_true, cond_false]; try rfl) rfl) entWk_none) (by repeat' (first | exact inj_none | exact liv_none | refine inj_upd ?_ ?_ | refine liv_upd ?_ ?_ | exact .inl rfl | exact .inr (by decide))))
            · refine AWp.skip ?_
              refine normJ ?_
              refine ⟨_, ?_, x_5, y_6, n_7, out_8, i_10, over_9, rfl, hm⟩
              exact le_canon (fun j => bif j == 1 then 1 else 0) (wk_fset _ _ (wk_data (by try simp only [go_sem, Nat.reduceBEq]; try rfl) (.v _)) (wk_fset _ _ (wk_data (by try simp only [go_sem, Nat.reduceBEq]; try rfl) (.v _)) (wk_fset _ _ (wk_own (by try simp only [go_sem, Nat.reduceBEq]; try rfl) (by first | rfl | omega) rfl (by simp [upd])) (wk_fset _ _ (wk_data (by try simp only [go_sem, Nat.reduceBEq]; try rfl) (.v _)) (wk_fset _ _ (wk_data (by try simp only [go_sem, Nat.reduceBEq]; try rfl) ((CFi .i64).sl _ _ _)) (wk_fset _ _ (wk_data (by try simp only [go_sem, Nat.reduceBEq]; try rfl) ((CFi .i64).sl _ _ _)) wk_none)))))) (heapWk_of _ (entWk_upd (ent_fm (CFi .i64) (by simp only [upd_beq, Nat.reduceBEq, cond_true, cond_false]; try rfl) rfl) entWk_none) (by repeat' (first | exact inj_none | exact liv_none | refine inj_upd ?_ ?_ | refine liv_upd ?_ ?_ | exact .inl rfl | exact .inr (by decide))))
          · rintro s ⟨x_5, y_6, n_7, out_8, i_10, s_11, rfl, hm⟩
            unfold refAdd_J3 at hm
            refine AWp.seqJ (fun s => ∃ (x_5 : List Int) (y_6 : List Int) (n_7 : Int) (out_8 : List Int) (i_10 : Int) (s_11 : Int), s = (⟨59, (fset (fset (fset (fset (fset (fset (fun _ => AV.any) 5 (.sl (x_5.flatMap (ci .i64)) x_5.length false)) 6 (.sl (y_6.flatMap (ci .i64)) y_6.length false)) 7 (.v (.int .i64 n_7))) 8 (.own 1 0 out_8.length)) 10 (.v (.int .i64 i_10))) 11 (.v (.int .i64 s_11))), ⟨(upd nofresh 1 (.cells 1 (out_8.flatMap (ci .i64)) 0)), 64⟩⟩ : St) ∧ refAdd_J4 (refAdd_L1 n1) x_5 y_6 n_7 out_8 i_10 s_11 = some r) ?_ ?_
            · refine sr (N' := 128) rfl ?_
              iterate 4 refine pu rfl (by simp only [go_sem, Nat.reduceBEq]; try with_reducible rfl) ?_
              refine fs ?_
              refine AWp.condM hm (by try simp only [go_sem, Nat.reduceBEq]; try rfl) (fun _ hm => ?_) (fun _ hm => ?_)
              · refine AWp.reg 64 (N' := 192) rfl ?_
                iterate 3 refine pu rfl (by simp only [go_sem, Nat.reduceBEq]; try with_reducible rfl) ?_
                obtain ⟨x8, h7, hm⟩ := bnd hm
                refine pu rfl (ap_idx (CFi .i64) (by decide) Try.underlying50 sz3 (by try simp only [go_sem, Nat.reduceBEq]; try rfl) rfl (by try simp only [go_sem, Nat.reduceBEq]; try rfl) h7) ?_
                iterate 3 refine pu rfl (by simp only [go_sem, Nat.reduceBEq]; try with_reducible rfl) ?_
                refine ARun.fin ?_
                refine normJ ?_
                refine ⟨_, ?_, x_5, y_6, n_7, out_8, i_10, (IntKind.i64.wrap (s_11 + x8)), rfl, hm⟩
                exact le_canon (fun j => bif j == 1 then 1 else 0) (wk_fset _ _ (wk_data (by try simp only [go_sem, Nat.reduceBEq]; try rfl) (.v _)) (wk_fset _ _ (wk_data (by try simp only [go_sem, Nat.reduceBEq]; try rfl) (.v _)) (wk_fset _ _ (wk_own (by try simp only [go_sem, Nat.reduceBEq]; try rfl) (by first | rfl | omega) rfl (by simp [upd])) (wk_fset _ _ (wk_data (by try simp only [go_sem, Nat.reduceBEq]; try rfl) (.v _)) (wk_fset _ _ (wk_data (by try simp only [go_sem, Nat.reduceBEq]; try rfl) ((CFi .i64).sl _ _ _)) (wk_fset _ _ (wk_data (by try simp only [go_sem, Nat.reduceBEq]; try rfl) ((CFi .i64).sl _ _ _)) wk_none)))))) (heapWk_of _ (entWk_upd (ent_fm (CFi .i64) (by simp only [upd_beq, Nat.reduceBEq, cond_true, cond_false]; try rfl) rfl) entWk_none) (by repeat' (first | exact inj_none | exact liv_none | refine inj_upd ?_ ?_ | refine liv_upd ?_ ?_ | exact .inl rfl | exact .inr (by decide))))
              · refine AWp.skip ?_
                refine normJ ?_
                refine ⟨_, ?_, x_5, y_6, n_7, out_8, i_10, s_11, rfl, hm⟩
                exact le_canon (fun j => bif j == 1 then 1 else 0) (wk_fset _ _ (wk_data (by try simp only [go_sem, Nat.reduceBEq]; try rfl) (.v _)) (wk_fset _ _ (wk_data (by try simp only [go_sem, Nat.reduceBEq]; try rfl) (.v _)) (wk_fset _ _ (wk_own (by try simp only [go_sem, Nat.reduceBEq]; try rfl) (by first | rfl | omega) rfl (by simp [upd])) (wk_fset _ _ (wk_data (by try simp only [go_sem, Nat.reduceBEq]; try rfl) (.v _)) (wk_fset _ _ (wk_data (by try simp only [go_sem, Nat.reduceBEq]; try rfl) ((CFi .i64).sl _ _ _)) (wk_fset _ _ (wk_data (by try simp only [go_sem, Nat.reduceBEq]; try rfl) ((CFi .i64).sl _ _ _)) wk_none)))))) (heapWk_of _ (entWk_upd (ent_fm (CFi .i64) (by simp only [upd_beq, Nat.reduceBEq, cond_true, cond_false]; try rfl) rfl) entWk_none) (by repeat' (first | exact inj_none | exact liv_none | refine inj_upd ?_ ?_ | refine liv_upd ?_ ?_ | exact .inl rfl | exact .inr (by decide))))
            · rintro s ⟨x_5, y_6, n_7, out_8, i_10, s_11, rfl, hm⟩
              unfold refAdd_J4 at hm
              refine sr (N' := 128) rfl ?_
              iterate 3 refine pu rfl (by simp only [go_sem, Nat.reduceBEq, Int.reduceEq, Int.reduceLE]; try with_reducible rfl) ?_
              refine hp (id := 67) rfl rfl (ah_list (CFi .i64) (l := [(Int.tmod s_11 2)]) Try.underlying50 sz3 zc3 (by simp only [isFresh_upd, isFresh_no, Nat.reduceBEq, cond_true, cond_false]) (by decide) (by decide) (by decide) (by simp only [go_sem, Nat.reduceBEq]; try rfl) (by kernel_rfl)) ?_
              obtain ⟨l6, h5, hm⟩ := bnd hm
              refine hp (id := 68) rfl rfl (ah_app (CFi .i64) Try.underlying50 Try.underlying50 rfl in3 ts3 (by rw [tb3]; decide) (by rw [tb3]; decide) tz3 (by decide) (by decide) (by try simp only [go_sem, Nat.reduceBEq]; try rfl) (by simp only [upd_beq, Nat.reduceBEq, cond_true, cond_false]; try rfl) (by first | rfl | omega) (as_own (CFi .i64) (by try simp only [go_sem, Nat.reduceBEq]; try rfl) (by simp only [upd_beq, Nat.reduceBEq, cond_true, cond_false]; try rfl) (by first | rfl | omega)) rfl (by simp only [isFresh_upd, isFresh_no, Nat.reduceBEq, cond_true, cond_false]) h5) ?_
              refine pu rfl (by simp only [go_sem, Nat.reduceBEq]; try with_reducible rfl) ?_
              refine fs ?_
              refine AWp.reg 64 (N' := 192) rfl ?_
              iterate 3 refine pu rfl (by simp only [go_sem, Nat.reduceBEq, Int.reduceEq, Int.reduceLE]; try with_reducible rfl) ?_
              refine ARun.fin ?_
              refine normIn ?_
              refine normJ ?_
              refine ⟨_, ?_, x_5, y_6, n_7, l6, (IntKind.i64.wrap (Int.tdiv s_11 2)), i_10, rfl, hm⟩
              exact le_canon (fun j => bif j == 1 then 68 else 0) (wk_fset _ _ (wk_data (by try simp only [go_sem, Nat.reduceBEq]; try rfl) (.v _)) (wk_fset _ _ (wk_data (by try simp only [go_sem, Nat.reduceBEq]; try rfl) (.v _)) (wk_fset _ _ (wk_own (by try simp only [go_sem, Nat.reduceBEq]; try rfl) (by first | rfl | omega) rfl (by simp [upd])) (wk_fset _ _ (wk_data (by try simp only [go_sem, Nat.reduceBEq]; try rfl) (.v _)) (wk_fset _ _ (wk_data (by try simp only [go_sem, Nat.reduceBEq]; try rfl) ((CFi .i64).sl _ _ _)) (wk_fset _ _ (wk_data (by try simp only [go_sem, Nat.reduceBEq]; try rfl) ((CFi .i64).sl _ _ _)) wk_none)))))) (heapWk_of _ (entWk_upd (ent_fm (CFi .i64) (by simp only [upd_beq, Nat.reduceBEq, cond_true, cond_false]; try rfl) rfl) entWk_none) (by repeat' (first | exact inj_none | exact liv_none | refine inj_upd ?_ ?_ | refine liv_upd ?_ ?_ | exact .inl rfl | exact .inr (by decide))))
        · rintro s ⟨x_5, y_6, n_7, out_8, over_9, i_10, rfl, hm⟩
          unfold refAdd_J2 at hm
          refine AWp.reg 64 (N' := 128) rfl ?_
          iterate 3 refine pu rfl (by simp only [go_sem, Nat.reduceBEq]; try with_reducible rfl) ?_
          refine ARun.fin ?_
          refine normThen ?_
          refine ⟨_, ?_, x_5, y_6, n_7, out_8, over_9, (IntKind.i64.wrap (i_10 + 1)), rfl, hm⟩
          exact le_canon (fun j => bif j == 1 then 1 else 0) (wk_fset _ _ (wk_data (by try simp only [go_sem, Nat.reduceBEq]; try rfl) (.v _)) (wk_fset _ _ (wk_data (by try simp only [go_sem, Nat.reduceBEq]; try rfl) (.v _)) (wk_fset _ _ (wk_own (by try simp only [go_sem, Nat.reduceBEq]; try rfl) (by first | rfl | omega) rfl (by simp [upd])) (wk_fset _ _ (wk_data (by try simp only [go_sem, Nat.reduceBEq]; try rfl) (.v _)) (wk_fset _ _ (wk_data (by try simp only [go_sem, Nat.reduceBEq]; try rfl) ((CFi .i64).sl _ _ _)) (wk_fset _ _ (wk_data (by try simp only [go_sem, Nat.reduceBEq]; try rfl) ((CFi .i64).sl _ _ _)) wk_none)))))) (heapWk_of _ (entWk_upd (ent_fm (CFi .i64) (by simp only [upd_beq, Nat.reduceBEq, cond_true, cond_false]; try rfl) rfl) entWk_none) (by repeat' (first | exact inj_none | exact liv_none | refine inj_upd ?_ ?_ | refine liv_upd ?_ ?_ | exact .inl rfl | exact .inr (by decide))))
      · refine AWp.exit ?_
        refine exitSeq ?_
        refine exitThen ?_
        refine exitHere ?_
        refine normSeq ?_
        refine AWp.seq' ?_
        refine AWp.weaken (le_lock (CFi .i64) 8 1 (by try simp only [go_sem, Nat.reduceBEq]; try rfl) (by simp only [upd_beq, Nat.reduceBEq, cond_true, cond_false]; try rfl) (by first | rfl | omega)) ?_
        refine AWp.reg 64 (N' := 192) rfl ?_
        refine pu rfl (by simp only [go_sem, Nat.reduceBEq]; try with_reducible rfl) ?_
        obtain ⟨r12, h11, hm⟩ := bnd hm
        refine ARun.callQ (r := .sl (r12.flatMap (ci .u32)) r12.length false) (by decide) (by try simp only [go_sem, Nat.reduceBEq]; try rfl) fb30 (fun H => (.cons (td (by try simp only [go_sem, Nat.reduceBEq]; try rfl) ((CFi .i64).sl _ _ _)) .nil)) (refWhole_c h11) ?_
        refine pu rfl (by simp only [go_sem, Nat.reduceBEq]; try with_reducible rfl) ?_
        refine fs ?_
        refine AWp.ret ?_
        cases hm
        exact ret1D (.inr rfl) Try.results18 (td (by try simp only [go_sem, Nat.reduceBEq]; try rfl) ((CFi .u32).sl _ _ _))
def refMul_J1 (rec1 : List Int → List Int → List Int → Int → Option ((List Int))) (a_0 : List Int) (out_5 : List Int) (y_6 : List Int) (i_7 : Int) : Option ((List Int)) :=
  rec1 a_0 out_5 y_6 (IntKind.i64.wrap (i_7 + 1))
def refMul_B1 (rec1 : List Int → List Int → List Int → Int → Option ((List Int))) (a_0 : List Int) (out_5 : List Int) (y_6 : List Int) (i_7 : Int) : Option ((List Int)) :=
  (bif (decide (i_7 < (y_6.length : Int))) then
    ((idx y_6 i_7).bind fun x4 =>
    (bif (x4 == 1) then
      ((refShift_m a_0 i_7).bind fun r6 =>
      ((refAdd_m out_5 r6).bind fun r8 =>
      refMul_J1 rec1 a_0 r8 y_6 i_7))
    else
      refMul_J1 rec1 a_0 out_5 y_6 i_7))
  else
    some out_5)
def refMul_L1 : Nat → List Int → List Int → List Int → Int → Option ((List Int))
  | 0 => fun _ _ _ _ => none
  | n + 1 => refMul_B1 (refMul_L1 n)
def refMul_m (a_0 : List Int) (b_1 : List Int) : Option ((List Int)) :=
  ((refBits_m b_1).bind fun r2 =>
  refMul_L1 FUEL a_0 [] r2 0)
theorem refMul_c {a_0 : List Int} {b_1 : List Int} {r : (List Int)} (hm : refMul_m a_0 b_1 = some r) : PureC Try.prog 20 [.sl (a_0.flatMap (ci .u32)) a_0.length false, .sl (b_1.flatMap (ci .u32)) b_1.length false] (.sl (r.flatMap (ci .u32)) r.length false) := by
  refine PureC.of_body Try.func20 rfl ?_
  simp only [Try.ntmps20, List.length_cons, List.length_nil, Nat.reduceAdd, Nat.reduceSub, empty_eq]
  unfold refMul_m at hm
  refine sr (N' := 64) rfl ?_
  refine pu rfl (by simp only [go_sem, Nat.reduceBEq]; try with_reducible rfl) ?_
  refine fs ?_
  refine sr (N' := 128) rfl ?_
  refine pu rfl (by simp only [go_sem, Nat.reduceBEq]; try with_reducible rfl) ?_
  refine fs ?_
  refine sr (N' := 192) rfl ?_
  refine pu rfl (by simp only [go_sem, Nat.reduceBEq]; try with_reducible rfl) ?_
  obtain ⟨r2, h1, hm⟩ := bnd hm
  refine ARun.callQ (r := .sl (r2.flatMap (ci .i64)) r2.length false) (by decide) (by try simp only [go_sem, Nat.reduceBEq]; try rfl) fb29 (fun H => (.cons (td (by try simp only [go_sem, Nat.reduceBEq]; try rfl) ((CFi .u32).sl _ _ _)) .nil)) (refBits_c h1) ?_
  refine pu rfl (by simp only [go_sem, Nat.reduceBEq]; try with_reducible rfl) ?_
  refine fs ?_
  refine AWp.seq' ?_
  refine sr (N' := 256) rfl ?_
  refine pu rfl (by simp only [go_sem, Nat.reduceBEq]; try with_reducible rfl) ?_
  refine fs ?_
  refine AWp.block ?_
  refine AWp.loopM (fun m s => ∃ (a_0 : List Int) (out_5 : List Int) (y_6 : List Int) (i_7 : Int), s = (⟨27, (fset (fset (fset (fset (fun _ => AV.any) 0 (.sl (a_0.flatMap (ci .u32)) a_0.length false)) 5 (.sl (out_5.flatMap (ci .u32)) out_5.length false)) 6 (.sl (y_6.flatMap (ci .i64)) y_6.length false)) 7 (.v (.int .i64 i_7))), ⟨nofresh, 64⟩⟩ : St) ∧ refMul_L1 m a_0 out_5 y_6 i_7 = some r) FUEL ?_ ?_ ?_
  · rintro s ⟨_, _, _, _, _, h⟩
    cases h
  · refine ⟨_, ?_, a_0, [], r2, 0, rfl, hm⟩
    refine St.Le.trans (le_tod 5 (.sl [] 0 false) (fun H => tdn (by try simp only [go_sem, Nat.reduceBEq]; try rfl))) ?_
    exact le_canon id (wk_fset _ _ (wk_data (by try simp only [go_sem, Nat.reduceBEq]; try rfl) (.v _)) (wk_fset _ _ (wk_data (by try simp only [go_sem, Nat.reduceBEq]; try rfl) ((CFi .i64).sl _ _ _)) (wk_fset _ _ (wk_data (by try simp only [go_sem, Nat.reduceBEq]; try rfl) ((CFi .u32).sl _ _ _)) (wk_fset _ _ (wk_data (by try simp only [go_sem, Nat.reduceBEq]; try rfl) ((CFi .u32).sl _ _ _)) wk_none)))) heapWk0
  · rintro n1 s ⟨a_0, out_5, y_6, i_7, rfl, hm⟩
    replace hm : refMul_B1 (refMul_L1 n1) a_0 out_5 y_6 i_7 = some r := hm
    unfold refMul_B1 at hm
    refine AWp.seq' ?_
    refine sr (N' := 128) rfl ?_
    iterate 4 refine pu rfl (by simp only [go_sem, Nat.reduceBEq]; try with_reducible rfl) ?_
    refine fs ?_
    refine AWp.condM hm (by try simp only [go_sem, Nat.reduceBEq]; try rfl) (fun _ hm => ?_) (fun _ hm => ?_)
    · refine AWp.skip ?_
      refine normSeq ?_
      refine AWp.seqJ (fun s => ∃ (a_0 : List Int) (out_5 : List Int) (y_6 : List Int) (i_7 : Int), s = (⟨27, (fset (fset (fset (fset (fun _ => AV.any) 0 (.sl (a_0.flatMap (ci .u32)) a_0.length false)) 5 (.sl (out_5.flatMap (ci .u32)) out_5.length false)) 6 (.sl (y_6.flatMap (ci .i64)) y_6.length false)) 7 (.v (.int .i64 i_7))), ⟨nofresh, 64⟩⟩ : St) ∧ refMul_J1 (refMul_L1 n1) a_0 out_5 y_6 i_7 = some r) ?_ ?_
      · refine AWp.block ?_
        refine sr (N' := 192) rfl ?_
        iterate 2 refine pu rfl (by simp only [go_sem, Nat.reduceBEq]; try with_reducible rfl) ?_
        obtain ⟨x4, h3, hm⟩ := bnd hm
        refine pu rfl (ap_idx (CFi .i64) (by decide) Try.underlying50 sz3 (by try simp only [go_sem, Nat.reduceBEq]; try rfl) rfl (by try simp only [go_sem, Nat.reduceBEq]; try rfl) h3) ?_
        iterate 2 refine pu rfl (by simp only [go_sem, Nat.reduceBEq]; try with_reducible rfl) ?_
        refine fs ?_
        refine AWp.condM hm (by try simp only [go_sem, Nat.reduceBEq]; try rfl) (fun _ hm => ?_) (fun _ hm => ?_)
        · refine AWp.reg 64 (N' := 256) rfl ?_
          iterate 3 refine pu rfl (by simp only [go_sem, Nat.reduceBEq]; try with_reducible rfl) ?_
          obtain ⟨r6, h5, hm⟩ := bnd hm
          refine ARun.callQ (r := .sl (r6.flatMap (ci .u32)) r6.length false) (by decide) (by try simp only [go_sem, Nat.reduceBEq]; try rfl) fb31 (fun H => (.cons (td (by try simp only [go_sem, Nat.reduceBEq]; try rfl) ((CFi .u32).sl _ _ _)) (.cons (td (by try simp only [go_sem, Nat.reduceBEq]; try rfl) (.v _)) .nil))) (refShift_c h5) ?_
          obtain ⟨r8, h7, hm⟩ := bnd hm
          refine ARun.callQ (r := .sl (r8.flatMap (ci .u32)) r8.length false) (by decide) (by try simp only [go_sem, Nat.reduceBEq]; try rfl) fb18 (fun H => (.cons (td (by try simp only [go_sem, Nat.reduceBEq]; try rfl) ((CFi .u32).sl _ _ _)) (.cons (td (by try simp only [go_sem, Nat.reduceBEq]; try rfl) ((CFi .u32).sl _ _ _)) .nil))) (refAdd_c h7) ?_
          refine pu rfl (by simp only [go_sem, Nat.reduceBEq]; try with_reducible rfl) ?_
          refine ARun.fin ?_
          refine normIn ?_
          refine normJ ?_
          refine ⟨_, ?_, a_0, r8, y_6, i_7, rfl, hm⟩
          exact le_canon id (wk_fset _ _ (wk_data (by try simp only [go_sem, Nat.reduceBEq]; try rfl) (.v _)) (wk_fset _ _ (wk_data (by try simp only [go_sem, Nat.reduceBEq]; try rfl) ((CFi .i64).sl _ _ _)) (wk_fset _ _ (wk_data (by try simp only [go_sem, Nat.reduceBEq]; try rfl) ((CFi .u32).sl _ _ _)) (wk_fset _ _ (wk_data (by try simp only [go_sem, Nat.reduceBEq]; try rfl) ((CFi .u32).sl _ _ _)) wk_none)))) heapWk0
        · refine AWp.skip ?_
          refine normIn ?_
          refine normJ ?_
          refine ⟨_, ?_, a_0, out_5, y_6, i_7, rfl, hm⟩
          exact le_canon id (wk_fset _ _ (wk_data (by try simp only [go_sem, Nat.reduceBEq]; try rfl) (.v _)) (wk_fset _ _ (wk_data (by try simp only [go_sem, Nat.reduceBEq]; try rfl) ((CFi .i64).sl _ _ _)) (wk_fset _ _ (wk_data (by try simp only [go_sem, Nat.reduceBEq]; try rfl) ((CFi .u32).sl _ _ _)) (wk_fset _ _ (wk_data (by try simp only [go_sem, Nat.reduceBEq]; try rfl) ((CFi .u32).sl _ _ _)) wk_none)))) heapWk0
      · rintro s ⟨a_0, out_5, y_6, i_7, rfl, hm⟩
        unfold refMul_J1 at hm
        refine AWp.reg 64 (N' := 128) rfl ?_
        iterate 3 refine pu rfl (by simp only [go_sem, Nat.reduceBEq]; try with_reducible rfl) ?_
        refine ARun.fin ?_
        refine normThen ?_
        refine ⟨_, ?_, a_0, out_5, y_6, (IntKind.i64.wrap (i_7 + 1)), rfl, hm⟩
        exact le_canon id (wk_fset _ _ (wk_data (by try simp only [go_sem, Nat.reduceBEq]; try rfl) (.v _)) (wk_fset _ _ (wk_data (by try simp only [go_sem, Nat.reduceBEq]; try rfl) ((CFi .i64).sl _ _ _)) (wk_fset _ _ (wk_data (by try simp only [go_sem, Nat.reduceBEq]; try rfl) ((CFi .u32).sl _ _ _)) (wk_fset _ _ (wk_data (by try simp only [go_sem, Nat.reduceBEq]; try rfl) ((CFi .u32).sl _ _ _)) wk_none)))) heapWk0
    · refine AWp.exit ?_
      refine exitSeq ?_
      refine exitThen ?_
      refine exitHere ?_
      refine normSeq ?_
      refine sr (N' := 192) rfl ?_
      iterate 2 refine pu rfl (by simp only [go_sem, Nat.reduceBEq]; try with_reducible rfl) ?_
      refine fs ?_
      refine AWp.ret ?_
      cases hm
      exact ret1D (.inr rfl) Try.results20 (td (by try simp only [go_sem, Nat.reduceBEq]; try rfl) ((CFi .u32).sl _ _ _))
def refCmp_J2 (rec1 : List Int → List Int → Int → Option (Int)) (x_5 : List Int) (y_6 : List Int) (i_8 : Int) : Option (Int) :=
  rec1 x_5 y_6 (IntKind.i64.wrap (i_8 - 1))
def refCmp_J4 (rec1 : List Int → List Int → Int → Option (Int)) (x_5 : List Int) (y_6 : List Int) (i_8 : Int) (p_9 : Int) (q_10 : Int) : Option (Int) :=
  (bif (p_9 != q_10) then
    some (IntKind.i64.wrap (p_9 - q_10))
  else
    refCmp_J2 rec1 x_5 y_6 i_8)
def refCmp_J3 (rec1 : List Int → List Int → Int → Option (Int)) (x_5 : List Int) (y_6 : List Int) (i_8 : Int) (p_9 : Int) (q_10 : Int) : Option (Int) :=
  (bif (decide (i_8 < (y_6.length : Int))) then
    ((idx y_6 i_8).bind fun x6 =>
    refCmp_J4 rec1 x_5 y_6 i_8 p_9 x6)
  else
    refCmp_J4 rec1 x_5 y_6 i_8 p_9 q_10)
def refCmp_B1 (rec1 : List Int → List Int → Int → Option (Int)) (x_5 : List Int) (y_6 : List Int) (i_8 : Int) : Option (Int) :=
  (bif (decide (0 ≤ i_8)) then
    (bif (decide (i_8 < (x_5.length : Int))) then
      ((idx x_5 i_8).bind fun x8 =>
      refCmp_J3 rec1 x_5 y_6 i_8 x8 0)
    else
      refCmp_J3 rec1 x_5 y_6 i_8 0 0)
  else
    some 0)
def refCmp_L1 : Nat → List Int → List Int → Int → Option (Int)
  | 0 => fun _ _ _ => none
  | n + 1 => refCmp_B1 (refCmp_L1 n)
def refCmp_J1 (x_5 : List Int) (y_6 : List Int) (n_7 : Int) : Option (Int) :=
  refCmp_L1 FUEL x_5 y_6 (IntKind.i64.wrap (n_7 - 1))
def refCmp_m (a_0 : List Int) (b_1 : List Int) : Option (Int) :=
  ((refBits_m a_0).bind fun r2 =>
  ((refBits_m b_1).bind fun r4 =>
  (bif (decide ((r2.length : Int) < (r4.length : Int))) then
    refCmp_J1 r2 r4 (r4.length : Int)
  else
    refCmp_J1 r2 r4 (r2.length : Int))))
theorem refCmp_c {a_0 : List Int} {b_1 : List Int} {r : Int} (hm : refCmp_m a_0 b_1 = some r) : PureC Try.prog 21 [.sl (a_0.flatMap (ci .u32)) a_0.length false, .sl (b_1.flatMap (ci .u32)) b_1.length false] (.v (.int .i64 r)) := by
  refine PureC.of_body Try.func21 rfl ?_
  simp only [Try.ntmps21, List.length_cons, List.length_nil, Nat.reduceAdd, Nat.reduceSub, empty_eq]
  unfold refCmp_m at hm
  refine sr (N' := 64) rfl ?_
  refine pu rfl (by simp only [go_sem, Nat.reduceBEq]; try with_reducible rfl) ?_
  refine fs ?_
  refine sr (N' := 128) rfl ?_
  refine pu rfl (by simp only [go_sem, Nat.reduceBEq]; try with_reducible rfl) ?_
  obtain ⟨r2, h1, hm⟩ := bnd hm
  refine ARun.callQ (r := .sl (r2.flatMap (ci .i64)) r2.length false) (by decide) (by try simp only [go_sem, Nat.reduceBEq]; try rfl) fb29 (fun H => (.cons (td (by try simp only [go_sem, Nat.reduceBEq]; try rfl) ((CFi .u32).sl _ _ _)) .nil)) (refBits_c h1) ?_
  refine pu rfl (by simp only [go_sem, Nat.reduceBEq]; try with_reducible rfl) ?_
  obtain ⟨r4, h3, hm⟩ := bnd hm
  refine ARun.callQ (r := .sl (r4.flatMap (ci .i64)) r4.length false) (by decide) (by try simp only [go_sem, Nat.reduceBEq]; try rfl) fb29 (fun H => (.cons (td (by try simp only [go_sem, Nat.reduceBEq]; try rfl) ((CFi .u32).sl _ _ _)) .nil)) (refBits_c h3) ?_
  iterate 2 refine pu rfl (by simp only [go_sem, Nat.reduceBEq]; try with_reducible rfl) ?_
  refine fs ?_
  refine sr (N' := 192) rfl ?_
  iterate 3 refine pu rfl (by simp only [go_sem, Nat.reduceBEq]; try with_reducible rfl) ?_
  refine fs ?_
  refine AWp.seqJ (fun s => ∃ (x_5 : List Int) (y_6 : List Int) (n_7 : Int), s = (⟨51, (fset (fset (fset (fun _ => AV.any) 5 (.sl (x_5.flatMap (ci .i64)) x_5.length false)) 6 (.sl (y_6.flatMap (ci .i64)) y_6.length false)) 7 (.v (.int .i64 n_7))), ⟨nofresh, 64⟩⟩ : St) ∧ refCmp_J1 x_5 y_6 n_7 = some r) ?_ ?_
  · refine sr (N' := 256) rfl ?_
    iterate 4 refine pu rfl (by simp only [go_sem, Nat.reduceBEq]; try with_reducible rfl) ?_
    refine fs ?_
    refine AWp.condM hm (by try simp only [go_sem, Nat.reduceBEq]; try rfl) (fun _ hm => ?_) (fun _ hm => ?_)
    · refine AWp.reg 64 (N' := 320) rfl ?_
      iterate 3 refine pu rfl (by simp only [go_sem, Nat.reduceBEq]; try with_reducible rfl) ?_
      refine ARun.fin ?_
      refine normJ ?_
      refine ⟨_, ?_, r2, r4, (r4.length : Int), rfl, hm⟩
      exact le_canon id (wk_fset _ _ (wk_data (by try simp only [go_sem, Nat.reduceBEq]; try rfl) (.v _)) (wk_fset _ _ (wk_data (by try simp only [go_sem, Nat.reduceBEq]; try rfl) ((CFi .i64).sl _ _ _)) (wk_fset _ _ (wk_data (by try simp only [go_sem, Nat.reduceBEq]; try rfl) ((CFi .i64).sl _ _ _)) wk_none))) heapWk0
    · refine AWp.skip ?_
      refine normJ ?_
      refine ⟨_, ?_, r2, r4, (r2.length : Int), rfl, hm⟩
      exact le_canon id (wk_fset _ _ (wk_data (by try simp only [go_sem, Nat.reduceBEq]; try rfl) (.v _)) (wk_fset _ _ (wk_data (by try simp only [go_sem, Nat.reduceBEq]; try rfl) ((CFi .i64).sl _ _ _)) (wk_fset _ _ (wk_data (by try simp only [go_sem, Nat.reduceBEq]; try rfl) ((CFi .i64).sl _ _ _)) wk_none))) heapWk0
  · rintro s ⟨x_5, y_6, n_7, rfl, hm⟩
    unfold refCmp_J1 at hm
    refine AWp.seq' ?_
    refine sr (N' := 128) rfl ?_
    iterate 3 refine pu rfl (by simp only [go_sem, Nat.reduceBEq]; try with_reducible rfl) ?_
    refine fs ?_
    refine AWp.block ?_
    refine AWp.loopM (fun m s => ∃ (x_5 : List Int) (y_6 : List Int) (i_8 : Int), s = (⟨51, (fset (fset (fset (fun _ => AV.any) 5 (.sl (x_5.flatMap (ci .i64)) x_5.length false)) 6 (.sl (y_6.flatMap (ci .i64)) y_6.length false)) 8 (.v (.int .i64 i_8))), ⟨nofresh, 64⟩⟩ : St) ∧ refCmp_L1 m x_5 y_6 i_8 = some r) FUEL ?_ ?_ ?_
    · rintro s ⟨_, _, _, _, h⟩
      cases h
    · refine ⟨_, ?_, x_5, y_6, (IntKind.i64.wrap (n_7 - 1)), rfl, hm⟩
      exact le_canon id (wk_fset _ _ (wk_data (by try simp only [go_sem, Nat.reduceBEq]; try rfl) (.v _)) (wk_fset _ _ (wk_data (by try simp only [go_sem, Nat.reduceBEq]; try rfl) ((CFi .i64).sl _ _ _)) (wk_fset _ _ (wk_data (by try simp only [go_sem, Nat.reduceBEq]; try rfl) ((CFi .i64).sl _ _ _)) wk_none))) heapWk0
    · rintro n1 s ⟨x_5, y_6, i_8, rfl, hm⟩
      replace hm : refCmp_B1 (refCmp_L1 n1) x_5 y_6 i_8 = some r := hm
      unfold refCmp_B1 at hm
      refine AWp.seq' ?_
      refine sr (N' := 128) rfl ?_
      iterate 2 refine pu rfl (by simp only [go_sem, Nat.reduceBEq]; try with_reducible rfl) ?_
      refine fs ?_
      refine AWp.condM hm (by try simp only [go_sem, Nat.reduceBEq]; try rfl) (fun _ hm => ?_) (fun _ hm => ?_)
      · refine AWp.skip ?_
        refine normSeq ?_
        refine AWp.seqJ (fun s => ∃ (x_5 : List Int) (y_6 : List Int) (i_8 : Int), s = (⟨51, (fset (fset (fset (fun _ => AV.any) 5 (.sl (x_5.flatMap (ci .i64)) x_5.length false)) 6 (.sl (y_6.flatMap (ci .i64)) y_6.length false)) 8 (.v (.int .i64 i_8))), ⟨nofresh, 64⟩⟩ : St) ∧ refCmp_J2 (refCmp_L1 n1) x_5 y_6 i_8 = some r) ?_ ?_
        · refine AWp.block ?_
          refine sr (N' := 192) rfl ?_
          iterate 2 refine pu rfl (by simp only [go_sem, Nat.reduceBEq]; try with_reducible rfl) ?_
          refine fs ?_
          refine AWp.seqJ (fun s => ∃ (x_5 : List Int) (y_6 : List Int) (i_8 : Int) (p_9 : Int) (q_10 : Int), s = (⟨51, (fset (fset (fset (fset (fset (fun _ => AV.any) 5 (.sl (x_5.flatMap (ci .i64)) x_5.length false)) 6 (.sl (y_6.flatMap (ci .i64)) y_6.length false)) 8 (.v (.int .i64 i_8))) 9 (.v (.int .i64 p_9))) 10 (.v (.int .i64 q_10))), ⟨nofresh, 64⟩⟩ : St) ∧ refCmp_J3 (refCmp_L1 n1) x_5 y_6 i_8 p_9 q_10 = some r) ?_ ?_
          · refine sr (N' := 256) rfl ?_
            iterate 4 refine pu rfl (by simp only [go_sem, Nat.reduceBEq]; try with_reducible rfl) ?_
            refine fs ?_
            refine AWp.condM hm (by try simp only [go_sem, Nat.reduceBEq]; try rfl) (fun _ hm => ?_) (fun _ hm => ?_)
            · refine AWp.reg 64 (N' := 320) rfl ?_
              iterate 2 refine pu rfl (by simp only [go_sem, Nat.reduceBEq]; try with_reducible rfl) ?_
              obtain ⟨x8, h7, hm⟩ := bnd hm
              refine pu rfl (ap_idx (CFi .i64) (by decide) Try.underlying50 sz3 (by try simp only [go_sem, Nat.reduceBEq]; try rfl) rfl (by try simp only [go_sem, Nat.reduceBEq]; try rfl) h7) ?_
              iterate 2 refine pu rfl (by simp only [go_sem, Nat.reduceBEq]; try with_reducible rfl) ?_
              refine ARun.fin ?_
              refine normJ ?_
              refine ⟨_, ?_, x_5, y_6, i_8, x8, 0, rfl, hm⟩
              exact le_canon id (wk_fset _ _ (wk_data (by try simp only [go_sem, Nat.reduceBEq]; try rfl) (.v _)) (wk_fset _ _ (wk_data (by try simp only [go_sem, Nat.reduceBEq]; try rfl) (.v _)) (wk_fset _ _ (wk_data (by try simp only [go_sem, Nat.reduceBEq]; try rfl) (.v _)) (wk_fset _ _ (wk_data (by try simp only [go_sem, Nat.reduceBEq]; try rfl) ((CFi .i64).sl _ _ _)) (wk_fset _ _ (wk_data (by try simp only [go_sem, Nat.reduceBEq]; try rfl) ((CFi .i64).sl _ _ _)) wk_none))))) heapWk0
            · refine AWp.skip ?_
              refine normJ ?_
              refine ⟨_, ?_, x_5, y_6, i_8, 0, 0, rfl, hm⟩
              exact le_canon id (wk_fset _ _ (wk_data (by try simp only [go_sem, Nat.reduceBEq]; try rfl) (.v _)) (wk_fset _ _ (wk_data (by try simp only [go_sem, Nat.reduceBEq]; try rfl) (.v _)) (wk_fset _ _ (wk_data (by try simp only [go_sem, Nat.reduceBEq]; try rfl) (.v _)) (wk_fset _ _ (wk_data (by try simp only [go_sem, Nat.reduceBEq]; try rfl) ((CFi .i64).sl _ _ _)) (wk_fset _ _ (wk_data (by try simp only [go_sem, Nat.reduceBEq]; try rfl) ((CFi .i64).sl _ _ _)) wk_none))))) heapWk0
          · rintro s ⟨x_5, y_6, i_8, p_9, q_10, rfl, hm⟩
            unfold refCmp_J3 at hm
            refine AWp.seqJ (fun s => ∃ (x_5 : List Int) (y_6 : List Int) (i_8 : Int) (p_9 : Int) (q_10 : Int), s = (⟨51, (fset (fset (fset (fset (fset (fun _ => AV.any) 5 (.sl (x_5.flatMap (ci .i64)) x_5.length false)) 6 (.sl (y_6.flatMap (ci .i64)) y_6.length false)) 8 (.v (.int .i64 i_8))) 9 (.v (.int .i64 p_9))) 10 (.v (.int .i64 q_10))), ⟨nofresh, 64⟩⟩ : St) ∧ refCmp_J4 (refCmp_L1 n1) x_5 y_6 i_8 p_9 q_10 = some r) ?_ ?_
            · refine sr (N' := 128) rfl ?_
              iterate 4 refine pu rfl (by simp only [go_sem, Nat.reduceBEq]; try with_reducible rfl) ?_
              refine fs ?_
              refine AWp.condM hm (by try simp only [go_sem, Nat.reduceBEq]; try rfl) (fun _ hm => ?_) (fun _ hm => ?_)
              · refine AWp.reg 64 (N' := 192) rfl ?_
                iterate 2 refine pu rfl (by simp only [go_sem, Nat.reduceBEq]; try with_reducible rfl) ?_
                obtain ⟨x6, h5, hm⟩ := bnd hm
                refine pu rfl (ap_idx (CFi .i64) (by decide) Try.underlying50 sz3 (by try simp only [go_sem, Nat.reduceBEq]; try rfl) rfl (by try simp only [go_sem, Nat.reduceBEq]; try rfl) h5) ?_
                iterate 2 refine pu rfl (by simp only [go_sem, Nat.reduceBEq]; try with_reducible rfl) ?_
                refine ARun.fin ?_
                refine normJ ?_
                refine ⟨_, ?_, x_5, y_6, i_8, p_9, x6, rfl, hm⟩
                exact le_canon id (wk_fset _ _ (wk_data (by try simp only [go_sem, Nat.reduceBEq]; try rfl) (.v _)) (wk_fset _ _ (wk_data (by try simp only [go_sem, Nat.reduceBEq]; try rfl) (.v _)) (wk_fset _ _ (wk_data (by try simp only [go_sem, Nat.reduceBEq]; try rfl) (.v _)) (wk_fset _ _ (wk_data (by try simp only [go_sem, Nat.reduceBEq]; try rfl) ((CFi .i64).sl _ _ _)) (wk_fset _ _ (wk_data (by try simp only [go_sem, Nat.reduceBEq]; try rfl) ((CFi .i64).sl _ _ _)) wk_none))))) heapWk0
              · refine AWp.skip ?_
                refine normJ ?_
                refine ⟨_, ?_, x_5, y_6, i_8, p_9, q_10, rfl, hm⟩
                exact le_canon id (wk_fset _ _ (wk_data (by try simp only [go_sem, Nat.reduceBEq]; try rfl) (.v _)) (wk_fset _ _ (wk_data (by try simp only [go_sem, Nat.reduceBEq]; try rfl) (.v _)) (wk_fset _ _ (wk_data (by try simp only [go_sem, Nat.reduceBEq]; try rfl) (.v _)) (wk_fset _ _ (wk_data (by try simp only [go_sem, Nat.reduceBEq]; try rfl) ((CFi .i64).sl _ _ _)) (wk_fset _ _ (wk_data (by try simp only [go_sem, Nat.reduceBEq]; try rfl) ((CFi .i64).sl _ _ _)) wk_none))))) heapWk0
            · rintro s ⟨x_5, y_6, i_8, p_9, q_10, rfl, hm⟩
              unfold refCmp_J4 at hm
              refine sr (N' := 128) rfl ?_
              iterate 3 refine pu rfl (by simp only [go_sem, Nat.reduceBEq]; try with_reducible rfl) ?_
              refine fs ?_
              refine AWp.condM hm (by try simp only [go_sem, Nat.reduceBEq]; try rfl) (fun _ hm => ?_) (fun _ hm => ?_)
              · refine sr (N' := 192) rfl ?_
                iterate 4 refine pu rfl (by simp only [go_sem, Nat.reduceBEq]; try with_reducible rfl) ?_
                refine fs ?_
                refine AWp.ret ?_
                refine retIn ?_
                refine retJ ?_
                refine retThen ?_
                refine retIn ?_
                refine retSeq ?_
                cases hm
                exact ret1D (.inr rfl) Try.results21 (td (by try simp only [go_sem, Nat.reduceBEq]; try rfl) (.v _))
              · refine AWp.skip ?_
                refine normIn ?_
                refine normJ ?_
                refine ⟨_, ?_, x_5, y_6, i_8, rfl, hm⟩
                exact le_canon id (wk_fset _ _ (wk_data (by try simp only [go_sem, Nat.reduceBEq]; try rfl) (.v _)) (wk_fset _ _ (wk_data (by try simp only [go_sem, Nat.reduceBEq]; try rfl) ((CFi .i64).sl _ _ _)) (wk_fset _ _ (wk_data (by try simp only [go_sem, Nat.reduceBEq]; try rfl) ((CFi .i64).sl _ _ _)) wk_none))) heapWk0
        · rintro s ⟨x_5, y_6, i_8, rfl, hm⟩
          unfold refCmp_J2 at hm
          refine AWp.reg 64 (N' := 128) rfl ?_
          iterate 3 refine pu rfl (by simp only [go_sem, Nat.reduceBEq]; try with_reducible rfl) ?_
          refine ARun.fin ?_
          refine normThen ?_
          refine ⟨_, ?_, x_5, y_6, (IntKind.i64.wrap (i_8 - 1)), rfl, hm⟩
          exact le_canon id (wk_fset _ _ (wk_data (by try simp only [go_sem, Nat.reduceBEq]; try rfl) (.v _)) (wk_fset _ _ (wk_data (by try simp only [go_sem, Nat.reduceBEq]; try rfl) ((CFi .i64).sl _ _ _)) (wk_fset _ _ (wk_data (by try simp only [go_sem, Nat.reduceBEq]; try rfl) ((CFi .i64).sl _ _ _)) wk_none))) heapWk0
      · refine AWp.exit ?_
        refine exitSeq ?_
        refine exitThen ?_
        refine exitHere ?_
        refine normSeq ?_
        refine sr (N' := 192) rfl ?_
        refine pu rfl (by simp only [go_sem, Nat.reduceBEq]; try with_reducible rfl) ?_
        refine fs ?_
        refine AWp.ret ?_
        cases hm
        exact ret1D (.inr rfl) Try.results21 (td (by try simp only [go_sem, Nat.reduceBEq]; try rfl) (.v _))
def refPow_B1 (rec1 : List Int → Int → List Int → Int → Option ((List Int) × Int)) (a_0 : List Int) (n_1 : Int) (out_6 : List Int) (i_7 : Int) : Option ((List Int) × Int) :=
  (bif (decide (i_7 < n_1)) then
    ((refMul_m out_6 a_0).bind fun r2 =>
    (bif (decide (64 < (r2.length : Int))) then
      some ([], 6)
    else
      rec1 a_0 n_1 r2 (IntKind.i64.wrap (i_7 + 1))))
  else
    some (out_6, 0))
def refPow_L1 : Nat → List Int → Int → List Int → Int → Option ((List Int) × Int)
  | 0 => fun _ _ _ _ => none
  | n + 1 => refPow_B1 (refPow_L1 n)
def refPow_m (a_0 : List Int) (n_1 : Int) : Option ((List Int) × Int) :=
  refPow_L1 FUEL a_0 n_1 [1] 0
theorem refPow_c {a_0 : List Int} {n_1 : Int} {r : (List Int) × Int} (hm : refPow_m a_0 n_1 = some r) : PureC Try.prog 24 [.sl (a_0.flatMap (ci .u32)) a_0.length false, .v (.int .i64 n_1)] (.tup [.sl (r.1.flatMap (ci .u32)) r.1.length false, .v (.int .i64 r.2)]) := by
  refine PureC.of_body Try.func24 rfl ?_
  simp only [Try.ntmps24, List.length_cons, List.length_nil, Nat.reduceAdd, Nat.reduceSub, empty_eq]
  unfold refPow_m at hm
  refine sr (N' := 64) rfl ?_
  iterate 2 refine pu rfl (by simp only [go_sem, Nat.reduceBEq]; try with_reducible rfl) ?_
  refine fs ?_
  refine sr (N' := 128) rfl ?_
  refine hp (id := 64) rfl rfl (ah_list (CFi .u32) (l := [1]) Try.underlying22 sz33 zc33 (by simp only [isFresh_upd, isFresh_no, Nat.reduceBEq, cond_true, cond_false]) (by decide) (by decide) (by decide) (by simp only [go_sem, Nat.reduceBEq]; try rfl) (by kernel_rfl)) ?_
  refine pu rfl (by simp only [go_sem, Nat.reduceBEq]; try with_reducible rfl) ?_
  refine fs ?_
  refine AWp.seq' ?_
  refine sr (N' := 192) rfl ?_
  refine pu rfl (by simp only [go_sem, Nat.reduceBEq]; try with_reducible rfl) ?_
  refine fs ?_
  refine AWp.block ?_
  refine AWp.loopM (fun m s => ∃ (a_0 : List Int) (n_1 : Int) (out_6 : List Int) (i_7 : Int), s = (⟨21, (fset (fset (fset (fset (fun _ => AV.any) 0 (.sl (a_0.flatMap (ci .u32)) a_0.length false)) 1 (.v (.int .i64 n_1))) 6 (.sl (out_6.flatMap (ci .u32)) out_6.length false)) 7 (.v (.int .i64 i_7))), ⟨nofresh, 64⟩⟩ : St) ∧ refPow_L1 m a_0 n_1 out_6 i_7 = some r) FUEL ?_ ?_ ?_
  · rintro s ⟨_, _, _, _, _, h⟩
    cases h
  · refine ⟨_, ?_, a_0, n_1, [1], 0, rfl, hm⟩
    refine St.Le.trans (le_lock (CFi .u32) 6 64 (by try simp only [go_sem, Nat.reduceBEq]; try rfl) (by simp only [upd_beq, Nat.reduceBEq, cond_true, cond_false]; try rfl) (by first | rfl | omega)) ?_
    exact le_canon id (wk_fset _ _ (wk_data (by try simp only [go_sem, Nat.reduceBEq]; try rfl) (.v _)) (wk_fset _ _ (wk_data (by try simp only [go_sem, Nat.reduceBEq]; try rfl) ((CFi .u32).sl _ _ _)) (wk_fset _ _ (wk_data (by try simp only [go_sem, Nat.reduceBEq]; try rfl) (.v _)) (wk_fset _ _ (wk_data (by try simp only [go_sem, Nat.reduceBEq]; try rfl) ((CFi .u32).sl _ _ _)) wk_none)))) heapWk0
  · rintro n1 s ⟨a_0, n_1, out_6, i_7, rfl, hm⟩
    replace hm : refPow_B1 (refPow_L1 n1) a_0 n_1 out_6 i_7 = some r := hm
    unfold refPow_B1 at hm
    refine AWp.seq' ?_
    refine sr (N' := 128) rfl ?_
    iterate 3 refine pu rfl (by simp only [go_sem, Nat.reduceBEq]; try with_reducible rfl) ?_
    refine fs ?_
    refine AWp.condM hm (by try simp only [go_sem, Nat.reduceBEq]; try rfl) (fun _ hm => ?_) (fun _ hm => ?_)
    · refine AWp.skip ?_
      refine normSeq ?_
      refine AWp.seq' ?_
      refine AWp.block ?_
      refine sr (N' := 192) rfl ?_
      iterate 2 refine pu rfl (by simp only [go_sem, Nat.reduceBEq]; try with_reducible rfl) ?_
      obtain ⟨r2, h1, hm⟩ := bnd hm
      refine ARun.callQ (r := .sl (r2.flatMap (ci .u32)) r2.length false) (by decide) (by try simp only [go_sem, Nat.reduceBEq]; try rfl) fb20 (fun H => (.cons (td (by try simp only [go_sem, Nat.reduceBEq]; try rfl) ((CFi .u32).sl _ _ _)) (.cons (td (by try simp only [go_sem, Nat.reduceBEq]; try rfl) ((CFi .u32).sl _ _ _)) .nil))) (refMul_c h1) ?_
      refine pu rfl (by simp only [go_sem, Nat.reduceBEq]; try with_reducible rfl) ?_
      refine fs ?_
      refine sr (N' := 256) rfl ?_
      iterate 3 refine pu rfl (by simp only [go_sem, Nat.reduceBEq]; try with_reducible rfl) ?_
      refine fs ?_
      refine AWp.condM hm (by try simp only [go_sem, Nat.reduceBEq]; try rfl) (fun _ hm => ?_) (fun _ hm => ?_)
      · refine sr (N' := 320) rfl ?_
        iterate 2 refine pu rfl (by simp only [go_sem, Nat.reduceBEq]; try with_reducible rfl) ?_
        refine fs ?_
        refine AWp.ret ?_
        refine retIn ?_
        refine retSeq ?_
        refine retThen ?_
        refine retIn ?_
        refine retSeq ?_
        cases hm
        exact ret2D (.inr rfl) Try.results24 (tdn (by try simp only [go_sem, Nat.reduceBEq]; try rfl)) (td (by try simp only [go_sem, Nat.reduceBEq]; try rfl) (.v _))
      · refine AWp.skip ?_
        refine normIn ?_
        refine normSeq ?_
        refine AWp.reg 64 (N' := 320) rfl ?_
        iterate 3 refine pu rfl (by simp only [go_sem, Nat.reduceBEq]; try with_reducible rfl) ?_
        refine ARun.fin ?_
        refine normThen ?_
        refine ⟨_, ?_, a_0, n_1, r2, (IntKind.i64.wrap (i_7 + 1)), rfl, hm⟩
        exact le_canon id (wk_fset _ _ (wk_data (by try simp only [go_sem, Nat.reduceBEq]; try rfl) (.v _)) (wk_fset _ _ (wk_data (by try simp only [go_sem, Nat.reduceBEq]; try rfl) ((CFi .u32).sl _ _ _)) (wk_fset _ _ (wk_data (by try simp only [go_sem, Nat.reduceBEq]; try rfl) (.v _)) (wk_fset _ _ (wk_data (by try simp only [go_sem, Nat.reduceBEq]; try rfl) ((CFi .u32).sl _ _ _)) wk_none)))) heapWk0
    · refine AWp.exit ?_
      refine exitSeq ?_
      refine exitThen ?_
      refine exitHere ?_
      refine normSeq ?_
      refine sr (N' := 192) rfl ?_
      iterate 3 refine pu rfl (by simp only [go_sem, Nat.reduceBEq]; try with_reducible rfl) ?_
      refine fs ?_
      refine AWp.ret ?_
      cases hm
      exact ret2D (.inr rfl) Try.results24 (td (by try simp only [go_sem, Nat.reduceBEq]; try rfl) ((CFi .u32).sl _ _ _)) (td (by try simp only [go_sem, Nat.reduceBEq]; try rfl) (.v _))
def natLong__B1 (rec1 : Int → Int → List Int → Int → Int → Option ((List Int))) (top_1 : Int) (fill_2 : Int) (out_7 : List Int) (t10 : Int) (t11 : Int) : Option ((List Int)) :=
  (bif (decide (t11 < t10)) then
    ((app out_7 [fill_2]).bind fun l2 =>
    rec1 top_1 fill_2 l2 t10 (IntKind.i64.wrap (t11 + 1)))
  else
    ((app out_7 [(bor .u32 top_1 1)]).bind fun l4 =>
    some l4))
def natLong__L1 : Nat → Int → Int → List Int → Int → Int → Option ((List Int))
  | 0 => fun _ _ _ _ _ => none
  | n + 1 => natLong__B1 (natLong__L1 n)
def natLong__m (n_0 : Int) (top_1 : Int) (fill_2 : Int) : Option ((List Int)) :=
  natLong__L1 FUEL top_1 fill_2 [] (IntKind.i64.wrap (Int.tmod n_0 64)) 0
theorem natLong__c {n_0 : Int} {top_1 : Int} {fill_2 : Int} {r : (List Int)} (hm : natLong__m n_0 top_1 fill_2 = some r) : PureC Try.prog 22 [.v (.int .u8 n_0), .v (.int .u32 top_1), .v (.int .u32 fill_2)] (.sl (r.flatMap (ci .u32)) r.length false) := by
  refine PureC.of_body Try.func22 rfl ?_
  simp only [Try.ntmps22, List.length_cons, List.length_nil, Nat.reduceAdd, Nat.reduceSub, empty_eq]
  unfold natLong__m at hm
  refine sr (N' := 64) rfl ?_
  refine pu rfl (by simp only [go_sem, Nat.reduceBEq]; try with_reducible rfl) ?_
  refine fs ?_
  refine sr (N' := 128) rfl ?_
  refine pu rfl (by simp only [go_sem, Nat.reduceBEq]; try with_reducible rfl) ?_
  refine fs ?_
  refine AWp.seq' ?_
  refine sr (N' := 192) rfl ?_
  iterate 4 refine pu rfl (by simp only [go_sem, Nat.reduceBEq, Int.reduceEq, Int.reduceLE]; try with_reducible rfl) ?_
  refine fs ?_
  refine AWp.block ?_
  refine AWp.loopM (fun m s => ∃ (top_1 : Int) (fill_2 : Int) (out_7 : List Int) (t10 : Int) (t11 : Int), s = (⟨23, (fset (fset (fset (fset (fset (fun _ => AV.any) 1 (.v (.int .u32 top_1))) 2 (.v (.int .u32 fill_2))) 7 (.own 1 0 out_7.length)) 10 (.v (.int .i64 t10))) 11 (.v (.int .i64 t11))), ⟨(upd nofresh 1 (.cells 1 (out_7.flatMap (ci .u32)) 0)), 64⟩⟩ : St) ∧ natLong__L1 m top_1 fill_2 out_7 t10 t11 = some r) FUEL ?_ ?_ ?_
  · rintro s ⟨_, _, _, _, _, _, h⟩
    cases h
  · refine ⟨_, ?_, top_1, fill_2, [], (IntKind.i64.wrap (Int.tmod n_0 64)), 0, rfl, hm⟩
    refine St.Le.trans (le_nil 7 900007 1 (by try simp only [go_sem, Nat.reduceBEq]; try rfl) (by simp only [isFresh_upd, isFresh_no, Nat.reduceBEq, cond_true, cond_false])) ?_
    exact le_canon (fun j => bif j == 1 then 900007 else 0) (wk_fset _ _ (wk_data (by try simp only [go_sem, Nat.reduceBEq]; try rfl) (.v _)) (wk_fset _ _ (wk_data (by try simp only [go_sem, Nat.reduceBEq]; try rfl) (.v _)) (wk_fset _ _ (wk_own (by try simp only [go_sem, Nat.reduceBEq]; try rfl) (by first | rfl | omega) rfl (by simp [upd])) (wk_fset _ _ (wk_data (by try simp only [go_sem, Nat.reduceBEq]; try rfl) (.v _)) (wk_fset _ _ (wk_data (by try simp only [go_sem, Nat.reduceBEq]; try rfl) (.v _)) wk_none))))) (heapWk_of _ (entWk_upd (ent_fm (CFi .u32) (by simp only [upd_beq, Nat.reduceBEq, cond_true, cond_false]; try rfl) rfl) entWk_none) (by repeat' (first | exact inj_none | exact liv_none | refine inj_upd ?_ ?_ | refine liv_upd ?_ ?_ | exact .inl rfl | exact .inr (by decide))))
  · rintro n1 s ⟨top_1, fill_2, out_7, t10, t11, rfl, hm⟩
    replace hm : natLong__B1 (natLong__L1 n1) top_1 fill_2 out_7 t10 t11 = some r := hm
    unfold natLong__B1 at hm
    refine sr (N' := 128) rfl ?_
    refine pu rfl (by simp only [go_sem, Nat.reduceBEq]; try with_reducible rfl) ?_
    refine fs ?_
    refine AWp.seq' ?_
    refine AWp.condM hm (by try simp only [go_sem, Nat.reduceBEq]; try rfl) (fun _ hm => ?_) (fun _ hm => ?_)
    · refine AWp.skip ?_
      refine normSeq ?_
      refine AWp.seq' ?_
      refine AWp.block ?_
      refine AWp.reg 64 (N' := 192) rfl ?_
      iterate 2 refine pu rfl (by simp only [go_sem, Nat.reduceBEq]; try with_reducible rfl) ?_
      refine hp (id := 130) rfl rfl (ah_list (CFi .u32) (l := [fill_2]) Try.underlying22 sz33 zc33 (by simp only [isFresh_upd, isFresh_no, Nat.reduceBEq, cond_true, cond_false]) (by decide) (by decide) (by decide) (by simp only [go_sem, Nat.reduceBEq]; try rfl) (by kernel_rfl)) ?_
      obtain ⟨l2, h1, hm⟩ := bnd hm
      refine hp (id := 131) rfl rfl (ah_app (CFi .u32) Try.underlying22 Try.underlying22 rfl in33 ts33 (by rw [tb33]; decide) (by rw [tb33]; decide) tz33 (by decide) (by decide) (by try simp only [go_sem, Nat.reduceBEq]; try rfl) (by simp only [upd_beq, Nat.reduceBEq, cond_true, cond_false]; try rfl) (by first | rfl | omega) (as_own (CFi .u32) (by try simp only [go_sem, Nat.reduceBEq]; try rfl) (by simp only [upd_beq, Nat.reduceBEq, cond_true, cond_false]; try rfl) (by first | rfl | omega)) rfl (by simp only [isFresh_upd, isFresh_no, Nat.reduceBEq, cond_true, cond_false]) h1) ?_
      refine pu rfl (by simp only [go_sem, Nat.reduceBEq]; try with_reducible rfl) ?_
      refine ARun.fin ?_
      refine normIn ?_
      refine normSeq ?_
      refine AWp.reg 64 (N' := 256) rfl ?_
      iterate 2 refine pu rfl (by simp only [go_sem, Nat.reduceBEq]; try with_reducible rfl) ?_
      refine ARun.fin ?_
      refine normThen ?_
      refine ⟨_, ?_, top_1, fill_2, l2, t10, (IntKind.i64.wrap (t11 + 1)), rfl, hm⟩
      exact le_canon (fun j => bif j == 1 then 131 else 0) (wk_fset _ _ (wk_data (by try simp only [go_sem, Nat.reduceBEq]; try rfl) (.v _)) (wk_fset _ _ (wk_data (by try simp only [go_sem, Nat.reduceBEq]; try rfl) (.v _)) (wk_fset _ _ (wk_own (by try simp only [go_sem, Nat.reduceBEq]; try rfl) (by first | rfl | omega) rfl (by simp [upd])) (wk_fset _ _ (wk_data (by try simp only [go_sem, Nat.reduceBEq]; try rfl) (.v _)) (wk_fset _ _ (wk_data (by try simp only [go_sem, Nat.reduceBEq]; try rfl) (.v _)) wk_none))))) (heapWk_of _ (entWk_upd (ent_fm (CFi .u32) (by simp only [upd_beq, Nat.reduceBEq, cond_true, cond_false]; try rfl) rfl) entWk_none) (by repeat' (first | exact inj_none | exact liv_none | refine inj_upd ?_ ?_ | refine liv_upd ?_ ?_ | exact .inl rfl | exact .inr (by decide))))
    · refine AWp.exit ?_
      refine exitSeq ?_
      refine exitThen ?_
      refine exitHere ?_
      refine normSeq ?_
      refine sr (N' := 192) rfl ?_
      iterate 3 refine pu rfl (by simp only [go_sem, Nat.reduceBEq]; try with_reducible rfl) ?_
      refine hp (id := 131) rfl rfl (ah_list (CFi .u32) (l := [(bor .u32 top_1 1)]) Try.underlying22 sz33 zc33 (by simp only [isFresh_upd, isFresh_no, Nat.reduceBEq, cond_true, cond_false]) (by decide) (by decide) (by decide) (by simp only [go_sem, Nat.reduceBEq]; try rfl) (by kernel_rfl)) ?_
      obtain ⟨l4, h3, hm⟩ := bnd hm
      refine hp (id := 132) rfl rfl (ah_app (CFi .u32) Try.underlying22 Try.underlying22 rfl in33 ts33 (by rw [tb33]; decide) (by rw [tb33]; decide) tz33 (by decide) (by decide) (by try simp only [go_sem, Nat.reduceBEq]; try rfl) (by simp only [upd_beq, Nat.reduceBEq, cond_true, cond_false]; try rfl) (by first | rfl | omega) (as_own (CFi .u32) (by try simp only [go_sem, Nat.reduceBEq]; try rfl) (by simp only [upd_beq, Nat.reduceBEq, cond_true, cond_false]; try rfl) (by first | rfl | omega)) rfl (by simp only [isFresh_upd, isFresh_no, Nat.reduceBEq, cond_true, cond_false]) h3) ?_
      refine pu rfl (by simp only [go_sem, Nat.reduceBEq]; try with_reducible rfl) ?_
      refine fs ?_
      refine AWp.ret ?_
      cases hm
      exact ret1D (.inr rfl) Try.results22 (tdo (CFi .u32) (by try simp only [go_sem, Nat.reduceBEq]; try rfl) (by simp only [upd_beq, Nat.reduceBEq, cond_true, cond_false]; try rfl) (by first | rfl | omega))
def natTold_m (a_0 : List Int) (e_1 : Int) (b_2 : List Int) : Option (Bool) :=
  (bif (decide (64 < (b_2.length : Int))) then
    some (((a_0.length : Int) == 0) && (e_1 == 6))
  else
    ((refSame_m a_0 b_2).bind fun r2 =>
    some (r2 && (e_1 == 0))))
theorem natTold_c {a_0 : List Int} {e_1 : Int} {b_2 : List Int} {r : Bool} (hm : natTold_m a_0 e_1 b_2 = some r) : PureC Try.prog 19 [.sl (a_0.flatMap (ci .u32)) a_0.length false, .v (.int .i64 e_1), .sl (b_2.flatMap (ci .u32)) b_2.length false] (.v (.bool r)) := by
  refine PureC.of_body Try.func19 rfl ?_
  simp only [Try.ntmps19, List.length_cons, List.length_nil, Nat.reduceAdd, Nat.reduceSub, empty_eq]
  unfold natTold_m at hm
  refine sr (N' := 64) rfl ?_
  refine pu rfl (by simp only [go_sem, Nat.reduceBEq]; try with_reducible rfl) ?_
  refine fs ?_
  refine AWp.seq' ?_
  refine sr (N' := 128) rfl ?_
  iterate 3 refine pu rfl (by simp only [go_sem, Nat.reduceBEq]; try with_reducible rfl) ?_
  refine fs ?_
  refine AWp.condM hm (by try simp only [go_sem, Nat.reduceBEq]; try rfl) (fun _ hm => ?_) (fun _ hm => ?_)
  · refine sr (N' := 192) rfl ?_
    iterate 8 (first | refine pu rfl (by simp only [go_sem, Nat.reduceBEq]; try with_reducible rfl) ?_ | refine pg rfl rfl (by simp only [go_sem, Nat.reduceBEq]; try with_reducible rfl) (by intro hb; simp only [go_sem, Nat.reduceBEq, hb, Bool.true_and]; try with_reducible rfl) ?_)
    refine fs ?_
    refine AWp.ret ?_
    refine retSeq ?_
    cases hm
    exact ret1D (.inr rfl) Try.results19 (td (by try simp only [go_sem, Nat.reduceBEq]; try rfl) (.v _))
  · refine AWp.skip ?_
    refine normSeq ?_
    refine sr (N' := 192) rfl ?_
    iterate 2 refine pu rfl (by simp only [go_sem, Nat.reduceBEq]; try with_reducible rfl) ?_
    obtain ⟨r2, h1, hm⟩ := bnd hm
    refine ARun.callQ (r := .v (.bool r2)) (by decide) (by try simp only [go_sem, Nat.reduceBEq]; try rfl) fb16 (fun H => (.cons (td (by try simp only [go_sem, Nat.reduceBEq]; try rfl) ((CFi .u32).sl _ _ _)) (.cons (td (by try simp only [go_sem, Nat.reduceBEq]; try rfl) ((CFi .u32).sl _ _ _)) .nil))) (refSame_c h1) ?_
    iterate 5 (first | refine pu rfl (by simp only [go_sem, Nat.reduceBEq]; try with_reducible rfl) ?_ | refine pg rfl rfl (by simp only [go_sem, Nat.reduceBEq]; try with_reducible rfl) (by intro hb; simp only [go_sem, Nat.reduceBEq, hb, Bool.true_and]; try with_reducible rfl) ?_)
    refine fs ?_
    refine AWp.ret ?_
    cases hm
    exact ret1D (.inr rfl) Try.results19 (td (by try simp only [go_sem, Nat.reduceBEq]; try rfl) (.v _))
def natAwake_m : Option (Bool) :=
  ((natOf_m 2).bind fun r2 =>
  ((natPow_m r2 32).bind fun ⟨r4, r5⟩ =>
  ((natOf_m 18446744073709551615).bind fun r7 =>
  ((natOf_m 18446744073709551615).bind fun r9 =>
  ((natMul_m r7 r9).bind fun ⟨r11, r12⟩ =>
  ((natOf_m 1).bind fun r14 =>
  ((natAdd_m r11 r14).bind fun ⟨r16, r17⟩ =>
  ((natAdd_m [0] []).bind fun ⟨r19, r20⟩ =>
  ((natOf_m 9223372036854775808).bind fun r22 =>
  ((natPow_m r22 1024).bind fun ⟨r24, r25⟩ =>
  ((refSame_m r4 [0, 1]).bind fun r27 =>
  (bif (r27 && (r5 == 0)) then
    ((refSame_m r11 [1, 0, 4294967294, 4294967295]).bind fun r30 =>
    ((gopt (((r30 && (r12 == 0)) && (r17 == 0)) == true) 0 (natCmp_m r11 r16)).bind fun r32 =>
    ((gopt ((bif (((((r30 && (r12 == 0)) && (r17 == 0)) && (r32 == (-1))) && (r20 == 1)) && (r25 == 6)) then true else false) == true) false (natRight_m [])).bind fun r34 =>
    (bif ((bif (((((r30 && (r12 == 0)) && (r17 == 0)) && (r32 == (-1))) && (r20 == 1)) && (r25 == 6)) then true else false) && r34) then
      ((natRight_m [0]).bind fun r37 =>
      some (!r37))
    else
      some false))))
  else
    some false))))))))))))
theorem natAwake_c {r : Bool} (hm : natAwake_m = some r) : PureC Try.prog 10 [] (.v (.bool r)) := by
  refine PureC.of_body Try.func10 rfl ?_
  simp only [Try.ntmps10, List.length_cons, List.length_nil, Nat.reduceAdd, Nat.reduceSub, empty_eq]
  unfold natAwake_m at hm
  refine sr (N' := 64) rfl ?_
  refine pu rfl (by simp only [go_sem, Nat.reduceBEq]; try with_reducible rfl) ?_
  refine fs ?_
  refine sr (N' := 128) rfl ?_
  obtain ⟨r2, h1, hm⟩ := bnd hm
  refine ARun.callQ (r := .sl (r2.flatMap (ci .u32)) r2.length false) (by decide) (by try simp only [go_sem, Nat.reduceBEq]; try rfl) fb17 (fun H => (.cons (td (by try simp only [go_sem, Nat.reduceBEq]; try rfl) (.v _)) .nil)) (natOf_c h1) ?_
  obtain ⟨⟨r4, r5⟩, h3, hm⟩ := bnd hm
  refine ARun.callQ (r := .tup [.sl (r4.flatMap (ci .u32)) r4.length false, .v (.int .i64 r5)]) (by decide) (by try simp only [go_sem, Nat.reduceBEq]; try rfl) fb23 (fun H => (.cons (td (by try simp only [go_sem, Nat.reduceBEq]; try rfl) ((CFi .u32).sl _ _ _)) (.cons (td (by try simp only [go_sem, Nat.reduceBEq]; try rfl) (.v _)) .nil))) (natPow_c h3) ?_
  iterate 5 refine pu rfl (by simp only [go_sem, Nat.reduceBEq]; try with_reducible rfl) ?_
  refine fs ?_
  refine sr (N' := 192) rfl ?_
  obtain ⟨r7, h6, hm⟩ := bnd hm
  refine ARun.callQ (r := .sl (r7.flatMap (ci .u32)) r7.length false) (by decide) (by try simp only [go_sem, Nat.reduceBEq]; try rfl) fb17 (fun H => (.cons (td (by try simp only [go_sem, Nat.reduceBEq]; try rfl) (.v _)) .nil)) (natOf_c h6) ?_
  obtain ⟨r9, h8, hm⟩ := bnd hm
  refine ARun.callQ (r := .sl (r9.flatMap (ci .u32)) r9.length false) (by decide) (by try simp only [go_sem, Nat.reduceBEq]; try rfl) fb17 (fun H => (.cons (td (by try simp only [go_sem, Nat.reduceBEq]; try rfl) (.v _)) .nil)) (natOf_c h8) ?_
  obtain ⟨⟨r11, r12⟩, h10, hm⟩ := bnd hm
  refine ARun.callQ (r := .tup [.sl (r11.flatMap (ci .u32)) r11.length false, .v (.int .i64 r12)]) (by decide) (by try simp only [go_sem, Nat.reduceBEq]; try rfl) fb12 (fun H => (.cons (td (by try simp only [go_sem, Nat.reduceBEq]; try rfl) ((CFi .u32).sl _ _ _)) (.cons (td (by try simp only [go_sem, Nat.reduceBEq]; try rfl) ((CFi .u32).sl _ _ _)) .nil))) (natMul_c h10) ?_
  iterate 5 refine pu rfl (by simp only [go_sem, Nat.reduceBEq]; try with_reducible rfl) ?_
  refine fs ?_
  refine sr (N' := 256) rfl ?_
  refine pu rfl (by simp only [go_sem, Nat.reduceBEq]; try with_reducible rfl) ?_
  obtain ⟨r14, h13, hm⟩ := bnd hm
  refine ARun.callQ (r := .sl (r14.flatMap (ci .u32)) r14.length false) (by decide) (by try simp only [go_sem, Nat.reduceBEq]; try rfl) fb17 (fun H => (.cons (td (by try simp only [go_sem, Nat.reduceBEq]; try rfl) (.v _)) .nil)) (natOf_c h13) ?_
  obtain ⟨⟨r16, r17⟩, h15, hm⟩ := bnd hm
  refine ARun.callQ (r := .tup [.sl (r16.flatMap (ci .u32)) r16.length false, .v (.int .i64 r17)]) (by decide) (by try simp only [go_sem, Nat.reduceBEq]; try rfl) fb11 (fun H => (.cons (td (by try simp only [go_sem, Nat.reduceBEq]; try rfl) ((CFi .u32).sl _ _ _)) (.cons (td (by try simp only [go_sem, Nat.reduceBEq]; try rfl) ((CFi .u32).sl _ _ _)) .nil))) (natAdd_c h15) ?_
  iterate 5 refine pu rfl (by simp only [go_sem, Nat.reduceBEq]; try with_reducible rfl) ?_
  refine fs ?_
  refine sr (N' := 320) rfl ?_
  refine hp (id := 256) rfl rfl (ah_list (CFi .u32) (l := [0]) Try.underlying22 sz33 zc33 (by simp only [isFresh_upd, isFresh_no, Nat.reduceBEq, cond_true, cond_false]) (by decide) (by decide) (by decide) (by simp only [go_sem, Nat.reduceBEq]; try rfl) (by kernel_rfl)) ?_
  obtain ⟨⟨r19, r20⟩, h18, hm⟩ := bnd hm
  refine ARun.callL1 (r := .tup [.sl (r19.flatMap (ci .u32)) r19.length false, .v (.int .i64 r20)]) (id := 256) (by decide) (by try simp only [go_sem, Nat.reduceBEq]; try rfl) fb11 (by simp only [upd_beq, Nat.reduceBEq, cond_true, cond_false]; try rfl) (.cons (tdl (CFi .u32) (by try simp only [go_sem, Nat.reduceBEq]; try rfl) (by simp only [upd_beq, Nat.reduceBEq, cond_true, cond_false]; try rfl) (by simp) (by first | rfl | omega)) (.cons (tdn (by try simp only [go_sem, Nat.reduceBEq]; try rfl)) .nil)) (natAdd_c h18) ?_
  iterate 5 refine pu rfl (by simp only [go_sem, Nat.reduceBEq]; try with_reducible rfl) ?_
  refine fs ?_
  refine sr (N' := 384) rfl ?_
  obtain ⟨r22, h21, hm⟩ := bnd hm
  refine ARun.callQ (r := .sl (r22.flatMap (ci .u32)) r22.length false) (by decide) (by try simp only [go_sem, Nat.reduceBEq]; try rfl) fb17 (fun H => (.cons (td (by try simp only [go_sem, Nat.reduceBEq]; try rfl) (.v _)) .nil)) (natOf_c h21) ?_
  obtain ⟨⟨r24, r25⟩, h23, hm⟩ := bnd hm
  refine ARun.callQ (r := .tup [.sl (r24.flatMap (ci .u32)) r24.length false, .v (.int .i64 r25)]) (by decide) (by try simp only [go_sem, Nat.reduceBEq]; try rfl) fb23 (fun H => (.cons (td (by try simp only [go_sem, Nat.reduceBEq]; try rfl) ((CFi .u32).sl _ _ _)) (.cons (td (by try simp only [go_sem, Nat.reduceBEq]; try rfl) (.v _)) .nil))) (natPow_c h23) ?_
  iterate 5 refine pu rfl (by simp only [go_sem, Nat.reduceBEq]; try with_reducible rfl) ?_
  refine fs ?_
  refine sr (N' := 448) rfl ?_
  refine pu rfl (by simp only [go_sem, Nat.reduceBEq]; try with_reducible rfl) ?_
  refine hp (id := 385) rfl rfl (ah_list (CFi .u32) (l := [0, 1]) Try.underlying22 sz33 zc33 (by simp only [isFresh_upd, isFresh_no, Nat.reduceBEq, cond_true, cond_false]) (by decide) (by decide) (by decide) (by simp only [go_sem, Nat.reduceBEq]; try rfl) (by kernel_rfl)) ?_
  obtain ⟨r27, h26, hm⟩ := bnd hm
  refine ARun.callB (r := .v (.bool r27)) (by decide) (by try simp only [go_sem, Nat.reduceBEq]; try rfl) fb16 (.cons (ltd fun H => (td (by try simp only [go_sem, Nat.reduceBEq]; try rfl) ((CFi .u32).sl _ _ _))) (.cons (lto (CFi .u32) (by try simp only [go_sem, Nat.reduceBEq]; try rfl) (by simp only [upd_beq, Nat.reduceBEq, cond_true, cond_false]; try rfl) (by first | rfl | omega)) Lent.nil)) scal1 (refSame_c h26) ?_
  iterate 6 (first | refine pu rfl (by simp only [go_sem, Nat.reduceBEq]; try with_reducible rfl) ?_ | refine pg rfl rfl (by simp only [go_sem, Nat.reduceBEq]; try with_reducible rfl) (by intro hb; simp only [go_sem, Nat.reduceBEq, hb, Bool.true_and]; try with_reducible rfl) ?_)
  refine split_m hm (fun h28 hm => ?_) (fun h28 hm => ?_)
  · refine ARun.heapG (by decide) rfl (by simp only [go_sem, Nat.reduceBEq, h28]; try with_reducible rfl) (id := 393) rfl (ah_list (CFi .u32) (l := [1, 0, 4294967294, 4294967295]) Try.underlying22 sz33 zc33 (by simp only [isFresh_upd, isFresh_no, Nat.reduceBEq, cond_true, cond_false]) (by decide) (by decide) (by decide) (by simp only [go_sem, Nat.reduceBEq, h28]; try rfl) (by kernel_rfl)) ?_
    obtain ⟨r30, h29, hm⟩ := bnd hm
    refine ARun.callBG (r := .v (.bool r30)) (by decide) rfl (by simp only [go_sem, Nat.reduceBEq, h28]; try with_reducible rfl) (by try simp only [go_sem, Nat.reduceBEq, h28]; try rfl) fb16 (fun hb => (.cons (ltd fun H => (td (by try simp only [go_sem, Nat.reduceBEq, h28]; try rfl) ((CFi .u32).sl _ _ _))) (.cons (lto (CFi .u32) (by try simp only [go_sem, Nat.reduceBEq, h28]; try rfl) (by simp only [upd_beq, Nat.reduceBEq, cond_true, cond_false]; try rfl) (by first | rfl | omega)) Lent.nil))) scal1 (fun hb => refSame_c h29) ?_
    iterate 12 (first | refine pu rfl (by simp only [go_sem, Nat.reduceBEq, h28]; try with_reducible rfl) ?_ | refine pg rfl rfl (by simp only [go_sem, Nat.reduceBEq, h28]; try with_reducible rfl) (by intro hb; simp only [go_sem, Nat.reduceBEq, h28, hb, Bool.true_and]; try with_reducible rfl) ?_)
    obtain ⟨r32, h31, hm⟩ := bnd hm
    refine ARun.callQG (r := .v (.int .i64 r32)) (by decide) rfl (by simp only [go_sem, Nat.reduceBEq, h28]; try with_reducible rfl) (by try simp only [go_sem, Nat.reduceBEq, h28]; try rfl) fb13 (fun hb H => (.cons (td (by try simp only [go_sem, Nat.reduceBEq, h28, hb, Bool.true_and]; try rfl) ((CFi .u32).sl _ _ _)) (.cons (td (by try simp only [go_sem, Nat.reduceBEq, h28, hb, Bool.true_and]; try rfl) ((CFi .u32).sl _ _ _)) .nil))) (fun hb => natCmp_c (gopt_t h31 hb)) ?_
    iterate 13 (first | refine pu rfl (by simp only [go_sem, Nat.reduceBEq, h28]; try with_reducible rfl) ?_ | refine pg rfl rfl (by simp only [go_sem, Nat.reduceBEq, h28]; try with_reducible rfl) (by intro hb; simp only [go_sem, Nat.reduceBEq, h28, hb, Bool.true_and]; try with_reducible rfl) ?_)
    obtain ⟨r34, h33, hm⟩ := bnd hm
    refine ARun.callQG (r := .v (.bool r34)) (by decide) rfl (by simp only [go_sem, Nat.reduceBEq, h28]; try with_reducible rfl) (by try simp only [go_sem, Nat.reduceBEq, h28]; try rfl) fb15 (fun hb H => (.cons (tdn (by try simp only [go_sem, Nat.reduceBEq, h28, hb, Bool.true_and]; try rfl)) .nil)) (fun hb => natRight_c (gopt_t h33 hb)) ?_
    iterate 2 refine pu rfl (by simp only [go_sem, Nat.reduceBEq, h28]; try with_reducible rfl) ?_
    refine split_m hm (fun h35 hm => ?_) (fun h35 hm => ?_)
    · refine ARun.heapG (by decide) rfl (by simp only [go_sem, Nat.reduceBEq, h28, h35]; try with_reducible rfl) (id := 424) rfl (ah_list (CFi .u32) (l := [0]) Try.underlying22 sz33 zc33 (by simp only [isFresh_upd, isFresh_no, Nat.reduceBEq, cond_true, cond_false]) (by decide) (by decide) (by decide) (by simp only [go_sem, Nat.reduceBEq, h28, h35]; try rfl) (by kernel_rfl)) ?_
      obtain ⟨r37, h36, hm⟩ := bnd hm
      refine ARun.callBG (r := .v (.bool r37)) (by decide) rfl (by simp only [go_sem, Nat.reduceBEq, h28, h35]; try with_reducible rfl) (by try simp only [go_sem, Nat.reduceBEq, h28, h35]; try rfl) fb15 (fun hb => (.cons (lto (CFi .u32) (by try simp only [go_sem, Nat.reduceBEq, h28, h35]; try rfl) (by simp only [upd_beq, Nat.reduceBEq, cond_true, cond_false]; try rfl) (by first | rfl | omega)) Lent.nil)) scal1 (fun hb => natRight_c h36) ?_
      iterate 3 (first | refine pu rfl (by simp only [go_sem, Nat.reduceBEq, h28, h35]; try with_reducible rfl) ?_ | refine pg rfl rfl (by simp only [go_sem, Nat.reduceBEq, h28, h35]; try with_reducible rfl) (by intro hb; simp only [go_sem, Nat.reduceBEq, h28, h35, hb, Bool.true_and]; try with_reducible rfl) ?_)
      refine fs ?_
      refine AWp.ret ?_
      cases hm
      exact ret1D (.inr rfl) Try.results10 (td (by try simp only [go_sem, Nat.reduceBEq]; try rfl) (.v _))
    · refine ARun.skipG (by decide) rfl (by simp only [go_sem, Nat.reduceBEq, h28, h35]; try with_reducible rfl) ?_
      refine ARun.skipG (by decide) rfl (by simp only [go_sem, Nat.reduceBEq, h28, h35]; try with_reducible rfl) ?_
      refine ARun.skipG (by decide) rfl (by simp only [go_sem, Nat.reduceBEq, h28, h35]; try with_reducible rfl) ?_
      iterate 2 refine pu rfl (by simp only [go_sem, Nat.reduceBEq, h28, h35]; try with_reducible rfl) ?_
      refine fs ?_
      refine AWp.ret ?_
      cases hm
      exact ret1D (.inr rfl) Try.results10 (td (by try simp only [go_sem, Nat.reduceBEq]; try rfl) (.v _))
  · refine ARun.skipG (by decide) rfl (by simp only [go_sem, Nat.reduceBEq, h28]; try with_reducible rfl) ?_
    refine ARun.skipG (by decide) rfl (by simp only [go_sem, Nat.reduceBEq, h28]; try with_reducible rfl) ?_
    iterate 2 refine pu rfl (by simp only [go_sem, Nat.reduceBEq, h28]; try with_reducible rfl) ?_
    refine ARun.skipG (by decide) rfl (by simp only [go_sem, Nat.reduceBEq, h28]; try with_reducible rfl) ?_
    refine ARun.skipG (by decide) rfl (by simp only [go_sem, Nat.reduceBEq, h28]; try with_reducible rfl) ?_
    iterate 2 refine pu rfl (by simp only [go_sem, Nat.reduceBEq, h28]; try with_reducible rfl) ?_
    refine ARun.skipG (by decide) rfl (by simp only [go_sem, Nat.reduceBEq, h28]; try with_reducible rfl) ?_
    refine ARun.skipG (by decide) rfl (by simp only [go_sem, Nat.reduceBEq, h28]; try with_reducible rfl) ?_
    iterate 2 refine pu rfl (by simp only [go_sem, Nat.reduceBEq, h28]; try with_reducible rfl) ?_
    refine ARun.skipG (by decide) rfl (by simp only [go_sem, Nat.reduceBEq, h28]; try with_reducible rfl) ?_
    refine ARun.skipG (by decide) rfl (by simp only [go_sem, Nat.reduceBEq, h28]; try with_reducible rfl) ?_
    refine ARun.skipG (by decide) rfl (by simp only [go_sem, Nat.reduceBEq, h28]; try with_reducible rfl) ?_
    refine ARun.skipG (by decide) rfl (by simp only [go_sem, Nat.reduceBEq, h28]; try with_reducible rfl) ?_
    iterate 2 refine pu rfl (by simp only [go_sem, Nat.reduceBEq, h28]; try with_reducible rfl) ?_
    refine ARun.skipG (by decide) rfl (by simp only [go_sem, Nat.reduceBEq, h28]; try with_reducible rfl) ?_
    refine ARun.skipG (by decide) rfl (by simp only [go_sem, Nat.reduceBEq, h28]; try with_reducible rfl) ?_
    iterate 2 refine pu rfl (by simp only [go_sem, Nat.reduceBEq, h28]; try with_reducible rfl) ?_
    refine ARun.skipG (by decide) rfl (by simp only [go_sem, Nat.reduceBEq, h28]; try with_reducible rfl) ?_
    refine ARun.skipG (by decide) rfl (by simp only [go_sem, Nat.reduceBEq, h28]; try with_reducible rfl) ?_
    iterate 4 refine pu rfl (by simp only [go_sem, Nat.reduceBEq, h28]; try with_reducible rfl) ?_
    refine ARun.skipG (by decide) rfl (by simp only [go_sem, Nat.reduceBEq, h28]; try with_reducible rfl) ?_
    iterate 2 refine pu rfl (by simp only [go_sem, Nat.reduceBEq, h28]; try with_reducible rfl) ?_
    refine ARun.skipG (by decide) rfl (by simp only [go_sem, Nat.reduceBEq, h28]; try with_reducible rfl) ?_
    refine ARun.skipG (by decide) rfl (by simp only [go_sem, Nat.reduceBEq, h28]; try with_reducible rfl) ?_
    refine ARun.skipG (by decide) rfl (by simp only [go_sem, Nat.reduceBEq, h28]; try with_reducible rfl) ?_
    iterate 2 refine pu rfl (by simp only [go_sem, Nat.reduceBEq, h28]; try with_reducible rfl) ?_
    refine fs ?_
    refine AWp.ret ?_
    cases hm
    exact ret1D (.inr rfl) Try.results10 (td (by try simp only [go_sem, Nat.reduceBEq]; try rfl) (.v _))
def NatTells_m (a_0 : List Int) (b_1 : List Int) (n_2 : Int) : Option (Bool) :=
  (bif ((decide (24 < (a_0.length : Int))) || (decide (24 < (b_1.length : Int)))) then
    ((natAwake_m ).bind fun r2 =>
    some r2)
  else
    ((natAdd_m a_0 b_1).bind fun ⟨r4, r5⟩ =>
    ((natMul_m a_0 b_1).bind fun ⟨r7, r8⟩ =>
    ((natCmp_m a_0 b_1).bind fun r10 =>
    ((refRight_m a_0).bind fun r12 =>
    ((refRight_m b_1).bind fun r14 =>
    ((natRight_m a_0).bind fun r16 =>
    ((gopt ((!(r16 == r12)) == false) [] (natOf_m n_2)).bind fun r18 =>
    (bif (!(r16 == r12)) then
      some false
    else
      ((refAdd_m [(IntKind.u32.wrap n_2)] [0, (IntKind.u32.wrap (shr .u64 n_2 32))]).bind fun r21 =>
      ((refSame_m r18 r21).bind fun r23 =>
      (bif (!r23) then
        some false
      else
        (bif ((!r12) || (!r14)) then
          ((gopt ((((((IntKind.i64.wrap ((r4.length : Int) + (r7.length : Int))) == 0) && (r5 == 1)) && (r8 == 1)) && (r10 == 0)) == true) false (natAwake_m )).bind fun r25 =>
          some ((((((IntKind.i64.wrap ((r4.length : Int) + (r7.length : Int))) == 0) && (r5 == 1)) && (r8 == 1)) && (r10 == 0)) && r25))
        else
          ((refAdd_m a_0 b_1).bind fun r27 =>
          ((natTold_m r4 r5 r27).bind fun r29 =>
          ((gopt (r29 == true) [] (refMul_m a_0 b_1)).bind fun r31 =>
          ((gopt (r29 == true) false (natTold_m r7 r8 r31)).bind fun r33 =>
          ((gopt ((r29 && r33) == true) 0 (refCmp_m a_0 b_1)).bind fun r35 =>
          ((gopt (((r29 && r33) && (r10 == r35)) == true) false (natAwake_m )).bind fun r37 =>
          some (((r29 && r33) && (r10 == r35)) && r37))))))))))))))))))))
theorem NatTells_c {a_0 : List Int} {b_1 : List Int} {n_2 : Int} {r : Bool} (hm : NatTells_m a_0 b_1 n_2 = some r) : PureC Try.prog 3 [.sl (a_0.flatMap (ci .u32)) a_0.length false, .sl (b_1.flatMap (ci .u32)) b_1.length false, .v (.int .u64 n_2)] (.v (.bool r)) := by
  refine PureC.of_body Try.func3 rfl ?_
  simp only [Try.ntmps3, List.length_cons, List.length_nil, Nat.reduceAdd, Nat.reduceSub, empty_eq]
  unfold NatTells_m at hm
  refine sr (N' := 64) rfl ?_
  refine pu rfl (by simp only [go_sem, Nat.reduceBEq]; try with_reducible rfl) ?_
  refine fs ?_
  refine AWp.seq' ?_
  refine sr (N' := 128) rfl ?_
  iterate 8 (first | refine pu rfl (by simp only [go_sem, Nat.reduceBEq]; try with_reducible rfl) ?_ | refine pg rfl rfl (by simp only [go_sem, Nat.reduceBEq]; try with_reducible rfl) (by intro hb; simp only [go_sem, Nat.reduceBEq, hb, Bool.true_and]; try with_reducible rfl) ?_)
  refine fs ?_
  refine AWp.condM hm (by try simp only [go_sem, Nat.reduceBEq]; try rfl) (fun _ hm => ?_) (fun _ hm => ?_)
  · refine sr (N' := 192) rfl ?_
    obtain ⟨r2, h1, hm⟩ := bnd hm
    refine ARun.callQ (r := .v (.bool r2)) (by decide) (by try simp only [go_sem, Nat.reduceBEq]; try rfl) fb10 (fun H => .nil) (natAwake_c h1) ?_
    refine pu rfl (by simp only [go_sem, Nat.reduceBEq]; try with_reducible rfl) ?_
    refine fs ?_
    refine AWp.ret ?_
    refine retSeq ?_
    cases hm
    exact ret1D (.inr rfl) Try.results3 (td (by try simp only [go_sem, Nat.reduceBEq]; try rfl) (.v _))
  · refine AWp.skip ?_
    refine normSeq ?_
    refine sr (N' := 192) rfl ?_
    iterate 2 refine pu rfl (by simp only [go_sem, Nat.reduceBEq]; try with_reducible rfl) ?_
    obtain ⟨⟨r4, r5⟩, h3, hm⟩ := bnd hm
    refine ARun.callQ (r := .tup [.sl (r4.flatMap (ci .u32)) r4.length false, .v (.int .i64 r5)]) (by decide) (by try simp only [go_sem, Nat.reduceBEq]; try rfl) fb11 (fun H => (.cons (td (by try simp only [go_sem, Nat.reduceBEq]; try rfl) ((CFi .u32).sl _ _ _)) (.cons (td (by try simp only [go_sem, Nat.reduceBEq]; try rfl) ((CFi .u32).sl _ _ _)) .nil))) (natAdd_c h3) ?_
    iterate 5 refine pu rfl (by simp only [go_sem, Nat.reduceBEq]; try with_reducible rfl) ?_
    refine fs ?_
    refine sr (N' := 256) rfl ?_
    iterate 2 refine pu rfl (by simp only [go_sem, Nat.reduceBEq]; try with_reducible rfl) ?_
    obtain ⟨⟨r7, r8⟩, h6, hm⟩ := bnd hm
    refine ARun.callQ (r := .tup [.sl (r7.flatMap (ci .u32)) r7.length false, .v (.int .i64 r8)]) (by decide) (by try simp only [go_sem, Nat.reduceBEq]; try rfl) fb12 (fun H => (.cons (td (by try simp only [go_sem, Nat.reduceBEq]; try rfl) ((CFi .u32).sl _ _ _)) (.cons (td (by try simp only [go_sem, Nat.reduceBEq]; try rfl) ((CFi .u32).sl _ _ _)) .nil))) (natMul_c h6) ?_
    iterate 5 refine pu rfl (by simp only [go_sem, Nat.reduceBEq]; try with_reducible rfl) ?_
    refine fs ?_
    refine sr (N' := 320) rfl ?_
    iterate 2 refine pu rfl (by simp only [go_sem, Nat.reduceBEq]; try with_reducible rfl) ?_
    obtain ⟨r10, h9, hm⟩ := bnd hm
    refine ARun.callQ (r := .v (.int .i64 r10)) (by decide) (by try simp only [go_sem, Nat.reduceBEq]; try rfl) fb13 (fun H => (.cons (td (by try simp only [go_sem, Nat.reduceBEq]; try rfl) ((CFi .u32).sl _ _ _)) (.cons (td (by try simp only [go_sem, Nat.reduceBEq]; try rfl) ((CFi .u32).sl _ _ _)) .nil))) (natCmp_c h9) ?_
    refine pu rfl (by simp only [go_sem, Nat.reduceBEq]; try with_reducible rfl) ?_
    refine fs ?_
    refine sr (N' := 384) rfl ?_
    refine pu rfl (by simp only [go_sem, Nat.reduceBEq]; try with_reducible rfl) ?_
    obtain ⟨r12, h11, hm⟩ := bnd hm
    refine ARun.callQ (r := .v (.bool r12)) (by decide) (by try simp only [go_sem, Nat.reduceBEq]; try rfl) fb14 (fun H => (.cons (td (by try simp only [go_sem, Nat.reduceBEq]; try rfl) ((CFi .u32).sl _ _ _)) .nil)) (refRight_c h11) ?_
    refine pu rfl (by simp only [go_sem, Nat.reduceBEq]; try with_reducible rfl) ?_
    obtain ⟨r14, h13, hm⟩ := bnd hm
    refine ARun.callQ (r := .v (.bool r14)) (by decide) (by try simp only [go_sem, Nat.reduceBEq]; try rfl) fb14 (fun H => (.cons (td (by try simp only [go_sem, Nat.reduceBEq]; try rfl) ((CFi .u32).sl _ _ _)) .nil)) (refRight_c h13) ?_
    iterate 2 refine pu rfl (by simp only [go_sem, Nat.reduceBEq]; try with_reducible rfl) ?_
    refine fs ?_
    refine AWp.seq' ?_
    refine sr (N' := 448) rfl ?_
    refine pu rfl (by simp only [go_sem, Nat.reduceBEq]; try with_reducible rfl) ?_
    obtain ⟨r16, h15, hm⟩ := bnd hm
    refine ARun.callQ (r := .v (.bool r16)) (by decide) (by try simp only [go_sem, Nat.reduceBEq]; try rfl) fb15 (fun H => (.cons (td (by try simp only [go_sem, Nat.reduceBEq]; try rfl) ((CFi .u32).sl _ _ _)) .nil)) (natRight_c h15) ?_
    iterate 4 (first | refine pu rfl (by simp only [go_sem, Nat.reduceBEq]; try with_reducible rfl) ?_ | refine pg rfl rfl (by simp only [go_sem, Nat.reduceBEq]; try with_reducible rfl) (by intro hb; simp only [go_sem, Nat.reduceBEq, hb, Bool.true_and]; try with_reducible rfl) ?_)
    obtain ⟨r18, h17, hm⟩ := bnd hm
    refine ARun.callQG (r := .sl (r18.flatMap (ci .u32)) r18.length false) (by decide) rfl (by simp only [go_sem, Nat.reduceBEq]; try with_reducible rfl) (by try simp only [go_sem, Nat.reduceBEq]; try rfl) fb17 (fun hb H => (.cons (td (by try simp only [go_sem, Nat.reduceBEq, hb, Bool.true_and]; try rfl) (.v _)) .nil)) (fun hb => natOf_c (gopt_t h17 hb)) ?_
    iterate 2 refine pg rfl rfl (by simp only [go_sem, Nat.reduceBEq]; try with_reducible rfl) (by intro hb; simp only [go_sem, Nat.reduceBEq, hb, Bool.true_and]; try with_reducible rfl) ?_
    refine split_m hm (fun h19 hm => ?_) (fun h19 hm => ?_)
    · refine ARun.skipG (by decide) rfl (by simp only [go_sem, Nat.reduceBEq, h19]; try with_reducible rfl) ?_
      refine ARun.skipG (by decide) rfl (by simp only [go_sem, Nat.reduceBEq, h19]; try with_reducible rfl) ?_
      refine ARun.skipG (by decide) rfl (by simp only [go_sem, Nat.reduceBEq, h19]; try with_reducible rfl) ?_
      refine ARun.skipG (by decide) rfl (by simp only [go_sem, Nat.reduceBEq, h19]; try with_reducible rfl) ?_
      refine ARun.skipG (by decide) rfl (by simp only [go_sem, Nat.reduceBEq, h19]; try with_reducible rfl) ?_
      refine ARun.skipG (by decide) rfl (by simp only [go_sem, Nat.reduceBEq, h19]; try with_reducible rfl) ?_
      refine ARun.skipG (by decide) rfl (by simp only [go_sem, Nat.reduceBEq, h19]; try with_reducible rfl) ?_
      refine ARun.skipG (by decide) rfl (by simp only [go_sem, Nat.reduceBEq, h19]; try with_reducible rfl) ?_
      refine pu rfl (by simp only [go_sem, Nat.reduceBEq, h19]; try with_reducible rfl) ?_
      refine fs ?_
      refine AWp.condT (by try simp only [go_sem, Nat.reduceBEq]; try rfl) ?_
      refine sr (N' := 512) rfl ?_
      refine pu rfl (by simp only [go_sem, Nat.reduceBEq]; try with_reducible rfl) ?_
      refine fs ?_
      refine AWp.ret ?_
      refine retSeq ?_
      cases hm
      exact ret1D (.inr rfl) Try.results3 (td (by try simp only [go_sem, Nat.reduceBEq]; try rfl) (.v _))
    · refine ARun.heapG (by decide) rfl (by simp only [go_sem, Nat.reduceBEq, h19]; try with_reducible rfl) (id := 393) rfl (ah_list (CFi .u32) (l := [(IntKind.u32.wrap n_2)]) Try.underlying22 sz33 zc33 (by simp only [isFresh_upd, isFresh_no, Nat.reduceBEq, cond_true, cond_false]) (by decide) (by decide) (by decide) (by simp only [go_sem, Nat.reduceBEq, h19]; try rfl) (by kernel_rfl)) ?_
      iterate 3 refine pg rfl rfl (by simp only [go_sem, Nat.reduceBEq, Int.reduceEq, Int.reduceLE, h19]; try with_reducible rfl) (by intro hb; simp only [go_sem, Nat.reduceBEq, Int.reduceEq, Int.reduceLE, h19, hb, Bool.true_and]; try with_reducible rfl) ?_
      refine ARun.heapG (by decide) rfl (by simp only [go_sem, Nat.reduceBEq, h19]; try with_reducible rfl) (id := 397) rfl (ah_list (CFi .u32) (l := [0, (IntKind.u32.wrap (shr .u64 n_2 32))]) Try.underlying22 sz33 zc33 (by simp only [isFresh_upd, isFresh_no, Nat.reduceBEq, cond_true, cond_false]) (by decide) (by decide) (by decide) (by simp only [go_sem, Nat.reduceBEq, h19]; try rfl) (by kernel_rfl)) ?_
      obtain ⟨r21, h20, hm⟩ := bnd hm
      refine ARun.callGL2 (r := .sl (r21.flatMap (ci .u32)) r21.length false) (id := 393) (jd := 397) (by decide) rfl (by simp only [go_sem, Nat.reduceBEq, h19]; try with_reducible rfl) (by try simp only [go_sem, Nat.reduceBEq, h19]; try rfl) fb18 (by decide) (by simp only [upd_beq, Nat.reduceBEq, cond_true, cond_false]; try rfl) (by simp only [upd_beq, Nat.reduceBEq, cond_true, cond_false]; try rfl) (.cons (tdl (CFi .u32) (by try simp only [go_sem, Nat.reduceBEq, h19]; try rfl) (by simp only [upd_beq, Nat.reduceBEq, cond_true, cond_false]; try rfl) (by simp) (by first | rfl | omega)) (.cons (tdl (CFi .u32) (by try simp only [go_sem, Nat.reduceBEq, h19]; try rfl) (by simp only [upd_beq, Nat.reduceBEq, cond_true, cond_false]; try rfl) (by simp) (by first | rfl | omega)) .nil)) (refAdd_c h20) ?_
      obtain ⟨r23, h22, hm⟩ := bnd hm
      refine ARun.callQG (r := .v (.bool r23)) (by decide) rfl (by simp only [go_sem, Nat.reduceBEq, h19]; try with_reducible rfl) (by try simp only [go_sem, Nat.reduceBEq, h19]; try rfl) fb16 (fun hb H => (.cons (td (by try simp only [go_sem, Nat.reduceBEq, h19]; try rfl) ((CFi .u32).sl _ _ _)) (.cons (td (by try simp only [go_sem, Nat.reduceBEq, h19]; try rfl) ((CFi .u32).sl _ _ _)) .nil))) (fun hb => refSame_c h22) ?_
      iterate 2 (first | refine pu rfl (by simp only [go_sem, Nat.reduceBEq, h19]; try with_reducible rfl) ?_ | refine pg rfl rfl (by simp only [go_sem, Nat.reduceBEq, h19]; try with_reducible rfl) (by intro hb; simp only [go_sem, Nat.reduceBEq, h19, hb, Bool.true_and]; try with_reducible rfl) ?_)
      refine fs ?_
      refine AWp.condM hm (by try simp only [go_sem, Nat.reduceBEq]; try rfl) (fun _ hm => ?_) (fun _ hm => ?_)
      · refine sr (N' := 512) rfl ?_
        refine pu rfl (by simp only [go_sem, Nat.reduceBEq]; try with_reducible rfl) ?_
        refine fs ?_
        refine AWp.ret ?_
        refine retSeq ?_
        cases hm
        exact ret1D (.inr rfl) Try.results3 (td (by try simp only [go_sem, Nat.reduceBEq]; try rfl) (.v _))
      · refine AWp.skip ?_
        refine normSeq ?_
        refine AWp.seq' ?_
        refine sr (N' := 512) rfl ?_
        iterate 6 (first | refine pu rfl (by simp only [go_sem, Nat.reduceBEq]; try with_reducible rfl) ?_ | refine pg rfl rfl (by simp only [go_sem, Nat.reduceBEq]; try with_reducible rfl) (by intro hb; simp only [go_sem, Nat.reduceBEq, hb, Bool.true_and]; try with_reducible rfl) ?_)
        refine fs ?_
        refine AWp.condM hm (by try simp only [go_sem, Nat.reduceBEq]; try rfl) (fun _ hm => ?_) (fun _ hm => ?_)
        · refine sr (N' := 576) rfl ?_
          iterate 19 (first | refine pu rfl (by simp only [go_sem, Nat.reduceBEq]; try with_reducible rfl) ?_ | refine pg rfl rfl (by simp only [go_sem, Nat.reduceBEq]; try with_reducible rfl) (by intro hb; simp only [go_sem, Nat.reduceBEq, hb, Bool.true_and]; try with_reducible rfl) ?_)
          obtain ⟨r25, h24, hm⟩ := bnd hm
          refine ARun.callQG (r := .v (.bool r25)) (by decide) rfl (by simp only [go_sem, Nat.reduceBEq]; try with_reducible rfl) (by try simp only [go_sem, Nat.reduceBEq]; try rfl) fb10 (fun hb H => .nil) (fun hb => natAwake_c (gopt_t h24 hb)) ?_
          iterate 2 refine pu rfl (by simp only [go_sem, Nat.reduceBEq]; try with_reducible rfl) ?_
          refine fs ?_
          refine AWp.ret ?_
          refine retSeq ?_
          cases hm
          exact ret1D (.inr rfl) Try.results3 (td (by try simp only [go_sem, Nat.reduceBEq]; try rfl) (.v _))
        · refine AWp.skip ?_
          refine normSeq ?_
          refine sr (N' := 576) rfl ?_
          iterate 4 refine pu rfl (by simp only [go_sem, Nat.reduceBEq]; try with_reducible rfl) ?_
          obtain ⟨r27, h26, hm⟩ := bnd hm
          refine ARun.callQ (r := .sl (r27.flatMap (ci .u32)) r27.length false) (by decide) (by try simp only [go_sem, Nat.reduceBEq]; try rfl) fb18 (fun H => (.cons (td (by try simp only [go_sem, Nat.reduceBEq]; try rfl) ((CFi .u32).sl _ _ _)) (.cons (td (by try simp only [go_sem, Nat.reduceBEq]; try rfl) ((CFi .u32).sl _ _ _)) .nil))) (refAdd_c h26) ?_
          obtain ⟨r29, h28, hm⟩ := bnd hm
          refine ARun.callQ (r := .v (.bool r29)) (by decide) (by try simp only [go_sem, Nat.reduceBEq]; try rfl) fb19 (fun H => (.cons (td (by try simp only [go_sem, Nat.reduceBEq]; try rfl) ((CFi .u32).sl _ _ _)) (.cons (td (by try simp only [go_sem, Nat.reduceBEq]; try rfl) (.v _)) (.cons (td (by try simp only [go_sem, Nat.reduceBEq]; try rfl) ((CFi .u32).sl _ _ _)) .nil)))) (natTold_c h28) ?_
          iterate 5 (first | refine pu rfl (by simp only [go_sem, Nat.reduceBEq]; try with_reducible rfl) ?_ | refine pg rfl rfl (by simp only [go_sem, Nat.reduceBEq]; try with_reducible rfl) (by intro hb; simp only [go_sem, Nat.reduceBEq, hb, Bool.true_and]; try with_reducible rfl) ?_)
          obtain ⟨r31, h30, hm⟩ := bnd hm
          refine ARun.callQG (r := .sl (r31.flatMap (ci .u32)) r31.length false) (by decide) rfl (by simp only [go_sem, Nat.reduceBEq]; try with_reducible rfl) (by try simp only [go_sem, Nat.reduceBEq]; try rfl) fb20 (fun hb H => (.cons (td (by try simp only [go_sem, Nat.reduceBEq, hb, Bool.true_and]; try rfl) ((CFi .u32).sl _ _ _)) (.cons (td (by try simp only [go_sem, Nat.reduceBEq, hb, Bool.true_and]; try rfl) ((CFi .u32).sl _ _ _)) .nil))) (fun hb => refMul_c (gopt_t h30 hb)) ?_
          obtain ⟨r33, h32, hm⟩ := bnd hm
          refine ARun.callQG (r := .v (.bool r33)) (by decide) rfl (by simp only [go_sem, Nat.reduceBEq]; try with_reducible rfl) (by try simp only [go_sem, Nat.reduceBEq]; try rfl) fb19 (fun hb H => (.cons (td (by try simp only [go_sem, Nat.reduceBEq, hb, Bool.true_and]; try rfl) ((CFi .u32).sl _ _ _)) (.cons (td (by try simp only [go_sem, Nat.reduceBEq, hb, Bool.true_and]; try rfl) (.v _)) (.cons (td (by try simp only [go_sem, Nat.reduceBEq, hb, Bool.true_and]; try rfl) ((CFi .u32).sl _ _ _)) .nil)))) (fun hb => natTold_c (gopt_t h32 hb)) ?_
          iterate 5 (first | refine pu rfl (by simp only [go_sem, Nat.reduceBEq]; try with_reducible rfl) ?_ | refine pg rfl rfl (by simp only [go_sem, Nat.reduceBEq]; try with_reducible rfl) (by intro hb; simp only [go_sem, Nat.reduceBEq, hb, Bool.true_and]; try with_reducible rfl) ?_)
          obtain ⟨r35, h34, hm⟩ := bnd hm
          refine ARun.callQG (r := .v (.int .i64 r35)) (by decide) rfl (by simp only [go_sem, Nat.reduceBEq]; try with_reducible rfl) (by try simp only [go_sem, Nat.reduceBEq]; try rfl) fb21 (fun hb H => (.cons (td (by try simp only [go_sem, Nat.reduceBEq, hb, Bool.true_and]; try rfl) ((CFi .u32).sl _ _ _)) (.cons (td (by try simp only [go_sem, Nat.reduceBEq, hb, Bool.true_and]; try rfl) ((CFi .u32).sl _ _ _)) .nil))) (fun hb => refCmp_c (gopt_t h34 hb)) ?_
          iterate 3 (first | refine pu rfl (by simp only [go_sem, Nat.reduceBEq]; try with_reducible rfl) ?_ | refine pg rfl rfl (by simp only [go_sem, Nat.reduceBEq]; try with_reducible rfl) (by intro hb; simp only [go_sem, Nat.reduceBEq, hb, Bool.true_and]; try with_reducible rfl) ?_)
          obtain ⟨r37, h36, hm⟩ := bnd hm
          refine ARun.callQG (r := .v (.bool r37)) (by decide) rfl (by simp only [go_sem, Nat.reduceBEq]; try with_reducible rfl) (by try simp only [go_sem, Nat.reduceBEq]; try rfl) fb10 (fun hb H => .nil) (fun hb => natAwake_c (gopt_t h36 hb)) ?_
          iterate 2 refine pu rfl (by simp only [go_sem, Nat.reduceBEq]; try with_reducible rfl) ?_
          refine fs ?_
          refine AWp.ret ?_
          cases hm
          exact ret1D (.inr rfl) Try.results3 (td (by try simp only [go_sem, Nat.reduceBEq]; try rfl) (.v _))
def NatLong_m (n_0 : Int) (m_1 : Int) (x_2 : Int) (y_3 : Int) (fill_4 : Int) : Option (Bool) :=
  ((natLong__m n_0 x_2 fill_4).bind fun r2 =>
  ((natLong__m m_1 y_3 fill_4).bind fun r4 =>
  ((natAdd_m r2 r4).bind fun ⟨r6, r7⟩ =>
  ((natMul_m r2 r4).bind fun ⟨r9, r10⟩ =>
  (bif (((((r7 != 0) && (((decide ((r2.length : Int) < 64)) && (decide ((r4.length : Int) < 64))) || (r7 != 6))) || (((r10 == 0) && ((r9.length : Int) != (IntKind.i64.wrap ((r2.length : Int) + (r4.length : Int))))) && ((r9.length : Int) != (IntKind.i64.wrap ((IntKind.i64.wrap ((r2.length : Int) + (r4.length : Int))) - 1))))) || ((r10 != 0) && ((decide ((IntKind.i64.wrap ((r2.length : Int) + (r4.length : Int))) < 65)) || (r10 != 6)))) || ((decide (65 < (IntKind.i64.wrap ((r2.length : Int) + (r4.length : Int))))) && (r10 == 0))) then
    some false
  else
    ((gopt ((r7 == 0) == true) 0 (natCmp_m r6 r2)).bind fun r12 =>
    ((gopt (((r7 == 0) == true) && ((r12 != 1) == false)) 0 (natCmp_m r6 r4)).bind fun r14 =>
    (bif ((r7 == 0) && (((r12 != 1) || (r14 != 1)) || (decide ((r6.length : Int) < (if (r2.length : Int) < (r4.length : Int) then (r4.length : Int) else (r2.length : Int)))))) then
      some false
    else
      ((natAwake_m ).bind fun r16 =>
      some r16)))))))))
theorem NatLong_c {n_0 : Int} {m_1 : Int} {x_2 : Int} {y_3 : Int} {fill_4 : Int} {r : Bool} (hm : NatLong_m n_0 m_1 x_2 y_3 fill_4 = some r) : PureC Try.prog 4 [.v (.int .u8 n_0), .v (.int .u8 m_1), .v (.int .u32 x_2), .v (.int .u32 y_3), .v (.int .u32 fill_4)] (.v (.bool r)) := by
  refine PureC.of_body Try.func4 rfl ?_
  simp only [Try.ntmps4, List.length_cons, List.length_nil, Nat.reduceAdd, Nat.reduceSub, empty_eq]
  unfold NatLong_m at hm
  refine sr (N' := 64) rfl ?_
  refine pu rfl (by simp only [go_sem, Nat.reduceBEq]; try with_reducible rfl) ?_
  refine fs ?_
  refine sr (N' := 128) rfl ?_
  iterate 3 refine pu rfl (by simp only [go_sem, Nat.reduceBEq]; try with_reducible rfl) ?_
  obtain ⟨r2, h1, hm⟩ := bnd hm
  refine ARun.callQ (r := .sl (r2.flatMap (ci .u32)) r2.length false) (by decide) (by try simp only [go_sem, Nat.reduceBEq]; try rfl) fb22 (fun H => (.cons (td (by try simp only [go_sem, Nat.reduceBEq]; try rfl) (.v _)) (.cons (td (by try simp only [go_sem, Nat.reduceBEq]; try rfl) (.v _)) (.cons (td (by try simp only [go_sem, Nat.reduceBEq]; try rfl) (.v _)) .nil)))) (natLong__c h1) ?_
  iterate 3 refine pu rfl (by simp only [go_sem, Nat.reduceBEq]; try with_reducible rfl) ?_
  obtain ⟨r4, h3, hm⟩ := bnd hm
  refine ARun.callQ (r := .sl (r4.flatMap (ci .u32)) r4.length false) (by decide) (by try simp only [go_sem, Nat.reduceBEq]; try rfl) fb22 (fun H => (.cons (td (by try simp only [go_sem, Nat.reduceBEq]; try rfl) (.v _)) (.cons (td (by try simp only [go_sem, Nat.reduceBEq]; try rfl) (.v _)) (.cons (td (by try simp only [go_sem, Nat.reduceBEq]; try rfl) (.v _)) .nil)))) (natLong__c h3) ?_
  iterate 2 refine pu rfl (by simp only [go_sem, Nat.reduceBEq]; try with_reducible rfl) ?_
  refine fs ?_
  refine sr (N' := 192) rfl ?_
  iterate 2 refine pu rfl (by simp only [go_sem, Nat.reduceBEq]; try with_reducible rfl) ?_
  obtain ⟨⟨r6, r7⟩, h5, hm⟩ := bnd hm
  refine ARun.callQ (r := .tup [.sl (r6.flatMap (ci .u32)) r6.length false, .v (.int .i64 r7)]) (by decide) (by try simp only [go_sem, Nat.reduceBEq]; try rfl) fb11 (fun H => (.cons (td (by try simp only [go_sem, Nat.reduceBEq]; try rfl) ((CFi .u32).sl _ _ _)) (.cons (td (by try simp only [go_sem, Nat.reduceBEq]; try rfl) ((CFi .u32).sl _ _ _)) .nil))) (natAdd_c h5) ?_
  iterate 5 refine pu rfl (by simp only [go_sem, Nat.reduceBEq]; try with_reducible rfl) ?_
  refine fs ?_
  refine sr (N' := 256) rfl ?_
  iterate 2 refine pu rfl (by simp only [go_sem, Nat.reduceBEq]; try with_reducible rfl) ?_
  obtain ⟨⟨r9, r10⟩, h8, hm⟩ := bnd hm
  refine ARun.callQ (r := .tup [.sl (r9.flatMap (ci .u32)) r9.length false, .v (.int .i64 r10)]) (by decide) (by try simp only [go_sem, Nat.reduceBEq]; try rfl) fb12 (fun H => (.cons (td (by try simp only [go_sem, Nat.reduceBEq]; try rfl) ((CFi .u32).sl _ _ _)) (.cons (td (by try simp only [go_sem, Nat.reduceBEq]; try rfl) ((CFi .u32).sl _ _ _)) .nil))) (natMul_c h8) ?_
  iterate 5 refine pu rfl (by simp only [go_sem, Nat.reduceBEq]; try with_reducible rfl) ?_
  refine fs ?_
  refine sr (N' := 320) rfl ?_
  iterate 6 refine pu rfl (by simp only [go_sem, Nat.reduceBEq]; try with_reducible rfl) ?_
  refine fs ?_
  refine AWp.seq' ?_
  refine sr (N' := 384) rfl ?_
  iterate 53 (first | refine pu rfl (by simp only [go_sem, Nat.reduceBEq]; try with_reducible rfl) ?_ | refine pg rfl rfl (by simp only [go_sem, Nat.reduceBEq]; try with_reducible rfl) (by intro hb; simp only [go_sem, Nat.reduceBEq, hb, Bool.true_and]; try with_reducible rfl) ?_)
  refine fs ?_
  refine AWp.condM hm (by try simp only [go_sem, Nat.reduceBEq]; try rfl) (fun _ hm => ?_) (fun _ hm => ?_)
  · refine sr (N' := 448) rfl ?_
    refine pu rfl (by simp only [go_sem, Nat.reduceBEq]; try with_reducible rfl) ?_
    refine fs ?_
    refine AWp.ret ?_
    refine retSeq ?_
    cases hm
    exact ret1D (.inr rfl) Try.results4 (td (by try simp only [go_sem, Nat.reduceBEq]; try rfl) (.v _))
  · refine AWp.skip ?_
    refine normSeq ?_
    refine AWp.seq' ?_
    refine sr (N' := 448) rfl ?_
    iterate 5 (first | refine pu rfl (by simp only [go_sem, Nat.reduceBEq]; try with_reducible rfl) ?_ | refine pg rfl rfl (by simp only [go_sem, Nat.reduceBEq]; try with_reducible rfl) (by intro hb; simp only [go_sem, Nat.reduceBEq, hb, Bool.true_and]; try with_reducible rfl) ?_)
    obtain ⟨r12, h11, hm⟩ := bnd hm
    refine ARun.callQG (r := .v (.int .i64 r12)) (by decide) rfl (by simp only [go_sem, Nat.reduceBEq]; try with_reducible rfl) (by try simp only [go_sem, Nat.reduceBEq]; try rfl) fb13 (fun hb H => (.cons (td (by try simp only [go_sem, Nat.reduceBEq, hb, Bool.true_and]; try rfl) ((CFi .u32).sl _ _ _)) (.cons (td (by try simp only [go_sem, Nat.reduceBEq, hb, Bool.true_and]; try rfl) ((CFi .u32).sl _ _ _)) .nil))) (fun hb => natCmp_c (gopt_t h11 hb)) ?_
    iterate 4 refine pg rfl rfl (by simp only [go_sem, Nat.reduceBEq]; try with_reducible rfl) (by intro hb; simp only [go_sem, Nat.reduceBEq, hb, Bool.true_and]; try with_reducible rfl) ?_
    obtain ⟨r14, h13, hm⟩ := bnd hm
    refine ARun.callQG (r := .v (.int .i64 r14)) (by decide) rfl (by simp only [go_sem, Nat.reduceBEq]; try with_reducible rfl) (by try simp only [go_sem, Nat.reduceBEq]; try rfl) fb13 (fun hb H => (.cons (td (by try simp only [go_sem, Nat.reduceBEq, hb, Bool.true_and]; try rfl) ((CFi .u32).sl _ _ _)) (.cons (td (by try simp only [go_sem, Nat.reduceBEq, hb, Bool.true_and]; try rfl) ((CFi .u32).sl _ _ _)) .nil))) (fun hb => natCmp_c (gopt_t h13 hb)) ?_
    iterate 13 (first | refine pu rfl (by simp only [go_sem, Nat.reduceBEq]; try with_reducible rfl) ?_ | refine pg rfl rfl (by simp only [go_sem, Nat.reduceBEq]; try with_reducible rfl) (by intro hb; simp only [go_sem, Nat.reduceBEq, hb, Bool.true_and]; try with_reducible rfl) ?_)
    refine fs ?_
    refine AWp.condM hm (by try simp only [go_sem, Nat.reduceBEq]; try rfl) (fun _ hm => ?_) (fun _ hm => ?_)
    · refine sr (N' := 512) rfl ?_
      refine pu rfl (by simp only [go_sem, Nat.reduceBEq]; try with_reducible rfl) ?_
      refine fs ?_
      refine AWp.ret ?_
      refine retSeq ?_
      cases hm
      exact ret1D (.inr rfl) Try.results4 (td (by try simp only [go_sem, Nat.reduceBEq]; try rfl) (.v _))
    · refine AWp.skip ?_
      refine normSeq ?_
      refine sr (N' := 512) rfl ?_
      obtain ⟨r16, h15, hm⟩ := bnd hm
      refine ARun.callQ (r := .v (.bool r16)) (by decide) (by try simp only [go_sem, Nat.reduceBEq]; try rfl) fb10 (fun H => .nil) (natAwake_c h15) ?_
      refine pu rfl (by simp only [go_sem, Nat.reduceBEq]; try with_reducible rfl) ?_
      refine fs ?_
      refine AWp.ret ?_
      cases hm
      exact ret1D (.inr rfl) Try.results4 (td (by try simp only [go_sem, Nat.reduceBEq]; try rfl) (.v _))
def NatPowers_m (a_0 : List Int) (n_1 : Int) : Option (Bool) :=
  (bif ((decide (4 < (a_0.length : Int))) || ((decide (12 < n_1)) && (decide (n_1 ≤ 1024)))) then
    ((natAwake_m ).bind fun r2 =>
    some r2)
  else
    ((natPow_m a_0 n_1).bind fun ⟨r4, r5⟩ =>
    ((refRight_m a_0).bind fun r7 =>
    (bif (((!r7) || (decide (n_1 < 0))) || (decide (1024 < n_1))) then
      ((gopt ((((r4.length : Int) == 0) && (r5 == 1)) == true) false (natAwake_m )).bind fun r9 =>
      some ((((r4.length : Int) == 0) && (r5 == 1)) && r9))
    else
      ((refPow_m a_0 n_1).bind fun ⟨r11, r12⟩ =>
      ((refSame_m r4 r11).bind fun r14 =>
      ((gopt ((r14 && (r5 == r12)) == true) false (natAwake_m )).bind fun r16 =>
      some ((r14 && (r5 == r12)) && r16))))))))
theorem NatPowers_c {a_0 : List Int} {n_1 : Int} {r : Bool} (hm : NatPowers_m a_0 n_1 = some r) : PureC Try.prog 5 [.sl (a_0.flatMap (ci .u32)) a_0.length false, .v (.int .i64 n_1)] (.v (.bool r)) := by
  refine PureC.of_body Try.func5 rfl ?_
  simp only [Try.ntmps5, List.length_cons, List.length_nil, Nat.reduceAdd, Nat.reduceSub, empty_eq]
  unfold NatPowers_m at hm
  refine sr (N' := 64) rfl ?_
  refine pu rfl (by simp only [go_sem, Nat.reduceBEq]; try with_reducible rfl) ?_
  refine fs ?_
  refine AWp.seq' ?_
  refine sr (N' := 128) rfl ?_
  iterate 11 (first | refine pu rfl (by simp only [go_sem, Nat.reduceBEq]; try with_reducible rfl) ?_ | refine pg rfl rfl (by simp only [go_sem, Nat.reduceBEq]; try with_reducible rfl) (by intro hb; simp only [go_sem, Nat.reduceBEq, hb, Bool.true_and]; try with_reducible rfl) ?_)
  refine fs ?_
  refine AWp.condM hm (by try simp only [go_sem, Nat.reduceBEq]; try rfl) (fun _ hm => ?_) (fun _ hm => ?_)
  · refine sr (N' := 192) rfl ?_
    obtain ⟨r2, h1, hm⟩ := bnd hm
    refine ARun.callQ (r := .v (.bool r2)) (by decide) (by try simp only [go_sem, Nat.reduceBEq]; try rfl) fb10 (fun H => .nil) (natAwake_c h1) ?_
    refine pu rfl (by simp only [go_sem, Nat.reduceBEq]; try with_reducible rfl) ?_
    refine fs ?_
    refine AWp.ret ?_
    refine retSeq ?_
    cases hm
    exact ret1D (.inr rfl) Try.results5 (td (by try simp only [go_sem, Nat.reduceBEq]; try rfl) (.v _))
  · refine AWp.skip ?_
    refine normSeq ?_
    refine sr (N' := 192) rfl ?_
    iterate 2 refine pu rfl (by simp only [go_sem, Nat.reduceBEq]; try with_reducible rfl) ?_
    obtain ⟨⟨r4, r5⟩, h3, hm⟩ := bnd hm
    refine ARun.callQ (r := .tup [.sl (r4.flatMap (ci .u32)) r4.length false, .v (.int .i64 r5)]) (by decide) (by try simp only [go_sem, Nat.reduceBEq]; try rfl) fb23 (fun H => (.cons (td (by try simp only [go_sem, Nat.reduceBEq]; try rfl) ((CFi .u32).sl _ _ _)) (.cons (td (by try simp only [go_sem, Nat.reduceBEq]; try rfl) (.v _)) .nil))) (natPow_c h3) ?_
    iterate 5 refine pu rfl (by simp only [go_sem, Nat.reduceBEq]; try with_reducible rfl) ?_
    refine fs ?_
    refine AWp.seq' ?_
    refine sr (N' := 256) rfl ?_
    refine pu rfl (by simp only [go_sem, Nat.reduceBEq]; try with_reducible rfl) ?_
    obtain ⟨r7, h6, hm⟩ := bnd hm
    refine ARun.callQ (r := .v (.bool r7)) (by decide) (by try simp only [go_sem, Nat.reduceBEq]; try rfl) fb14 (fun H => (.cons (td (by try simp only [go_sem, Nat.reduceBEq]; try rfl) ((CFi .u32).sl _ _ _)) .nil)) (refRight_c h6) ?_
    iterate 9 (first | refine pu rfl (by simp only [go_sem, Nat.reduceBEq]; try with_reducible rfl) ?_ | refine pg rfl rfl (by simp only [go_sem, Nat.reduceBEq]; try with_reducible rfl) (by intro hb; simp only [go_sem, Nat.reduceBEq, hb, Bool.true_and]; try with_reducible rfl) ?_)
    refine fs ?_
    refine AWp.condM hm (by try simp only [go_sem, Nat.reduceBEq]; try rfl) (fun _ hm => ?_) (fun _ hm => ?_)
    · refine sr (N' := 320) rfl ?_
      iterate 8 (first | refine pu rfl (by simp only [go_sem, Nat.reduceBEq]; try with_reducible rfl) ?_ | refine pg rfl rfl (by simp only [go_sem, Nat.reduceBEq]; try with_reducible rfl) (by intro hb; simp only [go_sem, Nat.reduceBEq, hb, Bool.true_and]; try with_reducible rfl) ?_)
      obtain ⟨r9, h8, hm⟩ := bnd hm
      refine ARun.callQG (r := .v (.bool r9)) (by decide) rfl (by simp only [go_sem, Nat.reduceBEq]; try with_reducible rfl) (by try simp only [go_sem, Nat.reduceBEq]; try rfl) fb10 (fun hb H => .nil) (fun hb => natAwake_c (gopt_t h8 hb)) ?_
      iterate 2 refine pu rfl (by simp only [go_sem, Nat.reduceBEq]; try with_reducible rfl) ?_
      refine fs ?_
      refine AWp.ret ?_
      refine retSeq ?_
      cases hm
      exact ret1D (.inr rfl) Try.results5 (td (by try simp only [go_sem, Nat.reduceBEq]; try rfl) (.v _))
    · refine AWp.skip ?_
      refine normSeq ?_
      refine sr (N' := 320) rfl ?_
      iterate 2 refine pu rfl (by simp only [go_sem, Nat.reduceBEq]; try with_reducible rfl) ?_
      obtain ⟨⟨r11, r12⟩, h10, hm⟩ := bnd hm
      refine ARun.callQ (r := .tup [.sl (r11.flatMap (ci .u32)) r11.length false, .v (.int .i64 r12)]) (by decide) (by try simp only [go_sem, Nat.reduceBEq]; try rfl) fb24 (fun H => (.cons (td (by try simp only [go_sem, Nat.reduceBEq]; try rfl) ((CFi .u32).sl _ _ _)) (.cons (td (by try simp only [go_sem, Nat.reduceBEq]; try rfl) (.v _)) .nil))) (refPow_c h10) ?_
      iterate 5 refine pu rfl (by simp only [go_sem, Nat.reduceBEq]; try with_reducible rfl) ?_
      refine fs ?_
      refine sr (N' := 384) rfl ?_
      iterate 2 refine pu rfl (by simp only [go_sem, Nat.reduceBEq]; try with_reducible rfl) ?_
      obtain ⟨r14, h13, hm⟩ := bnd hm
      refine ARun.callQ (r := .v (.bool r14)) (by decide) (by try simp only [go_sem, Nat.reduceBEq]; try rfl) fb16 (fun H => (.cons (td (by try simp only [go_sem, Nat.reduceBEq]; try rfl) ((CFi .u32).sl _ _ _)) (.cons (td (by try simp only [go_sem, Nat.reduceBEq]; try rfl) ((CFi .u32).sl _ _ _)) .nil))) (refSame_c h13) ?_
      iterate 6 (first | refine pu rfl (by simp only [go_sem, Nat.reduceBEq]; try with_reducible rfl) ?_ | refine pg rfl rfl (by simp only [go_sem, Nat.reduceBEq]; try with_reducible rfl) (by intro hb; simp only [go_sem, Nat.reduceBEq, hb, Bool.true_and]; try with_reducible rfl) ?_)
      obtain ⟨r16, h15, hm⟩ := bnd hm
      refine ARun.callQG (r := .v (.bool r16)) (by decide) rfl (by simp only [go_sem, Nat.reduceBEq]; try with_reducible rfl) (by try simp only [go_sem, Nat.reduceBEq]; try rfl) fb10 (fun hb H => .nil) (fun hb => natAwake_c (gopt_t h15 hb)) ?_
      iterate 2 refine pu rfl (by simp only [go_sem, Nat.reduceBEq]; try with_reducible rfl) ?_
      refine fs ?_
      refine AWp.ret ?_
      cases hm
      exact ret1D (.inr rfl) Try.results5 (td (by try simp only [go_sem, Nat.reduceBEq]; try rfl) (.v _))
def NatLaws_m (a_0 : List Int) (b_1 : List Int) (c_2 : List Int) (n_3 : Int) (m_4 : Int) : Option (Bool) :=
  ((gopt ((((decide (8 < (a_0.length : Int))) || (decide (8 < (b_1.length : Int)))) || (decide (8 < (c_2.length : Int)))) == false) false (natRight_m a_0)).bind fun r2 =>
  ((gopt (((((decide (8 < (a_0.length : Int))) || (decide (8 < (b_1.length : Int)))) || (decide (8 < (c_2.length : Int)))) || (!r2)) == false) false (natRight_m b_1)).bind fun r4 =>
  ((gopt ((((((decide (8 < (a_0.length : Int))) || (decide (8 < (b_1.length : Int)))) || (decide (8 < (c_2.length : Int)))) || (!r2)) || (!r4)) == false) false (natRight_m c_2)).bind fun r6 =>
  (bif ((((((decide (8 < (a_0.length : Int))) || (decide (8 < (b_1.length : Int)))) || (decide (8 < (c_2.length : Int)))) || (!r2)) || (!r4)) || (!r6)) then
    ((natAwake_m ).bind fun r8 =>
    some r8)
  else
    ((natAdd_m a_0 b_1).bind fun ⟨r10, r11⟩ =>
    ((natAdd_m b_1 a_0).bind fun ⟨r13, r14⟩ =>
    ((natMul_m r10 c_2).bind fun ⟨r16, r17⟩ =>
    ((natMul_m a_0 c_2).bind fun ⟨r19, r20⟩ =>
    ((natMul_m b_1 c_2).bind fun ⟨r22, r23⟩ =>
    ((natAdd_m r19 r22).bind fun ⟨r25, r26⟩ =>
    ((natPow_m a_0 (IntKind.i64.wrap (Int.tmod n_3 4))).bind fun ⟨r28, r29⟩ =>
    ((natPow_m a_0 (IntKind.i64.wrap (Int.tmod m_4 4))).bind fun ⟨r31, r32⟩ =>
    ((natMul_m r28 r31).bind fun ⟨r34, r35⟩ =>
    ((natPow_m a_0 (IntKind.i64.wrap ((IntKind.i64.wrap (Int.tmod n_3 4)) + (IntKind.i64.wrap (Int.tmod m_4 4))))).bind fun ⟨r37, r38⟩ =>
    ((gopt ((((r26 == 0) && (r35 == 0)) && (r38 == 0)) == true) false (refSame_m r10 r13)).bind fun r40 =>
    ((gopt (((((r26 == 0) && (r35 == 0)) && (r38 == 0)) && r40) == true) false (refSame_m r16 r25)).bind fun r42 =>
    ((gopt ((((((r26 == 0) && (r35 == 0)) && (r38 == 0)) && r40) && r42) == true) false (refSame_m r34 r37)).bind fun r44 =>
    ((gopt (((((((r26 == 0) && (r35 == 0)) && (r38 == 0)) && r40) && r42) && r44) == true) 0 (natCmp_m a_0 b_1)).bind fun r46 =>
    ((gopt (((((((r26 == 0) && (r35 == 0)) && (r38 == 0)) && r40) && r42) && r44) == true) 0 (natCmp_m b_1 a_0)).bind fun r48 =>
    ((gopt ((((((((r26 == 0) && (r35 == 0)) && (r38 == 0)) && r40) && r42) && r44) && (r46 == (IntKind.i64.wrap (0 - r48)))) == true) 0 (natCmp_m a_0 b_1)).bind fun r50 =>
    ((gopt ((((((((r26 == 0) && (r35 == 0)) && (r38 == 0)) && r40) && r42) && r44) && (r46 == (IntKind.i64.wrap (0 - r48)))) == true) false (refSame_m a_0 b_1)).bind fun r52 =>
    ((gopt (((((((((r26 == 0) && (r35 == 0)) && (r38 == 0)) && r40) && r42) && r44) && (r46 == (IntKind.i64.wrap (0 - r48)))) && ((r50 == 0) == r52)) == true) false (natAwake_m )).bind fun r54 =>
    some (((((((((r26 == 0) && (r35 == 0)) && (r38 == 0)) && r40) && r42) && r44) && (r46 == (IntKind.i64.wrap (0 - r48)))) && ((r50 == 0) == r52)) && r54)))))))))))))))))))))))
theorem NatLaws_c {a_0 : List Int} {b_1 : List Int} {c_2 : List Int} {n_3 : Int} {m_4 : Int} {r : Bool} (hm : NatLaws_m a_0 b_1 c_2 n_3 m_4 = some r) : PureC Try.prog 6 [.sl (a_0.flatMap (ci .u32)) a_0.length false, .sl (b_1.flatMap (ci .u32)) b_1.length false, .sl (c_2.flatMap (ci .u32)) c_2.length false, .v (.int .u8 n_3), .v (.int .u8 m_4)] (.v (.bool r)) := by
  refine PureC.of_body Try.func6 rfl ?_
  simp only [Try.ntmps6, List.length_cons, List.length_nil, Nat.reduceAdd, Nat.reduceSub, empty_eq]
  unfold NatLaws_m at hm
  refine sr (N' := 64) rfl ?_
  refine pu rfl (by simp only [go_sem, Nat.reduceBEq]; try with_reducible rfl) ?_
  refine fs ?_
  refine AWp.seq' ?_
  refine sr (N' := 128) rfl ?_
  iterate 15 (first | refine pu rfl (by simp only [go_sem, Nat.reduceBEq]; try with_reducible rfl) ?_ | refine pg rfl rfl (by simp only [go_sem, Nat.reduceBEq]; try with_reducible rfl) (by intro hb; simp only [go_sem, Nat.reduceBEq, hb, Bool.true_and]; try with_reducible rfl) ?_)
  obtain ⟨r2, h1, hm⟩ := bnd hm
  refine ARun.callQG (r := .v (.bool r2)) (by decide) rfl (by simp only [go_sem, Nat.reduceBEq]; try with_reducible rfl) (by try simp only [go_sem, Nat.reduceBEq]; try rfl) fb15 (fun hb H => (.cons (td (by try simp only [go_sem, Nat.reduceBEq, hb, Bool.true_and]; try rfl) ((CFi .u32).sl _ _ _)) .nil)) (fun hb => natRight_c (gopt_t h1 hb)) ?_
  iterate 4 (first | refine pu rfl (by simp only [go_sem, Nat.reduceBEq]; try with_reducible rfl) ?_ | refine pg rfl rfl (by simp only [go_sem, Nat.reduceBEq]; try with_reducible rfl) (by intro hb; simp only [go_sem, Nat.reduceBEq, hb, Bool.true_and]; try with_reducible rfl) ?_)
  obtain ⟨r4, h3, hm⟩ := bnd hm
  refine ARun.callQG (r := .v (.bool r4)) (by decide) rfl (by simp only [go_sem, Nat.reduceBEq]; try with_reducible rfl) (by try simp only [go_sem, Nat.reduceBEq]; try rfl) fb15 (fun hb H => (.cons (td (by try simp only [go_sem, Nat.reduceBEq, hb, Bool.true_and]; try rfl) ((CFi .u32).sl _ _ _)) .nil)) (fun hb => natRight_c (gopt_t h3 hb)) ?_
  iterate 4 (first | refine pu rfl (by simp only [go_sem, Nat.reduceBEq]; try with_reducible rfl) ?_ | refine pg rfl rfl (by simp only [go_sem, Nat.reduceBEq]; try with_reducible rfl) (by intro hb; simp only [go_sem, Nat.reduceBEq, hb, Bool.true_and]; try with_reducible rfl) ?_)
  obtain ⟨r6, h5, hm⟩ := bnd hm
  refine ARun.callQG (r := .v (.bool r6)) (by decide) rfl (by simp only [go_sem, Nat.reduceBEq]; try with_reducible rfl) (by try simp only [go_sem, Nat.reduceBEq]; try rfl) fb15 (fun hb H => (.cons (td (by try simp only [go_sem, Nat.reduceBEq, hb, Bool.true_and]; try rfl) ((CFi .u32).sl _ _ _)) .nil)) (fun hb => natRight_c (gopt_t h5 hb)) ?_
  iterate 2 (first | refine pu rfl (by simp only [go_sem, Nat.reduceBEq]; try with_reducible rfl) ?_ | refine pg rfl rfl (by simp only [go_sem, Nat.reduceBEq]; try with_reducible rfl) (by intro hb; simp only [go_sem, Nat.reduceBEq, hb, Bool.true_and]; try with_reducible rfl) ?_)
  refine fs ?_
  refine AWp.condM hm (by try simp only [go_sem, Nat.reduceBEq]; try rfl) (fun _ hm => ?_) (fun _ hm => ?_)
  · refine sr (N' := 192) rfl ?_
    obtain ⟨r8, h7, hm⟩ := bnd hm
    refine ARun.callQ (r := .v (.bool r8)) (by decide) (by try simp only [go_sem, Nat.reduceBEq]; try rfl) fb10 (fun H => .nil) (natAwake_c h7) ?_
    refine pu rfl (by simp only [go_sem, Nat.reduceBEq]; try with_reducible rfl) ?_
    refine fs ?_
    refine AWp.ret ?_
    refine retSeq ?_
    cases hm
    exact ret1D (.inr rfl) Try.results6 (td (by try simp only [go_sem, Nat.reduceBEq]; try rfl) (.v _))
  · refine AWp.skip ?_
    refine normSeq ?_
    refine sr (N' := 192) rfl ?_
    iterate 2 refine pu rfl (by simp only [go_sem, Nat.reduceBEq]; try with_reducible rfl) ?_
    obtain ⟨⟨r10, r11⟩, h9, hm⟩ := bnd hm
    refine ARun.callQ (r := .tup [.sl (r10.flatMap (ci .u32)) r10.length false, .v (.int .i64 r11)]) (by decide) (by try simp only [go_sem, Nat.reduceBEq]; try rfl) fb11 (fun H => (.cons (td (by try simp only [go_sem, Nat.reduceBEq]; try rfl) ((CFi .u32).sl _ _ _)) (.cons (td (by try simp only [go_sem, Nat.reduceBEq]; try rfl) ((CFi .u32).sl _ _ _)) .nil))) (natAdd_c h9) ?_
    iterate 5 refine pu rfl (by simp only [go_sem, Nat.reduceBEq]; try with_reducible rfl) ?_
    refine fs ?_
    refine sr (N' := 256) rfl ?_
    iterate 2 refine pu rfl (by simp only [go_sem, Nat.reduceBEq]; try with_reducible rfl) ?_
    obtain ⟨⟨r13, r14⟩, h12, hm⟩ := bnd hm
    refine ARun.callQ (r := .tup [.sl (r13.flatMap (ci .u32)) r13.length false, .v (.int .i64 r14)]) (by decide) (by try simp only [go_sem, Nat.reduceBEq]; try rfl) fb11 (fun H => (.cons (td (by try simp only [go_sem, Nat.reduceBEq]; try rfl) ((CFi .u32).sl _ _ _)) (.cons (td (by try simp only [go_sem, Nat.reduceBEq]; try rfl) ((CFi .u32).sl _ _ _)) .nil))) (natAdd_c h12) ?_
    iterate 5 refine pu rfl (by simp only [go_sem, Nat.reduceBEq]; try with_reducible rfl) ?_
    refine fs ?_
    refine sr (N' := 320) rfl ?_
    iterate 2 refine pu rfl (by simp only [go_sem, Nat.reduceBEq]; try with_reducible rfl) ?_
    obtain ⟨⟨r16, r17⟩, h15, hm⟩ := bnd hm
    refine ARun.callQ (r := .tup [.sl (r16.flatMap (ci .u32)) r16.length false, .v (.int .i64 r17)]) (by decide) (by try simp only [go_sem, Nat.reduceBEq]; try rfl) fb12 (fun H => (.cons (td (by try simp only [go_sem, Nat.reduceBEq]; try rfl) ((CFi .u32).sl _ _ _)) (.cons (td (by try simp only [go_sem, Nat.reduceBEq]; try rfl) ((CFi .u32).sl _ _ _)) .nil))) (natMul_c h15) ?_
    iterate 5 refine pu rfl (by simp only [go_sem, Nat.reduceBEq]; try with_reducible rfl) ?_
    refine fs ?_
    refine sr (N' := 384) rfl ?_
    iterate 2 refine pu rfl (by simp only [go_sem, Nat.reduceBEq]; try with_reducible rfl) ?_
    obtain ⟨⟨r19, r20⟩, h18, hm⟩ := bnd hm
    refine ARun.callQ (r := .tup [.sl (r19.flatMap (ci .u32)) r19.length false, .v (.int .i64 r20)]) (by decide) (by try simp only [go_sem, Nat.reduceBEq]; try rfl) fb12 (fun H => (.cons (td (by try simp only [go_sem, Nat.reduceBEq]; try rfl) ((CFi .u32).sl _ _ _)) (.cons (td (by try simp only [go_sem, Nat.reduceBEq]; try rfl) ((CFi .u32).sl _ _ _)) .nil))) (natMul_c h18) ?_
    iterate 5 refine pu rfl (by simp only [go_sem, Nat.reduceBEq]; try with_reducible rfl) ?_
    refine fs ?_
    refine sr (N' := 448) rfl ?_
    iterate 2 refine pu rfl (by simp only [go_sem, Nat.reduceBEq]; try with_reducible rfl) ?_
    obtain ⟨⟨r22, r23⟩, h21, hm⟩ := bnd hm
    refine ARun.callQ (r := .tup [.sl (r22.flatMap (ci .u32)) r22.length false, .v (.int .i64 r23)]) (by decide) (by try simp only [go_sem, Nat.reduceBEq]; try rfl) fb12 (fun H => (.cons (td (by try simp only [go_sem, Nat.reduceBEq]; try rfl) ((CFi .u32).sl _ _ _)) (.cons (td (by try simp only [go_sem, Nat.reduceBEq]; try rfl) ((CFi .u32).sl _ _ _)) .nil))) (natMul_c h21) ?_
    iterate 5 refine pu rfl (by simp only [go_sem, Nat.reduceBEq]; try with_reducible rfl) ?_
    refine fs ?_
    refine sr (N' := 512) rfl ?_
    iterate 2 refine pu rfl (by simp only [go_sem, Nat.reduceBEq]; try with_reducible rfl) ?_
    obtain ⟨⟨r25, r26⟩, h24, hm⟩ := bnd hm
    refine ARun.callQ (r := .tup [.sl (r25.flatMap (ci .u32)) r25.length false, .v (.int .i64 r26)]) (by decide) (by try simp only [go_sem, Nat.reduceBEq]; try rfl) fb11 (fun H => (.cons (td (by try simp only [go_sem, Nat.reduceBEq]; try rfl) ((CFi .u32).sl _ _ _)) (.cons (td (by try simp only [go_sem, Nat.reduceBEq]; try rfl) ((CFi .u32).sl _ _ _)) .nil))) (natAdd_c h24) ?_
    iterate 5 refine pu rfl (by simp only [go_sem, Nat.reduceBEq]; try with_reducible rfl) ?_
    refine fs ?_
    refine sr (N' := 576) rfl ?_
    iterate 8 refine pu rfl (by simp only [go_sem, Nat.reduceBEq, Int.reduceEq, Int.reduceLE]; try with_reducible rfl) ?_
    refine fs ?_
    refine sr (N' := 640) rfl ?_
    iterate 2 refine pu rfl (by simp only [go_sem, Nat.reduceBEq]; try with_reducible rfl) ?_
    obtain ⟨⟨r28, r29⟩, h27, hm⟩ := bnd hm
    refine ARun.callQ (r := .tup [.sl (r28.flatMap (ci .u32)) r28.length false, .v (.int .i64 r29)]) (by decide) (by try simp only [go_sem, Nat.reduceBEq]; try rfl) fb23 (fun H => (.cons (td (by try simp only [go_sem, Nat.reduceBEq]; try rfl) ((CFi .u32).sl _ _ _)) (.cons (td (by try simp only [go_sem, Nat.reduceBEq]; try rfl) (.v _)) .nil))) (natPow_c h27) ?_
    iterate 5 refine pu rfl (by simp only [go_sem, Nat.reduceBEq]; try with_reducible rfl) ?_
    refine fs ?_
    refine sr (N' := 704) rfl ?_
    iterate 2 refine pu rfl (by simp only [go_sem, Nat.reduceBEq]; try with_reducible rfl) ?_
    obtain ⟨⟨r31, r32⟩, h30, hm⟩ := bnd hm
    refine ARun.callQ (r := .tup [.sl (r31.flatMap (ci .u32)) r31.length false, .v (.int .i64 r32)]) (by decide) (by try simp only [go_sem, Nat.reduceBEq]; try rfl) fb23 (fun H => (.cons (td (by try simp only [go_sem, Nat.reduceBEq]; try rfl) ((CFi .u32).sl _ _ _)) (.cons (td (by try simp only [go_sem, Nat.reduceBEq]; try rfl) (.v _)) .nil))) (natPow_c h30) ?_
    iterate 5 refine pu rfl (by simp only [go_sem, Nat.reduceBEq]; try with_reducible rfl) ?_
    refine fs ?_
    refine sr (N' := 768) rfl ?_
    iterate 2 refine pu rfl (by simp only [go_sem, Nat.reduceBEq]; try with_reducible rfl) ?_
    obtain ⟨⟨r34, r35⟩, h33, hm⟩ := bnd hm
    refine ARun.callQ (r := .tup [.sl (r34.flatMap (ci .u32)) r34.length false, .v (.int .i64 r35)]) (by decide) (by try simp only [go_sem, Nat.reduceBEq]; try rfl) fb12 (fun H => (.cons (td (by try simp only [go_sem, Nat.reduceBEq]; try rfl) ((CFi .u32).sl _ _ _)) (.cons (td (by try simp only [go_sem, Nat.reduceBEq]; try rfl) ((CFi .u32).sl _ _ _)) .nil))) (natMul_c h33) ?_
    iterate 5 refine pu rfl (by simp only [go_sem, Nat.reduceBEq]; try with_reducible rfl) ?_
    refine fs ?_
    refine sr (N' := 832) rfl ?_
    iterate 4 refine pu rfl (by simp only [go_sem, Nat.reduceBEq]; try with_reducible rfl) ?_
    obtain ⟨⟨r37, r38⟩, h36, hm⟩ := bnd hm
    refine ARun.callQ (r := .tup [.sl (r37.flatMap (ci .u32)) r37.length false, .v (.int .i64 r38)]) (by decide) (by try simp only [go_sem, Nat.reduceBEq]; try rfl) fb23 (fun H => (.cons (td (by try simp only [go_sem, Nat.reduceBEq]; try rfl) ((CFi .u32).sl _ _ _)) (.cons (td (by try simp only [go_sem, Nat.reduceBEq]; try rfl) (.v _)) .nil))) (natPow_c h36) ?_
    iterate 5 refine pu rfl (by simp only [go_sem, Nat.reduceBEq]; try with_reducible rfl) ?_
    refine fs ?_
    refine sr (N' := 896) rfl ?_
    iterate 13 (first | refine pu rfl (by simp only [go_sem, Nat.reduceBEq]; try with_reducible rfl) ?_ | refine pg rfl rfl (by simp only [go_sem, Nat.reduceBEq]; try with_reducible rfl) (by intro hb; simp only [go_sem, Nat.reduceBEq, hb, Bool.true_and]; try with_reducible rfl) ?_)
    obtain ⟨r40, h39, hm⟩ := bnd hm
    refine ARun.callQG (r := .v (.bool r40)) (by decide) rfl (by simp only [go_sem, Nat.reduceBEq]; try with_reducible rfl) (by try simp only [go_sem, Nat.reduceBEq]; try rfl) fb16 (fun hb H => (.cons (td (by try simp only [go_sem, Nat.reduceBEq, hb, Bool.true_and]; try rfl) ((CFi .u32).sl _ _ _)) (.cons (td (by try simp only [go_sem, Nat.reduceBEq, hb, Bool.true_and]; try rfl) ((CFi .u32).sl _ _ _)) .nil))) (fun hb => refSame_c (gopt_t h39 hb)) ?_
    iterate 4 (first | refine pu rfl (by simp only [go_sem, Nat.reduceBEq]; try with_reducible rfl) ?_ | refine pg rfl rfl (by simp only [go_sem, Nat.reduceBEq]; try with_reducible rfl) (by intro hb; simp only [go_sem, Nat.reduceBEq, hb, Bool.true_and]; try with_reducible rfl) ?_)
    obtain ⟨r42, h41, hm⟩ := bnd hm
    refine ARun.callQG (r := .v (.bool r42)) (by decide) rfl (by simp only [go_sem, Nat.reduceBEq]; try with_reducible rfl) (by try simp only [go_sem, Nat.reduceBEq]; try rfl) fb16 (fun hb H => (.cons (td (by try simp only [go_sem, Nat.reduceBEq, hb, Bool.true_and]; try rfl) ((CFi .u32).sl _ _ _)) (.cons (td (by try simp only [go_sem, Nat.reduceBEq, hb, Bool.true_and]; try rfl) ((CFi .u32).sl _ _ _)) .nil))) (fun hb => refSame_c (gopt_t h41 hb)) ?_
    iterate 4 (first | refine pu rfl (by simp only [go_sem, Nat.reduceBEq]; try with_reducible rfl) ?_ | refine pg rfl rfl (by simp only [go_sem, Nat.reduceBEq]; try with_reducible rfl) (by intro hb; simp only [go_sem, Nat.reduceBEq, hb, Bool.true_and]; try with_reducible rfl) ?_)
    obtain ⟨r44, h43, hm⟩ := bnd hm
    refine ARun.callQG (r := .v (.bool r44)) (by decide) rfl (by simp only [go_sem, Nat.reduceBEq]; try with_reducible rfl) (by try simp only [go_sem, Nat.reduceBEq]; try rfl) fb16 (fun hb H => (.cons (td (by try simp only [go_sem, Nat.reduceBEq, hb, Bool.true_and]; try rfl) ((CFi .u32).sl _ _ _)) (.cons (td (by try simp only [go_sem, Nat.reduceBEq, hb, Bool.true_and]; try rfl) ((CFi .u32).sl _ _ _)) .nil))) (fun hb => refSame_c (gopt_t h43 hb)) ?_
    iterate 4 (first | refine pu rfl (by simp only [go_sem, Nat.reduceBEq]; try with_reducible rfl) ?_ | refine pg rfl rfl (by simp only [go_sem, Nat.reduceBEq]; try with_reducible rfl) (by intro hb; simp only [go_sem, Nat.reduceBEq, hb, Bool.true_and]; try with_reducible rfl) ?_)
    obtain ⟨r46, h45, hm⟩ := bnd hm
    refine ARun.callQG (r := .v (.int .i64 r46)) (by decide) rfl (by simp only [go_sem, Nat.reduceBEq]; try with_reducible rfl) (by try simp only [go_sem, Nat.reduceBEq]; try rfl) fb13 (fun hb H => (.cons (td (by try simp only [go_sem, Nat.reduceBEq, hb, Bool.true_and]; try rfl) ((CFi .u32).sl _ _ _)) (.cons (td (by try simp only [go_sem, Nat.reduceBEq, hb, Bool.true_and]; try rfl) ((CFi .u32).sl _ _ _)) .nil))) (fun hb => natCmp_c (gopt_t h45 hb)) ?_
    iterate 2 refine pg rfl rfl (by simp only [go_sem, Nat.reduceBEq]; try with_reducible rfl) (by intro hb; simp only [go_sem, Nat.reduceBEq, hb, Bool.true_and]; try with_reducible rfl) ?_
    obtain ⟨r48, h47, hm⟩ := bnd hm
    refine ARun.callQG (r := .v (.int .i64 r48)) (by decide) rfl (by simp only [go_sem, Nat.reduceBEq]; try with_reducible rfl) (by try simp only [go_sem, Nat.reduceBEq]; try rfl) fb13 (fun hb H => (.cons (td (by try simp only [go_sem, Nat.reduceBEq, hb, Bool.true_and]; try rfl) ((CFi .u32).sl _ _ _)) (.cons (td (by try simp only [go_sem, Nat.reduceBEq, hb, Bool.true_and]; try rfl) ((CFi .u32).sl _ _ _)) .nil))) (fun hb => natCmp_c (gopt_t h47 hb)) ?_
    iterate 6 (first | refine pu rfl (by simp only [go_sem, Nat.reduceBEq]; try with_reducible rfl) ?_ | refine pg rfl rfl (by simp only [go_sem, Nat.reduceBEq]; try with_reducible rfl) (by intro hb; simp only [go_sem, Nat.reduceBEq, hb, Bool.true_and]; try with_reducible rfl) ?_)
    obtain ⟨r50, h49, hm⟩ := bnd hm
    refine ARun.callQG (r := .v (.int .i64 r50)) (by decide) rfl (by simp only [go_sem, Nat.reduceBEq]; try with_reducible rfl) (by try simp only [go_sem, Nat.reduceBEq]; try rfl) fb13 (fun hb H => (.cons (td (by try simp only [go_sem, Nat.reduceBEq, hb, Bool.true_and]; try rfl) ((CFi .u32).sl _ _ _)) (.cons (td (by try simp only [go_sem, Nat.reduceBEq, hb, Bool.true_and]; try rfl) ((CFi .u32).sl _ _ _)) .nil))) (fun hb => natCmp_c (gopt_t h49 hb)) ?_
    iterate 3 refine pg rfl rfl (by simp only [go_sem, Nat.reduceBEq]; try with_reducible rfl) (by intro hb; simp only [go_sem, Nat.reduceBEq, hb, Bool.true_and]; try with_reducible rfl) ?_
    obtain ⟨r52, h51, hm⟩ := bnd hm
    refine ARun.callQG (r := .v (.bool r52)) (by decide) rfl (by simp only [go_sem, Nat.reduceBEq]; try with_reducible rfl) (by try simp only [go_sem, Nat.reduceBEq]; try rfl) fb16 (fun hb H => (.cons (td (by try simp only [go_sem, Nat.reduceBEq, hb, Bool.true_and]; try rfl) ((CFi .u32).sl _ _ _)) (.cons (td (by try simp only [go_sem, Nat.reduceBEq, hb, Bool.true_and]; try rfl) ((CFi .u32).sl _ _ _)) .nil))) (fun hb => refSame_c (gopt_t h51 hb)) ?_
    iterate 3 (first | refine pu rfl (by simp only [go_sem, Nat.reduceBEq]; try with_reducible rfl) ?_ | refine pg rfl rfl (by simp only [go_sem, Nat.reduceBEq]; try with_reducible rfl) (by intro hb; simp only [go_sem, Nat.reduceBEq, hb, Bool.true_and]; try with_reducible rfl) ?_)
    obtain ⟨r54, h53, hm⟩ := bnd hm
    refine ARun.callQG (r := .v (.bool r54)) (by decide) rfl (by simp only [go_sem, Nat.reduceBEq]; try with_reducible rfl) (by try simp only [go_sem, Nat.reduceBEq]; try rfl) fb10 (fun hb H => .nil) (fun hb => natAwake_c (gopt_t h53 hb)) ?_
    iterate 2 refine pu rfl (by simp only [go_sem, Nat.reduceBEq]; try with_reducible rfl) ?_
    refine fs ?_
    refine AWp.ret ?_
    cases hm
    exact ret1D (.inr rfl) Try.results6 (td (by try simp only [go_sem, Nat.reduceBEq]; try rfl) (.v _))
def NatOf_J2 (a_0 : Int) (b_1 : Int) (s_5 : List Int) (e_6 : Int) (m_7 : List Int) (f_8 : Int) (c_9 : Int) : Option (Bool) :=
  ((gopt (((e_6 == 0) && (f_8 == 0)) == true) [] (natOf_m (IntKind.u64.wrap ((IntKind.u64.wrap a_0) + (IntKind.u64.wrap b_1))))).bind fun r16 =>
  ((gopt (((e_6 == 0) && (f_8 == 0)) == true) false (refSame_m s_5 r16)).bind fun r18 =>
  ((gopt ((((e_6 == 0) && (f_8 == 0)) && r18) == true) [] (natOf_m (IntKind.u64.wrap ((IntKind.u64.wrap a_0) * (IntKind.u64.wrap b_1))))).bind fun r20 =>
  ((gopt ((((e_6 == 0) && (f_8 == 0)) && r18) == true) false (refSame_m m_7 r20)).bind fun r22 =>
  ((gopt (((((e_6 == 0) && (f_8 == 0)) && r18) && r22) == true) [] (natOf_m (IntKind.u64.wrap a_0))).bind fun r24 =>
  ((gopt (((((e_6 == 0) && (f_8 == 0)) && r18) && r22) == true) [] (natOf_m (IntKind.u64.wrap b_1))).bind fun r26 =>
  ((gopt (((((e_6 == 0) && (f_8 == 0)) && r18) && r22) == true) 0 (natCmp_m r24 r26)).bind fun r28 =>
  ((gopt ((((((e_6 == 0) && (f_8 == 0)) && r18) && r22) && (r28 == c_9)) == true) false (natAwake_m )).bind fun r30 =>
  some ((((((e_6 == 0) && (f_8 == 0)) && r18) && r22) && (r28 == c_9)) && r30)))))))))
def NatOf_J1 (a_0 : Int) (b_1 : Int) (s_5 : List Int) (e_6 : Int) (m_7 : List Int) (f_8 : Int) (c_9 : Int) : Option (Bool) :=
  (bif (decide (b_1 < a_0)) then
    NatOf_J2 a_0 b_1 s_5 e_6 m_7 f_8 1
  else
    NatOf_J2 a_0 b_1 s_5 e_6 m_7 f_8 c_9)
def NatOf_m (a_0 : Int) (b_1 : Int) : Option (Bool) :=
  ((natOf_m (IntKind.u64.wrap a_0)).bind fun r2 =>
  ((natOf_m (IntKind.u64.wrap b_1)).bind fun r4 =>
  ((natAdd_m r2 r4).bind fun ⟨r6, r7⟩ =>
  ((natOf_m (IntKind.u64.wrap a_0)).bind fun r9 =>
  ((natOf_m (IntKind.u64.wrap b_1)).bind fun r11 =>
  ((natMul_m r9 r11).bind fun ⟨r13, r14⟩ =>
  (bif (decide (a_0 < b_1)) then
    NatOf_J1 a_0 b_1 r6 r7 r13 r14 (-1)
  else
    NatOf_J1 a_0 b_1 r6 r7 r13 r14 0)))))))
theorem NatOf_c {a_0 : Int} {b_1 : Int} {r : Bool} (hm : NatOf_m a_0 b_1 = some r) : PureC Try.prog 7 [.v (.int .u32 a_0), .v (.int .u32 b_1)] (.v (.bool r)) := by
  refine PureC.of_body Try.func7 rfl ?_
  simp only [Try.ntmps7, List.length_cons, List.length_nil, Nat.reduceAdd, Nat.reduceSub, empty_eq]
  unfold NatOf_m at hm
  refine sr (N' := 64) rfl ?_
  refine pu rfl (by simp only [go_sem, Nat.reduceBEq]; try with_reducible rfl) ?_
  refine fs ?_
  refine sr (N' := 128) rfl ?_
  iterate 2 refine pu rfl (by simp only [go_sem, Nat.reduceBEq]; try with_reducible rfl) ?_
  obtain ⟨r2, h1, hm⟩ := bnd hm
  refine ARun.callQ (r := .sl (r2.flatMap (ci .u32)) r2.length false) (by decide) (by try simp only [go_sem, Nat.reduceBEq]; try rfl) fb17 (fun H => (.cons (td (by try simp only [go_sem, Nat.reduceBEq]; try rfl) (.v _)) .nil)) (natOf_c h1) ?_
  iterate 2 refine pu rfl (by simp only [go_sem, Nat.reduceBEq]; try with_reducible rfl) ?_
  obtain ⟨r4, h3, hm⟩ := bnd hm
  refine ARun.callQ (r := .sl (r4.flatMap (ci .u32)) r4.length false) (by decide) (by try simp only [go_sem, Nat.reduceBEq]; try rfl) fb17 (fun H => (.cons (td (by try simp only [go_sem, Nat.reduceBEq]; try rfl) (.v _)) .nil)) (natOf_c h3) ?_
  obtain ⟨⟨r6, r7⟩, h5, hm⟩ := bnd hm
  refine ARun.callQ (r := .tup [.sl (r6.flatMap (ci .u32)) r6.length false, .v (.int .i64 r7)]) (by decide) (by try simp only [go_sem, Nat.reduceBEq]; try rfl) fb11 (fun H => (.cons (td (by try simp only [go_sem, Nat.reduceBEq]; try rfl) ((CFi .u32).sl _ _ _)) (.cons (td (by try simp only [go_sem, Nat.reduceBEq]; try rfl) ((CFi .u32).sl _ _ _)) .nil))) (natAdd_c h5) ?_
  iterate 5 refine pu rfl (by simp only [go_sem, Nat.reduceBEq]; try with_reducible rfl) ?_
  refine fs ?_
  refine sr (N' := 192) rfl ?_
  iterate 2 refine pu rfl (by simp only [go_sem, Nat.reduceBEq]; try with_reducible rfl) ?_
  obtain ⟨r9, h8, hm⟩ := bnd hm
  refine ARun.callQ (r := .sl (r9.flatMap (ci .u32)) r9.length false) (by decide) (by try simp only [go_sem, Nat.reduceBEq]; try rfl) fb17 (fun H => (.cons (td (by try simp only [go_sem, Nat.reduceBEq]; try rfl) (.v _)) .nil)) (natOf_c h8) ?_
  iterate 2 refine pu rfl (by simp only [go_sem, Nat.reduceBEq]; try with_reducible rfl) ?_
  obtain ⟨r11, h10, hm⟩ := bnd hm
  refine ARun.callQ (r := .sl (r11.flatMap (ci .u32)) r11.length false) (by decide) (by try simp only [go_sem, Nat.reduceBEq]; try rfl) fb17 (fun H => (.cons (td (by try simp only [go_sem, Nat.reduceBEq]; try rfl) (.v _)) .nil)) (natOf_c h10) ?_
  obtain ⟨⟨r13, r14⟩, h12, hm⟩ := bnd hm
  refine ARun.callQ (r := .tup [.sl (r13.flatMap (ci .u32)) r13.length false, .v (.int .i64 r14)]) (by decide) (by try simp only [go_sem, Nat.reduceBEq]; try rfl) fb12 (fun H => (.cons (td (by try simp only [go_sem, Nat.reduceBEq]; try rfl) ((CFi .u32).sl _ _ _)) (.cons (td (by try simp only [go_sem, Nat.reduceBEq]; try rfl) ((CFi .u32).sl _ _ _)) .nil))) (natMul_c h12) ?_
  iterate 5 refine pu rfl (by simp only [go_sem, Nat.reduceBEq]; try with_reducible rfl) ?_
  refine fs ?_
  refine sr (N' := 256) rfl ?_
  refine pu rfl (by simp only [go_sem, Nat.reduceBEq]; try with_reducible rfl) ?_
  refine fs ?_
  refine AWp.seqJ (fun s => ∃ (a_0 : Int) (b_1 : Int) (s_5 : List Int) (e_6 : Int) (m_7 : List Int) (f_8 : Int) (c_9 : Int), s = (⟨76, (fset (fset (fset (fset (fset (fset (fset (fun _ => AV.any) 0 (.v (.int .u32 a_0))) 1 (.v (.int .u32 b_1))) 5 (.sl (s_5.flatMap (ci .u32)) s_5.length false)) 6 (.v (.int .i64 e_6))) 7 (.sl (m_7.flatMap (ci .u32)) m_7.length false)) 8 (.v (.int .i64 f_8))) 9 (.v (.int .i64 c_9))), ⟨nofresh, 64⟩⟩ : St) ∧ NatOf_J1 a_0 b_1 s_5 e_6 m_7 f_8 c_9 = some r) ?_ ?_
  · refine sr (N' := 320) rfl ?_
    iterate 3 refine pu rfl (by simp only [go_sem, Nat.reduceBEq]; try with_reducible rfl) ?_
    refine fs ?_
    refine AWp.condM hm (by try simp only [go_sem, Nat.reduceBEq]; try rfl) (fun _ hm => ?_) (fun _ hm => ?_)
    · refine AWp.reg 64 (N' := 384) rfl ?_
      refine pu rfl (by simp only [go_sem, Nat.reduceBEq]; try with_reducible rfl) ?_
      refine ARun.fin ?_
      refine normJ ?_
      refine ⟨_, ?_, a_0, b_1, r6, r7, r13, r14, (-1), rfl, hm⟩
      exact le_canon id (wk_fset _ _ (wk_data (by try simp only [go_sem, Nat.reduceBEq]; try rfl) (.v _)) (wk_fset _ _ (wk_data (by try simp only [go_sem, Nat.reduceBEq]; try rfl) (.v _)) (wk_fset _ _ (wk_data (by try simp only [go_sem, Nat.reduceBEq]; try rfl) ((CFi .u32).sl _ _ _)) (wk_fset _ _ (wk_data (by try simp only [go_sem, Nat.reduceBEq]; try rfl) (.v _)) (wk_fset _ _ (wk_data (by try simp only [go_sem, Nat.reduceBEq]; try rfl) ((CFi .u32).sl _ _ _)) (wk_fset _ _ (wk_data (by try simp only [go_sem, Nat.reduceBEq]; try rfl) (.v _)) (wk_fset _ _ (wk_data (by try simp only [go_sem, Nat.reduceBEq]; try rfl) (.v _)) wk_none))))))) heapWk0
    · refine AWp.skip ?_
      refine normJ ?_
      refine ⟨_, ?_, a_0, b_1, r6, r7, r13, r14, 0, rfl, hm⟩
      exact le_canon id (wk_fset _ _ (wk_data (by try simp only [go_sem, Nat.reduceBEq]; try rfl) (.v _)) (wk_fset _ _ (wk_data (by try simp only [go_sem, Nat.reduceBEq]; try rfl) (.v _)) (wk_fset _ _ (wk_data (by try simp only [go_sem, Nat.reduceBEq]; try rfl) ((CFi .u32).sl _ _ _)) (wk_fset _ _ (wk_data (by try simp only [go_sem, Nat.reduceBEq]; try rfl) (.v _)) (wk_fset _ _ (wk_data (by try simp only [go_sem, Nat.reduceBEq]; try rfl) ((CFi .u32).sl _ _ _)) (wk_fset _ _ (wk_data (by try simp only [go_sem, Nat.reduceBEq]; try rfl) (.v _)) (wk_fset _ _ (wk_data (by try simp only [go_sem, Nat.reduceBEq]; try rfl) (.v _)) wk_none))))))) heapWk0
  · rintro s ⟨a_0, b_1, s_5, e_6, m_7, f_8, c_9, rfl, hm⟩
    unfold NatOf_J1 at hm
    refine AWp.seqJ (fun s => ∃ (a_0 : Int) (b_1 : Int) (s_5 : List Int) (e_6 : Int) (m_7 : List Int) (f_8 : Int) (c_9 : Int), s = (⟨76, (fset (fset (fset (fset (fset (fset (fset (fun _ => AV.any) 0 (.v (.int .u32 a_0))) 1 (.v (.int .u32 b_1))) 5 (.sl (s_5.flatMap (ci .u32)) s_5.length false)) 6 (.v (.int .i64 e_6))) 7 (.sl (m_7.flatMap (ci .u32)) m_7.length false)) 8 (.v (.int .i64 f_8))) 9 (.v (.int .i64 c_9))), ⟨nofresh, 64⟩⟩ : St) ∧ NatOf_J2 a_0 b_1 s_5 e_6 m_7 f_8 c_9 = some r) ?_ ?_
    · refine sr (N' := 128) rfl ?_
      iterate 3 refine pu rfl (by simp only [go_sem, Nat.reduceBEq]; try with_reducible rfl) ?_
      refine fs ?_
      refine AWp.condM hm (by try simp only [go_sem, Nat.reduceBEq]; try rfl) (fun _ hm => ?_) (fun _ hm => ?_)
      · refine AWp.reg 64 (N' := 192) rfl ?_
        refine pu rfl (by simp only [go_sem, Nat.reduceBEq]; try with_reducible rfl) ?_
        refine ARun.fin ?_
        refine normJ ?_
        refine ⟨_, ?_, a_0, b_1, s_5, e_6, m_7, f_8, 1, rfl, hm⟩
        exact le_canon id (wk_fset _ _ (wk_data (by try simp only [go_sem, Nat.reduceBEq]; try rfl) (.v _)) (wk_fset _ _ (wk_data (by try simp only [go_sem, Nat.reduceBEq]; try rfl) (.v _)) (wk_fset _ _ (wk_data (by try simp only [go_sem, Nat.reduceBEq]; try rfl) ((CFi .u32).sl _ _ _)) (wk_fset _ _ (wk_data (by try simp only [go_sem, Nat.reduceBEq]; try rfl) (.v _)) (wk_fset _ _ (wk_data (by try simp only [go_sem, Nat.reduceBEq]; try rfl) ((CFi .u32).sl _ _ _)) (wk_fset _ _ (wk_data (by try simp only [go_sem, Nat.reduceBEq]; try rfl) (.v _)) (wk_fset _ _ (wk_data (by try simp only [go_sem, Nat.reduceBEq]; try rfl) (.v _)) wk_none))))))) heapWk0
      · refine AWp.skip ?_
        refine normJ ?_
        refine ⟨_, ?_, a_0, b_1, s_5, e_6, m_7, f_8, c_9, rfl, hm⟩
        exact le_canon id (wk_fset _ _ (wk_data (by try simp only [go_sem, Nat.reduceBEq]; try rfl) (.v _)) (wk_fset _ _ (wk_data (by try simp only [go_sem, Nat.reduceBEq]; try rfl) (.v _)) (wk_fset _ _ (wk_data (by try simp only [go_sem, Nat.reduceBEq]; try rfl) ((CFi .u32).sl _ _ _)) (wk_fset _ _ (wk_data (by try simp only [go_sem, Nat.reduceBEq]; try rfl) (.v _)) (wk_fset _ _ (wk_data (by try simp only [go_sem, Nat.reduceBEq]; try rfl) ((CFi .u32).sl _ _ _)) (wk_fset _ _ (wk_data (by try simp only [go_sem, Nat.reduceBEq]; try rfl) (.v _)) (wk_fset _ _ (wk_data (by try simp only [go_sem, Nat.reduceBEq]; try rfl) (.v _)) wk_none))))))) heapWk0
    · rintro s ⟨a_0, b_1, s_5, e_6, m_7, f_8, c_9, rfl, hm⟩
      unfold NatOf_J2 at hm
      refine sr (N' := 128) rfl ?_
      iterate 13 (first | refine pu rfl (by simp only [go_sem, Nat.reduceBEq]; try with_reducible rfl) ?_ | refine pg rfl rfl (by simp only [go_sem, Nat.reduceBEq]; try with_reducible rfl) (by intro hb; simp only [go_sem, Nat.reduceBEq, hb, Bool.true_and]; try with_reducible rfl) ?_)
      obtain ⟨r16, h15, hm⟩ := bnd hm
      refine ARun.callQG (r := .sl (r16.flatMap (ci .u32)) r16.length false) (by decide) rfl (by simp only [go_sem, Nat.reduceBEq]; try with_reducible rfl) (by try simp only [go_sem, Nat.reduceBEq]; try rfl) fb17 (fun hb H => (.cons (td (by try simp only [go_sem, Nat.reduceBEq, hb, Bool.true_and]; try rfl) (.v _)) .nil)) (fun hb => natOf_c (gopt_t h15 hb)) ?_
      obtain ⟨r18, h17, hm⟩ := bnd hm
      refine ARun.callQG (r := .v (.bool r18)) (by decide) rfl (by simp only [go_sem, Nat.reduceBEq]; try with_reducible rfl) (by try simp only [go_sem, Nat.reduceBEq]; try rfl) fb16 (fun hb H => (.cons (td (by try simp only [go_sem, Nat.reduceBEq, hb, Bool.true_and]; try rfl) ((CFi .u32).sl _ _ _)) (.cons (td (by try simp only [go_sem, Nat.reduceBEq, hb, Bool.true_and]; try rfl) ((CFi .u32).sl _ _ _)) .nil))) (fun hb => refSame_c (gopt_t h17 hb)) ?_
      iterate 8 (first | refine pu rfl (by simp only [go_sem, Nat.reduceBEq]; try with_reducible rfl) ?_ | refine pg rfl rfl (by simp only [go_sem, Nat.reduceBEq]; try with_reducible rfl) (by intro hb; simp only [go_sem, Nat.reduceBEq, hb, Bool.true_and]; try with_reducible rfl) ?_)
      obtain ⟨r20, h19, hm⟩ := bnd hm
      refine ARun.callQG (r := .sl (r20.flatMap (ci .u32)) r20.length false) (by decide) rfl (by simp only [go_sem, Nat.reduceBEq]; try with_reducible rfl) (by try simp only [go_sem, Nat.reduceBEq]; try rfl) fb17 (fun hb H => (.cons (td (by try simp only [go_sem, Nat.reduceBEq, hb, Bool.true_and]; try rfl) (.v _)) .nil)) (fun hb => natOf_c (gopt_t h19 hb)) ?_
      obtain ⟨r22, h21, hm⟩ := bnd hm
      refine ARun.callQG (r := .v (.bool r22)) (by decide) rfl (by simp only [go_sem, Nat.reduceBEq]; try with_reducible rfl) (by try simp only [go_sem, Nat.reduceBEq]; try rfl) fb16 (fun hb H => (.cons (td (by try simp only [go_sem, Nat.reduceBEq, hb, Bool.true_and]; try rfl) ((CFi .u32).sl _ _ _)) (.cons (td (by try simp only [go_sem, Nat.reduceBEq, hb, Bool.true_and]; try rfl) ((CFi .u32).sl _ _ _)) .nil))) (fun hb => refSame_c (gopt_t h21 hb)) ?_
      iterate 4 (first | refine pu rfl (by simp only [go_sem, Nat.reduceBEq]; try with_reducible rfl) ?_ | refine pg rfl rfl (by simp only [go_sem, Nat.reduceBEq]; try with_reducible rfl) (by intro hb; simp only [go_sem, Nat.reduceBEq, hb, Bool.true_and]; try with_reducible rfl) ?_)
      obtain ⟨r24, h23, hm⟩ := bnd hm
      refine ARun.callQG (r := .sl (r24.flatMap (ci .u32)) r24.length false) (by decide) rfl (by simp only [go_sem, Nat.reduceBEq]; try with_reducible rfl) (by try simp only [go_sem, Nat.reduceBEq]; try rfl) fb17 (fun hb H => (.cons (td (by try simp only [go_sem, Nat.reduceBEq, hb, Bool.true_and]; try rfl) (.v _)) .nil)) (fun hb => natOf_c (gopt_t h23 hb)) ?_
      iterate 2 refine pg rfl rfl (by simp only [go_sem, Nat.reduceBEq]; try with_reducible rfl) (by intro hb; simp only [go_sem, Nat.reduceBEq, hb, Bool.true_and]; try with_reducible rfl) ?_
      obtain ⟨r26, h25, hm⟩ := bnd hm
      refine ARun.callQG (r := .sl (r26.flatMap (ci .u32)) r26.length false) (by decide) rfl (by simp only [go_sem, Nat.reduceBEq]; try with_reducible rfl) (by try simp only [go_sem, Nat.reduceBEq]; try rfl) fb17 (fun hb H => (.cons (td (by try simp only [go_sem, Nat.reduceBEq, hb, Bool.true_and]; try rfl) (.v _)) .nil)) (fun hb => natOf_c (gopt_t h25 hb)) ?_
      obtain ⟨r28, h27, hm⟩ := bnd hm
      refine ARun.callQG (r := .v (.int .i64 r28)) (by decide) rfl (by simp only [go_sem, Nat.reduceBEq]; try with_reducible rfl) (by try simp only [go_sem, Nat.reduceBEq]; try rfl) fb13 (fun hb H => (.cons (td (by try simp only [go_sem, Nat.reduceBEq, hb, Bool.true_and]; try rfl) ((CFi .u32).sl _ _ _)) (.cons (td (by try simp only [go_sem, Nat.reduceBEq, hb, Bool.true_and]; try rfl) ((CFi .u32).sl _ _ _)) .nil))) (fun hb => natCmp_c (gopt_t h27 hb)) ?_
      iterate 4 (first | refine pu rfl (by simp only [go_sem, Nat.reduceBEq]; try with_reducible rfl) ?_ | refine pg rfl rfl (by simp only [go_sem, Nat.reduceBEq]; try with_reducible rfl) (by intro hb; simp only [go_sem, Nat.reduceBEq, hb, Bool.true_and]; try with_reducible rfl) ?_)
      obtain ⟨r30, h29, hm⟩ := bnd hm
      refine ARun.callQG (r := .v (.bool r30)) (by decide) rfl (by simp only [go_sem, Nat.reduceBEq]; try with_reducible rfl) (by try simp only [go_sem, Nat.reduceBEq]; try rfl) fb10 (fun hb H => .nil) (fun hb => natAwake_c (gopt_t h29 hb)) ?_
      iterate 2 refine pu rfl (by simp only [go_sem, Nat.reduceBEq]; try with_reducible rfl) ?_
      refine fs ?_
      refine AWp.ret ?_
      cases hm
      exact ret1D (.inr rfl) Try.results7 (td (by try simp only [go_sem, Nat.reduceBEq]; try rfl) (.v _))
def NatSquare_m (a_0 : List Int) (b_1 : List Int) : Option (Bool) :=
  ((gopt (((decide (20 < (a_0.length : Int))) || (decide (20 < (b_1.length : Int)))) == false) false (natRight_m a_0)).bind fun r2 =>
  ((gopt ((((decide (20 < (a_0.length : Int))) || (decide (20 < (b_1.length : Int)))) || (!r2)) == false) false (natRight_m b_1)).bind fun r4 =>
  (bif ((((decide (20 < (a_0.length : Int))) || (decide (20 < (b_1.length : Int)))) || (!r2)) || (!r4)) then
    ((natAwake_m ).bind fun r6 =>
    some r6)
  else
    ((natAdd_m a_0 b_1).bind fun ⟨r8, r9⟩ =>
    ((natMul_m r8 r8).bind fun ⟨r11, r12⟩ =>
    ((natMul_m a_0 a_0).bind fun ⟨r14, r15⟩ =>
    ((natMul_m b_1 b_1).bind fun ⟨r17, r18⟩ =>
    ((natMul_m a_0 b_1).bind fun ⟨r20, r21⟩ =>
    ((natOf_m 2).bind fun r23 =>
    ((natMul_m r20 r23).bind fun ⟨r25, r26⟩ =>
    ((natAdd_m r14 r17).bind fun ⟨r28, r29⟩ =>
    ((natAdd_m r28 r25).bind fun ⟨r31, r32⟩ =>
    ((gopt (((r12 == 0) && (r32 == 0)) == true) false (refSame_m r11 r31)).bind fun r34 =>
    ((gopt ((((r12 == 0) && (r32 == 0)) && r34) == true) false (natAwake_m )).bind fun r36 =>
    some ((((r12 == 0) && (r32 == 0)) && r34) && r36)))))))))))))))
theorem NatSquare_c {a_0 : List Int} {b_1 : List Int} {r : Bool} (hm : NatSquare_m a_0 b_1 = some r) : PureC Try.prog 8 [.sl (a_0.flatMap (ci .u32)) a_0.length false, .sl (b_1.flatMap (ci .u32)) b_1.length false] (.v (.bool r)) := by
  refine PureC.of_body Try.func8 rfl ?_
  simp only [Try.ntmps8, List.length_cons, List.length_nil, Nat.reduceAdd, Nat.reduceSub, empty_eq]
  unfold NatSquare_m at hm
  refine sr (N' := 64) rfl ?_
  refine pu rfl (by simp only [go_sem, Nat.reduceBEq]; try with_reducible rfl) ?_
  refine fs ?_
  refine AWp.seq' ?_
  refine sr (N' := 128) rfl ?_
  iterate 10 (first | refine pu rfl (by simp only [go_sem, Nat.reduceBEq]; try with_reducible rfl) ?_ | refine pg rfl rfl (by simp only [go_sem, Nat.reduceBEq]; try with_reducible rfl) (by intro hb; simp only [go_sem, Nat.reduceBEq, hb, Bool.true_and]; try with_reducible rfl) ?_)
  obtain ⟨r2, h1, hm⟩ := bnd hm
  refine ARun.callQG (r := .v (.bool r2)) (by decide) rfl (by simp only [go_sem, Nat.reduceBEq]; try with_reducible rfl) (by try simp only [go_sem, Nat.reduceBEq]; try rfl) fb15 (fun hb H => (.cons (td (by try simp only [go_sem, Nat.reduceBEq, hb, Bool.true_and]; try rfl) ((CFi .u32).sl _ _ _)) .nil)) (fun hb => natRight_c (gopt_t h1 hb)) ?_
  iterate 4 (first | refine pu rfl (by simp only [go_sem, Nat.reduceBEq]; try with_reducible rfl) ?_ | refine pg rfl rfl (by simp only [go_sem, Nat.reduceBEq]; try with_reducible rfl) (by intro hb; simp only [go_sem, Nat.reduceBEq, hb, Bool.true_and]; try with_reducible rfl) ?_)
  obtain ⟨r4, h3, hm⟩ := bnd hm
  refine ARun.callQG (r := .v (.bool r4)) (by decide) rfl (by simp only [go_sem, Nat.reduceBEq]; try with_reducible rfl) (by try simp only [go_sem, Nat.reduceBEq]; try rfl) fb15 (fun hb H => (.cons (td (by try simp only [go_sem, Nat.reduceBEq, hb, Bool.true_and]; try rfl) ((CFi .u32).sl _ _ _)) .nil)) (fun hb => natRight_c (gopt_t h3 hb)) ?_
  iterate 2 (first | refine pu rfl (by simp only [go_sem, Nat.reduceBEq]; try with_reducible rfl) ?_ | refine pg rfl rfl (by simp only [go_sem, Nat.reduceBEq]; try with_reducible rfl) (by intro hb; simp only [go_sem, Nat.reduceBEq, hb, Bool.true_and]; try with_reducible rfl) ?_)
  refine fs ?_
  refine AWp.condM hm (by try simp only [go_sem, Nat.reduceBEq]; try rfl) (fun _ hm => ?_) (fun _ hm => ?_)
  · refine sr (N' := 192) rfl ?_
    obtain ⟨r6, h5, hm⟩ := bnd hm
    refine ARun.callQ (r := .v (.bool r6)) (by decide) (by try simp only [go_sem, Nat.reduceBEq]; try rfl) fb10 (fun H => .nil) (natAwake_c h5) ?_
    refine pu rfl (by simp only [go_sem, Nat.reduceBEq]; try with_reducible rfl) ?_
    refine fs ?_
    refine AWp.ret ?_
    refine retSeq ?_
    cases hm
    exact ret1D (.inr rfl) Try.results8 (td (by try simp only [go_sem, Nat.reduceBEq]; try rfl) (.v _))
  · refine AWp.skip ?_
    refine normSeq ?_
    refine sr (N' := 192) rfl ?_
    iterate 2 refine pu rfl (by simp only [go_sem, Nat.reduceBEq]; try with_reducible rfl) ?_
    obtain ⟨⟨r8, r9⟩, h7, hm⟩ := bnd hm
    refine ARun.callQ (r := .tup [.sl (r8.flatMap (ci .u32)) r8.length false, .v (.int .i64 r9)]) (by decide) (by try simp only [go_sem, Nat.reduceBEq]; try rfl) fb11 (fun H => (.cons (td (by try simp only [go_sem, Nat.reduceBEq]; try rfl) ((CFi .u32).sl _ _ _)) (.cons (td (by try simp only [go_sem, Nat.reduceBEq]; try rfl) ((CFi .u32).sl _ _ _)) .nil))) (natAdd_c h7) ?_
    iterate 5 refine pu rfl (by simp only [go_sem, Nat.reduceBEq]; try with_reducible rfl) ?_
    refine fs ?_
    refine sr (N' := 256) rfl ?_
    iterate 2 refine pu rfl (by simp only [go_sem, Nat.reduceBEq]; try with_reducible rfl) ?_
    obtain ⟨⟨r11, r12⟩, h10, hm⟩ := bnd hm
    refine ARun.callQ (r := .tup [.sl (r11.flatMap (ci .u32)) r11.length false, .v (.int .i64 r12)]) (by decide) (by try simp only [go_sem, Nat.reduceBEq]; try rfl) fb12 (fun H => (.cons (td (by try simp only [go_sem, Nat.reduceBEq]; try rfl) ((CFi .u32).sl _ _ _)) (.cons (td (by try simp only [go_sem, Nat.reduceBEq]; try rfl) ((CFi .u32).sl _ _ _)) .nil))) (natMul_c h10) ?_
    iterate 5 refine pu rfl (by simp only [go_sem, Nat.reduceBEq]; try with_reducible rfl) ?_
    refine fs ?_
    refine sr (N' := 320) rfl ?_
    iterate 2 refine pu rfl (by simp only [go_sem, Nat.reduceBEq]; try with_reducible rfl) ?_
    obtain ⟨⟨r14, r15⟩, h13, hm⟩ := bnd hm
    refine ARun.callQ (r := .tup [.sl (r14.flatMap (ci .u32)) r14.length false, .v (.int .i64 r15)]) (by decide) (by try simp only [go_sem, Nat.reduceBEq]; try rfl) fb12 (fun H => (.cons (td (by try simp only [go_sem, Nat.reduceBEq]; try rfl) ((CFi .u32).sl _ _ _)) (.cons (td (by try simp only [go_sem, Nat.reduceBEq]; try rfl) ((CFi .u32).sl _ _ _)) .nil))) (natMul_c h13) ?_
    iterate 5 refine pu rfl (by simp only [go_sem, Nat.reduceBEq]; try with_reducible rfl) ?_
    refine fs ?_
    refine sr (N' := 384) rfl ?_
    iterate 2 refine pu rfl (by simp only [go_sem, Nat.reduceBEq]; try with_reducible rfl) ?_
    obtain ⟨⟨r17, r18⟩, h16, hm⟩ := bnd hm
    refine ARun.callQ (r := .tup [.sl (r17.flatMap (ci .u32)) r17.length false, .v (.int .i64 r18)]) (by decide) (by try simp only [go_sem, Nat.reduceBEq]; try rfl) fb12 (fun H => (.cons (td (by try simp only [go_sem, Nat.reduceBEq]; try rfl) ((CFi .u32).sl _ _ _)) (.cons (td (by try simp only [go_sem, Nat.reduceBEq]; try rfl) ((CFi .u32).sl _ _ _)) .nil))) (natMul_c h16) ?_
    iterate 5 refine pu rfl (by simp only [go_sem, Nat.reduceBEq]; try with_reducible rfl) ?_
    refine fs ?_
    refine sr (N' := 448) rfl ?_
    iterate 2 refine pu rfl (by simp only [go_sem, Nat.reduceBEq]; try with_reducible rfl) ?_
    obtain ⟨⟨r20, r21⟩, h19, hm⟩ := bnd hm
    refine ARun.callQ (r := .tup [.sl (r20.flatMap (ci .u32)) r20.length false, .v (.int .i64 r21)]) (by decide) (by try simp only [go_sem, Nat.reduceBEq]; try rfl) fb12 (fun H => (.cons (td (by try simp only [go_sem, Nat.reduceBEq]; try rfl) ((CFi .u32).sl _ _ _)) (.cons (td (by try simp only [go_sem, Nat.reduceBEq]; try rfl) ((CFi .u32).sl _ _ _)) .nil))) (natMul_c h19) ?_
    iterate 5 refine pu rfl (by simp only [go_sem, Nat.reduceBEq]; try with_reducible rfl) ?_
    refine fs ?_
    refine sr (N' := 512) rfl ?_
    refine pu rfl (by simp only [go_sem, Nat.reduceBEq]; try with_reducible rfl) ?_
    obtain ⟨r23, h22, hm⟩ := bnd hm
    refine ARun.callQ (r := .sl (r23.flatMap (ci .u32)) r23.length false) (by decide) (by try simp only [go_sem, Nat.reduceBEq]; try rfl) fb17 (fun H => (.cons (td (by try simp only [go_sem, Nat.reduceBEq]; try rfl) (.v _)) .nil)) (natOf_c h22) ?_
    obtain ⟨⟨r25, r26⟩, h24, hm⟩ := bnd hm
    refine ARun.callQ (r := .tup [.sl (r25.flatMap (ci .u32)) r25.length false, .v (.int .i64 r26)]) (by decide) (by try simp only [go_sem, Nat.reduceBEq]; try rfl) fb12 (fun H => (.cons (td (by try simp only [go_sem, Nat.reduceBEq]; try rfl) ((CFi .u32).sl _ _ _)) (.cons (td (by try simp only [go_sem, Nat.reduceBEq]; try rfl) ((CFi .u32).sl _ _ _)) .nil))) (natMul_c h24) ?_
    iterate 4 refine pu rfl (by simp only [go_sem, Nat.reduceBEq]; try with_reducible rfl) ?_
    refine fs ?_
    refine sr (N' := 576) rfl ?_
    iterate 2 refine pu rfl (by simp only [go_sem, Nat.reduceBEq]; try with_reducible rfl) ?_
    obtain ⟨⟨r28, r29⟩, h27, hm⟩ := bnd hm
    refine ARun.callQ (r := .tup [.sl (r28.flatMap (ci .u32)) r28.length false, .v (.int .i64 r29)]) (by decide) (by try simp only [go_sem, Nat.reduceBEq]; try rfl) fb11 (fun H => (.cons (td (by try simp only [go_sem, Nat.reduceBEq]; try rfl) ((CFi .u32).sl _ _ _)) (.cons (td (by try simp only [go_sem, Nat.reduceBEq]; try rfl) ((CFi .u32).sl _ _ _)) .nil))) (natAdd_c h27) ?_
    iterate 5 refine pu rfl (by simp only [go_sem, Nat.reduceBEq]; try with_reducible rfl) ?_
    refine fs ?_
    refine sr (N' := 640) rfl ?_
    iterate 2 refine pu rfl (by simp only [go_sem, Nat.reduceBEq]; try with_reducible rfl) ?_
    obtain ⟨⟨r31, r32⟩, h30, hm⟩ := bnd hm
    refine ARun.callQ (r := .tup [.sl (r31.flatMap (ci .u32)) r31.length false, .v (.int .i64 r32)]) (by decide) (by try simp only [go_sem, Nat.reduceBEq]; try rfl) fb11 (fun H => (.cons (td (by try simp only [go_sem, Nat.reduceBEq]; try rfl) ((CFi .u32).sl _ _ _)) (.cons (td (by try simp only [go_sem, Nat.reduceBEq]; try rfl) ((CFi .u32).sl _ _ _)) .nil))) (natAdd_c h30) ?_
    iterate 5 refine pu rfl (by simp only [go_sem, Nat.reduceBEq]; try with_reducible rfl) ?_
    refine fs ?_
    refine sr (N' := 704) rfl ?_
    iterate 9 (first | refine pu rfl (by simp only [go_sem, Nat.reduceBEq]; try with_reducible rfl) ?_ | refine pg rfl rfl (by simp only [go_sem, Nat.reduceBEq]; try with_reducible rfl) (by intro hb; simp only [go_sem, Nat.reduceBEq, hb, Bool.true_and]; try with_reducible rfl) ?_)
    obtain ⟨r34, h33, hm⟩ := bnd hm
    refine ARun.callQG (r := .v (.bool r34)) (by decide) rfl (by simp only [go_sem, Nat.reduceBEq]; try with_reducible rfl) (by try simp only [go_sem, Nat.reduceBEq]; try rfl) fb16 (fun hb H => (.cons (td (by try simp only [go_sem, Nat.reduceBEq, hb, Bool.true_and]; try rfl) ((CFi .u32).sl _ _ _)) (.cons (td (by try simp only [go_sem, Nat.reduceBEq, hb, Bool.true_and]; try rfl) ((CFi .u32).sl _ _ _)) .nil))) (fun hb => refSame_c (gopt_t h33 hb)) ?_
    iterate 2 refine pu rfl (by simp only [go_sem, Nat.reduceBEq]; try with_reducible rfl) ?_
    obtain ⟨r36, h35, hm⟩ := bnd hm
    refine ARun.callQG (r := .v (.bool r36)) (by decide) rfl (by simp only [go_sem, Nat.reduceBEq]; try with_reducible rfl) (by try simp only [go_sem, Nat.reduceBEq]; try rfl) fb10 (fun hb H => .nil) (fun hb => natAwake_c (gopt_t h35 hb)) ?_
    iterate 2 refine pu rfl (by simp only [go_sem, Nat.reduceBEq]; try with_reducible rfl) ?_
    refine fs ?_
    refine AWp.ret ?_
    cases hm
    exact ret1D (.inr rfl) Try.results8 (td (by try simp only [go_sem, Nat.reduceBEq]; try rfl) (.v _))
def NatOrder_m (a_0 : List Int) (b_1 : List Int) (c_2 : List Int) : Option (Bool) :=
  ((gopt ((((decide (20 < (a_0.length : Int))) || (decide (20 < (b_1.length : Int)))) || (decide (20 < (c_2.length : Int)))) == false) false (natRight_m a_0)).bind fun r2 =>
  ((gopt (((((decide (20 < (a_0.length : Int))) || (decide (20 < (b_1.length : Int)))) || (decide (20 < (c_2.length : Int)))) || (!r2)) == false) false (natRight_m b_1)).bind fun r4 =>
  ((gopt ((((((decide (20 < (a_0.length : Int))) || (decide (20 < (b_1.length : Int)))) || (decide (20 < (c_2.length : Int)))) || (!r2)) || (!r4)) == false) false (natRight_m c_2)).bind fun r6 =>
  (bif ((((((decide (20 < (a_0.length : Int))) || (decide (20 < (b_1.length : Int)))) || (decide (20 < (c_2.length : Int)))) || (!r2)) || (!r4)) || (!r6)) then
    ((natAwake_m ).bind fun r8 =>
    some r8)
  else
    ((natCmp_m a_0 b_1).bind fun r10 =>
    ((natCmp_m b_1 c_2).bind fun r12 =>
    ((natCmp_m a_0 c_2).bind fun r14 =>
    ((natAdd_m a_0 c_2).bind fun ⟨r16, r17⟩ =>
    ((natAdd_m b_1 c_2).bind fun ⟨r19, r20⟩ =>
    ((natMul_m a_0 c_2).bind fun ⟨r22, r23⟩ =>
    ((natMul_m b_1 c_2).bind fun ⟨r25, r26⟩ =>
    ((natCmp_m r16 r19).bind fun r28 =>
    ((gopt (((r28 != r10) == false) && ((decide (0 < (c_2.length : Int))) == true)) 0 (natCmp_m r22 r25)).bind fun r30 =>
    (bif (((r28 != r10) || ((decide (0 < (c_2.length : Int))) && (r30 != r10))) || (((c_2.length : Int) == 0) && ((IntKind.i64.wrap ((r22.length : Int) + (r25.length : Int))) != 0))) then
      some false
    else
      ((gopt (((((decide (0 < r10)) || (decide (0 < r12))) || (decide (r14 ≤ 0))) && (((decide (r10 < 0)) || (decide (r12 < 0))) || (decide (0 ≤ r14)))) == true) false (natAwake_m )).bind fun r32 =>
      some (((((decide (0 < r10)) || (decide (0 < r12))) || (decide (r14 ≤ 0))) && (((decide (r10 < 0)) || (decide (r12 < 0))) || (decide (0 ≤ r14)))) && r32))))))))))))))))
theorem NatOrder_c {a_0 : List Int} {b_1 : List Int} {c_2 : List Int} {r : Bool} (hm : NatOrder_m a_0 b_1 c_2 = some r) : PureC Try.prog 9 [.sl (a_0.flatMap (ci .u32)) a_0.length false, .sl (b_1.flatMap (ci .u32)) b_1.length false, .sl (c_2.flatMap (ci .u32)) c_2.length false] (.v (.bool r)) := by
  refine PureC.of_body Try.func9 rfl ?_
  simp only [Try.ntmps9, List.length_cons, List.length_nil, Nat.reduceAdd, Nat.reduceSub, empty_eq]
  unfold NatOrder_m at hm
  refine sr (N' := 64) rfl ?_
  refine pu rfl (by simp only [go_sem, Nat.reduceBEq]; try with_reducible rfl) ?_
  refine fs ?_
  refine AWp.seq' ?_
  refine sr (N' := 128) rfl ?_
  iterate 15 (first | refine pu rfl (by simp only [go_sem, Nat.reduceBEq]; try with_reducible rfl) ?_ | refine pg rfl rfl (by simp only [go_sem, Nat.reduceBEq]; try with_reducible rfl) (by intro hb; simp only [go_sem, Nat.reduceBEq, hb, Bool.true_and]; try with_reducible rfl) ?_)
  obtain ⟨r2, h1, hm⟩ := bnd hm
  refine ARun.callQG (r := .v (.bool r2)) (by decide) rfl (by simp only [go_sem, Nat.reduceBEq]; try with_reducible rfl) (by try simp only [go_sem, Nat.reduceBEq]; try rfl) fb15 (fun hb H => (.cons (td (by try simp only [go_sem, Nat.reduceBEq, hb, Bool.true_and]; try rfl) ((CFi .u32).sl _ _ _)) .nil)) (fun hb => natRight_c (gopt_t h1 hb)) ?_
  iterate 4 (first | refine pu rfl (by simp only [go_sem, Nat.reduceBEq]; try with_reducible rfl) ?_ | refine pg rfl rfl (by simp only [go_sem, Nat.reduceBEq]; try with_reducible rfl) (by intro hb; simp only [go_sem, Nat.reduceBEq, hb, Bool.true_and]; try with_reducible rfl) ?_)
  obtain ⟨r4, h3, hm⟩ := bnd hm
  refine ARun.callQG (r := .v (.bool r4)) (by decide) rfl (by simp only [go_sem, Nat.reduceBEq]; try with_reducible rfl) (by try simp only [go_sem, Nat.reduceBEq]; try rfl) fb15 (fun hb H => (.cons (td (by try simp only [go_sem, Nat.reduceBEq, hb, Bool.true_and]; try rfl) ((CFi .u32).sl _ _ _)) .nil)) (fun hb => natRight_c (gopt_t h3 hb)) ?_
  iterate 4 (first | refine pu rfl (by simp only [go_sem, Nat.reduceBEq]; try with_reducible rfl) ?_ | refine pg rfl rfl (by simp only [go_sem, Nat.reduceBEq]; try with_reducible rfl) (by intro hb; simp only [go_sem, Nat.reduceBEq, hb, Bool.true_and]; try with_reducible rfl) ?_)
  obtain ⟨r6, h5, hm⟩ := bnd hm
  refine ARun.callQG (r := .v (.bool r6)) (by decide) rfl (by simp only [go_sem, Nat.reduceBEq]; try with_reducible rfl) (by try simp only [go_sem, Nat.reduceBEq]; try rfl) fb15 (fun hb H => (.cons (td (by try simp only [go_sem, Nat.reduceBEq, hb, Bool.true_and]; try rfl) ((CFi .u32).sl _ _ _)) .nil)) (fun hb => natRight_c (gopt_t h5 hb)) ?_
  iterate 2 (first | refine pu rfl (by simp only [go_sem, Nat.reduceBEq]; try with_reducible rfl) ?_ | refine pg rfl rfl (by simp only [go_sem, Nat.reduceBEq]; try with_reducible rfl) (by intro hb; simp only [go_sem, Nat.reduceBEq, hb, Bool.true_and]; try with_reducible rfl) ?_)
  refine fs ?_
  refine AWp.condM hm (by try simp only [go_sem, Nat.reduceBEq]; try rfl) (fun _ hm => ?_) (fun _ hm => ?_)
  · refine sr (N' := 192) rfl ?_
    obtain ⟨r8, h7, hm⟩ := bnd hm
    refine ARun.callQ (r := .v (.bool r8)) (by decide) (by try simp only [go_sem, Nat.reduceBEq]; try rfl) fb10 (fun H => .nil) (natAwake_c h7) ?_
    refine pu rfl (by simp only [go_sem, Nat.reduceBEq]; try with_reducible rfl) ?_
    refine fs ?_
    refine AWp.ret ?_
    refine retSeq ?_
    cases hm
    exact ret1D (.inr rfl) Try.results9 (td (by try simp only [go_sem, Nat.reduceBEq]; try rfl) (.v _))
  · refine AWp.skip ?_
    refine normSeq ?_
    refine sr (N' := 192) rfl ?_
    iterate 2 refine pu rfl (by simp only [go_sem, Nat.reduceBEq]; try with_reducible rfl) ?_
    obtain ⟨r10, h9, hm⟩ := bnd hm
    refine ARun.callQ (r := .v (.int .i64 r10)) (by decide) (by try simp only [go_sem, Nat.reduceBEq]; try rfl) fb13 (fun H => (.cons (td (by try simp only [go_sem, Nat.reduceBEq]; try rfl) ((CFi .u32).sl _ _ _)) (.cons (td (by try simp only [go_sem, Nat.reduceBEq]; try rfl) ((CFi .u32).sl _ _ _)) .nil))) (natCmp_c h9) ?_
    iterate 2 refine pu rfl (by simp only [go_sem, Nat.reduceBEq]; try with_reducible rfl) ?_
    obtain ⟨r12, h11, hm⟩ := bnd hm
    refine ARun.callQ (r := .v (.int .i64 r12)) (by decide) (by try simp only [go_sem, Nat.reduceBEq]; try rfl) fb13 (fun H => (.cons (td (by try simp only [go_sem, Nat.reduceBEq]; try rfl) ((CFi .u32).sl _ _ _)) (.cons (td (by try simp only [go_sem, Nat.reduceBEq]; try rfl) ((CFi .u32).sl _ _ _)) .nil))) (natCmp_c h11) ?_
    iterate 2 refine pu rfl (by simp only [go_sem, Nat.reduceBEq]; try with_reducible rfl) ?_
    obtain ⟨r14, h13, hm⟩ := bnd hm
    refine ARun.callQ (r := .v (.int .i64 r14)) (by decide) (by try simp only [go_sem, Nat.reduceBEq]; try rfl) fb13 (fun H => (.cons (td (by try simp only [go_sem, Nat.reduceBEq]; try rfl) ((CFi .u32).sl _ _ _)) (.cons (td (by try simp only [go_sem, Nat.reduceBEq]; try rfl) ((CFi .u32).sl _ _ _)) .nil))) (natCmp_c h13) ?_
    iterate 3 refine pu rfl (by simp only [go_sem, Nat.reduceBEq]; try with_reducible rfl) ?_
    refine fs ?_
    refine sr (N' := 256) rfl ?_
    iterate 2 refine pu rfl (by simp only [go_sem, Nat.reduceBEq]; try with_reducible rfl) ?_
    obtain ⟨⟨r16, r17⟩, h15, hm⟩ := bnd hm
    refine ARun.callQ (r := .tup [.sl (r16.flatMap (ci .u32)) r16.length false, .v (.int .i64 r17)]) (by decide) (by try simp only [go_sem, Nat.reduceBEq]; try rfl) fb11 (fun H => (.cons (td (by try simp only [go_sem, Nat.reduceBEq]; try rfl) ((CFi .u32).sl _ _ _)) (.cons (td (by try simp only [go_sem, Nat.reduceBEq]; try rfl) ((CFi .u32).sl _ _ _)) .nil))) (natAdd_c h15) ?_
    iterate 5 refine pu rfl (by simp only [go_sem, Nat.reduceBEq]; try with_reducible rfl) ?_
    refine fs ?_
    refine sr (N' := 320) rfl ?_
    iterate 2 refine pu rfl (by simp only [go_sem, Nat.reduceBEq]; try with_reducible rfl) ?_
    obtain ⟨⟨r19, r20⟩, h18, hm⟩ := bnd hm
    refine ARun.callQ (r := .tup [.sl (r19.flatMap (ci .u32)) r19.length false, .v (.int .i64 r20)]) (by decide) (by try simp only [go_sem, Nat.reduceBEq]; try rfl) fb11 (fun H => (.cons (td (by try simp only [go_sem, Nat.reduceBEq]; try rfl) ((CFi .u32).sl _ _ _)) (.cons (td (by try simp only [go_sem, Nat.reduceBEq]; try rfl) ((CFi .u32).sl _ _ _)) .nil))) (natAdd_c h18) ?_
    iterate 5 refine pu rfl (by simp only [go_sem, Nat.reduceBEq]; try with_reducible rfl) ?_
    refine fs ?_
    refine sr (N' := 384) rfl ?_
    iterate 2 refine pu rfl (by simp only [go_sem, Nat.reduceBEq]; try with_reducible rfl) ?_
    obtain ⟨⟨r22, r23⟩, h21, hm⟩ := bnd hm
    refine ARun.callQ (r := .tup [.sl (r22.flatMap (ci .u32)) r22.length false, .v (.int .i64 r23)]) (by decide) (by try simp only [go_sem, Nat.reduceBEq]; try rfl) fb12 (fun H => (.cons (td (by try simp only [go_sem, Nat.reduceBEq]; try rfl) ((CFi .u32).sl _ _ _)) (.cons (td (by try simp only [go_sem, Nat.reduceBEq]; try rfl) ((CFi .u32).sl _ _ _)) .nil))) (natMul_c h21) ?_
    iterate 5 refine pu rfl (by simp only [go_sem, Nat.reduceBEq]; try with_reducible rfl) ?_
    refine fs ?_
    refine sr (N' := 448) rfl ?_
    iterate 2 refine pu rfl (by simp only [go_sem, Nat.reduceBEq]; try with_reducible rfl) ?_
    obtain ⟨⟨r25, r26⟩, h24, hm⟩ := bnd hm
    refine ARun.callQ (r := .tup [.sl (r25.flatMap (ci .u32)) r25.length false, .v (.int .i64 r26)]) (by decide) (by try simp only [go_sem, Nat.reduceBEq]; try rfl) fb12 (fun H => (.cons (td (by try simp only [go_sem, Nat.reduceBEq]; try rfl) ((CFi .u32).sl _ _ _)) (.cons (td (by try simp only [go_sem, Nat.reduceBEq]; try rfl) ((CFi .u32).sl _ _ _)) .nil))) (natMul_c h24) ?_
    iterate 5 refine pu rfl (by simp only [go_sem, Nat.reduceBEq]; try with_reducible rfl) ?_
    refine fs ?_
    refine AWp.seq' ?_
    refine sr (N' := 512) rfl ?_
    iterate 2 refine pu rfl (by simp only [go_sem, Nat.reduceBEq]; try with_reducible rfl) ?_
    obtain ⟨r28, h27, hm⟩ := bnd hm
    refine ARun.callQ (r := .v (.int .i64 r28)) (by decide) (by try simp only [go_sem, Nat.reduceBEq]; try rfl) fb13 (fun H => (.cons (td (by try simp only [go_sem, Nat.reduceBEq]; try rfl) ((CFi .u32).sl _ _ _)) (.cons (td (by try simp only [go_sem, Nat.reduceBEq]; try rfl) ((CFi .u32).sl _ _ _)) .nil))) (natCmp_c h27) ?_
    iterate 9 (first | refine pu rfl (by simp only [go_sem, Nat.reduceBEq]; try with_reducible rfl) ?_ | refine pg rfl rfl (by simp only [go_sem, Nat.reduceBEq]; try with_reducible rfl) (by intro hb; simp only [go_sem, Nat.reduceBEq, hb, Bool.true_and]; try with_reducible rfl) ?_)
    obtain ⟨r30, h29, hm⟩ := bnd hm
    refine ARun.callQG (r := .v (.int .i64 r30)) (by decide) rfl (by simp only [go_sem, Nat.reduceBEq]; try with_reducible rfl) (by try simp only [go_sem, Nat.reduceBEq]; try rfl) fb13 (fun hb H => (.cons (td (by try simp only [go_sem, Nat.reduceBEq, hb, Bool.true_and]; try rfl) ((CFi .u32).sl _ _ _)) (.cons (td (by try simp only [go_sem, Nat.reduceBEq, hb, Bool.true_and]; try rfl) ((CFi .u32).sl _ _ _)) .nil))) (fun hb => natCmp_c (gopt_t h29 hb)) ?_
    iterate 17 (first | refine pu rfl (by simp only [go_sem, Nat.reduceBEq]; try with_reducible rfl) ?_ | refine pg rfl rfl (by simp only [go_sem, Nat.reduceBEq]; try with_reducible rfl) (by intro hb; simp only [go_sem, Nat.reduceBEq, hb, Bool.true_and]; try with_reducible rfl) ?_)
    refine fs ?_
    refine AWp.condM hm (by try simp only [go_sem, Nat.reduceBEq]; try rfl) (fun _ hm => ?_) (fun _ hm => ?_)
    · refine sr (N' := 576) rfl ?_
      refine pu rfl (by simp only [go_sem, Nat.reduceBEq]; try with_reducible rfl) ?_
      refine fs ?_
      refine AWp.ret ?_
      refine retSeq ?_
      cases hm
      exact ret1D (.inr rfl) Try.results9 (td (by try simp only [go_sem, Nat.reduceBEq]; try rfl) (.v _))
    · refine AWp.skip ?_
      refine normSeq ?_
      refine sr (N' := 576) rfl ?_
      iterate 23 (first | refine pu rfl (by simp only [go_sem, Nat.reduceBEq]; try with_reducible rfl) ?_ | refine pg rfl rfl (by simp only [go_sem, Nat.reduceBEq]; try with_reducible rfl) (by intro hb; simp only [go_sem, Nat.reduceBEq, hb, Bool.true_and]; try with_reducible rfl) ?_)
      obtain ⟨r32, h31, hm⟩ := bnd hm
      refine ARun.callQG (r := .v (.bool r32)) (by decide) rfl (by simp only [go_sem, Nat.reduceBEq]; try with_reducible rfl) (by try simp only [go_sem, Nat.reduceBEq]; try rfl) fb10 (fun hb H => .nil) (fun hb => natAwake_c (gopt_t h31 hb)) ?_
      iterate 2 refine pu rfl (by simp only [go_sem, Nat.reduceBEq]; try with_reducible rfl) ?_
      refine fs ?_
      refine AWp.ret ?_
      cases hm
      exact ret1D (.inr rfl) Try.results9 (td (by try simp only [go_sem, Nat.reduceBEq]; try rfl) (.v _))
end Go.Proofs.Ytghcecjegcakkaa
