/- Plain functions in lockstep with the code, and that the code computes them. (Printed by a program.) -/
import Derived.Test.YtkkhgcllbbffaaaAmD
import Derived.Test.YtkkhgcllbbffaaaFacts
set_option linter.unusedVariables false
set_option linter.unusedSimpArgs false
set_option maxRecDepth 20000
set_option maxHeartbeats 4000000
namespace Go.Proofs.Ytkkhgcllbbffaaa
open Go Go.AM
theorem ld3NatM (H : Heap) (x : AV) (xs : List AV) : aload Try.prog H 3 (.ptr (x :: xs)) = some x := by kernel_rfl
attribute [go_sem] ld3NatM
theorem ld44NatM (H : Heap) (x : AV) (xs : List AV) : aload Try.prog H 44 (.ptr (x :: xs)) = some x := by kernel_rfl
attribute [go_sem] ld44NatM
theorem cv3_53NatM (H : Heap) (k : IntKind) (n : Int) : aconv Try.prog H 3 53 (.v (.int k n)) = some (.v (.int .u64 (IntKind.u64.wrap n))) := aconv_int Try.underlying3 Try.underlying53
attribute [go_sem] cv3_53NatM
theorem cv39_44NatM (H : Heap) (k : IntKind) (n : Int) : aconv Try.prog H 39 44 (.v (.int k n)) = some (.v (.int .u32 (IntKind.u32.wrap n))) := aconv_int Try.underlying39 Try.underlying44
attribute [go_sem] cv39_44NatM
theorem cv44_3NatM (H : Heap) (k : IntKind) (n : Int) : aconv Try.prog H 44 3 (.v (.int k n)) = some (.v (.int .i64 (IntKind.i64.wrap n))) := aconv_int Try.underlying44 Try.underlying3
attribute [go_sem] cv44_3NatM
theorem cv44_39NatM (H : Heap) (k : IntKind) (n : Int) : aconv Try.prog H 44 39 (.v (.int k n)) = some (.v (.int .u64 (IntKind.u64.wrap n))) := aconv_int Try.underlying44 Try.underlying39
attribute [go_sem] cv44_39NatM
def natRight_m (a_0 : List Int) : Option (Bool) :=
  ((gopt (((decide ((a_0.length : Int) ≤ 64)) == true) && (((a_0.length : Int) == 0) == false)) 0 (idx a_0 (IntKind.i64.wrap ((a_0.length : Int) - 1)))).bind fun x2 =>
  some ((decide ((a_0.length : Int) ≤ 64)) && (((a_0.length : Int) == 0) || (x2 != 0))))
theorem natRight_c {a_0 : List Int} {r : Bool} (hm : natRight_m a_0 = some r) : PureC Try.prog 33 [.sl (a_0.flatMap (ci .u32)) a_0.length false] (.v (.bool r)) := by
  refine PureC.of_body Try.func33 rfl ?_
  simp only [Try.ntmps33, List.length_cons, List.length_nil, Nat.reduceAdd, Nat.reduceSub, empty_eq]
  unfold natRight_m at hm
  refine sr (N' := 64) rfl ?_
  refine pu rfl (by simp only [go_sem, Nat.reduceBEq]; try with_reducible rfl) ?_
  refine fs ?_
  refine sr (N' := 128) rfl ?_
  iterate 12 (first | refine pu rfl (by simp only [go_sem, Nat.reduceBEq]; try with_reducible rfl) ?_ | refine pg rfl rfl (by simp only [go_sem, Nat.reduceBEq]; try with_reducible rfl) (by intro hb; simp only [go_sem, Nat.reduceBEq, hb, Bool.true_and]; try with_reducible rfl) ?_)
  obtain ⟨x2, h1, hm⟩ := bnd hm
  refine pg rfl rfl (by simp only [go_sem, Nat.reduceBEq]; try with_reducible rfl) (fun hb => (ap_idx (CFi .u32) (by decide) Try.underlying24 sz44 (by try simp only [go_sem, Nat.reduceBEq, hb, Bool.true_and]; try rfl) rfl (by try simp only [go_sem, Nat.reduceBEq, hb, Bool.true_and]; try rfl) (gopt_t h1 hb))) ?_
  iterate 5 (first | refine pu rfl (by simp only [go_sem, Nat.reduceBEq]; try with_reducible rfl) ?_ | refine pg rfl rfl (by simp only [go_sem, Nat.reduceBEq]; try with_reducible rfl) (by intro hb; simp only [go_sem, Nat.reduceBEq, hb, Bool.true_and]; try with_reducible rfl) ?_)
  refine fs ?_
  refine AWp.ret ?_
  cases hm
  exact ret1D (.inr rfl) Try.results33 (td (by try simp only [go_sem, Nat.reduceBEq]; try rfl) (.v _))
def isNaNi_m (x_0 : Int) : Option (Bool) :=
  some (x_0 != x_0)
theorem isNaNi_c {x_0 : Int} {r : Bool} (hm : isNaNi_m x_0 = some r) : PureC Try.prog 42 [.v (.int .i64 x_0)] (.v (.bool r)) := by
  refine PureC.of_body Try.func42 rfl ?_
  simp only [Try.ntmps42, List.length_cons, List.length_nil, Nat.reduceAdd, Nat.reduceSub, empty_eq]
  unfold isNaNi_m at hm
  refine sr (N' := 64) rfl ?_
  refine pu rfl (by simp only [go_sem, Nat.reduceBEq]; try with_reducible rfl) ?_
  refine fs ?_
  refine sr (N' := 128) rfl ?_
  iterate 4 refine pu rfl (by simp only [go_sem, Nat.reduceBEq]; try with_reducible rfl) ?_
  refine fs ?_
  refine AWp.ret ?_
  cases hm
  exact ret1D (.inr rfl) Try.results42 (td (by try simp only [go_sem, Nat.reduceBEq]; try rfl) (.v _))
def isNaNu_m (x_0 : Int) : Option (Bool) :=
  some (x_0 != x_0)
theorem isNaNu_c {x_0 : Int} {r : Bool} (hm : isNaNu_m x_0 = some r) : PureC Try.prog 43 [.v (.int .u32 x_0)] (.v (.bool r)) := by
  refine PureC.of_body Try.func43 rfl ?_
  simp only [Try.ntmps43, List.length_cons, List.length_nil, Nat.reduceAdd, Nat.reduceSub, empty_eq]
  unfold isNaNu_m at hm
  refine sr (N' := 64) rfl ?_
  refine pu rfl (by simp only [go_sem, Nat.reduceBEq]; try with_reducible rfl) ?_
  refine fs ?_
  refine sr (N' := 128) rfl ?_
  iterate 4 refine pu rfl (by simp only [go_sem, Nat.reduceBEq]; try with_reducible rfl) ?_
  refine fs ?_
  refine AWp.ret ?_
  cases hm
  exact ret1D (.inr rfl) Try.results43 (td (by try simp only [go_sem, Nat.reduceBEq]; try rfl) (.v _))
def refSame_B1 (rec1 : List Int → List Int → Int → Option (Bool)) (a_0 : List Int) (b_1 : List Int) (i_5 : Int) : Option (Bool) :=
  (bif (decide (i_5 < (a_0.length : Int))) then
    ((idx a_0 i_5).bind fun x2 =>
    ((idx b_1 i_5).bind fun x4 =>
    (bif (x2 != x4) then
      some false
    else
      rec1 a_0 b_1 (IntKind.i64.wrap (i_5 + 1)))))
  else
    some true)
def refSame_L1 : Nat → List Int → List Int → Int → Option (Bool)
  | 0 => fun _ _ _ => none
  | n + 1 => refSame_B1 (refSame_L1 n)
def refSame_m (a_0 : List Int) (b_1 : List Int) : Option (Bool) :=
  (bif ((a_0.length : Int) != (b_1.length : Int)) then
    some false
  else
    refSame_L1 FUEL a_0 b_1 0)
theorem refSame_c {a_0 : List Int} {b_1 : List Int} {r : Bool} (hm : refSame_m a_0 b_1 = some r) : PureC Try.prog 13 [.sl (a_0.flatMap (ci .u32)) a_0.length false, .sl (b_1.flatMap (ci .u32)) b_1.length false] (.v (.bool r)) := by
  refine PureC.of_body Try.func13 rfl ?_
  simp only [Try.ntmps13, List.length_cons, List.length_nil, Nat.reduceAdd, Nat.reduceSub, empty_eq]
  unfold refSame_m at hm
  refine sr (N' := 64) rfl ?_
  refine pu rfl (by simp only [go_sem, Nat.reduceBEq]; try with_reducible rfl) ?_
  refine fs ?_
  refine AWp.seq' ?_
  refine sr (N' := 128) rfl ?_
  iterate 5 refine pu rfl (by simp only [go_sem, Nat.reduceBEq]; try with_reducible rfl) ?_
  refine fs ?_
  refine AWp.condM hm (by try simp only [go_sem, Nat.reduceBEq]; try rfl) (fun _ hm => ?_) (fun _ hm => ?_)
  · refine sr (N' := 192) rfl ?_
    refine pu rfl (by simp only [go_sem, Nat.reduceBEq]; try with_reducible rfl) ?_
    refine fs ?_
    refine AWp.ret ?_
    refine retSeq ?_
    cases hm
    exact ret1D (.inr rfl) Try.results13 (td (by try simp only [go_sem, Nat.reduceBEq]; try rfl) (.v _))
  · refine AWp.skip ?_
    refine normSeq ?_
    refine AWp.seq' ?_
    refine sr (N' := 192) rfl ?_
    refine pu rfl (by simp only [go_sem, Nat.reduceBEq]; try with_reducible rfl) ?_
    refine fs ?_
    refine AWp.block ?_
    refine AWp.loopM (fun m s => ∃ (a_0 : List Int) (b_1 : List Int) (i_5 : Int), s = (⟨26, (fset (fset (fset (fun _ => AV.any) 0 (.sl (a_0.flatMap (ci .u32)) a_0.length false)) 1 (.sl (b_1.flatMap (ci .u32)) b_1.length false)) 5 (.v (.int .i64 i_5))), ⟨nofresh, 64⟩⟩ : St) ∧ refSame_L1 m a_0 b_1 i_5 = some r) FUEL ?_ ?_ ?_
    · rintro s ⟨_, _, _, _, h⟩
      cases h
    · refine ⟨_, ?_, a_0, b_1, 0, rfl, hm⟩
      exact le_canon id (wk_fset _ _ (wk_data (by try simp only [go_sem, Nat.reduceBEq]; try rfl) (.v _)) (wk_fset _ _ (wk_data (by try simp only [go_sem, Nat.reduceBEq]; try rfl) ((CFi .u32).sl _ _ _)) (wk_fset _ _ (wk_data (by try simp only [go_sem, Nat.reduceBEq]; try rfl) ((CFi .u32).sl _ _ _)) wk_none))) heapWk0
    · rintro n1 s ⟨a_0, b_1, i_5, rfl, hm⟩
      replace hm : refSame_B1 (refSame_L1 n1) a_0 b_1 i_5 = some r := hm
      unfold refSame_B1 at hm
      refine AWp.seq' ?_
      refine sr (N' := 128) rfl ?_
      iterate 4 refine pu rfl (by simp only [go_sem, Nat.reduceBEq]; try with_reducible rfl) ?_
      refine fs ?_
      refine AWp.condM hm (by try simp only [go_sem, Nat.reduceBEq]; try rfl) (fun _ hm => ?_) (fun _ hm => ?_)
      · refine AWp.skip ?_
        refine normSeq ?_
        refine AWp.seq' ?_
        refine AWp.block ?_
        refine sd mix (by kernel_rfl) (N' := 192) rfl ?_
        iterate 2 refine pu rfl (by simp only [go_sem, Nat.reduceBEq]; try with_reducible rfl) ?_
        obtain ⟨x2, h1, hm⟩ := bnd hm
        refine pu rfl (ap_idx (CFi .u32) (by decide) Try.underlying24 sz44 (by try simp only [go_sem, Nat.reduceBEq]; try rfl) rfl (by try simp only [go_sem, Nat.reduceBEq]; try rfl) h1) ?_
        iterate 3 refine pu rfl (by simp only [go_sem, Nat.reduceBEq]; try with_reducible rfl) ?_
        obtain ⟨x4, h3, hm⟩ := bnd hm
        refine pu rfl (ap_idx (CFi .u32) (by decide) Try.underlying24 sz44 (by try simp only [go_sem, Nat.reduceBEq]; try rfl) rfl (by try simp only [go_sem, Nat.reduceBEq]; try rfl) h3) ?_
        iterate 2 refine pu rfl (by simp only [go_sem, Nat.reduceBEq]; try with_reducible rfl) ?_
        refine fs ?_
        refine AWp.condM hm (by try simp only [go_sem, Nat.reduceBEq]; try rfl) (fun _ hm => ?_) (fun _ hm => ?_)
        · refine sr (N' := 256) rfl ?_
          refine pu rfl (by simp only [go_sem, Nat.reduceBEq]; try with_reducible rfl) ?_
          refine fs ?_
          refine AWp.ret ?_
          refine retIn ?_
          refine retSeq ?_
          refine retThen ?_
          refine retIn ?_
          refine retSeq ?_
          cases hm
          exact ret1D (.inr rfl) Try.results13 (td (by try simp only [go_sem, Nat.reduceBEq]; try rfl) (.v _))
        · refine AWp.skip ?_
          refine normIn ?_
          refine normSeq ?_
          refine AWp.reg 64 (N' := 256) rfl ?_
          iterate 3 refine pu rfl (by simp only [go_sem, Nat.reduceBEq]; try with_reducible rfl) ?_
          refine ARun.fin ?_
          refine normThen ?_
          refine ⟨_, ?_, a_0, b_1, (IntKind.i64.wrap (i_5 + 1)), rfl, hm⟩
          exact le_canon id (wk_fset _ _ (wk_data (by try simp only [go_sem, Nat.reduceBEq]; try rfl) (.v _)) (wk_fset _ _ (wk_data (by try simp only [go_sem, Nat.reduceBEq]; try rfl) ((CFi .u32).sl _ _ _)) (wk_fset _ _ (wk_data (by try simp only [go_sem, Nat.reduceBEq]; try rfl) ((CFi .u32).sl _ _ _)) wk_none))) heapWk0
      · refine AWp.exit ?_
        refine exitSeq ?_
        refine exitThen ?_
        refine exitHere ?_
        refine normSeq ?_
        refine sr (N' := 192) rfl ?_
        refine pu rfl (by simp only [go_sem, Nat.reduceBEq]; try with_reducible rfl) ?_
        refine fs ?_
        refine AWp.ret ?_
        cases hm
        exact ret1D (.inr rfl) Try.results13 (td (by try simp only [go_sem, Nat.reduceBEq]; try rfl) (.v _))
def cmpI_m (x_0 : Int) (y_1 : Int) : Option (Int) :=
  ((isNaNi_m x_0).bind fun r2 =>
  ((isNaNi_m y_1).bind fun r4 =>
  (bif r2 then
    (bif r4 then
      some 0
    else
      some (-1))
  else
    (bif r4 then
      some 1
    else
      (bif (decide (x_0 < y_1)) then
        some (-1)
      else
        (bif (decide (y_1 < x_0)) then
          some 1
        else
          some 0))))))
theorem cmpI_c {x_0 : Int} {y_1 : Int} {r : Int} (hm : cmpI_m x_0 y_1 = some r) : PureC Try.prog 38 [.v (.int .i64 x_0), .v (.int .i64 y_1)] (.v (.int .i64 r)) := by
  refine PureC.of_body Try.func38 rfl ?_
  simp only [Try.ntmps38, List.length_cons, List.length_nil, Nat.reduceAdd, Nat.reduceSub, empty_eq]
  unfold cmpI_m at hm
  refine sr (N' := 64) rfl ?_
  refine pu rfl (by simp only [go_sem, Nat.reduceBEq]; try with_reducible rfl) ?_
  refine fs ?_
  refine sr (N' := 128) rfl ?_
  refine pu rfl (by simp only [go_sem, Nat.reduceBEq]; try with_reducible rfl) ?_
  obtain ⟨r2, h1, hm⟩ := bnd hm
  refine ARun.callQ (r := .v (.bool r2)) (by decide) (by try simp only [go_sem, Nat.reduceBEq]; try rfl) fb42 (fun H => (.cons (td (by try simp only [go_sem, Nat.reduceBEq]; try rfl) (.v _)) .nil)) (isNaNi_c h1) ?_
  refine pu rfl (by simp only [go_sem, Nat.reduceBEq]; try with_reducible rfl) ?_
  refine fs ?_
  refine sr (N' := 192) rfl ?_
  refine pu rfl (by simp only [go_sem, Nat.reduceBEq]; try with_reducible rfl) ?_
  obtain ⟨r4, h3, hm⟩ := bnd hm
  refine ARun.callQ (r := .v (.bool r4)) (by decide) (by try simp only [go_sem, Nat.reduceBEq]; try rfl) fb42 (fun H => (.cons (td (by try simp only [go_sem, Nat.reduceBEq]; try rfl) (.v _)) .nil)) (isNaNi_c h3) ?_
  refine pu rfl (by simp only [go_sem, Nat.reduceBEq]; try with_reducible rfl) ?_
  refine fs ?_
  refine AWp.seq' ?_
  refine sr (N' := 256) rfl ?_
  refine pu rfl (by simp only [go_sem, Nat.reduceBEq]; try with_reducible rfl) ?_
  refine fs ?_
  refine AWp.condM hm (by try simp only [go_sem, Nat.reduceBEq]; try rfl) (fun _ hm => ?_) (fun _ hm => ?_)
  · refine AWp.seq' ?_
    refine sr (N' := 320) rfl ?_
    refine pu rfl (by simp only [go_sem, Nat.reduceBEq]; try with_reducible rfl) ?_
    refine fs ?_
    refine AWp.condM hm (by try simp only [go_sem, Nat.reduceBEq]; try rfl) (fun _ hm => ?_) (fun _ hm => ?_)
    · refine sr (N' := 384) rfl ?_
      refine pu rfl (by simp only [go_sem, Nat.reduceBEq]; try with_reducible rfl) ?_
      refine fs ?_
      refine AWp.ret ?_
      refine retSeq ?_
      refine retSeq ?_
      cases hm
      exact ret1D (.inr rfl) Try.results38 (td (by try simp only [go_sem, Nat.reduceBEq]; try rfl) (.v _))
    · refine AWp.skip ?_
      refine normSeq ?_
      refine sr (N' := 384) rfl ?_
      refine pu rfl (by simp only [go_sem, Nat.reduceBEq]; try with_reducible rfl) ?_
      refine fs ?_
      refine AWp.ret ?_
      refine retSeq ?_
      cases hm
      exact ret1D (.inr rfl) Try.results38 (td (by try simp only [go_sem, Nat.reduceBEq]; try rfl) (.v _))
  · refine AWp.skip ?_
    refine normSeq ?_
    refine AWp.seq' ?_
    refine sr (N' := 320) rfl ?_
    refine pu rfl (by simp only [go_sem, Nat.reduceBEq]; try with_reducible rfl) ?_
    refine fs ?_
    refine AWp.condM hm (by try simp only [go_sem, Nat.reduceBEq]; try rfl) (fun _ hm => ?_) (fun _ hm => ?_)
    · refine sr (N' := 384) rfl ?_
      refine pu rfl (by simp only [go_sem, Nat.reduceBEq]; try with_reducible rfl) ?_
      refine fs ?_
      refine AWp.ret ?_
      refine retSeq ?_
      cases hm
      exact ret1D (.inr rfl) Try.results38 (td (by try simp only [go_sem, Nat.reduceBEq]; try rfl) (.v _))
    · refine AWp.skip ?_
      refine normSeq ?_
      refine AWp.seq' ?_
      refine sr (N' := 384) rfl ?_
      iterate 3 refine pu rfl (by simp only [go_sem, Nat.reduceBEq]; try with_reducible rfl) ?_
      refine fs ?_
      refine AWp.condM hm (by try simp only [go_sem, Nat.reduceBEq]; try rfl) (fun _ hm => ?_) (fun _ hm => ?_)
      · refine sr (N' := 448) rfl ?_
        refine pu rfl (by simp only [go_sem, Nat.reduceBEq]; try with_reducible rfl) ?_
        refine fs ?_
        refine AWp.ret ?_
        refine retSeq ?_
        cases hm
        exact ret1D (.inr rfl) Try.results38 (td (by try simp only [go_sem, Nat.reduceBEq]; try rfl) (.v _))
      · refine AWp.skip ?_
        refine normSeq ?_
        refine AWp.seq' ?_
        refine sr (N' := 448) rfl ?_
        iterate 3 refine pu rfl (by simp only [go_sem, Nat.reduceBEq]; try with_reducible rfl) ?_
        refine fs ?_
        refine AWp.condM hm (by try simp only [go_sem, Nat.reduceBEq]; try rfl) (fun _ hm => ?_) (fun _ hm => ?_)
        · refine sr (N' := 512) rfl ?_
          refine pu rfl (by simp only [go_sem, Nat.reduceBEq]; try with_reducible rfl) ?_
          refine fs ?_
          refine AWp.ret ?_
          refine retSeq ?_
          cases hm
          exact ret1D (.inr rfl) Try.results38 (td (by try simp only [go_sem, Nat.reduceBEq]; try rfl) (.v _))
        · refine AWp.skip ?_
          refine normSeq ?_
          refine sr (N' := 512) rfl ?_
          refine pu rfl (by simp only [go_sem, Nat.reduceBEq]; try with_reducible rfl) ?_
          refine fs ?_
          refine AWp.ret ?_
          cases hm
          exact ret1D (.inr rfl) Try.results38 (td (by try simp only [go_sem, Nat.reduceBEq]; try rfl) (.v _))
def cmpU_m (x_0 : Int) (y_1 : Int) : Option (Int) :=
  ((isNaNu_m x_0).bind fun r2 =>
  ((isNaNu_m y_1).bind fun r4 =>
  (bif r2 then
    (bif r4 then
      some 0
    else
      some (-1))
  else
    (bif r4 then
      some 1
    else
      (bif (decide (x_0 < y_1)) then
        some (-1)
      else
        (bif (decide (y_1 < x_0)) then
          some 1
        else
          some 0))))))
theorem cmpU_c {x_0 : Int} {y_1 : Int} {r : Int} (hm : cmpU_m x_0 y_1 = some r) : PureC Try.prog 39 [.v (.int .u32 x_0), .v (.int .u32 y_1)] (.v (.int .i64 r)) := by
  refine PureC.of_body Try.func39 rfl ?_
  simp only [Try.ntmps39, List.length_cons, List.length_nil, Nat.reduceAdd, Nat.reduceSub, empty_eq]
  unfold cmpU_m at hm
  refine sr (N' := 64) rfl ?_
  refine pu rfl (by simp only [go_sem, Nat.reduceBEq]; try with_reducible rfl) ?_
  refine fs ?_
  refine sr (N' := 128) rfl ?_
  refine pu rfl (by simp only [go_sem, Nat.reduceBEq]; try with_reducible rfl) ?_
  obtain ⟨r2, h1, hm⟩ := bnd hm
  refine ARun.callQ (r := .v (.bool r2)) (by decide) (by try simp only [go_sem, Nat.reduceBEq]; try rfl) fb43 (fun H => (.cons (td (by try simp only [go_sem, Nat.reduceBEq]; try rfl) (.v _)) .nil)) (isNaNu_c h1) ?_
  refine pu rfl (by simp only [go_sem, Nat.reduceBEq]; try with_reducible rfl) ?_
  refine fs ?_
  refine sr (N' := 192) rfl ?_
  refine pu rfl (by simp only [go_sem, Nat.reduceBEq]; try with_reducible rfl) ?_
  obtain ⟨r4, h3, hm⟩ := bnd hm
  refine ARun.callQ (r := .v (.bool r4)) (by decide) (by try simp only [go_sem, Nat.reduceBEq]; try rfl) fb43 (fun H => (.cons (td (by try simp only [go_sem, Nat.reduceBEq]; try rfl) (.v _)) .nil)) (isNaNu_c h3) ?_
  refine pu rfl (by simp only [go_sem, Nat.reduceBEq]; try with_reducible rfl) ?_
  refine fs ?_
  refine AWp.seq' ?_
  refine sr (N' := 256) rfl ?_
  refine pu rfl (by simp only [go_sem, Nat.reduceBEq]; try with_reducible rfl) ?_
  refine fs ?_
  refine AWp.condM hm (by try simp only [go_sem, Nat.reduceBEq]; try rfl) (fun _ hm => ?_) (fun _ hm => ?_)
  · refine AWp.seq' ?_
    refine sr (N' := 320) rfl ?_
    refine pu rfl (by simp only [go_sem, Nat.reduceBEq]; try with_reducible rfl) ?_
    refine fs ?_
    refine AWp.condM hm (by try simp only [go_sem, Nat.reduceBEq]; try rfl) (fun _ hm => ?_) (fun _ hm => ?_)
    · refine sr (N' := 384) rfl ?_
      refine pu rfl (by simp only [go_sem, Nat.reduceBEq]; try with_reducible rfl) ?_
      refine fs ?_
      refine AWp.ret ?_
      refine retSeq ?_
      refine retSeq ?_
      cases hm
      exact ret1D (.inr rfl) Try.results39 (td (by try simp only [go_sem, Nat.reduceBEq]; try rfl) (.v _))
    · refine AWp.skip ?_
      refine normSeq ?_
      refine sr (N' := 384) rfl ?_
      refine pu rfl (by simp only [go_sem, Nat.reduceBEq]; try with_reducible rfl) ?_
      refine fs ?_
      refine AWp.ret ?_
      refine retSeq ?_
      cases hm
      exact ret1D (.inr rfl) Try.results39 (td (by try simp only [go_sem, Nat.reduceBEq]; try rfl) (.v _))
  · refine AWp.skip ?_
    refine normSeq ?_
    refine AWp.seq' ?_
    refine sr (N' := 320) rfl ?_
    refine pu rfl (by simp only [go_sem, Nat.reduceBEq]; try with_reducible rfl) ?_
    refine fs ?_
    refine AWp.condM hm (by try simp only [go_sem, Nat.reduceBEq]; try rfl) (fun _ hm => ?_) (fun _ hm => ?_)
    · refine sr (N' := 384) rfl ?_
      refine pu rfl (by simp only [go_sem, Nat.reduceBEq]; try with_reducible rfl) ?_
      refine fs ?_
      refine AWp.ret ?_
      refine retSeq ?_
      cases hm
      exact ret1D (.inr rfl) Try.results39 (td (by try simp only [go_sem, Nat.reduceBEq]; try rfl) (.v _))
    · refine AWp.skip ?_
      refine normSeq ?_
      refine AWp.seq' ?_
      refine sr (N' := 384) rfl ?_
      iterate 3 refine pu rfl (by simp only [go_sem, Nat.reduceBEq]; try with_reducible rfl) ?_
      refine fs ?_
      refine AWp.condM hm (by try simp only [go_sem, Nat.reduceBEq]; try rfl) (fun _ hm => ?_) (fun _ hm => ?_)
      · refine sr (N' := 448) rfl ?_
        refine pu rfl (by simp only [go_sem, Nat.reduceBEq]; try with_reducible rfl) ?_
        refine fs ?_
        refine AWp.ret ?_
        refine retSeq ?_
        cases hm
        exact ret1D (.inr rfl) Try.results39 (td (by try simp only [go_sem, Nat.reduceBEq]; try rfl) (.v _))
      · refine AWp.skip ?_
        refine normSeq ?_
        refine AWp.seq' ?_
        refine sr (N' := 448) rfl ?_
        iterate 3 refine pu rfl (by simp only [go_sem, Nat.reduceBEq]; try with_reducible rfl) ?_
        refine fs ?_
        refine AWp.condM hm (by try simp only [go_sem, Nat.reduceBEq]; try rfl) (fun _ hm => ?_) (fun _ hm => ?_)
        · refine sr (N' := 512) rfl ?_
          refine pu rfl (by simp only [go_sem, Nat.reduceBEq]; try with_reducible rfl) ?_
          refine fs ?_
          refine AWp.ret ?_
          refine retSeq ?_
          cases hm
          exact ret1D (.inr rfl) Try.results39 (td (by try simp only [go_sem, Nat.reduceBEq]; try rfl) (.v _))
        · refine AWp.skip ?_
          refine normSeq ?_
          refine sr (N' := 512) rfl ?_
          refine pu rfl (by simp only [go_sem, Nat.reduceBEq]; try with_reducible rfl) ?_
          refine fs ?_
          refine AWp.ret ?_
          cases hm
          exact ret1D (.inr rfl) Try.results39 (td (by try simp only [go_sem, Nat.reduceBEq]; try rfl) (.v _))
def clipU_m (s_0 : List Int) : Option ((List Int)) :=
  ((slc3 s_0 0 (s_0.length : Int) (s_0.length : Int)).bind fun l2 =>
  some l2)
theorem clipU_c {s_0 : List Int} {r : (List Int)} (hm : clipU_m s_0 = some r) : PureC Try.prog 41 [.sl (s_0.flatMap (ci .u32)) s_0.length false] (.sl (r.flatMap (ci .u32)) r.length false) := by
  refine PureC.of_body Try.func41 rfl ?_
  simp only [Try.ntmps41, List.length_cons, List.length_nil, Nat.reduceAdd, Nat.reduceSub, empty_eq]
  unfold clipU_m at hm
  refine sr (N' := 64) rfl ?_
  refine pu rfl (by simp only [go_sem, Nat.reduceBEq]; try with_reducible rfl) ?_
  refine fs ?_
  refine sr (N' := 128) rfl ?_
  iterate 5 refine pu rfl (by simp only [go_sem, Nat.reduceBEq]; try with_reducible rfl) ?_
  obtain ⟨l2, h1, hm⟩ := bnd hm
  refine pu rfl (ap_slc3 (CFi .u32) Try.underlying24 sz44 (by try simp only [go_sem, Nat.reduceBEq]; try rfl) rfl ab_none0 (ab_some (by try simp only [go_sem, Nat.reduceBEq]; try rfl) (slc3_0 h1).2.1) (ab_some (by try simp only [go_sem, Nat.reduceBEq]; try rfl) (slc3_0 h1).2.2) rfl rfl h1) ?_
  refine pu rfl (by simp only [go_sem, Nat.reduceBEq]; try with_reducible rfl) ?_
  refine fs ?_
  refine AWp.ret ?_
  cases hm
  exact ret1D (.inr rfl) Try.results41 (tdf (by try simp only [go_sem, Nat.reduceBEq]; try rfl) ((CFi .u32).sl _ _ _))
def natTrimmed_B1 (rec1 : List Int → Option ((List Int))) (a_0 : List Int) : Option ((List Int)) :=
  ((gopt ((decide (0 < (a_0.length : Int))) == true) 0 (idx a_0 (IntKind.i64.wrap ((a_0.length : Int) - 1)))).bind fun x2 =>
  (bif ((decide (0 < (a_0.length : Int))) && (x2 == 0)) then
    ((slc a_0 0 (IntKind.i64.wrap ((a_0.length : Int) - 1))).bind fun l4 =>
    rec1 l4)
  else
    ((clipU_m a_0).bind fun r6 =>
    some r6)))
def natTrimmed_L1 : Nat → List Int → Option ((List Int))
  | 0 => fun _ => none
  | n + 1 => natTrimmed_B1 (natTrimmed_L1 n)
def natTrimmed_m (a_0 : List Int) : Option ((List Int)) :=
  natTrimmed_L1 FUEL a_0
theorem natTrimmed_c {a_0 : List Int} {r : (List Int)} (hm : natTrimmed_m a_0 = some r) : PureC Try.prog 35 [.sl (a_0.flatMap (ci .u32)) a_0.length false] (.sl (r.flatMap (ci .u32)) r.length false) := by
  refine PureC.of_body Try.func35 rfl ?_
  simp only [Try.ntmps35, List.length_cons, List.length_nil, Nat.reduceAdd, Nat.reduceSub, empty_eq]
  unfold natTrimmed_m at hm
  refine sr (N' := 64) rfl ?_
  refine pu rfl (by simp only [go_sem, Nat.reduceBEq]; try with_reducible rfl) ?_
  refine fs ?_
  refine AWp.seq' ?_
  refine AWp.block ?_
  refine AWp.loopM (fun m s => ∃ (a_0 : List Int), s = (⟨22, (fset (fun _ => AV.any) 0 (.sl (a_0.flatMap (ci .u32)) a_0.length false)), ⟨nofresh, 64⟩⟩ : St) ∧ natTrimmed_L1 m a_0 = some r) FUEL ?_ ?_ ?_
  · rintro s ⟨_, _, h⟩
    cases h
  · refine ⟨_, ?_, a_0, rfl, hm⟩
    exact le_canon id (wk_fset _ _ (wk_data (by try simp only [go_sem, Nat.reduceBEq]; try rfl) ((CFi .u32).sl _ _ _)) wk_none) heapWk0
  · rintro n1 s ⟨a_0, rfl, hm⟩
    replace hm : natTrimmed_B1 (natTrimmed_L1 n1) a_0 = some r := hm
    unfold natTrimmed_B1 at hm
    refine AWp.seq' ?_
    refine sr (N' := 128) rfl ?_
    iterate 8 (first | refine pu rfl (by simp only [go_sem, Nat.reduceBEq]; try with_reducible rfl) ?_ | refine pg rfl rfl (by simp only [go_sem, Nat.reduceBEq]; try with_reducible rfl) (by intro hb; simp only [go_sem, Nat.reduceBEq, hb, Bool.true_and]; try with_reducible rfl) ?_)
    obtain ⟨x2, h1, hm⟩ := bnd hm
    refine pg rfl rfl (by simp only [go_sem, Nat.reduceBEq]; try with_reducible rfl) (fun hb => (ap_idx (CFi .u32) (by decide) Try.underlying24 sz44 (by try simp only [go_sem, Nat.reduceBEq, hb, Bool.true_and]; try rfl) rfl (by try simp only [go_sem, Nat.reduceBEq, hb, Bool.true_and]; try rfl) (gopt_t h1 hb))) ?_
    iterate 3 (first | refine pu rfl (by simp only [go_sem, Nat.reduceBEq]; try with_reducible rfl) ?_ | refine pg rfl rfl (by simp only [go_sem, Nat.reduceBEq]; try with_reducible rfl) (by intro hb; simp only [go_sem, Nat.reduceBEq, hb, Bool.true_and]; try with_reducible rfl) ?_)
    refine fs ?_
    refine AWp.condM hm (by try simp only [go_sem, Nat.reduceBEq]; try rfl) (fun _ hm => ?_) (fun _ hm => ?_)
    · refine AWp.skip ?_
      refine normSeq ?_
      refine AWp.block ?_
      refine AWp.reg 64 (N' := 192) rfl ?_
      iterate 4 refine pu rfl (by simp only [go_sem, Nat.reduceBEq]; try with_reducible rfl) ?_
      obtain ⟨l4, h3, hm⟩ := bnd hm
      refine pu rfl (ap_slc (CFi .u32) Try.underlying24 sz44 (by try simp only [go_sem, Nat.reduceBEq]; try rfl) rfl ab_none0 (ab_some (by try simp only [go_sem, Nat.reduceBEq]; try rfl) (slc_0 h3).2) h3) ?_
      refine pu rfl (by simp only [go_sem, Nat.reduceBEq]; try with_reducible rfl) ?_
      refine ARun.fin ?_
      refine normIn ?_
      refine normThen ?_
      refine ⟨_, ?_, l4, rfl, hm⟩
      refine St.Le.trans (le_tod 0 (.sl (l4.flatMap (ci .u32)) l4.length false) (fun H => (tdf (by try simp only [go_sem, Nat.reduceBEq]; try rfl) ((CFi .u32).sl _ _ _)))) ?_
      exact le_canon id (wk_fset _ _ (wk_data (by try simp only [go_sem, Nat.reduceBEq]; try rfl) ((CFi .u32).sl _ _ _)) wk_none) heapWk0
    · refine AWp.exit ?_
      refine exitSeq ?_
      refine exitThen ?_
      refine exitHere ?_
      refine normSeq ?_
      refine sr (N' := 192) rfl ?_
      refine pu rfl (by simp only [go_sem, Nat.reduceBEq]; try with_reducible rfl) ?_
      obtain ⟨r6, h5, hm⟩ := bnd hm
      refine ARun.callQ (r := .sl (r6.flatMap (ci .u32)) r6.length false) (by decide) (by try simp only [go_sem, Nat.reduceBEq]; try rfl) fb41 (fun H => (.cons (td (by try simp only [go_sem, Nat.reduceBEq]; try rfl) ((CFi .u32).sl _ _ _)) .nil)) (clipU_c h5) ?_
      refine pu rfl (by simp only [go_sem, Nat.reduceBEq]; try with_reducible rfl) ?_
      refine fs ?_
      refine AWp.ret ?_
      cases hm
      exact ret1D (.inr rfl) Try.results35 (td (by try simp only [go_sem, Nat.reduceBEq]; try rfl) ((CFi .u32).sl _ _ _))
def natBounded_m (a_0 : List Int) : Option ((List Int) × Int) :=
  ((natTrimmed_m a_0).bind fun r2 =>
  (bif (decide (64 < (r2.length : Int))) then
    some ([], 6)
  else
    some (r2, 0)))
theorem natBounded_c {a_0 : List Int} {r : (List Int) × Int} (hm : natBounded_m a_0 = some r) : PureC Try.prog 34 [.sl (a_0.flatMap (ci .u32)) a_0.length false] (.tup [.sl (r.1.flatMap (ci .u32)) r.1.length false, .v (.int .i64 r.2)]) := by
  refine PureC.of_body Try.func34 rfl ?_
  simp only [Try.ntmps34, List.length_cons, List.length_nil, Nat.reduceAdd, Nat.reduceSub, empty_eq]
  unfold natBounded_m at hm
  refine sr (N' := 64) rfl ?_
  iterate 2 refine pu rfl (by simp only [go_sem, Nat.reduceBEq]; try with_reducible rfl) ?_
  refine fs ?_
  refine sr (N' := 128) rfl ?_
  refine pu rfl (by simp only [go_sem, Nat.reduceBEq]; try with_reducible rfl) ?_
  obtain ⟨r2, h1, hm⟩ := bnd hm
  refine ARun.callQ (r := .sl (r2.flatMap (ci .u32)) r2.length false) (by decide) (by try simp only [go_sem, Nat.reduceBEq]; try rfl) fb35 (fun H => (.cons (td (by try simp only [go_sem, Nat.reduceBEq]; try rfl) ((CFi .u32).sl _ _ _)) .nil)) (natTrimmed_c h1) ?_
  refine pu rfl (by simp only [go_sem, Nat.reduceBEq]; try with_reducible rfl) ?_
  refine fs ?_
  refine AWp.seq' ?_
  refine sr (N' := 192) rfl ?_
  iterate 3 refine pu rfl (by simp only [go_sem, Nat.reduceBEq]; try with_reducible rfl) ?_
  refine fs ?_
  refine AWp.condM hm (by try simp only [go_sem, Nat.reduceBEq]; try rfl) (fun _ hm => ?_) (fun _ hm => ?_)
  · refine sr (N' := 256) rfl ?_
    iterate 2 refine pu rfl (by simp only [go_sem, Nat.reduceBEq]; try with_reducible rfl) ?_
    refine fs ?_
    refine AWp.ret ?_
    refine retSeq ?_
    cases hm
    exact ret2D (.inr rfl) Try.results34 (tdn (by try simp only [go_sem, Nat.reduceBEq]; try rfl)) (td (by try simp only [go_sem, Nat.reduceBEq]; try rfl) (.v _))
  · refine AWp.skip ?_
    refine normSeq ?_
    refine sr (N' := 256) rfl ?_
    iterate 3 refine pu rfl (by simp only [go_sem, Nat.reduceBEq]; try with_reducible rfl) ?_
    refine fs ?_
    refine AWp.ret ?_
    cases hm
    exact ret2D (.inr rfl) Try.results34 (td (by try simp only [go_sem, Nat.reduceBEq]; try rfl) ((CFi .u32).sl _ _ _)) (td (by try simp only [go_sem, Nat.reduceBEq]; try rfl) (.v _))
def natOf_m (n_0 : Int) : Option ((List Int)) :=
  ((natTrimmed_m [(IntKind.u32.wrap n_0), (IntKind.u32.wrap (shr .u64 n_0 32))]).bind fun r2 =>
  some r2)
theorem natOf_c {n_0 : Int} {r : (List Int)} (hm : natOf_m n_0 = some r) : PureC Try.prog 20 [.v (.int .u64 n_0)] (.sl (r.flatMap (ci .u32)) r.length false) := by
  refine PureC.of_body Try.func20 rfl ?_
  simp only [Try.ntmps20, List.length_cons, List.length_nil, Nat.reduceAdd, Nat.reduceSub, empty_eq]
  unfold natOf_m at hm
  refine sr (N' := 64) rfl ?_
  refine pu rfl (by simp only [go_sem, Nat.reduceBEq]; try with_reducible rfl) ?_
  refine fs ?_
  refine sr (N' := 128) rfl ?_
  iterate 5 refine pu rfl (by simp only [go_sem, Nat.reduceBEq, Int.reduceEq, Int.reduceLE]; try with_reducible rfl) ?_
  refine hp (id := 69) rfl rfl (ah_list (CFi .u32) (l := [(IntKind.u32.wrap n_0), (IntKind.u32.wrap (shr .u64 n_0 32))]) Try.underlying24 sz44 zc44 (by simp only [isFresh_upd, isFresh_no, Nat.reduceBEq, cond_true, cond_false]) (by decide) (by decide) (by decide) (by simp only [go_sem, Nat.reduceBEq]; try rfl) (by kernel_rfl)) ?_
  obtain ⟨r2, h1, hm⟩ := bnd hm
  refine ARun.callL1 (r := .sl (r2.flatMap (ci .u32)) r2.length false) (id := 69) (by decide) (by try simp only [go_sem, Nat.reduceBEq]; try rfl) fb35 (by simp only [upd_beq, Nat.reduceBEq, cond_true, cond_false]; try rfl) (.cons (tdl (CFi .u32) (by try simp only [go_sem, Nat.reduceBEq]; try rfl) (by simp only [upd_beq, Nat.reduceBEq, cond_true, cond_false]; try rfl) (by simp) (by first | rfl | omega)) .nil) (natTrimmed_c h1) ?_
  refine pu rfl (by simp only [go_sem, Nat.reduceBEq]; try with_reducible rfl) ?_
  refine fs ?_
  refine AWp.ret ?_
  cases hm
  exact ret1D (.inr rfl) Try.results20 (td (by try simp only [go_sem, Nat.reduceBEq]; try rfl) ((CFi .u32).sl _ _ _))
def natAdd_J1 (rec1 : List Int → List Int → List Int → Int → Int → Int → Option ((List Int) × Int)) (a_0 : List Int) (b_1 : List Int) (sum_6 : List Int) (carry_7 : Int) (t26 : Int) (t27 : Int) : Option ((List Int) × Int) :=
  rec1 a_0 b_1 sum_6 carry_7 t26 (IntKind.i64.wrap (t27 + 1))
def natAdd_J3 (rec1 : List Int → List Int → List Int → Int → Int → Int → Option ((List Int) × Int)) (a_0 : List Int) (b_1 : List Int) (sum_6 : List Int) (i_8 : Int) (t_9 : Int) (t26 : Int) (t27 : Int) : Option ((List Int) × Int) :=
  ((idx sum_6 i_8).bind fun x8 =>
  ((stt sum_6 i_8 (IntKind.u32.wrap t_9)).bind fun l10 =>
  natAdd_J1 rec1 a_0 b_1 l10 (shr .u64 t_9 32) t26 t27))
def natAdd_J2 (rec1 : List Int → List Int → List Int → Int → Int → Int → Option ((List Int) × Int)) (a_0 : List Int) (b_1 : List Int) (sum_6 : List Int) (i_8 : Int) (t_9 : Int) (t26 : Int) (t27 : Int) : Option ((List Int) × Int) :=
  (bif (decide (i_8 < (b_1.length : Int))) then
    ((idx b_1 i_8).bind fun x12 =>
    natAdd_J3 rec1 a_0 b_1 sum_6 i_8 (IntKind.u64.wrap (t_9 + (IntKind.u64.wrap x12))) t26 t27)
  else
    natAdd_J3 rec1 a_0 b_1 sum_6 i_8 t_9 t26 t27)
def natAdd_B1 (rec1 : List Int → List Int → List Int → Int → Int → Int → Option ((List Int) × Int)) (a_0 : List Int) (b_1 : List Int) (sum_6 : List Int) (carry_7 : Int) (t26 : Int) (t27 : Int) : Option ((List Int) × Int) :=
  (bif (decide (t27 < t26)) then
    (bif (decide (t27 < (a_0.length : Int))) then
      ((idx a_0 t27).bind fun x14 =>
      natAdd_J2 rec1 a_0 b_1 sum_6 t27 (IntKind.u64.wrap (carry_7 + (IntKind.u64.wrap x14))) t26 t27)
    else
      natAdd_J2 rec1 a_0 b_1 sum_6 t27 carry_7 t26 t27)
  else
    ((natBounded_m sum_6).bind fun ⟨r16, r17⟩ =>
    some (r16, r17)))
def natAdd_L1 : Nat → List Int → List Int → List Int → Int → Int → Int → Option ((List Int) × Int)
  | 0 => fun _ _ _ _ _ _ => none
  | n + 1 => natAdd_B1 (natAdd_L1 n)
def natAdd_m (a_0 : List Int) (b_1 : List Int) : Option ((List Int) × Int) :=
  ((natRight_m a_0).bind fun r2 =>
  ((gopt ((!r2) == false) false (natRight_m b_1)).bind fun r4 =>
  (bif ((!r2) || (!r4)) then
    some ([], 1)
  else
    ((mkc (IntKind.i64.wrap ((if (a_0.length : Int) < (b_1.length : Int) then (b_1.length : Int) else (a_0.length : Int)) + 1)) (IntKind.i64.wrap ((if (a_0.length : Int) < (b_1.length : Int) then (b_1.length : Int) else (a_0.length : Int)) + 1)) 0).bind fun l6 =>
    natAdd_L1 FUEL a_0 b_1 l6 0 (l6.length : Int) 0))))
theorem natAdd_c {a_0 : List Int} {b_1 : List Int} {r : (List Int) × Int} (hm : natAdd_m a_0 b_1 = some r) : PureC Try.prog 21 [.sl (a_0.flatMap (ci .u32)) a_0.length false, .sl (b_1.flatMap (ci .u32)) b_1.length false] (.tup [.sl (r.1.flatMap (ci .u32)) r.1.length false, .v (.int .i64 r.2)]) := by
  refine PureC.of_body Try.func21 rfl ?_
  simp only [Try.ntmps21, List.length_cons, List.length_nil, Nat.reduceAdd, Nat.reduceSub, empty_eq]
  unfold natAdd_m at hm
  refine sr (N' := 64) rfl ?_
  iterate 2 refine pu rfl (by simp only [go_sem, Nat.reduceBEq]; try with_reducible rfl) ?_
  refine fs ?_
  refine AWp.seq' ?_
  refine sr (N' := 128) rfl ?_
  refine pu rfl (by simp only [go_sem, Nat.reduceBEq]; try with_reducible rfl) ?_
  obtain ⟨r2, h1, hm⟩ := bnd hm
  refine ARun.callQ (r := .v (.bool r2)) (by decide) (by try simp only [go_sem, Nat.reduceBEq]; try rfl) fb33 (fun H => (.cons (td (by try simp only [go_sem, Nat.reduceBEq]; try rfl) ((CFi .u32).sl _ _ _)) .nil)) (natRight_c h1) ?_
  iterate 3 (first | refine pu rfl (by simp only [go_sem, Nat.reduceBEq]; try with_reducible rfl) ?_ | refine pg rfl rfl (by simp only [go_sem, Nat.reduceBEq]; try with_reducible rfl) (by intro hb; simp only [go_sem, Nat.reduceBEq, hb, Bool.true_and]; try with_reducible rfl) ?_)
  obtain ⟨r4, h3, hm⟩ := bnd hm
  refine ARun.callQG (r := .v (.bool r4)) (by decide) rfl (by simp only [go_sem, Nat.reduceBEq]; try with_reducible rfl) (by try simp only [go_sem, Nat.reduceBEq]; try rfl) fb33 (fun hb H => (.cons (td (by try simp only [go_sem, Nat.reduceBEq, hb, Bool.true_and]; try rfl) ((CFi .u32).sl _ _ _)) .nil)) (fun hb => natRight_c (gopt_t h3 hb)) ?_
  iterate 2 (first | refine pu rfl (by simp only [go_sem, Nat.reduceBEq]; try with_reducible rfl) ?_ | refine pg rfl rfl (by simp only [go_sem, Nat.reduceBEq]; try with_reducible rfl) (by intro hb; simp only [go_sem, Nat.reduceBEq, hb, Bool.true_and]; try with_reducible rfl) ?_)
  refine fs ?_
  refine AWp.condM hm (by try simp only [go_sem, Nat.reduceBEq]; try rfl) (fun _ hm => ?_) (fun _ hm => ?_)
  · refine sr (N' := 192) rfl ?_
    iterate 2 refine pu rfl (by simp only [go_sem, Nat.reduceBEq]; try with_reducible rfl) ?_
    refine fs ?_
    refine AWp.ret ?_
    refine retSeq ?_
    cases hm
    exact ret2D (.inr rfl) Try.results21 (tdn (by try simp only [go_sem, Nat.reduceBEq]; try rfl)) (td (by try simp only [go_sem, Nat.reduceBEq]; try rfl) (.v _))
  · refine AWp.skip ?_
    refine normSeq ?_
    refine sr (N' := 192) rfl ?_
    iterate 6 refine pu rfl (by simp only [go_sem, Nat.reduceBEq]; try with_reducible rfl) ?_
    obtain ⟨l6, h5, hm⟩ := bnd hm
    refine hp (id := 134) rfl rfl (ah_mk (CFi .u32) Try.underlying24 in44 (zc44) (by rw [tb44]; decide) ts44 (by decide) (by simp only [isFresh_upd, isFresh_no, Nat.reduceBEq, cond_true, cond_false]) (by try simp only [go_sem, Nat.reduceBEq]; try rfl) (by try simp only [go_sem, Nat.reduceBEq]; try rfl) h5) ?_
    refine pu rfl (by simp only [go_sem, Nat.reduceBEq]; try with_reducible rfl) ?_
    refine fs ?_
    refine sr (N' := 256) rfl ?_
    refine pu rfl (by simp only [go_sem, Nat.reduceBEq]; try with_reducible rfl) ?_
    refine fs ?_
    refine AWp.seq' ?_
    refine sr (N' := 320) rfl ?_
    iterate 3 refine pu rfl (by simp only [go_sem, Nat.reduceBEq]; try with_reducible rfl) ?_
    refine fs ?_
    refine AWp.block ?_
    refine AWp.loopM (fun m s => ∃ (a_0 : List Int) (b_1 : List Int) (sum_6 : List Int) (carry_7 : Int) (t26 : Int) (t27 : Int), s = (⟨65, (fset (fset (fset (fset (fset (fset (fun _ => AV.any) 0 (.sl (a_0.flatMap (ci .u32)) a_0.length false)) 1 (.sl (b_1.flatMap (ci .u32)) b_1.length false)) 6 (.own 1 0 sum_6.length)) 7 (.v (.int .u64 carry_7))) 26 (.v (.int .i64 t26))) 27 (.v (.int .i64 t27))), ⟨(upd nofresh 1 (.cells 1 (sum_6.flatMap (ci .u32)) 0)), 64⟩⟩ : St) ∧ natAdd_L1 m a_0 b_1 sum_6 carry_7 t26 t27 = some r) FUEL ?_ ?_ ?_
    · rintro s ⟨_, _, _, _, _, _, _, h⟩
      cases h
    · refine ⟨_, ?_, a_0, b_1, l6, 0, (l6.length : Int), 0, rfl, hm⟩
      exact le_canon (fun j => bif j == 1 then 134 else 0) (wk_fset _ _ (wk_data (by try simp only [go_sem, Nat.reduceBEq]; try rfl) (.v _)) (wk_fset _ _ (wk_data (by try simp only [go_sem, Nat.reduceBEq]; try rfl) (.v _)) (wk_fset _ _ (wk_data (by try simp only [go_sem, Nat.reduceBEq]; try rfl) (.v _)) (wk_fset _ _ (wk_own (by try simp only [go_sem, Nat.reduceBEq]; try rfl) (by first | rfl | omega) rfl (by simp [upd])) (wk_fset _ _ (wk_data (by try simp only [go_sem, Nat.reduceBEq]; try rfl) ((CFi .u32).sl _ _ _)) (wk_fset _ _ (wk_data (by try simp only [go_sem, Nat.reduceBEq]; try rfl) ((CFi .u32).sl _ _ _)) wk_none)))))) (heapWk_of _ (entWk_upd (ent_fm (CFi .u32) (by simp only [upd_beq, Nat.reduceBEq, cond_true, cond_false]; try rfl) rfl) entWk_none) (by repeat' (first | exact inj_none | exact liv_none | refine inj_upd ?_ ?_ | refine liv_upd ?_ ?_ | exact .inl rfl | exact .inr (by decide))))
    · rintro n1 s ⟨a_0, b_1, sum_6, carry_7, t26, t27, rfl, hm⟩
      replace hm : natAdd_B1 (natAdd_L1 n1) a_0 b_1 sum_6 carry_7 t26 t27 = some r := hm
      unfold natAdd_B1 at hm
      refine sr (N' := 128) rfl ?_
      refine pu rfl (by simp only [go_sem, Nat.reduceBEq]; try with_reducible rfl) ?_
      refine fs ?_
      refine AWp.seq' ?_
      refine AWp.condM hm (by try simp only [go_sem, Nat.reduceBEq]; try rfl) (fun _ hm => ?_) (fun _ hm => ?_)
      · refine AWp.skip ?_
        refine normSeq ?_
        refine AWp.seqJ (fun s => ∃ (a_0 : List Int) (b_1 : List Int) (sum_6 : List Int) (carry_7 : Int) (t26 : Int) (t27 : Int), s = (⟨65, (fset (fset (fset (fset (fset (fset (fun _ => AV.any) 0 (.sl (a_0.flatMap (ci .u32)) a_0.length false)) 1 (.sl (b_1.flatMap (ci .u32)) b_1.length false)) 6 (.own 1 0 sum_6.length)) 7 (.v (.int .u64 carry_7))) 26 (.v (.int .i64 t26))) 27 (.v (.int .i64 t27))), ⟨(upd nofresh 1 (.cells 1 (sum_6.flatMap (ci .u32)) 0)), 64⟩⟩ : St) ∧ natAdd_J1 (natAdd_L1 n1) a_0 b_1 sum_6 carry_7 t26 t27 = some r) ?_ ?_
        · refine AWp.block ?_
          refine sr (N' := 192) rfl ?_
          iterate 2 refine pu rfl (by simp only [go_sem, Nat.reduceBEq]; try with_reducible rfl) ?_
          refine fs ?_
          refine sr (N' := 256) rfl ?_
          iterate 2 refine pu rfl (by simp only [go_sem, Nat.reduceBEq]; try with_reducible rfl) ?_
          refine fs ?_
          refine AWp.seqJ (fun s => ∃ (a_0 : List Int) (b_1 : List Int) (sum_6 : List Int) (i_8 : Int) (t_9 : Int) (t26 : Int) (t27 : Int), s = (⟨65, (fset (fset (fset (fset (fset (fset (fset (fun _ => AV.any) 0 (.sl (a_0.flatMap (ci .u32)) a_0.length false)) 1 (.sl (b_1.flatMap (ci .u32)) b_1.length false)) 6 (.own 1 0 sum_6.length)) 8 (.v (.int .i64 i_8))) 9 (.v (.int .u64 t_9))) 26 (.v (.int .i64 t26))) 27 (.v (.int .i64 t27))), ⟨(upd nofresh 1 (.cells 1 (sum_6.flatMap (ci .u32)) 0)), 64⟩⟩ : St) ∧ natAdd_J2 (natAdd_L1 n1) a_0 b_1 sum_6 i_8 t_9 t26 t27 = some r) ?_ ?_
          · refine sr (N' := 320) rfl ?_
            iterate 4 refine pu rfl (by simp only [go_sem, Nat.reduceBEq]; try with_reducible rfl) ?_
            refine fs ?_
            refine AWp.condM hm (by try simp only [go_sem, Nat.reduceBEq]; try rfl) (fun _ hm => ?_) (fun _ hm => ?_)
            · refine AWp.reg 64 (N' := 384) rfl ?_
              iterate 3 refine pu rfl (by simp only [go_sem, Nat.reduceBEq]; try with_reducible rfl) ?_
              obtain ⟨x14, h13, hm⟩ := bnd hm
              refine pu rfl (ap_idx (CFi .u32) (by decide) Try.underlying24 sz44 (by try simp only [go_sem, Nat.reduceBEq]; try rfl) rfl (by try simp only [go_sem, Nat.reduceBEq]; try rfl) h13) ?_
              iterate 4 refine pu rfl (by simp only [go_sem, Nat.reduceBEq]; try with_reducible rfl) ?_
              refine ARun.fin ?_
              refine normJ ?_
              refine ⟨_, ?_, a_0, b_1, sum_6, t27, (IntKind.u64.wrap (carry_7 + (IntKind.u64.wrap x14))), t26, t27, rfl, hm⟩
              exact le_canon (fun j => bif j == 1 then 1 else 0) (wk_fset _ _ (wk_data (by try simp only [go_sem, Nat.reduceBEq]; try rfl) (.v _)) (wk_fset _ _ (wk_data (by try simp only [go_sem, Nat.reduceBEq]; try rfl) (.v _)) (wk_fset _ _ (wk_data (by try simp only [go_sem, Nat.reduceBEq]; try rfl) (.v _)) (wk_fset _ _ (wk_data (by try simp only [go_sem, Nat.reduceBEq]; try rfl) (.v _)) (wk_fset _ _ (wk_own (by try simp only [go_sem, Nat.reduceBEq]; try rfl) (by first | rfl | omega) rfl (by simp [upd])) (wk_fset _ _ (wk_data (by try simp only [go_sem, Nat.reduceBEq]; try rfl) ((CFi .u32).sl _ _ _)) (wk_fset _ _ (wk_data (by try simp only [go_sem, Nat.reduceBEq]; try rfl) ((CFi .u32).sl _ _ _)) wk_none))))))) (heapWk_of _ (entWk_upd (ent_fm (CFi .u32) (by simp only [upd_beq, Nat.reduceBEq, cond_true, cond_false]; try rfl) rfl) entWk_none) (by repeat' (first | exact inj_none | exact liv_none | refine inj_upd ?_ ?_ | refine liv_upd ?_ ?_ | exact .inl rfl | exact .inr (by decide))))
            · refine AWp.skip ?_
              refine normJ ?_
              refine ⟨_, ?_, a_0, b_1, sum_6, t27, carry_7, t26, t27, rfl, hm⟩
              exact le_canon (fun j => bif j == 1 then 1 else 0) (wk_fset _ _ (wk_data (by try simp only [go_sem, Nat.reduceBEq]; try rfl) (.v _)) (wk_fset _ _ (wk_data (by try simp only [go_sem, Nat.reduceBEq]; try rfl) (.v _)) (wk_fset _ _ (wk_data (by try simp only [go_sem, Nat.reduceBEq]; try rfl) (.v _)) (wk_fset _ _ (wk_data (by try simp only [go_sem, Nat.reduceBEq]; try rfl) (.v _)) (wk_fset _ _ (wk_own (by try simp only [go_sem, Nat.reduceBEq]; try rfl) (by first | rfl | omega) rfl (by simp [upd])) (wk_fset _ _ (wk_data (by try simp only [go_sem, Nat.reduceBEq]; try rfl) ((CFi .u32).sl _ _ _)) (wk_fset _ _ (wk_data (by try simp only [go_sem, Nat.reduceBEq]; try rfl) ((CFi .u32).sl _ _ _)) wk_none))))))) (heapWk_of _ (entWk_upd (ent_fm (CFi .u32) (by simp only [upd_beq, Nat.reduceBEq, cond_true, cond_false]; try rfl) rfl) entWk_none) (by repeat' (first | exact inj_none | exact liv_none | refine inj_upd ?_ ?_ | refine liv_upd ?_ ?_ | exact .inl rfl | exact .inr (by decide))))
          · rintro s ⟨a_0, b_1, sum_6, i_8, t_9, t26, t27, rfl, hm⟩
            unfold natAdd_J2 at hm
            refine AWp.seqJ (fun s => ∃ (a_0 : List Int) (b_1 : List Int) (sum_6 : List Int) (i_8 : Int) (t_9 : Int) (t26 : Int) (t27 : Int), s = (⟨65, (fset (fset (fset (fset (fset (fset (fset (fun _ => AV.any) 0 (.sl (a_0.flatMap (ci .u32)) a_0.length false)) 1 (.sl (b_1.flatMap (ci .u32)) b_1.length false)) 6 (.own 1 0 sum_6.length)) 8 (.v (.int .i64 i_8))) 9 (.v (.int .u64 t_9))) 26 (.v (.int .i64 t26))) 27 (.v (.int .i64 t27))), ⟨(upd nofresh 1 (.cells 1 (sum_6.flatMap (ci .u32)) 0)), 64⟩⟩ : St) ∧ natAdd_J3 (natAdd_L1 n1) a_0 b_1 sum_6 i_8 t_9 t26 t27 = some r) ?_ ?_
            · refine sr (N' := 128) rfl ?_
              iterate 4 refine pu rfl (by simp only [go_sem, Nat.reduceBEq]; try with_reducible rfl) ?_
              refine fs ?_
              refine AWp.condM hm (by try simp only [go_sem, Nat.reduceBEq]; try rfl) (fun _ hm => ?_) (fun _ hm => ?_)
              · refine AWp.reg 64 (N' := 192) rfl ?_
                iterate 3 refine pu rfl (by simp only [go_sem, Nat.reduceBEq]; try with_reducible rfl) ?_
                obtain ⟨x12, h11, hm⟩ := bnd hm
                refine pu rfl (ap_idx (CFi .u32) (by decide) Try.underlying24 sz44 (by try simp only [go_sem, Nat.reduceBEq]; try rfl) rfl (by try simp only [go_sem, Nat.reduceBEq]; try rfl) h11) ?_
                iterate 4 refine pu rfl (by simp only [go_sem, Nat.reduceBEq]; try with_reducible rfl) ?_
                refine ARun.fin ?_
                refine normJ ?_
                refine ⟨_, ?_, a_0, b_1, sum_6, i_8, (IntKind.u64.wrap (t_9 + (IntKind.u64.wrap x12))), t26, t27, rfl, hm⟩
                exact le_canon (fun j => bif j == 1 then 1 else 0) (wk_fset _ _ (wk_data (by try simp only [go_sem, Nat.reduceBEq]; try rfl) (.v _)) (wk_fset _ _ (wk_data (by try simp only [go_sem, Nat.reduceBEq]; try rfl) (.v _)) (wk_fset _ _ (wk_data (by try simp only [go_sem, Nat.reduceBEq]; try rfl) (.v _)) (wk_fset _ _ (wk_data (by try simp only [go_sem, Nat.reduceBEq]; try rfl) (.v _)) (wk_fset _ _ (wk_own (by try simp only [go_sem, Nat.reduceBEq]; try rfl) (by first | rfl | omega) rfl (by simp [upd])) (wk_fset _ _ (wk_data (by try simp only [go_sem, Nat.reduceBEq]; try rfl) ((CFi .u32).sl _ _ _)) (wk_fset _ _ (wk_data (by try simp only [go_sem, Nat.reduceBEq]; try rfl) ((CFi .u32).sl _ _ _)) wk_none))))))) (heapWk_of _ (entWk_upd (ent_fm (CFi .u32) (by simp only [upd_beq, Nat.reduceBEq, cond_true, cond_false]; try rfl) rfl) entWk_none) (by repeat' (first | exact inj_none | exact liv_none | refine inj_upd ?_ ?_ | refine liv_upd ?_ ?_ | exact .inl rfl | exact .inr (by decide))))
              · refine AWp.skip ?_
                refine normJ ?_
                refine ⟨_, ?_, a_0, b_1, sum_6, i_8, t_9, t26, t27, rfl, hm⟩
                exact le_canon (fun j => bif j == 1 then 1 else 0) (wk_fset _ _ (wk_data (by try simp only [go_sem, Nat.reduceBEq]; try rfl) (.v _)) (wk_fset _ _ (wk_data (by try simp only [go_sem, Nat.reduceBEq]; try rfl) (.v _)) (wk_fset _ _ (wk_data (by try simp only [go_sem, Nat.reduceBEq]; try rfl) (.v _)) (wk_fset _ _ (wk_data (by try simp only [go_sem, Nat.reduceBEq]; try rfl) (.v _)) (wk_fset _ _ (wk_own (by try simp only [go_sem, Nat.reduceBEq]; try rfl) (by first | rfl | omega) rfl (by simp [upd])) (wk_fset _ _ (wk_data (by try simp only [go_sem, Nat.reduceBEq]; try rfl) ((CFi .u32).sl _ _ _)) (wk_fset _ _ (wk_data (by try simp only [go_sem, Nat.reduceBEq]; try rfl) ((CFi .u32).sl _ _ _)) wk_none))))))) (heapWk_of _ (entWk_upd (ent_fm (CFi .u32) (by simp only [upd_beq, Nat.reduceBEq, cond_true, cond_false]; try rfl) rfl) entWk_none) (by repeat' (first | exact inj_none | exact liv_none | refine inj_upd ?_ ?_ | refine liv_upd ?_ ?_ | exact .inl rfl | exact .inr (by decide))))
            · rintro s ⟨a_0, b_1, sum_6, i_8, t_9, t26, t27, rfl, hm⟩
              unfold natAdd_J3 at hm
              refine sr (N' := 128) rfl ?_
              iterate 4 refine pu rfl (by simp only [go_sem, Nat.reduceBEq]; try with_reducible rfl) ?_
              obtain ⟨x8, h7, hm⟩ := bnd hm
              refine pu rfl (ap_idxo Try.underlying24 sz44 (by try simp only [go_sem, Nat.reduceBEq]; try rfl) (by simp only [upd_beq, Nat.reduceBEq, cond_true, cond_false]; try rfl) (by first | rfl | omega) (by try simp only [go_sem, Nat.reduceBEq]; try rfl) h7) ?_
              obtain ⟨l10, h9, hm⟩ := bnd hm
              have qh9 := stt_len h9
              refine ARun.heap0 (id := 69) rfl (ah_stt (CFi .u32) sz44 (by try simp only [go_sem, Nat.reduceBEq]; try rfl) (by try simp only [go_sem, Nat.reduceBEq]; try rfl) (by simp only [upd_beq, Nat.reduceBEq, cond_true, cond_false]; try rfl) rfl h9) ?_
              refine fs ?_
              refine AWp.reg 64 (N' := 192) rfl ?_
              iterate 3 refine pu rfl (by simp only [go_sem, Nat.reduceBEq, Int.reduceEq, Int.reduceLE]; try with_reducible rfl) ?_
              refine ARun.fin ?_
              refine normIn ?_
              refine normJ ?_
              refine ⟨_, ?_, a_0, b_1, l10, (shr .u64 t_9 32), t26, t27, rfl, hm⟩
              exact le_canon (fun j => bif j == 1 then 1 else 0) (wk_fset _ _ (wk_data (by try simp only [go_sem, Nat.reduceBEq]; try rfl) (.v _)) (wk_fset _ _ (wk_data (by try simp only [go_sem, Nat.reduceBEq]; try rfl) (.v _)) (wk_fset _ _ (wk_data (by try simp only [go_sem, Nat.reduceBEq]; try rfl) (.v _)) (wk_fset _ _ (wk_own (by try simp only [go_sem, Nat.reduceBEq]; try rfl) (by first | rfl | omega) rfl (by simp [upd])) (wk_fset _ _ (wk_data (by try simp only [go_sem, Nat.reduceBEq]; try rfl) ((CFi .u32).sl _ _ _)) (wk_fset _ _ (wk_data (by try simp only [go_sem, Nat.reduceBEq]; try rfl) ((CFi .u32).sl _ _ _)) wk_none)))))) (heapWk_of _ (entWk_upd (ent_fm (CFi .u32) (by simp only [upd_beq, Nat.reduceBEq, cond_true, cond_false]; try rfl) rfl) entWk_none) (by repeat' (first | exact inj_none | exact liv_none | refine inj_upd ?_ ?_ | refine liv_upd ?_ ?_ | exact .inl rfl | exact .inr (by decide))))
        · rintro s ⟨a_0, b_1, sum_6, carry_7, t26, t27, rfl, hm⟩
          unfold natAdd_J1 at hm
          refine AWp.reg 64 (N' := 128) rfl ?_
          iterate 2 refine pu rfl (by simp only [go_sem, Nat.reduceBEq]; try with_reducible rfl) ?_
          refine ARun.fin ?_
          refine normThen ?_
          refine ⟨_, ?_, a_0, b_1, sum_6, carry_7, t26, (IntKind.i64.wrap (t27 + 1)), rfl, hm⟩
          exact le_canon (fun j => bif j == 1 then 1 else 0) (wk_fset _ _ (wk_data (by try simp only [go_sem, Nat.reduceBEq]; try rfl) (.v _)) (wk_fset _ _ (wk_data (by try simp only [go_sem, Nat.reduceBEq]; try rfl) (.v _)) (wk_fset _ _ (wk_data (by try simp only [go_sem, Nat.reduceBEq]; try rfl) (.v _)) (wk_fset _ _ (wk_own (by try simp only [go_sem, Nat.reduceBEq]; try rfl) (by first | rfl | omega) rfl (by simp [upd])) (wk_fset _ _ (wk_data (by try simp only [go_sem, Nat.reduceBEq]; try rfl) ((CFi .u32).sl _ _ _)) (wk_fset _ _ (wk_data (by try simp only [go_sem, Nat.reduceBEq]; try rfl) ((CFi .u32).sl _ _ _)) wk_none)))))) (heapWk_of _ (entWk_upd (ent_fm (CFi .u32) (by simp only [upd_beq, Nat.reduceBEq, cond_true, cond_false]; try rfl) rfl) entWk_none) (by repeat' (first | exact inj_none | exact liv_none | refine inj_upd ?_ ?_ | refine liv_upd ?_ ?_ | exact .inl rfl | exact .inr (by decide))))
      · refine AWp.exit ?_
        refine exitSeq ?_
        refine exitThen ?_
        refine exitHere ?_
        refine normSeq ?_
        refine AWp.seq' ?_
        refine AWp.weaken (le_lock (CFi .u32) 6 1 (by try simp only [go_sem, Nat.reduceBEq]; try rfl) (by simp only [upd_beq, Nat.reduceBEq, cond_true, cond_false]; try rfl) (by first | rfl | omega)) ?_
        refine AWp.reg 64 (N' := 192) rfl ?_
        refine pu rfl (by simp only [go_sem, Nat.reduceBEq]; try with_reducible rfl) ?_
        obtain ⟨⟨r16, r17⟩, h15, hm⟩ := bnd hm
        refine ARun.callQ (r := .tup [.sl (r16.flatMap (ci .u32)) r16.length false, .v (.int .i64 r17)]) (by decide) (by try simp only [go_sem, Nat.reduceBEq]; try rfl) fb34 (fun H => (.cons (td (by try simp only [go_sem, Nat.reduceBEq]; try rfl) ((CFi .u32).sl _ _ _)) .nil)) (natBounded_c h15) ?_
        iterate 4 refine pu rfl (by simp only [go_sem, Nat.reduceBEq]; try with_reducible rfl) ?_
        refine fs ?_
        refine AWp.ret ?_
        cases hm
        exact ret2D (.inr rfl) Try.results21 (td (by try simp only [go_sem, Nat.reduceBEq]; try rfl) ((CFi .u32).sl _ _ _)) (td (by try simp only [go_sem, Nat.reduceBEq]; try rfl) (.v _))
def natMul_B2 (rec1 : List Int → List Int → List Int → Int → Int → Option ((List Int) × Int)) (rec2 : List Int → List Int → Int → Int → Int → List Int → Int → Int → List Int → Int → Int → Option ((List Int) × Int)) (b_1 : List Int) (product_6 : List Int) (i_7 : Int) (x_8 : Int) (carry_9 : Int) (t27 : List Int) (t28 : Int) (t29 : Int) (t34 : List Int) (t35 : Int) (t36 : Int) : Option ((List Int) × Int) :=
  (bif (decide (t36 < t35)) then
    ((idx t34 t36).bind fun x10 =>
    ((idx product_6 (IntKind.i64.wrap (i_7 + t36))).bind fun x12 =>
    ((idx product_6 (IntKind.i64.wrap (i_7 + t36))).bind fun x14 =>
    ((stt product_6 (IntKind.i64.wrap (i_7 + t36)) (IntKind.u32.wrap (IntKind.u64.wrap ((IntKind.u64.wrap ((IntKind.u64.wrap x12) + (IntKind.u64.wrap ((IntKind.u64.wrap x_8) * (IntKind.u64.wrap x10))))) + carry_9)))).bind fun l16 =>
    rec2 b_1 l16 i_7 x_8 (shr .u64 (IntKind.u64.wrap ((IntKind.u64.wrap ((IntKind.u64.wrap x12) + (IntKind.u64.wrap ((IntKind.u64.wrap x_8) * (IntKind.u64.wrap x10))))) + carry_9)) 32) t27 t28 t29 t34 t35 (IntKind.i64.wrap (t36 + 1))))))
  else
    ((idx product_6 (IntKind.i64.wrap (i_7 + (b_1.length : Int)))).bind fun x18 =>
    ((stt product_6 (IntKind.i64.wrap (i_7 + (b_1.length : Int))) (IntKind.u32.wrap carry_9)).bind fun l20 =>
    rec1 b_1 l20 t27 t28 (IntKind.i64.wrap (t29 + 1)))))
def natMul_L2 (rec1 : List Int → List Int → List Int → Int → Int → Option ((List Int) × Int)) : Nat → List Int → List Int → Int → Int → Int → List Int → Int → Int → List Int → Int → Int → Option ((List Int) × Int)
  | 0 => fun _ _ _ _ _ _ _ _ _ _ _ => none
  | n + 1 => natMul_B2 rec1 (natMul_L2 rec1 n)
def natMul_B1 (rec1 : List Int → List Int → List Int → Int → Int → Option ((List Int) × Int)) (b_1 : List Int) (product_6 : List Int) (t27 : List Int) (t28 : Int) (t29 : Int) : Option ((List Int) × Int) :=
  (bif (decide (t29 < t28)) then
    ((idx t27 t29).bind fun x8 =>
    natMul_L2 rec1 FUEL b_1 product_6 t29 x8 0 t27 t28 t29 b_1 (b_1.length : Int) 0)
  else
    ((natBounded_m product_6).bind fun ⟨r22, r23⟩ =>
    some (r22, r23)))
def natMul_L1 : Nat → List Int → List Int → List Int → Int → Int → Option ((List Int) × Int)
  | 0 => fun _ _ _ _ _ => none
  | n + 1 => natMul_B1 (natMul_L1 n)
def natMul_m (a_0 : List Int) (b_1 : List Int) : Option ((List Int) × Int) :=
  ((natRight_m a_0).bind fun r2 =>
  ((gopt ((!r2) == false) false (natRight_m b_1)).bind fun r4 =>
  (bif ((!r2) || (!r4)) then
    some ([], 1)
  else
    ((mkc (IntKind.i64.wrap ((a_0.length : Int) + (b_1.length : Int))) (IntKind.i64.wrap ((a_0.length : Int) + (b_1.length : Int))) 0).bind fun l6 =>
    natMul_L1 FUEL b_1 l6 a_0 (a_0.length : Int) 0))))
theorem natMul_c {a_0 : List Int} {b_1 : List Int} {r : (List Int) × Int} (hm : natMul_m a_0 b_1 = some r) : PureC Try.prog 19 [.sl (a_0.flatMap (ci .u32)) a_0.length false, .sl (b_1.flatMap (ci .u32)) b_1.length false] (.tup [.sl (r.1.flatMap (ci .u32)) r.1.length false, .v (.int .i64 r.2)]) := by
  refine PureC.of_body Try.func19 rfl ?_
  simp only [Try.ntmps19, List.length_cons, List.length_nil, Nat.reduceAdd, Nat.reduceSub, empty_eq]
  unfold natMul_m at hm
  refine sr (N' := 64) rfl ?_
  iterate 2 refine pu rfl (by simp only [go_sem, Nat.reduceBEq]; try with_reducible rfl) ?_
  refine fs ?_
  refine AWp.seq' ?_
  refine sr (N' := 128) rfl ?_
  refine pu rfl (by simp only [go_sem, Nat.reduceBEq]; try with_reducible rfl) ?_
  obtain ⟨r2, h1, hm⟩ := bnd hm
  refine ARun.callQ (r := .v (.bool r2)) (by decide) (by try simp only [go_sem, Nat.reduceBEq]; try rfl) fb33 (fun H => (.cons (td (by try simp only [go_sem, Nat.reduceBEq]; try rfl) ((CFi .u32).sl _ _ _)) .nil)) (natRight_c h1) ?_
  iterate 3 (first | refine pu rfl (by simp only [go_sem, Nat.reduceBEq]; try with_reducible rfl) ?_ | refine pg rfl rfl (by simp only [go_sem, Nat.reduceBEq]; try with_reducible rfl) (by intro hb; simp only [go_sem, Nat.reduceBEq, hb, Bool.true_and]; try with_reducible rfl) ?_)
  obtain ⟨r4, h3, hm⟩ := bnd hm
  refine ARun.callQG (r := .v (.bool r4)) (by decide) rfl (by simp only [go_sem, Nat.reduceBEq]; try with_reducible rfl) (by try simp only [go_sem, Nat.reduceBEq]; try rfl) fb33 (fun hb H => (.cons (td (by try simp only [go_sem, Nat.reduceBEq, hb, Bool.true_and]; try rfl) ((CFi .u32).sl _ _ _)) .nil)) (fun hb => natRight_c (gopt_t h3 hb)) ?_
  iterate 2 (first | refine pu rfl (by simp only [go_sem, Nat.reduceBEq]; try with_reducible rfl) ?_ | refine pg rfl rfl (by simp only [go_sem, Nat.reduceBEq]; try with_reducible rfl) (by intro hb; simp only [go_sem, Nat.reduceBEq, hb, Bool.true_and]; try with_reducible rfl) ?_)
  refine fs ?_
  refine AWp.condM hm (by try simp only [go_sem, Nat.reduceBEq]; try rfl) (fun _ hm => ?_) (fun _ hm => ?_)
  · refine sr (N' := 192) rfl ?_
    iterate 2 refine pu rfl (by simp only [go_sem, Nat.reduceBEq]; try with_reducible rfl) ?_
    refine fs ?_
    refine AWp.ret ?_
    refine retSeq ?_
    cases hm
    exact ret2D (.inr rfl) Try.results19 (tdn (by try simp only [go_sem, Nat.reduceBEq]; try rfl)) (td (by try simp only [go_sem, Nat.reduceBEq]; try rfl) (.v _))
  · refine AWp.skip ?_
    refine normSeq ?_
    refine sr (N' := 192) rfl ?_
    iterate 5 refine pu rfl (by simp only [go_sem, Nat.reduceBEq]; try with_reducible rfl) ?_
    obtain ⟨l6, h5, hm⟩ := bnd hm
    refine hp (id := 133) rfl rfl (ah_mk (CFi .u32) Try.underlying24 in44 (zc44) (by rw [tb44]; decide) ts44 (by decide) (by simp only [isFresh_upd, isFresh_no, Nat.reduceBEq, cond_true, cond_false]) (by try simp only [go_sem, Nat.reduceBEq]; try rfl) (by try simp only [go_sem, Nat.reduceBEq]; try rfl) h5) ?_
    refine pu rfl (by simp only [go_sem, Nat.reduceBEq]; try with_reducible rfl) ?_
    refine fs ?_
    refine AWp.seq' ?_
    refine sr (N' := 256) rfl ?_
    iterate 3 refine pu rfl (by simp only [go_sem, Nat.reduceBEq]; try with_reducible rfl) ?_
    refine fs ?_
    refine AWp.block ?_
    refine AWp.loopM (fun m s => ∃ (b_1 : List Int) (product_6 : List Int) (t27 : List Int) (t28 : Int) (t29 : Int), s = (⟨79, (fset (fset (fset (fset (fset (fun _ => AV.any) 1 (.sl (b_1.flatMap (ci .u32)) b_1.length false)) 6 (.own 1 0 product_6.length)) 27 (.sl (t27.flatMap (ci .u32)) t27.length false)) 28 (.v (.int .i64 t28))) 29 (.v (.int .i64 t29))), ⟨(upd nofresh 1 (.cells 1 (product_6.flatMap (ci .u32)) 0)), 64⟩⟩ : St) ∧ natMul_L1 m b_1 product_6 t27 t28 t29 = some r) FUEL ?_ ?_ ?_
    · rintro s ⟨_, _, _, _, _, _, h⟩
      cases h
    · refine ⟨_, ?_, b_1, l6, a_0, (a_0.length : Int), 0, rfl, hm⟩
      exact le_canon (fun j => bif j == 1 then 133 else 0) (wk_fset _ _ (wk_data (by try simp only [go_sem, Nat.reduceBEq]; try rfl) (.v _)) (wk_fset _ _ (wk_data (by try simp only [go_sem, Nat.reduceBEq]; try rfl) (.v _)) (wk_fset _ _ (wk_data (by try simp only [go_sem, Nat.reduceBEq]; try rfl) ((CFi .u32).sl _ _ _)) (wk_fset _ _ (wk_own (by try simp only [go_sem, Nat.reduceBEq]; try rfl) (by first | rfl | omega) rfl (by simp [upd])) (wk_fset _ _ (wk_data (by try simp only [go_sem, Nat.reduceBEq]; try rfl) ((CFi .u32).sl _ _ _)) wk_none))))) (heapWk_of _ (entWk_upd (ent_fm (CFi .u32) (by simp only [upd_beq, Nat.reduceBEq, cond_true, cond_false]; try rfl) rfl) entWk_none) (by repeat' (first | exact inj_none | exact liv_none | refine inj_upd ?_ ?_ | refine liv_upd ?_ ?_ | exact .inl rfl | exact .inr (by decide))))
    · rintro n1 s ⟨b_1, product_6, t27, t28, t29, rfl, hm⟩
      replace hm : natMul_B1 (natMul_L1 n1) b_1 product_6 t27 t28 t29 = some r := hm
      unfold natMul_B1 at hm
      refine sr (N' := 128) rfl ?_
      refine pu rfl (by simp only [go_sem, Nat.reduceBEq]; try with_reducible rfl) ?_
      refine fs ?_
      refine AWp.seq' ?_
      refine AWp.condM hm (by try simp only [go_sem, Nat.reduceBEq]; try rfl) (fun _ hm => ?_) (fun _ hm => ?_)
      · refine AWp.skip ?_
        refine normSeq ?_
        refine AWp.seq' ?_
        refine AWp.block ?_
        refine sr (N' := 192) rfl ?_
        refine pu rfl (by simp only [go_sem, Nat.reduceBEq]; try with_reducible rfl) ?_
        obtain ⟨x8, h7, hm⟩ := bnd hm
        refine pu rfl (ap_idx (CFi .u32) (by decide) Try.underlying24 sz44 (by try simp only [go_sem, Nat.reduceBEq]; try rfl) rfl (by try simp only [go_sem, Nat.reduceBEq]; try rfl) h7) ?_
        iterate 3 refine pu rfl (by simp only [go_sem, Nat.reduceBEq]; try with_reducible rfl) ?_
        refine fs ?_
        refine sr (N' := 256) rfl ?_
        refine pu rfl (by simp only [go_sem, Nat.reduceBEq]; try with_reducible rfl) ?_
        refine fs ?_
        refine AWp.seq' ?_
        refine sr (N' := 320) rfl ?_
        iterate 3 refine pu rfl (by simp only [go_sem, Nat.reduceBEq]; try with_reducible rfl) ?_
        refine fs ?_
        refine AWp.block ?_
        refine AWp.loopM (fun m s => ∃ (b_1 : List Int) (product_6 : List Int) (i_7 : Int) (x_8 : Int) (carry_9 : Int) (t27 : List Int) (t28 : Int) (t29 : Int) (t34 : List Int) (t35 : Int) (t36 : Int), s = (⟨79, (fset (fset (fset (fset (fset (fset (fset (fset (fset (fset (fset (fun _ => AV.any) 1 (.sl (b_1.flatMap (ci .u32)) b_1.length false)) 6 (.own 1 0 product_6.length)) 7 (.v (.int .i64 i_7))) 8 (.v (.int .u32 x_8))) 9 (.v (.int .u64 carry_9))) 27 (.sl (t27.flatMap (ci .u32)) t27.length false)) 28 (.v (.int .i64 t28))) 29 (.v (.int .i64 t29))) 34 (.sl (t34.flatMap (ci .u32)) t34.length false)) 35 (.v (.int .i64 t35))) 36 (.v (.int .i64 t36))), ⟨(upd nofresh 1 (.cells 1 (product_6.flatMap (ci .u32)) 0)), 64⟩⟩ : St) ∧ natMul_L2 (natMul_L1 n1) m b_1 product_6 i_7 x_8 carry_9 t27 t28 t29 t34 t35 t36 = some r) FUEL ?_ ?_ ?_
        · rintro s ⟨_, _, _, _, _, _, _, _, _, _, _, _, h⟩
          cases h
        · refine ⟨_, ?_, b_1, product_6, t29, x8, 0, t27, t28, t29, b_1, (b_1.length : Int), 0, rfl, hm⟩
          exact le_canon (fun j => bif j == 1 then 1 else 0) (wk_fset _ _ (wk_data (by try simp only [go_sem, Nat.reduceBEq]; try rfl) (.v _)) (wk_fset _ _ (wk_data (by try simp only [go_sem, Nat.reduceBEq]; try rfl) (.v _)) (wk_fset _ _ (wk_data (by try simp only [go_sem, Nat.reduceBEq]; try rfl) ((CFi .u32).sl _ _ _)) (wk_fset _ _ (wk_data (by try simp only [go_sem, Nat.reduceBEq]; try rfl) (.v _)) (wk_fset _ _ (wk_data (by try simp only [go_sem, Nat.reduceBEq]; try rfl) (.v _)) (wk_fset _ _ (wk_data (by try simp only [go_sem, Nat.reduceBEq]; try rfl) ((CFi .u32).sl _ _ _)) (wk_fset _ _ (wk_data (by try simp only [go_sem, Nat.reduceBEq]; try rfl) (.v _)) (wk_fset _ _ (wk_data (by try simp only [go_sem, Nat.reduceBEq]; try rfl) (.v _)) (wk_fset _ _ (wk_data (by try simp only [go_sem, Nat.reduceBEq]; try rfl) (.v _)) (wk_fset _ _ (wk_own (by try simp only [go_sem, Nat.reduceBEq]; try rfl) (by first | rfl | omega) rfl (by simp [upd])) (wk_fset _ _ (wk_data (by try simp only [go_sem, Nat.reduceBEq]; try rfl) ((CFi .u32).sl _ _ _)) wk_none))))))))))) (heapWk_of _ (entWk_upd (ent_fm (CFi .u32) (by simp only [upd_beq, Nat.reduceBEq, cond_true, cond_false]; try rfl) rfl) entWk_none) (by repeat' (first | exact inj_none | exact liv_none | refine inj_upd ?_ ?_ | refine liv_upd ?_ ?_ | exact .inl rfl | exact .inr (by decide))))
        · rintro n2 s ⟨b_1, product_6, i_7, x_8, carry_9, t27, t28, t29, t34, t35, t36, rfl, hm⟩
          replace hm : natMul_B2 (natMul_L1 n1) (natMul_L2 (natMul_L1 n1) n2) b_1 product_6 i_7 x_8 carry_9 t27 t28 t29 t34 t35 t36 = some r := hm
          unfold natMul_B2 at hm
          refine sr (N' := 128) rfl ?_
          refine pu rfl (by simp only [go_sem, Nat.reduceBEq]; try with_reducible rfl) ?_
          refine fs ?_
          refine AWp.seq' ?_
          refine AWp.condM hm (by try simp only [go_sem, Nat.reduceBEq]; try rfl) (fun _ hm => ?_) (fun _ hm => ?_)
          · refine AWp.skip ?_
            refine normSeq ?_
            refine AWp.seq' ?_
            refine AWp.block ?_
            refine sr (N' := 192) rfl ?_
            refine pu rfl (by simp only [go_sem, Nat.reduceBEq]; try with_reducible rfl) ?_
            obtain ⟨x10, h9, hm⟩ := bnd hm
            refine pu rfl (ap_idx (CFi .u32) (by decide) Try.underlying24 sz44 (by try simp only [go_sem, Nat.reduceBEq]; try rfl) rfl (by try simp only [go_sem, Nat.reduceBEq]; try rfl) h9) ?_
            iterate 3 refine pu rfl (by simp only [go_sem, Nat.reduceBEq]; try with_reducible rfl) ?_
            refine fs ?_
            refine sr (N' := 256) rfl ?_
            iterate 4 refine pu rfl (by simp only [go_sem, Nat.reduceBEq]; try with_reducible rfl) ?_
            obtain ⟨x12, h11, hm⟩ := bnd hm
            refine pu rfl (ap_idxo Try.underlying24 sz44 (by try simp only [go_sem, Nat.reduceBEq]; try rfl) (by simp only [upd_beq, Nat.reduceBEq, cond_true, cond_false]; try rfl) (by first | rfl | omega) (by try simp only [go_sem, Nat.reduceBEq]; try rfl) h11) ?_
            refine pu rfl (ap_ldo (CFi .u32) (by try simp only [go_sem, Nat.reduceBEq]; try rfl) (by simp only [upd_beq, Nat.reduceBEq, cond_true, cond_false]; try rfl) h11 (fun _ => by simp only [go_sem, Nat.reduceBEq]; try with_reducible rfl)) ?_
            iterate 10 refine pu rfl (by simp only [go_sem, Nat.reduceBEq]; try with_reducible rfl) ?_
            refine fs ?_
            refine sr (N' := 320) rfl ?_
            iterate 6 refine pu rfl (by simp only [go_sem, Nat.reduceBEq]; try with_reducible rfl) ?_
            obtain ⟨x14, h13, hm⟩ := bnd hm
            refine pu rfl (ap_idxo Try.underlying24 sz44 (by try simp only [go_sem, Nat.reduceBEq]; try rfl) (by simp only [upd_beq, Nat.reduceBEq, cond_true, cond_false]; try rfl) (by first | rfl | omega) (by try simp only [go_sem, Nat.reduceBEq]; try rfl) h13) ?_
            obtain ⟨l16, h15, hm⟩ := bnd hm
            have qh15 := stt_len h15
            refine ARun.heap0 (id := 263) rfl (ah_stt (CFi .u32) sz44 (by try simp only [go_sem, Nat.reduceBEq]; try rfl) (by try simp only [go_sem, Nat.reduceBEq]; try rfl) (by simp only [upd_beq, Nat.reduceBEq, cond_true, cond_false]; try rfl) rfl h15) ?_
            refine fs ?_
            refine AWp.reg 64 (N' := 384) rfl ?_
            iterate 3 refine pu rfl (by simp only [go_sem, Nat.reduceBEq, Int.reduceEq, Int.reduceLE]; try with_reducible rfl) ?_
            refine ARun.fin ?_
            refine normIn ?_
            refine normSeq ?_
            refine AWp.reg 64 (N' := 448) rfl ?_
            iterate 2 refine pu rfl (by simp only [go_sem, Nat.reduceBEq]; try with_reducible rfl) ?_
            refine ARun.fin ?_
            refine normThen ?_
            refine ⟨_, ?_, b_1, l16, i_7, x_8, (shr .u64 (IntKind.u64.wrap ((IntKind.u64.wrap ((IntKind.u64.wrap x12) + (IntKind.u64.wrap ((IntKind.u64.wrap x_8) * (IntKind.u64.wrap x10))))) + carry_9)) 32), t27, t28, t29, t34, t35, (IntKind.i64.wrap (t36 + 1)), rfl, hm⟩
            exact le_canon (fun j => bif j == 1 then 1 else 0) (wk_fset _ _ (wk_data (by try simp only [go_sem, Nat.reduceBEq]; try rfl) (.v _)) (wk_fset _ _ (wk_data (by try simp only [go_sem, Nat.reduceBEq]; try rfl) (.v _)) (wk_fset _ _ (wk_data (by try simp only [go_sem, Nat.reduceBEq]; try rfl) ((CFi .u32).sl _ _ _)) (wk_fset _ _ (wk_data (by try simp only [go_sem, Nat.reduceBEq]; try rfl) (.v _)) (wk_fset _ _ (wk_data (by try simp only [go_sem, Nat.reduceBEq]; try rfl) (.v _)) (wk_fset _ _ (wk_data (by try simp only [go_sem, Nat.reduceBEq]; try rfl) ((CFi .u32).sl _ _ _)) (wk_fset _ _ (wk_data (by try simp only [go_sem, Nat.reduceBEq]; try rfl) (.v _)) (wk_fset _ _ (wk_data (by try simp only [go_sem, Nat.reduceBEq]; try rfl) (.v _)) (wk_fset _ _ (wk_data (by try simp only [go_sem, Nat.reduceBEq]; try rfl) (.v _)) (wk_fset _ _ (wk_own (by try simp only [go_sem, Nat.reduceBEq]; try rfl) (by first | rfl | omega) rfl (by simp [upd])) (wk_fset _ _ (wk_data (by try simp only [go_sem, Nat.reduceBEq]; try rfl) ((CFi .u32).sl _ _ _)) wk_none))))))))))) (heapWk_of _ (entWk_upd (ent_fm (CFi .u32) (by simp only [upd_beq, Nat.reduceBEq, cond_true, cond_false]; try rfl) rfl) entWk_none) (by repeat' (first | exact inj_none | exact liv_none | refine inj_upd ?_ ?_ | refine liv_upd ?_ ?_ | exact .inl rfl | exact .inr (by decide))))
          · refine AWp.exit ?_
            refine exitSeq ?_
            refine exitThen ?_
            refine exitHere ?_
            refine normSeq ?_
            refine AWp.reg 64 (N' := 192) rfl ?_
            iterate 7 refine pu rfl (by simp only [go_sem, Nat.reduceBEq]; try with_reducible rfl) ?_
            obtain ⟨x18, h17, hm⟩ := bnd hm
            refine pu rfl (ap_idxo Try.underlying24 sz44 (by try simp only [go_sem, Nat.reduceBEq]; try rfl) (by simp only [upd_beq, Nat.reduceBEq, cond_true, cond_false]; try rfl) (by first | rfl | omega) (by try simp only [go_sem, Nat.reduceBEq]; try rfl) h17) ?_
            obtain ⟨l20, h19, hm⟩ := bnd hm
            have qh19 := stt_len h19
            refine ARun.heap0 (id := 136) rfl (ah_stt (CFi .u32) sz44 (by try simp only [go_sem, Nat.reduceBEq]; try rfl) (by try simp only [go_sem, Nat.reduceBEq]; try rfl) (by simp only [upd_beq, Nat.reduceBEq, cond_true, cond_false]; try rfl) rfl h19) ?_
            refine ARun.fin ?_
            refine normIn ?_
            refine normSeq ?_
            refine AWp.reg 64 (N' := 256) rfl ?_
            iterate 2 refine pu rfl (by simp only [go_sem, Nat.reduceBEq]; try with_reducible rfl) ?_
            refine ARun.fin ?_
            refine normThen ?_
            refine ⟨_, ?_, b_1, l20, t27, t28, (IntKind.i64.wrap (t29 + 1)), rfl, hm⟩
            exact le_canon (fun j => bif j == 1 then 1 else 0) (wk_fset _ _ (wk_data (by try simp only [go_sem, Nat.reduceBEq]; try rfl) (.v _)) (wk_fset _ _ (wk_data (by try simp only [go_sem, Nat.reduceBEq]; try rfl) (.v _)) (wk_fset _ _ (wk_data (by try simp only [go_sem, Nat.reduceBEq]; try rfl) ((CFi .u32).sl _ _ _)) (wk_fset _ _ (wk_own (by try simp only [go_sem, Nat.reduceBEq]; try rfl) (by first | rfl | omega) rfl (by simp [upd])) (wk_fset _ _ (wk_data (by try simp only [go_sem, Nat.reduceBEq]; try rfl) ((CFi .u32).sl _ _ _)) wk_none))))) (heapWk_of _ (entWk_upd (ent_fm (CFi .u32) (by simp only [upd_beq, Nat.reduceBEq, cond_true, cond_false]; try rfl) rfl) entWk_none) (by repeat' (first | exact inj_none | exact liv_none | refine inj_upd ?_ ?_ | refine liv_upd ?_ ?_ | exact .inl rfl | exact .inr (by decide))))
      · refine AWp.exit ?_
        refine exitSeq ?_
        refine exitThen ?_
        refine exitHere ?_
        refine normSeq ?_
        refine AWp.seq' ?_
        refine AWp.weaken (le_lock (CFi .u32) 6 1 (by try simp only [go_sem, Nat.reduceBEq]; try rfl) (by simp only [upd_beq, Nat.reduceBEq, cond_true, cond_false]; try rfl) (by first | rfl | omega)) ?_
        refine AWp.reg 64 (N' := 192) rfl ?_
        refine pu rfl (by simp only [go_sem, Nat.reduceBEq]; try with_reducible rfl) ?_
        obtain ⟨⟨r22, r23⟩, h21, hm⟩ := bnd hm
        refine ARun.callQ (r := .tup [.sl (r22.flatMap (ci .u32)) r22.length false, .v (.int .i64 r23)]) (by decide) (by try simp only [go_sem, Nat.reduceBEq]; try rfl) fb34 (fun H => (.cons (td (by try simp only [go_sem, Nat.reduceBEq]; try rfl) ((CFi .u32).sl _ _ _)) .nil)) (natBounded_c h21) ?_
        iterate 4 refine pu rfl (by simp only [go_sem, Nat.reduceBEq]; try with_reducible rfl) ?_
        refine fs ?_
        refine AWp.ret ?_
        cases hm
        exact ret2D (.inr rfl) Try.results19 (td (by try simp only [go_sem, Nat.reduceBEq]; try rfl) ((CFi .u32).sl _ _ _)) (td (by try simp only [go_sem, Nat.reduceBEq]; try rfl) (.v _))
def natCmp_B1 (rec1 : List Int → List Int → Int → Option (Int)) (a_0 : List Int) (b_1 : List Int) (i_5 : Int) : Option (Int) :=
  (bif (decide (0 ≤ i_5)) then
    ((idx a_0 i_5).bind fun x8 =>
    ((idx b_1 i_5).bind fun x10 =>
    (bif (x8 != x10) then
      ((idx a_0 i_5).bind fun x12 =>
      ((idx b_1 i_5).bind fun x14 =>
      ((cmpU_m x12 x14).bind fun r16 =>
      some r16)))
    else
      rec1 a_0 b_1 (IntKind.i64.wrap (i_5 - 1)))))
  else
    some 0)
def natCmp_L1 : Nat → List Int → List Int → Int → Option (Int)
  | 0 => fun _ _ _ => none
  | n + 1 => natCmp_B1 (natCmp_L1 n)
def natCmp_m (a_0 : List Int) (b_1 : List Int) : Option (Int) :=
  ((natRight_m a_0).bind fun r2 =>
  ((gopt ((!r2) == false) false (natRight_m b_1)).bind fun r4 =>
  (bif ((!r2) || (!r4)) then
    some 0
  else
    (bif ((a_0.length : Int) != (b_1.length : Int)) then
      ((cmpI_m (a_0.length : Int) (b_1.length : Int)).bind fun r6 =>
      some r6)
    else
      natCmp_L1 FUEL a_0 b_1 (IntKind.i64.wrap ((a_0.length : Int) - 1))))))
theorem natCmp_c {a_0 : List Int} {b_1 : List Int} {r : Int} (hm : natCmp_m a_0 b_1 = some r) : PureC Try.prog 29 [.sl (a_0.flatMap (ci .u32)) a_0.length false, .sl (b_1.flatMap (ci .u32)) b_1.length false] (.v (.int .i64 r)) := by
  refine PureC.of_body Try.func29 rfl ?_
  simp only [Try.ntmps29, List.length_cons, List.length_nil, Nat.reduceAdd, Nat.reduceSub, empty_eq]
  unfold natCmp_m at hm
  refine sr (N' := 64) rfl ?_
  refine pu rfl (by simp only [go_sem, Nat.reduceBEq]; try with_reducible rfl) ?_
  refine fs ?_
  refine AWp.seq' ?_
  refine sr (N' := 128) rfl ?_
  refine pu rfl (by simp only [go_sem, Nat.reduceBEq]; try with_reducible rfl) ?_
  obtain ⟨r2, h1, hm⟩ := bnd hm
  refine ARun.callQ (r := .v (.bool r2)) (by decide) (by try simp only [go_sem, Nat.reduceBEq]; try rfl) fb33 (fun H => (.cons (td (by try simp only [go_sem, Nat.reduceBEq]; try rfl) ((CFi .u32).sl _ _ _)) .nil)) (natRight_c h1) ?_
  iterate 3 (first | refine pu rfl (by simp only [go_sem, Nat.reduceBEq]; try with_reducible rfl) ?_ | refine pg rfl rfl (by simp only [go_sem, Nat.reduceBEq]; try with_reducible rfl) (by intro hb; simp only [go_sem, Nat.reduceBEq, hb, Bool.true_and]; try with_reducible rfl) ?_)
  obtain ⟨r4, h3, hm⟩ := bnd hm
  refine ARun.callQG (r := .v (.bool r4)) (by decide) rfl (by simp only [go_sem, Nat.reduceBEq]; try with_reducible rfl) (by try simp only [go_sem, Nat.reduceBEq]; try rfl) fb33 (fun hb H => (.cons (td (by try simp only [go_sem, Nat.reduceBEq, hb, Bool.true_and]; try rfl) ((CFi .u32).sl _ _ _)) .nil)) (fun hb => natRight_c (gopt_t h3 hb)) ?_
  iterate 2 (first | refine pu rfl (by simp only [go_sem, Nat.reduceBEq]; try with_reducible rfl) ?_ | refine pg rfl rfl (by simp only [go_sem, Nat.reduceBEq]; try with_reducible rfl) (by intro hb; simp only [go_sem, Nat.reduceBEq, hb, Bool.true_and]; try with_reducible rfl) ?_)
  refine fs ?_
  refine AWp.condM hm (by try simp only [go_sem, Nat.reduceBEq]; try rfl) (fun _ hm => ?_) (fun _ hm => ?_)
  · refine sr (N' := 192) rfl ?_
    refine pu rfl (by simp only [go_sem, Nat.reduceBEq]; try with_reducible rfl) ?_
    refine fs ?_
    refine AWp.ret ?_
    refine retSeq ?_
    cases hm
    exact ret1D (.inr rfl) Try.results29 (td (by try simp only [go_sem, Nat.reduceBEq]; try rfl) (.v _))
  · refine AWp.skip ?_
    refine normSeq ?_
    refine AWp.seq' ?_
    refine sr (N' := 192) rfl ?_
    iterate 5 refine pu rfl (by simp only [go_sem, Nat.reduceBEq]; try with_reducible rfl) ?_
    refine fs ?_
    refine AWp.condM hm (by try simp only [go_sem, Nat.reduceBEq]; try rfl) (fun _ hm => ?_) (fun _ hm => ?_)
    · refine sr (N' := 256) rfl ?_
      iterate 4 refine pu rfl (by simp only [go_sem, Nat.reduceBEq]; try with_reducible rfl) ?_
      obtain ⟨r6, h5, hm⟩ := bnd hm
      refine ARun.callQ (r := .v (.int .i64 r6)) (by decide) (by try simp only [go_sem, Nat.reduceBEq]; try rfl) fb38 (fun H => (.cons (td (by try simp only [go_sem, Nat.reduceBEq]; try rfl) (.v _)) (.cons (td (by try simp only [go_sem, Nat.reduceBEq]; try rfl) (.v _)) .nil))) (cmpI_c h5) ?_
      refine pu rfl (by simp only [go_sem, Nat.reduceBEq]; try with_reducible rfl) ?_
      refine fs ?_
      refine AWp.ret ?_
      refine retSeq ?_
      cases hm
      exact ret1D (.inr rfl) Try.results29 (td (by try simp only [go_sem, Nat.reduceBEq]; try rfl) (.v _))
    · refine AWp.skip ?_
      refine normSeq ?_
      refine AWp.seq' ?_
      refine sr (N' := 256) rfl ?_
      iterate 4 refine pu rfl (by simp only [go_sem, Nat.reduceBEq]; try with_reducible rfl) ?_
      refine fs ?_
      refine AWp.block ?_
      refine AWp.loopM (fun m s => ∃ (a_0 : List Int) (b_1 : List Int) (i_5 : Int), s = (⟨49, (fset (fset (fset (fun _ => AV.any) 0 (.sl (a_0.flatMap (ci .u32)) a_0.length false)) 1 (.sl (b_1.flatMap (ci .u32)) b_1.length false)) 5 (.v (.int .i64 i_5))), ⟨nofresh, 64⟩⟩ : St) ∧ natCmp_L1 m a_0 b_1 i_5 = some r) FUEL ?_ ?_ ?_
      · rintro s ⟨_, _, _, _, h⟩
        cases h
      · refine ⟨_, ?_, a_0, b_1, (IntKind.i64.wrap ((a_0.length : Int) - 1)), rfl, hm⟩
        exact le_canon id (wk_fset _ _ (wk_data (by try simp only [go_sem, Nat.reduceBEq]; try rfl) (.v _)) (wk_fset _ _ (wk_data (by try simp only [go_sem, Nat.reduceBEq]; try rfl) ((CFi .u32).sl _ _ _)) (wk_fset _ _ (wk_data (by try simp only [go_sem, Nat.reduceBEq]; try rfl) ((CFi .u32).sl _ _ _)) wk_none))) heapWk0
      · rintro n1 s ⟨a_0, b_1, i_5, rfl, hm⟩
        replace hm : natCmp_B1 (natCmp_L1 n1) a_0 b_1 i_5 = some r := hm
        unfold natCmp_B1 at hm
        refine AWp.seq' ?_
        refine sr (N' := 128) rfl ?_
        iterate 2 refine pu rfl (by simp only [go_sem, Nat.reduceBEq]; try with_reducible rfl) ?_
        refine fs ?_
        refine AWp.condM hm (by try simp only [go_sem, Nat.reduceBEq]; try rfl) (fun _ hm => ?_) (fun _ hm => ?_)
        · refine AWp.skip ?_
          refine normSeq ?_
          refine AWp.seq' ?_
          refine AWp.block ?_
          refine sd mix (by kernel_rfl) (N' := 192) rfl ?_
          iterate 2 refine pu rfl (by simp only [go_sem, Nat.reduceBEq]; try with_reducible rfl) ?_
          obtain ⟨x8, h7, hm⟩ := bnd hm
          refine pu rfl (ap_idx (CFi .u32) (by decide) Try.underlying24 sz44 (by try simp only [go_sem, Nat.reduceBEq]; try rfl) rfl (by try simp only [go_sem, Nat.reduceBEq]; try rfl) h7) ?_
          iterate 3 refine pu rfl (by simp only [go_sem, Nat.reduceBEq]; try with_reducible rfl) ?_
          obtain ⟨x10, h9, hm⟩ := bnd hm
          refine pu rfl (ap_idx (CFi .u32) (by decide) Try.underlying24 sz44 (by try simp only [go_sem, Nat.reduceBEq]; try rfl) rfl (by try simp only [go_sem, Nat.reduceBEq]; try rfl) h9) ?_
          iterate 2 refine pu rfl (by simp only [go_sem, Nat.reduceBEq]; try with_reducible rfl) ?_
          refine fs ?_
          refine AWp.condM hm (by try simp only [go_sem, Nat.reduceBEq]; try rfl) (fun _ hm => ?_) (fun _ hm => ?_)
          · refine sd mix (by kernel_rfl) (N' := 256) rfl ?_
            iterate 2 refine pu rfl (by simp only [go_sem, Nat.reduceBEq]; try with_reducible rfl) ?_
            obtain ⟨x12, h11, hm⟩ := bnd hm
            refine pu rfl (ap_idx (CFi .u32) (by decide) Try.underlying24 sz44 (by try simp only [go_sem, Nat.reduceBEq]; try rfl) rfl (by try simp only [go_sem, Nat.reduceBEq]; try rfl) h11) ?_
            iterate 3 refine pu rfl (by simp only [go_sem, Nat.reduceBEq]; try with_reducible rfl) ?_
            obtain ⟨x14, h13, hm⟩ := bnd hm
            refine pu rfl (ap_idx (CFi .u32) (by decide) Try.underlying24 sz44 (by try simp only [go_sem, Nat.reduceBEq]; try rfl) rfl (by try simp only [go_sem, Nat.reduceBEq]; try rfl) h13) ?_
            refine pu rfl (by simp only [go_sem, Nat.reduceBEq]; try with_reducible rfl) ?_
            obtain ⟨r16, h15, hm⟩ := bnd hm
            refine ARun.callQ (r := .v (.int .i64 r16)) (by decide) (by try simp only [go_sem, Nat.reduceBEq]; try rfl) fb39 (fun H => (.cons (td (by try simp only [go_sem, Nat.reduceBEq]; try rfl) (.v _)) (.cons (td (by try simp only [go_sem, Nat.reduceBEq]; try rfl) (.v _)) .nil))) (cmpU_c h15) ?_
            refine pu rfl (by simp only [go_sem, Nat.reduceBEq]; try with_reducible rfl) ?_
            refine fs ?_
            refine AWp.ret ?_
            refine retIn ?_
            refine retSeq ?_
            refine retThen ?_
            refine retIn ?_
            refine retSeq ?_
            cases hm
            exact ret1D (.inr rfl) Try.results29 (td (by try simp only [go_sem, Nat.reduceBEq]; try rfl) (.v _))
          · refine AWp.skip ?_
            refine normIn ?_
            refine normSeq ?_
            refine AWp.reg 64 (N' := 256) rfl ?_
            iterate 3 refine pu rfl (by simp only [go_sem, Nat.reduceBEq]; try with_reducible rfl) ?_
            refine ARun.fin ?_
            refine normThen ?_
            refine ⟨_, ?_, a_0, b_1, (IntKind.i64.wrap (i_5 - 1)), rfl, hm⟩
            exact le_canon id (wk_fset _ _ (wk_data (by try simp only [go_sem, Nat.reduceBEq]; try rfl) (.v _)) (wk_fset _ _ (wk_data (by try simp only [go_sem, Nat.reduceBEq]; try rfl) ((CFi .u32).sl _ _ _)) (wk_fset _ _ (wk_data (by try simp only [go_sem, Nat.reduceBEq]; try rfl) ((CFi .u32).sl _ _ _)) wk_none))) heapWk0
        · refine AWp.exit ?_
          refine exitSeq ?_
          refine exitThen ?_
          refine exitHere ?_
          refine normSeq ?_
          refine sr (N' := 192) rfl ?_
          refine pu rfl (by simp only [go_sem, Nat.reduceBEq]; try with_reducible rfl) ?_
          refine fs ?_
          refine AWp.ret ?_
          cases hm
          exact ret1D (.inr rfl) Try.results29 (td (by try simp only [go_sem, Nat.reduceBEq]; try rfl) (.v _))
def natPow_B1 (rec1 : List Int → List Int → Int → Int → Option ((List Int) × Int)) (a_0 : List Int) (power_6 : List Int) (t21 : Int) (t22 : Int) : Option ((List Int) × Int) :=
  (bif (decide (t22 < t21)) then
    ((natMul_m power_6 a_0).bind fun ⟨r6, r7⟩ =>
    (bif (r7 != 0) then
      some ([], r7)
    else
      rec1 a_0 r6 t21 (IntKind.i64.wrap (t22 + 1))))
  else
    some (power_6, 0))
def natPow_L1 : Nat → List Int → List Int → Int → Int → Option ((List Int) × Int)
  | 0 => fun _ _ _ _ => none
  | n + 1 => natPow_B1 (natPow_L1 n)
def natPow_m (a_0 : List Int) (n_1 : Int) : Option ((List Int) × Int) :=
  ((natRight_m a_0).bind fun r2 =>
  (bif (((!r2) || (decide (n_1 < 0))) || (decide (1024 < n_1))) then
    some ([], 1)
  else
    ((natOf_m 1).bind fun r4 =>
    natPow_L1 FUEL a_0 r4 n_1 0)))
theorem natPow_c {a_0 : List Int} {n_1 : Int} {r : (List Int) × Int} (hm : natPow_m a_0 n_1 = some r) : PureC Try.prog 25 [.sl (a_0.flatMap (ci .u32)) a_0.length false, .v (.int .i64 n_1)] (.tup [.sl (r.1.flatMap (ci .u32)) r.1.length false, .v (.int .i64 r.2)]) := by
  refine PureC.of_body Try.func25 rfl ?_
  simp only [Try.ntmps25, List.length_cons, List.length_nil, Nat.reduceAdd, Nat.reduceSub, empty_eq]
  unfold natPow_m at hm
  refine sr (N' := 64) rfl ?_
  iterate 2 refine pu rfl (by simp only [go_sem, Nat.reduceBEq]; try with_reducible rfl) ?_
  refine fs ?_
  refine AWp.seq' ?_
  refine sr (N' := 128) rfl ?_
  refine pu rfl (by simp only [go_sem, Nat.reduceBEq]; try with_reducible rfl) ?_
  obtain ⟨r2, h1, hm⟩ := bnd hm
  refine ARun.callQ (r := .v (.bool r2)) (by decide) (by try simp only [go_sem, Nat.reduceBEq]; try rfl) fb33 (fun H => (.cons (td (by try simp only [go_sem, Nat.reduceBEq]; try rfl) ((CFi .u32).sl _ _ _)) .nil)) (natRight_c h1) ?_
  iterate 9 (first | refine pu rfl (by simp only [go_sem, Nat.reduceBEq]; try with_reducible rfl) ?_ | refine pg rfl rfl (by simp only [go_sem, Nat.reduceBEq]; try with_reducible rfl) (by intro hb; simp only [go_sem, Nat.reduceBEq, hb, Bool.true_and]; try with_reducible rfl) ?_)
  refine fs ?_
  refine AWp.condM hm (by try simp only [go_sem, Nat.reduceBEq]; try rfl) (fun _ hm => ?_) (fun _ hm => ?_)
  · refine sr (N' := 192) rfl ?_
    iterate 2 refine pu rfl (by simp only [go_sem, Nat.reduceBEq]; try with_reducible rfl) ?_
    refine fs ?_
    refine AWp.ret ?_
    refine retSeq ?_
    cases hm
    exact ret2D (.inr rfl) Try.results25 (tdn (by try simp only [go_sem, Nat.reduceBEq]; try rfl)) (td (by try simp only [go_sem, Nat.reduceBEq]; try rfl) (.v _))
  · refine AWp.skip ?_
    refine normSeq ?_
    refine sr (N' := 192) rfl ?_
    obtain ⟨r4, h3, hm⟩ := bnd hm
    refine ARun.callQ (r := .sl (r4.flatMap (ci .u32)) r4.length false) (by decide) (by try simp only [go_sem, Nat.reduceBEq]; try rfl) fb20 (fun H => (.cons (td (by try simp only [go_sem, Nat.reduceBEq]; try rfl) (.v _)) .nil)) (natOf_c h3) ?_
    refine pu rfl (by simp only [go_sem, Nat.reduceBEq]; try with_reducible rfl) ?_
    refine fs ?_
    refine AWp.seq' ?_
    refine sr (N' := 256) rfl ?_
    iterate 2 refine pu rfl (by simp only [go_sem, Nat.reduceBEq]; try with_reducible rfl) ?_
    refine fs ?_
    refine AWp.block ?_
    refine AWp.loopM (fun m s => ∃ (a_0 : List Int) (power_6 : List Int) (t21 : Int) (t22 : Int), s = (⟨36, (fset (fset (fset (fset (fun _ => AV.any) 0 (.sl (a_0.flatMap (ci .u32)) a_0.length false)) 6 (.sl (power_6.flatMap (ci .u32)) power_6.length false)) 21 (.v (.int .i64 t21))) 22 (.v (.int .i64 t22))), ⟨nofresh, 64⟩⟩ : St) ∧ natPow_L1 m a_0 power_6 t21 t22 = some r) FUEL ?_ ?_ ?_
    · rintro s ⟨_, _, _, _, _, h⟩
      cases h
    · refine ⟨_, ?_, a_0, r4, n_1, 0, rfl, hm⟩
      exact le_canon id (wk_fset _ _ (wk_data (by try simp only [go_sem, Nat.reduceBEq]; try rfl) (.v _)) (wk_fset _ _ (wk_data (by try simp only [go_sem, Nat.reduceBEq]; try rfl) (.v _)) (wk_fset _ _ (wk_data (by try simp only [go_sem, Nat.reduceBEq]; try rfl) ((CFi .u32).sl _ _ _)) (wk_fset _ _ (wk_data (by try simp only [go_sem, Nat.reduceBEq]; try rfl) ((CFi .u32).sl _ _ _)) wk_none)))) heapWk0
    · rintro n1 s ⟨a_0, power_6, t21, t22, rfl, hm⟩
      replace hm : natPow_B1 (natPow_L1 n1) a_0 power_6 t21 t22 = some r := hm
      unfold natPow_B1 at hm
      refine sr (N' := 128) rfl ?_
      refine pu rfl (by simp only [go_sem, Nat.reduceBEq]; try with_reducible rfl) ?_
      refine fs ?_
      refine AWp.seq' ?_
      refine AWp.condM hm (by try simp only [go_sem, Nat.reduceBEq]; try rfl) (fun _ hm => ?_) (fun _ hm => ?_)
      · refine AWp.skip ?_
        refine normSeq ?_
        refine AWp.seq' ?_
        refine AWp.block ?_
        refine sr (N' := 192) rfl ?_
        iterate 2 refine pu rfl (by simp only [go_sem, Nat.reduceBEq]; try with_reducible rfl) ?_
        obtain ⟨⟨r6, r7⟩, h5, hm⟩ := bnd hm
        refine ARun.callQ (r := .tup [.sl (r6.flatMap (ci .u32)) r6.length false, .v (.int .i64 r7)]) (by decide) (by try simp only [go_sem, Nat.reduceBEq]; try rfl) fb19 (fun H => (.cons (td (by try simp only [go_sem, Nat.reduceBEq]; try rfl) ((CFi .u32).sl _ _ _)) (.cons (td (by try simp only [go_sem, Nat.reduceBEq]; try rfl) ((CFi .u32).sl _ _ _)) .nil))) (natMul_c h5) ?_
        iterate 5 refine pu rfl (by simp only [go_sem, Nat.reduceBEq]; try with_reducible rfl) ?_
        refine fs ?_
        refine AWp.seq' ?_
        refine sr (N' := 256) rfl ?_
        iterate 2 refine pu rfl (by simp only [go_sem, Nat.reduceBEq]; try with_reducible rfl) ?_
        refine fs ?_
        refine AWp.condM hm (by try simp only [go_sem, Nat.reduceBEq]; try rfl) (fun _ hm => ?_) (fun _ hm => ?_)
        · refine sr (N' := 320) rfl ?_
          iterate 3 refine pu rfl (by simp only [go_sem, Nat.reduceBEq]; try with_reducible rfl) ?_
          refine fs ?_
          refine AWp.ret ?_
          refine retSeq ?_
          refine retIn ?_
          refine retSeq ?_
          refine retThen ?_
          refine retIn ?_
          refine retSeq ?_
          cases hm
          exact ret2D (.inr rfl) Try.results25 (tdn (by try simp only [go_sem, Nat.reduceBEq]; try rfl)) (td (by try simp only [go_sem, Nat.reduceBEq]; try rfl) (.v _))
        · refine AWp.skip ?_
          refine normSeq ?_
          refine AWp.reg 64 (N' := 320) rfl ?_
          iterate 2 refine pu rfl (by simp only [go_sem, Nat.reduceBEq]; try with_reducible rfl) ?_
          refine ARun.fin ?_
          refine normIn ?_
          refine normSeq ?_
          refine AWp.reg 64 (N' := 384) rfl ?_
          iterate 2 refine pu rfl (by simp only [go_sem, Nat.reduceBEq]; try with_reducible rfl) ?_
          refine ARun.fin ?_
          refine normThen ?_
          refine ⟨_, ?_, a_0, r6, t21, (IntKind.i64.wrap (t22 + 1)), rfl, hm⟩
          exact le_canon id (wk_fset _ _ (wk_data (by try simp only [go_sem, Nat.reduceBEq]; try rfl) (.v _)) (wk_fset _ _ (wk_data (by try simp only [go_sem, Nat.reduceBEq]; try rfl) (.v _)) (wk_fset _ _ (wk_data (by try simp only [go_sem, Nat.reduceBEq]; try rfl) ((CFi .u32).sl _ _ _)) (wk_fset _ _ (wk_data (by try simp only [go_sem, Nat.reduceBEq]; try rfl) ((CFi .u32).sl _ _ _)) wk_none)))) heapWk0
      · refine AWp.exit ?_
        refine exitSeq ?_
        refine exitThen ?_
        refine exitHere ?_
        refine normSeq ?_
        refine sr (N' := 192) rfl ?_
        iterate 3 refine pu rfl (by simp only [go_sem, Nat.reduceBEq]; try with_reducible rfl) ?_
        refine fs ?_
        refine AWp.ret ?_
        cases hm
        exact ret2D (.inr rfl) Try.results25 (td (by try simp only [go_sem, Nat.reduceBEq]; try rfl) ((CFi .u32).sl _ _ _)) (td (by try simp only [go_sem, Nat.reduceBEq]; try rfl) (.v _))
def refBits_B2 (rec1 : List Int → List Int → Int → Option ((List Int))) (rec2 : List Int → List Int → Int → Int → Option ((List Int))) (a_0 : List Int) (out_3 : List Int) (i_4 : Int) (k_5 : Int) : Option ((List Int)) :=
  (bif (decide (k_5 < 32)) then
    ((idx a_0 i_4).bind fun x2 =>
    ((chk (decide (0 ≤ (IntKind.u64.wrap k_5)))).bind fun _ =>
    ((app out_3 [(IntKind.i64.wrap (Int.tmod (shr .u32 x2 (IntKind.u64.wrap k_5)) 2))]).bind fun l5 =>
    rec2 a_0 l5 i_4 (IntKind.i64.wrap (k_5 + 1)))))
  else
    rec1 a_0 out_3 (IntKind.i64.wrap (i_4 + 1)))
def refBits_L2 (rec1 : List Int → List Int → Int → Option ((List Int))) : Nat → List Int → List Int → Int → Int → Option ((List Int))
  | 0 => fun _ _ _ _ => none
  | n + 1 => refBits_B2 rec1 (refBits_L2 rec1 n)
def refBits_B1 (rec1 : List Int → List Int → Int → Option ((List Int))) (a_0 : List Int) (out_3 : List Int) (i_4 : Int) : Option ((List Int)) :=
  (bif (decide (i_4 < (a_0.length : Int))) then
    refBits_L2 rec1 FUEL a_0 out_3 i_4 0
  else
    some out_3)
def refBits_L1 : Nat → List Int → List Int → Int → Option ((List Int))
  | 0 => fun _ _ _ => none
  | n + 1 => refBits_B1 (refBits_L1 n)
def refBits_m (a_0 : List Int) : Option ((List Int)) :=
  refBits_L1 FUEL a_0 [] 0
theorem refBits_c {a_0 : List Int} {r : (List Int)} (hm : refBits_m a_0 = some r) : PureC Try.prog 36 [.sl (a_0.flatMap (ci .u32)) a_0.length false] (.sl (r.flatMap (ci .i64)) r.length false) := by
  refine PureC.of_body Try.func36 rfl ?_
  simp only [Try.ntmps36, List.length_cons, List.length_nil, Nat.reduceAdd, Nat.reduceSub, empty_eq]
  unfold refBits_m at hm
  refine sr (N' := 64) rfl ?_
  refine pu rfl (by simp only [go_sem, Nat.reduceBEq]; try with_reducible rfl) ?_
  refine fs ?_
  refine sr (N' := 128) rfl ?_
  refine pu rfl (by simp only [go_sem, Nat.reduceBEq]; try with_reducible rfl) ?_
  refine fs ?_
  refine AWp.seq' ?_
  refine sr (N' := 192) rfl ?_
  refine pu rfl (by simp only [go_sem, Nat.reduceBEq]; try with_reducible rfl) ?_
  refine fs ?_
  refine AWp.block ?_
  refine AWp.loopM (fun m s => ∃ (a_0 : List Int) (out_3 : List Int) (i_4 : Int), s = (⟨29, (fset (fset (fset (fun _ => AV.any) 0 (.sl (a_0.flatMap (ci .u32)) a_0.length false)) 3 (.own 1 0 out_3.length)) 4 (.v (.int .i64 i_4))), ⟨(upd nofresh 1 (.cells 1 (out_3.flatMap (ci .i64)) 0)), 64⟩⟩ : St) ∧ refBits_L1 m a_0 out_3 i_4 = some r) FUEL ?_ ?_ ?_
  · rintro s ⟨_, _, _, _, h⟩
    cases h
  · refine ⟨_, ?_, a_0, [], 0, rfl, hm⟩
    refine St.Le.trans (le_nil 3 900003 1 (by try simp only [go_sem, Nat.reduceBEq]; try rfl) (by simp only [isFresh_upd, isFresh_no, Nat.reduceBEq, cond_true, cond_false])) ?_
    exact le_canon (fun j => bif j == 1 then 900003 else 0) (wk_fset _ _ (wk_data (by try simp only [go_sem, Nat.reduceBEq]; try rfl) (.v _)) (wk_fset _ _ (wk_own (by try simp only [go_sem, Nat.reduceBEq]; try rfl) (by first | rfl | omega) rfl (by simp [upd])) (wk_fset _ _ (wk_data (by try simp only [go_sem, Nat.reduceBEq]; try rfl) ((CFi .u32).sl _ _ _)) wk_none))) (heapWk_of _ (entWk_upd (ent_fm (CFi .i64) (by simp only [upd_beq, Nat.reduceBEq, cond_true, cond_false]; try rfl) rfl) entWk_none) (by repeat' (first | exact inj_none | exact liv_none | refine inj_upd ?_ ?_ | refine liv_upd ?_ ?_ | exact .inl rfl | exact .inr (by decide))))
  · rintro n1 s ⟨a_0, out_3, i_4, rfl, hm⟩
    replace hm : refBits_B1 (refBits_L1 n1) a_0 out_3 i_4 = some r := hm
    unfold refBits_B1 at hm
    refine AWp.seq' ?_
    refine sr (N' := 128) rfl ?_
    iterate 4 refine pu rfl (by simp only [go_sem, Nat.reduceBEq]; try with_reducible rfl) ?_
    refine fs ?_
    refine AWp.condM hm (by try simp only [go_sem, Nat.reduceBEq]; try rfl) (fun _ hm => ?_) (fun _ hm => ?_)
    · refine AWp.skip ?_
      refine normSeq ?_
      refine AWp.seq' ?_
      refine AWp.block ?_
      refine sr (N' := 192) rfl ?_
      refine pu rfl (by simp only [go_sem, Nat.reduceBEq]; try with_reducible rfl) ?_
      refine fs ?_
      refine AWp.block ?_
      refine AWp.loopM (fun m s => ∃ (a_0 : List Int) (out_3 : List Int) (i_4 : Int) (k_5 : Int), s = (⟨29, (fset (fset (fset (fset (fun _ => AV.any) 0 (.sl (a_0.flatMap (ci .u32)) a_0.length false)) 3 (.own 1 0 out_3.length)) 4 (.v (.int .i64 i_4))) 5 (.v (.int .i64 k_5))), ⟨(upd nofresh 1 (.cells 1 (out_3.flatMap (ci .i64)) 0)), 64⟩⟩ : St) ∧ refBits_L2 (refBits_L1 n1) m a_0 out_3 i_4 k_5 = some r) FUEL ?_ ?_ ?_
      · rintro s ⟨_, _, _, _, _, h⟩
        cases h
      · refine ⟨_, ?_, a_0, out_3, i_4, 0, rfl, hm⟩
        exact le_canon (fun j => bif j == 1 then 1 else 0) (wk_fset _ _ (wk_data (by try simp only [go_sem, Nat.reduceBEq]; try rfl) (.v _)) (wk_fset _ _ (wk_data (by try simp only [go_sem, Nat.reduceBEq]; try rfl) (.v _)) (wk_fset _ _ (wk_own (by try simp only [go_sem, Nat.reduceBEq]; try rfl) (by first | rfl | omega) rfl (by simp [upd])) (wk_fset _ _ (wk_data (by try simp only [go_sem, Nat.reduceBEq]; try rfl) ((CFi .u32).sl _ _ _)) wk_none)))) (heapWk_of _ (entWk_upd (ent_fm (CFi .i64) (by simp only [upd_beq, Nat.reduceBEq, cond_true, cond_false]; try rfl) rfl) entWk_none) (by repeat' (first | exact inj_none | exact liv_none | refine inj_upd ?_ ?_ | refine liv_upd ?_ ?_ | exact .inl rfl | exact .inr (by decide))))
      · rintro n2 s ⟨a_0, out_3, i_4, k_5, rfl, hm⟩
        replace hm : refBits_B2 (refBits_L1 n1) (refBits_L2 (refBits_L1 n1) n2) a_0 out_3 i_4 k_5 = some r := hm
        unfold refBits_B2 at hm
        refine AWp.seq' ?_
        refine sr (N' := 128) rfl ?_
        iterate 2 refine pu rfl (by simp only [go_sem, Nat.reduceBEq]; try with_reducible rfl) ?_
        refine fs ?_
        refine AWp.condM hm (by try simp only [go_sem, Nat.reduceBEq]; try rfl) (fun _ hm => ?_) (fun _ hm => ?_)
        · refine AWp.skip ?_
          refine normSeq ?_
          refine AWp.seq' ?_
          refine AWp.block ?_
          refine AWp.reg 64 (N' := 192) rfl ?_
          iterate 3 refine pu rfl (by simp only [go_sem, Nat.reduceBEq]; try with_reducible rfl) ?_
          obtain ⟨x2, h1, hm⟩ := bnd hm
          refine pu rfl (ap_idx (CFi .u32) (by decide) Try.underlying24 sz44 (by try simp only [go_sem, Nat.reduceBEq]; try rfl) rfl (by try simp only [go_sem, Nat.reduceBEq]; try rfl) h1) ?_
          iterate 3 refine pu rfl (by simp only [go_sem, Nat.reduceBEq]; try with_reducible rfl) ?_
          obtain ⟨_, h3, hm⟩ := bnd hm
          refine pu rfl (ap_shr (by try simp only [go_sem, Nat.reduceBEq]; try rfl) (by try simp only [go_sem, Nat.reduceBEq]; try rfl) (chk_t h3)) ?_
          iterate 2 refine pu rfl (by simp only [go_sem, Nat.reduceBEq, Int.reduceEq, Int.reduceLE]; try with_reducible rfl) ?_
          refine hp (id := 138) rfl rfl (ah_list (CFi .i64) (l := [(IntKind.i64.wrap (Int.tmod (shr .u32 x2 (IntKind.u64.wrap k_5)) 2))]) Try.underlying56 sz3 zc3 (by simp only [isFresh_upd, isFresh_no, Nat.reduceBEq, cond_true, cond_false]) (by decide) (by decide) (by decide) (by simp only [go_sem, Nat.reduceBEq]; try rfl) (by kernel_rfl)) ?_
          obtain ⟨l5, h4, hm⟩ := bnd hm
          refine hp (id := 139) rfl rfl (ah_app (CFi .i64) Try.underlying56 Try.underlying56 rfl in3 ts3 (by rw [tb3]; decide) (by rw [tb3]; decide) tz3 (by decide) (by decide) (by try simp only [go_sem, Nat.reduceBEq]; try rfl) (by simp only [upd_beq, Nat.reduceBEq, cond_true, cond_false]; try rfl) (by first | rfl | omega) (as_own (CFi .i64) (by try simp only [go_sem, Nat.reduceBEq]; try rfl) (by simp only [upd_beq, Nat.reduceBEq, cond_true, cond_false]; try rfl) (by first | rfl | omega)) rfl (by simp only [isFresh_upd, isFresh_no, Nat.reduceBEq, cond_true, cond_false]) h4) ?_
          refine pu rfl (by simp only [go_sem, Nat.reduceBEq]; try with_reducible rfl) ?_
          refine ARun.fin ?_
          refine normIn ?_
          refine normSeq ?_
          refine AWp.reg 64 (N' := 256) rfl ?_
          iterate 3 refine pu rfl (by simp only [go_sem, Nat.reduceBEq]; try with_reducible rfl) ?_
          refine ARun.fin ?_
          refine normThen ?_
          refine ⟨_, ?_, a_0, l5, i_4, (IntKind.i64.wrap (k_5 + 1)), rfl, hm⟩
          exact le_canon (fun j => bif j == 1 then 139 else 0) (wk_fset _ _ (wk_data (by try simp only [go_sem, Nat.reduceBEq]; try rfl) (.v _)) (wk_fset _ _ (wk_data (by try simp only [go_sem, Nat.reduceBEq]; try rfl) (.v _)) (wk_fset _ _ (wk_own (by try simp only [go_sem, Nat.reduceBEq]; try rfl) (by first | rfl | omega) rfl (by simp [upd])) (wk_fset _ _ (wk_data (by try simp only [go_sem, Nat.reduceBEq]; try rfl) ((CFi .u32).sl _ _ _)) wk_none)))) (heapWk_of _ (entWk_upd (ent_fm (CFi .i64) (by simp only [upd_beq, Nat.reduceBEq, cond_true, cond_false]; try rfl) rfl) entWk_none) (by repeat' (first | exact inj_none | exact liv_none | refine inj_upd ?_ ?_ | refine liv_upd ?_ ?_ | exact .inl rfl | exact .inr (by decide))))
        · refine AWp.exit ?_
          refine exitSeq ?_
          refine exitThen ?_
          refine exitHere ?_
          refine normIn ?_
          refine normSeq ?_
          refine AWp.reg 64 (N' := 192) rfl ?_
          iterate 3 refine pu rfl (by simp only [go_sem, Nat.reduceBEq]; try with_reducible rfl) ?_
          refine ARun.fin ?_
          refine normThen ?_
          refine ⟨_, ?_, a_0, out_3, (IntKind.i64.wrap (i_4 + 1)), rfl, hm⟩
          exact le_canon (fun j => bif j == 1 then 1 else 0) (wk_fset _ _ (wk_data (by try simp only [go_sem, Nat.reduceBEq]; try rfl) (.v _)) (wk_fset _ _ (wk_own (by try simp only [go_sem, Nat.reduceBEq]; try rfl) (by first | rfl | omega) rfl (by simp [upd])) (wk_fset _ _ (wk_data (by try simp only [go_sem, Nat.reduceBEq]; try rfl) ((CFi .u32).sl _ _ _)) wk_none))) (heapWk_of _ (entWk_upd (ent_fm (CFi .i64) (by simp only [upd_beq, Nat.reduceBEq, cond_true, cond_false]; try rfl) rfl) entWk_none) (by repeat' (first | exact inj_none | exact liv_none | refine inj_upd ?_ ?_ | refine liv_upd ?_ ?_ | exact .inl rfl | exact .inr (by decide))))
    · refine AWp.exit ?_
      refine exitSeq ?_
      refine exitThen ?_
      refine exitHere ?_
      refine normSeq ?_
      refine sr (N' := 192) rfl ?_
      iterate 2 refine pu rfl (by simp only [go_sem, Nat.reduceBEq]; try with_reducible rfl) ?_
      refine fs ?_
      refine AWp.ret ?_
      cases hm
      exact ret1D (.inr rfl) Try.results36 (tdo (CFi .i64) (by try simp only [go_sem, Nat.reduceBEq]; try rfl) (by simp only [upd_beq, Nat.reduceBEq, cond_true, cond_false]; try rfl) (by first | rfl | omega))
def refWhole_J1 (rec1 : List Int → List Int → Int → Option ((List Int))) (l_0 : List Int) (out_3 : List Int) (i_4 : Int) : Option ((List Int)) :=
  rec1 l_0 out_3 (IntKind.i64.wrap (i_4 + 1))
def refWhole_J2 (rec1 : List Int → List Int → Int → Option ((List Int))) (l_0 : List Int) (out_3 : List Int) (i_4 : Int) : Option ((List Int)) :=
  ((idx l_0 i_4).bind fun x2 =>
  (bif (x2 == 1) then
    ((idx out_3 (IntKind.i64.wrap (Int.tdiv i_4 32))).bind fun x4 =>
    ((chk (decide (0 ≤ (IntKind.u64.wrap (Int.tmod i_4 32))))).bind fun _ =>
    ((idx out_3 (IntKind.i64.wrap (Int.tdiv i_4 32))).bind fun x7 =>
    ((stt out_3 (IntKind.i64.wrap (Int.tdiv i_4 32)) (bor .u32 x4 (shl .u32 1 (IntKind.u64.wrap (Int.tmod i_4 32))))).bind fun l9 =>
    refWhole_J1 rec1 l_0 l9 i_4))))
  else
    refWhole_J1 rec1 l_0 out_3 i_4))
def refWhole_B2 (rec2 : List Int → Option ((List Int))) (out_3 : List Int) : Option ((List Int)) :=
  ((gopt ((decide (0 < (out_3.length : Int))) == true) 0 (idx out_3 (IntKind.i64.wrap ((out_3.length : Int) - 1)))).bind fun x13 =>
  (bif ((decide (0 < (out_3.length : Int))) && (x13 == 0)) then
    ((slc out_3 0 (IntKind.i64.wrap ((out_3.length : Int) - 1))).bind fun l15 =>
    rec2 l15)
  else
    some out_3))
def refWhole_L2 : Nat → List Int → Option ((List Int))
  | 0 => fun _ => none
  | n + 1 => refWhole_B2 (refWhole_L2 n)
def refWhole_B1 (rec1 : List Int → List Int → Int → Option ((List Int))) (l_0 : List Int) (out_3 : List Int) (i_4 : Int) : Option ((List Int)) :=
  (bif (decide (i_4 < (l_0.length : Int))) then
    (bif ((Int.tmod i_4 32) == 0) then
      ((app out_3 [0]).bind fun l11 =>
      refWhole_J2 rec1 l_0 l11 i_4)
    else
      refWhole_J2 rec1 l_0 out_3 i_4)
  else
    refWhole_L2 FUEL out_3)
def refWhole_L1 : Nat → List Int → List Int → Int → Option ((List Int))
  | 0 => fun _ _ _ => none
  | n + 1 => refWhole_B1 (refWhole_L1 n)
def refWhole_m (l_0 : List Int) : Option ((List Int)) :=
  refWhole_L1 FUEL l_0 [] 0
theorem refWhole_c {l_0 : List Int} {r : (List Int)} (hm : refWhole_m l_0 = some r) : PureC Try.prog 40 [.sl (l_0.flatMap (ci .i64)) l_0.length false] (.sl (r.flatMap (ci .u32)) r.length false) := by
  refine PureC.of_body Try.func40 rfl ?_
  simp only [Try.ntmps40, List.length_cons, List.length_nil, Nat.reduceAdd, Nat.reduceSub, empty_eq]
  unfold refWhole_m at hm
  refine sr (N' := 64) rfl ?_
  refine pu rfl (by simp only [go_sem, Nat.reduceBEq]; try with_reducible rfl) ?_
  refine fs ?_
  refine sr (N' := 128) rfl ?_
  refine pu rfl (by simp only [go_sem, Nat.reduceBEq]; try with_reducible rfl) ?_
  refine fs ?_
  refine AWp.seq' ?_
  refine sr (N' := 192) rfl ?_
  refine pu rfl (by simp only [go_sem, Nat.reduceBEq]; try with_reducible rfl) ?_
  refine fs ?_
  refine AWp.block ?_
  refine AWp.loopM (fun m s => ∃ (l_0 : List Int) (out_3 : List Int) (i_4 : Int), s = (⟨54, (fset (fset (fset (fun _ => AV.any) 0 (.sl (l_0.flatMap (ci .i64)) l_0.length false)) 3 (.own 1 0 out_3.length)) 4 (.v (.int .i64 i_4))), ⟨(upd nofresh 1 (.cells 1 (out_3.flatMap (ci .u32)) 0)), 64⟩⟩ : St) ∧ refWhole_L1 m l_0 out_3 i_4 = some r) FUEL ?_ ?_ ?_
  · rintro s ⟨_, _, _, _, h⟩
    cases h
  · refine ⟨_, ?_, l_0, [], 0, rfl, hm⟩
    refine St.Le.trans (le_nil 3 900003 1 (by try simp only [go_sem, Nat.reduceBEq]; try rfl) (by simp only [isFresh_upd, isFresh_no, Nat.reduceBEq, cond_true, cond_false])) ?_
    exact le_canon (fun j => bif j == 1 then 900003 else 0) (wk_fset _ _ (wk_data (by try simp only [go_sem, Nat.reduceBEq]; try rfl) (.v _)) (wk_fset _ _ (wk_own (by try simp only [go_sem, Nat.reduceBEq]; try rfl) (by first | rfl | omega) rfl (by simp [upd])) (wk_fset _ _ (wk_data (by try simp only [go_sem, Nat.reduceBEq]; try rfl) ((CFi .i64).sl _ _ _)) wk_none))) (heapWk_of _ (entWk_upd (ent_fm (CFi .u32) (by simp only [upd_beq, Nat.reduceBEq, cond_true, cond_false]; try rfl) rfl) entWk_none) (by repeat' (first | exact inj_none | exact liv_none | refine inj_upd ?_ ?_ | refine liv_upd ?_ ?_ | exact .inl rfl | exact .inr (by decide))))
  · rintro n1 s ⟨l_0, out_3, i_4, rfl, hm⟩
    replace hm : refWhole_B1 (refWhole_L1 n1) l_0 out_3 i_4 = some r := hm
    unfold refWhole_B1 at hm
    refine AWp.seq' ?_
    refine sr (N' := 128) rfl ?_
    iterate 4 refine pu rfl (by simp only [go_sem, Nat.reduceBEq]; try with_reducible rfl) ?_
    refine fs ?_
    refine AWp.condM hm (by try simp only [go_sem, Nat.reduceBEq]; try rfl) (fun _ hm => ?_) (fun _ hm => ?_)
    · refine AWp.skip ?_
      refine normSeq ?_
      refine AWp.seqJ (fun s => ∃ (l_0 : List Int) (out_3 : List Int) (i_4 : Int), s = (⟨54, (fset (fset (fset (fun _ => AV.any) 0 (.sl (l_0.flatMap (ci .i64)) l_0.length false)) 3 (.own 1 0 out_3.length)) 4 (.v (.int .i64 i_4))), ⟨(upd nofresh 1 (.cells 1 (out_3.flatMap (ci .u32)) 0)), 64⟩⟩ : St) ∧ refWhole_J1 (refWhole_L1 n1) l_0 out_3 i_4 = some r) ?_ ?_
      · refine AWp.block ?_
        refine AWp.seqJ (fun s => ∃ (l_0 : List Int) (out_3 : List Int) (i_4 : Int), s = (⟨54, (fset (fset (fset (fun _ => AV.any) 0 (.sl (l_0.flatMap (ci .i64)) l_0.length false)) 3 (.own 1 0 out_3.length)) 4 (.v (.int .i64 i_4))), ⟨(upd nofresh 1 (.cells 1 (out_3.flatMap (ci .u32)) 0)), 64⟩⟩ : St) ∧ refWhole_J2 (refWhole_L1 n1) l_0 out_3 i_4 = some r) ?_ ?_
        · refine sr (N' := 192) rfl ?_
          iterate 3 refine pu rfl (by simp only [go_sem, Nat.reduceBEq, Int.reduceEq, Int.reduceLE]; try with_reducible rfl) ?_
          refine fs ?_
          refine AWp.condM hm (by try simp only [go_sem, Nat.reduceBEq]; try rfl) (fun _ hm => ?_) (fun _ hm => ?_)
          · refine AWp.reg 64 (N' := 256) rfl ?_
            refine pu rfl (by simp only [go_sem, Nat.reduceBEq]; try with_reducible rfl) ?_
            refine hp (id := 193) rfl rfl (ah_list (CFi .u32) (l := [0]) Try.underlying24 sz44 zc44 (by simp only [isFresh_upd, isFresh_no, Nat.reduceBEq, cond_true, cond_false]) (by decide) (by decide) (by decide) (by simp only [go_sem, Nat.reduceBEq]; try rfl) (by kernel_rfl)) ?_
            obtain ⟨l11, h10, hm⟩ := bnd hm
            refine hp (id := 194) rfl rfl (ah_app (CFi .u32) Try.underlying24 Try.underlying24 rfl in44 ts44 (by rw [tb44]; decide) (by rw [tb44]; decide) tz44 (by decide) (by decide) (by try simp only [go_sem, Nat.reduceBEq]; try rfl) (by simp only [upd_beq, Nat.reduceBEq, cond_true, cond_false]; try rfl) (by first | rfl | omega) (as_own (CFi .u32) (by try simp only [go_sem, Nat.reduceBEq]; try rfl) (by simp only [upd_beq, Nat.reduceBEq, cond_true, cond_false]; try rfl) (by first | rfl | omega)) rfl (by simp only [isFresh_upd, isFresh_no, Nat.reduceBEq, cond_true, cond_false]) h10) ?_
            refine pu rfl (by simp only [go_sem, Nat.reduceBEq]; try with_reducible rfl) ?_
            refine ARun.fin ?_
            refine normJ ?_
            refine ⟨_, ?_, l_0, l11, i_4, rfl, hm⟩
            exact le_canon (fun j => bif j == 1 then 194 else 0) (wk_fset _ _ (wk_data (by try simp only [go_sem, Nat.reduceBEq]; try rfl) (.v _)) (wk_fset _ _ (wk_own (by try simp only [go_sem, Nat.reduceBEq]; try rfl) (by first | rfl | omega) rfl (by simp [upd])) (wk_fset _ _ (wk_data (by try simp only [go_sem, Nat.reduceBEq]; try rfl) ((CFi .i64).sl _ _ _)) wk_none))) (heapWk_of _ (entWk_upd (ent_fm (CFi .u32) (by simp only [upd_beq, Nat.reduceBEq, cond_true, cond_false]; try rfl) rfl) entWk_none) (by repeat' (first | exact inj_none | exact liv_none | refine inj_upd ?_ ?_ | refine liv_upd ?_ ?_ | exact .inl rfl | exact .inr (by decide))))
          · refine AWp.skip ?_
            refine normJ ?_
            refine ⟨_, ?_, l_0, out_3, i_4, rfl, hm⟩
            exact le_canon (fun j => bif j == 1 then 1 else 0) (wk_fset _ _ (wk_data (by try simp only [go_sem, Nat.reduceBEq]; try rfl) (.v _)) (wk_fset _ _ (wk_own (by try simp only [go_sem, Nat.reduceBEq]; try rfl) (by first | rfl | omega) rfl (by simp [upd])) (wk_fset _ _ (wk_data (by try simp only [go_sem, Nat.reduceBEq]; try rfl) ((CFi .i64).sl _ _ _)) wk_none))) (heapWk_of _ (entWk_upd (ent_fm (CFi .u32) (by simp only [upd_beq, Nat.reduceBEq, cond_true, cond_false]; try rfl) rfl) entWk_none) (by repeat' (first | exact inj_none | exact liv_none | refine inj_upd ?_ ?_ | refine liv_upd ?_ ?_ | exact .inl rfl | exact .inr (by decide))))
        · rintro s ⟨l_0, out_3, i_4, rfl, hm⟩
          unfold refWhole_J2 at hm
          refine sr (N' := 128) rfl ?_
          iterate 2 refine pu rfl (by simp only [go_sem, Nat.reduceBEq]; try with_reducible rfl) ?_
          obtain ⟨x2, h1, hm⟩ := bnd hm
          refine pu rfl (ap_idx (CFi .i64) (by decide) Try.underlying56 sz3 (by try simp only [go_sem, Nat.reduceBEq]; try rfl) rfl (by try simp only [go_sem, Nat.reduceBEq]; try rfl) h1) ?_
          iterate 2 refine pu rfl (by simp only [go_sem, Nat.reduceBEq]; try with_reducible rfl) ?_
          refine fs ?_
          refine AWp.condM hm (by try simp only [go_sem, Nat.reduceBEq]; try rfl) (fun _ hm => ?_) (fun _ hm => ?_)
          · refine AWp.reg 64 (N' := 192) rfl ?_
            iterate 6 refine pu rfl (by simp only [go_sem, Nat.reduceBEq, Int.reduceEq, Int.reduceLE]; try with_reducible rfl) ?_
            obtain ⟨x4, h3, hm⟩ := bnd hm
            refine pu rfl (ap_idxo Try.underlying24 sz44 (by try simp only [go_sem, Nat.reduceBEq]; try rfl) (by simp only [upd_beq, Nat.reduceBEq, cond_true, cond_false]; try rfl) (by first | rfl | omega) (by try simp only [go_sem, Nat.reduceBEq]; try rfl) h3) ?_
            refine pu rfl (ap_ldo (CFi .u32) (by try simp only [go_sem, Nat.reduceBEq]; try rfl) (by simp only [upd_beq, Nat.reduceBEq, cond_true, cond_false]; try rfl) h3 (fun _ => by simp only [go_sem, Nat.reduceBEq]; try with_reducible rfl)) ?_
            iterate 3 refine pu rfl (by simp only [go_sem, Nat.reduceBEq, Int.reduceEq, Int.reduceLE]; try with_reducible rfl) ?_
            obtain ⟨_, h5, hm⟩ := bnd hm
            refine pu rfl (ap_shl (by try simp only [go_sem, Nat.reduceBEq]; try rfl) (by try simp only [go_sem, Nat.reduceBEq]; try rfl) (chk_t h5)) ?_
            refine pu rfl (by simp only [go_sem, Nat.reduceBEq]; try with_reducible rfl) ?_
            obtain ⟨x7, h6, hm⟩ := bnd hm
            refine pu rfl (ap_idxo Try.underlying24 sz44 (by try simp only [go_sem, Nat.reduceBEq]; try rfl) (by simp only [upd_beq, Nat.reduceBEq, cond_true, cond_false]; try rfl) (by first | rfl | omega) (by try simp only [go_sem, Nat.reduceBEq]; try rfl) h6) ?_
            obtain ⟨l9, h8, hm⟩ := bnd hm
            have qh8 := stt_len h8
            refine ARun.heap0 (id := 142) rfl (ah_stt (CFi .u32) sz44 (by try simp only [go_sem, Nat.reduceBEq]; try rfl) (by try simp only [go_sem, Nat.reduceBEq]; try rfl) (by simp only [upd_beq, Nat.reduceBEq, cond_true, cond_false]; try rfl) rfl h8) ?_
            refine ARun.fin ?_
            refine normIn ?_
            refine normJ ?_
            refine ⟨_, ?_, l_0, l9, i_4, rfl, hm⟩
            exact le_canon (fun j => bif j == 1 then 1 else 0) (wk_fset _ _ (wk_data (by try simp only [go_sem, Nat.reduceBEq]; try rfl) (.v _)) (wk_fset _ _ (wk_own (by try simp only [go_sem, Nat.reduceBEq]; try rfl) (by first | rfl | omega) rfl (by simp [upd])) (wk_fset _ _ (wk_data (by try simp only [go_sem, Nat.reduceBEq]; try rfl) ((CFi .i64).sl _ _ _)) wk_none))) (heapWk_of _ (entWk_upd (ent_fm (CFi .u32) (by simp only [upd_beq, Nat.reduceBEq, cond_true, cond_false]; try rfl) rfl) entWk_none) (by repeat' (first | exact inj_none | exact liv_none | refine inj_upd ?_ ?_ | refine liv_upd ?_ ?_ | exact .inl rfl | exact .inr (by decide))))
          · refine AWp.skip ?_
            refine normIn ?_
            refine normJ ?_
            refine ⟨_, ?_, l_0, out_3, i_4, rfl, hm⟩
            exact le_canon (fun j => bif j == 1 then 1 else 0) (wk_fset _ _ (wk_data (by try simp only [go_sem, Nat.reduceBEq]; try rfl) (.v _)) (wk_fset _ _ (wk_own (by try simp only [go_sem, Nat.reduceBEq]; try rfl) (by first | rfl | omega) rfl (by simp [upd])) (wk_fset _ _ (wk_data (by try simp only [go_sem, Nat.reduceBEq]; try rfl) ((CFi .i64).sl _ _ _)) wk_none))) (heapWk_of _ (entWk_upd (ent_fm (CFi .u32) (by simp only [upd_beq, Nat.reduceBEq, cond_true, cond_false]; try rfl) rfl) entWk_none) (by repeat' (first | exact inj_none | exact liv_none | refine inj_upd ?_ ?_ | refine liv_upd ?_ ?_ | exact .inl rfl | exact .inr (by decide))))
      · rintro s ⟨l_0, out_3, i_4, rfl, hm⟩
        unfold refWhole_J1 at hm
        refine AWp.reg 64 (N' := 128) rfl ?_
        iterate 3 refine pu rfl (by simp only [go_sem, Nat.reduceBEq]; try with_reducible rfl) ?_
        refine ARun.fin ?_
        refine normThen ?_
        refine ⟨_, ?_, l_0, out_3, (IntKind.i64.wrap (i_4 + 1)), rfl, hm⟩
        exact le_canon (fun j => bif j == 1 then 1 else 0) (wk_fset _ _ (wk_data (by try simp only [go_sem, Nat.reduceBEq]; try rfl) (.v _)) (wk_fset _ _ (wk_own (by try simp only [go_sem, Nat.reduceBEq]; try rfl) (by first | rfl | omega) rfl (by simp [upd])) (wk_fset _ _ (wk_data (by try simp only [go_sem, Nat.reduceBEq]; try rfl) ((CFi .i64).sl _ _ _)) wk_none))) (heapWk_of _ (entWk_upd (ent_fm (CFi .u32) (by simp only [upd_beq, Nat.reduceBEq, cond_true, cond_false]; try rfl) rfl) entWk_none) (by repeat' (first | exact inj_none | exact liv_none | refine inj_upd ?_ ?_ | refine liv_upd ?_ ?_ | exact .inl rfl | exact .inr (by decide))))
    · refine AWp.exit ?_
      refine exitSeq ?_
      refine exitThen ?_
      refine exitHere ?_
      refine normSeq ?_
      refine AWp.seq' ?_
      refine AWp.block ?_
      refine AWp.loopM (fun m s => ∃ (out_3 : List Int), s = (⟨54, (fset (fun _ => AV.any) 3 (.sl (out_3.flatMap (ci .u32)) out_3.length false)), ⟨nofresh, 64⟩⟩ : St) ∧ refWhole_L2 m out_3 = some r) FUEL ?_ ?_ ?_
      · rintro s ⟨_, _, h⟩
        cases h
      · refine ⟨_, ?_, out_3, rfl, hm⟩
        refine St.Le.trans (le_lock (CFi .u32) 3 1 (by try simp only [go_sem, Nat.reduceBEq]; try rfl) (by simp only [upd_beq, Nat.reduceBEq, cond_true, cond_false]; try rfl) (by first | rfl | omega)) ?_
        exact le_canon id (wk_fset _ _ (wk_data (by try simp only [go_sem, Nat.reduceBEq]; try rfl) ((CFi .u32).sl _ _ _)) wk_none) heapWk0
      · rintro n2 s ⟨out_3, rfl, hm⟩
        replace hm : refWhole_B2 (refWhole_L2 n2) out_3 = some r := hm
        unfold refWhole_B2 at hm
        refine AWp.seq' ?_
        refine sr (N' := 128) rfl ?_
        iterate 8 (first | refine pu rfl (by simp only [go_sem, Nat.reduceBEq]; try with_reducible rfl) ?_ | refine pg rfl rfl (by simp only [go_sem, Nat.reduceBEq]; try with_reducible rfl) (by intro hb; simp only [go_sem, Nat.reduceBEq, hb, Bool.true_and]; try with_reducible rfl) ?_)
        obtain ⟨x13, h12, hm⟩ := bnd hm
        refine pg rfl rfl (by simp only [go_sem, Nat.reduceBEq]; try with_reducible rfl) (fun hb => (ap_idx (CFi .u32) (by decide) Try.underlying24 sz44 (by try simp only [go_sem, Nat.reduceBEq, hb, Bool.true_and]; try rfl) rfl (by try simp only [go_sem, Nat.reduceBEq, hb, Bool.true_and]; try rfl) (gopt_t h12 hb))) ?_
        iterate 3 (first | refine pu rfl (by simp only [go_sem, Nat.reduceBEq]; try with_reducible rfl) ?_ | refine pg rfl rfl (by simp only [go_sem, Nat.reduceBEq]; try with_reducible rfl) (by intro hb; simp only [go_sem, Nat.reduceBEq, hb, Bool.true_and]; try with_reducible rfl) ?_)
        refine fs ?_
        refine AWp.condM hm (by try simp only [go_sem, Nat.reduceBEq]; try rfl) (fun _ hm => ?_) (fun _ hm => ?_)
        · refine AWp.skip ?_
          refine normSeq ?_
          refine AWp.block ?_
          refine AWp.reg 64 (N' := 192) rfl ?_
          iterate 4 refine pu rfl (by simp only [go_sem, Nat.reduceBEq]; try with_reducible rfl) ?_
          obtain ⟨l15, h14, hm⟩ := bnd hm
          refine pu rfl (ap_slc (CFi .u32) Try.underlying24 sz44 (by try simp only [go_sem, Nat.reduceBEq]; try rfl) rfl ab_none0 (ab_some (by try simp only [go_sem, Nat.reduceBEq]; try rfl) (slc_0 h14).2) h14) ?_
          refine pu rfl (by simp only [go_sem, Nat.reduceBEq]; try with_reducible rfl) ?_
          refine ARun.fin ?_
          refine normIn ?_
          refine normThen ?_
          refine ⟨_, ?_, l15, rfl, hm⟩
          refine St.Le.trans (le_tod 3 (.sl (l15.flatMap (ci .u32)) l15.length false) (fun H => (tdf (by try simp only [go_sem, Nat.reduceBEq]; try rfl) ((CFi .u32).sl _ _ _)))) ?_
          exact le_canon id (wk_fset _ _ (wk_data (by try simp only [go_sem, Nat.reduceBEq]; try rfl) ((CFi .u32).sl _ _ _)) wk_none) heapWk0
        · refine AWp.exit ?_
          refine exitSeq ?_
          refine exitThen ?_
          refine exitHere ?_
          refine normSeq ?_
          refine sr (N' := 192) rfl ?_
          iterate 2 refine pu rfl (by simp only [go_sem, Nat.reduceBEq]; try with_reducible rfl) ?_
          refine fs ?_
          refine AWp.ret ?_
          cases hm
          exact ret1D (.inr rfl) Try.results40 (td (by try simp only [go_sem, Nat.reduceBEq]; try rfl) ((CFi .u32).sl _ _ _))
def refShift_B1 (rec1 : List Int → Int → List Int → Int → Option ((List Int))) (a_0 : List Int) (by_1 : Int) (l_5 : List Int) (i_6 : Int) : Option ((List Int)) :=
  (bif (decide (i_6 < by_1)) then
    ((app l_5 [0]).bind fun l2 =>
    rec1 a_0 by_1 l2 (IntKind.i64.wrap (i_6 + 1)))
  else
    ((refBits_m a_0).bind fun r4 =>
    ((app l_5 r4).bind fun l6 =>
    ((refWhole_m l6).bind fun r8 =>
    some r8))))
def refShift_L1 : Nat → List Int → Int → List Int → Int → Option ((List Int))
  | 0 => fun _ _ _ _ => none
  | n + 1 => refShift_B1 (refShift_L1 n)
def refShift_m (a_0 : List Int) (by_1 : Int) : Option ((List Int)) :=
  refShift_L1 FUEL a_0 by_1 [] 0
theorem refShift_c {a_0 : List Int} {by_1 : Int} {r : (List Int)} (hm : refShift_m a_0 by_1 = some r) : PureC Try.prog 37 [.sl (a_0.flatMap (ci .u32)) a_0.length false, .v (.int .i64 by_1)] (.sl (r.flatMap (ci .u32)) r.length false) := by
  refine PureC.of_body Try.func37 rfl ?_
  simp only [Try.ntmps37, List.length_cons, List.length_nil, Nat.reduceAdd, Nat.reduceSub, empty_eq]
  unfold refShift_m at hm
  refine sr (N' := 64) rfl ?_
  refine pu rfl (by simp only [go_sem, Nat.reduceBEq]; try with_reducible rfl) ?_
  refine fs ?_
  refine sr (N' := 128) rfl ?_
  refine pu rfl (by simp only [go_sem, Nat.reduceBEq]; try with_reducible rfl) ?_
  refine fs ?_
  refine AWp.seq' ?_
  refine sr (N' := 192) rfl ?_
  refine pu rfl (by simp only [go_sem, Nat.reduceBEq]; try with_reducible rfl) ?_
  refine fs ?_
  refine AWp.block ?_
  refine AWp.loopM (fun m s => ∃ (a_0 : List Int) (by_1 : Int) (l_5 : List Int) (i_6 : Int), s = (⟨20, (fset (fset (fset (fset (fun _ => AV.any) 0 (.sl (a_0.flatMap (ci .u32)) a_0.length false)) 1 (.v (.int .i64 by_1))) 5 (.own 1 0 l_5.length)) 6 (.v (.int .i64 i_6))), ⟨(upd nofresh 1 (.cells 1 (l_5.flatMap (ci .i64)) 0)), 64⟩⟩ : St) ∧ refShift_L1 m a_0 by_1 l_5 i_6 = some r) FUEL ?_ ?_ ?_
  · rintro s ⟨_, _, _, _, _, h⟩
    cases h
  · refine ⟨_, ?_, a_0, by_1, [], 0, rfl, hm⟩
    refine St.Le.trans (le_nil 5 900005 1 (by try simp only [go_sem, Nat.reduceBEq]; try rfl) (by simp only [isFresh_upd, isFresh_no, Nat.reduceBEq, cond_true, cond_false])) ?_
    exact le_canon (fun j => bif j == 1 then 900005 else 0) (wk_fset _ _ (wk_data (by try simp only [go_sem, Nat.reduceBEq]; try rfl) (.v _)) (wk_fset _ _ (wk_own (by try simp only [go_sem, Nat.reduceBEq]; try rfl) (by first | rfl | omega) rfl (by simp [upd])) (wk_fset _ _ (wk_data (by try simp only [go_sem, Nat.reduceBEq]; try rfl) (.v _)) (wk_fset _ _ (wk_data (by try simp only [go_sem, Nat.reduceBEq]; try rfl) ((CFi .u32).sl _ _ _)) wk_none)))) (heapWk_of _ (entWk_upd (ent_fm (CFi .i64) (by simp only [upd_beq, Nat.reduceBEq, cond_true, cond_false]; try rfl) rfl) entWk_none) (by repeat' (first | exact inj_none | exact liv_none | refine inj_upd ?_ ?_ | refine liv_upd ?_ ?_ | exact .inl rfl | exact .inr (by decide))))
  · rintro n1 s ⟨a_0, by_1, l_5, i_6, rfl, hm⟩
    replace hm : refShift_B1 (refShift_L1 n1) a_0 by_1 l_5 i_6 = some r := hm
    unfold refShift_B1 at hm
    refine AWp.seq' ?_
    refine sr (N' := 128) rfl ?_
    iterate 3 refine pu rfl (by simp only [go_sem, Nat.reduceBEq]; try with_reducible rfl) ?_
    refine fs ?_
    refine AWp.condM hm (by try simp only [go_sem, Nat.reduceBEq]; try rfl) (fun _ hm => ?_) (fun _ hm => ?_)
    · refine AWp.skip ?_
      refine normSeq ?_
      refine AWp.seq' ?_
      refine AWp.block ?_
      refine AWp.reg 64 (N' := 192) rfl ?_
      refine pu rfl (by simp only [go_sem, Nat.reduceBEq]; try with_reducible rfl) ?_
      refine hp (id := 129) rfl rfl (ah_list (CFi .i64) (l := [0]) Try.underlying56 sz3 zc3 (by simp only [isFresh_upd, isFresh_no, Nat.reduceBEq, cond_true, cond_false]) (by decide) (by decide) (by decide) (by simp only [go_sem, Nat.reduceBEq]; try rfl) (by kernel_rfl)) ?_
      obtain ⟨l2, h1, hm⟩ := bnd hm
      refine hp (id := 130) rfl rfl (ah_app (CFi .i64) Try.underlying56 Try.underlying56 rfl in3 ts3 (by rw [tb3]; decide) (by rw [tb3]; decide) tz3 (by decide) (by decide) (by try simp only [go_sem, Nat.reduceBEq]; try rfl) (by simp only [upd_beq, Nat.reduceBEq, cond_true, cond_false]; try rfl) (by first | rfl | omega) (as_own (CFi .i64) (by try simp only [go_sem, Nat.reduceBEq]; try rfl) (by simp only [upd_beq, Nat.reduceBEq, cond_true, cond_false]; try rfl) (by first | rfl | omega)) rfl (by simp only [isFresh_upd, isFresh_no, Nat.reduceBEq, cond_true, cond_false]) h1) ?_
      refine pu rfl (by simp only [go_sem, Nat.reduceBEq]; try with_reducible rfl) ?_
      refine ARun.fin ?_
      refine normIn ?_
      refine normSeq ?_
      refine AWp.reg 64 (N' := 256) rfl ?_
      iterate 3 refine pu rfl (by simp only [go_sem, Nat.reduceBEq]; try with_reducible rfl) ?_
      refine ARun.fin ?_
      refine normThen ?_
      refine ⟨_, ?_, a_0, by_1, l2, (IntKind.i64.wrap (i_6 + 1)), rfl, hm⟩
      exact le_canon (fun j => bif j == 1 then 130 else 0) (wk_fset _ _ (wk_data (by try simp only [go_sem, Nat.reduceBEq]; try rfl) (.v _)) (wk_fset _ _ (wk_own (by try simp only [go_sem, Nat.reduceBEq]; try rfl) (by first | rfl | omega) rfl (by simp [upd])) (wk_fset _ _ (wk_data (by try simp only [go_sem, Nat.reduceBEq]; try rfl) (.v _)) (wk_fset _ _ (wk_data (by try simp only [go_sem, Nat.reduceBEq]; try rfl) ((CFi .u32).sl _ _ _)) wk_none)))) (heapWk_of _ (entWk_upd (ent_fm (CFi .i64) (by simp only [upd_beq, Nat.reduceBEq, cond_true, cond_false]; try rfl) rfl) entWk_none) (by repeat' (first | exact inj_none | exact liv_none | refine inj_upd ?_ ?_ | refine liv_upd ?_ ?_ | exact .inl rfl | exact .inr (by decide))))
    · refine AWp.exit ?_
      refine exitSeq ?_
      refine exitThen ?_
      refine exitHere ?_
      refine normSeq ?_
      refine sr (N' := 192) rfl ?_
      iterate 2 refine pu rfl (by simp only [go_sem, Nat.reduceBEq]; try with_reducible rfl) ?_
      obtain ⟨r4, h3, hm⟩ := bnd hm
      refine ARun.callQ (r := .sl (r4.flatMap (ci .i64)) r4.length false) (by decide) (by try simp only [go_sem, Nat.reduceBEq]; try rfl) fb36 (fun H => (.cons (td (by try simp only [go_sem, Nat.reduceBEq]; try rfl) ((CFi .u32).sl _ _ _)) .nil)) (refBits_c h3) ?_
      obtain ⟨l6, h5, hm⟩ := bnd hm
      refine hp (id := 131) rfl rfl (ah_app (CFi .i64) Try.underlying56 Try.underlying56 rfl in3 ts3 (by rw [tb3]; decide) (by rw [tb3]; decide) tz3 (by decide) (by decide) (by try simp only [go_sem, Nat.reduceBEq]; try rfl) (by simp only [upd_beq, Nat.reduceBEq, cond_true, cond_false]; try rfl) (by first | rfl | omega) (as_sl (CFi .i64) (by try simp only [go_sem, Nat.reduceBEq]; try rfl) rfl) rfl (by simp only [isFresh_upd, isFresh_no, Nat.reduceBEq, cond_true, cond_false]) h5) ?_
      obtain ⟨r8, h7, hm⟩ := bnd hm
      refine ARun.callL1 (r := .sl (r8.flatMap (ci .u32)) r8.length false) (id := 131) (by decide) (by try simp only [go_sem, Nat.reduceBEq]; try rfl) fb40 (by simp only [upd_beq, Nat.reduceBEq, cond_true, cond_false]; try rfl) (.cons (tdl (CFi .i64) (by try simp only [go_sem, Nat.reduceBEq]; try rfl) (by simp only [upd_beq, Nat.reduceBEq, cond_true, cond_false]; try rfl) (by simp) (by first | rfl | omega)) .nil) (refWhole_c h7) ?_
      refine pu rfl (by simp only [go_sem, Nat.reduceBEq]; try with_reducible rfl) ?_
      refine fs ?_
      refine AWp.ret ?_
      cases hm
      exact ret1D (.inr rfl) Try.results37 (td (by try simp only [go_sem, Nat.reduceBEq]; try rfl) ((CFi .u32).sl _ _ _))
def refAdd_J2 (rec1 : List Int → List Int → Int → List Int → Int → Int → Option ((List Int))) (x_5 : List Int) (y_6 : List Int) (n_7 : Int) (out_8 : List Int) (over_9 : Int) (i_10 : Int) : Option ((List Int)) :=
  rec1 x_5 y_6 n_7 out_8 over_9 (IntKind.i64.wrap (i_10 + 1))
def refAdd_J4 (rec1 : List Int → List Int → Int → List Int → Int → Int → Option ((List Int))) (x_5 : List Int) (y_6 : List Int) (n_7 : Int) (out_8 : List Int) (i_10 : Int) (s_11 : Int) : Option ((List Int)) :=
  ((app out_8 [(Int.tmod s_11 2)]).bind fun l6 =>
  refAdd_J2 rec1 x_5 y_6 n_7 l6 (IntKind.i64.wrap (Int.tdiv s_11 2)) i_10)
def refAdd_J3 (rec1 : List Int → List Int → Int → List Int → Int → Int → Option ((List Int))) (x_5 : List Int) (y_6 : List Int) (n_7 : Int) (out_8 : List Int) (i_10 : Int) (s_11 : Int) : Option ((List Int)) :=
  (bif (decide (i_10 < (y_6.length : Int))) then
    ((idx y_6 i_10).bind fun x8 =>
    refAdd_J4 rec1 x_5 y_6 n_7 out_8 i_10 (IntKind.i64.wrap (s_11 + x8)))
  else
    refAdd_J4 rec1 x_5 y_6 n_7 out_8 i_10 s_11)
def refAdd_B1 (rec1 : List Int → List Int → Int → List Int → Int → Int → Option ((List Int))) (x_5 : List Int) (y_6 : List Int) (n_7 : Int) (out_8 : List Int) (over_9 : Int) (i_10 : Int) : Option ((List Int)) :=
  (bif (decide (i_10 ≤ n_7)) then
    (bif (decide (i_10 < (x_5.length : Int))) then
      ((idx x_5 i_10).bind fun x10 =>
      refAdd_J3 rec1 x_5 y_6 n_7 out_8 i_10 (IntKind.i64.wrap (over_9 + x10)))
    else
      refAdd_J3 rec1 x_5 y_6 n_7 out_8 i_10 over_9)
  else
    ((refWhole_m out_8).bind fun r12 =>
    some r12))
def refAdd_L1 : Nat → List Int → List Int → Int → List Int → Int → Int → Option ((List Int))
  | 0 => fun _ _ _ _ _ _ => none
  | n + 1 => refAdd_B1 (refAdd_L1 n)
def refAdd_J1 (x_5 : List Int) (y_6 : List Int) (n_7 : Int) : Option ((List Int)) :=
  refAdd_L1 FUEL x_5 y_6 n_7 [] 0 0
def refAdd_m (a_0 : List Int) (b_1 : List Int) : Option ((List Int)) :=
  ((refBits_m a_0).bind fun r2 =>
  ((refBits_m b_1).bind fun r4 =>
  (bif (decide ((r2.length : Int) < (r4.length : Int))) then
    refAdd_J1 r2 r4 (r4.length : Int)
  else
    refAdd_J1 r2 r4 (r2.length : Int))))
theorem refAdd_c {a_0 : List Int} {b_1 : List Int} {r : (List Int)} (hm : refAdd_m a_0 b_1 = some r) : PureC Try.prog 30 [.sl (a_0.flatMap (ci .u32)) a_0.length false, .sl (b_1.flatMap (ci .u32)) b_1.length false] (.sl (r.flatMap (ci .u32)) r.length false) := by
  refine PureC.of_body Try.func30 rfl ?_
  simp only [Try.ntmps30, List.length_cons, List.length_nil, Nat.reduceAdd, Nat.reduceSub, empty_eq]
  unfold refAdd_m at hm
  refine sr (N' := 64) rfl ?_
  refine pu rfl (by simp only [go_sem, Nat.reduceBEq]; try with_reducible rfl) ?_
  refine fs ?_
  refine sr (N' := 128) rfl ?_
  refine pu rfl (by simp only [go_sem, Nat.reduceBEq]; try with_reducible rfl) ?_
  obtain ⟨r2, h1, hm⟩ := bnd hm
  refine ARun.callQ (r := .sl (r2.flatMap (ci .i64)) r2.length false) (by decide) (by try simp only [go_sem, Nat.reduceBEq]; try rfl) fb36 (fun H => (.cons (td (by try simp only [go_sem, Nat.reduceBEq]; try rfl) ((CFi .u32).sl _ _ _)) .nil)) (refBits_c h1) ?_
  refine pu rfl (by simp only [go_sem, Nat.reduceBEq]; try with_reducible rfl) ?_
  obtain ⟨r4, h3, hm⟩ := bnd hm
  refine ARun.callQ (r := .sl (r4.flatMap (ci .i64)) r4.length false) (by decide) (by try simp only [go_sem, Nat.reduceBEq]; try rfl) fb36 (fun H => (.cons (td (by try simp only [go_sem, Nat.reduceBEq]; try rfl) ((CFi .u32).sl _ _ _)) .nil)) (refBits_c h3) ?_
  iterate 2 refine pu rfl (by simp only [go_sem, Nat.reduceBEq]; try with_reducible rfl) ?_
  refine fs ?_
  refine sr (N' := 192) rfl ?_
  iterate 3 refine pu rfl (by simp only [go_sem, Nat.reduceBEq]; try with_reducible rfl) ?_
  refine fs ?_
  refine AWp.seqJ (fun s => ∃ (x_5 : List Int) (y_6 : List Int) (n_7 : Int), s = (⟨59, (fset (fset (fset (fun _ => AV.any) 5 (.sl (x_5.flatMap (ci .i64)) x_5.length false)) 6 (.sl (y_6.flatMap (ci .i64)) y_6.length false)) 7 (.v (.int .i64 n_7))), ⟨nofresh, 64⟩⟩ : St) ∧ refAdd_J1 x_5 y_6 n_7 = some r) ?_ ?_
  · refine sr (N' := 256) rfl ?_
    iterate 4 refine pu rfl (by simp only [go_sem, Nat.reduceBEq]; try with_reducible rfl) ?_
    refine fs ?_
    refine AWp.condM hm (by try simp only [go_sem, Nat.reduceBEq]; try rfl) (fun _ hm => ?_) (fun _ hm => ?_)
    · refine AWp.reg 64 (N' := 320) rfl ?_
      iterate 3 refine pu rfl (by simp only [go_sem, Nat.reduceBEq]; try with_reducible rfl) ?_
      refine ARun.fin ?_
      refine normJ ?_
      refine ⟨_, ?_, r2, r4, (r4.length : Int), rfl, hm⟩
      exact le_canon id (wk_fset _ _ (wk_data (by try simp only [go_sem, Nat.reduceBEq]; try rfl) (.v _)) (wk_fset _ _ (wk_data (by try simp only [go_sem, Nat.reduceBEq]; try rfl) ((CFi .i64).sl _ _ _)) (wk_fset _ _ (wk_data (by try simp only [go_sem, Nat.reduceBEq]; try rfl) ((CFi .i64).sl _ _ _)) wk_none))) heapWk0
    · refine AWp.skip ?_
      refine normJ ?_
      refine ⟨_, ?_, r2, r4, (r2.length : Int), rfl, hm⟩
      exact le_canon id (wk_fset _ _ (wk_data (by try simp only [go_sem, Nat.reduceBEq]; try rfl) (.v _)) (wk_fset _ _ (wk_data (by try simp only [go_sem, Nat.reduceBEq]; try rfl) ((CFi .i64).sl _ _ _)) (wk_fset _ _ (wk_data (by try simp only [go_sem, Nat.reduceBEq]; try rfl) ((CFi .i64).sl _ _ _)) wk_none))) heapWk0
  · rintro s ⟨x_5, y_6, n_7, rfl, hm⟩
    unfold refAdd_J1 at hm
    refine sr (N' := 128) rfl ?_
    refine pu rfl (by simp only [go_sem, Nat.reduceBEq]; try with_reducible rfl) ?_
    refine fs ?_
    refine sr (N' := 192) rfl ?_
    refine pu rfl (by simp only [go_sem, Nat.reduceBEq]; try with_reducible rfl) ?_
    refine fs ?_
    refine AWp.seq' ?_
    refine sr (N' := 256) rfl ?_
    refine pu rfl (by simp only [go_sem, Nat.reduceBEq]; try with_reducible rfl) ?_
    refine fs ?_
    refine AWp.block ?_
    refine AWp.loopM (fun m s => ∃ (x_5 : List Int) (y_6 : List Int) (n_7 : Int) (out_8 : List Int) (over_9 : Int) (i_10 : Int), s = (⟨59, (fset (fset (fset (fset (fset (fset (fun _ => AV.any) 5 (.sl (x_5.flatMap (ci .i64)) x_5.length false)) 6 (.sl (y_6.flatMap (ci .i64)) y_6.length false)) 7 (.v (.int .i64 n_7))) 8 (.own 1 0 out_8.length)) 9 (.v (.int .i64 over_9))) 10 (.v (.int .i64 i_10))), ⟨(upd nofresh 1 (.cells 1 (out_8.flatMap (ci .i64)) 0)), 64⟩⟩ : St) ∧ refAdd_L1 m x_5 y_6 n_7 out_8 over_9 i_10 = some r) FUEL ?_ ?_ ?_
    · rintro s ⟨_, _, _, _, _, _, _, h⟩
      cases h
    · refine ⟨_, ?_, x_5, y_6, n_7, [], 0, 0, rfl, hm⟩
      refine St.Le.trans (le_nil 8 900008 1 (by try simp only [go_sem, Nat.reduceBEq]; try rfl) (by simp only [isFresh_upd, isFresh_no, Nat.reduceBEq, cond_true, cond_false])) ?_
      exact le_canon (fun j => bif j == 1 then 900008 else 0) (wk_fset _ _ (wk_data (by try simp only [go_sem, Nat.reduceBEq]; try rfl) (.v _)) (wk_fset _ _ (wk_data (by try simp only [go_sem, Nat.reduceBEq]; try rfl) (.v _)) (wk_fset _ _ (wk_own (by try simp only [go_sem, Nat.reduceBEq]; try rfl) (by first | rfl | omega) rfl (by simp [upd])) (wk_fset _ _ (wk_data (by try simp only [go_sem, Nat.reduceBEq]; try rfl) (.v _)) (wk_fset _ _ (wk_data (by try simp only [go_sem, Nat.reduceBEq]; try rfl) ((CFi .i64).sl _ _ _)) (wk_fset _ _ (wk_data (by try simp only [go_sem, Nat.reduceBEq]; try rfl) ((CFi .i64).sl _ _ _)) wk_none)))))) (heapWk_of _ (entWk_upd (ent_fm (CFi .i64) (by simp only [upd_beq, Nat.reduceBEq, cond_true, cond_false]; try rfl) rfl) entWk_none) (by repeat' (first | exact inj_none | exact liv_none | refine inj_upd ?_ ?_ | refine liv_upd ?_ ?_ | exact .inl rfl | exact .inr (by decide))))
    · rintro n1 s ⟨x_5, y_6, n_7, out_8, over_9, i_10, rfl, hm⟩
      replace hm : refAdd_B1 (refAdd_L1 n1) x_5 y_6 n_7 out_8 over_9 i_10 = some r := hm
      unfold refAdd_B1 at hm
      refine AWp.seq' ?_
      refine sr (N' := 128) rfl ?_
      iterate 3 refine pu rfl (by simp only [go_sem, Nat.reduceBEq]; try with_reducible rfl) ?_
      refine fs ?_
      refine AWp.condM hm (by try simp only [go_sem, Nat.reduceBEq]; try rfl) (fun _ hm => ?_) (fun _ hm => ?_)
      · refine AWp.skip ?_
        refine normSeq ?_
        refine AWp.seqJ (fun s => ∃ (x_5 : List Int) (y_6 : List Int) (n_7 : Int) (out_8 : List Int) (over_9 : Int) (i_10 : Int), s = (⟨59, (fset (fset (fset (fset (fset (fset (fun _ => AV.any) 5 (.sl (x_5.flatMap (ci .i64)) x_5.length false)) 6 (.sl (y_6.flatMap (ci .i64)) y_6.length false)) 7 (.v (.int .i64 n_7))) 8 (.own 1 0 out_8.length)) 9 (.v (.int .i64 over_9))) 10 (.v (.int .i64 i_10))), ⟨(upd nofresh 1 (.cells 1 (out_8.flatMap (ci .i64)) 0)), 64⟩⟩ : St) ∧ refAdd_J2 (refAdd_L1 n1) x_5 y_6 n_7 out_8 over_9 i_10 = some r) ?_ ?_
        · refine AWp.block ?_
          refine sr (N' := 192) rfl ?_
          iterate 2 refine pu rfl (by simp only [go_sem, Nat.reduceBEq]; try with_reducible rfl) ?_
          refine fs ?_
          refine AWp.seqJ (fun s => ∃ (x_5 : List Int) (y_6 : List Int) (n_7 : Int) (out_8 : List Int) (i_10 : Int) (s_11 : Int), s = (⟨59, (fset (fset (fset (fset (fset (fset (fun _ => AV.any) 5 (.sl (x_5.flatMap (ci .i64)) x_5.length false)) 6 (.sl (y_6.flatMap (ci .i64)) y_6.length false)) 7 (.v (.int .i64 n_7))) 8 (.own 1 0 out_8.length)) 10 (.v (.int .i64 i_10))) 11 (.v (.int .i64 s_11))), ⟨(upd nofresh 1 (.cells 1 (out_8.flatMap (ci .i64)) 0)), 64⟩⟩ : St) ∧ refAdd_J3 (refAdd_L1 n1) x_5 y_6 n_7 out_8 i_10 s_11 = some r) ?_ ?_
          · refine sr (N' := 256) rfl ?_
            iterate 4 refine pu rfl (by simp only [go_sem, Nat.reduceBEq]; try with_reducible rfl) ?_
            refine fs ?_
            refine AWp.condM hm (by try simp only [go_sem, Nat.reduceBEq]; try rfl) (fun _ hm => ?_) (fun _ hm => ?_)
            · refine AWp.reg 64 (N' := 320) rfl ?_
              iterate 3 refine pu rfl (by simp only [go_sem, Nat.reduceBEq]; try with_reducible rfl) ?_
              obtain ⟨x10, h9, hm⟩ := bnd hm
              refine pu rfl (ap_idx (CFi .i64) (by decide) Try.underlying56 sz3 (by try simp only [go_sem, Nat.reduceBEq]; try rfl) rfl (by try simp only [go_sem, Nat.reduceBEq]; try rfl) h9) ?_
              iterate 3 refine pu rfl (by simp only [go_sem, Nat.reduceBEq]; try with_reducible rfl) ?_
              refine ARun.fin ?_
              refine normJ ?_
              refine ⟨_, ?_, x_5, y_6, n_7, out_8, i_10, (IntKind.i64.wrap (over_9 + x10)), rfl, hm⟩
              exact le_canon (fun j => bif j == 1 then 1 else 0) (wk_fset _ _ (wk_data (by try simp only [go_sem, Nat.reduceBEq]; try rfl) (.v _)) (wk_fset _ _ (wk_data (by try simp only [go_sem, Nat.reduceBEq]; try rfl) (.v _)) (wk_fset _ _ (wk_own (by try simp only [go_sem, Nat.reduceBEq]; try rfl) (by first | rfl | omega) rfl (by simp [upd])) (wk_fset _ _ (wk_data (by try simp only [go_sem, Nat.reduceBEq]; try rfl) (.v _)) (wk_fset _ _ (wk_data (by try simp only [go_sem, Nat.reduceBEq]; try rfl) ((CFi .i64).sl _ _ _)) (wk_fset _ _ (wk_data (by try simp only [go_sem, Nat.reduceBEq]; try rfl) ((CFi .i64).sl _ _ _)) wk_none)))))) (heapWk_of _ (entWk_upd (ent_fm (CFi .i64) (by simp only [upd_beq, Nat.reduceBEq, cond_true, cond_false]; try rfl) rfl) entWk_none) (by repeat' (first | exact inj_none | exact liv_none | refine inj_upd ?_ ?_ | refine liv_upd ?_ ?_ | exact .inl rfl | exact .inr (by decide))))
            · refine AWp.skip ?_
              refine normJ ?_
              refine ⟨_, ?_, x_5, y_6, n_7, out_8, i_10, over_9, rfl, hm⟩
              exact le_canon (fun j => bif j == 1 then 1 else 0) (wk_fset _ _ (wk_data (by try simp only [go_sem, Nat.reduceBEq]; try rfl) (.v _)) (wk_fset _ _ (wk_data (by try simp only [go_sem, Nat.reduceBEq]; try rfl) (.v _)) (wk_fset _ _ (wk_own (by try simp only [go_sem, Nat.reduceBEq]; try rfl) (by first | rfl | omega) rfl (by simp [upd])) (wk_fset _ _ (wk_data (by try simp only [go_sem, Nat.reduceBEq]; try rfl) (.v _)) (wk_fset _ _ (wk_data (by try simp only [go_sem, Nat.reduceBEq]; try rfl) ((CFi .i64).sl _ _ _)) (wk_fset _ _ (wk_data (by try simp only [go_sem, Nat.reduceBEq]; try rfl) ((CFi .i64).sl _ _ _)) wk_none)))))) (heapWk_of _ (entWk_upd (ent_fm (CFi .i64) (by simp only [upd_beq, Nat.reduceBEq, cond_true, cond_false]; try rfl) rfl) entWk_none) (by repeat' (first | exact inj_none | exact liv_none | refine inj_upd ?_ ?_ | refine liv_upd ?_ ?_ | exact .inl rfl | exact .inr (by decide))))
          · rintro s ⟨x_5, y_6, n_7, out_8, i_10, s_11, rfl, hm⟩
            unfold refAdd_J3 at hm
            refine AWp.seqJ (fun s => ∃ (x_5 : List Int) (y_6 : List Int) (n_7 : Int) (out_8 : List Int) (i_10 : Int) (s_11 : Int), s = (⟨59, (fset (fset (fset (fset (fset (fset (fun _ => AV.any) 5 (.sl (x_5.flatMap (ci .i64)) x_5.length false)) 6 (.sl (y_6.flatMap (ci .i64)) y_6.length false)) 7 (.v (.int .i64 n_7))) 8 (.own 1 0 out_8.length)) 10 (.v (.int .i64 i_10))) 11 (.v (.int .i64 s_11))), ⟨(upd nofresh 1 (.cells 1 (out_8.flatMap (ci .i64)) 0)), 64⟩⟩ : St) ∧ refAdd_J4 (refAdd_L1 n1) x_5 y_6 n_7 out_8 i_10 s_11 = some r) ?_ ?_
            · refine sr (N' := 128) rfl ?_
              iterate 4 refine pu rfl (by simp only [go_sem, Nat.reduceBEq]; try with_reducible rfl) ?_
              refine fs ?_
              refine AWp.condM hm (by try simp only [go_sem, Nat.reduceBEq]; try rfl) (fun _ hm => ?_) (fun _ hm => ?_)
              · refine AWp.reg 64 (N' := 192) rfl ?_
                iterate 3 refine pu rfl (by simp only [go_sem, Nat.reduceBEq]; try with_reducible rfl) ?_
                obtain ⟨x8, h7, hm⟩ := bnd hm
                refine pu rfl (ap_idx (CFi .i64) (by decide) Try.underlying56 sz3 (by try simp only [go_sem, Nat.reduceBEq]; try rfl) rfl (by try simp only [go_sem, Nat.reduceBEq]; try rfl) h7) ?_
                iterate 3 refine pu rfl (by simp only [go_sem, Nat.reduceBEq]; try with_reducible rfl) ?_
                refine ARun.fin ?_
                refine normJ ?_
                refine ⟨_, ?_, x_5, y_6, n_7, out_8, i_10, (IntKind.i64.wrap (s_11 + x8)), rfl, hm⟩
                exact le_canon (fun j => bif j == 1 then 1 else 0) (wk_fset _ _ (wk_data (by try simp only [go_sem, Nat.reduceBEq]; try rfl) (.v _)) (wk_fset _ _ (wk_data (by try simp only [go_sem, Nat.reduceBEq]; try rfl) (.v _)) (wk_fset _ _ (wk_own (by try simp only [go_sem, Nat.reduceBEq]; try rfl) (by first | rfl | omega) rfl (by simp [upd])) (wk_fset _ _ (wk_data (by try simp only [go_sem, Nat.reduceBEq]; try rfl) (.v _)) (wk_fset _ _ (wk_data (by try simp only [go_sem, Nat.reduceBEq]; try rfl) ((CFi .i64).sl _ _ _)) (wk_fset _ _ (wk_data (by try simp only [go_sem, Nat.reduceBEq]; try rfl) ((CFi .i64).sl _ _ _)) wk_none)))))) (heapWk_of _ (entWk_upd (ent_fm (CFi .i64) (by simp only [upd_beq, Nat.reduceBEq, cond_true, cond_false]; try rfl) rfl) entWk_none) (by repeat' (first | exact inj_none | exact liv_none | refine inj_upd ?_ ?_ | refine liv_upd ?_ ?_ | exact .inl rfl | exact .inr (by decide))))
              · refine AWp.skip ?_
                refine normJ ?_
                refine ⟨_, ?_, x_5, y_6, n_7, out_8, i_10, s_11, rfl, hm⟩
                exact le_canon (fun j => bif j == 1 then 1 else 0) (wk_fset _ _ (wk_data (by try simp only [go_sem, Nat.reduceBEq]; try rfl) (.v _)) (wk_fset _ _ (wk_data (by try simp only [go_sem, Nat.reduceBEq]; try rfl) (.v _)) (wk_fset _ _ (wk_own (by try simp only [go_sem, Nat.reduceBEq]; try rfl) (by first | rfl | omega) rfl (by simp [upd])) (wk_fset _ _ (wk_data (by try simp only [go_sem, Nat.reduceBEq]; try rfl) (.v _)) (wk_fset _ _ (wk_data (by try simp only [go_sem, Nat.reduceBEq]; try rfl) ((CFi .i64).sl _ _ _)) (wk_fset _ _ (wk_data (by try simp only [go_sem, Nat.reduceBEq]; try rfl) ((CFi .i64).sl _ _ _)) wk_none)))))) (heapWk_of _ (entWk_upd (ent_fm (CFi .i64) (by simp only [upd_beq, Nat.reduceBEq, cond_true, cond_false]; try rfl) rfl) entWk_none) (by repeat' (first | exact inj_none | exact liv_none | refine inj_upd ?_ ?_ | refine liv_upd ?_ ?_ | exact .inl rfl | exact .inr (by decide))))
            · rintro s ⟨x_5, y_6, n_7, out_8, i_10, s_11, rfl, hm⟩
              unfold refAdd_J4 at hm
              refine sr (N' := 128) rfl ?_
              iterate 3 refine pu rfl (by simp only [go_sem, Nat.reduceBEq, Int.reduceEq, Int.reduceLE]; try with_reducible rfl) ?_
              refine hp (id := 67) rfl rfl (ah_list (CFi .i64) (l := [(Int.tmod s_11 2)]) Try.underlying56 sz3 zc3 (by simp only [isFresh_upd, isFresh_no, Nat.reduceBEq, cond_true, cond_false]) (by decide) (by decide) (by decide) (by simp only [go_sem, Nat.reduceBEq]; try rfl) (by kernel_rfl)) ?_
              obtain ⟨l6, h5, hm⟩ := bnd hm
              refine hp (id := 68) rfl rfl (ah_app (CFi .i64) Try.underlying56 Try.underlying56 rfl in3 ts3 (by rw [tb3]; decide) (by rw [tb3]; decide) tz3 (by decide) (by decide) (by try simp only [go_sem, Nat.reduceBEq]; try rfl) (by simp only [upd_beq, Nat.reduceBEq, cond_true, cond_false]; try rfl) (by first | rfl | omega) (as_own (CFi .i64) (by try simp only [go_sem, Nat.reduceBEq]; try rfl) (by simp only [upd_beq, Nat.reduceBEq, cond_true, cond_false]; try rfl) (by first | rfl | omega)) rfl (by simp only [isFresh_upd, isFresh_no, Nat.reduceBEq, cond_true, cond_false]) h5) ?_
              refine pu rfl (by simp only [go_sem, Nat.reduceBEq]; try with_reducible rfl) ?_
              refine fs ?_
              refine AWp.reg 64 (N' := 192) rfl ?_
              iterate 3 refine pu rfl (by simp only [go_sem, Nat.reduceBEq, Int.reduceEq, Int.reduceLE]; try with_reducible rfl) ?_
              refine ARun.fin ?_
              refine normIn ?_
              refine normJ ?_
              refine ⟨_, ?_, x_5, y_6, n_7, l6, (IntKind.i64.wrap (Int.tdiv s_11 2)), i_10, rfl, hm⟩
              exact le_canon (fun j => bif j == 1 then 68 else 0) (wk_fset _ _ (wk_data (by try simp only [go_sem, Nat.reduceBEq]; try rfl) (.v _)) (wk_fset _ _ (wk_data (by try simp only [go_sem, Nat.reduceBEq]; try rfl) (.v _)) (wk_fset _ _ (wk_own (by try simp only [go_sem, Nat.reduceBEq]; try rfl) (by first | rfl | omega) rfl (by simp [upd])) (wk_fset _ _ (wk_data (by try simp only [go_sem, Nat.reduceBEq]; try rfl) (.v _)) (wk_fset _ _ (wk_data (by try simp only [go_sem, Nat.reduceBEq]; try rfl) ((CFi .i64).sl _ _ _)) (wk_fset _ _ (wk_data (by try simp only [go_sem, Nat.reduceBEq]; try rfl) ((CFi .i64).sl _ _ _)) wk_none)))))) (heapWk_of _ (entWk_upd (ent_fm (CFi .i64) (by simp only [upd_beq, Nat.reduceBEq, cond_true, cond_false]; try rfl) rfl) entWk_none) (by repeat' (first | exact inj_none | exact liv_none | refine inj_upd ?_ ?_ | refine liv_upd ?_ ?_ | exact .inl rfl | exact .inr (by decide))))
        · rintro s ⟨x_5, y_6, n_7, out_8, over_9, i_10, rfl, hm⟩
          unfold refAdd_J2 at hm
          refine AWp.reg 64 (N' := 128) rfl ?_
          iterate 3 refine pu rfl (by simp only [go_sem, Nat.reduceBEq]; try with_reducible rfl) ?_
          refine ARun.fin ?_
          refine normThen ?_
          refine ⟨_, ?_, x_5, y_6, n_7, out_8, over_9, (IntKind.i64.wrap (i_10 + 1)), rfl, hm⟩
          exact le_canon (fun j => bif j == 1 then 1 else 0) (wk_fset _ _ (wk_data (by try simp only [go_sem, Nat.reduceBEq]; try rfl) (.v _)) (wk_fset _ _ (wk_data (by try simp only [go_sem, Nat.reduceBEq]; try rfl) (.v _)) (wk_fset _ _ (wk_own (by try simp only [go_sem, Nat.reduceBEq]; try rfl) (by first | rfl | omega) rfl (by simp [upd])) (wk_fset _ _ (wk_data (by try simp only [go_sem, Nat.reduceBEq]; try rfl) (.v _)) (wk_fset _ _ (wk_data (by try simp only [go_sem, Nat.reduceBEq]; try rfl) ((CFi .i64).sl _ _ _)) (wk_fset _ _ (wk_data (by try simp only [go_sem, Nat.reduceBEq]; try rfl) ((CFi .i64).sl _ _ _)) wk_none)))))) (heapWk_of _ (entWk_upd (ent_fm (CFi .i64) (by simp only [upd_beq, Nat.reduceBEq, cond_true, cond_false]; try rfl) rfl) entWk_none) (by repeat' (first | exact inj_none | exact liv_none | refine inj_upd ?_ ?_ | refine liv_upd ?_ ?_ | exact .inl rfl | exact .inr (by decide))))
      · refine AWp.exit ?_
        refine exitSeq ?_
        refine exitThen ?_
        refine exitHere ?_
        refine normSeq ?_
        refine AWp.seq' ?_
        refine AWp.weaken (le_lock (CFi .i64) 8 1 (by try simp only [go_sem, Nat.reduceBEq]; try rfl) (by simp only [upd_beq, Nat.reduceBEq, cond_true, cond_false]; try rfl) (by first | rfl | omega)) ?_
        refine AWp.reg 64 (N' := 192) rfl ?_
        refine pu rfl (by simp only [go_sem, Nat.reduceBEq]; try with_reducible rfl) ?_
        obtain ⟨r12, h11, hm⟩ := bnd hm
        refine ARun.callQ (r := .sl (r12.flatMap (ci .u32)) r12.length false) (by decide) (by try simp only [go_sem, Nat.reduceBEq]; try rfl) fb40 (fun H => (.cons (td (by try simp only [go_sem, Nat.reduceBEq]; try rfl) ((CFi .i64).sl _ _ _)) .nil)) (refWhole_c h11) ?_
        refine pu rfl (by simp only [go_sem, Nat.reduceBEq]; try with_reducible rfl) ?_
        refine fs ?_
        refine AWp.ret ?_
        cases hm
        exact ret1D (.inr rfl) Try.results30 (td (by try simp only [go_sem, Nat.reduceBEq]; try rfl) ((CFi .u32).sl _ _ _))
def refMul_J1 (rec1 : List Int → List Int → List Int → Int → Option ((List Int))) (a_0 : List Int) (out_5 : List Int) (y_6 : List Int) (i_7 : Int) : Option ((List Int)) :=
  rec1 a_0 out_5 y_6 (IntKind.i64.wrap (i_7 + 1))
def refMul_B1 (rec1 : List Int → List Int → List Int → Int → Option ((List Int))) (a_0 : List Int) (out_5 : List Int) (y_6 : List Int) (i_7 : Int) : Option ((List Int)) :=
  (bif (decide (i_7 < (y_6.length : Int))) then
    ((idx y_6 i_7).bind fun x4 =>
    (bif (x4 == 1) then
      ((refShift_m a_0 i_7).bind fun r6 =>
      ((refAdd_m out_5 r6).bind fun r8 =>
      refMul_J1 rec1 a_0 r8 y_6 i_7))
    else
      refMul_J1 rec1 a_0 out_5 y_6 i_7))
  else
    some out_5)
def refMul_L1 : Nat → List Int → List Int → List Int → Int → Option ((List Int))
  | 0 => fun _ _ _ _ => none
  | n + 1 => refMul_B1 (refMul_L1 n)
def refMul_m (a_0 : List Int) (b_1 : List Int) : Option ((List Int)) :=
  ((refBits_m b_1).bind fun r2 =>
  refMul_L1 FUEL a_0 [] r2 0)
theorem refMul_c {a_0 : List Int} {b_1 : List Int} {r : (List Int)} (hm : refMul_m a_0 b_1 = some r) : PureC Try.prog 27 [.sl (a_0.flatMap (ci .u32)) a_0.length false, .sl (b_1.flatMap (ci .u32)) b_1.length false] (.sl (r.flatMap (ci .u32)) r.length false) := by
  refine PureC.of_body Try.func27 rfl ?_
  simp only [Try.ntmps27, List.length_cons, List.length_nil, Nat.reduceAdd, Nat.reduceSub, empty_eq]
  unfold refMul_m at hm
  refine sr (N' := 64) rfl ?_
  refine pu rfl (by simp only [go_sem, Nat.reduceBEq]; try with_reducible rfl) ?_
  refine fs ?_
  refine sr (N' := 128) rfl ?_
  refine pu rfl (by simp only [go_sem, Nat.reduceBEq]; try with_reducible rfl) ?_
  refine fs ?_
  refine sr (N' := 192) rfl ?_
  refine pu rfl (by simp only [go_sem, Nat.reduceBEq]; try with_reducible rfl) ?_
  obtain ⟨r2, h1, hm⟩ := bnd hm
  refine ARun.callQ (r := .sl (r2.flatMap (ci .i64)) r2.length false) (by decide) (by try simp only [go_sem, Nat.reduceBEq]; try rfl) fb36 (fun H => (.cons (td (by try simp only [go_sem, Nat.reduceBEq]; try rfl) ((CFi .u32).sl _ _ _)) .nil)) (refBits_c h1) ?_
  refine pu rfl (by simp only [go_sem, Nat.reduceBEq]; try with_reducible rfl) ?_
  refine fs ?_
  refine AWp.seq' ?_
  refine sr (N' := 256) rfl ?_
  refine pu rfl (by simp only [go_sem, Nat.reduceBEq]; try with_reducible rfl) ?_
  refine fs ?_
  refine AWp.block ?_
  refine AWp.loopM (fun m s => ∃ (a_0 : List Int) (out_5 : List Int) (y_6 : List Int) (i_7 : Int), s = (⟨27, (fset (fset (fset (fset (fun _ => AV.any) 0 (.sl (a_0.flatMap (ci .u32)) a_0.length false)) 5 (.sl (out_5.flatMap (ci .u32)) out_5.length false)) 6 (.sl (y_6.flatMap (ci .i64)) y_6.length false)) 7 (.v (.int .i64 i_7))), ⟨nofresh, 64⟩⟩ : St) ∧ refMul_L1 m a_0 out_5 y_6 i_7 = some r) FUEL ?_ ?_ ?_
  · rintro s ⟨_, _, _, _, _, h⟩
    cases h
  · refine ⟨_, ?_, a_0, [], r2, 0, rfl, hm⟩
    refine St.Le.trans (le_tod 5 (.sl [] 0 false) (fun H => tdn (by try simp only [go_sem, Nat.reduceBEq]; try rfl))) ?_
    exact le_canon id (wk_fset _ _ (wk_data (by try simp only [go_sem, Nat.reduceBEq]; try rfl) (.v _)) (wk_fset _ _ (wk_data (by try simp only [go_sem, Nat.reduceBEq]; try rfl) ((CFi .i64).sl _ _ _)) (wk_fset _ _ (wk_data (by try simp only [go_sem, Nat.reduceBEq]; try rfl) ((CFi .u32).sl _ _ _)) (wk_fset _ _ (wk_data (by try simp only [go_sem, Nat.reduceBEq]; try rfl) ((CFi .u32).sl _ _ _)) wk_none)))) heapWk0
  · rintro n1 s ⟨a_0, out_5, y_6, i_7, rfl, hm⟩
    replace hm : refMul_B1 (refMul_L1 n1) a_0 out_5 y_6 i_7 = some r := hm
    unfold refMul_B1 at hm
    refine AWp.seq' ?_
    refine sr (N' := 128) rfl ?_
    iterate 4 refine pu rfl (by simp only [go_sem, Nat.reduceBEq]; try with_reducible rfl) ?_
    refine fs ?_
    refine AWp.condM hm (by try simp only [go_sem, Nat.reduceBEq]; try rfl) (fun _ hm => ?_) (fun _ hm => ?_)
    · refine AWp.skip ?_
      refine normSeq ?_
      refine AWp.seqJ (fun s => ∃ (a_0 : List Int) (out_5 : List Int) (y_6 : List Int) (i_7 : Int), s = (⟨27, (fset (fset (fset (fset (fun _ => AV.any) 0 (.sl (a_0.flatMap (ci .u32)) a_0.length false)) 5 (.sl (out_5.flatMap (ci .u32)) out_5.length false)) 6 (.sl (y_6.flatMap (ci .i64)) y_6.length false)) 7 (.v (.int .i64 i_7))), ⟨nofresh, 64⟩⟩ : St) ∧ refMul_J1 (refMul_L1 n1) a_0 out_5 y_6 i_7 = some r) ?_ ?_
      · refine AWp.block ?_
        refine sr (N' := 192) rfl ?_
        iterate 2 refine pu rfl (by simp only [go_sem, Nat.reduceBEq]; try with_reducible rfl) ?_
        obtain ⟨x4, h3, hm⟩ := bnd hm
        refine pu rfl (ap_idx (CFi .i64) (by decide) Try.underlying56 sz3 (by try simp only [go_sem, Nat.reduceBEq]; try rfl) rfl (by try simp only [go_sem, Nat.reduceBEq]; try rfl) h3) ?_
        iterate 2 refine pu rfl (by simp only [go_sem, Nat.reduceBEq]; try with_reducible rfl) ?_
        refine fs ?_
        refine AWp.condM hm (by try simp only [go_sem, Nat.reduceBEq]; try rfl) (fun _ hm => ?_) (fun _ hm => ?_)
        · refine AWp.reg 64 (N' := 256) rfl ?_
          iterate 3 refine pu rfl (by simp only [go_sem, Nat.reduceBEq]; try with_reducible rfl) ?_
          obtain ⟨r6, h5, hm⟩ := bnd hm
          refine ARun.callQ (r := .sl (r6.flatMap (ci .u32)) r6.length false) (by decide) (by try simp only [go_sem, Nat.reduceBEq]; try rfl) fb37 (fun H => (.cons (td (by try simp only [go_sem, Nat.reduceBEq]; try rfl) ((CFi .u32).sl _ _ _)) (.cons (td (by try simp only [go_sem, Nat.reduceBEq]; try rfl) (.v _)) .nil))) (refShift_c h5) ?_
          obtain ⟨r8, h7, hm⟩ := bnd hm
          refine ARun.callQ (r := .sl (r8.flatMap (ci .u32)) r8.length false) (by decide) (by try simp only [go_sem, Nat.reduceBEq]; try rfl) fb30 (fun H => (.cons (td (by try simp only [go_sem, Nat.reduceBEq]; try rfl) ((CFi .u32).sl _ _ _)) (.cons (td (by try simp only [go_sem, Nat.reduceBEq]; try rfl) ((CFi .u32).sl _ _ _)) .nil))) (refAdd_c h7) ?_
          refine pu rfl (by simp only [go_sem, Nat.reduceBEq]; try with_reducible rfl) ?_
          refine ARun.fin ?_
          refine normIn ?_
          refine normJ ?_
          refine ⟨_, ?_, a_0, r8, y_6, i_7, rfl, hm⟩
          exact le_canon id (wk_fset _ _ (wk_data (by try simp only [go_sem, Nat.reduceBEq]; try rfl) (.v _)) (wk_fset _ _ (wk_data (by try simp only [go_sem, Nat.reduceBEq]; try rfl) ((CFi .i64).sl _ _ _)) (wk_fset _ _ (wk_data (by try simp only [go_sem, Nat.reduceBEq]; try rfl) ((CFi .u32).sl _ _ _)) (wk_fset _ _ (wk_data (by try simp only [go_sem, Nat.reduceBEq]; try rfl) ((CFi .u32).sl _ _ _)) wk_none)))) heapWk0
        · refine AWp.skip ?_
          refine normIn ?_
          refine normJ ?_
          refine ⟨_, ?_, a_0, out_5, y_6, i_7, rfl, hm⟩
          exact le_canon id (wk_fset _ _ (wk_data (by try simp only [go_sem, Nat.reduceBEq]; try rfl) (.v _)) (wk_fset _ _ (wk_data (by try simp only [go_sem, Nat.reduceBEq]; try rfl) ((CFi .i64).sl _ _ _)) (wk_fset _ _ (wk_data (by try simp only [go_sem, Nat.reduceBEq]; try rfl) ((CFi .u32).sl _ _ _)) (wk_fset _ _ (wk_data (by try simp only [go_sem, Nat.reduceBEq]; try rfl) ((CFi .u32).sl _ _ _)) wk_none)))) heapWk0
      · rintro s ⟨a_0, out_5, y_6, i_7, rfl, hm⟩
        unfold refMul_J1 at hm
        refine AWp.reg 64 (N' := 128) rfl ?_
        iterate 3 refine pu rfl (by simp only [go_sem, Nat.reduceBEq]; try with_reducible rfl) ?_
        refine ARun.fin ?_
        refine normThen ?_
        refine ⟨_, ?_, a_0, out_5, y_6, (IntKind.i64.wrap (i_7 + 1)), rfl, hm⟩
        exact le_canon id (wk_fset _ _ (wk_data (by try simp only [go_sem, Nat.reduceBEq]; try rfl) (.v _)) (wk_fset _ _ (wk_data (by try simp only [go_sem, Nat.reduceBEq]; try rfl) ((CFi .i64).sl _ _ _)) (wk_fset _ _ (wk_data (by try simp only [go_sem, Nat.reduceBEq]; try rfl) ((CFi .u32).sl _ _ _)) (wk_fset _ _ (wk_data (by try simp only [go_sem, Nat.reduceBEq]; try rfl) ((CFi .u32).sl _ _ _)) wk_none)))) heapWk0
    · refine AWp.exit ?_
      refine exitSeq ?_
      refine exitThen ?_
      refine exitHere ?_
      refine normSeq ?_
      refine sr (N' := 192) rfl ?_
      iterate 2 refine pu rfl (by simp only [go_sem, Nat.reduceBEq]; try with_reducible rfl) ?_
      refine fs ?_
      refine AWp.ret ?_
      cases hm
      exact ret1D (.inr rfl) Try.results27 (td (by try simp only [go_sem, Nat.reduceBEq]; try rfl) ((CFi .u32).sl _ _ _))
def refCmp_J2 (rec1 : List Int → List Int → Int → Option (Int)) (x_5 : List Int) (y_6 : List Int) (i_8 : Int) : Option (Int) :=
  rec1 x_5 y_6 (IntKind.i64.wrap (i_8 - 1))
def refCmp_J4 (rec1 : List Int → List Int → Int → Option (Int)) (x_5 : List Int) (y_6 : List Int) (i_8 : Int) (p_9 : Int) (q_10 : Int) : Option (Int) :=
  (bif (p_9 != q_10) then
    some (IntKind.i64.wrap (p_9 - q_10))
  else
    refCmp_J2 rec1 x_5 y_6 i_8)
def refCmp_J3 (rec1 : List Int → List Int → Int → Option (Int)) (x_5 : List Int) (y_6 : List Int) (i_8 : Int) (p_9 : Int) (q_10 : Int) : Option (Int) :=
  (bif (decide (i_8 < (y_6.length : Int))) then
    ((idx y_6 i_8).bind fun x6 =>
    refCmp_J4 rec1 x_5 y_6 i_8 p_9 x6)
  else
    refCmp_J4 rec1 x_5 y_6 i_8 p_9 q_10)
def refCmp_B1 (rec1 : List Int → List Int → Int → Option (Int)) (x_5 : List Int) (y_6 : List Int) (i_8 : Int) : Option (Int) :=
  (bif (decide (0 ≤ i_8)) then
    (bif (decide (i_8 < (x_5.length : Int))) then
      ((idx x_5 i_8).bind fun x8 =>
      refCmp_J3 rec1 x_5 y_6 i_8 x8 0)
    else
      refCmp_J3 rec1 x_5 y_6 i_8 0 0)
  else
    some 0)
def refCmp_L1 : Nat → List Int → List Int → Int → Option (Int)
  | 0 => fun _ _ _ => none
  | n + 1 => refCmp_B1 (refCmp_L1 n)
def refCmp_J1 (x_5 : List Int) (y_6 : List Int) (n_7 : Int) : Option (Int) :=
  refCmp_L1 FUEL x_5 y_6 (IntKind.i64.wrap (n_7 - 1))
def refCmp_m (a_0 : List Int) (b_1 : List Int) : Option (Int) :=
  ((refBits_m a_0).bind fun r2 =>
  ((refBits_m b_1).bind fun r4 =>
  (bif (decide ((r2.length : Int) < (r4.length : Int))) then
    refCmp_J1 r2 r4 (r4.length : Int)
  else
    refCmp_J1 r2 r4 (r2.length : Int))))
theorem refCmp_c {a_0 : List Int} {b_1 : List Int} {r : Int} (hm : refCmp_m a_0 b_1 = some r) : PureC Try.prog 32 [.sl (a_0.flatMap (ci .u32)) a_0.length false, .sl (b_1.flatMap (ci .u32)) b_1.length false] (.v (.int .i64 r)) := by
  refine PureC.of_body Try.func32 rfl ?_
  simp only [Try.ntmps32, List.length_cons, List.length_nil, Nat.reduceAdd, Nat.reduceSub, empty_eq]
  unfold refCmp_m at hm
  refine sr (N' := 64) rfl ?_
  refine pu rfl (by simp only [go_sem, Nat.reduceBEq]; try with_reducible rfl) ?_
  refine fs ?_
  refine sr (N' := 128) rfl ?_
  refine pu rfl (by simp only [go_sem, Nat.reduceBEq]; try with_reducible rfl) ?_
  obtain ⟨r2, h1, hm⟩ := bnd hm
  refine ARun.callQ (r := .sl (r2.flatMap (ci .i64)) r2.length false) (by decide) (by try simp only [go_sem, Nat.reduceBEq]; try rfl) fb36 (fun H => (.cons (td (by try simp only [go_sem, Nat.reduceBEq]; try rfl) ((CFi .u32).sl _ _ _)) .nil)) (refBits_c h1) ?_
  refine pu rfl (by simp only [go_sem, Nat.reduceBEq]; try with_reducible rfl) ?_
  obtain ⟨r4, h3, hm⟩ := bnd hm
  refine ARun.callQ (r := .sl (r4.flatMap (ci .i64)) r4.length false) (by decide) (by try simp only [go_sem, Nat.reduceBEq]; try rfl) fb36 (fun H => (.cons (td (by try simp only [go_sem, Nat.reduceBEq]; try rfl) ((CFi .u32).sl _ _ _)) .nil)) (refBits_c h3) ?_
  iterate 2 refine pu rfl (by simp only [go_sem, Nat.reduceBEq]; try with_reducible rfl) ?_
  refine fs ?_
  refine sr (N' := 192) rfl ?_
  iterate 3 refine pu rfl (by simp only [go_sem, Nat.reduceBEq]; try with_reducible rfl) ?_
  refine fs ?_
  refine AWp.seqJ (fun s => ∃ (x_5 : List Int) (y_6 : List Int) (n_7 : Int), s = (⟨51, (fset (fset (fset (fun _ => AV.any) 5 (.sl (x_5.flatMap (ci .i64)) x_5.length false)) 6 (.sl (y_6.flatMap (ci .i64)) y_6.length false)) 7 (.v (.int .i64 n_7))), ⟨nofresh, 64⟩⟩ : St) ∧ refCmp_J1 x_5 y_6 n_7 = some r) ?_ ?_
  · refine sr (N' := 256) rfl ?_
    iterate 4 refine pu rfl (by simp only [go_sem, Nat.reduceBEq]; try with_reducible rfl) ?_
    refine fs ?_
    refine AWp.condM hm (by try simp only [go_sem, Nat.reduceBEq]; try rfl) (fun _ hm => ?_) (fun _ hm => ?_)
    · refine AWp.reg 64 (N' := 320) rfl ?_
      iterate 3 refine pu rfl (by simp only [go_sem, Nat.reduceBEq]; try with_reducible rfl) ?_
      refine ARun.fin ?_
      refine normJ ?_
      refine ⟨_, ?_, r2, r4, (r4.length : Int), rfl, hm⟩
      exact le_canon id (wk_fset _ _ (wk_data (by try simp only [go_sem, Nat.reduceBEq]; try rfl) (.v _)) (wk_fset _ _ (wk_data (by try simp only [go_sem, Nat.reduceBEq]; try rfl) ((CFi .i64).sl _ _ _)) (wk_fset _ _ (wk_data (by try simp only [go_sem, Nat.reduceBEq]; try rfl) ((CFi .i64).sl _ _ _)) wk_none))) heapWk0
    · refine AWp.skip ?_
      refine normJ ?_
      refine ⟨_, ?_, r2, r4, (r2.length : Int), rfl, hm⟩
      exact le_canon id (wk_fset _ _ (wk_data (by try simp only [go_sem, Nat.reduceBEq]; try rfl) (.v _)) (wk_fset _ _ (wk_data (by try simp only [go_sem, Nat.reduceBEq]; try rfl) ((CFi .i64).sl _ _ _)) (wk_fset _ _ (wk_data (by try simp only [go_sem, Nat.reduceBEq]; try rfl) ((CFi .i64).sl _ _ _)) wk_none))) heapWk0
  · rintro s ⟨x_5, y_6, n_7, rfl, hm⟩
    unfold refCmp_J1 at hm
    refine AWp.seq' ?_
    refine sr (N' := 128) rfl ?_
    iterate 3 refine pu rfl (by simp only [go_sem, Nat.reduceBEq]; try with_reducible rfl) ?_
    refine fs ?_
    refine AWp.block ?_
    refine AWp.loopM (fun m s => ∃ (x_5 : List Int) (y_6 : List Int) (i_8 : Int), s = (⟨51, (fset (fset (fset (fun _ => AV.any) 5 (.sl (x_5.flatMap (ci .i64)) x_5.length false)) 6 (.sl (y_6.flatMap (ci .i64)) y_6.length false)) 8 (.v (.int .i64 i_8))), ⟨nofresh, 64⟩⟩ : St) ∧ refCmp_L1 m x_5 y_6 i_8 = some r) FUEL ?_ ?_ ?_
    · rintro s ⟨_, _, _, _, h⟩
      cases h
    · refine ⟨_, ?_, x_5, y_6, (IntKind.i64.wrap (n_7 - 1)), rfl, hm⟩
      exact le_canon id (wk_fset _ _ (wk_data (by try simp only [go_sem, Nat.reduceBEq]; try rfl) (.v _)) (wk_fset _ _ (wk_data (by try simp only [go_sem, Nat.reduceBEq]; try rfl) ((CFi .i64).sl _ _ _)) (wk_fset _ _ (wk_data (by try simp only [go_sem, Nat.reduceBEq]; try rfl) ((CFi .i64).sl _ _ _)) wk_none))) heapWk0
    · rintro n1 s ⟨x_5, y_6, i_8, rfl, hm⟩
      replace hm : refCmp_B1 (refCmp_L1 n1) x_5 y_6 i_8 = some r := hm
      unfold refCmp_B1 at hm
      refine AWp.seq' ?_
      refine sr (N' := 128) rfl ?_
      iterate 2 refine pu rfl (by simp only [go_sem, Nat.reduceBEq]; try with_reducible rfl) ?_
      refine fs ?_
      refine AWp.condM hm (by try simp only [go_sem, Nat.reduceBEq]; try rfl) (fun _ hm => ?_) (fun _ hm => ?_)
      · refine AWp.skip ?_
        refine normSeq ?_
        refine AWp.seqJ (fun s => ∃ (x_5 : List Int) (y_6 : List Int) (i_8 : Int), s = (⟨51, (fset (fset (fset (fun _ => AV.any) 5 (.sl (x_5.flatMap (ci .i64)) x_5.length false)) 6 (.sl (y_6.flatMap (ci .i64)) y_6.length false)) 8 (.v (.int .i64 i_8))), ⟨nofresh, 64⟩⟩ : St) ∧ refCmp_J2 (refCmp_L1 n1) x_5 y_6 i_8 = some r) ?_ ?_
        · refine AWp.block ?_
          refine sr (N' := 192) rfl ?_
          iterate 2 refine pu rfl (by simp only [go_sem, Nat.reduceBEq]; try with_reducible rfl) ?_
          refine fs ?_
          refine AWp.seqJ (fun s => ∃ (x_5 : List Int) (y_6 : List Int) (i_8 : Int) (p_9 : Int) (q_10 : Int), s = (⟨51, (fset (fset (fset (fset (fset (fun _ => AV.any) 5 (.sl (x_5.flatMap (ci .i64)) x_5.length false)) 6 (.sl (y_6.flatMap (ci .i64)) y_6.length false)) 8 (.v (.int .i64 i_8))) 9 (.v (.int .i64 p_9))) 10 (.v (.int .i64 q_10))), ⟨nofresh, 64⟩⟩ : St) ∧ refCmp_J3 (refCmp_L1 n1) x_5 y_6 i_8 p_9 q_10 = some r) ?_ ?_
          · refine sr (N' := 256) rfl ?_
            iterate 4 refine pu rfl (by simp only [go_sem, Nat.reduceBEq]; try with_reducible rfl) ?_
            refine fs ?_
            refine AWp.condM hm (by try simp only [go_sem, Nat.reduceBEq]; try rfl) (fun _ hm => ?_) (fun _ hm => ?_)
            · refine AWp.reg 64 (N' := 320) rfl ?_
              iterate 2 refine pu rfl (by simp only [go_sem, Nat.reduceBEq]; try with_reducible rfl) ?_
              obtain ⟨x8, h7, hm⟩ := bnd hm
              refine pu rfl (ap_idx (CFi .i64) (by decide) Try.underlying56 sz3 (by try simp only [go_sem, Nat.reduceBEq]; try rfl) rfl (by try simp only [go_sem, Nat.reduceBEq]; try rfl) h7) ?_
              iterate 2 refine pu rfl (by simp only [go_sem, Nat.reduceBEq]; try with_reducible rfl) ?_
              refine ARun.fin ?_
              refine normJ ?_
              refine ⟨_, ?_, x_5, y_6, i_8, x8, 0, rfl, hm⟩
              exact le_canon id (wk_fset _ _ (wk_data (by try simp only [go_sem, Nat.reduceBEq]; try rfl) (.v _)) (wk_fset _ _ (wk_data (by try simp only [go_sem, Nat.reduceBEq]; try rfl) (.v _)) (wk_fset _ _ (wk_data (by try simp only [go_sem, Nat.reduceBEq]; try rfl) (.v _)) (wk_fset _ _ (wk_data (by try simp only [go_sem, Nat.reduceBEq]; try rfl) ((CFi .i64).sl _ _ _)) (wk_fset _ _ (wk_data (by try simp only [go_sem, Nat.reduceBEq]; try rfl) ((CFi .i64).sl _ _ _)) wk_none))))) heapWk0
            · refine AWp.skip ?_
              refine normJ ?_
              refine ⟨_, ?_, x_5, y_6, i_8, 0, 0, rfl, hm⟩
              exact le_canon id (wk_fset _ _ (wk_data (by try simp only [go_sem, Nat.reduceBEq]; try rfl) (.v _)) (wk_fset _ _ (wk_data (by try simp only [go_sem, Nat.reduceBEq]; try rfl) (.v _)) (wk_fset _ _ (wk_data (by try simp only [go_sem, Nat.reduceBEq]; try rfl) (.v _)) (wk_fset _ _ (wk_data (by try simp only [go_sem, Nat.reduceBEq]; try rfl) ((CFi .i64).sl _ _ _)) (wk_fset _ _ (wk_data (by try simp only [go_sem, Nat.reduceBEq]; try rfl) ((CFi .i64).sl _ _ _)) wk_none))))) heapWk0
          · rintro s ⟨x_5, y_6, i_8, p_9, q_10, rfl, hm⟩
            unfold refCmp_J3 at hm
            refine AWp.seqJ (fun s => ∃ (x_5 : List Int) (y_6 : List Int) (i_8 : Int) (p_9 : Int) (q_10 : Int), s = (⟨51, (fset (fset (fset (fset (fset (fun _ => AV.any) 5 (.sl (x_5.flatMap (ci .i64)) x_5.length false)) 6 (.sl (y_6.flatMap (ci .i64)) y_6.length false)) 8 (.v (.int .i64 i_8))) 9 (.v (.int .i64 p_9))) 10 (.v (.int .i64 q_10))), ⟨nofresh, 64⟩⟩ : St) ∧ refCmp_J4 (refCmp_L1 n1) x_5 y_6 i_8 p_9 q_10 = some r) ?_ ?_
            · refine sr (N' := 128) rfl ?_
              iterate 4 refine pu rfl (by simp only [go_sem, Nat.reduceBEq]; try with_reducible rfl) ?_
              refine fs ?_
              refine AWp.condM hm (by try simp only [go_sem, Nat.reduceBEq]; try rfl) (fun _ hm => ?_) (fun _ hm => ?_)
              · refine AWp.reg 64 (N' := 192) rfl ?_
                iterate 2 refine pu rfl (by simp only [go_sem, Nat.reduceBEq]; try with_reducible rfl) ?_
                obtain ⟨x6, h5, hm⟩ := bnd hm
                refine pu rfl (ap_idx (CFi .i64) (by decide) Try.underlying56 sz3 (by try simp only [go_sem, Nat.reduceBEq]; try rfl) rfl (by try simp only [go_sem, Nat.reduceBEq]; try rfl) h5) ?_
                iterate 2 refine pu rfl (by simp only [go_sem, Nat.reduceBEq]; try with_reducible rfl) ?_
                refine ARun.fin ?_
                refine normJ ?_
                refine ⟨_, ?_, x_5, y_6, i_8, p_9, x6, rfl, hm⟩
                exact le_canon id (wk_fset _ _ (wk_data (by try simp only [go_sem, Nat.reduceBEq]; try rfl) (.v _)) (wk_fset _ _ (wk_data (by try simp only [go_sem, Nat.reduceBEq]; try rfl) (.v _)) (wk_fset _ _ (wk_data (by try simp only [go_sem, Nat.reduceBEq]; try rfl) (.v _)) (wk_fset _ _ (wk_data (by try simp only [go_sem, Nat.reduceBEq]; try rfl) ((CFi .i64).sl _ _ _)) (wk_fset _ _ (wk_data (by try simp only [go_sem, Nat.reduceBEq]; try rfl) ((CFi .i64).sl _ _ _)) wk_none))))) heapWk0
              · refine AWp.skip ?_
                refine normJ ?_
                refine ⟨_, ?_, x_5, y_6, i_8, p_9, q_10, rfl, hm⟩
                exact le_canon id (wk_fset _ _ (wk_data (by try simp only [go_sem, Nat.reduceBEq]; try rfl) (.v _)) (wk_fset _ _ (wk_data (by try simp only [go_sem, Nat.reduceBEq]; try rfl) (.v _)) (wk_fset _ _ (wk_data (by try simp only [go_sem, Nat.reduceBEq]; try rfl) (.v _)) (wk_fset _ _ (wk_data (by try simp only [go_sem, Nat.reduceBEq]; try rfl) ((CFi .i64).sl _ _ _)) (wk_fset _ _ (wk_data (by try simp only [go_sem, Nat.reduceBEq]; try rfl) ((CFi .i64).sl _ _ _)) wk_none))))) heapWk0
            · rintro s ⟨x_5, y_6, i_8, p_9, q_10, rfl, hm⟩
              unfold refCmp_J4 at hm
              refine sr (N' := 128) rfl ?_
              iterate 3 refine pu rfl (by simp only [go_sem, Nat.reduceBEq]; try with_reducible rfl) ?_
              refine fs ?_
              refine AWp.condM hm (by try simp only [go_sem, Nat.reduceBEq]; try rfl) (fun _ hm => ?_) (fun _ hm => ?_)
              · refine sr (N' := 192) rfl ?_
                iterate 4 refine pu rfl (by simp only [go_sem, Nat.reduceBEq]; try with_reducible rfl) ?_
                refine fs ?_
                refine AWp.ret ?_
                refine retIn ?_
                refine retJ ?_
                refine retThen ?_
                refine retIn ?_
                refine retSeq ?_
                cases hm
                exact ret1D (.inr rfl) Try.results32 (td (by try simp only [go_sem, Nat.reduceBEq]; try rfl) (.v _))
              · refine AWp.skip ?_
                refine normIn ?_
                refine normJ ?_
                refine ⟨_, ?_, x_5, y_6, i_8, rfl, hm⟩
                exact le_canon id (wk_fset _ _ (wk_data (by try simp only [go_sem, Nat.reduceBEq]; try rfl) (.v _)) (wk_fset _ _ (wk_data (by try simp only [go_sem, Nat.reduceBEq]; try rfl) ((CFi .i64).sl _ _ _)) (wk_fset _ _ (wk_data (by try simp only [go_sem, Nat.reduceBEq]; try rfl) ((CFi .i64).sl _ _ _)) wk_none))) heapWk0
        · rintro s ⟨x_5, y_6, i_8, rfl, hm⟩
          unfold refCmp_J2 at hm
          refine AWp.reg 64 (N' := 128) rfl ?_
          iterate 3 refine pu rfl (by simp only [go_sem, Nat.reduceBEq]; try with_reducible rfl) ?_
          refine ARun.fin ?_
          refine normThen ?_
          refine ⟨_, ?_, x_5, y_6, (IntKind.i64.wrap (i_8 - 1)), rfl, hm⟩
          exact le_canon id (wk_fset _ _ (wk_data (by try simp only [go_sem, Nat.reduceBEq]; try rfl) (.v _)) (wk_fset _ _ (wk_data (by try simp only [go_sem, Nat.reduceBEq]; try rfl) ((CFi .i64).sl _ _ _)) (wk_fset _ _ (wk_data (by try simp only [go_sem, Nat.reduceBEq]; try rfl) ((CFi .i64).sl _ _ _)) wk_none))) heapWk0
      · refine AWp.exit ?_
        refine exitSeq ?_
        refine exitThen ?_
        refine exitHere ?_
        refine normSeq ?_
        refine sr (N' := 192) rfl ?_
        refine pu rfl (by simp only [go_sem, Nat.reduceBEq]; try with_reducible rfl) ?_
        refine fs ?_
        refine AWp.ret ?_
        cases hm
        exact ret1D (.inr rfl) Try.results32 (td (by try simp only [go_sem, Nat.reduceBEq]; try rfl) (.v _))
end Go.Proofs.Ytkkhgcllbbffaaa
