/- Facts that the statement's proof is made of. No condition. -/
import Derived.Test.YtibnmlbjahcjmaaQtGC1
set_option linter.unusedVariables false
set_option linter.unusedSimpArgs false
set_option maxRecDepth 20000
set_option maxHeartbeats 4000000
namespace Go.Proofs.Ytibnmlbjahcjmaa
open Go Go.AM
theorem eqs23GC2 (x0 y0 x1 y1 x2 y2 : Int) : abin Try.prog .eql 23 (.agg [.v (.int .i64 x0), .v (.int .i64 x1), .v (.int .i64 x2)]) (.agg [.v (.int .i64 y0), .v (.int .i64 y1), .v (.int .i64 y2)]) = some (.v (.bool ((x0 == y0) && ((x1 == y1) && (x2 == y2))))) :=
 (by kernel_rfl : abin Try.prog .eql 23 (.agg [.v (.int .i64 x0), .v (.int .i64 x1), .v (.int .i64 x2)]) (.agg [.v (.int .i64 y0), .v (.int .i64 y1), .v (.int .i64 y2)]) = some (.v (.bool ((x0 == y0) && ((x1 == y1) && ((x2 == y2) && true)))))).trans (by rw [Bool.and_true])
theorem nqs23GC2 (x0 y0 x1 y1 x2 y2 : Int) : abin Try.prog .neq 23 (.agg [.v (.int .i64 x0), .v (.int .i64 x1), .v (.int .i64 x2)]) (.agg [.v (.int .i64 y0), .v (.int .i64 y1), .v (.int .i64 y2)]) = some (.v (.bool (!((x0 == y0) && ((x1 == y1) && (x2 == y2)))))) :=
 (by kernel_rfl : abin Try.prog .neq 23 (.agg [.v (.int .i64 x0), .v (.int .i64 x1), .v (.int .i64 x2)]) (.agg [.v (.int .i64 y0), .v (.int .i64 y1), .v (.int .i64 y2)]) = some (.v (.bool (!((x0 == y0) && ((x1 == y1) && ((x2 == y2) && true))))))).trans (by rw [Bool.and_true])
attribute [go_sem] eqs23GC2 nqs23GC2
theorem fa38_0GC2 (xs : List AV) : afieldAddr Try.prog 38 (.ptr (xs)) 0 = some (.ptr xs) := by kernel_rfl
attribute [go_sem] fa38_0GC2
theorem fa38_1GC2 (x0 : AV) (xs : List AV) : afieldAddr Try.prog 38 (.ptr (x0 :: xs)) 1 = some (.ptr xs) := by kernel_rfl
attribute [go_sem] fa38_1GC2
theorem fo23_0GC2 (i o : Nat) : afieldAddr Try.prog 23 (.adr i o) 0 = some (.adr i (o + 0)) := by kernel_rfl
attribute [go_sem] fo23_0GC2
theorem fo23_1GC2 (i o : Nat) : afieldAddr Try.prog 23 (.adr i o) 1 = some (.adr i (o + 1)) := by kernel_rfl
attribute [go_sem] fo23_1GC2
theorem fo27_0GC2 (i o : Nat) : afieldAddr Try.prog 27 (.adr i o) 0 = some (.adr i (o + 0)) := by kernel_rfl
attribute [go_sem] fo27_0GC2
theorem fo27_1GC2 (i o : Nat) : afieldAddr Try.prog 27 (.adr i o) 1 = some (.adr i (o + 3)) := by kernel_rfl
attribute [go_sem] fo27_1GC2
theorem fo27_2GC2 (i o : Nat) : afieldAddr Try.prog 27 (.adr i o) 2 = some (.adr i (o + 4)) := by kernel_rfl
attribute [go_sem] fo27_2GC2
theorem fo38_0GC2 (i o : Nat) : afieldAddr Try.prog 38 (.adr i o) 0 = some (.adr i (o + 0)) := by kernel_rfl
attribute [go_sem] fo38_0GC2
theorem fo38_1GC2 (i o : Nat) : afieldAddr Try.prog 38 (.adr i o) 1 = some (.adr i (o + 1)) := by kernel_rfl
attribute [go_sem] fo38_1GC2
theorem fo38_2GC2 (i o : Nat) : afieldAddr Try.prog 38 (.adr i o) 2 = some (.adr i (o + 2)) := by kernel_rfl
attribute [go_sem] fo38_2GC2
theorem fo73_0GC2 (i o : Nat) : afieldAddr Try.prog 73 (.adr i o) 0 = some (.adr i (o + 0)) := by kernel_rfl
attribute [go_sem] fo73_0GC2
theorem fo73_1GC2 (i o : Nat) : afieldAddr Try.prog 73 (.adr i o) 1 = some (.adr i (o + 1)) := by kernel_rfl
attribute [go_sem] fo73_1GC2
theorem fo73_2GC2 (i o : Nat) : afieldAddr Try.prog 73 (.adr i o) 2 = some (.adr i (o + 2)) := by kernel_rfl
attribute [go_sem] fo73_2GC2
theorem ld23GC2 (H : Heap) (x0 x1 x2 : AV) (xs : List AV) : aload Try.prog H 23 (.ptr (x0 :: x1 :: x2 :: xs)) = some (.agg [x0, x1, x2]) := by kernel_rfl
attribute [go_sem] ld23GC2
theorem ld24GC2 (H : Heap) (x : AV) (xs : List AV) : aload Try.prog H 24 (.ptr (x :: xs)) = some x := by kernel_rfl
attribute [go_sem] ld24GC2
theorem ld25GC2 (H : Heap) (x : AV) (xs : List AV) : aload Try.prog H 25 (.ptr (x :: xs)) = some x := by kernel_rfl
attribute [go_sem] ld25GC2
theorem ld27GC2 (H : Heap) (x0 x1 x2 x3 x4 : AV) (xs : List AV) : aload Try.prog H 27 (.ptr (x0 :: x1 :: x2 :: x3 :: x4 :: xs)) = some (.agg [x0, x1, x2, x3, x4]) := by kernel_rfl
attribute [go_sem] ld27GC2
theorem ld3GC2 (H : Heap) (x : AV) (xs : List AV) : aload Try.prog H 3 (.ptr (x :: xs)) = some x := by kernel_rfl
attribute [go_sem] ld3GC2
theorem ld38GC2 (H : Heap) (x0 x1 x2 : AV) (xs : List AV) : aload Try.prog H 38 (.ptr (x0 :: x1 :: x2 :: xs)) = some (.agg [x0, x1, x2]) := by kernel_rfl
attribute [go_sem] ld38GC2
theorem ld4GC2 (H : Heap) (x : AV) (xs : List AV) : aload Try.prog H 4 (.ptr (x :: xs)) = some x := by kernel_rfl
attribute [go_sem] ld4GC2
theorem ld73GC2 (H : Heap) (x0 x1 x2 : AV) (xs : List AV) : aload Try.prog H 73 (.ptr (x0 :: x1 :: x2 :: xs)) = some (.agg [x0, x1, x2]) := by kernel_rfl
attribute [go_sem] ld73GC2
def slicesGrowEdge_J2 (s_0 : List GEdge) : Option ((List GEdge)) :=
 some s_0
def slicesGrowEdge_J1 (n_1 : Int) : Option ((List GEdge)) :=
 (bif (decide (0 < (IntKind.i64.wrap (n_1 - (IntKind.i64.wrap (((0 : Nat) : Int) - ((0 : Nat) : Int))))))) then
  ((chk (((0 : Nat) : Int) == 0)).bind fun _ =>
  ((chk (decide (0 < (IntKind.i64.wrap (n_1 - (IntKind.i64.wrap (((0 : Nat) : Int) - ((0 : Nat) : Int)))))) && decide ((IntKind.i64.wrap (n_1 - (IntKind.i64.wrap (((0 : Nat) : Int) - ((0 : Nat) : Int))))) ≤ 4294967296))).bind fun _ =>
  ((chk (((0 : Nat) : Int) == 0)).bind fun _ =>
  slicesGrowEdge_J2 [])))
 else
  slicesGrowEdge_J2 [])
def slicesGrowEdge_m (n_1 : Int) : Option ((List GEdge)) :=
 (bif (decide (n_1 < 0)) then
  none
 else
  slicesGrowEdge_J1 n_1)
theorem slicesGrowEdge_f {n_1 : Int} {r : (List GEdge)} (hm : slicesGrowEdge_m n_1 = some r) : FreshC Try.prog 137 [.v (.slice none 0 0), .v (.int .i64 n_1)] 3 (r.flatMap cGEdge) r.length := by
 refine FreshC.of_body Try.func137 rfl (CFGEdge.fmdat r) ?_
 simp only [Try.ntmps137, List.length_cons, List.length_nil, Nat.reduceAdd, Nat.reduceSub, empty_eq]
 unfold slicesGrowEdge_m at hm
 refine sr (N' := 64) rfl ?_
 refine pA ?_
 refine fs ?_
 refine AWp.seqJ (fun s => ∃ (n_1 : Int), s = (⟨27, (fset (fset (fun _ => AV.any) 0 (.v (.slice none 0 0))) 1 (.v (.int .i64 n_1))), ⟨nofresh, 64⟩⟩ : St) ∧ slicesGrowEdge_J1 n_1 = some r) ?_ ?_
 ·
  refine sr (N' := 128) rfl ?_
  iterate 2 refine pA ?_
  refine fs ?_
  refine AWp.condM hm Z1 (fun _ hm => ?_) (fun _ hm => ?_)
  ·
   cases hm
  ·
   refine AWp.skip ?_
   refine normJ ?_
   refine ⟨_, ?_, n_1, rfl, hm⟩
   exact le_canon id (wV (wV wk_none)) heapWk0
 ·
  rintro s ⟨n_1, rfl, hm⟩
  unfold slicesGrowEdge_J1 at hm
  refine AWp.seqJ (fun s => ∃ (s_0 : List GEdge), s = (⟨27, (fset (fun _ => AV.any) 0 (.own 1 0 s_0.length)), ⟨(upd nofresh 1 (.cells 3 (s_0.flatMap cGEdge) 0)), 64⟩⟩ : St) ∧ slicesGrowEdge_J2 s_0 = some r) ?_ ?_
  ·
   refine sr (N' := 128) rfl ?_
   iterate 2 refine pA ?_
   refine pu rfl (ap_capn Try.underlying25 Z1) ?_
   iterate 5 refine pA ?_
   refine fs ?_
   refine sr (N' := 192) rfl ?_
   iterate 2 refine pA ?_
   refine fs ?_
   refine AWp.condM hm Z1 (fun _ hm => ?_) (fun _ hm => ?_)
   ·
    refine AWp.reg 64 (N' := 256) rfl ?_
    iterate 2 refine pA ?_
    refine pu rfl (ap_capn Try.underlying25 Z1) ?_
    obtain ⟨_, h3, hm⟩ := bnd hm
    refine pu rfl (ap_slnil Try.underlying25 sz38 Z1 Z1 (eq_of_beq (chk_t h3))) ?_
    refine pA ?_
    obtain ⟨_, h4, hm⟩ := bnd hm
    refine hp (id := 197) rfl rfl (ah_appn Try.underlying25 Try.underlying3 rfl in38 ts38 (by rw [tb38]; decide) (by rw [tb38]; decide) tz38 Zd Zd Z1 Z1 Z5 h4) ?_
    iterate 2 refine pA ?_
    obtain ⟨_, h8, hm⟩ := bnd hm
    refine pu rfl (ap_slo0 Try.underlying25 sz38 Z1 Z3 Z1 (eq_of_beq (chk_t h8))) ?_
    refine pA ?_
    refine ARun.fin ?_
    refine normJ ?_
    refine ⟨_, ?_, [], rfl, hm⟩
    refine St.Le.trans (le_slc0 197 Z3) ?_
    exact le_canon (fun j => bif j == 1 then 197 else 0) (wO wk_none) (hW (eU CFGEdge entWk_none))
   ·
    refine AWp.skip ?_
    refine normJ ?_
    refine ⟨_, ?_, [], rfl, hm⟩
    refine St.Le.trans (le_nil 0 900000 3 Z1 Z5) ?_
    exact le_canon (fun j => bif j == 1 then 900000 else 0) (wO wk_none) (hW (eU CFGEdge entWk_none))
  ·
   rintro s ⟨s_0, rfl, hm⟩
   unfold slicesGrowEdge_J2 at hm
   refine sr (N' := 128) rfl ?_
   iterate 2 refine pA ?_
   refine fs ?_
   refine AWp.ret ?_
   cases hm
   exact retF (.inr rfl) Try.results137 Z1 Z3 Z6
def slicesConcatEdge_J1 (rec1 : List (List GEdge) → Int → List (List GEdge) → Int → Int → Option ((List GEdge))) (slices_0 : List (List GEdge)) (size_3 : Int) (t9 : List (List GEdge)) (t10 : Int) (t11 : Int) : Option ((List GEdge)) :=
 rec1 slices_0 size_3 t9 t10 (IntKind.i64.wrap (t11 + 1))
def slicesConcatEdge_B2 (rec2 : List GEdge → List (List GEdge) → Int → Int → Option ((List GEdge))) (newslice_6 : List GEdge) (t25 : List (List GEdge)) (t26 : Int) (t27 : Int) : Option ((List GEdge)) :=
 (bif (decide (t27 < t26)) then
  ((idx t25 t27).bind fun x6 =>
  ((app newslice_6 x6).bind fun l8 =>
  rec2 l8 t25 t26 (IntKind.i64.wrap (t27 + 1))))
 else
  some newslice_6)
def slicesConcatEdge_L2 : Nat → List GEdge → List (List GEdge) → Int → Int → Option ((List GEdge))
 | 0 => fun _ _ _ _ => none
 | n + 1 => slicesConcatEdge_B2 (slicesConcatEdge_L2 n)
def slicesConcatEdge_B1 (rec1 : List (List GEdge) → Int → List (List GEdge) → Int → Int → Option ((List GEdge))) (slices_0 : List (List GEdge)) (size_3 : Int) (t9 : List (List GEdge)) (t10 : Int) (t11 : Int) : Option ((List GEdge)) :=
 (bif (decide (t11 < t10)) then
  ((idx t9 t11).bind fun x2 =>
  (bif (decide ((IntKind.i64.wrap (size_3 + (x2.length : Int))) < 0)) then
   none
  else
   slicesConcatEdge_J1 rec1 slices_0 (IntKind.i64.wrap (size_3 + (x2.length : Int))) t9 t10 t11))
 else
  ((slicesGrowEdge_m size_3).bind fun r4 =>
  slicesConcatEdge_L2 FUEL r4 slices_0 (slices_0.length : Int) 0))
def slicesConcatEdge_L1 : Nat → List (List GEdge) → Int → List (List GEdge) → Int → Int → Option ((List GEdge))
 | 0 => fun _ _ _ _ _ => none
 | n + 1 => slicesConcatEdge_B1 (slicesConcatEdge_L1 n)
def slicesConcatEdge_m (slices_0 : List (List GEdge)) : Option ((List GEdge)) :=
 slicesConcatEdge_L1 FUEL slices_0 0 slices_0 (slices_0.length : Int) 0
theorem slicesConcatEdge_c {slices_0 : List (List GEdge)} {r : (List GEdge)} (hm : slicesConcatEdge_m slices_0 = some r) : PureC Try.prog 123 [.sl (slices_0.flatMap (csl cGEdge)) slices_0.length false] (.sl (r.flatMap cGEdge) r.length false) := by
 refine PureC.of_body Try.func123 rfl ?_
 simp only [Try.ntmps123, List.length_cons, List.length_nil, Nat.reduceAdd, Nat.reduceSub, empty_eq]
 unfold slicesConcatEdge_m at hm
 refine sr (N' := 64) rfl ?_
 refine pA ?_
 refine fs ?_
 refine sr (N' := 128) rfl ?_
 refine pA ?_
 refine fs ?_
 refine AWp.seq' ?_
 refine sr (N' := 192) rfl ?_
 iterate 3 refine pA ?_
 refine fs ?_
 refine AWp.block ?_
 refine AWp.loopM (fun m s => ∃ (slices_0 : List (List GEdge)) (size_3 : Int) (t9 : List (List GEdge)) (t10 : Int) (t11 : Int), s = (⟨36, (fset (fset (fset (fset (fset (fun _ => AV.any) 0 (.sl (slices_0.flatMap (csl cGEdge)) slices_0.length false)) 3 (.v (.int .i64 size_3))) 9 (.sl (t9.flatMap (csl cGEdge)) t9.length false)) 10 (.v (.int .i64 t10))) 11 (.v (.int .i64 t11))), ⟨nofresh, 64⟩⟩ : St) ∧ slicesConcatEdge_L1 m slices_0 size_3 t9 t10 t11 = some r) FUEL ?_ ?_ ?_
 ·
  rintro s ⟨_, _, _, _, _, _, h⟩
  cases h
 ·
  refine ⟨_, ?_, slices_0, 0, slices_0, (slices_0.length : Int), 0, rfl, hm⟩
  exact le_canon id (wV (wV (wD ((CFl CFGEdge).sl _ _ _) (wV (wD ((CFl CFGEdge).sl _ _ _) wk_none))))) heapWk0
 ·
  rintro n1 s ⟨slices_0, size_3, t9, t10, t11, rfl, hm⟩
  replace hm : slicesConcatEdge_B1 (slicesConcatEdge_L1 n1) slices_0 size_3 t9 t10 t11 = some r := hm
  unfold slicesConcatEdge_B1 at hm
  refine sr (N' := 128) rfl ?_
  refine pA ?_
  refine fs ?_
  refine AWp.seq' ?_
  refine AWp.condM hm Z1 (fun _ hm => ?_) (fun _ hm => ?_)
  ·
   refine AWp.skip ?_
   refine normSeq ?_
   refine AWp.seqJ (fun s => ∃ (slices_0 : List (List GEdge)) (size_3 : Int) (t9 : List (List GEdge)) (t10 : Int) (t11 : Int), s = (⟨36, (fset (fset (fset (fset (fset (fun _ => AV.any) 0 (.sl (slices_0.flatMap (csl cGEdge)) slices_0.length false)) 3 (.v (.int .i64 size_3))) 9 (.sl (t9.flatMap (csl cGEdge)) t9.length false)) 10 (.v (.int .i64 t10))) 11 (.v (.int .i64 t11))), ⟨nofresh, 64⟩⟩ : St) ∧ slicesConcatEdge_J1 (slicesConcatEdge_L1 n1) slices_0 size_3 t9 t10 t11 = some r) ?_ ?_
   ·
    refine AWp.block ?_
    refine sr (N' := 192) rfl ?_
    obtain ⟨x2, h1, hm⟩ := bnd hm
    refine pu rfl (ap_idx (CFl CFGEdge) Zd Try.underlying137 sz25 Z1 rfl Z1 h1) ?_
    iterate 2 refine pA ?_
    refine fs ?_
    refine sr (N' := 256) rfl ?_
    iterate 5 refine pA ?_
    refine fs ?_
    refine sr (N' := 320) rfl ?_
    iterate 2 refine pA ?_
    refine fs ?_
    refine AWp.condM hm Z1 (fun _ hm => ?_) (fun _ hm => ?_)
    ·
     cases hm
    ·
     refine AWp.skip ?_
     refine normIn ?_
     refine normJ ?_
     refine ⟨_, ?_, slices_0, (IntKind.i64.wrap (size_3 + (x2.length : Int))), t9, t10, t11, rfl, hm⟩
     exact le_canon id (wV (wV (wD ((CFl CFGEdge).sl _ _ _) (wV (wD ((CFl CFGEdge).sl _ _ _) wk_none))))) heapWk0
   ·
    rintro s ⟨slices_0, size_3, t9, t10, t11, rfl, hm⟩
    unfold slicesConcatEdge_J1 at hm
    refine AWp.reg 64 (N' := 128) rfl ?_
    iterate 2 refine pA ?_
    refine ARun.fin ?_
    refine normThen ?_
    refine ⟨_, ?_, slices_0, size_3, t9, t10, (IntKind.i64.wrap (t11 + 1)), rfl, hm⟩
    exact le_canon id (wV (wV (wD ((CFl CFGEdge).sl _ _ _) (wV (wD ((CFl CFGEdge).sl _ _ _) wk_none))))) heapWk0
  ·
   refine AWp.exit ?_
   refine exitSeq ?_
   refine exitThen ?_
   refine exitHere ?_
   refine normSeq ?_
   refine sr (N' := 192) rfl ?_
   refine pA ?_
   obtain ⟨r4, h3, hm⟩ := bnd hm
   refine ARun.callF (id := 129) Zd Z1 fb137 (fun H => (cV (cV .nil))) CFGEdge Z5 (slicesGrowEdge_f h3) ?_
   refine pA ?_
   refine fs ?_
   refine AWp.seq' ?_
   refine sr (N' := 256) rfl ?_
   iterate 3 refine pA ?_
   refine fs ?_
   refine AWp.block ?_
   refine AWp.loopM (fun m s => ∃ (newslice_6 : List GEdge) (t25 : List (List GEdge)) (t26 : Int) (t27 : Int), s = (⟨36, (fset (fset (fset (fset (fun _ => AV.any) 6 (.own 1 0 newslice_6.length)) 25 (.sl (t25.flatMap (csl cGEdge)) t25.length false)) 26 (.v (.int .i64 t26))) 27 (.v (.int .i64 t27))), ⟨(upd nofresh 1 (.cells 3 (newslice_6.flatMap cGEdge) 0)), 64⟩⟩ : St) ∧ slicesConcatEdge_L2 m newslice_6 t25 t26 t27 = some r) FUEL ?_ ?_ ?_
   ·
    rintro s ⟨_, _, _, _, _, h⟩
    cases h
   ·
    refine ⟨_, ?_, r4, slices_0, (slices_0.length : Int), 0, rfl, hm⟩
    exact le_canon (fun j => bif j == 1 then 129 else 0) (wV (wV (wD ((CFl CFGEdge).sl _ _ _) (wO wk_none)))) (hW (eU CFGEdge entWk_none))
   ·
    rintro n2 s ⟨newslice_6, t25, t26, t27, rfl, hm⟩
    replace hm : slicesConcatEdge_B2 (slicesConcatEdge_L2 n2) newslice_6 t25 t26 t27 = some r := hm
    unfold slicesConcatEdge_B2 at hm
    refine sr (N' := 128) rfl ?_
    refine pA ?_
    refine fs ?_
    refine AWp.seq' ?_
    refine AWp.condM hm Z1 (fun _ hm => ?_) (fun _ hm => ?_)
    ·
     refine AWp.skip ?_
     refine normSeq ?_
     refine AWp.seq' ?_
     refine AWp.block ?_
     refine sr (N' := 192) rfl ?_
     obtain ⟨x6, h5, hm⟩ := bnd hm
     refine pu rfl (ap_idx (CFl CFGEdge) Zd Try.underlying137 sz25 Z1 rfl Z1 h5) ?_
     iterate 2 refine pA ?_
     refine fs ?_
     refine AWp.reg 64 (N' := 256) rfl ?_
     iterate 2 refine pA ?_
     obtain ⟨l8, h7, hm⟩ := bnd hm
     refine hp (id := 194) rfl rfl (ah_app CFGEdge Try.underlying25 Try.underlying25 rfl in38 ts38 (by rw [tb38]; decide) (by rw [tb38]; decide) tz38 Zd Zd Z1 Z3 Z6 (as_sl CFGEdge Z1 rfl) rfl Z5 h7) ?_
     refine pA ?_
     refine ARun.fin ?_
     refine normIn ?_
     refine normSeq ?_
     refine AWp.reg 64 (N' := 320) rfl ?_
     iterate 2 refine pA ?_
     refine ARun.fin ?_
     refine normThen ?_
     refine ⟨_, ?_, l8, t25, t26, (IntKind.i64.wrap (t27 + 1)), rfl, hm⟩
     exact le_canon (fun j => bif j == 1 then 194 else 0) (wV (wV (wD ((CFl CFGEdge).sl _ _ _) (wO wk_none)))) (hW (eU CFGEdge entWk_none))
    ·
     refine AWp.exit ?_
     refine exitSeq ?_
     refine exitThen ?_
     refine exitHere ?_
     refine normSeq ?_
     refine sr (N' := 192) rfl ?_
     iterate 2 refine pA ?_
     refine fs ?_
     refine AWp.ret ?_
     cases hm
     exact ret1D (.inr rfl) Try.results123 (tdo CFGEdge Z1 Z3 Z6)
def tableRemove_m (n_0 : Int) (l_1 : List GEdge) (u_2 : Int) (v_3 : Int) : Option ((List GEdge) × Int) :=
 ((tableRight_m n_0 l_1).bind fun r2 =>
 ((gopt ((!r2) == false) false (tableVertex_m n_0 u_2)).bind fun r4 =>
 ((gopt (((!r2) || (!r4)) == false) false (tableVertex_m n_0 v_3)).bind fun r6 =>
 (bif (((!r2) || (!r4)) || (!r6)) then
  some (l_1, 1)
 else
  ((nameFind_m l_1 u_2 v_3).bind fun ⟨r8, r9⟩ =>
  (bif (!r9) then
   some (l_1, 9)
  else
   ((slc l_1 0 r8).bind fun l11 =>
   ((slc l_1 (IntKind.i64.wrap (r8 + 1)) (l_1.length : Int)).bind fun l13 =>
   ((slicesConcatEdge_m [l11, l13]).bind fun r15 =>
   some (r15, 0))))))))))
theorem tableRemove_c {n_0 : Int} {l_1 : List GEdge} {u_2 : Int} {v_3 : Int} {r : (List GEdge) × Int} (hm : tableRemove_m n_0 l_1 u_2 v_3 = some r) : PureC Try.prog 103 [.v (.int .i64 n_0), .sl (l_1.flatMap cGEdge) l_1.length false, .v (.int .i64 u_2), .v (.int .i64 v_3)] (.tup [.sl (r.1.flatMap cGEdge) r.1.length false, .v (.int .i64 r.2)]) := by
 refine PureC.of_body Try.func103 rfl ?_
 simp only [Try.ntmps103, List.length_cons, List.length_nil, Nat.reduceAdd, Nat.reduceSub, empty_eq]
 unfold tableRemove_m at hm
 refine sr (N' := 64) rfl ?_
 iterate 2 refine pA ?_
 refine fs ?_
 refine AWp.seq' ?_
 refine sr (N' := 128) rfl ?_
 iterate 2 refine pA ?_
 obtain ⟨r2, h1, hm⟩ := bnd hm
 refine ARun.callQ (r := .v (.bool r2)) Zd Z1 fb90 (fun H => (cV (cD (CFGEdge.sl _ _ _) .nil))) (tableRight_c h1) ?_
 iterate 4 first | refine pA ?_ | refine pB ?_
 obtain ⟨r4, h3, hm⟩ := bnd hm
 refine ARun.callQG (r := .v (.bool r4)) Zd rfl Z2 Z1 fb122 (fun hb H => (.cons (td (Zh hb) (.v _)) (.cons (td (Zh hb) (.v _)) .nil))) (fun hb => tableVertex_c (gopt_t h3 hb)) ?_
 iterate 5 first | refine pA ?_ | refine pB ?_
 obtain ⟨r6, h5, hm⟩ := bnd hm
 refine ARun.callQG (r := .v (.bool r6)) Zd rfl Z2 Z1 fb122 (fun hb H => (.cons (td (Zh hb) (.v _)) (.cons (td (Zh hb) (.v _)) .nil))) (fun hb => tableVertex_c (gopt_t h5 hb)) ?_
 iterate 2 first | refine pA ?_ | refine pB ?_
 refine fs ?_
 refine AWp.condM hm Z1 (fun _ hm => ?_) (fun _ hm => ?_)
 ·
  refine sr (N' := 192) rfl ?_
  iterate 3 refine pA ?_
  refine fs ?_
  refine AWp.ret ?_
  refine retSeq ?_
  cases hm
  exact ret2D (.inr rfl) Try.results103 (td Z1 (CFGEdge.sl _ _ _)) (td Z1 (.v _))
 ·
  refine AWp.skip ?_
  refine normSeq ?_
  refine sr (N' := 192) rfl ?_
  iterate 3 refine pA ?_
  obtain ⟨⟨r8, r9⟩, h7, hm⟩ := bnd hm
  refine ARun.callQ (r := .tup [.v (.int .i64 r8), .v (.bool r9)]) Zd Z1 fb89 (fun H => (cD (CFGEdge.sl _ _ _) (cV (cV .nil)))) (nameFind_c h7) ?_
  iterate 5 refine pA ?_
  refine fs ?_
  refine AWp.seq' ?_
  refine sr (N' := 256) rfl ?_
  iterate 2 refine pA ?_
  refine fs ?_
  refine AWp.condM hm Z1 (fun _ hm => ?_) (fun _ hm => ?_)
  ·
   refine sr (N' := 320) rfl ?_
   iterate 3 refine pA ?_
   refine fs ?_
   refine AWp.ret ?_
   refine retSeq ?_
   cases hm
   exact ret2D (.inr rfl) Try.results103 (td Z1 (CFGEdge.sl _ _ _)) (td Z1 (.v _))
  ·
   refine AWp.skip ?_
   refine normSeq ?_
   refine sd mix (by kernel_rfl) (N' := 320) rfl ?_
   iterate 2 refine pA ?_
   obtain ⟨l11, h10, hm⟩ := bnd hm
   refine pu rfl (ap_slc CFGEdge Try.underlying25 sz38 Z1 rfl ab_none0 (ab_some Z1 (slc_0 h10).2) h10) ?_
   iterate 3 refine pA ?_
   obtain ⟨l13, h12, hm⟩ := bnd hm
   refine pu rfl (ap_slc CFGEdge Try.underlying25 sz38 Z1 rfl (ab_some Z1 (slc_0 h12).1) (ab_none _) h12) ?_
   refine ARun.pop Zd (noOwn_parts (ps := [(0, .sl (l11.flatMap cGEdge) l11.length (false && (r8 : Int).toNat == l_1.length)), (1, .sl (l13.flatMap cGEdge) l13.length (false && ((l_1.length : Int) : Int).toNat == l_1.length))]) (by simp only [go_sem, Nat.reduceBEq]; try rfl) (dps_cons (CFGEdge.sl _ _ _) (dps_cons (CFGEdge.sl _ _ _) dps_nil))) (pop_list (CFl CFGEdge) (l := [l11, l13]) (xs := [.sl (l11.flatMap cGEdge) l11.length (false && (r8 : Int).toNat == l_1.length), .sl (l13.flatMap cGEdge) l13.length (false && ((l_1.length : Int) : Int).toNat == l_1.length)]) Try.underlying137 sz25 zc25 Zd Zd Zd (ps := [(0, .sl (l11.flatMap cGEdge) l11.length (false && (r8 : Int).toNat == l_1.length)), (1, .sl (l13.flatMap cGEdge) l13.length (false && ((l_1.length : Int) : Int).toNat == l_1.length))]) (by simp only [go_sem, Nat.reduceBEq]; try rfl) (by kernel_rfl) (fun H => (.cons (tdf rfl (CFGEdge.sl _ _ _)) (.cons (tdf rfl (CFGEdge.sl _ _ _)) .nil)))) rfl ?_
   obtain ⟨r15, h14, hm⟩ := bnd hm
   refine ARun.callQ (r := .sl (r15.flatMap cGEdge) r15.length false) Zd Z1 fb123 (fun H => (cD ((CFl CFGEdge).sl _ _ _) .nil)) (slicesConcatEdge_c h14) ?_
   iterate 2 refine pA ?_
   refine fs ?_
   refine AWp.ret ?_
   cases hm
   exact ret2D (.inr rfl) Try.results103 (td Z1 (CFGEdge.sl _ _ _)) (td Z1 (.v _))
def tiersDelete_m (g_0 : GGraph) (u_1 : Int) (v_2 : Int) : Option (GGraph × Int) :=
 ((tiersFits_m g_0 u_1 v_2).bind fun r2 =>
 (bif (!r2) then
  some (g_0, 1)
 else
  ((tableRemove_m g_0.Config.N g_0.Edges u_1 v_2).bind fun ⟨r4, r5⟩ =>
  (bif (r5 != 0) then
   some (g_0, r5)
  else
   ((tiersMended_m (GGraph.mk g_0.Config g_0.Hashes r4) u_1 v_2).bind fun r7 =>
   some (r7, 0))))))
theorem tiersDelete_c {g_0 : GGraph} {u_1 : Int} {v_2 : Int} {r : GGraph × Int} (hm : tiersDelete_m g_0 u_1 v_2 = some r) : PureC Try.prog 68 [.agg [.v (.int .i64 g_0.Config.N), .v (.int .i64 g_0.Config.L), .v (.int .i64 g_0.Config.R), .sl (g_0.Hashes.flatMap cGHash) g_0.Hashes.length false, .sl (g_0.Edges.flatMap cGEdge) g_0.Edges.length false], .v (.int .i64 u_1), .v (.int .i64 v_2)] (.tup [.agg [.v (.int .i64 r.1.Config.N), .v (.int .i64 r.1.Config.L), .v (.int .i64 r.1.Config.R), .sl (r.1.Hashes.flatMap cGHash) r.1.Hashes.length false, .sl (r.1.Edges.flatMap cGEdge) r.1.Edges.length false], .v (.int .i64 r.2)]) := by
 refine PureC.of_body Try.func68 rfl ?_
 simp only [Try.ntmps68, List.length_cons, List.length_nil, Nat.reduceAdd, Nat.reduceSub, empty_eq]
 unfold tiersDelete_m at hm
 refine sr (N' := 64) rfl ?_
 refine hp (id := 0) rfl rfl (aheap_box Z1 Z5) ?_
 refine hp (id := 1) rfl rfl (aheap_alloc' zc27 Z5) ?_
 refine pA ?_
 refine fs ?_
 refine AWp.seq' ?_
 refine sr (N' := 128) rfl ?_
 refine pu rfl (ap_ldv Z1 Z3 Z2) ?_
 iterate 2 refine pA ?_
 obtain ⟨r2, h1, hm⟩ := bnd hm
 refine ARun.callQ (r := .v (.bool r2)) Zd Z1 fb100 (fun H => (cD (.agg _ (CFGGraph.dat _)) (cV (cV .nil)))) (tiersFits_c h1) ?_
 refine pA ?_
 refine fs ?_
 refine AWp.condM hm Z1 (fun _ hm => ?_) (fun _ hm => ?_)
 ·
  refine sr (N' := 192) rfl ?_
  refine pu rfl (ap_ldv Z1 Z3 Z2) ?_
  refine ARun.heap0 (id := 129) rfl (ah_var (ys := [.v (.int .i64 g_0.Config.N), .v (.int .i64 g_0.Config.L), .v (.int .i64 g_0.Config.R), .sl (g_0.Hashes.flatMap cGHash) g_0.Hashes.length false, .sl (g_0.Edges.flatMap cGEdge) g_0.Edges.length false]) sz27 Z1 Z1 Z3 rfl (Nat.le_of_ble_eq_true rfl) Z9 rfl) ?_
  refine pA ?_
  refine fs ?_
  refine AWp.ret ?_
  refine retSeq ?_
  cases hm
  exact retL (.inr rfl) (by rw [Try.results68]) (.cell (ap_ldv' Z1 Z3 Z2) (.tmp Z1 .nil)) rfl (tdt (.cons (td rfl (.agg _ (CFGGraph.dat _))) (.cons (td rfl (.v _)) .nil)))
 ·
  refine AWp.skip ?_
  refine normSeq ?_
  refine sr (N' := 192) rfl ?_
  iterate 2 refine pA ?_
  refine pu rfl (ap_ldv Z1 Z3 Z4) ?_
  refine pA ?_
  refine pu rfl (ap_ldv Z1 Z3 Z4) ?_
  iterate 2 refine pA ?_
  obtain ⟨⟨r4, r5⟩, h3, hm⟩ := bnd hm
  refine ARun.callQ (r := .tup [.sl (r4.flatMap cGEdge) r4.length false, .v (.int .i64 r5)]) Zd Z1 fb103 (fun H => (cV (cD (CFGEdge.sl _ _ _) (cV (cV .nil))))) (tableRemove_c h3) ?_
  iterate 5 refine pA ?_
  refine fs ?_
  refine AWp.seq' ?_
  refine sr (N' := 256) rfl ?_
  iterate 2 refine pA ?_
  refine fs ?_
  refine AWp.condM hm Z1 (fun _ hm => ?_) (fun _ hm => ?_)
  ·
   refine sr (N' := 320) rfl ?_
   refine pu rfl (ap_ldv Z1 Z3 Z2) ?_
   refine pA ?_
   refine ARun.heap0 (id := 258) rfl (ah_var (ys := [.v (.int .i64 g_0.Config.N), .v (.int .i64 g_0.Config.L), .v (.int .i64 g_0.Config.R), .sl (g_0.Hashes.flatMap cGHash) g_0.Hashes.length false, .sl (g_0.Edges.flatMap cGEdge) g_0.Edges.length false]) sz27 Z1 Z1 Z3 rfl (Nat.le_of_ble_eq_true rfl) Z9 rfl) ?_
   refine pA ?_
   refine fs ?_
   refine AWp.ret ?_
   refine retSeq ?_
   cases hm
   exact retL (.inr rfl) (by rw [Try.results68]) (.cell (ap_ldv' Z1 Z3 Z2) (.tmp Z1 .nil)) rfl (tdt (.cons (td rfl (.agg _ (CFGGraph.dat _))) (.cons (td rfl (.v _)) .nil)))
  ·
   refine AWp.skip ?_
   refine normSeq ?_
   refine sr (N' := 320) rfl ?_
   iterate 2 refine pA ?_
   refine ARun.heap0 (id := 258) rfl (ah_var (ys := [.v (.int .i64 g_0.Config.N), .v (.int .i64 g_0.Config.L), .v (.int .i64 g_0.Config.R), .sl (g_0.Hashes.flatMap cGHash) g_0.Hashes.length false, .sl (r4.flatMap cGEdge) r4.length false]) sz25 Z1 Z1 Z3 rfl (Nat.le_of_ble_eq_true rfl) Z9 rfl) ?_
   refine fs ?_
   refine sr (N' := 384) rfl ?_
   refine pu rfl (ap_ldv Z1 Z3 Z2) ?_
   iterate 2 refine pA ?_
   obtain ⟨r7, h6, hm⟩ := bnd hm
   refine ARun.callQ (r := .agg [.v (.int .i64 r7.Config.N), .v (.int .i64 r7.Config.L), .v (.int .i64 r7.Config.R), .sl (r7.Hashes.flatMap cGHash) r7.Hashes.length false, .sl (r7.Edges.flatMap cGEdge) r7.Edges.length false]) Zd Z1 fb101 (fun H => (.cons (td Z1 (.agg _ (CFGGraph.dat (GGraph.mk g_0.Config g_0.Hashes r4)))) (cV (cV .nil)))) (tiersMended_c h6) ?_
   refine ARun.heap0 (id := 324) rfl (ah_var (ys := [.v (.int .i64 r7.Config.N), .v (.int .i64 r7.Config.L), .v (.int .i64 r7.Config.R), .sl (r7.Hashes.flatMap cGHash) r7.Hashes.length false, .sl (r7.Edges.flatMap cGEdge) r7.Edges.length false]) sz27 Z1 Z1 Z3 rfl (Nat.le_of_ble_eq_true rfl) Z9 rfl) ?_
   refine pA ?_
   refine fs ?_
   refine AWp.ret ?_
   cases hm
   exact retL (.inr rfl) (by rw [Try.results68]) (.cell (ap_ldv' Z1 Z3 Z2) (.tmp Z1 .nil)) rfl (tdt (.cons (td rfl (.agg _ (CFGGraph.dat _))) (.cons (td rfl (.v _)) .nil)))
def tableAdd_B1 (rec1 : List GEdge → GEdge → Int → Option ((List GEdge) × Int)) (l_1 : List GEdge) (added_12 : GEdge) (place_13 : Int) : Option ((List GEdge) × Int) :=
 ((gopt ((decide (place_13 < (l_1.length : Int))) == true) (GEdge.mk 0 0 0) (idx l_1 place_13)).bind fun x11 =>
 ((gopt ((decide (place_13 < (l_1.length : Int))) == true) false (nameLess_m x11 added_12)).bind fun r13 =>
 (bif ((decide (place_13 < (l_1.length : Int))) && r13) then
  rec1 l_1 added_12 (IntKind.i64.wrap (place_13 + 1))
 else
  ((slc l_1 0 place_13).bind fun l15 =>
  ((slc l_1 place_13 (l_1.length : Int)).bind fun l17 =>
  ((slicesConcatEdge_m [l15, [added_12], l17]).bind fun r19 =>
  some (r19, 0)))))))
def tableAdd_L1 : Nat → List GEdge → GEdge → Int → Option ((List GEdge) × Int)
 | 0 => fun _ _ _ => none
 | n + 1 => tableAdd_B1 (tableAdd_L1 n)
def tableAdd_m (n_0 : Int) (l_1 : List GEdge) (u_2 : Int) (v_3 : Int) : Option ((List GEdge) × Int) :=
 ((tableRight_m n_0 l_1).bind fun r2 =>
 ((gopt ((!r2) == false) false (tableVertex_m n_0 u_2)).bind fun r4 =>
 ((gopt (((!r2) || (!r4)) == false) false (tableVertex_m n_0 v_3)).bind fun r6 =>
 (bif (((!r2) || (!r4)) || (!r6)) then
  some (l_1, 1)
 else
  (bif (u_2 == v_3) then
   some (l_1, 8)
  else
   ((nameFind_m l_1 u_2 v_3).bind fun ⟨r8, r9⟩ =>
   (bif r9 then
    some (l_1, 4)
   else
    tableAdd_L1 FUEL l_1 (GEdge.mk (if v_3 < u_2 then v_3 else u_2) (if u_2 < v_3 then v_3 else u_2) 0) 0)))))))
theorem tableAdd_c {n_0 : Int} {l_1 : List GEdge} {u_2 : Int} {v_3 : Int} {r : (List GEdge) × Int} (hm : tableAdd_m n_0 l_1 u_2 v_3 = some r) : PureC Try.prog 104 [.v (.int .i64 n_0), .sl (l_1.flatMap cGEdge) l_1.length false, .v (.int .i64 u_2), .v (.int .i64 v_3)] (.tup [.sl (r.1.flatMap cGEdge) r.1.length false, .v (.int .i64 r.2)]) := by
 refine PureC.of_body Try.func104 rfl ?_
 simp only [Try.ntmps104, List.length_cons, List.length_nil, Nat.reduceAdd, Nat.reduceSub, empty_eq]
 unfold tableAdd_m at hm
 refine sr (N' := 64) rfl ?_
 iterate 2 refine pA ?_
 refine fs ?_
 refine AWp.seq' ?_
 refine sr (N' := 128) rfl ?_
 iterate 2 refine pA ?_
 obtain ⟨r2, h1, hm⟩ := bnd hm
 refine ARun.callQ (r := .v (.bool r2)) Zd Z1 fb90 (fun H => (cV (cD (CFGEdge.sl _ _ _) .nil))) (tableRight_c h1) ?_
 iterate 4 first | refine pA ?_ | refine pB ?_
 obtain ⟨r4, h3, hm⟩ := bnd hm
 refine ARun.callQG (r := .v (.bool r4)) Zd rfl Z2 Z1 fb122 (fun hb H => (.cons (td (Zh hb) (.v _)) (.cons (td (Zh hb) (.v _)) .nil))) (fun hb => tableVertex_c (gopt_t h3 hb)) ?_
 iterate 5 first | refine pA ?_ | refine pB ?_
 obtain ⟨r6, h5, hm⟩ := bnd hm
 refine ARun.callQG (r := .v (.bool r6)) Zd rfl Z2 Z1 fb122 (fun hb H => (.cons (td (Zh hb) (.v _)) (.cons (td (Zh hb) (.v _)) .nil))) (fun hb => tableVertex_c (gopt_t h5 hb)) ?_
 iterate 2 first | refine pA ?_ | refine pB ?_
 refine fs ?_
 refine AWp.condM hm Z1 (fun _ hm => ?_) (fun _ hm => ?_)
 ·
  refine sr (N' := 192) rfl ?_
  iterate 3 refine pA ?_
  refine fs ?_
  refine AWp.ret ?_
  refine retSeq ?_
  cases hm
  exact ret2D (.inr rfl) Try.results104 (td Z1 (CFGEdge.sl _ _ _)) (td Z1 (.v _))
 ·
  refine AWp.skip ?_
  refine normSeq ?_
  refine AWp.seq' ?_
  refine sr (N' := 192) rfl ?_
  iterate 3 refine pA ?_
  refine fs ?_
  refine AWp.condM hm Z1 (fun _ hm => ?_) (fun _ hm => ?_)
  ·
   refine sr (N' := 256) rfl ?_
   iterate 3 refine pA ?_
   refine fs ?_
   refine AWp.ret ?_
   refine retSeq ?_
   cases hm
   exact ret2D (.inr rfl) Try.results104 (td Z1 (CFGEdge.sl _ _ _)) (td Z1 (.v _))
  ·
   refine AWp.skip ?_
   refine normSeq ?_
   refine AWp.seq' ?_
   refine sr (N' := 256) rfl ?_
   iterate 3 refine pA ?_
   obtain ⟨⟨r8, r9⟩, h7, hm⟩ := bnd hm
   refine ARun.callQ (r := .tup [.v (.int .i64 r8), .v (.bool r9)]) Zd Z1 fb89 (fun H => (cD (CFGEdge.sl _ _ _) (cV (cV .nil)))) (nameFind_c h7) ?_
   iterate 5 refine pA ?_
   refine fs ?_
   refine sr (N' := 320) rfl ?_
   refine pA ?_
   refine fs ?_
   refine AWp.condM hm Z1 (fun _ hm => ?_) (fun _ hm => ?_)
   ·
    refine sr (N' := 384) rfl ?_
    iterate 3 refine pA ?_
    refine fs ?_
    refine AWp.ret ?_
    refine retSeq ?_
    cases hm
    exact ret2D (.inr rfl) Try.results104 (td Z1 (CFGEdge.sl _ _ _)) (td Z1 (.v _))
   ·
    refine AWp.skip ?_
    refine normSeq ?_
    refine sr (N' := 384) rfl ?_
    iterate 6 refine pA ?_
    refine pu rfl (by simp only [go_sem, Nat.reduceBEq]; exact (by kernel_rfl : abuild Try.prog 38 [(0, .v (.int .i64 (if v_3 < u_2 then v_3 else u_2))), (1, .v (.int .i64 (if u_2 < v_3 then v_3 else u_2)))] = some (.agg [.v (.int .i64 (if v_3 < u_2 then v_3 else u_2)), .v (.int .i64 (if u_2 < v_3 then v_3 else u_2)), .v (.int .i64 0)]))) ?_
    refine hp (id := 327) rfl rfl (aheap_alloc' zc38 Z5) ?_
    refine ARun.heap0 (id := 328) rfl (ah_var (ys := [.v (.int .i64 (if v_3 < u_2 then v_3 else u_2)), .v (.int .i64 (if u_2 < v_3 then v_3 else u_2)), .v (.int .i64 0)]) sz38 Z1 Z1 Z3 rfl (Nat.le_of_ble_eq_true rfl) Z9 rfl) ?_
    refine fs ?_
    refine sr (N' := 448) rfl ?_
    refine pA ?_
    refine fs ?_
    refine AWp.seq' ?_
    refine AWp.block ?_
    refine AWp.loopM (fun m s => ∃ (l_1 : List GEdge) (added_12 : GEdge) (place_13 : Int), s = (⟨75, (fset (fset (fset (fun _ => AV.any) 1 (.sl (l_1.flatMap cGEdge) l_1.length false)) 12 (.adr 1 0)) 13 (.v (.int .i64 place_13))), ⟨(upd nofresh 1 (.cells 1 [.v (.int .i64 added_12.U), .v (.int .i64 added_12.V), .v (.int .i64 added_12.Tier)] 0)), 64⟩⟩ : St) ∧ tableAdd_L1 m l_1 added_12 place_13 = some r) FUEL ?_ ?_ ?_
    ·
     rintro s ⟨_, _, _, _, h⟩
     cases h
    ·
     refine ⟨_, ?_, l_1, (GEdge.mk (if v_3 < u_2 then v_3 else u_2) (if u_2 < v_3 then v_3 else u_2) 0), 0, rfl, hm⟩
     exact le_canon (fun j => bif j == 1 then 327 else 0) (wV (wk_fset _ _ (wk_adr Z1 rfl Z7) (wD (CFGEdge.sl _ _ _) wk_none))) (heapWk_of _ (entWk_upd (entWk_data Z3 (Nat.le_refl _) (Nat.zero_le _) (CFGEdge.dat (GEdge.mk (if v_3 < u_2 then v_3 else u_2) (if u_2 < v_3 then v_3 else u_2) 0))) entWk_none) Z8)
    ·
     rintro n1 s ⟨l_1, added_12, place_13, rfl, hm⟩
     replace hm : tableAdd_B1 (tableAdd_L1 n1) l_1 added_12 place_13 = some r := hm
     unfold tableAdd_B1 at hm
     refine AWp.seq' ?_
     refine sd mix (by kernel_rfl) (N' := 128) rfl ?_
     iterate 7 first | refine pA ?_ | refine pB ?_
     obtain ⟨x11, h10, hm⟩ := bnd hm
     refine pg rfl rfl Z2 (fun hb => (ap_idx CFGEdge Zd Try.underlying25 sz38 (Zh hb) rfl (Zh hb) (gopt_t h10 hb))) ?_
     refine pB ?_
     refine pg rfl rfl Z2 (fun hb => (ap_ldv (Zh hb) Z3 Z2)) ?_
     obtain ⟨r13, h12, hm⟩ := bnd hm
     refine ARun.callQG (r := .v (.bool r13)) Zd rfl Z2 Z1 fb118 (fun hb H => (.cons (td (Zh hb) (.agg _ (CFGEdge.dat _))) (.cons (td (Zh hb) (.agg _ (CFGEdge.dat _))) .nil))) (fun hb => nameLess_c (gopt_t h12 hb)) ?_
     refine pA ?_
     refine fs ?_
     refine AWp.condM hm Z1 (fun _ hm => ?_) (fun _ hm => ?_)
     ·
      refine AWp.skip ?_
      refine normSeq ?_
      refine AWp.block ?_
      refine AWp.reg 64 (N' := 192) rfl ?_
      iterate 3 refine pA ?_
      refine ARun.fin ?_
      refine normIn ?_
      refine normThen ?_
      refine ⟨_, ?_, l_1, added_12, (IntKind.i64.wrap (place_13 + 1)), rfl, hm⟩
      exact le_canon (fun j => bif j == 1 then 1 else 0) (wV (wk_fset _ _ (wk_adr Z1 rfl Z7) (wD (CFGEdge.sl _ _ _) wk_none))) (hW (entWk_upd (entWk_data Z3 (Nat.le_refl _) (Nat.zero_le _) (CFGEdge.dat added_12)) entWk_none))
     ·
      refine AWp.exit ?_
      refine exitSeq ?_
      refine exitThen ?_
      refine exitHere ?_
      refine normSeq ?_
      refine sd mix (by kernel_rfl) (N' := 192) rfl ?_
      iterate 2 refine pA ?_
      obtain ⟨l15, h14, hm⟩ := bnd hm
      refine pu rfl (ap_slc CFGEdge Try.underlying25 sz38 Z1 rfl ab_none0 (ab_some Z1 (slc_0 h14).2) h14) ?_
      refine pu rfl (ap_ldv Z1 Z3 Z2) ?_
      refine ARun.pop Zd (noOwn_parts (ps := [(0, .agg [.v (.int .i64 added_12.U), .v (.int .i64 added_12.V), .v (.int .i64 added_12.Tier)])]) (by simp only [go_sem, Nat.reduceBEq]; try rfl) (dps_cons (.agg _ (CFGEdge.dat added_12)) dps_nil)) (pop_list CFGEdge (l := [added_12]) (xs := [.v (.int .i64 added_12.U), .v (.int .i64 added_12.V), .v (.int .i64 added_12.Tier)]) Try.underlying25 sz38 zc38 Zd Zd Zd (ps := [(0, .agg [.v (.int .i64 added_12.U), .v (.int .i64 added_12.V), .v (.int .i64 added_12.Tier)])]) (by simp only [go_sem, Nat.reduceBEq]; try rfl) (by kernel_rfl) (fun H => (.cons (.data _ (.v _)) (.cons (.data _ (.v _)) (.cons (.data _ (.v _)) .nil))))) rfl ?_
      iterate 2 refine pA ?_
      obtain ⟨l17, h16, hm⟩ := bnd hm
      refine pu rfl (ap_slc CFGEdge Try.underlying25 sz38 Z1 rfl (ab_some Z1 (slc_0 h16).1) (ab_none _) h16) ?_
      refine ARun.pop Zd (noOwn_parts (ps := [(0, .sl (l15.flatMap cGEdge) l15.length (false && (place_13 : Int).toNat == l_1.length)), (1, .sl (([added_12]).flatMap cGEdge) ([added_12]).length false), (2, .sl (l17.flatMap cGEdge) l17.length (false && ((l_1.length : Int) : Int).toNat == l_1.length))]) (by simp only [go_sem, Nat.reduceBEq]; try rfl) (dps_cons (CFGEdge.sl _ _ _) (dps_cons (CFGEdge.sl _ _ _) (dps_cons (CFGEdge.sl _ _ _) dps_nil)))) (pop_list (CFl CFGEdge) (l := [l15, [added_12], l17]) (xs := [.sl (l15.flatMap cGEdge) l15.length (false && (place_13 : Int).toNat == l_1.length), .sl (([added_12]).flatMap cGEdge) ([added_12]).length false, .sl (l17.flatMap cGEdge) l17.length (false && ((l_1.length : Int) : Int).toNat == l_1.length)]) Try.underlying137 sz25 zc25 Zd Zd Zd (ps := [(0, .sl (l15.flatMap cGEdge) l15.length (false && (place_13 : Int).toNat == l_1.length)), (1, .sl (([added_12]).flatMap cGEdge) ([added_12]).length false), (2, .sl (l17.flatMap cGEdge) l17.length (false && ((l_1.length : Int) : Int).toNat == l_1.length))]) (by simp only [go_sem, Nat.reduceBEq]; try rfl) (by kernel_rfl) (fun H => (.cons (tdf rfl (CFGEdge.sl _ _ _)) (.cons (.data _ (CFGEdge.sl _ _ _)) (.cons (tdf rfl (CFGEdge.sl _ _ _)) .nil))))) rfl ?_
      obtain ⟨r19, h18, hm⟩ := bnd hm
      refine ARun.callQ (r := .sl (r19.flatMap cGEdge) r19.length false) Zd Z1 fb123 (fun H => (cD ((CFl CFGEdge).sl _ _ _) .nil)) (slicesConcatEdge_c h18) ?_
      iterate 2 refine pA ?_
      refine fs ?_
      refine AWp.ret ?_
      cases hm
      exact ret2D (.inr rfl) Try.results104 (td Z1 (CFGEdge.sl _ _ _)) (td Z1 (.v _))
def tiersInsert_m (g_0 : GGraph) (u_1 : Int) (v_2 : Int) : Option (GGraph × Int) :=
 ((tiersFits_m g_0 u_1 v_2).bind fun r2 =>
 (bif (!r2) then
  some (g_0, 1)
 else
  ((tableAdd_m g_0.Config.N g_0.Edges u_1 v_2).bind fun ⟨r4, r5⟩ =>
  (bif (r5 != 0) then
   some (g_0, r5)
  else
   ((tiersMended_m (GGraph.mk g_0.Config g_0.Hashes r4) u_1 v_2).bind fun r7 =>
   some (r7, 0))))))
theorem tiersInsert_c {g_0 : GGraph} {u_1 : Int} {v_2 : Int} {r : GGraph × Int} (hm : tiersInsert_m g_0 u_1 v_2 = some r) : PureC Try.prog 69 [.agg [.v (.int .i64 g_0.Config.N), .v (.int .i64 g_0.Config.L), .v (.int .i64 g_0.Config.R), .sl (g_0.Hashes.flatMap cGHash) g_0.Hashes.length false, .sl (g_0.Edges.flatMap cGEdge) g_0.Edges.length false], .v (.int .i64 u_1), .v (.int .i64 v_2)] (.tup [.agg [.v (.int .i64 r.1.Config.N), .v (.int .i64 r.1.Config.L), .v (.int .i64 r.1.Config.R), .sl (r.1.Hashes.flatMap cGHash) r.1.Hashes.length false, .sl (r.1.Edges.flatMap cGEdge) r.1.Edges.length false], .v (.int .i64 r.2)]) := by
 refine PureC.of_body Try.func69 rfl ?_
 simp only [Try.ntmps69, List.length_cons, List.length_nil, Nat.reduceAdd, Nat.reduceSub, empty_eq]
 unfold tiersInsert_m at hm
 refine sr (N' := 64) rfl ?_
 refine hp (id := 0) rfl rfl (aheap_box Z1 Z5) ?_
 refine hp (id := 1) rfl rfl (aheap_alloc' zc27 Z5) ?_
 refine pA ?_
 refine fs ?_
 refine AWp.seq' ?_
 refine sr (N' := 128) rfl ?_
 refine pu rfl (ap_ldv Z1 Z3 Z2) ?_
 iterate 2 refine pA ?_
 obtain ⟨r2, h1, hm⟩ := bnd hm
 refine ARun.callQ (r := .v (.bool r2)) Zd Z1 fb100 (fun H => (cD (.agg _ (CFGGraph.dat _)) (cV (cV .nil)))) (tiersFits_c h1) ?_
 refine pA ?_
 refine fs ?_
 refine AWp.condM hm Z1 (fun _ hm => ?_) (fun _ hm => ?_)
 ·
  refine sr (N' := 192) rfl ?_
  refine pu rfl (ap_ldv Z1 Z3 Z2) ?_
  refine ARun.heap0 (id := 129) rfl (ah_var (ys := [.v (.int .i64 g_0.Config.N), .v (.int .i64 g_0.Config.L), .v (.int .i64 g_0.Config.R), .sl (g_0.Hashes.flatMap cGHash) g_0.Hashes.length false, .sl (g_0.Edges.flatMap cGEdge) g_0.Edges.length false]) sz27 Z1 Z1 Z3 rfl (Nat.le_of_ble_eq_true rfl) Z9 rfl) ?_
  refine pA ?_
  refine fs ?_
  refine AWp.ret ?_
  refine retSeq ?_
  cases hm
  exact retL (.inr rfl) (by rw [Try.results69]) (.cell (ap_ldv' Z1 Z3 Z2) (.tmp Z1 .nil)) rfl (tdt (.cons (td rfl (.agg _ (CFGGraph.dat _))) (.cons (td rfl (.v _)) .nil)))
 ·
  refine AWp.skip ?_
  refine normSeq ?_
  refine sr (N' := 192) rfl ?_
  iterate 2 refine pA ?_
  refine pu rfl (ap_ldv Z1 Z3 Z4) ?_
  refine pA ?_
  refine pu rfl (ap_ldv Z1 Z3 Z4) ?_
  iterate 2 refine pA ?_
  obtain ⟨⟨r4, r5⟩, h3, hm⟩ := bnd hm
  refine ARun.callQ (r := .tup [.sl (r4.flatMap cGEdge) r4.length false, .v (.int .i64 r5)]) Zd Z1 fb104 (fun H => (cV (cD (CFGEdge.sl _ _ _) (cV (cV .nil))))) (tableAdd_c h3) ?_
  iterate 5 refine pA ?_
  refine fs ?_
  refine AWp.seq' ?_
  refine sr (N' := 256) rfl ?_
  iterate 2 refine pA ?_
  refine fs ?_
  refine AWp.condM hm Z1 (fun _ hm => ?_) (fun _ hm => ?_)
  ·
   refine sr (N' := 320) rfl ?_
   refine pu rfl (ap_ldv Z1 Z3 Z2) ?_
   refine pA ?_
   refine ARun.heap0 (id := 258) rfl (ah_var (ys := [.v (.int .i64 g_0.Config.N), .v (.int .i64 g_0.Config.L), .v (.int .i64 g_0.Config.R), .sl (g_0.Hashes.flatMap cGHash) g_0.Hashes.length false, .sl (g_0.Edges.flatMap cGEdge) g_0.Edges.length false]) sz27 Z1 Z1 Z3 rfl (Nat.le_of_ble_eq_true rfl) Z9 rfl) ?_
   refine pA ?_
   refine fs ?_
   refine AWp.ret ?_
   refine retSeq ?_
   cases hm
   exact retL (.inr rfl) (by rw [Try.results69]) (.cell (ap_ldv' Z1 Z3 Z2) (.tmp Z1 .nil)) rfl (tdt (.cons (td rfl (.agg _ (CFGGraph.dat _))) (.cons (td rfl (.v _)) .nil)))
  ·
   refine AWp.skip ?_
   refine normSeq ?_
   refine sr (N' := 320) rfl ?_
   iterate 2 refine pA ?_
   refine ARun.heap0 (id := 258) rfl (ah_var (ys := [.v (.int .i64 g_0.Config.N), .v (.int .i64 g_0.Config.L), .v (.int .i64 g_0.Config.R), .sl (g_0.Hashes.flatMap cGHash) g_0.Hashes.length false, .sl (r4.flatMap cGEdge) r4.length false]) sz25 Z1 Z1 Z3 rfl (Nat.le_of_ble_eq_true rfl) Z9 rfl) ?_
   refine fs ?_
   refine sr (N' := 384) rfl ?_
   refine pu rfl (ap_ldv Z1 Z3 Z2) ?_
   iterate 2 refine pA ?_
   obtain ⟨r7, h6, hm⟩ := bnd hm
   refine ARun.callQ (r := .agg [.v (.int .i64 r7.Config.N), .v (.int .i64 r7.Config.L), .v (.int .i64 r7.Config.R), .sl (r7.Hashes.flatMap cGHash) r7.Hashes.length false, .sl (r7.Edges.flatMap cGEdge) r7.Edges.length false]) Zd Z1 fb101 (fun H => (.cons (td Z1 (.agg _ (CFGGraph.dat (GGraph.mk g_0.Config g_0.Hashes r4)))) (cV (cV .nil)))) (tiersMended_c h6) ?_
   refine ARun.heap0 (id := 324) rfl (ah_var (ys := [.v (.int .i64 r7.Config.N), .v (.int .i64 r7.Config.L), .v (.int .i64 r7.Config.R), .sl (r7.Hashes.flatMap cGHash) r7.Hashes.length false, .sl (r7.Edges.flatMap cGEdge) r7.Edges.length false]) sz27 Z1 Z1 Z3 rfl (Nat.le_of_ble_eq_true rfl) Z9 rfl) ?_
   refine pA ?_
   refine fs ?_
   refine AWp.ret ?_
   cases hm
   exact retL (.inr rfl) (by rw [Try.results69]) (.cell (ap_ldv' Z1 Z3 Z2) (.tmp Z1 .nil)) rfl (tdt (.cons (td rfl (.agg _ (CFGGraph.dat _))) (.cons (td rfl (.v _)) .nil)))
def law15Awake_m : Option (Bool) :=
 ((tiersNew_m (GConfig.mk 3 2 1) [(GHash.mk 1 0), (GHash.mk 2 0)]).bind fun ⟨r2, r3⟩ =>
 ((tiersInsert_m r2 2 0).bind fun ⟨r5, r6⟩ =>
 ((tiersInsert_m r5 0 1).bind fun ⟨r8, r9⟩ =>
 ((tiersDelete_m r8 0 2).bind fun ⟨r11, r12⟩ =>
 ((tiersInsert_m r11 1 0).bind fun ⟨r14, r15⟩ =>
 ((tiersDelete_m r11 1 2).bind fun ⟨r17, r18⟩ =>
 ((tiersNew_m (GConfig.mk 3 2 1) []).bind fun ⟨r20, r21⟩ =>
 (bif ((r3 == 0) && (r6 == 0)) then
  ((ref03Same_m r5.Edges [(GEdge.mk 0 2 1)]).bind fun r24 =>
  ((gopt ((((((r24 && (r9 == 0)) && (r12 == 0)) && (r15 == 4)) && (r18 == 9)) && (r21 == 1)) == true) [] (tiersKept_m r11)).bind fun r26 =>
  (bif (((((r24 && (r9 == 0)) && (r12 == 0)) && (r15 == 4)) && (r18 == 9)) && (r21 == 1)) then
   ((ref06Same_m r26 [0, 0, 2]).bind fun r29 =>
   some r29)
  else
   some false)))
 else
  some false))))))))
theorem law15Awake_c {r : Bool} (hm : law15Awake_m = some r) : PureC Try.prog 67 [] (.v (.bool r)) := by
 refine PureC.of_body Try.func67 rfl ?_
 simp only [Try.ntmps67, List.length_cons, List.length_nil, Nat.reduceAdd, Nat.reduceSub, empty_eq]
 unfold law15Awake_m at hm
 refine sr (N' := 64) rfl ?_
 refine pA ?_
 refine fs ?_
 refine sr (N' := 128) rfl ?_
 refine pu rfl (by simp only [go_sem, Nat.reduceBEq]; exact (by kernel_rfl : abuild Try.prog 23 [(0, .v (.int .i64 3)), (1, .v (.int .i64 2)), (2, .v (.int .i64 1))] = some (.agg [.v (.int .i64 3), .v (.int .i64 2), .v (.int .i64 1)]))) ?_
 refine pu rfl (by simp only [go_sem, Nat.reduceBEq]; exact (by kernel_rfl : abuild Try.prog 53 [(0, .v (.int .u64 1)), (1, .v (.int .u64 0))] = some (.agg [.v (.int .u64 1), .v (.int .u64 0)]))) ?_
 refine pu rfl (by simp only [go_sem, Nat.reduceBEq]; exact (by kernel_rfl : abuild Try.prog 53 [(0, .v (.int .u64 2)), (1, .v (.int .u64 0))] = some (.agg [.v (.int .u64 2), .v (.int .u64 0)]))) ?_
 refine hp (id := 67) rfl rfl (ah_list CFGHash (l := [(GHash.mk 1 0), (GHash.mk 2 0)]) Try.underlying24 sz53 zc53 Z5 Zd Zd Zd (by simp only [go_sem, Nat.reduceBEq]; try rfl) (by kernel_rfl)) ?_
 obtain ⟨⟨r2, r3⟩, h1, hm⟩ := bnd hm
 refine ARun.callL1 (r := .tup [.agg [.v (.int .i64 r2.Config.N), .v (.int .i64 r2.Config.L), .v (.int .i64 r2.Config.R), .sl (r2.Hashes.flatMap cGHash) r2.Hashes.length false, .sl (r2.Edges.flatMap cGEdge) r2.Edges.length false], .v (.int .i64 r3)]) (id := 67) Zd Z1 fb66 Z3 (.cons (td Z1 (.agg _ (CFGConfig.dat (GConfig.mk 3 2 1)))) (.cons (tdl CFGHash Z1 Z3 (by simp) Z6) .nil)) (tiersNew_c h1) ?_
 iterate 3 refine pA ?_
 refine hp (id := 72) rfl rfl (aheap_alloc' zc27 Z5) ?_
 refine ARun.heap0 (id := 73) rfl (ah_var (ys := [.v (.int .i64 r2.Config.N), .v (.int .i64 r2.Config.L), .v (.int .i64 r2.Config.R), .sl (r2.Hashes.flatMap cGHash) r2.Hashes.length false, .sl (r2.Edges.flatMap cGEdge) r2.Edges.length false]) sz27 Z1 Z1 Z3 rfl (Nat.le_of_ble_eq_true rfl) Z9 rfl) ?_
 refine pA ?_
 refine fs ?_
 refine sr (N' := 192) rfl ?_
 refine pu rfl (ap_ldv Z1 Z3 Z2) ?_
 obtain ⟨⟨r5, r6⟩, h4, hm⟩ := bnd hm
 refine ARun.callQ (r := .tup [.agg [.v (.int .i64 r5.Config.N), .v (.int .i64 r5.Config.L), .v (.int .i64 r5.Config.R), .sl (r5.Hashes.flatMap cGHash) r5.Hashes.length false, .sl (r5.Edges.flatMap cGEdge) r5.Edges.length false], .v (.int .i64 r6)]) Zd Z1 fb69 (fun H => (cD (.agg _ (CFGGraph.dat _)) (cV (cV .nil)))) (tiersInsert_c h4) ?_
 iterate 3 refine pA ?_
 refine hp (id := 133) rfl rfl (aheap_alloc' zc27 Z5) ?_
 refine ARun.heap0 (id := 134) rfl (ah_var (ys := [.v (.int .i64 r5.Config.N), .v (.int .i64 r5.Config.L), .v (.int .i64 r5.Config.R), .sl (r5.Hashes.flatMap cGHash) r5.Hashes.length false, .sl (r5.Edges.flatMap cGEdge) r5.Edges.length false]) sz27 Z1 Z1 Z3 rfl (Nat.le_of_ble_eq_true rfl) Z9 rfl) ?_
 refine pA ?_
 refine fs ?_
 refine sr (N' := 256) rfl ?_
 refine pu rfl (ap_ldv Z1 Z3 Z2) ?_
 obtain ⟨⟨r8, r9⟩, h7, hm⟩ := bnd hm
 refine ARun.callQ (r := .tup [.agg [.v (.int .i64 r8.Config.N), .v (.int .i64 r8.Config.L), .v (.int .i64 r8.Config.R), .sl (r8.Hashes.flatMap cGHash) r8.Hashes.length false, .sl (r8.Edges.flatMap cGEdge) r8.Edges.length false], .v (.int .i64 r9)]) Zd Z1 fb69 (fun H => (cD (.agg _ (CFGGraph.dat _)) (cV (cV .nil)))) (tiersInsert_c h7) ?_
 iterate 3 refine pA ?_
 refine hp (id := 197) rfl rfl (aheap_alloc' zc27 Z5) ?_
 refine ARun.heap0 (id := 198) rfl (ah_var (ys := [.v (.int .i64 r8.Config.N), .v (.int .i64 r8.Config.L), .v (.int .i64 r8.Config.R), .sl (r8.Hashes.flatMap cGHash) r8.Hashes.length false, .sl (r8.Edges.flatMap cGEdge) r8.Edges.length false]) sz27 Z1 Z1 Z3 rfl (Nat.le_of_ble_eq_true rfl) Z9 rfl) ?_
 refine pA ?_
 refine fs ?_
 refine sr (N' := 320) rfl ?_
 refine pu rfl (ap_ldv Z1 Z3 Z2) ?_
 obtain ⟨⟨r11, r12⟩, h10, hm⟩ := bnd hm
 refine ARun.callQ (r := .tup [.agg [.v (.int .i64 r11.Config.N), .v (.int .i64 r11.Config.L), .v (.int .i64 r11.Config.R), .sl (r11.Hashes.flatMap cGHash) r11.Hashes.length false, .sl (r11.Edges.flatMap cGEdge) r11.Edges.length false], .v (.int .i64 r12)]) Zd Z1 fb68 (fun H => (cD (.agg _ (CFGGraph.dat _)) (cV (cV .nil)))) (tiersDelete_c h10) ?_
 iterate 3 refine pA ?_
 refine hp (id := 261) rfl rfl (aheap_alloc' zc27 Z5) ?_
 refine ARun.heap0 (id := 262) rfl (ah_var (ys := [.v (.int .i64 r11.Config.N), .v (.int .i64 r11.Config.L), .v (.int .i64 r11.Config.R), .sl (r11.Hashes.flatMap cGHash) r11.Hashes.length false, .sl (r11.Edges.flatMap cGEdge) r11.Edges.length false]) sz27 Z1 Z1 Z3 rfl (Nat.le_of_ble_eq_true rfl) Z9 rfl) ?_
 refine pA ?_
 refine fs ?_
 refine sr (N' := 384) rfl ?_
 refine pu rfl (ap_ldv Z1 Z3 Z2) ?_
 obtain ⟨⟨r14, r15⟩, h13, hm⟩ := bnd hm
 refine ARun.callQ (r := .tup [.agg [.v (.int .i64 r14.Config.N), .v (.int .i64 r14.Config.L), .v (.int .i64 r14.Config.R), .sl (r14.Hashes.flatMap cGHash) r14.Hashes.length false, .sl (r14.Edges.flatMap cGEdge) r14.Edges.length false], .v (.int .i64 r15)]) Zd Z1 fb69 (fun H => (cD (.agg _ (CFGGraph.dat _)) (cV (cV .nil)))) (tiersInsert_c h13) ?_
 iterate 3 refine pA ?_
 refine hp (id := 325) rfl rfl (aheap_alloc' zc27 Z5) ?_
 refine ARun.heap0 (id := 326) rfl (ah_var (ys := [.v (.int .i64 r14.Config.N), .v (.int .i64 r14.Config.L), .v (.int .i64 r14.Config.R), .sl (r14.Hashes.flatMap cGHash) r14.Hashes.length false, .sl (r14.Edges.flatMap cGEdge) r14.Edges.length false]) sz27 Z1 Z1 Z3 rfl (Nat.le_of_ble_eq_true rfl) Z9 rfl) ?_
 refine pA ?_
 refine fs ?_
 refine sr (N' := 448) rfl ?_
 refine pu rfl (ap_ldv Z1 Z3 Z2) ?_
 obtain ⟨⟨r17, r18⟩, h16, hm⟩ := bnd hm
 refine ARun.callQ (r := .tup [.agg [.v (.int .i64 r17.Config.N), .v (.int .i64 r17.Config.L), .v (.int .i64 r17.Config.R), .sl (r17.Hashes.flatMap cGHash) r17.Hashes.length false, .sl (r17.Edges.flatMap cGEdge) r17.Edges.length false], .v (.int .i64 r18)]) Zd Z1 fb68 (fun H => (cD (.agg _ (CFGGraph.dat _)) (cV (cV .nil)))) (tiersDelete_c h16) ?_
 iterate 3 refine pA ?_
 refine hp (id := 389) rfl rfl (aheap_alloc' zc27 Z5) ?_
 refine ARun.heap0 (id := 390) rfl (ah_var (ys := [.v (.int .i64 r17.Config.N), .v (.int .i64 r17.Config.L), .v (.int .i64 r17.Config.R), .sl (r17.Hashes.flatMap cGHash) r17.Hashes.length false, .sl (r17.Edges.flatMap cGEdge) r17.Edges.length false]) sz27 Z1 Z1 Z3 rfl (Nat.le_of_ble_eq_true rfl) Z9 rfl) ?_
 refine pA ?_
 refine fs ?_
 refine sr (N' := 512) rfl ?_
 refine pu rfl (by simp only [go_sem, Nat.reduceBEq]; exact (by kernel_rfl : abuild Try.prog 23 [(0, .v (.int .i64 3)), (1, .v (.int .i64 2)), (2, .v (.int .i64 1))] = some (.agg [.v (.int .i64 3), .v (.int .i64 2), .v (.int .i64 1)]))) ?_
 obtain ⟨⟨r20, r21⟩, h19, hm⟩ := bnd hm
 refine ARun.callQ (r := .tup [.agg [.v (.int .i64 r20.Config.N), .v (.int .i64 r20.Config.L), .v (.int .i64 r20.Config.R), .sl (r20.Hashes.flatMap cGHash) r20.Hashes.length false, .sl (r20.Edges.flatMap cGEdge) r20.Edges.length false], .v (.int .i64 r21)]) Zd Z1 fb66 (fun H => (.cons (td Z1 (.agg _ (CFGConfig.dat (GConfig.mk 3 2 1)))) (.cons (tdn Z1) .nil))) (tiersNew_c h19) ?_
 iterate 3 refine pA ?_
 refine hp (id := 453) rfl rfl (aheap_alloc' zc27 Z5) ?_
 refine ARun.heap0 (id := 454) rfl (ah_var (ys := [.v (.int .i64 r20.Config.N), .v (.int .i64 r20.Config.L), .v (.int .i64 r20.Config.R), .sl (r20.Hashes.flatMap cGHash) r20.Hashes.length false, .sl (r20.Edges.flatMap cGEdge) r20.Edges.length false]) sz27 Z1 Z1 Z3 rfl (Nat.le_of_ble_eq_true rfl) Z9 rfl) ?_
 refine pA ?_
 refine fs ?_
 refine sr (N' := 576) rfl ?_
 iterate 8 first | refine pA ?_ | refine pB ?_
 refine pg rfl rfl Z2 (fun hb => (ap_ldv (Zh hb) Z3 Z4)) ?_
 refine pg rfl rfl Z2 (fun hb => (by simp only [go_sem, Nat.reduceBEq, hb, Bool.true_and]; exact (by kernel_rfl : abuild Try.prog 38 [(0, .v (.int .i64 0)), (1, .v (.int .i64 2)), (2, .v (.int .i64 1))] = some (.agg [.v (.int .i64 0), .v (.int .i64 2), .v (.int .i64 1)])))) ?_
 refine split_m hm (fun h22 hm => ?_) (fun h22 hm => ?_)
 ·
  refine ARun.heapG Zd rfl (by simp only [go_sem, Nat.reduceBEq, h22]; try with_reducible rfl) (id := 522) rfl (ah_list CFGEdge (l := [(GEdge.mk 0 2 1)]) Try.underlying25 sz38 zc38 Z5 Zd Zd Zd (by simp only [go_sem, Nat.reduceBEq, h22]; try rfl) (by kernel_rfl)) ?_
  obtain ⟨r24, h23, hm⟩ := bnd hm
  refine ARun.callBG (r := .v (.bool r24)) Zd rfl (by simp only [go_sem, Nat.reduceBEq, h22]; try with_reducible rfl) (by try simp only [go_sem, Nat.reduceBEq, h22]; try rfl) fb36 (fun hb => (.cons (ltd fun H => (td (by try simp only [go_sem, Nat.reduceBEq, h22]; try rfl) (CFGEdge.sl _ _ _))) (.cons (lto CFGEdge (by try simp only [go_sem, Nat.reduceBEq, h22]; try rfl) Z3 Z6) Lent.nil))) scal1 (fun hb => ref03Same_c h23) ?_
  iterate 22 (first | refine pu rfl (by simp only [go_sem, Nat.reduceBEq, h22]; try with_reducible rfl) ?_ | refine pg rfl rfl (by simp only [go_sem, Nat.reduceBEq, h22]; try with_reducible rfl) (by intro hb; simp only [go_sem, Nat.reduceBEq, h22, hb, Bool.true_and]; try with_reducible rfl) ?_)
  refine pg rfl rfl (by simp only [go_sem, Nat.reduceBEq, h22]; try with_reducible rfl) (fun hb => (ap_ldv (by try simp only [go_sem, Nat.reduceBEq, h22, hb, Bool.true_and]; try rfl) Z3 (by simp only [go_sem, Nat.reduceBEq, h22]; try with_reducible rfl))) ?_
  obtain ⟨r26, h25, hm⟩ := bnd hm
  refine ARun.callQG (r := .sl (r26.flatMap (ci .i64)) r26.length false) Zd rfl (by simp only [go_sem, Nat.reduceBEq, h22]; try with_reducible rfl) (by try simp only [go_sem, Nat.reduceBEq, h22]; try rfl) fb39 (fun hb H => (.cons (td (by try simp only [go_sem, Nat.reduceBEq, h22, hb, Bool.true_and]; try rfl) (.agg _ (CFGGraph.dat _))) .nil)) (fun hb => tiersKept_c (gopt_t h25 hb)) ?_
  refine split_m hm (fun h27 hm => ?_) (fun h27 hm => ?_)
  ·
   refine ARun.heapG Zd rfl (by simp only [go_sem, Nat.reduceBEq, h22, h27]; try with_reducible rfl) (id := 548) rfl (ah_list (CFi .i64) (l := [0, 0, 2]) Try.underlying30 sz3 zc3 Z5 Zd Zd Zd (by simp only [go_sem, Nat.reduceBEq, h22, h27]; try rfl) (by kernel_rfl)) ?_
   obtain ⟨r29, h28, hm⟩ := bnd hm
   refine ARun.callBG (r := .v (.bool r29)) Zd rfl (by simp only [go_sem, Nat.reduceBEq, h22, h27]; try with_reducible rfl) (by try simp only [go_sem, Nat.reduceBEq, h22, h27]; try rfl) fb34 (fun hb => (.cons (ltd fun H => (td (by try simp only [go_sem, Nat.reduceBEq, h22, h27]; try rfl) ((CFi .i64).sl _ _ _))) (.cons (lto (CFi .i64) (by try simp only [go_sem, Nat.reduceBEq, h22, h27]; try rfl) Z3 Z6) Lent.nil))) scal1 (fun hb => ref06Same_c h28) ?_
   iterate 2 refine pu rfl (by simp only [go_sem, Nat.reduceBEq, h22, h27]; try with_reducible rfl) ?_
   refine fs ?_
   refine AWp.ret ?_
   cases hm
   exact ret1D (.inr rfl) Try.results67 (td Z1 (.v _))
  ·
   refine ARun.skipG Zd rfl (by simp only [go_sem, Nat.reduceBEq, h22, h27]; try with_reducible rfl) ?_
   refine ARun.skipG Zd rfl (by simp only [go_sem, Nat.reduceBEq, h22, h27]; try with_reducible rfl) ?_
   iterate 2 refine pu rfl (by simp only [go_sem, Nat.reduceBEq, h22, h27]; try with_reducible rfl) ?_
   refine fs ?_
   refine AWp.ret ?_
   cases hm
   exact ret1D (.inr rfl) Try.results67 (td Z1 (.v _))
 ·
  refine ARun.skipG Zd rfl (by simp only [go_sem, Nat.reduceBEq, h22]; try with_reducible rfl) ?_
  refine ARun.skipG Zd rfl (by simp only [go_sem, Nat.reduceBEq, h22]; try with_reducible rfl) ?_
  iterate 2 refine pu rfl (by simp only [go_sem, Nat.reduceBEq, h22]; try with_reducible rfl) ?_
  refine ARun.skipG Zd rfl (by simp only [go_sem, Nat.reduceBEq, h22]; try with_reducible rfl) ?_
  refine ARun.skipG Zd rfl (by simp only [go_sem, Nat.reduceBEq, h22]; try with_reducible rfl) ?_
  iterate 2 refine pu rfl (by simp only [go_sem, Nat.reduceBEq, h22]; try with_reducible rfl) ?_
  refine ARun.skipG Zd rfl (by simp only [go_sem, Nat.reduceBEq, h22]; try with_reducible rfl) ?_
  refine ARun.skipG Zd rfl (by simp only [go_sem, Nat.reduceBEq, h22]; try with_reducible rfl) ?_
  iterate 2 refine pu rfl (by simp only [go_sem, Nat.reduceBEq, h22]; try with_reducible rfl) ?_
  refine ARun.skipG Zd rfl (by simp only [go_sem, Nat.reduceBEq, h22]; try with_reducible rfl) ?_
  refine ARun.skipG Zd rfl (by simp only [go_sem, Nat.reduceBEq, h22]; try with_reducible rfl) ?_
  iterate 2 refine pu rfl (by simp only [go_sem, Nat.reduceBEq, h22]; try with_reducible rfl) ?_
  refine ARun.skipG Zd rfl (by simp only [go_sem, Nat.reduceBEq, h22]; try with_reducible rfl) ?_
  refine ARun.skipG Zd rfl (by simp only [go_sem, Nat.reduceBEq, h22]; try with_reducible rfl) ?_
  iterate 2 refine pu rfl (by simp only [go_sem, Nat.reduceBEq, h22]; try with_reducible rfl) ?_
  refine ARun.skipG Zd rfl (by simp only [go_sem, Nat.reduceBEq, h22]; try with_reducible rfl) ?_
  refine ARun.skipG Zd rfl (by simp only [go_sem, Nat.reduceBEq, h22]; try with_reducible rfl) ?_
  iterate 2 refine pu rfl (by simp only [go_sem, Nat.reduceBEq, h22]; try with_reducible rfl) ?_
  refine ARun.skipG Zd rfl (by simp only [go_sem, Nat.reduceBEq, h22]; try with_reducible rfl) ?_
  refine ARun.skipG Zd rfl (by simp only [go_sem, Nat.reduceBEq, h22]; try with_reducible rfl) ?_
  refine ARun.skipG Zd rfl (by simp only [go_sem, Nat.reduceBEq, h22]; try with_reducible rfl) ?_
  refine ARun.skipG Zd rfl (by simp only [go_sem, Nat.reduceBEq, h22]; try with_reducible rfl) ?_
  iterate 2 refine pu rfl (by simp only [go_sem, Nat.reduceBEq, h22]; try with_reducible rfl) ?_
  refine fs ?_
  refine AWp.ret ?_
  cases hm
  exact ret1D (.inr rfl) Try.results67 (td Z1 (.v _))
def TiersEnds_B1 (rec1 : GGraph → GGraph → Int → GGraph → GGraph → Int → Int → Int → Option (Bool)) (g_3 : GGraph) (a_7 : GGraph) (e_8 : Int) (b_9 : GGraph) (c_11 : GGraph) (h_12 : Int) (t81 : Int) (t82 : Int) : Option (Bool) :=
 (bif (decide (t82 < t81)) then
  ((idx a_7.Edges t82).bind fun x20 =>
  ((idx b_9.Edges t82).bind fun x22 =>
  ((gopt ((x20.U != x22.U) == false) (GEdge.mk 0 0 0) (idx a_7.Edges t82)).bind fun x24 =>
  ((gopt ((x20.U != x22.U) == false) (GEdge.mk 0 0 0) (idx b_9.Edges t82)).bind fun x26 =>
  (bif ((x20.U != x22.U) || (x24.V != x26.V)) then
   some false
  else
   rec1 g_3 a_7 e_8 b_9 c_11 h_12 t81 (IntKind.i64.wrap (t82 + 1)))))))
 else
  ((gopt ((((e_8 == 0) == ((a_7.Edges.length : Int) == (IntKind.i64.wrap ((g_3.Edges.length : Int) + 1)))) && ((h_12 == 0) == ((c_11.Edges.length : Int) == (IntKind.i64.wrap ((g_3.Edges.length : Int) - 1))))) == true) false (law15Awake_m )).bind fun r28 =>
  some ((((e_8 == 0) == ((a_7.Edges.length : Int) == (IntKind.i64.wrap ((g_3.Edges.length : Int) + 1)))) && ((h_12 == 0) == ((c_11.Edges.length : Int) == (IntKind.i64.wrap ((g_3.Edges.length : Int) - 1))))) && r28)))
def TiersEnds_L1 : Nat → GGraph → GGraph → Int → GGraph → GGraph → Int → Int → Int → Option (Bool)
 | 0 => fun _ _ _ _ _ _ _ _ => none
 | n + 1 => TiersEnds_B1 (TiersEnds_L1 n)
def TiersEnds_m (g_0 : GGraph) (u_1 : Int) (v_2 : Int) : Option (Bool) :=
 ((ref14Small_m g_0).bind fun r2 =>
 ((gopt ((!r2) == false) false (searchRight_m g_0)).bind fun r4 =>
 (bif ((!r2) || (!r4)) then
  ((law15Awake_m ).bind fun r6 =>
  some r6)
 else
  ((tiersInsert_m g_0 u_1 v_2).bind fun ⟨r8, r9⟩ =>
  ((tiersInsert_m g_0 v_2 u_1).bind fun ⟨r11, r12⟩ =>
  ((tiersDelete_m g_0 u_1 v_2).bind fun ⟨r14, r15⟩ =>
  ((tiersDelete_m g_0 v_2 u_1).bind fun ⟨r17, r18⟩ =>
  (bif ((((r9 != r12) || (r15 != r18)) || ((r8.Edges.length : Int) != (r11.Edges.length : Int))) || ((r14.Edges.length : Int) != (r17.Edges.length : Int))) then
   some false
  else
   TiersEnds_L1 FUEL g_0 r8 r9 r11 r14 r15 (r8.Edges.length : Int) 0))))))))
theorem TiersEnds_c {g_0 : GGraph} {u_1 : Int} {v_2 : Int} {r : Bool} (hm : TiersEnds_m g_0 u_1 v_2 = some r) : PureC Try.prog 18 [.agg [.v (.int .i64 g_0.Config.N), .v (.int .i64 g_0.Config.L), .v (.int .i64 g_0.Config.R), .sl (g_0.Hashes.flatMap cGHash) g_0.Hashes.length false, .sl (g_0.Edges.flatMap cGEdge) g_0.Edges.length false], .v (.int .i64 u_1), .v (.int .i64 v_2)] (.v (.bool r)) := by
 refine PureC.of_body Try.func18 rfl ?_
 simp only [Try.ntmps18, List.length_cons, List.length_nil, Nat.reduceAdd, Nat.reduceSub, empty_eq]
 unfold TiersEnds_m at hm
 refine sr (N' := 64) rfl ?_
 refine hp (id := 0) rfl rfl (aheap_box Z1 Z5) ?_
 refine pA ?_
 refine fs ?_
 refine AWp.seq' ?_
 refine sr (N' := 128) rfl ?_
 refine pu rfl (ap_ldv Z1 Z3 Z2) ?_
 obtain ⟨r2, h1, hm⟩ := bnd hm
 refine ARun.callQ (r := .v (.bool r2)) Zd Z1 fb25 (fun H => (cD (.agg _ (CFGGraph.dat _)) .nil)) (ref14Small_c h1) ?_
 iterate 2 refine pA ?_
 refine pg rfl rfl Z2 (fun hb => (ap_ldv (Zh hb) Z3 Z2)) ?_
 obtain ⟨r4, h3, hm⟩ := bnd hm
 refine ARun.callQG (r := .v (.bool r4)) Zd rfl Z2 Z1 fb45 (fun hb H => (.cons (td (Zh hb) (.agg _ (CFGGraph.dat _))) .nil)) (fun hb => searchRight_c (gopt_t h3 hb)) ?_
 iterate 2 first | refine pA ?_ | refine pB ?_
 refine fs ?_
 refine AWp.condM hm Z1 (fun _ hm => ?_) (fun _ hm => ?_)
 ·
  refine sr (N' := 192) rfl ?_
  obtain ⟨r6, h5, hm⟩ := bnd hm
  refine ARun.callQ (r := .v (.bool r6)) Zd Z1 fb67 (fun H => .nil) (law15Awake_c h5) ?_
  refine pA ?_
  refine fs ?_
  refine AWp.ret ?_
  refine retSeq ?_
  cases hm
  exact ret1D (.inr rfl) Try.results18 (td Z1 (.v _))
 ·
  refine AWp.skip ?_
  refine normSeq ?_
  refine sr (N' := 192) rfl ?_
  refine pu rfl (ap_ldv Z1 Z3 Z2) ?_
  iterate 2 refine pA ?_
  obtain ⟨⟨r8, r9⟩, h7, hm⟩ := bnd hm
  refine ARun.callQ (r := .tup [.agg [.v (.int .i64 r8.Config.N), .v (.int .i64 r8.Config.L), .v (.int .i64 r8.Config.R), .sl (r8.Hashes.flatMap cGHash) r8.Hashes.length false, .sl (r8.Edges.flatMap cGEdge) r8.Edges.length false], .v (.int .i64 r9)]) Zd Z1 fb69 (fun H => (cD (.agg _ (CFGGraph.dat _)) (cV (cV .nil)))) (tiersInsert_c h7) ?_
  iterate 3 refine pA ?_
  refine hp (id := 135) rfl rfl (aheap_alloc' zc27 Z5) ?_
  refine ARun.heap0 (id := 136) rfl (ah_var (ys := [.v (.int .i64 r8.Config.N), .v (.int .i64 r8.Config.L), .v (.int .i64 r8.Config.R), .sl (r8.Hashes.flatMap cGHash) r8.Hashes.length false, .sl (r8.Edges.flatMap cGEdge) r8.Edges.length false]) sz27 Z1 Z1 Z3 rfl (Nat.le_of_ble_eq_true rfl) Z9 rfl) ?_
  refine pA ?_
  refine fs ?_
  refine sr (N' := 256) rfl ?_
  refine pu rfl (ap_ldv Z1 Z3 Z2) ?_
  iterate 2 refine pA ?_
  obtain ⟨⟨r11, r12⟩, h10, hm⟩ := bnd hm
  refine ARun.callQ (r := .tup [.agg [.v (.int .i64 r11.Config.N), .v (.int .i64 r11.Config.L), .v (.int .i64 r11.Config.R), .sl (r11.Hashes.flatMap cGHash) r11.Hashes.length false, .sl (r11.Edges.flatMap cGEdge) r11.Edges.length false], .v (.int .i64 r12)]) Zd Z1 fb69 (fun H => (cD (.agg _ (CFGGraph.dat _)) (cV (cV .nil)))) (tiersInsert_c h10) ?_
  iterate 3 refine pA ?_
  refine hp (id := 199) rfl rfl (aheap_alloc' zc27 Z5) ?_
  refine ARun.heap0 (id := 200) rfl (ah_var (ys := [.v (.int .i64 r11.Config.N), .v (.int .i64 r11.Config.L), .v (.int .i64 r11.Config.R), .sl (r11.Hashes.flatMap cGHash) r11.Hashes.length false, .sl (r11.Edges.flatMap cGEdge) r11.Edges.length false]) sz27 Z1 Z1 Z3 rfl (Nat.le_of_ble_eq_true rfl) Z9 rfl) ?_
  refine pA ?_
  refine fs ?_
  refine sr (N' := 320) rfl ?_
  refine pu rfl (ap_ldv Z1 Z3 Z2) ?_
  iterate 2 refine pA ?_
  obtain ⟨⟨r14, r15⟩, h13, hm⟩ := bnd hm
  refine ARun.callQ (r := .tup [.agg [.v (.int .i64 r14.Config.N), .v (.int .i64 r14.Config.L), .v (.int .i64 r14.Config.R), .sl (r14.Hashes.flatMap cGHash) r14.Hashes.length false, .sl (r14.Edges.flatMap cGEdge) r14.Edges.length false], .v (.int .i64 r15)]) Zd Z1 fb68 (fun H => (cD (.agg _ (CFGGraph.dat _)) (cV (cV .nil)))) (tiersDelete_c h13) ?_
  iterate 3 refine pA ?_
  refine hp (id := 263) rfl rfl (aheap_alloc' zc27 Z5) ?_
  refine ARun.heap0 (id := 264) rfl (ah_var (ys := [.v (.int .i64 r14.Config.N), .v (.int .i64 r14.Config.L), .v (.int .i64 r14.Config.R), .sl (r14.Hashes.flatMap cGHash) r14.Hashes.length false, .sl (r14.Edges.flatMap cGEdge) r14.Edges.length false]) sz27 Z1 Z1 Z3 rfl (Nat.le_of_ble_eq_true rfl) Z9 rfl) ?_
  refine pA ?_
  refine fs ?_
  refine sr (N' := 384) rfl ?_
  refine pu rfl (ap_ldv Z1 Z3 Z2) ?_
  iterate 2 refine pA ?_
  obtain ⟨⟨r17, r18⟩, h16, hm⟩ := bnd hm
  refine ARun.callQ (r := .tup [.agg [.v (.int .i64 r17.Config.N), .v (.int .i64 r17.Config.L), .v (.int .i64 r17.Config.R), .sl (r17.Hashes.flatMap cGHash) r17.Hashes.length false, .sl (r17.Edges.flatMap cGEdge) r17.Edges.length false], .v (.int .i64 r18)]) Zd Z1 fb68 (fun H => (cD (.agg _ (CFGGraph.dat _)) (cV (cV .nil)))) (tiersDelete_c h16) ?_
  iterate 3 refine pA ?_
  refine hp (id := 327) rfl rfl (aheap_alloc' zc27 Z5) ?_
  refine ARun.heap0 (id := 328) rfl (ah_var (ys := [.v (.int .i64 r17.Config.N), .v (.int .i64 r17.Config.L), .v (.int .i64 r17.Config.R), .sl (r17.Hashes.flatMap cGHash) r17.Hashes.length false, .sl (r17.Edges.flatMap cGEdge) r17.Edges.length false]) sz27 Z1 Z1 Z3 rfl (Nat.le_of_ble_eq_true rfl) Z9 rfl) ?_
  refine pA ?_
  refine fs ?_
  refine AWp.seq' ?_
  refine sr (N' := 448) rfl ?_
  iterate 10 first | refine pA ?_ | refine pB ?_
  refine pg rfl rfl Z2 (fun hb => (ap_ldv (Zh hb) Z3 Z4)) ?_
  iterate 2 refine pB ?_
  refine pg rfl rfl Z2 (fun hb => (ap_ldv (Zh hb) Z3 Z4)) ?_
  iterate 5 first | refine pA ?_ | refine pB ?_
  refine pg rfl rfl Z2 (fun hb => (ap_ldv (Zh hb) Z3 Z4)) ?_
  iterate 2 refine pB ?_
  refine pg rfl rfl Z2 (fun hb => (ap_ldv (Zh hb) Z3 Z4)) ?_
  iterate 3 first | refine pA ?_ | refine pB ?_
  refine fs ?_
  refine AWp.condM hm Z1 (fun _ hm => ?_) (fun _ hm => ?_)
  ·
   refine sr (N' := 512) rfl ?_
   refine pA ?_
   refine fs ?_
   refine AWp.ret ?_
   refine retSeq ?_
   cases hm
   exact ret1D (.inr rfl) Try.results18 (td Z1 (.v _))
  ·
   refine AWp.skip ?_
   refine normSeq ?_
   refine AWp.seq' ?_
   refine sr (N' := 512) rfl ?_
   refine pA ?_
   refine pu rfl (ap_ldv Z1 Z3 Z4) ?_
   iterate 2 refine pA ?_
   refine fs ?_
   refine AWp.block ?_
   refine AWp.loopM (fun m s => ∃ (g_3 : GGraph) (a_7 : GGraph) (e_8 : Int) (b_9 : GGraph) (c_11 : GGraph) (h_12 : Int) (t81 : Int) (t82 : Int), s = (⟨141, (fset (fset (fset (fset (fset (fset (fset (fset (fun _ => AV.any) 3 (.adr 1 0)) 7 (.adr 2 0)) 8 (.v (.int .i64 e_8))) 9 (.adr 3 0)) 11 (.adr 4 0)) 12 (.v (.int .i64 h_12))) 81 (.v (.int .i64 t81))) 82 (.v (.int .i64 t82))), ⟨(upd (upd (upd (upd nofresh 1 (.cells 1 [.v (.int .i64 g_3.Config.N), .v (.int .i64 g_3.Config.L), .v (.int .i64 g_3.Config.R), .sl (g_3.Hashes.flatMap cGHash) g_3.Hashes.length false, .sl (g_3.Edges.flatMap cGEdge) g_3.Edges.length false] 0)) 2 (.cells 1 [.v (.int .i64 a_7.Config.N), .v (.int .i64 a_7.Config.L), .v (.int .i64 a_7.Config.R), .sl (a_7.Hashes.flatMap cGHash) a_7.Hashes.length false, .sl (a_7.Edges.flatMap cGEdge) a_7.Edges.length false] 0)) 3 (.cells 1 [.v (.int .i64 b_9.Config.N), .v (.int .i64 b_9.Config.L), .v (.int .i64 b_9.Config.R), .sl (b_9.Hashes.flatMap cGHash) b_9.Hashes.length false, .sl (b_9.Edges.flatMap cGEdge) b_9.Edges.length false] 0)) 4 (.cells 1 [.v (.int .i64 c_11.Config.N), .v (.int .i64 c_11.Config.L), .v (.int .i64 c_11.Config.R), .sl (c_11.Hashes.flatMap cGHash) c_11.Hashes.length false, .sl (c_11.Edges.flatMap cGEdge) c_11.Edges.length false] 0)), 64⟩⟩ : St) ∧ TiersEnds_L1 m g_3 a_7 e_8 b_9 c_11 h_12 t81 t82 = some r) FUEL ?_ ?_ ?_
   ·
    rintro s ⟨_, _, _, _, _, _, _, _, _, h⟩
    cases h
   ·
    refine ⟨_, ?_, g_0, r8, r9, r11, r14, r15, (r8.Edges.length : Int), 0, rfl, hm⟩
    exact le_canon (fun j => bif j == 1 then 0 else bif j == 2 then 135 else bif j == 3 then 199 else bif j == 4 then 263 else 0) (wV (wV (wV (wk_fset _ _ (wk_adr Z1 rfl Z7) (wk_fset _ _ (wk_adr Z1 rfl Z7) (wV (wk_fset _ _ (wk_adr Z1 rfl Z7) (wk_fset _ _ (wk_adr Z1 rfl Z7) wk_none)))))))) (heapWk_of _ (entWk_upd (entWk_data Z3 (Nat.le_refl _) (Nat.zero_le _) (CFGGraph.dat r14)) (entWk_upd (entWk_data Z3 (Nat.le_refl _) (Nat.zero_le _) (CFGGraph.dat r11)) (entWk_upd (entWk_data Z3 (Nat.le_refl _) (Nat.zero_le _) (CFGGraph.dat r8)) (entWk_upd (entWk_data Z3 (Nat.le_refl _) (Nat.zero_le _) (CFGGraph.dat g_0)) entWk_none)))) Z8)
   ·
    rintro n1 s ⟨g_3, a_7, e_8, b_9, c_11, h_12, t81, t82, rfl, hm⟩
    replace hm : TiersEnds_B1 (TiersEnds_L1 n1) g_3 a_7 e_8 b_9 c_11 h_12 t81 t82 = some r := hm
    unfold TiersEnds_B1 at hm
    refine sr (N' := 128) rfl ?_
    refine pA ?_
    refine fs ?_
    refine AWp.seq' ?_
    refine AWp.condM hm Z1 (fun _ hm => ?_) (fun _ hm => ?_)
    ·
     refine AWp.skip ?_
     refine normSeq ?_
     refine AWp.seq' ?_
     refine AWp.block ?_
     refine sr (N' := 192) rfl ?_
     iterate 2 refine pA ?_
     refine fs ?_
     refine sd mix (by kernel_rfl) (N' := 256) rfl ?_
     refine pA ?_
     refine pu rfl (ap_ldv Z1 Z3 Z4) ?_
     refine pA ?_
     obtain ⟨x20, h19, hm⟩ := bnd hm
     refine pu rfl (ap_idx CFGEdge Zd Try.underlying25 sz38 Z1 rfl Z1 h19) ?_
     iterate 3 refine pA ?_
     refine pu rfl (ap_ldv Z1 Z3 Z4) ?_
     refine pA ?_
     obtain ⟨x22, h21, hm⟩ := bnd hm
     refine pu rfl (ap_idx CFGEdge Zd Try.underlying25 sz38 Z1 rfl Z1 h21) ?_
     iterate 5 first | refine pA ?_ | refine pB ?_
     refine pg rfl rfl Z2 (fun hb => (ap_ldv (Zh hb) Z3 Z4)) ?_
     refine pB ?_
     obtain ⟨x24, h23, hm⟩ := bnd hm
     refine pg rfl rfl Z2 (fun hb => (ap_idx CFGEdge Zd Try.underlying25 sz38 (Zh hb) rfl (Zh hb) (gopt_t h23 hb))) ?_
     iterate 3 refine pB ?_
     refine pg rfl rfl Z2 (fun hb => (ap_ldv (Zh hb) Z3 Z4)) ?_
     refine pB ?_
     obtain ⟨x26, h25, hm⟩ := bnd hm
     refine pg rfl rfl Z2 (fun hb => (ap_idx CFGEdge Zd Try.underlying25 sz38 (Zh hb) rfl (Zh hb) (gopt_t h25 hb))) ?_
     iterate 4 first | refine pA ?_ | refine pB ?_
     refine fs ?_
     refine AWp.condM hm Z1 (fun _ hm => ?_) (fun _ hm => ?_)
     ·
      refine sr (N' := 320) rfl ?_
      refine pA ?_
      refine fs ?_
      refine AWp.ret ?_
      refine retIn ?_
      refine retSeq ?_
      refine retThen ?_
      refine retIn ?_
      refine retSeq ?_
      cases hm
      exact ret1D (.inr rfl) Try.results18 (td Z1 (.v _))
     ·
      refine AWp.skip ?_
      refine normIn ?_
      refine normSeq ?_
      refine AWp.reg 64 (N' := 320) rfl ?_
      iterate 2 refine pA ?_
      refine ARun.fin ?_
      refine normThen ?_
      refine ⟨_, ?_, g_3, a_7, e_8, b_9, c_11, h_12, t81, (IntKind.i64.wrap (t82 + 1)), rfl, hm⟩
      exact le_canon (fun j => bif j == 1 then 1 else bif j == 2 then 2 else bif j == 3 then 3 else bif j == 4 then 4 else 0) (wV (wV (wV (wk_fset _ _ (wk_adr Z1 rfl Z7) (wk_fset _ _ (wk_adr Z1 rfl Z7) (wV (wk_fset _ _ (wk_adr Z1 rfl Z7) (wk_fset _ _ (wk_adr Z1 rfl Z7) wk_none)))))))) (heapWk_of _ (entWk_upd (entWk_data Z3 (Nat.le_refl _) (Nat.zero_le _) (CFGGraph.dat c_11)) (entWk_upd (entWk_data Z3 (Nat.le_refl _) (Nat.zero_le _) (CFGGraph.dat b_9)) (entWk_upd (entWk_data Z3 (Nat.le_refl _) (Nat.zero_le _) (CFGGraph.dat a_7)) (entWk_upd (entWk_data Z3 (Nat.le_refl _) (Nat.zero_le _) (CFGGraph.dat g_3)) entWk_none)))) Z8)
    ·
     refine AWp.exit ?_
     refine exitSeq ?_
     refine exitThen ?_
     refine exitHere ?_
     refine normSeq ?_
     refine sr (N' := 192) rfl ?_
     iterate 3 refine pA ?_
     refine pu rfl (ap_ldv Z1 Z3 Z4) ?_
     iterate 2 refine pA ?_
     refine pu rfl (ap_ldv Z1 Z3 Z4) ?_
     iterate 8 first | refine pA ?_ | refine pB ?_
     refine pg rfl rfl Z2 (fun hb => (ap_ldv (Zh hb) Z3 Z4)) ?_
     iterate 2 refine pB ?_
     refine pg rfl rfl Z2 (fun hb => (ap_ldv (Zh hb) Z3 Z4)) ?_
     iterate 6 first | refine pA ?_ | refine pB ?_
     obtain ⟨r28, h27, hm⟩ := bnd hm
     refine ARun.callQG (r := .v (.bool r28)) Zd rfl Z2 Z1 fb67 (fun hb H => .nil) (fun hb => law15Awake_c (gopt_t h27 hb)) ?_
     iterate 2 refine pA ?_
     refine fs ?_
     refine AWp.ret ?_
     cases hm
     exact ret1D (.inr rfl) Try.results18 (td Z1 (.v _))
def ref15Same_m (a_0 : GGraph) (b_1 : GGraph) : Option (Bool) :=
 ((gopt (((a_0.Config.N == b_1.Config.N) && ((a_0.Config.L == b_1.Config.L) && (a_0.Config.R == b_1.Config.R))) == true) false (ref14Same_m a_0.Hashes b_1.Hashes)).bind fun r2 =>
 ((gopt ((((a_0.Config.N == b_1.Config.N) && ((a_0.Config.L == b_1.Config.L) && (a_0.Config.R == b_1.Config.R))) && r2) == true) false (ref03Same_m a_0.Edges b_1.Edges)).bind fun r4 =>
 some ((((a_0.Config.N == b_1.Config.N) && ((a_0.Config.L == b_1.Config.L) && (a_0.Config.R == b_1.Config.R))) && r2) && r4)))
theorem ref15Same_c {a_0 : GGraph} {b_1 : GGraph} {r : Bool} (hm : ref15Same_m a_0 b_1 = some r) : PureC Try.prog 74 [.agg [.v (.int .i64 a_0.Config.N), .v (.int .i64 a_0.Config.L), .v (.int .i64 a_0.Config.R), .sl (a_0.Hashes.flatMap cGHash) a_0.Hashes.length false, .sl (a_0.Edges.flatMap cGEdge) a_0.Edges.length false], .agg [.v (.int .i64 b_1.Config.N), .v (.int .i64 b_1.Config.L), .v (.int .i64 b_1.Config.R), .sl (b_1.Hashes.flatMap cGHash) b_1.Hashes.length false, .sl (b_1.Edges.flatMap cGEdge) b_1.Edges.length false]] (.v (.bool r)) := by
 refine PureC.of_body Try.func74 rfl ?_
 simp only [Try.ntmps74, List.length_cons, List.length_nil, Nat.reduceAdd, Nat.reduceSub, empty_eq]
 unfold ref15Same_m at hm
 refine sr (N' := 64) rfl ?_
 refine hp (id := 0) rfl rfl (aheap_box Z1 Z5) ?_
 refine hp (id := 1) rfl rfl (aheap_box Z1 Z5) ?_
 refine pA ?_
 refine fs ?_
 refine sr (N' := 128) rfl ?_
 refine pA ?_
 refine pu rfl (ap_ldv Z1 Z3 Z4) ?_
 refine pA ?_
 refine pu rfl (ap_ldv Z1 Z3 Z4) ?_
 iterate 3 first | refine pA ?_ | refine pB ?_
 refine pg rfl rfl Z2 (fun hb => (ap_ldv (Zh hb) Z3 Z4)) ?_
 refine pB ?_
 refine pg rfl rfl Z2 (fun hb => (ap_ldv (Zh hb) Z3 Z4)) ?_
 obtain ⟨r2, h1, hm⟩ := bnd hm
 refine ARun.callQG (r := .v (.bool r2)) Zd rfl Z2 Z1 fb46 (fun hb H => (.cons (td (Zh hb) (CFGHash.sl _ _ _)) (.cons (td (Zh hb) (CFGHash.sl _ _ _)) .nil))) (fun hb => ref14Same_c (gopt_t h1 hb)) ?_
 iterate 3 first | refine pA ?_ | refine pB ?_
 refine pg rfl rfl Z2 (fun hb => (ap_ldv (Zh hb) Z3 Z4)) ?_
 refine pB ?_
 refine pg rfl rfl Z2 (fun hb => (ap_ldv (Zh hb) Z3 Z4)) ?_
 obtain ⟨r4, h3, hm⟩ := bnd hm
 refine ARun.callQG (r := .v (.bool r4)) Zd rfl Z2 Z1 fb36 (fun hb H => (.cons (td (Zh hb) (CFGEdge.sl _ _ _)) (.cons (td (Zh hb) (CFGEdge.sl _ _ _)) .nil))) (fun hb => ref03Same_c (gopt_t h3 hb)) ?_
 iterate 2 refine pA ?_
 refine fs ?_
 refine AWp.ret ?_
 cases hm
 exact ret1D (.inr rfl) Try.results74 (td Z1 (.v _))
def TiersBack_B1 (rec1 : GGraph → GGraph → GGraph → List GEdge → Int → Int → Option (Bool)) (g_3 : GGraph) (a_7 : GGraph) (b_9 : GGraph) (t56 : List GEdge) (t57 : Int) (t58 : Int) : Option (Bool) :=
 (bif (decide (t58 < t57)) then
  ((idx t56 t58).bind fun x18 =>
  ((idx g_3.Edges t58).bind fun x20 =>
  ((gopt ((x18.U != x20.U) == false) (GEdge.mk 0 0 0) (idx g_3.Edges t58)).bind fun x22 =>
  (bif ((x18.U != x20.U) || (x18.V != x22.V)) then
   some false
  else
   rec1 g_3 a_7 b_9 t56 t57 (IntKind.i64.wrap (t58 + 1))))))
 else
  ((searchRight_m a_7).bind fun r24 =>
  ((gopt (r24 == true) false (searchRight_m b_9)).bind fun r26 =>
  ((gopt ((r24 && r26) == true) [] (tiersKept_m b_9)).bind fun r28 =>
  ((gopt ((r24 && r26) == true) [] (ref09Of_m g_3.Config.N g_3.Edges)).bind fun r30 =>
  ((gopt ((r24 && r26) == true) false (partRefines_m r28 r30)).bind fun r32 =>
  ((gopt (((r24 && r26) && r32) == true) false (law15Awake_m )).bind fun r34 =>
  some (((r24 && r26) && r32) && r34))))))))
def TiersBack_L1 : Nat → GGraph → GGraph → GGraph → List GEdge → Int → Int → Option (Bool)
 | 0 => fun _ _ _ _ _ _ => none
 | n + 1 => TiersBack_B1 (TiersBack_L1 n)
def TiersBack_m (g_0 : GGraph) (u_1 : Int) (v_2 : Int) : Option (Bool) :=
 ((ref14Small_m g_0).bind fun r2 =>
 ((gopt ((!r2) == false) false (searchRight_m g_0)).bind fun r4 =>
 (bif ((!r2) || (!r4)) then
  ((law15Awake_m ).bind fun r6 =>
  some r6)
 else
  ((tiersInsert_m g_0 u_1 v_2).bind fun ⟨r8, r9⟩ =>
  (bif (r9 != 0) then
   ((ref15Same_m r8 g_0).bind fun r11 =>
   ((gopt (r11 == true) false (law15Awake_m )).bind fun r13 =>
   some (r11 && r13)))
  else
   ((tiersDelete_m r8 v_2 u_1).bind fun ⟨r15, r16⟩ =>
   (bif ((r16 != 0) || ((r15.Edges.length : Int) != (g_0.Edges.length : Int))) then
    some false
   else
    TiersBack_L1 FUEL g_0 r8 r15 r15.Edges (r15.Edges.length : Int) 0)))))))
theorem TiersBack_c {g_0 : GGraph} {u_1 : Int} {v_2 : Int} {r : Bool} (hm : TiersBack_m g_0 u_1 v_2 = some r) : PureC Try.prog 20 [.agg [.v (.int .i64 g_0.Config.N), .v (.int .i64 g_0.Config.L), .v (.int .i64 g_0.Config.R), .sl (g_0.Hashes.flatMap cGHash) g_0.Hashes.length false, .sl (g_0.Edges.flatMap cGEdge) g_0.Edges.length false], .v (.int .i64 u_1), .v (.int .i64 v_2)] (.v (.bool r)) := by
 refine PureC.of_body Try.func20 rfl ?_
 simp only [Try.ntmps20, List.length_cons, List.length_nil, Nat.reduceAdd, Nat.reduceSub, empty_eq]
 unfold TiersBack_m at hm
 refine sr (N' := 64) rfl ?_
 refine hp (id := 0) rfl rfl (aheap_box Z1 Z5) ?_
 refine pA ?_
 refine fs ?_
 refine AWp.seq' ?_
 refine sr (N' := 128) rfl ?_
 refine pu rfl (ap_ldv Z1 Z3 Z2) ?_
 obtain ⟨r2, h1, hm⟩ := bnd hm
 refine ARun.callQ (r := .v (.bool r2)) Zd Z1 fb25 (fun H => (cD (.agg _ (CFGGraph.dat _)) .nil)) (ref14Small_c h1) ?_
 iterate 2 refine pA ?_
 refine pg rfl rfl Z2 (fun hb => (ap_ldv (Zh hb) Z3 Z2)) ?_
 obtain ⟨r4, h3, hm⟩ := bnd hm
 refine ARun.callQG (r := .v (.bool r4)) Zd rfl Z2 Z1 fb45 (fun hb H => (.cons (td (Zh hb) (.agg _ (CFGGraph.dat _))) .nil)) (fun hb => searchRight_c (gopt_t h3 hb)) ?_
 iterate 2 first | refine pA ?_ | refine pB ?_
 refine fs ?_
 refine AWp.condM hm Z1 (fun _ hm => ?_) (fun _ hm => ?_)
 ·
  refine sr (N' := 192) rfl ?_
  obtain ⟨r6, h5, hm⟩ := bnd hm
  refine ARun.callQ (r := .v (.bool r6)) Zd Z1 fb67 (fun H => .nil) (law15Awake_c h5) ?_
  refine pA ?_
  refine fs ?_
  refine AWp.ret ?_
  refine retSeq ?_
  cases hm
  exact ret1D (.inr rfl) Try.results20 (td Z1 (.v _))
 ·
  refine AWp.skip ?_
  refine normSeq ?_
  refine sr (N' := 192) rfl ?_
  refine pu rfl (ap_ldv Z1 Z3 Z2) ?_
  iterate 2 refine pA ?_
  obtain ⟨⟨r8, r9⟩, h7, hm⟩ := bnd hm
  refine ARun.callQ (r := .tup [.agg [.v (.int .i64 r8.Config.N), .v (.int .i64 r8.Config.L), .v (.int .i64 r8.Config.R), .sl (r8.Hashes.flatMap cGHash) r8.Hashes.length false, .sl (r8.Edges.flatMap cGEdge) r8.Edges.length false], .v (.int .i64 r9)]) Zd Z1 fb69 (fun H => (cD (.agg _ (CFGGraph.dat _)) (cV (cV .nil)))) (tiersInsert_c h7) ?_
  iterate 3 refine pA ?_
  refine hp (id := 135) rfl rfl (aheap_alloc' zc27 Z5) ?_
  refine ARun.heap0 (id := 136) rfl (ah_var (ys := [.v (.int .i64 r8.Config.N), .v (.int .i64 r8.Config.L), .v (.int .i64 r8.Config.R), .sl (r8.Hashes.flatMap cGHash) r8.Hashes.length false, .sl (r8.Edges.flatMap cGEdge) r8.Edges.length false]) sz27 Z1 Z1 Z3 rfl (Nat.le_of_ble_eq_true rfl) Z9 rfl) ?_
  refine pA ?_
  refine fs ?_
  refine AWp.seq' ?_
  refine sr (N' := 256) rfl ?_
  iterate 2 refine pA ?_
  refine fs ?_
  refine AWp.condM hm Z1 (fun _ hm => ?_) (fun _ hm => ?_)
  ·
   refine sr (N' := 320) rfl ?_
   refine pu rfl (ap_ldv Z1 Z3 Z2) ?_
   refine pu rfl (ap_ldv Z1 Z3 Z2) ?_
   obtain ⟨r11, h10, hm⟩ := bnd hm
   refine ARun.callQ (r := .v (.bool r11)) Zd Z1 fb74 (fun H => (cD (.agg _ (CFGGraph.dat _)) (cD (.agg _ (CFGGraph.dat _)) .nil))) (ref15Same_c h10) ?_
   refine pA ?_
   obtain ⟨r13, h12, hm⟩ := bnd hm
   refine ARun.callQG (r := .v (.bool r13)) Zd rfl Z2 Z1 fb67 (fun hb H => .nil) (fun hb => law15Awake_c (gopt_t h12 hb)) ?_
   iterate 2 refine pA ?_
   refine fs ?_
   refine AWp.ret ?_
   refine retSeq ?_
   cases hm
   exact ret1D (.inr rfl) Try.results20 (td Z1 (.v _))
  ·
   refine AWp.skip ?_
   refine normSeq ?_
   refine sr (N' := 320) rfl ?_
   refine pu rfl (ap_ldv Z1 Z3 Z2) ?_
   iterate 2 refine pA ?_
   obtain ⟨⟨r15, r16⟩, h14, hm⟩ := bnd hm
   refine ARun.callQ (r := .tup [.agg [.v (.int .i64 r15.Config.N), .v (.int .i64 r15.Config.L), .v (.int .i64 r15.Config.R), .sl (r15.Hashes.flatMap cGHash) r15.Hashes.length false, .sl (r15.Edges.flatMap cGEdge) r15.Edges.length false], .v (.int .i64 r16)]) Zd Z1 fb68 (fun H => (cD (.agg _ (CFGGraph.dat _)) (cV (cV .nil)))) (tiersDelete_c h14) ?_
   iterate 3 refine pA ?_
   refine hp (id := 263) rfl rfl (aheap_alloc' zc27 Z5) ?_
   refine ARun.heap0 (id := 264) rfl (ah_var (ys := [.v (.int .i64 r15.Config.N), .v (.int .i64 r15.Config.L), .v (.int .i64 r15.Config.R), .sl (r15.Hashes.flatMap cGHash) r15.Hashes.length false, .sl (r15.Edges.flatMap cGEdge) r15.Edges.length false]) sz27 Z1 Z1 Z3 rfl (Nat.le_of_ble_eq_true rfl) Z9 rfl) ?_
   refine pA ?_
   refine fs ?_
   refine AWp.seq' ?_
   refine sr (N' := 384) rfl ?_
   iterate 4 first | refine pA ?_ | refine pB ?_
   refine pg rfl rfl Z2 (fun hb => (ap_ldv (Zh hb) Z3 Z4)) ?_
   iterate 2 refine pB ?_
   refine pg rfl rfl Z2 (fun hb => (ap_ldv (Zh hb) Z3 Z4)) ?_
   iterate 3 first | refine pA ?_ | refine pB ?_
   refine fs ?_
   refine AWp.condM hm Z1 (fun _ hm => ?_) (fun _ hm => ?_)
   ·
    refine sr (N' := 448) rfl ?_
    refine pA ?_
    refine fs ?_
    refine AWp.ret ?_
    refine retSeq ?_
    cases hm
    exact ret1D (.inr rfl) Try.results20 (td Z1 (.v _))
   ·
    refine AWp.skip ?_
    refine normSeq ?_
    refine AWp.seq' ?_
    refine sr (N' := 448) rfl ?_
    refine pA ?_
    refine pu rfl (ap_ldv Z1 Z3 Z4) ?_
    iterate 2 refine pA ?_
    refine fs ?_
    refine AWp.block ?_
    refine AWp.loopM (fun m s => ∃ (g_3 : GGraph) (a_7 : GGraph) (b_9 : GGraph) (t56 : List GEdge) (t57 : Int) (t58 : Int), s = (⟨104, (fset (fset (fset (fset (fset (fset (fun _ => AV.any) 3 (.adr 1 0)) 7 (.adr 2 0)) 9 (.adr 3 0)) 56 (.sl (t56.flatMap cGEdge) t56.length false)) 57 (.v (.int .i64 t57))) 58 (.v (.int .i64 t58))), ⟨(upd (upd (upd nofresh 1 (.cells 1 [.v (.int .i64 g_3.Config.N), .v (.int .i64 g_3.Config.L), .v (.int .i64 g_3.Config.R), .sl (g_3.Hashes.flatMap cGHash) g_3.Hashes.length false, .sl (g_3.Edges.flatMap cGEdge) g_3.Edges.length false] 0)) 2 (.cells 1 [.v (.int .i64 a_7.Config.N), .v (.int .i64 a_7.Config.L), .v (.int .i64 a_7.Config.R), .sl (a_7.Hashes.flatMap cGHash) a_7.Hashes.length false, .sl (a_7.Edges.flatMap cGEdge) a_7.Edges.length false] 0)) 3 (.cells 1 [.v (.int .i64 b_9.Config.N), .v (.int .i64 b_9.Config.L), .v (.int .i64 b_9.Config.R), .sl (b_9.Hashes.flatMap cGHash) b_9.Hashes.length false, .sl (b_9.Edges.flatMap cGEdge) b_9.Edges.length false] 0)), 64⟩⟩ : St) ∧ TiersBack_L1 m g_3 a_7 b_9 t56 t57 t58 = some r) FUEL ?_ ?_ ?_
    ·
     rintro s ⟨_, _, _, _, _, _, _, h⟩
     cases h
    ·
     refine ⟨_, ?_, g_0, r8, r15, r15.Edges, (r15.Edges.length : Int), 0, rfl, hm⟩
     exact le_canon (fun j => bif j == 1 then 0 else bif j == 2 then 135 else bif j == 3 then 263 else 0) (wV (wV (wD (CFGEdge.sl _ _ _) (wk_fset _ _ (wk_adr Z1 rfl Z7) (wk_fset _ _ (wk_adr Z1 rfl Z7) (wk_fset _ _ (wk_adr Z1 rfl Z7) wk_none)))))) (heapWk_of _ (entWk_upd (entWk_data Z3 (Nat.le_refl _) (Nat.zero_le _) (CFGGraph.dat r15)) (entWk_upd (entWk_data Z3 (Nat.le_refl _) (Nat.zero_le _) (CFGGraph.dat r8)) (entWk_upd (entWk_data Z3 (Nat.le_refl _) (Nat.zero_le _) (CFGGraph.dat g_0)) entWk_none))) Z8)
    ·
     rintro n1 s ⟨g_3, a_7, b_9, t56, t57, t58, rfl, hm⟩
     replace hm : TiersBack_B1 (TiersBack_L1 n1) g_3 a_7 b_9 t56 t57 t58 = some r := hm
     unfold TiersBack_B1 at hm
     refine sr (N' := 128) rfl ?_
     refine pA ?_
     refine fs ?_
     refine AWp.seq' ?_
     refine AWp.condM hm Z1 (fun _ hm => ?_) (fun _ hm => ?_)
     ·
      refine AWp.skip ?_
      refine normSeq ?_
      refine AWp.seq' ?_
      refine AWp.block ?_
      refine sr (N' := 192) rfl ?_
      refine pA ?_
      obtain ⟨x18, h17, hm⟩ := bnd hm
      refine pu rfl (ap_idx CFGEdge Zd Try.underlying25 sz38 Z1 rfl Z1 h17) ?_
      refine pA ?_
      refine hp (id := 131) rfl rfl (aheap_alloc' zc38 Z5) ?_
      refine pA ?_
      refine ARun.heap0 (id := 133) rfl (ah_var (ys := [.v (.int .i64 x18.U), .v (.int .i64 x18.V), .v (.int .i64 x18.Tier)]) sz38 Z1 Z1 Z3 rfl (Nat.le_of_ble_eq_true rfl) Z9 rfl) ?_
      refine fs ?_
      refine sd mix (by kernel_rfl) (N' := 256) rfl ?_
      refine pA ?_
      refine pu rfl (ap_ldv Z1 Z3 Z4) ?_
      refine pA ?_
      refine pu rfl (ap_ldv Z1 Z3 Z4) ?_
      refine pA ?_
      obtain ⟨x20, h19, hm⟩ := bnd hm
      refine pu rfl (ap_idx CFGEdge Zd Try.underlying25 sz38 Z1 rfl Z1 h19) ?_
      iterate 5 first | refine pA ?_ | refine pB ?_
      refine pg rfl rfl Z2 (fun hb => (ap_ldv (Zh hb) Z3 Z4)) ?_
      refine pB ?_
      refine pg rfl rfl Z2 (fun hb => (ap_ldv (Zh hb) Z3 Z4)) ?_
      refine pB ?_
      obtain ⟨x22, h21, hm⟩ := bnd hm
      refine pg rfl rfl Z2 (fun hb => (ap_idx CFGEdge Zd Try.underlying25 sz38 (Zh hb) rfl (Zh hb) (gopt_t h21 hb))) ?_
      iterate 4 first | refine pA ?_ | refine pB ?_
      refine fs ?_
      refine AWp.condM hm Z1 (fun _ hm => ?_) (fun _ hm => ?_)
      ·
       refine sr (N' := 320) rfl ?_
       refine pA ?_
       refine fs ?_
       refine AWp.ret ?_
       refine retIn ?_
       refine retSeq ?_
       refine retThen ?_
       refine retIn ?_
       refine retSeq ?_
       cases hm
       exact ret1D (.inr rfl) Try.results20 (td Z1 (.v _))
      ·
       refine AWp.skip ?_
       refine normIn ?_
       refine normSeq ?_
       refine AWp.reg 64 (N' := 320) rfl ?_
       iterate 2 refine pA ?_
       refine ARun.fin ?_
       refine normThen ?_
       refine ⟨_, ?_, g_3, a_7, b_9, t56, t57, (IntKind.i64.wrap (t58 + 1)), rfl, hm⟩
       exact le_canon (fun j => bif j == 1 then 1 else bif j == 2 then 2 else bif j == 3 then 3 else 0) (wV (wV (wD (CFGEdge.sl _ _ _) (wk_fset _ _ (wk_adr Z1 rfl Z7) (wk_fset _ _ (wk_adr Z1 rfl Z7) (wk_fset _ _ (wk_adr Z1 rfl Z7) wk_none)))))) (heapWk_of _ (entWk_upd (entWk_data Z3 (Nat.le_refl _) (Nat.zero_le _) (CFGGraph.dat b_9)) (entWk_upd (entWk_data Z3 (Nat.le_refl _) (Nat.zero_le _) (CFGGraph.dat a_7)) (entWk_upd (entWk_data Z3 (Nat.le_refl _) (Nat.zero_le _) (CFGGraph.dat g_3)) entWk_none))) Z8)
     ·
      refine AWp.exit ?_
      refine exitSeq ?_
      refine exitThen ?_
      refine exitHere ?_
      refine normSeq ?_
      refine sd mix (by kernel_rfl) (N' := 192) rfl ?_
      refine pu rfl (ap_ldv Z1 Z3 Z2) ?_
      obtain ⟨r24, h23, hm⟩ := bnd hm
      refine ARun.callQ (r := .v (.bool r24)) Zd Z1 fb45 (fun H => (cD (.agg _ (CFGGraph.dat _)) .nil)) (searchRight_c h23) ?_
      refine pA ?_
      refine pg rfl rfl Z2 (fun hb => (ap_ldv (Zh hb) Z3 Z2)) ?_
      obtain ⟨r26, h25, hm⟩ := bnd hm
      refine ARun.callQG (r := .v (.bool r26)) Zd rfl Z2 Z1 fb45 (fun hb H => (.cons (td (Zh hb) (.agg _ (CFGGraph.dat _))) .nil)) (fun hb => searchRight_c (gopt_t h25 hb)) ?_
      iterate 2 refine pA ?_
      refine pg rfl rfl Z2 (fun hb => (ap_ldv (Zh hb) Z3 Z2)) ?_
      obtain ⟨r28, h27, hm⟩ := bnd hm
      refine ARun.callQG (r := .sl (r28.flatMap (ci .i64)) r28.length false) Zd rfl Z2 Z1 fb39 (fun hb H => (.cons (td (Zh hb) (.agg _ (CFGGraph.dat _))) .nil)) (fun hb => tiersKept_c (gopt_t h27 hb)) ?_
      iterate 2 refine pB ?_
      refine pg rfl rfl Z2 (fun hb => (ap_ldv (Zh hb) Z3 Z4)) ?_
      refine pB ?_
      refine pg rfl rfl Z2 (fun hb => (ap_ldv (Zh hb) Z3 Z4)) ?_
      obtain ⟨r30, h29, hm⟩ := bnd hm
      refine ARun.callQG (r := .sl (r30.flatMap (ci .i64)) r30.length false) Zd rfl Z2 Z1 fb71 (fun hb H => (.cons (td (Zh hb) (.v _)) (.cons (td (Zh hb) (CFGEdge.sl _ _ _)) .nil))) (fun hb => ref09Of_c (gopt_t h29 hb)) ?_
      obtain ⟨r32, h31, hm⟩ := bnd hm
      refine ARun.callQG (r := .v (.bool r32)) Zd rfl Z2 Z1 fb38 (fun hb H => (.cons (td (Zh hb) ((CFi .i64).sl _ _ _)) (.cons (td (Zh hb) ((CFi .i64).sl _ _ _)) .nil))) (fun hb => partRefines_c (gopt_t h31 hb)) ?_
      iterate 2 refine pA ?_
      obtain ⟨r34, h33, hm⟩ := bnd hm
      refine ARun.callQG (r := .v (.bool r34)) Zd rfl Z2 Z1 fb67 (fun hb H => .nil) (fun hb => law15Awake_c (gopt_t h33 hb)) ?_
      iterate 2 refine pA ?_
      refine fs ?_
      refine AWp.ret ?_
      cases hm
      exact ret1D (.inr rfl) Try.results20 (td Z1 (.v _))
def TiersMend_B1 (rec1 : GGraph → GGraph → List GEdge → Int → Int → Option (Bool)) (g_3 : GGraph) (m_7 : GGraph) (t48 : List GEdge) (t49 : Int) (t50 : Int) : Option (Bool) :=
 (bif (decide (t50 < t49)) then
  ((idx t48 t50).bind fun x17 =>
  ((idx g_3.Edges t50).bind fun x19 =>
  ((gopt ((x17.U != x19.U) == false) (GEdge.mk 0 0 0) (idx g_3.Edges t50)).bind fun x21 =>
  (bif ((x17.U != x19.U) || (x17.V != x21.V)) then
   some false
  else
   rec1 g_3 m_7 t48 t49 (IntKind.i64.wrap (t50 + 1))))))
 else
  ((tiersKept_m g_3).bind fun r23 =>
  ((tiersKept_m m_7).bind fun r25 =>
  ((partRefines_m r23 r25).bind fun r27 =>
  ((gopt (r27 == true) false (law15Awake_m )).bind fun r29 =>
  some (r27 && r29))))))
def TiersMend_L1 : Nat → GGraph → GGraph → List GEdge → Int → Int → Option (Bool)
 | 0 => fun _ _ _ _ _ => none
 | n + 1 => TiersMend_B1 (TiersMend_L1 n)
def TiersMend_m (g_0 : GGraph) (u_1 : Int) (v_2 : Int) : Option (Bool) :=
 ((ref14Small_m g_0).bind fun r2 =>
 ((gopt ((!r2) == false) false (searchRight_m g_0)).bind fun r4 =>
 (bif ((!r2) || (!r4)) then
  ((law15Awake_m ).bind fun r6 =>
  some r6)
 else
  ((tiersMend_m g_0 u_1 v_2).bind fun ⟨r8, r9⟩ =>
  (bif (r9 != 0) then
   ((ref15Same_m r8 g_0).bind fun r11 =>
   ((gopt (r11 == true) false (law15Awake_m )).bind fun r13 =>
   some (r11 && r13)))
  else
   ((gopt (((r8.Edges.length : Int) != (g_0.Edges.length : Int)) == false) false (searchRight_m r8)).bind fun r15 =>
   (bif (((r8.Edges.length : Int) != (g_0.Edges.length : Int)) || (!r15)) then
    some false
   else
    TiersMend_L1 FUEL g_0 r8 r8.Edges (r8.Edges.length : Int) 0)))))))
theorem TiersMend_c {g_0 : GGraph} {u_1 : Int} {v_2 : Int} {r : Bool} (hm : TiersMend_m g_0 u_1 v_2 = some r) : PureC Try.prog 21 [.agg [.v (.int .i64 g_0.Config.N), .v (.int .i64 g_0.Config.L), .v (.int .i64 g_0.Config.R), .sl (g_0.Hashes.flatMap cGHash) g_0.Hashes.length false, .sl (g_0.Edges.flatMap cGEdge) g_0.Edges.length false], .v (.int .i64 u_1), .v (.int .i64 v_2)] (.v (.bool r)) := by
 refine PureC.of_body Try.func21 rfl ?_
 simp only [Try.ntmps21, List.length_cons, List.length_nil, Nat.reduceAdd, Nat.reduceSub, empty_eq]
 unfold TiersMend_m at hm
 refine sr (N' := 64) rfl ?_
 refine hp (id := 0) rfl rfl (aheap_box Z1 Z5) ?_
 refine pA ?_
 refine fs ?_
 refine AWp.seq' ?_
 refine sr (N' := 128) rfl ?_
 refine pu rfl (ap_ldv Z1 Z3 Z2) ?_
 obtain ⟨r2, h1, hm⟩ := bnd hm
 refine ARun.callQ (r := .v (.bool r2)) Zd Z1 fb25 (fun H => (cD (.agg _ (CFGGraph.dat _)) .nil)) (ref14Small_c h1) ?_
 iterate 2 refine pA ?_
 refine pg rfl rfl Z2 (fun hb => (ap_ldv (Zh hb) Z3 Z2)) ?_
 obtain ⟨r4, h3, hm⟩ := bnd hm
 refine ARun.callQG (r := .v (.bool r4)) Zd rfl Z2 Z1 fb45 (fun hb H => (.cons (td (Zh hb) (.agg _ (CFGGraph.dat _))) .nil)) (fun hb => searchRight_c (gopt_t h3 hb)) ?_
 iterate 2 first | refine pA ?_ | refine pB ?_
 refine fs ?_
 refine AWp.condM hm Z1 (fun _ hm => ?_) (fun _ hm => ?_)
 ·
  refine sr (N' := 192) rfl ?_
  obtain ⟨r6, h5, hm⟩ := bnd hm
  refine ARun.callQ (r := .v (.bool r6)) Zd Z1 fb67 (fun H => .nil) (law15Awake_c h5) ?_
  refine pA ?_
  refine fs ?_
  refine AWp.ret ?_
  refine retSeq ?_
  cases hm
  exact ret1D (.inr rfl) Try.results21 (td Z1 (.v _))
 ·
  refine AWp.skip ?_
  refine normSeq ?_
  refine sr (N' := 192) rfl ?_
  refine pu rfl (ap_ldv Z1 Z3 Z2) ?_
  iterate 2 refine pA ?_
  obtain ⟨⟨r8, r9⟩, h7, hm⟩ := bnd hm
  refine ARun.callQ (r := .tup [.agg [.v (.int .i64 r8.Config.N), .v (.int .i64 r8.Config.L), .v (.int .i64 r8.Config.R), .sl (r8.Hashes.flatMap cGHash) r8.Hashes.length false, .sl (r8.Edges.flatMap cGEdge) r8.Edges.length false], .v (.int .i64 r9)]) Zd Z1 fb64 (fun H => (cD (.agg _ (CFGGraph.dat _)) (cV (cV .nil)))) (tiersMend_c h7) ?_
  iterate 3 refine pA ?_
  refine hp (id := 135) rfl rfl (aheap_alloc' zc27 Z5) ?_
  refine ARun.heap0 (id := 136) rfl (ah_var (ys := [.v (.int .i64 r8.Config.N), .v (.int .i64 r8.Config.L), .v (.int .i64 r8.Config.R), .sl (r8.Hashes.flatMap cGHash) r8.Hashes.length false, .sl (r8.Edges.flatMap cGEdge) r8.Edges.length false]) sz27 Z1 Z1 Z3 rfl (Nat.le_of_ble_eq_true rfl) Z9 rfl) ?_
  refine pA ?_
  refine fs ?_
  refine AWp.seq' ?_
  refine sr (N' := 256) rfl ?_
  iterate 2 refine pA ?_
  refine fs ?_
  refine AWp.condM hm Z1 (fun _ hm => ?_) (fun _ hm => ?_)
  ·
   refine sr (N' := 320) rfl ?_
   refine pu rfl (ap_ldv Z1 Z3 Z2) ?_
   refine pu rfl (ap_ldv Z1 Z3 Z2) ?_
   obtain ⟨r11, h10, hm⟩ := bnd hm
   refine ARun.callQ (r := .v (.bool r11)) Zd Z1 fb74 (fun H => (cD (.agg _ (CFGGraph.dat _)) (cD (.agg _ (CFGGraph.dat _)) .nil))) (ref15Same_c h10) ?_
   refine pA ?_
   obtain ⟨r13, h12, hm⟩ := bnd hm
   refine ARun.callQG (r := .v (.bool r13)) Zd rfl Z2 Z1 fb67 (fun hb H => .nil) (fun hb => law15Awake_c (gopt_t h12 hb)) ?_
   iterate 2 refine pA ?_
   refine fs ?_
   refine AWp.ret ?_
   refine retSeq ?_
   cases hm
   exact ret1D (.inr rfl) Try.results21 (td Z1 (.v _))
  ·
   refine AWp.skip ?_
   refine normSeq ?_
   refine AWp.seq' ?_
   refine sr (N' := 320) rfl ?_
   refine pA ?_
   refine pu rfl (ap_ldv Z1 Z3 Z4) ?_
   iterate 2 refine pA ?_
   refine pu rfl (ap_ldv Z1 Z3 Z4) ?_
   iterate 3 refine pA ?_
   refine pg rfl rfl Z2 (fun hb => (ap_ldv (Zh hb) Z3 Z2)) ?_
   obtain ⟨r15, h14, hm⟩ := bnd hm
   refine ARun.callQG (r := .v (.bool r15)) Zd rfl Z2 Z1 fb45 (fun hb H => (.cons (td (Zh hb) (.agg _ (CFGGraph.dat _))) .nil)) (fun hb => searchRight_c (gopt_t h14 hb)) ?_
   iterate 2 first | refine pA ?_ | refine pB ?_
   refine fs ?_
   refine AWp.condM hm Z1 (fun _ hm => ?_) (fun _ hm => ?_)
   ·
    refine sr (N' := 384) rfl ?_
    refine pA ?_
    refine fs ?_
    refine AWp.ret ?_
    refine retSeq ?_
    cases hm
    exact ret1D (.inr rfl) Try.results21 (td Z1 (.v _))
   ·
    refine AWp.skip ?_
    refine normSeq ?_
    refine AWp.seq' ?_
    refine sr (N' := 384) rfl ?_
    refine pA ?_
    refine pu rfl (ap_ldv Z1 Z3 Z4) ?_
    iterate 2 refine pA ?_
    refine fs ?_
    refine AWp.block ?_
    refine AWp.loopM (fun m s => ∃ (g_3 : GGraph) (m_7 : GGraph) (t48 : List GEdge) (t49 : Int) (t50 : Int), s = (⟨84, (fset (fset (fset (fset (fset (fun _ => AV.any) 3 (.adr 1 0)) 7 (.adr 2 0)) 48 (.sl (t48.flatMap cGEdge) t48.length false)) 49 (.v (.int .i64 t49))) 50 (.v (.int .i64 t50))), ⟨(upd (upd nofresh 1 (.cells 1 [.v (.int .i64 g_3.Config.N), .v (.int .i64 g_3.Config.L), .v (.int .i64 g_3.Config.R), .sl (g_3.Hashes.flatMap cGHash) g_3.Hashes.length false, .sl (g_3.Edges.flatMap cGEdge) g_3.Edges.length false] 0)) 2 (.cells 1 [.v (.int .i64 m_7.Config.N), .v (.int .i64 m_7.Config.L), .v (.int .i64 m_7.Config.R), .sl (m_7.Hashes.flatMap cGHash) m_7.Hashes.length false, .sl (m_7.Edges.flatMap cGEdge) m_7.Edges.length false] 0)), 64⟩⟩ : St) ∧ TiersMend_L1 m g_3 m_7 t48 t49 t50 = some r) FUEL ?_ ?_ ?_
    ·
     rintro s ⟨_, _, _, _, _, _, h⟩
     cases h
    ·
     refine ⟨_, ?_, g_0, r8, r8.Edges, (r8.Edges.length : Int), 0, rfl, hm⟩
     exact le_canon (fun j => bif j == 1 then 0 else bif j == 2 then 135 else 0) (wV (wV (wD (CFGEdge.sl _ _ _) (wk_fset _ _ (wk_adr Z1 rfl Z7) (wk_fset _ _ (wk_adr Z1 rfl Z7) wk_none))))) (hW (entWk_upd (entWk_data Z3 (Nat.le_refl _) (Nat.zero_le _) (CFGGraph.dat r8)) (entWk_upd (entWk_data Z3 (Nat.le_refl _) (Nat.zero_le _) (CFGGraph.dat g_0)) entWk_none)))
    ·
     rintro n1 s ⟨g_3, m_7, t48, t49, t50, rfl, hm⟩
     replace hm : TiersMend_B1 (TiersMend_L1 n1) g_3 m_7 t48 t49 t50 = some r := hm
     unfold TiersMend_B1 at hm
     refine sr (N' := 128) rfl ?_
     refine pA ?_
     refine fs ?_
     refine AWp.seq' ?_
     refine AWp.condM hm Z1 (fun _ hm => ?_) (fun _ hm => ?_)
     ·
      refine AWp.skip ?_
      refine normSeq ?_
      refine AWp.seq' ?_
      refine AWp.block ?_
      refine sr (N' := 192) rfl ?_
      refine pA ?_
      obtain ⟨x17, h16, hm⟩ := bnd hm
      refine pu rfl (ap_idx CFGEdge Zd Try.underlying25 sz38 Z1 rfl Z1 h16) ?_
      refine pA ?_
      refine hp (id := 131) rfl rfl (aheap_alloc' zc38 Z5) ?_
      refine pA ?_
      refine ARun.heap0 (id := 133) rfl (ah_var (ys := [.v (.int .i64 x17.U), .v (.int .i64 x17.V), .v (.int .i64 x17.Tier)]) sz38 Z1 Z1 Z3 rfl (Nat.le_of_ble_eq_true rfl) Z9 rfl) ?_
      refine fs ?_
      refine sd mix (by kernel_rfl) (N' := 256) rfl ?_
      refine pA ?_
      refine pu rfl (ap_ldv Z1 Z3 Z4) ?_
      refine pA ?_
      refine pu rfl (ap_ldv Z1 Z3 Z4) ?_
      refine pA ?_
      obtain ⟨x19, h18, hm⟩ := bnd hm
      refine pu rfl (ap_idx CFGEdge Zd Try.underlying25 sz38 Z1 rfl Z1 h18) ?_
      iterate 5 first | refine pA ?_ | refine pB ?_
      refine pg rfl rfl Z2 (fun hb => (ap_ldv (Zh hb) Z3 Z4)) ?_
      refine pB ?_
      refine pg rfl rfl Z2 (fun hb => (ap_ldv (Zh hb) Z3 Z4)) ?_
      refine pB ?_
      obtain ⟨x21, h20, hm⟩ := bnd hm
      refine pg rfl rfl Z2 (fun hb => (ap_idx CFGEdge Zd Try.underlying25 sz38 (Zh hb) rfl (Zh hb) (gopt_t h20 hb))) ?_
      iterate 4 first | refine pA ?_ | refine pB ?_
      refine fs ?_
      refine AWp.condM hm Z1 (fun _ hm => ?_) (fun _ hm => ?_)
      ·
       refine sr (N' := 320) rfl ?_
       refine pA ?_
       refine fs ?_
       refine AWp.ret ?_
       refine retIn ?_
       refine retSeq ?_
       refine retThen ?_
       refine retIn ?_
       refine retSeq ?_
       cases hm
       exact ret1D (.inr rfl) Try.results21 (td Z1 (.v _))
      ·
       refine AWp.skip ?_
       refine normIn ?_
       refine normSeq ?_
       refine AWp.reg 64 (N' := 320) rfl ?_
       iterate 2 refine pA ?_
       refine ARun.fin ?_
       refine normThen ?_
       refine ⟨_, ?_, g_3, m_7, t48, t49, (IntKind.i64.wrap (t50 + 1)), rfl, hm⟩
       exact le_canon (fun j => bif j == 1 then 1 else bif j == 2 then 2 else 0) (wV (wV (wD (CFGEdge.sl _ _ _) (wk_fset _ _ (wk_adr Z1 rfl Z7) (wk_fset _ _ (wk_adr Z1 rfl Z7) wk_none))))) (hW (entWk_upd (entWk_data Z3 (Nat.le_refl _) (Nat.zero_le _) (CFGGraph.dat m_7)) (entWk_upd (entWk_data Z3 (Nat.le_refl _) (Nat.zero_le _) (CFGGraph.dat g_3)) entWk_none)))
     ·
      refine AWp.exit ?_
      refine exitSeq ?_
      refine exitThen ?_
      refine exitHere ?_
      refine normSeq ?_
      refine sd mix (by kernel_rfl) (N' := 192) rfl ?_
      refine pu rfl (ap_ldv Z1 Z3 Z2) ?_
      obtain ⟨r23, h22, hm⟩ := bnd hm
      refine ARun.callQ (r := .sl (r23.flatMap (ci .i64)) r23.length false) Zd Z1 fb39 (fun H => (cD (.agg _ (CFGGraph.dat _)) .nil)) (tiersKept_c h22) ?_
      refine pu rfl (ap_ldv Z1 Z3 Z2) ?_
      obtain ⟨r25, h24, hm⟩ := bnd hm
      refine ARun.callQ (r := .sl (r25.flatMap (ci .i64)) r25.length false) Zd Z1 fb39 (fun H => (cD (.agg _ (CFGGraph.dat _)) .nil)) (tiersKept_c h24) ?_
      obtain ⟨r27, h26, hm⟩ := bnd hm
      refine ARun.callQ (r := .v (.bool r27)) Zd Z1 fb38 (fun H => (cD ((CFi .i64).sl _ _ _) (cD ((CFi .i64).sl _ _ _) .nil))) (partRefines_c h26) ?_
      refine pA ?_
      obtain ⟨r29, h28, hm⟩ := bnd hm
      refine ARun.callQG (r := .v (.bool r29)) Zd rfl Z2 Z1 fb67 (fun hb H => .nil) (fun hb => law15Awake_c (gopt_t h28 hb)) ?_
      iterate 2 refine pA ?_
      refine fs ?_
      refine AWp.ret ?_
      cases hm
      exact ret1D (.inr rfl) Try.results21 (td Z1 (.v _))
def AuditMends_m (g_0 : GGraph) (u_1 : Int) (v_2 : Int) : Option (Bool) :=
 ((ref14Small_m g_0).bind fun r2 =>
 ((gopt ((!r2) == false) false (ref14Right_m g_0)).bind fun r4 =>
 (bif ((!r2) || (!r4)) then
  ((law20Awake_m ).bind fun r6 =>
  some r6)
 else
  ((tiersMend_m g_0 u_1 v_2).bind fun ⟨r8, r9⟩ =>
  ((auditMissing_m r8).bind fun r11 =>
  ((auditMissing_m g_0).bind fun r13 =>
  ((gopt ((decide (r11 ≤ r13)) == true) [] (auditSo_m r8)).bind fun r15 =>
  ((gopt ((decide (r11 ≤ r13)) == true) [] (auditSo_m g_0)).bind fun r17 =>
  ((gopt ((decide (r11 ≤ r13)) == true) false (ref06Same_m r15 r17)).bind fun r19 =>
  ((gopt (((decide (r11 ≤ r13)) && r19) == true) false (auditExact_m g_0)).bind fun r21 =>
  ((gopt ((((decide (r11 ≤ r13)) && r19) == true) && ((!r21) == false)) false (auditExact_m r8)).bind fun r23 =>
  ((gopt ((((decide (r11 ≤ r13)) && r19) && ((!r21) || r23)) == true) false (law20Awake_m )).bind fun r25 =>
  some ((((decide (r11 ≤ r13)) && r19) && ((!r21) || r23)) && r25)))))))))))))
theorem AuditMends_c {g_0 : GGraph} {u_1 : Int} {v_2 : Int} {r : Bool} (hm : AuditMends_m g_0 u_1 v_2 = some r) : PureC Try.prog 14 [.agg [.v (.int .i64 g_0.Config.N), .v (.int .i64 g_0.Config.L), .v (.int .i64 g_0.Config.R), .sl (g_0.Hashes.flatMap cGHash) g_0.Hashes.length false, .sl (g_0.Edges.flatMap cGEdge) g_0.Edges.length false], .v (.int .i64 u_1), .v (.int .i64 v_2)] (.v (.bool r)) := by
 refine PureC.of_body Try.func14 rfl ?_
 simp only [Try.ntmps14, List.length_cons, List.length_nil, Nat.reduceAdd, Nat.reduceSub, empty_eq]
 unfold AuditMends_m at hm
 refine sr (N' := 64) rfl ?_
 refine hp (id := 0) rfl rfl (aheap_box Z1 Z5) ?_
 refine pA ?_
 refine fs ?_
 refine AWp.seq' ?_
 refine sr (N' := 128) rfl ?_
 refine pu rfl (ap_ldv Z1 Z3 Z2) ?_
 obtain ⟨r2, h1, hm⟩ := bnd hm
 refine ARun.callQ (r := .v (.bool r2)) Zd Z1 fb25 (fun H => (cD (.agg _ (CFGGraph.dat _)) .nil)) (ref14Small_c h1) ?_
 iterate 2 refine pA ?_
 refine pg rfl rfl Z2 (fun hb => (ap_ldv (Zh hb) Z3 Z2)) ?_
 obtain ⟨r4, h3, hm⟩ := bnd hm
 refine ARun.callQG (r := .v (.bool r4)) Zd rfl Z2 Z1 fb29 (fun hb H => (.cons (td (Zh hb) (.agg _ (CFGGraph.dat _))) .nil)) (fun hb => ref14Right_c (gopt_t h3 hb)) ?_
 iterate 2 first | refine pA ?_ | refine pB ?_
 refine fs ?_
 refine AWp.condM hm Z1 (fun _ hm => ?_) (fun _ hm => ?_)
 ·
  refine sr (N' := 192) rfl ?_
  obtain ⟨r6, h5, hm⟩ := bnd hm
  refine ARun.callQ (r := .v (.bool r6)) Zd Z1 fb26 (fun H => .nil) (law20Awake_c h5) ?_
  refine pA ?_
  refine fs ?_
  refine AWp.ret ?_
  refine retSeq ?_
  cases hm
  exact ret1D (.inr rfl) Try.results14 (td Z1 (.v _))
 ·
  refine AWp.skip ?_
  refine normSeq ?_
  refine sr (N' := 192) rfl ?_
  refine pu rfl (ap_ldv Z1 Z3 Z2) ?_
  iterate 2 refine pA ?_
  obtain ⟨⟨r8, r9⟩, h7, hm⟩ := bnd hm
  refine ARun.callQ (r := .tup [.agg [.v (.int .i64 r8.Config.N), .v (.int .i64 r8.Config.L), .v (.int .i64 r8.Config.R), .sl (r8.Hashes.flatMap cGHash) r8.Hashes.length false, .sl (r8.Edges.flatMap cGEdge) r8.Edges.length false], .v (.int .i64 r9)]) Zd Z1 fb64 (fun H => (cD (.agg _ (CFGGraph.dat _)) (cV (cV .nil)))) (tiersMend_c h7) ?_
  iterate 3 refine pA ?_
  refine hp (id := 135) rfl rfl (aheap_alloc' zc27 Z5) ?_
  refine ARun.heap0 (id := 136) rfl (ah_var (ys := [.v (.int .i64 r8.Config.N), .v (.int .i64 r8.Config.L), .v (.int .i64 r8.Config.R), .sl (r8.Hashes.flatMap cGHash) r8.Hashes.length false, .sl (r8.Edges.flatMap cGEdge) r8.Edges.length false]) sz27 Z1 Z1 Z3 rfl (Nat.le_of_ble_eq_true rfl) Z9 rfl) ?_
  refine pA ?_
  refine fs ?_
  refine sd mix (by kernel_rfl) (N' := 256) rfl ?_
  refine pu rfl (ap_ldv Z1 Z3 Z2) ?_
  obtain ⟨r11, h10, hm⟩ := bnd hm
  refine ARun.callQ (r := .v (.int .i64 r11)) Zd Z1 fb31 (fun H => (cD (.agg _ (CFGGraph.dat _)) .nil)) (auditMissing_c h10) ?_
  refine pu rfl (ap_ldv Z1 Z3 Z2) ?_
  obtain ⟨r13, h12, hm⟩ := bnd hm
  refine ARun.callQ (r := .v (.int .i64 r13)) Zd Z1 fb31 (fun H => (cD (.agg _ (CFGGraph.dat _)) .nil)) (auditMissing_c h12) ?_
  iterate 2 refine pA ?_
  refine pg rfl rfl Z2 (fun hb => (ap_ldv (Zh hb) Z3 Z2)) ?_
  obtain ⟨r15, h14, hm⟩ := bnd hm
  refine ARun.callQG (r := .sl (r15.flatMap (ci .i64)) r15.length false) Zd rfl Z2 Z1 fb27 (fun hb H => (.cons (td (Zh hb) (.agg _ (CFGGraph.dat _))) .nil)) (fun hb => auditSo_c (gopt_t h14 hb)) ?_
  refine pg rfl rfl Z2 (fun hb => (ap_ldv (Zh hb) Z3 Z2)) ?_
  obtain ⟨r17, h16, hm⟩ := bnd hm
  refine ARun.callQG (r := .sl (r17.flatMap (ci .i64)) r17.length false) Zd rfl Z2 Z1 fb27 (fun hb H => (.cons (td (Zh hb) (.agg _ (CFGGraph.dat _))) .nil)) (fun hb => auditSo_c (gopt_t h16 hb)) ?_
  obtain ⟨r19, h18, hm⟩ := bnd hm
  refine ARun.callQG (r := .v (.bool r19)) Zd rfl Z2 Z1 fb34 (fun hb H => (.cons (td (Zh hb) ((CFi .i64).sl _ _ _)) (.cons (td (Zh hb) ((CFi .i64).sl _ _ _)) .nil))) (fun hb => ref06Same_c (gopt_t h18 hb)) ?_
  iterate 2 refine pA ?_
  refine pg rfl rfl Z2 (fun hb => (ap_ldv (Zh hb) Z3 Z2)) ?_
  obtain ⟨r21, h20, hm⟩ := bnd hm
  refine ARun.callQG (r := .v (.bool r21)) Zd rfl Z2 Z1 fb30 (fun hb H => (.cons (td (Zh hb) (.agg _ (CFGGraph.dat _))) .nil)) (fun hb => auditExact_c (gopt_t h20 hb)) ?_
  iterate 2 refine pB ?_
  refine pg rfl rfl Z2 (fun hb => (ap_ldv (Zh hb) Z3 Z2)) ?_
  obtain ⟨r23, h22, hm⟩ := bnd hm
  refine ARun.callQG (r := .v (.bool r23)) Zd rfl Z2 Z1 fb30 (fun hb H => (.cons (td (Zh hb) (.agg _ (CFGGraph.dat _))) .nil)) (fun hb => auditExact_c (gopt_t h22 hb)) ?_
  iterate 3 first | refine pA ?_ | refine pB ?_
  obtain ⟨r25, h24, hm⟩ := bnd hm
  refine ARun.callQG (r := .v (.bool r25)) Zd rfl Z2 Z1 fb26 (fun hb H => .nil) (fun hb => law20Awake_c (gopt_t h24 hb)) ?_
  iterate 2 refine pA ?_
  refine fs ?_
  refine AWp.ret ?_
  cases hm
  exact ret1D (.inr rfl) Try.results14 (td Z1 (.v _))
end Go.Proofs.Ytibnmlbjahcjmaa
