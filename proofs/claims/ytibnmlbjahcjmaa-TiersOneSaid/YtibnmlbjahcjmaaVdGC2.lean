/- Facts that the statement's proof is made of. No condition. -/
import Derived.Test.YtibnmlbjahcjmaaVdGC1
set_option linter.unusedVariables false
set_option linter.unusedSimpArgs false
set_option maxRecDepth 20000
set_option maxHeartbeats 4000000
namespace Go.Proofs.Ytibnmlbjahcjmaa
open Go Go.AM
theorem eqs23GC2 (x0 y0 x1 y1 x2 y2 : Int) : abin Try.prog .eql 23 (.agg [.v (.int .i64 x0), .v (.int .i64 x1), .v (.int .i64 x2)]) (.agg [.v (.int .i64 y0), .v (.int .i64 y1), .v (.int .i64 y2)]) = some (.v (.bool ((x0 == y0) && ((x1 == y1) && (x2 == y2))))) :=
 (by kernel_rfl : abin Try.prog .eql 23 (.agg [.v (.int .i64 x0), .v (.int .i64 x1), .v (.int .i64 x2)]) (.agg [.v (.int .i64 y0), .v (.int .i64 y1), .v (.int .i64 y2)]) = some (.v (.bool ((x0 == y0) && ((x1 == y1) && ((x2 == y2) && true)))))).trans (by rw [Bool.and_true])
theorem nqs23GC2 (x0 y0 x1 y1 x2 y2 : Int) : abin Try.prog .neq 23 (.agg [.v (.int .i64 x0), .v (.int .i64 x1), .v (.int .i64 x2)]) (.agg [.v (.int .i64 y0), .v (.int .i64 y1), .v (.int .i64 y2)]) = some (.v (.bool (!((x0 == y0) && ((x1 == y1) && (x2 == y2)))))) :=
 (by kernel_rfl : abin Try.prog .neq 23 (.agg [.v (.int .i64 x0), .v (.int .i64 x1), .v (.int .i64 x2)]) (.agg [.v (.int .i64 y0), .v (.int .i64 y1), .v (.int .i64 y2)]) = some (.v (.bool (!((x0 == y0) && ((x1 == y1) && ((x2 == y2) && true))))))).trans (by rw [Bool.and_true])
attribute [go_sem] eqs23GC2 nqs23GC2
theorem fa38_0GC2 (xs : List AV) : afieldAddr Try.prog 38 (.ptr (xs)) 0 = some (.ptr xs) := by kernel_rfl
attribute [go_sem] fa38_0GC2
theorem fa38_1GC2 (x0 : AV) (xs : List AV) : afieldAddr Try.prog 38 (.ptr (x0 :: xs)) 1 = some (.ptr xs) := by kernel_rfl
attribute [go_sem] fa38_1GC2
theorem fo23_0GC2 (i o : Nat) : afieldAddr Try.prog 23 (.adr i o) 0 = some (.adr i (o + 0)) := by kernel_rfl
attribute [go_sem] fo23_0GC2
theorem fo23_1GC2 (i o : Nat) : afieldAddr Try.prog 23 (.adr i o) 1 = some (.adr i (o + 1)) := by kernel_rfl
attribute [go_sem] fo23_1GC2
theorem fo27_0GC2 (i o : Nat) : afieldAddr Try.prog 27 (.adr i o) 0 = some (.adr i (o + 0)) := by kernel_rfl
attribute [go_sem] fo27_0GC2
theorem fo27_1GC2 (i o : Nat) : afieldAddr Try.prog 27 (.adr i o) 1 = some (.adr i (o + 3)) := by kernel_rfl
attribute [go_sem] fo27_1GC2
theorem fo27_2GC2 (i o : Nat) : afieldAddr Try.prog 27 (.adr i o) 2 = some (.adr i (o + 4)) := by kernel_rfl
attribute [go_sem] fo27_2GC2
theorem fo38_0GC2 (i o : Nat) : afieldAddr Try.prog 38 (.adr i o) 0 = some (.adr i (o + 0)) := by kernel_rfl
attribute [go_sem] fo38_0GC2
theorem fo38_1GC2 (i o : Nat) : afieldAddr Try.prog 38 (.adr i o) 1 = some (.adr i (o + 1)) := by kernel_rfl
attribute [go_sem] fo38_1GC2
theorem fo38_2GC2 (i o : Nat) : afieldAddr Try.prog 38 (.adr i o) 2 = some (.adr i (o + 2)) := by kernel_rfl
attribute [go_sem] fo38_2GC2
theorem fo73_0GC2 (i o : Nat) : afieldAddr Try.prog 73 (.adr i o) 0 = some (.adr i (o + 0)) := by kernel_rfl
attribute [go_sem] fo73_0GC2
theorem fo73_1GC2 (i o : Nat) : afieldAddr Try.prog 73 (.adr i o) 1 = some (.adr i (o + 1)) := by kernel_rfl
attribute [go_sem] fo73_1GC2
theorem fo73_2GC2 (i o : Nat) : afieldAddr Try.prog 73 (.adr i o) 2 = some (.adr i (o + 2)) := by kernel_rfl
attribute [go_sem] fo73_2GC2
theorem ld23GC2 (H : Heap) (x0 x1 x2 : AV) (xs : List AV) : aload Try.prog H 23 (.ptr (x0 :: x1 :: x2 :: xs)) = some (.agg [x0, x1, x2]) := by kernel_rfl
attribute [go_sem] ld23GC2
theorem ld24GC2 (H : Heap) (x : AV) (xs : List AV) : aload Try.prog H 24 (.ptr (x :: xs)) = some x := by kernel_rfl
attribute [go_sem] ld24GC2
theorem ld25GC2 (H : Heap) (x : AV) (xs : List AV) : aload Try.prog H 25 (.ptr (x :: xs)) = some x := by kernel_rfl
attribute [go_sem] ld25GC2
theorem ld27GC2 (H : Heap) (x0 x1 x2 x3 x4 : AV) (xs : List AV) : aload Try.prog H 27 (.ptr (x0 :: x1 :: x2 :: x3 :: x4 :: xs)) = some (.agg [x0, x1, x2, x3, x4]) := by kernel_rfl
attribute [go_sem] ld27GC2
theorem ld3GC2 (H : Heap) (x : AV) (xs : List AV) : aload Try.prog H 3 (.ptr (x :: xs)) = some x := by kernel_rfl
attribute [go_sem] ld3GC2
theorem ld38GC2 (H : Heap) (x0 x1 x2 : AV) (xs : List AV) : aload Try.prog H 38 (.ptr (x0 :: x1 :: x2 :: xs)) = some (.agg [x0, x1, x2]) := by kernel_rfl
attribute [go_sem] ld38GC2
theorem ld4GC2 (H : Heap) (x : AV) (xs : List AV) : aload Try.prog H 4 (.ptr (x :: xs)) = some x := by kernel_rfl
attribute [go_sem] ld4GC2
theorem ld73GC2 (H : Heap) (x0 x1 x2 : AV) (xs : List AV) : aload Try.prog H 73 (.ptr (x0 :: x1 :: x2 :: xs)) = some (.agg [x0, x1, x2]) := by kernel_rfl
attribute [go_sem] ld73GC2
def slicesGrowEdge_J2 (s_0 : List GEdge) : Option ((List GEdge)) :=
 some s_0
def slicesGrowEdge_J1 (n_1 : Int) : Option ((List GEdge)) :=
 (bif (decide (0 < (IntKind.i64.wrap (n_1 - (IntKind.i64.wrap (((0 : Nat) : Int) - ((0 : Nat) : Int))))))) then
  ((chk (((0 : Nat) : Int) == 0)).bind fun _ =>
  ((chk (decide (0 < (IntKind.i64.wrap (n_1 - (IntKind.i64.wrap (((0 : Nat) : Int) - ((0 : Nat) : Int)))))) && decide ((IntKind.i64.wrap (n_1 - (IntKind.i64.wrap (((0 : Nat) : Int) - ((0 : Nat) : Int))))) ≤ 4294967296))).bind fun _ =>
  ((chk (((0 : Nat) : Int) == 0)).bind fun _ =>
  slicesGrowEdge_J2 [])))
 else
  slicesGrowEdge_J2 [])
def slicesGrowEdge_m (n_1 : Int) : Option ((List GEdge)) :=
 (bif (decide (n_1 < 0)) then
  none
 else
  slicesGrowEdge_J1 n_1)
theorem slicesGrowEdge_f {n_1 : Int} {r : (List GEdge)} (hm : slicesGrowEdge_m n_1 = some r) : FreshC Try.prog 137 [.v (.slice none 0 0), .v (.int .i64 n_1)] 3 (r.flatMap cGEdge) r.length := by
 refine FreshC.of_body Try.func137 rfl (CFGEdge.fmdat r) ?_
 simp only [Try.ntmps137, List.length_cons, List.length_nil, Nat.reduceAdd, Nat.reduceSub, empty_eq]
 unfold slicesGrowEdge_m at hm
 refine sr (N' := 64) rfl ?_
 refine pA ?_
 refine fs ?_
 refine AWp.seqJ (fun s => ∃ (n_1 : Int), s = (⟨27, (fset (fset (fun _ => AV.any) 0 (.v (.slice none 0 0))) 1 (.v (.int .i64 n_1))), ⟨nofresh, 64⟩⟩ : St) ∧ slicesGrowEdge_J1 n_1 = some r) ?_ ?_
 ·
  refine sr (N' := 128) rfl ?_
  iterate 2 refine pA ?_
  refine fs ?_
  refine AWp.condM hm Z1 (fun _ hm => ?_) (fun _ hm => ?_)
  ·
   cases hm
  ·
   refine AWp.skip ?_
   refine normJ ?_
   refine ⟨_, ?_, n_1, rfl, hm⟩
   exact le_canon id (wV (wV wk_none)) heapWk0
 ·
  rintro s ⟨n_1, rfl, hm⟩
  unfold slicesGrowEdge_J1 at hm
  refine AWp.seqJ (fun s => ∃ (s_0 : List GEdge), s = (⟨27, (fset (fun _ => AV.any) 0 (.own 1 0 s_0.length)), ⟨(upd nofresh 1 (.cells 3 (s_0.flatMap cGEdge) 0)), 64⟩⟩ : St) ∧ slicesGrowEdge_J2 s_0 = some r) ?_ ?_
  ·
   refine sr (N' := 128) rfl ?_
   iterate 2 refine pA ?_
   refine pu rfl (ap_capn Try.underlying25 Z1) ?_
   iterate 5 refine pA ?_
   refine fs ?_
   refine sr (N' := 192) rfl ?_
   iterate 2 refine pA ?_
   refine fs ?_
   refine AWp.condM hm Z1 (fun _ hm => ?_) (fun _ hm => ?_)
   ·
    refine AWp.reg 64 (N' := 256) rfl ?_
    iterate 2 refine pA ?_
    refine pu rfl (ap_capn Try.underlying25 Z1) ?_
    obtain ⟨_, h3, hm⟩ := bnd hm
    refine pu rfl (ap_slnil Try.underlying25 sz38 Z1 Z1 (eq_of_beq (chk_t h3))) ?_
    refine pA ?_
    obtain ⟨_, h4, hm⟩ := bnd hm
    refine hp (id := 197) rfl rfl (ah_appn Try.underlying25 Try.underlying3 rfl in38 ts38 (by rw [tb38]; decide) (by rw [tb38]; decide) tz38 Zd Zd Z1 Z1 Z5 h4) ?_
    iterate 2 refine pA ?_
    obtain ⟨_, h8, hm⟩ := bnd hm
    refine pu rfl (ap_slo0 Try.underlying25 sz38 Z1 Z3 Z1 (eq_of_beq (chk_t h8))) ?_
    refine pA ?_
    refine ARun.fin ?_
    refine normJ ?_
    refine ⟨_, ?_, [], rfl, hm⟩
    refine St.Le.trans (le_slc0 197 Z3) ?_
    exact le_canon (fun j => bif j == 1 then 197 else 0) (wO wk_none) (hW (eU CFGEdge entWk_none))
   ·
    refine AWp.skip ?_
    refine normJ ?_
    refine ⟨_, ?_, [], rfl, hm⟩
    refine St.Le.trans (le_nil 0 900000 3 Z1 Z5) ?_
    exact le_canon (fun j => bif j == 1 then 900000 else 0) (wO wk_none) (hW (eU CFGEdge entWk_none))
  ·
   rintro s ⟨s_0, rfl, hm⟩
   unfold slicesGrowEdge_J2 at hm
   refine sr (N' := 128) rfl ?_
   iterate 2 refine pA ?_
   refine fs ?_
   refine AWp.ret ?_
   cases hm
   exact retF (.inr rfl) Try.results137 Z1 Z3 Z6
def slicesConcatEdge_J1 (rec1 : List (List GEdge) → Int → List (List GEdge) → Int → Int → Option ((List GEdge))) (slices_0 : List (List GEdge)) (size_3 : Int) (t9 : List (List GEdge)) (t10 : Int) (t11 : Int) : Option ((List GEdge)) :=
 rec1 slices_0 size_3 t9 t10 (IntKind.i64.wrap (t11 + 1))
def slicesConcatEdge_B2 (rec2 : List GEdge → List (List GEdge) → Int → Int → Option ((List GEdge))) (newslice_6 : List GEdge) (t25 : List (List GEdge)) (t26 : Int) (t27 : Int) : Option ((List GEdge)) :=
 (bif (decide (t27 < t26)) then
  ((idx t25 t27).bind fun x6 =>
  ((app newslice_6 x6).bind fun l8 =>
  rec2 l8 t25 t26 (IntKind.i64.wrap (t27 + 1))))
 else
  some newslice_6)
def slicesConcatEdge_L2 : Nat → List GEdge → List (List GEdge) → Int → Int → Option ((List GEdge))
 | 0 => fun _ _ _ _ => none
 | n + 1 => slicesConcatEdge_B2 (slicesConcatEdge_L2 n)
def slicesConcatEdge_B1 (rec1 : List (List GEdge) → Int → List (List GEdge) → Int → Int → Option ((List GEdge))) (slices_0 : List (List GEdge)) (size_3 : Int) (t9 : List (List GEdge)) (t10 : Int) (t11 : Int) : Option ((List GEdge)) :=
 (bif (decide (t11 < t10)) then
  ((idx t9 t11).bind fun x2 =>
  (bif (decide ((IntKind.i64.wrap (size_3 + (x2.length : Int))) < 0)) then
   none
  else
   slicesConcatEdge_J1 rec1 slices_0 (IntKind.i64.wrap (size_3 + (x2.length : Int))) t9 t10 t11))
 else
  ((slicesGrowEdge_m size_3).bind fun r4 =>
  slicesConcatEdge_L2 FUEL r4 slices_0 (slices_0.length : Int) 0))
def slicesConcatEdge_L1 : Nat → List (List GEdge) → Int → List (List GEdge) → Int → Int → Option ((List GEdge))
 | 0 => fun _ _ _ _ _ => none
 | n + 1 => slicesConcatEdge_B1 (slicesConcatEdge_L1 n)
def slicesConcatEdge_m (slices_0 : List (List GEdge)) : Option ((List GEdge)) :=
 slicesConcatEdge_L1 FUEL slices_0 0 slices_0 (slices_0.length : Int) 0
theorem slicesConcatEdge_c {slices_0 : List (List GEdge)} {r : (List GEdge)} (hm : slicesConcatEdge_m slices_0 = some r) : PureC Try.prog 123 [.sl (slices_0.flatMap (csl cGEdge)) slices_0.length false] (.sl (r.flatMap cGEdge) r.length false) := by
 refine PureC.of_body Try.func123 rfl ?_
 simp only [Try.ntmps123, List.length_cons, List.length_nil, Nat.reduceAdd, Nat.reduceSub, empty_eq]
 unfold slicesConcatEdge_m at hm
 refine sr (N' := 64) rfl ?_
 refine pA ?_
 refine fs ?_
 refine sr (N' := 128) rfl ?_
 refine pA ?_
 refine fs ?_
 refine AWp.seq' ?_
 refine sr (N' := 192) rfl ?_
 iterate 3 refine pA ?_
 refine fs ?_
 refine AWp.block ?_
 refine AWp.loopM (fun m s => ∃ (slices_0 : List (List GEdge)) (size_3 : Int) (t9 : List (List GEdge)) (t10 : Int) (t11 : Int), s = (⟨36, (fset (fset (fset (fset (fset (fun _ => AV.any) 0 (.sl (slices_0.flatMap (csl cGEdge)) slices_0.length false)) 3 (.v (.int .i64 size_3))) 9 (.sl (t9.flatMap (csl cGEdge)) t9.length false)) 10 (.v (.int .i64 t10))) 11 (.v (.int .i64 t11))), ⟨nofresh, 64⟩⟩ : St) ∧ slicesConcatEdge_L1 m slices_0 size_3 t9 t10 t11 = some r) FUEL ?_ ?_ ?_
 ·
  rintro s ⟨_, _, _, _, _, _, h⟩
  cases h
 ·
  refine ⟨_, ?_, slices_0, 0, slices_0, (slices_0.length : Int), 0, rfl, hm⟩
  exact le_canon id (wV (wV (wD ((CFl CFGEdge).sl _ _ _) (wV (wD ((CFl CFGEdge).sl _ _ _) wk_none))))) heapWk0
 ·
  rintro n1 s ⟨slices_0, size_3, t9, t10, t11, rfl, hm⟩
  replace hm : slicesConcatEdge_B1 (slicesConcatEdge_L1 n1) slices_0 size_3 t9 t10 t11 = some r := hm
  unfold slicesConcatEdge_B1 at hm
  refine sr (N' := 128) rfl ?_
  refine pA ?_
  refine fs ?_
  refine AWp.seq' ?_
  refine AWp.condM hm Z1 (fun _ hm => ?_) (fun _ hm => ?_)
  ·
   refine AWp.skip ?_
   refine normSeq ?_
   refine AWp.seqJ (fun s => ∃ (slices_0 : List (List GEdge)) (size_3 : Int) (t9 : List (List GEdge)) (t10 : Int) (t11 : Int), s = (⟨36, (fset (fset (fset (fset (fset (fun _ => AV.any) 0 (.sl (slices_0.flatMap (csl cGEdge)) slices_0.length false)) 3 (.v (.int .i64 size_3))) 9 (.sl (t9.flatMap (csl cGEdge)) t9.length false)) 10 (.v (.int .i64 t10))) 11 (.v (.int .i64 t11))), ⟨nofresh, 64⟩⟩ : St) ∧ slicesConcatEdge_J1 (slicesConcatEdge_L1 n1) slices_0 size_3 t9 t10 t11 = some r) ?_ ?_
   ·
    refine AWp.block ?_
    refine sr (N' := 192) rfl ?_
    obtain ⟨x2, h1, hm⟩ := bnd hm
    refine pu rfl (ap_idx (CFl CFGEdge) Zd Try.underlying137 sz25 Z1 rfl Z1 h1) ?_
    iterate 2 refine pA ?_
    refine fs ?_
    refine sr (N' := 256) rfl ?_
    iterate 5 refine pA ?_
    refine fs ?_
    refine sr (N' := 320) rfl ?_
    iterate 2 refine pA ?_
    refine fs ?_
    refine AWp.condM hm Z1 (fun _ hm => ?_) (fun _ hm => ?_)
    ·
     cases hm
    ·
     refine AWp.skip ?_
     refine normIn ?_
     refine normJ ?_
     refine ⟨_, ?_, slices_0, (IntKind.i64.wrap (size_3 + (x2.length : Int))), t9, t10, t11, rfl, hm⟩
     exact le_canon id (wV (wV (wD ((CFl CFGEdge).sl _ _ _) (wV (wD ((CFl CFGEdge).sl _ _ _) wk_none))))) heapWk0
   ·
    rintro s ⟨slices_0, size_3, t9, t10, t11, rfl, hm⟩
    unfold slicesConcatEdge_J1 at hm
    refine AWp.reg 64 (N' := 128) rfl ?_
    iterate 2 refine pA ?_
    refine ARun.fin ?_
    refine normThen ?_
    refine ⟨_, ?_, slices_0, size_3, t9, t10, (IntKind.i64.wrap (t11 + 1)), rfl, hm⟩
    exact le_canon id (wV (wV (wD ((CFl CFGEdge).sl _ _ _) (wV (wD ((CFl CFGEdge).sl _ _ _) wk_none))))) heapWk0
  ·
   refine AWp.exit ?_
   refine exitSeq ?_
   refine exitThen ?_
   refine exitHere ?_
   refine normSeq ?_
   refine sr (N' := 192) rfl ?_
   refine pA ?_
   obtain ⟨r4, h3, hm⟩ := bnd hm
   refine ARun.callF (id := 129) Zd Z1 fb137 (fun H => (cV (cV .nil))) CFGEdge Z5 (slicesGrowEdge_f h3) ?_
   refine pA ?_
   refine fs ?_
   refine AWp.seq' ?_
   refine sr (N' := 256) rfl ?_
   iterate 3 refine pA ?_
   refine fs ?_
   refine AWp.block ?_
   refine AWp.loopM (fun m s => ∃ (newslice_6 : List GEdge) (t25 : List (List GEdge)) (t26 : Int) (t27 : Int), s = (⟨36, (fset (fset (fset (fset (fun _ => AV.any) 6 (.own 1 0 newslice_6.length)) 25 (.sl (t25.flatMap (csl cGEdge)) t25.length false)) 26 (.v (.int .i64 t26))) 27 (.v (.int .i64 t27))), ⟨(upd nofresh 1 (.cells 3 (newslice_6.flatMap cGEdge) 0)), 64⟩⟩ : St) ∧ slicesConcatEdge_L2 m newslice_6 t25 t26 t27 = some r) FUEL ?_ ?_ ?_
   ·
    rintro s ⟨_, _, _, _, _, h⟩
    cases h
   ·
    refine ⟨_, ?_, r4, slices_0, (slices_0.length : Int), 0, rfl, hm⟩
    exact le_canon (fun j => bif j == 1 then 129 else 0) (wV (wV (wD ((CFl CFGEdge).sl _ _ _) (wO wk_none)))) (hW (eU CFGEdge entWk_none))
   ·
    rintro n2 s ⟨newslice_6, t25, t26, t27, rfl, hm⟩
    replace hm : slicesConcatEdge_B2 (slicesConcatEdge_L2 n2) newslice_6 t25 t26 t27 = some r := hm
    unfold slicesConcatEdge_B2 at hm
    refine sr (N' := 128) rfl ?_
    refine pA ?_
    refine fs ?_
    refine AWp.seq' ?_
    refine AWp.condM hm Z1 (fun _ hm => ?_) (fun _ hm => ?_)
    ·
     refine AWp.skip ?_
     refine normSeq ?_
     refine AWp.seq' ?_
     refine AWp.block ?_
     refine sr (N' := 192) rfl ?_
     obtain ⟨x6, h5, hm⟩ := bnd hm
     refine pu rfl (ap_idx (CFl CFGEdge) Zd Try.underlying137 sz25 Z1 rfl Z1 h5) ?_
     iterate 2 refine pA ?_
     refine fs ?_
     refine AWp.reg 64 (N' := 256) rfl ?_
     iterate 2 refine pA ?_
     obtain ⟨l8, h7, hm⟩ := bnd hm
     refine hp (id := 194) rfl rfl (ah_app CFGEdge Try.underlying25 Try.underlying25 rfl in38 ts38 (by rw [tb38]; decide) (by rw [tb38]; decide) tz38 Zd Zd Z1 Z3 Z6 (as_sl CFGEdge Z1 rfl) rfl Z5 h7) ?_
     refine pA ?_
     refine ARun.fin ?_
     refine normIn ?_
     refine normSeq ?_
     refine AWp.reg 64 (N' := 320) rfl ?_
     iterate 2 refine pA ?_
     refine ARun.fin ?_
     refine normThen ?_
     refine ⟨_, ?_, l8, t25, t26, (IntKind.i64.wrap (t27 + 1)), rfl, hm⟩
     exact le_canon (fun j => bif j == 1 then 194 else 0) (wV (wV (wD ((CFl CFGEdge).sl _ _ _) (wO wk_none)))) (hW (eU CFGEdge entWk_none))
    ·
     refine AWp.exit ?_
     refine exitSeq ?_
     refine exitThen ?_
     refine exitHere ?_
     refine normSeq ?_
     refine sr (N' := 192) rfl ?_
     iterate 2 refine pA ?_
     refine fs ?_
     refine AWp.ret ?_
     cases hm
     exact ret1D (.inr rfl) Try.results123 (tdo CFGEdge Z1 Z3 Z6)
def tableRemove_m (n_0 : Int) (l_1 : List GEdge) (u_2 : Int) (v_3 : Int) : Option ((List GEdge) × Int) :=
 ((tableRight_m n_0 l_1).bind fun r2 =>
 ((gopt ((!r2) == false) false (tableVertex_m n_0 u_2)).bind fun r4 =>
 ((gopt (((!r2) || (!r4)) == false) false (tableVertex_m n_0 v_3)).bind fun r6 =>
 (bif (((!r2) || (!r4)) || (!r6)) then
  some (l_1, 1)
 else
  ((nameFind_m l_1 u_2 v_3).bind fun ⟨r8, r9⟩ =>
  (bif (!r9) then
   some (l_1, 9)
  else
   ((slc l_1 0 r8).bind fun l11 =>
   ((slc l_1 (IntKind.i64.wrap (r8 + 1)) (l_1.length : Int)).bind fun l13 =>
   ((slicesConcatEdge_m [l11, l13]).bind fun r15 =>
   some (r15, 0))))))))))
theorem tableRemove_c {n_0 : Int} {l_1 : List GEdge} {u_2 : Int} {v_3 : Int} {r : (List GEdge) × Int} (hm : tableRemove_m n_0 l_1 u_2 v_3 = some r) : PureC Try.prog 103 [.v (.int .i64 n_0), .sl (l_1.flatMap cGEdge) l_1.length false, .v (.int .i64 u_2), .v (.int .i64 v_3)] (.tup [.sl (r.1.flatMap cGEdge) r.1.length false, .v (.int .i64 r.2)]) := by
 refine PureC.of_body Try.func103 rfl ?_
 simp only [Try.ntmps103, List.length_cons, List.length_nil, Nat.reduceAdd, Nat.reduceSub, empty_eq]
 unfold tableRemove_m at hm
 refine sr (N' := 64) rfl ?_
 iterate 2 refine pA ?_
 refine fs ?_
 refine AWp.seq' ?_
 refine sr (N' := 128) rfl ?_
 iterate 2 refine pA ?_
 obtain ⟨r2, h1, hm⟩ := bnd hm
 refine ARun.callQ (r := .v (.bool r2)) Zd Z1 fb90 (fun H => (cV (cD (CFGEdge.sl _ _ _) .nil))) (tableRight_c h1) ?_
 iterate 4 first | refine pA ?_ | refine pB ?_
 obtain ⟨r4, h3, hm⟩ := bnd hm
 refine ARun.callQG (r := .v (.bool r4)) Zd rfl Z2 Z1 fb122 (fun hb H => (.cons (td (Zh hb) (.v _)) (.cons (td (Zh hb) (.v _)) .nil))) (fun hb => tableVertex_c (gopt_t h3 hb)) ?_
 iterate 5 first | refine pA ?_ | refine pB ?_
 obtain ⟨r6, h5, hm⟩ := bnd hm
 refine ARun.callQG (r := .v (.bool r6)) Zd rfl Z2 Z1 fb122 (fun hb H => (.cons (td (Zh hb) (.v _)) (.cons (td (Zh hb) (.v _)) .nil))) (fun hb => tableVertex_c (gopt_t h5 hb)) ?_
 iterate 2 first | refine pA ?_ | refine pB ?_
 refine fs ?_
 refine AWp.condM hm Z1 (fun _ hm => ?_) (fun _ hm => ?_)
 ·
  refine sr (N' := 192) rfl ?_
  iterate 3 refine pA ?_
  refine fs ?_
  refine AWp.ret ?_
  refine retSeq ?_
  cases hm
  exact ret2D (.inr rfl) Try.results103 (td Z1 (CFGEdge.sl _ _ _)) (td Z1 (.v _))
 ·
  refine AWp.skip ?_
  refine normSeq ?_
  refine sr (N' := 192) rfl ?_
  iterate 3 refine pA ?_
  obtain ⟨⟨r8, r9⟩, h7, hm⟩ := bnd hm
  refine ARun.callQ (r := .tup [.v (.int .i64 r8), .v (.bool r9)]) Zd Z1 fb89 (fun H => (cD (CFGEdge.sl _ _ _) (cV (cV .nil)))) (nameFind_c h7) ?_
  iterate 5 refine pA ?_
  refine fs ?_
  refine AWp.seq' ?_
  refine sr (N' := 256) rfl ?_
  iterate 2 refine pA ?_
  refine fs ?_
  refine AWp.condM hm Z1 (fun _ hm => ?_) (fun _ hm => ?_)
  ·
   refine sr (N' := 320) rfl ?_
   iterate 3 refine pA ?_
   refine fs ?_
   refine AWp.ret ?_
   refine retSeq ?_
   cases hm
   exact ret2D (.inr rfl) Try.results103 (td Z1 (CFGEdge.sl _ _ _)) (td Z1 (.v _))
  ·
   refine AWp.skip ?_
   refine normSeq ?_
   refine sd mix (by kernel_rfl) (N' := 320) rfl ?_
   iterate 2 refine pA ?_
   obtain ⟨l11, h10, hm⟩ := bnd hm
   refine pu rfl (ap_slc CFGEdge Try.underlying25 sz38 Z1 rfl ab_none0 (ab_some Z1 (slc_0 h10).2) h10) ?_
   iterate 3 refine pA ?_
   obtain ⟨l13, h12, hm⟩ := bnd hm
   refine pu rfl (ap_slc CFGEdge Try.underlying25 sz38 Z1 rfl (ab_some Z1 (slc_0 h12).1) (ab_none _) h12) ?_
   refine ARun.pop Zd (noOwn_parts (ps := [(0, .sl (l11.flatMap cGEdge) l11.length (false && (r8 : Int).toNat == l_1.length)), (1, .sl (l13.flatMap cGEdge) l13.length (false && ((l_1.length : Int) : Int).toNat == l_1.length))]) (by simp only [go_sem, Nat.reduceBEq]; try rfl) (dps_cons (CFGEdge.sl _ _ _) (dps_cons (CFGEdge.sl _ _ _) dps_nil))) (pop_list (CFl CFGEdge) (l := [l11, l13]) (xs := [.sl (l11.flatMap cGEdge) l11.length (false && (r8 : Int).toNat == l_1.length), .sl (l13.flatMap cGEdge) l13.length (false && ((l_1.length : Int) : Int).toNat == l_1.length)]) Try.underlying137 sz25 zc25 Zd Zd Zd (ps := [(0, .sl (l11.flatMap cGEdge) l11.length (false && (r8 : Int).toNat == l_1.length)), (1, .sl (l13.flatMap cGEdge) l13.length (false && ((l_1.length : Int) : Int).toNat == l_1.length))]) (by simp only [go_sem, Nat.reduceBEq]; try rfl) (by kernel_rfl) (fun H => (.cons (tdf rfl (CFGEdge.sl _ _ _)) (.cons (tdf rfl (CFGEdge.sl _ _ _)) .nil)))) rfl ?_
   obtain ⟨r15, h14, hm⟩ := bnd hm
   refine ARun.callQ (r := .sl (r15.flatMap cGEdge) r15.length false) Zd Z1 fb123 (fun H => (cD ((CFl CFGEdge).sl _ _ _) .nil)) (slicesConcatEdge_c h14) ?_
   iterate 2 refine pA ?_
   refine fs ?_
   refine AWp.ret ?_
   cases hm
   exact ret2D (.inr rfl) Try.results103 (td Z1 (CFGEdge.sl _ _ _)) (td Z1 (.v _))
def tiersDelete_m (g_0 : GGraph) (u_1 : Int) (v_2 : Int) : Option (GGraph × Int) :=
 ((tiersFits_m g_0 u_1 v_2).bind fun r2 =>
 (bif (!r2) then
  some (g_0, 1)
 else
  ((tableRemove_m g_0.Config.N g_0.Edges u_1 v_2).bind fun ⟨r4, r5⟩ =>
  (bif (r5 != 0) then
   some (g_0, r5)
  else
   ((tiersMended_m (GGraph.mk g_0.Config g_0.Hashes r4) u_1 v_2).bind fun r7 =>
   some (r7, 0))))))
theorem tiersDelete_c {g_0 : GGraph} {u_1 : Int} {v_2 : Int} {r : GGraph × Int} (hm : tiersDelete_m g_0 u_1 v_2 = some r) : PureC Try.prog 68 [.agg [.v (.int .i64 g_0.Config.N), .v (.int .i64 g_0.Config.L), .v (.int .i64 g_0.Config.R), .sl (g_0.Hashes.flatMap cGHash) g_0.Hashes.length false, .sl (g_0.Edges.flatMap cGEdge) g_0.Edges.length false], .v (.int .i64 u_1), .v (.int .i64 v_2)] (.tup [.agg [.v (.int .i64 r.1.Config.N), .v (.int .i64 r.1.Config.L), .v (.int .i64 r.1.Config.R), .sl (r.1.Hashes.flatMap cGHash) r.1.Hashes.length false, .sl (r.1.Edges.flatMap cGEdge) r.1.Edges.length false], .v (.int .i64 r.2)]) := by
 refine PureC.of_body Try.func68 rfl ?_
 simp only [Try.ntmps68, List.length_cons, List.length_nil, Nat.reduceAdd, Nat.reduceSub, empty_eq]
 unfold tiersDelete_m at hm
 refine sr (N' := 64) rfl ?_
 refine hp (id := 0) rfl rfl (aheap_box Z1 Z5) ?_
 refine hp (id := 1) rfl rfl (aheap_alloc' zc27 Z5) ?_
 refine pA ?_
 refine fs ?_
 refine AWp.seq' ?_
 refine sr (N' := 128) rfl ?_
 refine pu rfl (ap_ldv Z1 Z3 Z2) ?_
 iterate 2 refine pA ?_
 obtain ⟨r2, h1, hm⟩ := bnd hm
 refine ARun.callQ (r := .v (.bool r2)) Zd Z1 fb100 (fun H => (cD (.agg _ (CFGGraph.dat _)) (cV (cV .nil)))) (tiersFits_c h1) ?_
 refine pA ?_
 refine fs ?_
 refine AWp.condM hm Z1 (fun _ hm => ?_) (fun _ hm => ?_)
 ·
  refine sr (N' := 192) rfl ?_
  refine pu rfl (ap_ldv Z1 Z3 Z2) ?_
  refine ARun.heap0 (id := 129) rfl (ah_var (ys := [.v (.int .i64 g_0.Config.N), .v (.int .i64 g_0.Config.L), .v (.int .i64 g_0.Config.R), .sl (g_0.Hashes.flatMap cGHash) g_0.Hashes.length false, .sl (g_0.Edges.flatMap cGEdge) g_0.Edges.length false]) sz27 Z1 Z1 Z3 rfl (Nat.le_of_ble_eq_true rfl) Z9 rfl) ?_
  refine pA ?_
  refine fs ?_
  refine AWp.ret ?_
  refine retSeq ?_
  cases hm
  exact retL (.inr rfl) (by rw [Try.results68]) (.cell (ap_ldv' Z1 Z3 Z2) (.tmp Z1 .nil)) rfl (tdt (.cons (td rfl (.agg _ (CFGGraph.dat _))) (.cons (td rfl (.v _)) .nil)))
 ·
  refine AWp.skip ?_
  refine normSeq ?_
  refine sr (N' := 192) rfl ?_
  iterate 2 refine pA ?_
  refine pu rfl (ap_ldv Z1 Z3 Z4) ?_
  refine pA ?_
  refine pu rfl (ap_ldv Z1 Z3 Z4) ?_
  iterate 2 refine pA ?_
  obtain ⟨⟨r4, r5⟩, h3, hm⟩ := bnd hm
  refine ARun.callQ (r := .tup [.sl (r4.flatMap cGEdge) r4.length false, .v (.int .i64 r5)]) Zd Z1 fb103 (fun H => (cV (cD (CFGEdge.sl _ _ _) (cV (cV .nil))))) (tableRemove_c h3) ?_
  iterate 5 refine pA ?_
  refine fs ?_
  refine AWp.seq' ?_
  refine sr (N' := 256) rfl ?_
  iterate 2 refine pA ?_
  refine fs ?_
  refine AWp.condM hm Z1 (fun _ hm => ?_) (fun _ hm => ?_)
  ·
   refine sr (N' := 320) rfl ?_
   refine pu rfl (ap_ldv Z1 Z3 Z2) ?_
   refine pA ?_
   refine ARun.heap0 (id := 258) rfl (ah_var (ys := [.v (.int .i64 g_0.Config.N), .v (.int .i64 g_0.Config.L), .v (.int .i64 g_0.Config.R), .sl (g_0.Hashes.flatMap cGHash) g_0.Hashes.length false, .sl (g_0.Edges.flatMap cGEdge) g_0.Edges.length false]) sz27 Z1 Z1 Z3 rfl (Nat.le_of_ble_eq_true rfl) Z9 rfl) ?_
   refine pA ?_
   refine fs ?_
   refine AWp.ret ?_
   refine retSeq ?_
   cases hm
   exact retL (.inr rfl) (by rw [Try.results68]) (.cell (ap_ldv' Z1 Z3 Z2) (.tmp Z1 .nil)) rfl (tdt (.cons (td rfl (.agg _ (CFGGraph.dat _))) (.cons (td rfl (.v _)) .nil)))
  ·
   refine AWp.skip ?_
   refine normSeq ?_
   refine sr (N' := 320) rfl ?_
   iterate 2 refine pA ?_
   refine ARun.heap0 (id := 258) rfl (ah_var (ys := [.v (.int .i64 g_0.Config.N), .v (.int .i64 g_0.Config.L), .v (.int .i64 g_0.Config.R), .sl (g_0.Hashes.flatMap cGHash) g_0.Hashes.length false, .sl (r4.flatMap cGEdge) r4.length false]) sz25 Z1 Z1 Z3 rfl (Nat.le_of_ble_eq_true rfl) Z9 rfl) ?_
   refine fs ?_
   refine sr (N' := 384) rfl ?_
   refine pu rfl (ap_ldv Z1 Z3 Z2) ?_
   iterate 2 refine pA ?_
   obtain ⟨r7, h6, hm⟩ := bnd hm
   refine ARun.callQ (r := .agg [.v (.int .i64 r7.Config.N), .v (.int .i64 r7.Config.L), .v (.int .i64 r7.Config.R), .sl (r7.Hashes.flatMap cGHash) r7.Hashes.length false, .sl (r7.Edges.flatMap cGEdge) r7.Edges.length false]) Zd Z1 fb101 (fun H => (.cons (td Z1 (.agg _ (CFGGraph.dat (GGraph.mk g_0.Config g_0.Hashes r4)))) (cV (cV .nil)))) (tiersMended_c h6) ?_
   refine ARun.heap0 (id := 324) rfl (ah_var (ys := [.v (.int .i64 r7.Config.N), .v (.int .i64 r7.Config.L), .v (.int .i64 r7.Config.R), .sl (r7.Hashes.flatMap cGHash) r7.Hashes.length false, .sl (r7.Edges.flatMap cGEdge) r7.Edges.length false]) sz27 Z1 Z1 Z3 rfl (Nat.le_of_ble_eq_true rfl) Z9 rfl) ?_
   refine pA ?_
   refine fs ?_
   refine AWp.ret ?_
   cases hm
   exact retL (.inr rfl) (by rw [Try.results68]) (.cell (ap_ldv' Z1 Z3 Z2) (.tmp Z1 .nil)) rfl (tdt (.cons (td rfl (.agg _ (CFGGraph.dat _))) (.cons (td rfl (.v _)) .nil)))
def tableAdd_B1 (rec1 : List GEdge → GEdge → Int → Option ((List GEdge) × Int)) (l_1 : List GEdge) (added_12 : GEdge) (place_13 : Int) : Option ((List GEdge) × Int) :=
 ((gopt ((decide (place_13 < (l_1.length : Int))) == true) (GEdge.mk 0 0 0) (idx l_1 place_13)).bind fun x11 =>
 ((gopt ((decide (place_13 < (l_1.length : Int))) == true) false (nameLess_m x11 added_12)).bind fun r13 =>
 (bif ((decide (place_13 < (l_1.length : Int))) && r13) then
  rec1 l_1 added_12 (IntKind.i64.wrap (place_13 + 1))
 else
  ((slc l_1 0 place_13).bind fun l15 =>
  ((slc l_1 place_13 (l_1.length : Int)).bind fun l17 =>
  ((slicesConcatEdge_m [l15, [added_12], l17]).bind fun r19 =>
  some (r19, 0)))))))
def tableAdd_L1 : Nat → List GEdge → GEdge → Int → Option ((List GEdge) × Int)
 | 0 => fun _ _ _ => none
 | n + 1 => tableAdd_B1 (tableAdd_L1 n)
def tableAdd_m (n_0 : Int) (l_1 : List GEdge) (u_2 : Int) (v_3 : Int) : Option ((List GEdge) × Int) :=
 ((tableRight_m n_0 l_1).bind fun r2 =>
 ((gopt ((!r2) == false) false (tableVertex_m n_0 u_2)).bind fun r4 =>
 ((gopt (((!r2) || (!r4)) == false) false (tableVertex_m n_0 v_3)).bind fun r6 =>
 (bif (((!r2) || (!r4)) || (!r6)) then
  some (l_1, 1)
 else
  (bif (u_2 == v_3) then
   some (l_1, 8)
  else
   ((nameFind_m l_1 u_2 v_3).bind fun ⟨r8, r9⟩ =>
   (bif r9 then
    some (l_1, 4)
   else
    tableAdd_L1 FUEL l_1 (GEdge.mk (if v_3 < u_2 then v_3 else u_2) (if u_2 < v_3 then v_3 else u_2) 0) 0)))))))
theorem tableAdd_c {n_0 : Int} {l_1 : List GEdge} {u_2 : Int} {v_3 : Int} {r : (List GEdge) × Int} (hm : tableAdd_m n_0 l_1 u_2 v_3 = some r) : PureC Try.prog 104 [.v (.int .i64 n_0), .sl (l_1.flatMap cGEdge) l_1.length false, .v (.int .i64 u_2), .v (.int .i64 v_3)] (.tup [.sl (r.1.flatMap cGEdge) r.1.length false, .v (.int .i64 r.2)]) := by
 refine PureC.of_body Try.func104 rfl ?_
 simp only [Try.ntmps104, List.length_cons, List.length_nil, Nat.reduceAdd, Nat.reduceSub, empty_eq]
 unfold tableAdd_m at hm
 refine sr (N' := 64) rfl ?_
 iterate 2 refine pA ?_
 refine fs ?_
 refine AWp.seq' ?_
 refine sr (N' := 128) rfl ?_
 iterate 2 refine pA ?_
 obtain ⟨r2, h1, hm⟩ := bnd hm
 refine ARun.callQ (r := .v (.bool r2)) Zd Z1 fb90 (fun H => (cV (cD (CFGEdge.sl _ _ _) .nil))) (tableRight_c h1) ?_
 iterate 4 first | refine pA ?_ | refine pB ?_
 obtain ⟨r4, h3, hm⟩ := bnd hm
 refine ARun.callQG (r := .v (.bool r4)) Zd rfl Z2 Z1 fb122 (fun hb H => (.cons (td (Zh hb) (.v _)) (.cons (td (Zh hb) (.v _)) .nil))) (fun hb => tableVertex_c (gopt_t h3 hb)) ?_
 iterate 5 first | refine pA ?_ | refine pB ?_
 obtain ⟨r6, h5, hm⟩ := bnd hm
 refine ARun.callQG (r := .v (.bool r6)) Zd rfl Z2 Z1 fb122 (fun hb H => (.cons (td (Zh hb) (.v _)) (.cons (td (Zh hb) (.v _)) .nil))) (fun hb => tableVertex_c (gopt_t h5 hb)) ?_
 iterate 2 first | refine pA ?_ | refine pB ?_
 refine fs ?_
 refine AWp.condM hm Z1 (fun _ hm => ?_) (fun _ hm => ?_)
 ·
  refine sr (N' := 192) rfl ?_
  iterate 3 refine pA ?_
  refine fs ?_
  refine AWp.ret ?_
  refine retSeq ?_
  cases hm
  exact ret2D (.inr rfl) Try.results104 (td Z1 (CFGEdge.sl _ _ _)) (td Z1 (.v _))
 ·
  refine AWp.skip ?_
  refine normSeq ?_
  refine AWp.seq' ?_
  refine sr (N' := 192) rfl ?_
  iterate 3 refine pA ?_
  refine fs ?_
  refine AWp.condM hm Z1 (fun _ hm => ?_) (fun _ hm => ?_)
  ·
   refine sr (N' := 256) rfl ?_
   iterate 3 refine pA ?_
   refine fs ?_
   refine AWp.ret ?_
   refine retSeq ?_
   cases hm
   exact ret2D (.inr rfl) Try.results104 (td Z1 (CFGEdge.sl _ _ _)) (td Z1 (.v _))
  ·
   refine AWp.skip ?_
   refine normSeq ?_
   refine AWp.seq' ?_
   refine sr (N' := 256) rfl ?_
   iterate 3 refine pA ?_
   obtain ⟨⟨r8, r9⟩, h7, hm⟩ := bnd hm
   refine ARun.callQ (r := .tup [.v (.int .i64 r8), .v (.bool r9)]) Zd Z1 fb89 (fun H => (cD (CFGEdge.sl _ _ _) (cV (cV .nil)))) (nameFind_c h7) ?_
   iterate 5 refine pA ?_
   refine fs ?_
   refine sr (N' := 320) rfl ?_
   refine pA ?_
   refine fs ?_
   refine AWp.condM hm Z1 (fun _ hm => ?_) (fun _ hm => ?_)
   ·
    refine sr (N' := 384) rfl ?_
    iterate 3 refine pA ?_
    refine fs ?_
    refine AWp.ret ?_
    refine retSeq ?_
    cases hm
    exact ret2D (.inr rfl) Try.results104 (td Z1 (CFGEdge.sl _ _ _)) (td Z1 (.v _))
   ·
    refine AWp.skip ?_
    refine normSeq ?_
    refine sr (N' := 384) rfl ?_
    iterate 6 refine pA ?_
    refine pu rfl (by simp only [go_sem, Nat.reduceBEq]; exact (by kernel_rfl : abuild Try.prog 38 [(0, .v (.int .i64 (if v_3 < u_2 then v_3 else u_2))), (1, .v (.int .i64 (if u_2 < v_3 then v_3 else u_2)))] = some (.agg [.v (.int .i64 (if v_3 < u_2 then v_3 else u_2)), .v (.int .i64 (if u_2 < v_3 then v_3 else u_2)), .v (.int .i64 0)]))) ?_
    refine hp (id := 327) rfl rfl (aheap_alloc' zc38 Z5) ?_
    refine ARun.heap0 (id := 328) rfl (ah_var (ys := [.v (.int .i64 (if v_3 < u_2 then v_3 else u_2)), .v (.int .i64 (if u_2 < v_3 then v_3 else u_2)), .v (.int .i64 0)]) sz38 Z1 Z1 Z3 rfl (Nat.le_of_ble_eq_true rfl) Z9 rfl) ?_
    refine fs ?_
    refine sr (N' := 448) rfl ?_
    refine pA ?_
    refine fs ?_
    refine AWp.seq' ?_
    refine AWp.block ?_
    refine AWp.loopM (fun m s => ∃ (l_1 : List GEdge) (added_12 : GEdge) (place_13 : Int), s = (⟨75, (fset (fset (fset (fun _ => AV.any) 1 (.sl (l_1.flatMap cGEdge) l_1.length false)) 12 (.adr 1 0)) 13 (.v (.int .i64 place_13))), ⟨(upd nofresh 1 (.cells 1 [.v (.int .i64 added_12.U), .v (.int .i64 added_12.V), .v (.int .i64 added_12.Tier)] 0)), 64⟩⟩ : St) ∧ tableAdd_L1 m l_1 added_12 place_13 = some r) FUEL ?_ ?_ ?_
    ·
     rintro s ⟨_, _, _, _, h⟩
     cases h
    ·
     refine ⟨_, ?_, l_1, (GEdge.mk (if v_3 < u_2 then v_3 else u_2) (if u_2 < v_3 then v_3 else u_2) 0), 0, rfl, hm⟩
     exact le_canon (fun j => bif j == 1 then 327 else 0) (wV (wk_fset _ _ (wk_adr Z1 rfl Z7) (wD (CFGEdge.sl _ _ _) wk_none))) (heapWk_of _ (entWk_upd (entWk_data Z3 (Nat.le_refl _) (Nat.zero_le _) (CFGEdge.dat (GEdge.mk (if v_3 < u_2 then v_3 else u_2) (if u_2 < v_3 then v_3 else u_2) 0))) entWk_none) Z8)
    ·
     rintro n1 s ⟨l_1, added_12, place_13, rfl, hm⟩
     replace hm : tableAdd_B1 (tableAdd_L1 n1) l_1 added_12 place_13 = some r := hm
     unfold tableAdd_B1 at hm
     refine AWp.seq' ?_
     refine sd mix (by kernel_rfl) (N' := 128) rfl ?_
     iterate 7 first | refine pA ?_ | refine pB ?_
     obtain ⟨x11, h10, hm⟩ := bnd hm
     refine pg rfl rfl Z2 (fun hb => (ap_idx CFGEdge Zd Try.underlying25 sz38 (Zh hb) rfl (Zh hb) (gopt_t h10 hb))) ?_
     refine pB ?_
     refine pg rfl rfl Z2 (fun hb => (ap_ldv (Zh hb) Z3 Z2)) ?_
     obtain ⟨r13, h12, hm⟩ := bnd hm
     refine ARun.callQG (r := .v (.bool r13)) Zd rfl Z2 Z1 fb118 (fun hb H => (.cons (td (Zh hb) (.agg _ (CFGEdge.dat _))) (.cons (td (Zh hb) (.agg _ (CFGEdge.dat _))) .nil))) (fun hb => nameLess_c (gopt_t h12 hb)) ?_
     refine pA ?_
     refine fs ?_
     refine AWp.condM hm Z1 (fun _ hm => ?_) (fun _ hm => ?_)
     ·
      refine AWp.skip ?_
      refine normSeq ?_
      refine AWp.block ?_
      refine AWp.reg 64 (N' := 192) rfl ?_
      iterate 3 refine pA ?_
      refine ARun.fin ?_
      refine normIn ?_
      refine normThen ?_
      refine ⟨_, ?_, l_1, added_12, (IntKind.i64.wrap (place_13 + 1)), rfl, hm⟩
      exact le_canon (fun j => bif j == 1 then 1 else 0) (wV (wk_fset _ _ (wk_adr Z1 rfl Z7) (wD (CFGEdge.sl _ _ _) wk_none))) (hW (entWk_upd (entWk_data Z3 (Nat.le_refl _) (Nat.zero_le _) (CFGEdge.dat added_12)) entWk_none))
     ·
      refine AWp.exit ?_
      refine exitSeq ?_
      refine exitThen ?_
      refine exitHere ?_
      refine normSeq ?_
      refine sd mix (by kernel_rfl) (N' := 192) rfl ?_
      iterate 2 refine pA ?_
      obtain ⟨l15, h14, hm⟩ := bnd hm
      refine pu rfl (ap_slc CFGEdge Try.underlying25 sz38 Z1 rfl ab_none0 (ab_some Z1 (slc_0 h14).2) h14) ?_
      refine pu rfl (ap_ldv Z1 Z3 Z2) ?_
      refine ARun.pop Zd (noOwn_parts (ps := [(0, .agg [.v (.int .i64 added_12.U), .v (.int .i64 added_12.V), .v (.int .i64 added_12.Tier)])]) (by simp only [go_sem, Nat.reduceBEq]; try rfl) (dps_cons (.agg _ (CFGEdge.dat added_12)) dps_nil)) (pop_list CFGEdge (l := [added_12]) (xs := [.v (.int .i64 added_12.U), .v (.int .i64 added_12.V), .v (.int .i64 added_12.Tier)]) Try.underlying25 sz38 zc38 Zd Zd Zd (ps := [(0, .agg [.v (.int .i64 added_12.U), .v (.int .i64 added_12.V), .v (.int .i64 added_12.Tier)])]) (by simp only [go_sem, Nat.reduceBEq]; try rfl) (by kernel_rfl) (fun H => (.cons (.data _ (.v _)) (.cons (.data _ (.v _)) (.cons (.data _ (.v _)) .nil))))) rfl ?_
      iterate 2 refine pA ?_
      obtain ⟨l17, h16, hm⟩ := bnd hm
      refine pu rfl (ap_slc CFGEdge Try.underlying25 sz38 Z1 rfl (ab_some Z1 (slc_0 h16).1) (ab_none _) h16) ?_
      refine ARun.pop Zd (noOwn_parts (ps := [(0, .sl (l15.flatMap cGEdge) l15.length (false && (place_13 : Int).toNat == l_1.length)), (1, .sl (([added_12]).flatMap cGEdge) ([added_12]).length false), (2, .sl (l17.flatMap cGEdge) l17.length (false && ((l_1.length : Int) : Int).toNat == l_1.length))]) (by simp only [go_sem, Nat.reduceBEq]; try rfl) (dps_cons (CFGEdge.sl _ _ _) (dps_cons (CFGEdge.sl _ _ _) (dps_cons (CFGEdge.sl _ _ _) dps_nil)))) (pop_list (CFl CFGEdge) (l := [l15, [added_12], l17]) (xs := [.sl (l15.flatMap cGEdge) l15.length (false && (place_13 : Int).toNat == l_1.length), .sl (([added_12]).flatMap cGEdge) ([added_12]).length false, .sl (l17.flatMap cGEdge) l17.length (false && ((l_1.length : Int) : Int).toNat == l_1.length)]) Try.underlying137 sz25 zc25 Zd Zd Zd (ps := [(0, .sl (l15.flatMap cGEdge) l15.length (false && (place_13 : Int).toNat == l_1.length)), (1, .sl (([added_12]).flatMap cGEdge) ([added_12]).length false), (2, .sl (l17.flatMap cGEdge) l17.length (false && ((l_1.length : Int) : Int).toNat == l_1.length))]) (by simp only [go_sem, Nat.reduceBEq]; try rfl) (by kernel_rfl) (fun H => (.cons (tdf rfl (CFGEdge.sl _ _ _)) (.cons (.data _ (CFGEdge.sl _ _ _)) (.cons (tdf rfl (CFGEdge.sl _ _ _)) .nil))))) rfl ?_
      obtain ⟨r19, h18, hm⟩ := bnd hm
      refine ARun.callQ (r := .sl (r19.flatMap cGEdge) r19.length false) Zd Z1 fb123 (fun H => (cD ((CFl CFGEdge).sl _ _ _) .nil)) (slicesConcatEdge_c h18) ?_
      iterate 2 refine pA ?_
      refine fs ?_
      refine AWp.ret ?_
      cases hm
      exact ret2D (.inr rfl) Try.results104 (td Z1 (CFGEdge.sl _ _ _)) (td Z1 (.v _))
def tiersInsert_m (g_0 : GGraph) (u_1 : Int) (v_2 : Int) : Option (GGraph × Int) :=
 ((tiersFits_m g_0 u_1 v_2).bind fun r2 =>
 (bif (!r2) then
  some (g_0, 1)
 else
  ((tableAdd_m g_0.Config.N g_0.Edges u_1 v_2).bind fun ⟨r4, r5⟩ =>
  (bif (r5 != 0) then
   some (g_0, r5)
  else
   ((tiersMended_m (GGraph.mk g_0.Config g_0.Hashes r4) u_1 v_2).bind fun r7 =>
   some (r7, 0))))))
theorem tiersInsert_c {g_0 : GGraph} {u_1 : Int} {v_2 : Int} {r : GGraph × Int} (hm : tiersInsert_m g_0 u_1 v_2 = some r) : PureC Try.prog 69 [.agg [.v (.int .i64 g_0.Config.N), .v (.int .i64 g_0.Config.L), .v (.int .i64 g_0.Config.R), .sl (g_0.Hashes.flatMap cGHash) g_0.Hashes.length false, .sl (g_0.Edges.flatMap cGEdge) g_0.Edges.length false], .v (.int .i64 u_1), .v (.int .i64 v_2)] (.tup [.agg [.v (.int .i64 r.1.Config.N), .v (.int .i64 r.1.Config.L), .v (.int .i64 r.1.Config.R), .sl (r.1.Hashes.flatMap cGHash) r.1.Hashes.length false, .sl (r.1.Edges.flatMap cGEdge) r.1.Edges.length false], .v (.int .i64 r.2)]) := by
 refine PureC.of_body Try.func69 rfl ?_
 simp only [Try.ntmps69, List.length_cons, List.length_nil, Nat.reduceAdd, Nat.reduceSub, empty_eq]
 unfold tiersInsert_m at hm
 refine sr (N' := 64) rfl ?_
 refine hp (id := 0) rfl rfl (aheap_box Z1 Z5) ?_
 refine hp (id := 1) rfl rfl (aheap_alloc' zc27 Z5) ?_
 refine pA ?_
 refine fs ?_
 refine AWp.seq' ?_
 refine sr (N' := 128) rfl ?_
 refine pu rfl (ap_ldv Z1 Z3 Z2) ?_
 iterate 2 refine pA ?_
 obtain ⟨r2, h1, hm⟩ := bnd hm
 refine ARun.callQ (r := .v (.bool r2)) Zd Z1 fb100 (fun H => (cD (.agg _ (CFGGraph.dat _)) (cV (cV .nil)))) (tiersFits_c h1) ?_
 refine pA ?_
 refine fs ?_
 refine AWp.condM hm Z1 (fun _ hm => ?_) (fun _ hm => ?_)
 ·
  refine sr (N' := 192) rfl ?_
  refine pu rfl (ap_ldv Z1 Z3 Z2) ?_
  refine ARun.heap0 (id := 129) rfl (ah_var (ys := [.v (.int .i64 g_0.Config.N), .v (.int .i64 g_0.Config.L), .v (.int .i64 g_0.Config.R), .sl (g_0.Hashes.flatMap cGHash) g_0.Hashes.length false, .sl (g_0.Edges.flatMap cGEdge) g_0.Edges.length false]) sz27 Z1 Z1 Z3 rfl (Nat.le_of_ble_eq_true rfl) Z9 rfl) ?_
  refine pA ?_
  refine fs ?_
  refine AWp.ret ?_
  refine retSeq ?_
  cases hm
  exact retL (.inr rfl) (by rw [Try.results69]) (.cell (ap_ldv' Z1 Z3 Z2) (.tmp Z1 .nil)) rfl (tdt (.cons (td rfl (.agg _ (CFGGraph.dat _))) (.cons (td rfl (.v _)) .nil)))
 ·
  refine AWp.skip ?_
  refine normSeq ?_
  refine sr (N' := 192) rfl ?_
  iterate 2 refine pA ?_
  refine pu rfl (ap_ldv Z1 Z3 Z4) ?_
  refine pA ?_
  refine pu rfl (ap_ldv Z1 Z3 Z4) ?_
  iterate 2 refine pA ?_
  obtain ⟨⟨r4, r5⟩, h3, hm⟩ := bnd hm
  refine ARun.callQ (r := .tup [.sl (r4.flatMap cGEdge) r4.length false, .v (.int .i64 r5)]) Zd Z1 fb104 (fun H => (cV (cD (CFGEdge.sl _ _ _) (cV (cV .nil))))) (tableAdd_c h3) ?_
  iterate 5 refine pA ?_
  refine fs ?_
  refine AWp.seq' ?_
  refine sr (N' := 256) rfl ?_
  iterate 2 refine pA ?_
  refine fs ?_
  refine AWp.condM hm Z1 (fun _ hm => ?_) (fun _ hm => ?_)
  ·
   refine sr (N' := 320) rfl ?_
   refine pu rfl (ap_ldv Z1 Z3 Z2) ?_
   refine pA ?_
   refine ARun.heap0 (id := 258) rfl (ah_var (ys := [.v (.int .i64 g_0.Config.N), .v (.int .i64 g_0.Config.L), .v (.int .i64 g_0.Config.R), .sl (g_0.Hashes.flatMap cGHash) g_0.Hashes.length false, .sl (g_0.Edges.flatMap cGEdge) g_0.Edges.length false]) sz27 Z1 Z1 Z3 rfl (Nat.le_of_ble_eq_true rfl) Z9 rfl) ?_
   refine pA ?_
   refine fs ?_
   refine AWp.ret ?_
   refine retSeq ?_
   cases hm
   exact retL (.inr rfl) (by rw [Try.results69]) (.cell (ap_ldv' Z1 Z3 Z2) (.tmp Z1 .nil)) rfl (tdt (.cons (td rfl (.agg _ (CFGGraph.dat _))) (.cons (td rfl (.v _)) .nil)))
  ·
   refine AWp.skip ?_
   refine normSeq ?_
   refine sr (N' := 320) rfl ?_
   iterate 2 refine pA ?_
   refine ARun.heap0 (id := 258) rfl (ah_var (ys := [.v (.int .i64 g_0.Config.N), .v (.int .i64 g_0.Config.L), .v (.int .i64 g_0.Config.R), .sl (g_0.Hashes.flatMap cGHash) g_0.Hashes.length false, .sl (r4.flatMap cGEdge) r4.length false]) sz25 Z1 Z1 Z3 rfl (Nat.le_of_ble_eq_true rfl) Z9 rfl) ?_
   refine fs ?_
   refine sr (N' := 384) rfl ?_
   refine pu rfl (ap_ldv Z1 Z3 Z2) ?_
   iterate 2 refine pA ?_
   obtain ⟨r7, h6, hm⟩ := bnd hm
   refine ARun.callQ (r := .agg [.v (.int .i64 r7.Config.N), .v (.int .i64 r7.Config.L), .v (.int .i64 r7.Config.R), .sl (r7.Hashes.flatMap cGHash) r7.Hashes.length false, .sl (r7.Edges.flatMap cGEdge) r7.Edges.length false]) Zd Z1 fb101 (fun H => (.cons (td Z1 (.agg _ (CFGGraph.dat (GGraph.mk g_0.Config g_0.Hashes r4)))) (cV (cV .nil)))) (tiersMended_c h6) ?_
   refine ARun.heap0 (id := 324) rfl (ah_var (ys := [.v (.int .i64 r7.Config.N), .v (.int .i64 r7.Config.L), .v (.int .i64 r7.Config.R), .sl (r7.Hashes.flatMap cGHash) r7.Hashes.length false, .sl (r7.Edges.flatMap cGEdge) r7.Edges.length false]) sz27 Z1 Z1 Z3 rfl (Nat.le_of_ble_eq_true rfl) Z9 rfl) ?_
   refine pA ?_
   refine fs ?_
   refine AWp.ret ?_
   cases hm
   exact retL (.inr rfl) (by rw [Try.results69]) (.cell (ap_ldv' Z1 Z3 Z2) (.tmp Z1 .nil)) rfl (tdt (.cons (td rfl (.agg _ (CFGGraph.dat _))) (.cons (td rfl (.v _)) .nil)))
def law15Awake_m : Option (Bool) :=
 ((tiersNew_m (GConfig.mk 3 2 1) [(GHash.mk 1 0), (GHash.mk 2 0)]).bind fun ⟨r2, r3⟩ =>
 ((tiersInsert_m r2 2 0).bind fun ⟨r5, r6⟩ =>
 ((tiersInsert_m r5 0 1).bind fun ⟨r8, r9⟩ =>
 ((tiersDelete_m r8 0 2).bind fun ⟨r11, r12⟩ =>
 ((tiersInsert_m r11 1 0).bind fun ⟨r14, r15⟩ =>
 ((tiersDelete_m r11 1 2).bind fun ⟨r17, r18⟩ =>
 ((tiersNew_m (GConfig.mk 3 2 1) []).bind fun ⟨r20, r21⟩ =>
 (bif ((r3 == 0) && (r6 == 0)) then
  ((ref03Same_m r5.Edges [(GEdge.mk 0 2 1)]).bind fun r24 =>
  ((gopt ((((((r24 && (r9 == 0)) && (r12 == 0)) && (r15 == 4)) && (r18 == 9)) && (r21 == 1)) == true) [] (tiersKept_m r11)).bind fun r26 =>
  (bif (((((r24 && (r9 == 0)) && (r12 == 0)) && (r15 == 4)) && (r18 == 9)) && (r21 == 1)) then
   ((ref06Same_m r26 [0, 0, 2]).bind fun r29 =>
   some r29)
  else
   some false)))
 else
  some false))))))))
theorem law15Awake_c {r : Bool} (hm : law15Awake_m = some r) : PureC Try.prog 67 [] (.v (.bool r)) := by
 refine PureC.of_body Try.func67 rfl ?_
 simp only [Try.ntmps67, List.length_cons, List.length_nil, Nat.reduceAdd, Nat.reduceSub, empty_eq]
 unfold law15Awake_m at hm
 refine sr (N' := 64) rfl ?_
 refine pA ?_
 refine fs ?_
 refine sr (N' := 128) rfl ?_
 refine pu rfl (by simp only [go_sem, Nat.reduceBEq]; exact (by kernel_rfl : abuild Try.prog 23 [(0, .v (.int .i64 3)), (1, .v (.int .i64 2)), (2, .v (.int .i64 1))] = some (.agg [.v (.int .i64 3), .v (.int .i64 2), .v (.int .i64 1)]))) ?_
 refine pu rfl (by simp only [go_sem, Nat.reduceBEq]; exact (by kernel_rfl : abuild Try.prog 53 [(0, .v (.int .u64 1)), (1, .v (.int .u64 0))] = some (.agg [.v (.int .u64 1), .v (.int .u64 0)]))) ?_
 refine pu rfl (by simp only [go_sem, Nat.reduceBEq]; exact (by kernel_rfl : abuild Try.prog 53 [(0, .v (.int .u64 2)), (1, .v (.int .u64 0))] = some (.agg [.v (.int .u64 2), .v (.int .u64 0)]))) ?_
 refine hp (id := 67) rfl rfl (ah_list CFGHash (l := [(GHash.mk 1 0), (GHash.mk 2 0)]) Try.underlying24 sz53 zc53 Z5 Zd Zd Zd (by simp only [go_sem, Nat.reduceBEq]; try rfl) (by kernel_rfl)) ?_
 obtain ⟨⟨r2, r3⟩, h1, hm⟩ := bnd hm
 refine ARun.callL1 (r := .tup [.agg [.v (.int .i64 r2.Config.N), .v (.int .i64 r2.Config.L), .v (.int .i64 r2.Config.R), .sl (r2.Hashes.flatMap cGHash) r2.Hashes.length false, .sl (r2.Edges.flatMap cGEdge) r2.Edges.length false], .v (.int .i64 r3)]) (id := 67) Zd Z1 fb66 Z3 (.cons (td Z1 (.agg _ (CFGConfig.dat (GConfig.mk 3 2 1)))) (.cons (tdl CFGHash Z1 Z3 (by simp) Z6) .nil)) (tiersNew_c h1) ?_
 iterate 3 refine pA ?_
 refine hp (id := 72) rfl rfl (aheap_alloc' zc27 Z5) ?_
 refine ARun.heap0 (id := 73) rfl (ah_var (ys := [.v (.int .i64 r2.Config.N), .v (.int .i64 r2.Config.L), .v (.int .i64 r2.Config.R), .sl (r2.Hashes.flatMap cGHash) r2.Hashes.length false, .sl (r2.Edges.flatMap cGEdge) r2.Edges.length false]) sz27 Z1 Z1 Z3 rfl (Nat.le_of_ble_eq_true rfl) Z9 rfl) ?_
 refine pA ?_
 refine fs ?_
 refine sr (N' := 192) rfl ?_
 refine pu rfl (ap_ldv Z1 Z3 Z2) ?_
 obtain ⟨⟨r5, r6⟩, h4, hm⟩ := bnd hm
 refine ARun.callQ (r := .tup [.agg [.v (.int .i64 r5.Config.N), .v (.int .i64 r5.Config.L), .v (.int .i64 r5.Config.R), .sl (r5.Hashes.flatMap cGHash) r5.Hashes.length false, .sl (r5.Edges.flatMap cGEdge) r5.Edges.length false], .v (.int .i64 r6)]) Zd Z1 fb69 (fun H => (cD (.agg _ (CFGGraph.dat _)) (cV (cV .nil)))) (tiersInsert_c h4) ?_
 iterate 3 refine pA ?_
 refine hp (id := 133) rfl rfl (aheap_alloc' zc27 Z5) ?_
 refine ARun.heap0 (id := 134) rfl (ah_var (ys := [.v (.int .i64 r5.Config.N), .v (.int .i64 r5.Config.L), .v (.int .i64 r5.Config.R), .sl (r5.Hashes.flatMap cGHash) r5.Hashes.length false, .sl (r5.Edges.flatMap cGEdge) r5.Edges.length false]) sz27 Z1 Z1 Z3 rfl (Nat.le_of_ble_eq_true rfl) Z9 rfl) ?_
 refine pA ?_
 refine fs ?_
 refine sr (N' := 256) rfl ?_
 refine pu rfl (ap_ldv Z1 Z3 Z2) ?_
 obtain ⟨⟨r8, r9⟩, h7, hm⟩ := bnd hm
 refine ARun.callQ (r := .tup [.agg [.v (.int .i64 r8.Config.N), .v (.int .i64 r8.Config.L), .v (.int .i64 r8.Config.R), .sl (r8.Hashes.flatMap cGHash) r8.Hashes.length false, .sl (r8.Edges.flatMap cGEdge) r8.Edges.length false], .v (.int .i64 r9)]) Zd Z1 fb69 (fun H => (cD (.agg _ (CFGGraph.dat _)) (cV (cV .nil)))) (tiersInsert_c h7) ?_
 iterate 3 refine pA ?_
 refine hp (id := 197) rfl rfl (aheap_alloc' zc27 Z5) ?_
 refine ARun.heap0 (id := 198) rfl (ah_var (ys := [.v (.int .i64 r8.Config.N), .v (.int .i64 r8.Config.L), .v (.int .i64 r8.Config.R), .sl (r8.Hashes.flatMap cGHash) r8.Hashes.length false, .sl (r8.Edges.flatMap cGEdge) r8.Edges.length false]) sz27 Z1 Z1 Z3 rfl (Nat.le_of_ble_eq_true rfl) Z9 rfl) ?_
 refine pA ?_
 refine fs ?_
 refine sr (N' := 320) rfl ?_
 refine pu rfl (ap_ldv Z1 Z3 Z2) ?_
 obtain ⟨⟨r11, r12⟩, h10, hm⟩ := bnd hm
 refine ARun.callQ (r := .tup [.agg [.v (.int .i64 r11.Config.N), .v (.int .i64 r11.Config.L), .v (.int .i64 r11.Config.R), .sl (r11.Hashes.flatMap cGHash) r11.Hashes.length false, .sl (r11.Edges.flatMap cGEdge) r11.Edges.length false], .v (.int .i64 r12)]) Zd Z1 fb68 (fun H => (cD (.agg _ (CFGGraph.dat _)) (cV (cV .nil)))) (tiersDelete_c h10) ?_
 iterate 3 refine pA ?_
 refine hp (id := 261) rfl rfl (aheap_alloc' zc27 Z5) ?_
 refine ARun.heap0 (id := 262) rfl (ah_var (ys := [.v (.int .i64 r11.Config.N), .v (.int .i64 r11.Config.L), .v (.int .i64 r11.Config.R), .sl (r11.Hashes.flatMap cGHash) r11.Hashes.length false, .sl (r11.Edges.flatMap cGEdge) r11.Edges.length false]) sz27 Z1 Z1 Z3 rfl (Nat.le_of_ble_eq_true rfl) Z9 rfl) ?_
 refine pA ?_
 refine fs ?_
 refine sr (N' := 384) rfl ?_
 refine pu rfl (ap_ldv Z1 Z3 Z2) ?_
 obtain ⟨⟨r14, r15⟩, h13, hm⟩ := bnd hm
 refine ARun.callQ (r := .tup [.agg [.v (.int .i64 r14.Config.N), .v (.int .i64 r14.Config.L), .v (.int .i64 r14.Config.R), .sl (r14.Hashes.flatMap cGHash) r14.Hashes.length false, .sl (r14.Edges.flatMap cGEdge) r14.Edges.length false], .v (.int .i64 r15)]) Zd Z1 fb69 (fun H => (cD (.agg _ (CFGGraph.dat _)) (cV (cV .nil)))) (tiersInsert_c h13) ?_
 iterate 3 refine pA ?_
 refine hp (id := 325) rfl rfl (aheap_alloc' zc27 Z5) ?_
 refine ARun.heap0 (id := 326) rfl (ah_var (ys := [.v (.int .i64 r14.Config.N), .v (.int .i64 r14.Config.L), .v (.int .i64 r14.Config.R), .sl (r14.Hashes.flatMap cGHash) r14.Hashes.length false, .sl (r14.Edges.flatMap cGEdge) r14.Edges.length false]) sz27 Z1 Z1 Z3 rfl (Nat.le_of_ble_eq_true rfl) Z9 rfl) ?_
 refine pA ?_
 refine fs ?_
 refine sr (N' := 448) rfl ?_
 refine pu rfl (ap_ldv Z1 Z3 Z2) ?_
 obtain ⟨⟨r17, r18⟩, h16, hm⟩ := bnd hm
 refine ARun.callQ (r := .tup [.agg [.v (.int .i64 r17.Config.N), .v (.int .i64 r17.Config.L), .v (.int .i64 r17.Config.R), .sl (r17.Hashes.flatMap cGHash) r17.Hashes.length false, .sl (r17.Edges.flatMap cGEdge) r17.Edges.length false], .v (.int .i64 r18)]) Zd Z1 fb68 (fun H => (cD (.agg _ (CFGGraph.dat _)) (cV (cV .nil)))) (tiersDelete_c h16) ?_
 iterate 3 refine pA ?_
 refine hp (id := 389) rfl rfl (aheap_alloc' zc27 Z5) ?_
 refine ARun.heap0 (id := 390) rfl (ah_var (ys := [.v (.int .i64 r17.Config.N), .v (.int .i64 r17.Config.L), .v (.int .i64 r17.Config.R), .sl (r17.Hashes.flatMap cGHash) r17.Hashes.length false, .sl (r17.Edges.flatMap cGEdge) r17.Edges.length false]) sz27 Z1 Z1 Z3 rfl (Nat.le_of_ble_eq_true rfl) Z9 rfl) ?_
 refine pA ?_
 refine fs ?_
 refine sr (N' := 512) rfl ?_
 refine pu rfl (by simp only [go_sem, Nat.reduceBEq]; exact (by kernel_rfl : abuild Try.prog 23 [(0, .v (.int .i64 3)), (1, .v (.int .i64 2)), (2, .v (.int .i64 1))] = some (.agg [.v (.int .i64 3), .v (.int .i64 2), .v (.int .i64 1)]))) ?_
 obtain ⟨⟨r20, r21⟩, h19, hm⟩ := bnd hm
 refine ARun.callQ (r := .tup [.agg [.v (.int .i64 r20.Config.N), .v (.int .i64 r20.Config.L), .v (.int .i64 r20.Config.R), .sl (r20.Hashes.flatMap cGHash) r20.Hashes.length false, .sl (r20.Edges.flatMap cGEdge) r20.Edges.length false], .v (.int .i64 r21)]) Zd Z1 fb66 (fun H => (.cons (td Z1 (.agg _ (CFGConfig.dat (GConfig.mk 3 2 1)))) (.cons (tdn Z1) .nil))) (tiersNew_c h19) ?_
 iterate 3 refine pA ?_
 refine hp (id := 453) rfl rfl (aheap_alloc' zc27 Z5) ?_
 refine ARun.heap0 (id := 454) rfl (ah_var (ys := [.v (.int .i64 r20.Config.N), .v (.int .i64 r20.Config.L), .v (.int .i64 r20.Config.R), .sl (r20.Hashes.flatMap cGHash) r20.Hashes.length false, .sl (r20.Edges.flatMap cGEdge) r20.Edges.length false]) sz27 Z1 Z1 Z3 rfl (Nat.le_of_ble_eq_true rfl) Z9 rfl) ?_
 refine pA ?_
 refine fs ?_
 refine sr (N' := 576) rfl ?_
 iterate 8 first | refine pA ?_ | refine pB ?_
 refine pg rfl rfl Z2 (fun hb => (ap_ldv (Zh hb) Z3 Z4)) ?_
 refine pg rfl rfl Z2 (fun hb => (by simp only [go_sem, Nat.reduceBEq, hb, Bool.true_and]; exact (by kernel_rfl : abuild Try.prog 38 [(0, .v (.int .i64 0)), (1, .v (.int .i64 2)), (2, .v (.int .i64 1))] = some (.agg [.v (.int .i64 0), .v (.int .i64 2), .v (.int .i64 1)])))) ?_
 refine split_m hm (fun h22 hm => ?_) (fun h22 hm => ?_)
 ·
  refine ARun.heapG Zd rfl (by simp only [go_sem, Nat.reduceBEq, h22]; try with_reducible rfl) (id := 522) rfl (ah_list CFGEdge (l := [(GEdge.mk 0 2 1)]) Try.underlying25 sz38 zc38 Z5 Zd Zd Zd (by simp only [go_sem, Nat.reduceBEq, h22]; try rfl) (by kernel_rfl)) ?_
  obtain ⟨r24, h23, hm⟩ := bnd hm
  refine ARun.callBG (r := .v (.bool r24)) Zd rfl (by simp only [go_sem, Nat.reduceBEq, h22]; try with_reducible rfl) (by try simp only [go_sem, Nat.reduceBEq, h22]; try rfl) fb36 (fun hb => (.cons (ltd fun H => (td (by try simp only [go_sem, Nat.reduceBEq, h22]; try rfl) (CFGEdge.sl _ _ _))) (.cons (lto CFGEdge (by try simp only [go_sem, Nat.reduceBEq, h22]; try rfl) Z3 Z6) Lent.nil))) scal1 (fun hb => ref03Same_c h23) ?_
  iterate 22 (first | refine pu rfl (by simp only [go_sem, Nat.reduceBEq, h22]; try with_reducible rfl) ?_ | refine pg rfl rfl (by simp only [go_sem, Nat.reduceBEq, h22]; try with_reducible rfl) (by intro hb; simp only [go_sem, Nat.reduceBEq, h22, hb, Bool.true_and]; try with_reducible rfl) ?_)
  refine pg rfl rfl (by simp only [go_sem, Nat.reduceBEq, h22]; try with_reducible rfl) (fun hb => (ap_ldv (by try simp only [go_sem, Nat.reduceBEq, h22, hb, Bool.true_and]; try rfl) Z3 (by simp only [go_sem, Nat.reduceBEq, h22]; try with_reducible rfl))) ?_
  obtain ⟨r26, h25, hm⟩ := bnd hm
  refine ARun.callQG (r := .sl (r26.flatMap (ci .i64)) r26.length false) Zd rfl (by simp only [go_sem, Nat.reduceBEq, h22]; try with_reducible rfl) (by try simp only [go_sem, Nat.reduceBEq, h22]; try rfl) fb39 (fun hb H => (.cons (td (by try simp only [go_sem, Nat.reduceBEq, h22, hb, Bool.true_and]; try rfl) (.agg _ (CFGGraph.dat _))) .nil)) (fun hb => tiersKept_c (gopt_t h25 hb)) ?_
  refine split_m hm (fun h27 hm => ?_) (fun h27 hm => ?_)
  ·
   refine ARun.heapG Zd rfl (by simp only [go_sem, Nat.reduceBEq, h22, h27]; try with_reducible rfl) (id := 548) rfl (ah_list (CFi .i64) (l := [0, 0, 2]) Try.underlying30 sz3 zc3 Z5 Zd Zd Zd (by simp only [go_sem, Nat.reduceBEq, h22, h27]; try rfl) (by kernel_rfl)) ?_
   obtain ⟨r29, h28, hm⟩ := bnd hm
   refine ARun.callBG (r := .v (.bool r29)) Zd rfl (by simp only [go_sem, Nat.reduceBEq, h22, h27]; try with_reducible rfl) (by try simp only [go_sem, Nat.reduceBEq, h22, h27]; try rfl) fb34 (fun hb => (.cons (ltd fun H => (td (by try simp only [go_sem, Nat.reduceBEq, h22, h27]; try rfl) ((CFi .i64).sl _ _ _))) (.cons (lto (CFi .i64) (by try simp only [go_sem, Nat.reduceBEq, h22, h27]; try rfl) Z3 Z6) Lent.nil))) scal1 (fun hb => ref06Same_c h28) ?_
   iterate 2 refine pu rfl (by simp only [go_sem, Nat.reduceBEq, h22, h27]; try with_reducible rfl) ?_
   refine fs ?_
   refine AWp.ret ?_
   cases hm
   exact ret1D (.inr rfl) Try.results67 (td Z1 (.v _))
  ·
   refine ARun.skipG Zd rfl (by simp only [go_sem, Nat.reduceBEq, h22, h27]; try with_reducible rfl) ?_
   refine ARun.skipG Zd rfl (by simp only [go_sem, Nat.reduceBEq, h22, h27]; try with_reducible rfl) ?_
   iterate 2 refine pu rfl (by simp only [go_sem, Nat.reduceBEq, h22, h27]; try with_reducible rfl) ?_
   refine fs ?_
   refine AWp.ret ?_
   cases hm
   exact ret1D (.inr rfl) Try.results67 (td Z1 (.v _))
 ·
  refine ARun.skipG Zd rfl (by simp only [go_sem, Nat.reduceBEq, h22]; try with_reducible rfl) ?_
  refine ARun.skipG Zd rfl (by simp only [go_sem, Nat.reduceBEq, h22]; try with_reducible rfl) ?_
  iterate 2 refine pu rfl (by simp only [go_sem, Nat.reduceBEq, h22]; try with_reducible rfl) ?_
  refine ARun.skipG Zd rfl (by simp only [go_sem, Nat.reduceBEq, h22]; try with_reducible rfl) ?_
  refine ARun.skipG Zd rfl (by simp only [go_sem, Nat.reduceBEq, h22]; try with_reducible rfl) ?_
  iterate 2 refine pu rfl (by simp only [go_sem, Nat.reduceBEq, h22]; try with_reducible rfl) ?_
  refine ARun.skipG Zd rfl (by simp only [go_sem, Nat.reduceBEq, h22]; try with_reducible rfl) ?_
  refine ARun.skipG Zd rfl (by simp only [go_sem, Nat.reduceBEq, h22]; try with_reducible rfl) ?_
  iterate 2 refine pu rfl (by simp only [go_sem, Nat.reduceBEq, h22]; try with_reducible rfl) ?_
  refine ARun.skipG Zd rfl (by simp only [go_sem, Nat.reduceBEq, h22]; try with_reducible rfl) ?_
  refine ARun.skipG Zd rfl (by simp only [go_sem, Nat.reduceBEq, h22]; try with_reducible rfl) ?_
  iterate 2 refine pu rfl (by simp only [go_sem, Nat.reduceBEq, h22]; try with_reducible rfl) ?_
  refine ARun.skipG Zd rfl (by simp only [go_sem, Nat.reduceBEq, h22]; try with_reducible rfl) ?_
  refine ARun.skipG Zd rfl (by simp only [go_sem, Nat.reduceBEq, h22]; try with_reducible rfl) ?_
  iterate 2 refine pu rfl (by simp only [go_sem, Nat.reduceBEq, h22]; try with_reducible rfl) ?_
  refine ARun.skipG Zd rfl (by simp only [go_sem, Nat.reduceBEq, h22]; try with_reducible rfl) ?_
  refine ARun.skipG Zd rfl (by simp only [go_sem, Nat.reduceBEq, h22]; try with_reducible rfl) ?_
  iterate 2 refine pu rfl (by simp only [go_sem, Nat.reduceBEq, h22]; try with_reducible rfl) ?_
  refine ARun.skipG Zd rfl (by simp only [go_sem, Nat.reduceBEq, h22]; try with_reducible rfl) ?_
  refine ARun.skipG Zd rfl (by simp only [go_sem, Nat.reduceBEq, h22]; try with_reducible rfl) ?_
  refine ARun.skipG Zd rfl (by simp only [go_sem, Nat.reduceBEq, h22]; try with_reducible rfl) ?_
  refine ARun.skipG Zd rfl (by simp only [go_sem, Nat.reduceBEq, h22]; try with_reducible rfl) ?_
  iterate 2 refine pu rfl (by simp only [go_sem, Nat.reduceBEq, h22]; try with_reducible rfl) ?_
  refine fs ?_
  refine AWp.ret ?_
  cases hm
  exact ret1D (.inr rfl) Try.results67 (td Z1 (.v _))
end Go.Proofs.Ytibnmlbjahcjmaa
