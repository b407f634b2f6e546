/- Facts that the statement's proof is made of. No condition. -/
import Derived.Test.YtibnmlbjahcjmaaQvGB1
set_option linter.unusedVariables false
set_option linter.unusedSimpArgs false
set_option maxRecDepth 20000
set_option maxHeartbeats 4000000
namespace Go.Proofs.Ytibnmlbjahcjmaa
open Go Go.AM
theorem eqs38GB2 (x0 y0 x1 y1 x2 y2 : Int) : abin Try.prog .eql 38 (.agg [.v (.int .i64 x0), .v (.int .i64 x1), .v (.int .i64 x2)]) (.agg [.v (.int .i64 y0), .v (.int .i64 y1), .v (.int .i64 y2)]) = some (.v (.bool ((x0 == y0) && ((x1 == y1) && (x2 == y2))))) :=
 (by kernel_rfl : abin Try.prog .eql 38 (.agg [.v (.int .i64 x0), .v (.int .i64 x1), .v (.int .i64 x2)]) (.agg [.v (.int .i64 y0), .v (.int .i64 y1), .v (.int .i64 y2)]) = some (.v (.bool ((x0 == y0) && ((x1 == y1) && ((x2 == y2) && true)))))).trans (by rw [Bool.and_true])
theorem nqs38GB2 (x0 y0 x1 y1 x2 y2 : Int) : abin Try.prog .neq 38 (.agg [.v (.int .i64 x0), .v (.int .i64 x1), .v (.int .i64 x2)]) (.agg [.v (.int .i64 y0), .v (.int .i64 y1), .v (.int .i64 y2)]) = some (.v (.bool (!((x0 == y0) && ((x1 == y1) && (x2 == y2)))))) :=
 (by kernel_rfl : abin Try.prog .neq 38 (.agg [.v (.int .i64 x0), .v (.int .i64 x1), .v (.int .i64 x2)]) (.agg [.v (.int .i64 y0), .v (.int .i64 y1), .v (.int .i64 y2)]) = some (.v (.bool (!((x0 == y0) && ((x1 == y1) && ((x2 == y2) && true))))))).trans (by rw [Bool.and_true])
attribute [go_sem] eqs38GB2 nqs38GB2
theorem eqs53GB2 (x0 y0 x1 y1 : Int) : abin Try.prog .eql 53 (.agg [.v (.int .u64 x0), .v (.int .u64 x1)]) (.agg [.v (.int .u64 y0), .v (.int .u64 y1)]) = some (.v (.bool ((x0 == y0) && (x1 == y1)))) :=
 (by kernel_rfl : abin Try.prog .eql 53 (.agg [.v (.int .u64 x0), .v (.int .u64 x1)]) (.agg [.v (.int .u64 y0), .v (.int .u64 y1)]) = some (.v (.bool ((x0 == y0) && ((x1 == y1) && true))))).trans (by rw [Bool.and_true])
theorem nqs53GB2 (x0 y0 x1 y1 : Int) : abin Try.prog .neq 53 (.agg [.v (.int .u64 x0), .v (.int .u64 x1)]) (.agg [.v (.int .u64 y0), .v (.int .u64 y1)]) = some (.v (.bool (!((x0 == y0) && (x1 == y1))))) :=
 (by kernel_rfl : abin Try.prog .neq 53 (.agg [.v (.int .u64 x0), .v (.int .u64 x1)]) (.agg [.v (.int .u64 y0), .v (.int .u64 y1)]) = some (.v (.bool (!((x0 == y0) && ((x1 == y1) && true)))))).trans (by rw [Bool.and_true])
attribute [go_sem] eqs53GB2 nqs53GB2
theorem fa38_0GB2 (xs : List AV) : afieldAddr Try.prog 38 (.ptr (xs)) 0 = some (.ptr xs) := by kernel_rfl
attribute [go_sem] fa38_0GB2
theorem fa38_1GB2 (x0 : AV) (xs : List AV) : afieldAddr Try.prog 38 (.ptr (x0 :: xs)) 1 = some (.ptr xs) := by kernel_rfl
attribute [go_sem] fa38_1GB2
theorem fo23_0GB2 (i o : Nat) : afieldAddr Try.prog 23 (.adr i o) 0 = some (.adr i (o + 0)) := by kernel_rfl
attribute [go_sem] fo23_0GB2
theorem fo23_1GB2 (i o : Nat) : afieldAddr Try.prog 23 (.adr i o) 1 = some (.adr i (o + 1)) := by kernel_rfl
attribute [go_sem] fo23_1GB2
theorem fo23_2GB2 (i o : Nat) : afieldAddr Try.prog 23 (.adr i o) 2 = some (.adr i (o + 2)) := by kernel_rfl
attribute [go_sem] fo23_2GB2
theorem fo27_0GB2 (i o : Nat) : afieldAddr Try.prog 27 (.adr i o) 0 = some (.adr i (o + 0)) := by kernel_rfl
attribute [go_sem] fo27_0GB2
theorem fo27_1GB2 (i o : Nat) : afieldAddr Try.prog 27 (.adr i o) 1 = some (.adr i (o + 3)) := by kernel_rfl
attribute [go_sem] fo27_1GB2
theorem fo27_2GB2 (i o : Nat) : afieldAddr Try.prog 27 (.adr i o) 2 = some (.adr i (o + 4)) := by kernel_rfl
attribute [go_sem] fo27_2GB2
theorem fo38_0GB2 (i o : Nat) : afieldAddr Try.prog 38 (.adr i o) 0 = some (.adr i (o + 0)) := by kernel_rfl
attribute [go_sem] fo38_0GB2
theorem fo38_1GB2 (i o : Nat) : afieldAddr Try.prog 38 (.adr i o) 1 = some (.adr i (o + 1)) := by kernel_rfl
attribute [go_sem] fo38_1GB2
theorem fo53_0GB2 (i o : Nat) : afieldAddr Try.prog 53 (.adr i o) 0 = some (.adr i (o + 0)) := by kernel_rfl
attribute [go_sem] fo53_0GB2
theorem fo53_1GB2 (i o : Nat) : afieldAddr Try.prog 53 (.adr i o) 1 = some (.adr i (o + 1)) := by kernel_rfl
attribute [go_sem] fo53_1GB2
theorem ld24GB2 (H : Heap) (x : AV) (xs : List AV) : aload Try.prog H 24 (.ptr (x :: xs)) = some x := by kernel_rfl
attribute [go_sem] ld24GB2
theorem ld25GB2 (H : Heap) (x : AV) (xs : List AV) : aload Try.prog H 25 (.ptr (x :: xs)) = some x := by kernel_rfl
attribute [go_sem] ld25GB2
theorem ld27GB2 (H : Heap) (x0 x1 x2 x3 x4 : AV) (xs : List AV) : aload Try.prog H 27 (.ptr (x0 :: x1 :: x2 :: x3 :: x4 :: xs)) = some (.agg [x0, x1, x2, x3, x4]) := by kernel_rfl
attribute [go_sem] ld27GB2
theorem ld3GB2 (H : Heap) (x : AV) (xs : List AV) : aload Try.prog H 3 (.ptr (x :: xs)) = some x := by kernel_rfl
attribute [go_sem] ld3GB2
theorem ld38GB2 (H : Heap) (x0 x1 x2 : AV) (xs : List AV) : aload Try.prog H 38 (.ptr (x0 :: x1 :: x2 :: xs)) = some (.agg [x0, x1, x2]) := by kernel_rfl
attribute [go_sem] ld38GB2
theorem ld51GB2 (H : Heap) (x : AV) (xs : List AV) : aload Try.prog H 51 (.ptr (x :: xs)) = some x := by kernel_rfl
attribute [go_sem] ld51GB2
theorem ld53GB2 (H : Heap) (x0 x1 : AV) (xs : List AV) : aload Try.prog H 53 (.ptr (x0 :: x1 :: xs)) = some (.agg [x0, x1]) := by kernel_rfl
attribute [go_sem] ld53GB2
theorem cv3_51GB2 (H : Heap) (k : IntKind) (n : Int) : aconv Try.prog H 3 51 (.v (.int k n)) = some (.v (.int .u64 (IntKind.u64.wrap n))) := aconv_int Try.underlying3 Try.underlying51
attribute [go_sem] cv3_51GB2
theorem cv3_124GB2 (H : Heap) (k : IntKind) (n : Int) : aconv Try.prog H 3 124 (.v (.int k n)) = some (.v (.int .u64 (IntKind.u64.wrap n))) := aconv_int Try.underlying3 Try.underlying124
attribute [go_sem] cv3_124GB2
def ref04Levels_J1 (bits_3 : Int) : Option (Int) :=
 some (IntKind.i64.wrap ((IntKind.i64.wrap (2 * bits_3)) + 2))
def ref04Levels_B1 (rec1 : Int → Int → Int → Option (Int)) (n_0 : Int) (bits_3 : Int) (many_4 : Int) : Option (Int) :=
 (bif ((decide (many_4 < n_0)) && (decide (bits_3 < 62))) then
  rec1 n_0 (IntKind.i64.wrap (bits_3 + 1)) (IntKind.i64.wrap (2 * many_4))
 else
  (bif (decide (many_4 < n_0)) then
   ref04Levels_J1 63
  else
   ref04Levels_J1 bits_3))
def ref04Levels_L1 : Nat → Int → Int → Int → Option (Int)
 | 0 => fun _ _ _ => none
 | n + 1 => ref04Levels_B1 (ref04Levels_L1 n)
def ref04Levels_m (n_0 : Int) : Option (Int) :=
 (bif (decide (n_0 < 1)) then
  some 0
 else
  ref04Levels_L1 FUEL n_0 0 1)
def ref12Find_B1 (rec1 : List GEdge → Int → Int → Int → Option (Int)) (l_0 : List GEdge) (u_1 : Int) (v_2 : Int) (i_7 : Int) : Option (Int) :=
 (bif (decide (i_7 < (l_0.length : Int))) then
  ((idx l_0 i_7).bind fun x2 =>
  ((gopt ((x2.U == u_1) == true) (GEdge.mk 0 0 0) (idx l_0 i_7)).bind fun x4 =>
  ((gopt (((x2.U == u_1) && (x4.V == v_2)) == false) (GEdge.mk 0 0 0) (idx l_0 i_7)).bind fun x6 =>
  ((gopt ((((x2.U == u_1) && (x4.V == v_2)) == false) && ((x6.U == v_2) == true)) (GEdge.mk 0 0 0) (idx l_0 i_7)).bind fun x8 =>
  (bif (((x2.U == u_1) && (x4.V == v_2)) || ((x6.U == v_2) && (x8.V == u_1))) then
   some i_7
  else
   rec1 l_0 u_1 v_2 (IntKind.i64.wrap (i_7 + 1)))))))
 else
  some (-1))
def ref12Find_L1 : Nat → List GEdge → Int → Int → Int → Option (Int)
 | 0 => fun _ _ _ _ => none
 | n + 1 => ref12Find_B1 (ref12Find_L1 n)
def ref12Find_m (l_0 : List GEdge) (u_1 : Int) (v_2 : Int) : Option (Int) :=
 ref12Find_L1 FUEL l_0 u_1 v_2 0
theorem ref12Find_c {l_0 : List GEdge} {u_1 : Int} {v_2 : Int} {r : Int} (hm : ref12Find_m l_0 u_1 v_2 = some r) : PureC Try.prog 53 [.sl (l_0.flatMap cGEdge) l_0.length false, .v (.int .i64 u_1), .v (.int .i64 v_2)] (.v (.int .i64 r)) := by
 refine PureC.of_body Try.func53 rfl ?_
 simp only [Try.ntmps53, List.length_cons, List.length_nil, Nat.reduceAdd, Nat.reduceSub, empty_eq]
 unfold ref12Find_m at hm
 refine sr (N' := 64) rfl ?_
 refine pA ?_
 refine fs ?_
 refine AWp.seq' ?_
 refine sr (N' := 128) rfl ?_
 refine pA ?_
 refine fs ?_
 refine AWp.block ?_
 refine AWp.loopM (fun m s => ∃ (l_0 : List GEdge) (u_1 : Int) (v_2 : Int) (i_7 : Int), s = (⟨49, (fset (fset (fset (fset (fun _ => AV.any) 0 (.sl (l_0.flatMap cGEdge) l_0.length false)) 1 (.v (.int .i64 u_1))) 2 (.v (.int .i64 v_2))) 7 (.v (.int .i64 i_7))), ⟨nofresh, 64⟩⟩ : St) ∧ ref12Find_L1 m l_0 u_1 v_2 i_7 = some r) FUEL ?_ ?_ ?_
 ·
  rintro s ⟨_, _, _, _, _, h⟩
  cases h
 ·
  refine ⟨_, ?_, l_0, u_1, v_2, 0, rfl, hm⟩
  exact le_canon id (wV (wV (wV (wD (CFGEdge.sl _ _ _) wk_none)))) heapWk0
 ·
  rintro n1 s ⟨l_0, u_1, v_2, i_7, rfl, hm⟩
  replace hm : ref12Find_B1 (ref12Find_L1 n1) l_0 u_1 v_2 i_7 = some r := hm
  unfold ref12Find_B1 at hm
  refine AWp.seq' ?_
  refine sr (N' := 128) rfl ?_
  iterate 4 refine pA ?_
  refine fs ?_
  refine AWp.condM hm Z1 (fun _ hm => ?_) (fun _ hm => ?_)
  ·
   refine AWp.skip ?_
   refine normSeq ?_
   refine AWp.seq' ?_
   refine AWp.block ?_
   refine sr (N' := 192) rfl ?_
   iterate 2 refine pA ?_
   obtain ⟨x2, h1, hm⟩ := bnd hm
   refine pu rfl (ap_idx CFGEdge Zd Try.underlying25 sz38 Z1 rfl Z1 h1) ?_
   iterate 7 first | refine pA ?_ | refine pB ?_
   obtain ⟨x4, h3, hm⟩ := bnd hm
   refine pg rfl rfl Z2 (fun hb => (ap_idx CFGEdge Zd Try.underlying25 sz38 (Zh hb) rfl (Zh hb) (gopt_t h3 hb))) ?_
   iterate 8 first | refine pA ?_ | refine pB ?_
   obtain ⟨x6, h5, hm⟩ := bnd hm
   refine pg rfl rfl Z2 (fun hb => (ap_idx CFGEdge Zd Try.underlying25 sz38 (Zh hb) rfl (Zh hb) (gopt_t h5 hb))) ?_
   iterate 7 refine pB ?_
   obtain ⟨x8, h7, hm⟩ := bnd hm
   refine pg rfl rfl Z2 (fun hb => (ap_idx CFGEdge Zd Try.underlying25 sz38 (Zh hb) rfl (Zh hb) (gopt_t h7 hb))) ?_
   iterate 6 first | refine pA ?_ | refine pB ?_
   refine fs ?_
   refine AWp.condM hm Z1 (fun _ hm => ?_) (fun _ hm => ?_)
   ·
    refine sr (N' := 256) rfl ?_
    iterate 2 refine pA ?_
    refine fs ?_
    refine AWp.ret ?_
    refine retIn ?_
    refine retSeq ?_
    refine retThen ?_
    refine retIn ?_
    refine retSeq ?_
    cases hm
    exact ret1D (.inr rfl) Try.results53 (td Z1 (.v _))
   ·
    refine AWp.skip ?_
    refine normIn ?_
    refine normSeq ?_
    refine AWp.reg 64 (N' := 256) rfl ?_
    iterate 3 refine pA ?_
    refine ARun.fin ?_
    refine normThen ?_
    refine ⟨_, ?_, l_0, u_1, v_2, (IntKind.i64.wrap (i_7 + 1)), rfl, hm⟩
    exact le_canon id (wV (wV (wV (wD (CFGEdge.sl _ _ _) wk_none)))) heapWk0
  ·
   refine AWp.exit ?_
   refine exitSeq ?_
   refine exitThen ?_
   refine exitHere ?_
   refine normSeq ?_
   refine sr (N' := 192) rfl ?_
   refine pA ?_
   refine fs ?_
   refine AWp.ret ?_
   cases hm
   exact ret1D (.inr rfl) Try.results53 (td Z1 (.v _))
end Go.Proofs.Ytibnmlbjahcjmaa
