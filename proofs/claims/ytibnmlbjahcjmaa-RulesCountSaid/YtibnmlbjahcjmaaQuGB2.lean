/- Facts that the statement's proof is made of. No condition. -/
import Derived.Test.YtibnmlbjahcjmaaQuGB1
set_option linter.unusedVariables false
set_option linter.unusedSimpArgs false
set_option maxRecDepth 20000
set_option maxHeartbeats 4000000
namespace Go.Proofs.Ytibnmlbjahcjmaa
open Go Go.AM
theorem eqs38GB2 (x0 y0 x1 y1 x2 y2 : Int) : abin Try.prog .eql 38 (.agg [.v (.int .i64 x0), .v (.int .i64 x1), .v (.int .i64 x2)]) (.agg [.v (.int .i64 y0), .v (.int .i64 y1), .v (.int .i64 y2)]) = some (.v (.bool ((x0 == y0) && ((x1 == y1) && (x2 == y2))))) :=
 (by kernel_rfl : abin Try.prog .eql 38 (.agg [.v (.int .i64 x0), .v (.int .i64 x1), .v (.int .i64 x2)]) (.agg [.v (.int .i64 y0), .v (.int .i64 y1), .v (.int .i64 y2)]) = some (.v (.bool ((x0 == y0) && ((x1 == y1) && ((x2 == y2) && true)))))).trans (by rw [Bool.and_true])
theorem nqs38GB2 (x0 y0 x1 y1 x2 y2 : Int) : abin Try.prog .neq 38 (.agg [.v (.int .i64 x0), .v (.int .i64 x1), .v (.int .i64 x2)]) (.agg [.v (.int .i64 y0), .v (.int .i64 y1), .v (.int .i64 y2)]) = some (.v (.bool (!((x0 == y0) && ((x1 == y1) && (x2 == y2)))))) :=
 (by kernel_rfl : abin Try.prog .neq 38 (.agg [.v (.int .i64 x0), .v (.int .i64 x1), .v (.int .i64 x2)]) (.agg [.v (.int .i64 y0), .v (.int .i64 y1), .v (.int .i64 y2)]) = some (.v (.bool (!((x0 == y0) && ((x1 == y1) && ((x2 == y2) && true))))))).trans (by rw [Bool.and_true])
attribute [go_sem] eqs38GB2 nqs38GB2
theorem eqs53GB2 (x0 y0 x1 y1 : Int) : abin Try.prog .eql 53 (.agg [.v (.int .u64 x0), .v (.int .u64 x1)]) (.agg [.v (.int .u64 y0), .v (.int .u64 y1)]) = some (.v (.bool ((x0 == y0) && (x1 == y1)))) :=
 (by kernel_rfl : abin Try.prog .eql 53 (.agg [.v (.int .u64 x0), .v (.int .u64 x1)]) (.agg [.v (.int .u64 y0), .v (.int .u64 y1)]) = some (.v (.bool ((x0 == y0) && ((x1 == y1) && true))))).trans (by rw [Bool.and_true])
theorem nqs53GB2 (x0 y0 x1 y1 : Int) : abin Try.prog .neq 53 (.agg [.v (.int .u64 x0), .v (.int .u64 x1)]) (.agg [.v (.int .u64 y0), .v (.int .u64 y1)]) = some (.v (.bool (!((x0 == y0) && (x1 == y1))))) :=
 (by kernel_rfl : abin Try.prog .neq 53 (.agg [.v (.int .u64 x0), .v (.int .u64 x1)]) (.agg [.v (.int .u64 y0), .v (.int .u64 y1)]) = some (.v (.bool (!((x0 == y0) && ((x1 == y1) && true)))))).trans (by rw [Bool.and_true])
attribute [go_sem] eqs53GB2 nqs53GB2
theorem fa38_0GB2 (xs : List AV) : afieldAddr Try.prog 38 (.ptr (xs)) 0 = some (.ptr xs) := by kernel_rfl
attribute [go_sem] fa38_0GB2
theorem fa38_1GB2 (x0 : AV) (xs : List AV) : afieldAddr Try.prog 38 (.ptr (x0 :: xs)) 1 = some (.ptr xs) := by kernel_rfl
attribute [go_sem] fa38_1GB2
theorem fo23_0GB2 (i o : Nat) : afieldAddr Try.prog 23 (.adr i o) 0 = some (.adr i (o + 0)) := by kernel_rfl
attribute [go_sem] fo23_0GB2
theorem fo23_1GB2 (i o : Nat) : afieldAddr Try.prog 23 (.adr i o) 1 = some (.adr i (o + 1)) := by kernel_rfl
attribute [go_sem] fo23_1GB2
theorem fo23_2GB2 (i o : Nat) : afieldAddr Try.prog 23 (.adr i o) 2 = some (.adr i (o + 2)) := by kernel_rfl
attribute [go_sem] fo23_2GB2
theorem fo27_0GB2 (i o : Nat) : afieldAddr Try.prog 27 (.adr i o) 0 = some (.adr i (o + 0)) := by kernel_rfl
attribute [go_sem] fo27_0GB2
theorem fo27_1GB2 (i o : Nat) : afieldAddr Try.prog 27 (.adr i o) 1 = some (.adr i (o + 3)) := by kernel_rfl
attribute [go_sem] fo27_1GB2
theorem fo27_2GB2 (i o : Nat) : afieldAddr Try.prog 27 (.adr i o) 2 = some (.adr i (o + 4)) := by kernel_rfl
attribute [go_sem] fo27_2GB2
theorem fo38_0GB2 (i o : Nat) : afieldAddr Try.prog 38 (.adr i o) 0 = some (.adr i (o + 0)) := by kernel_rfl
attribute [go_sem] fo38_0GB2
theorem fo38_1GB2 (i o : Nat) : afieldAddr Try.prog 38 (.adr i o) 1 = some (.adr i (o + 1)) := by kernel_rfl
attribute [go_sem] fo38_1GB2
theorem fo53_0GB2 (i o : Nat) : afieldAddr Try.prog 53 (.adr i o) 0 = some (.adr i (o + 0)) := by kernel_rfl
attribute [go_sem] fo53_0GB2
theorem fo53_1GB2 (i o : Nat) : afieldAddr Try.prog 53 (.adr i o) 1 = some (.adr i (o + 1)) := by kernel_rfl
attribute [go_sem] fo53_1GB2
theorem ld24GB2 (H : Heap) (x : AV) (xs : List AV) : aload Try.prog H 24 (.ptr (x :: xs)) = some x := by kernel_rfl
attribute [go_sem] ld24GB2
theorem ld25GB2 (H : Heap) (x : AV) (xs : List AV) : aload Try.prog H 25 (.ptr (x :: xs)) = some x := by kernel_rfl
attribute [go_sem] ld25GB2
theorem ld27GB2 (H : Heap) (x0 x1 x2 x3 x4 : AV) (xs : List AV) : aload Try.prog H 27 (.ptr (x0 :: x1 :: x2 :: x3 :: x4 :: xs)) = some (.agg [x0, x1, x2, x3, x4]) := by kernel_rfl
attribute [go_sem] ld27GB2
theorem ld3GB2 (H : Heap) (x : AV) (xs : List AV) : aload Try.prog H 3 (.ptr (x :: xs)) = some x := by kernel_rfl
attribute [go_sem] ld3GB2
theorem ld38GB2 (H : Heap) (x0 x1 x2 : AV) (xs : List AV) : aload Try.prog H 38 (.ptr (x0 :: x1 :: x2 :: xs)) = some (.agg [x0, x1, x2]) := by kernel_rfl
attribute [go_sem] ld38GB2
theorem ld51GB2 (H : Heap) (x : AV) (xs : List AV) : aload Try.prog H 51 (.ptr (x :: xs)) = some x := by kernel_rfl
attribute [go_sem] ld51GB2
theorem ld53GB2 (H : Heap) (x0 x1 : AV) (xs : List AV) : aload Try.prog H 53 (.ptr (x0 :: x1 :: xs)) = some (.agg [x0, x1]) := by kernel_rfl
attribute [go_sem] ld53GB2
theorem cv3_51GB2 (H : Heap) (k : IntKind) (n : Int) : aconv Try.prog H 3 51 (.v (.int k n)) = some (.v (.int .u64 (IntKind.u64.wrap n))) := aconv_int Try.underlying3 Try.underlying51
attribute [go_sem] cv3_51GB2
theorem cv3_124GB2 (H : Heap) (k : IntKind) (n : Int) : aconv Try.prog H 3 124 (.v (.int k n)) = some (.v (.int .u64 (IntKind.u64.wrap n))) := aconv_int Try.underlying3 Try.underlying124
attribute [go_sem] cv3_124GB2
def ref14Hashes_B1 (rec1 : Int → GGraph → List GHash → Int → Option ((List GHash))) (tier_1 : Int) (g_2 : GGraph) (out_5 : List GHash) (i_6 : Int) : Option ((List GHash)) :=
 (bif (decide (i_6 < g_2.Config.R)) then
  ((idx g_2.Hashes (IntKind.i64.wrap ((IntKind.i64.wrap (tier_1 * g_2.Config.R)) + i_6))).bind fun x2 =>
  ((app out_5 [x2]).bind fun l4 =>
  rec1 tier_1 g_2 l4 (IntKind.i64.wrap (i_6 + 1))))
 else
  some out_5)
def ref14Hashes_L1 : Nat → Int → GGraph → List GHash → Int → Option ((List GHash))
 | 0 => fun _ _ _ _ => none
 | n + 1 => ref14Hashes_B1 (ref14Hashes_L1 n)
def ref14Hashes_m (g_0 : GGraph) (tier_1 : Int) : Option ((List GHash)) :=
 ref14Hashes_L1 FUEL tier_1 g_0 [] 0
theorem ref14Hashes_c {g_0 : GGraph} {tier_1 : Int} {r : (List GHash)} (hm : ref14Hashes_m g_0 tier_1 = some r) : PureC Try.prog 92 [.agg [.v (.int .i64 g_0.Config.N), .v (.int .i64 g_0.Config.L), .v (.int .i64 g_0.Config.R), .sl (g_0.Hashes.flatMap cGHash) g_0.Hashes.length false, .sl (g_0.Edges.flatMap cGEdge) g_0.Edges.length false], .v (.int .i64 tier_1)] (.sl (r.flatMap cGHash) r.length false) := by
 refine PureC.of_body Try.func92 rfl ?_
 simp only [Try.ntmps92, List.length_cons, List.length_nil, Nat.reduceAdd, Nat.reduceSub, empty_eq]
 unfold ref14Hashes_m at hm
 refine sr (N' := 64) rfl ?_
 refine hp (id := 0) rfl rfl (aheap_box Z1 Z5) ?_
 refine pA ?_
 refine fs ?_
 refine sr (N' := 128) rfl ?_
 refine pA ?_
 refine fs ?_
 refine AWp.seq' ?_
 refine sr (N' := 192) rfl ?_
 refine pA ?_
 refine fs ?_
 refine AWp.block ?_
 refine AWp.loopM (fun m s => ∃ (tier_1 : Int) (g_2 : GGraph) (out_5 : List GHash) (i_6 : Int), s = (⟨29, (fset (fset (fset (fset (fun _ => AV.any) 1 (.v (.int .i64 tier_1))) 2 (.adr 1 0)) 5 (.own 2 0 out_5.length)) 6 (.v (.int .i64 i_6))), ⟨(upd (upd nofresh 1 (.cells 1 [.v (.int .i64 g_2.Config.N), .v (.int .i64 g_2.Config.L), .v (.int .i64 g_2.Config.R), .sl (g_2.Hashes.flatMap cGHash) g_2.Hashes.length false, .sl (g_2.Edges.flatMap cGEdge) g_2.Edges.length false] 0)) 2 (.cells 2 (out_5.flatMap cGHash) 0)), 64⟩⟩ : St) ∧ ref14Hashes_L1 m tier_1 g_2 out_5 i_6 = some r) FUEL ?_ ?_ ?_
 ·
  rintro s ⟨_, _, _, _, _, h⟩
  cases h
 ·
  refine ⟨_, ?_, tier_1, g_0, [], 0, rfl, hm⟩
  refine St.Le.trans (le_nil 5 900005 2 Z1 Z5) ?_
  exact le_canon (fun j => bif j == 1 then 0 else bif j == 2 then 900005 else 0) (wV (wO (wk_fset _ _ (wk_adr Z1 rfl Z7) (wV wk_none)))) (hW (eU CFGHash (entWk_upd (entWk_data Z3 (Nat.le_refl _) (Nat.zero_le _) (CFGGraph.dat g_0)) entWk_none)))
 ·
  rintro n1 s ⟨tier_1, g_2, out_5, i_6, rfl, hm⟩
  replace hm : ref14Hashes_B1 (ref14Hashes_L1 n1) tier_1 g_2 out_5 i_6 = some r := hm
  unfold ref14Hashes_B1 at hm
  refine AWp.seq' ?_
  refine sr (N' := 128) rfl ?_
  iterate 3 refine pA ?_
  refine pu rfl (ap_ldv Z1 Z3 Z4) ?_
  refine pA ?_
  refine fs ?_
  refine AWp.condM hm Z1 (fun _ hm => ?_) (fun _ hm => ?_)
  ·
   refine AWp.skip ?_
   refine normSeq ?_
   refine AWp.seq' ?_
   refine AWp.block ?_
   refine AWp.reg 64 (N' := 192) rfl ?_
   iterate 2 refine pA ?_
   refine pu rfl (ap_ldv Z1 Z3 Z4) ?_
   iterate 3 refine pA ?_
   refine pu rfl (ap_ldv Z1 Z3 Z4) ?_
   iterate 3 refine pA ?_
   obtain ⟨x2, h1, hm⟩ := bnd hm
   refine pu rfl (ap_idx CFGHash Zd Try.underlying24 sz53 Z1 rfl Z1 h1) ?_
   refine pA ?_
   refine hp (id := 140) rfl rfl (ah_list CFGHash (l := [x2]) Try.underlying24 sz53 zc53 Z5 Zd Zd Zd (by simp only [go_sem, Nat.reduceBEq]; try rfl) (by kernel_rfl)) ?_
   obtain ⟨l4, h3, hm⟩ := bnd hm
   refine hp (id := 141) rfl rfl (ah_app CFGHash Try.underlying24 Try.underlying24 rfl in53 ts53 (by rw [tb53]; decide) (by rw [tb53]; decide) tz53 Zd Zd Z1 Z3 Z6 (as_own CFGHash Z1 Z3 Z6) rfl Z5 h3) ?_
   refine pA ?_
   refine ARun.fin ?_
   refine normIn ?_
   refine normSeq ?_
   refine AWp.reg 64 (N' := 256) rfl ?_
   iterate 3 refine pA ?_
   refine ARun.fin ?_
   refine normThen ?_
   refine ⟨_, ?_, tier_1, g_2, l4, (IntKind.i64.wrap (i_6 + 1)), rfl, hm⟩
   exact le_canon (fun j => bif j == 1 then 1 else bif j == 2 then 141 else 0) (wV (wO (wk_fset _ _ (wk_adr Z1 rfl Z7) (wV wk_none)))) (hW (eU CFGHash (entWk_upd (entWk_data Z3 (Nat.le_refl _) (Nat.zero_le _) (CFGGraph.dat g_2)) entWk_none)))
  ·
   refine AWp.exit ?_
   refine exitSeq ?_
   refine exitThen ?_
   refine exitHere ?_
   refine normSeq ?_
   refine sr (N' := 192) rfl ?_
   iterate 2 refine pA ?_
   refine fs ?_
   refine AWp.ret ?_
   cases hm
   exact ret1D (.inr rfl) Try.results92 (tdo CFGHash Z1 Z3 Z6)
def ref09Class_J1 (rec1 : List Int → Int → List Int → Int → Option ((List Int))) (p_0 : List Int) (v_1 : Int) (out_5 : List Int) (i_6 : Int) : Option ((List Int)) :=
 rec1 p_0 v_1 out_5 (IntKind.i64.wrap (i_6 + 1))
def ref09Class_B1 (rec1 : List Int → Int → List Int → Int → Option ((List Int))) (p_0 : List Int) (v_1 : Int) (out_5 : List Int) (i_6 : Int) : Option ((List Int)) :=
 (bif (decide (i_6 < (p_0.length : Int))) then
  ((idx p_0 i_6).bind fun x2 =>
  ((idx p_0 v_1).bind fun x4 =>
  (bif (x2 == x4) then
   ((app out_5 [i_6]).bind fun l6 =>
   ref09Class_J1 rec1 p_0 v_1 l6 i_6)
  else
   ref09Class_J1 rec1 p_0 v_1 out_5 i_6)))
 else
  some out_5)
def ref09Class_L1 : Nat → List Int → Int → List Int → Int → Option ((List Int))
 | 0 => fun _ _ _ _ => none
 | n + 1 => ref09Class_B1 (ref09Class_L1 n)
def ref09Class_m (p_0 : List Int) (v_1 : Int) : Option ((List Int)) :=
 ref09Class_L1 FUEL p_0 v_1 [] 0
theorem ref09Class_c {p_0 : List Int} {v_1 : Int} {r : (List Int)} (hm : ref09Class_m p_0 v_1 = some r) : PureC Try.prog 93 [.sl (p_0.flatMap (ci .i64)) p_0.length false, .v (.int .i64 v_1)] (.sl (r.flatMap (ci .i64)) r.length false) := by
 refine PureC.of_body Try.func93 rfl ?_
 simp only [Try.ntmps93, List.length_cons, List.length_nil, Nat.reduceAdd, Nat.reduceSub, empty_eq]
 unfold ref09Class_m at hm
 refine sr (N' := 64) rfl ?_
 refine pA ?_
 refine fs ?_
 refine sr (N' := 128) rfl ?_
 refine pA ?_
 refine fs ?_
 refine AWp.seq' ?_
 refine sr (N' := 192) rfl ?_
 refine pA ?_
 refine fs ?_
 refine AWp.block ?_
 refine AWp.loopM (fun m s => ∃ (p_0 : List Int) (v_1 : Int) (out_5 : List Int) (i_6 : Int), s = (⟨27, (fset (fset (fset (fset (fun _ => AV.any) 0 (.sl (p_0.flatMap (ci .i64)) p_0.length false)) 1 (.v (.int .i64 v_1))) 5 (.own 1 0 out_5.length)) 6 (.v (.int .i64 i_6))), ⟨(upd nofresh 1 (.cells 1 (out_5.flatMap (ci .i64)) 0)), 64⟩⟩ : St) ∧ ref09Class_L1 m p_0 v_1 out_5 i_6 = some r) FUEL ?_ ?_ ?_
 ·
  rintro s ⟨_, _, _, _, _, h⟩
  cases h
 ·
  refine ⟨_, ?_, p_0, v_1, [], 0, rfl, hm⟩
  refine St.Le.trans (le_nil 5 900005 1 Z1 Z5) ?_
  exact le_canon (fun j => bif j == 1 then 900005 else 0) (wV (wO (wV (wD ((CFi .i64).sl _ _ _) wk_none)))) (hW (eU (CFi .i64) entWk_none))
 ·
  rintro n1 s ⟨p_0, v_1, out_5, i_6, rfl, hm⟩
  replace hm : ref09Class_B1 (ref09Class_L1 n1) p_0 v_1 out_5 i_6 = some r := hm
  unfold ref09Class_B1 at hm
  refine AWp.seq' ?_
  refine sr (N' := 128) rfl ?_
  iterate 4 refine pA ?_
  refine fs ?_
  refine AWp.condM hm Z1 (fun _ hm => ?_) (fun _ hm => ?_)
  ·
   refine AWp.skip ?_
   refine normSeq ?_
   refine AWp.seqJ (fun s => ∃ (p_0 : List Int) (v_1 : Int) (out_5 : List Int) (i_6 : Int), s = (⟨27, (fset (fset (fset (fset (fun _ => AV.any) 0 (.sl (p_0.flatMap (ci .i64)) p_0.length false)) 1 (.v (.int .i64 v_1))) 5 (.own 1 0 out_5.length)) 6 (.v (.int .i64 i_6))), ⟨(upd nofresh 1 (.cells 1 (out_5.flatMap (ci .i64)) 0)), 64⟩⟩ : St) ∧ ref09Class_J1 (ref09Class_L1 n1) p_0 v_1 out_5 i_6 = some r) ?_ ?_
   ·
    refine AWp.block ?_
    refine sd mix (by kernel_rfl) (N' := 192) rfl ?_
    iterate 2 refine pA ?_
    obtain ⟨x2, h1, hm⟩ := bnd hm
    refine pu rfl (ap_idx (CFi .i64) Zd Try.underlying30 sz3 Z1 rfl Z1 h1) ?_
    iterate 3 refine pA ?_
    obtain ⟨x4, h3, hm⟩ := bnd hm
    refine pu rfl (ap_idx (CFi .i64) Zd Try.underlying30 sz3 Z1 rfl Z1 h3) ?_
    iterate 2 refine pA ?_
    refine fs ?_
    refine AWp.condM hm Z1 (fun _ hm => ?_) (fun _ hm => ?_)
    ·
     refine AWp.reg 64 (N' := 256) rfl ?_
     iterate 2 refine pA ?_
     refine hp (id := 194) rfl rfl (ah_list (CFi .i64) (l := [i_6]) Try.underlying30 sz3 zc3 Z5 Zd Zd Zd (by simp only [go_sem, Nat.reduceBEq]; try rfl) (by kernel_rfl)) ?_
     obtain ⟨l6, h5, hm⟩ := bnd hm
     refine hp (id := 195) rfl rfl (ah_app (CFi .i64) Try.underlying30 Try.underlying30 rfl in3 ts3 (by rw [tb3]; decide) (by rw [tb3]; decide) tz3 Zd Zd Z1 Z3 Z6 (as_own (CFi .i64) Z1 Z3 Z6) rfl Z5 h5) ?_
     refine pA ?_
     refine ARun.fin ?_
     refine normIn ?_
     refine normJ ?_
     refine ⟨_, ?_, p_0, v_1, l6, i_6, rfl, hm⟩
     exact le_canon (fun j => bif j == 1 then 195 else 0) (wV (wO (wV (wD ((CFi .i64).sl _ _ _) wk_none)))) (hW (eU (CFi .i64) entWk_none))
    ·
     refine AWp.skip ?_
     refine normIn ?_
     refine normJ ?_
     refine ⟨_, ?_, p_0, v_1, out_5, i_6, rfl, hm⟩
     exact le_canon (fun j => bif j == 1 then 1 else 0) (wV (wO (wV (wD ((CFi .i64).sl _ _ _) wk_none)))) (hW (eU (CFi .i64) entWk_none))
   ·
    rintro s ⟨p_0, v_1, out_5, i_6, rfl, hm⟩
    unfold ref09Class_J1 at hm
    refine AWp.reg 64 (N' := 128) rfl ?_
    iterate 3 refine pA ?_
    refine ARun.fin ?_
    refine normThen ?_
    refine ⟨_, ?_, p_0, v_1, out_5, (IntKind.i64.wrap (i_6 + 1)), rfl, hm⟩
    exact le_canon (fun j => bif j == 1 then 1 else 0) (wV (wO (wV (wD ((CFi .i64).sl _ _ _) wk_none)))) (hW (eU (CFi .i64) entWk_none))
  ·
   refine AWp.exit ?_
   refine exitSeq ?_
   refine exitThen ?_
   refine exitHere ?_
   refine normSeq ?_
   refine sr (N' := 192) rfl ?_
   iterate 2 refine pA ?_
   refine fs ?_
   refine AWp.ret ?_
   cases hm
   exact ret1D (.inr rfl) Try.results93 (tdo (CFi .i64) Z1 Z3 Z6)
def ref14Tree_m (g_0 : GGraph) (tier_1 : Int) (v_2 : Int) : Option ((List Int)) :=
 ((ref12Forest_m g_0.Edges tier_1).bind fun r2 =>
 ((ref09Of_m g_0.Config.N r2).bind fun r4 =>
 ((ref09Class_m r4 v_2).bind fun r6 =>
 some r6)))
theorem ref14Tree_c {g_0 : GGraph} {tier_1 : Int} {v_2 : Int} {r : (List Int)} (hm : ref14Tree_m g_0 tier_1 v_2 = some r) : PureC Try.prog 48 [.agg [.v (.int .i64 g_0.Config.N), .v (.int .i64 g_0.Config.L), .v (.int .i64 g_0.Config.R), .sl (g_0.Hashes.flatMap cGHash) g_0.Hashes.length false, .sl (g_0.Edges.flatMap cGEdge) g_0.Edges.length false], .v (.int .i64 tier_1), .v (.int .i64 v_2)] (.sl (r.flatMap (ci .i64)) r.length false) := by
 refine PureC.of_body Try.func48 rfl ?_
 simp only [Try.ntmps48, List.length_cons, List.length_nil, Nat.reduceAdd, Nat.reduceSub, empty_eq]
 unfold ref14Tree_m at hm
 refine sr (N' := 64) rfl ?_
 refine hp (id := 0) rfl rfl (aheap_box Z1 Z5) ?_
 refine pA ?_
 refine fs ?_
 refine sd mix (by kernel_rfl) (N' := 128) rfl ?_
 iterate 2 refine pA ?_
 refine pu rfl (ap_ldv Z1 Z3 Z4) ?_
 refine pA ?_
 refine pu rfl (ap_ldv Z1 Z3 Z4) ?_
 refine pA ?_
 obtain ⟨r2, h1, hm⟩ := bnd hm
 refine ARun.callQ (r := .sl (r2.flatMap cGEdge) r2.length false) Zd Z1 fb70 (fun H => (cD (CFGEdge.sl _ _ _) (cV .nil))) (ref12Forest_c h1) ?_
 obtain ⟨r4, h3, hm⟩ := bnd hm
 refine ARun.callQ (r := .sl (r4.flatMap (ci .i64)) r4.length false) Zd Z1 fb71 (fun H => (cV (cD (CFGEdge.sl _ _ _) .nil))) (ref09Of_c h3) ?_
 refine pA ?_
 obtain ⟨r6, h5, hm⟩ := bnd hm
 refine ARun.callQ (r := .sl (r6.flatMap (ci .i64)) r6.length false) Zd Z1 fb93 (fun H => (cD ((CFi .i64).sl _ _ _) (cV .nil))) (ref09Class_c h5) ?_
 refine pA ?_
 refine fs ?_
 refine AWp.ret ?_
 cases hm
 exact ret1D (.inr rfl) Try.results48 (td Z1 ((CFi .i64).sl _ _ _))
def ref08First_B1 (rec1 : List Int → Int → Int → Option (Int)) (l_0 : List Int) (v_1 : Int) (i_5 : Int) : Option (Int) :=
 (bif (decide (i_5 < (l_0.length : Int))) then
  ((idx l_0 i_5).bind fun x2 =>
  (bif (x2 == v_1) then
   some i_5
  else
   rec1 l_0 v_1 (IntKind.i64.wrap (i_5 + 1))))
 else
  some (-1))
def ref08First_L1 : Nat → List Int → Int → Int → Option (Int)
 | 0 => fun _ _ _ => none
 | n + 1 => ref08First_B1 (ref08First_L1 n)
def ref08First_m (l_0 : List Int) (v_1 : Int) : Option (Int) :=
 ref08First_L1 FUEL l_0 v_1 0
theorem ref08First_c {l_0 : List Int} {v_1 : Int} {r : Int} (hm : ref08First_m l_0 v_1 = some r) : PureC Try.prog 96 [.sl (l_0.flatMap (ci .i64)) l_0.length false, .v (.int .i64 v_1)] (.v (.int .i64 r)) := by
 refine PureC.of_body Try.func96 rfl ?_
 simp only [Try.ntmps96, List.length_cons, List.length_nil, Nat.reduceAdd, Nat.reduceSub, empty_eq]
 unfold ref08First_m at hm
 refine sr (N' := 64) rfl ?_
 refine pA ?_
 refine fs ?_
 refine AWp.seq' ?_
 refine sr (N' := 128) rfl ?_
 refine pA ?_
 refine fs ?_
 refine AWp.block ?_
 refine AWp.loopM (fun m s => ∃ (l_0 : List Int) (v_1 : Int) (i_5 : Int), s = (⟨19, (fset (fset (fset (fun _ => AV.any) 0 (.sl (l_0.flatMap (ci .i64)) l_0.length false)) 1 (.v (.int .i64 v_1))) 5 (.v (.int .i64 i_5))), ⟨nofresh, 64⟩⟩ : St) ∧ ref08First_L1 m l_0 v_1 i_5 = some r) FUEL ?_ ?_ ?_
 ·
  rintro s ⟨_, _, _, _, h⟩
  cases h
 ·
  refine ⟨_, ?_, l_0, v_1, 0, rfl, hm⟩
  exact le_canon id (wV (wV (wD ((CFi .i64).sl _ _ _) wk_none))) heapWk0
 ·
  rintro n1 s ⟨l_0, v_1, i_5, rfl, hm⟩
  replace hm : ref08First_B1 (ref08First_L1 n1) l_0 v_1 i_5 = some r := hm
  unfold ref08First_B1 at hm
  refine AWp.seq' ?_
  refine sr (N' := 128) rfl ?_
  iterate 4 refine pA ?_
  refine fs ?_
  refine AWp.condM hm Z1 (fun _ hm => ?_) (fun _ hm => ?_)
  ·
   refine AWp.skip ?_
   refine normSeq ?_
   refine AWp.seq' ?_
   refine AWp.block ?_
   refine sr (N' := 192) rfl ?_
   iterate 2 refine pA ?_
   obtain ⟨x2, h1, hm⟩ := bnd hm
   refine pu rfl (ap_idx (CFi .i64) Zd Try.underlying30 sz3 Z1 rfl Z1 h1) ?_
   iterate 3 refine pA ?_
   refine fs ?_
   refine AWp.condM hm Z1 (fun _ hm => ?_) (fun _ hm => ?_)
   ·
    refine sr (N' := 256) rfl ?_
    iterate 2 refine pA ?_
    refine fs ?_
    refine AWp.ret ?_
    refine retIn ?_
    refine retSeq ?_
    refine retThen ?_
    refine retIn ?_
    refine retSeq ?_
    cases hm
    exact ret1D (.inr rfl) Try.results96 (td Z1 (.v _))
   ·
    refine AWp.skip ?_
    refine normIn ?_
    refine normSeq ?_
    refine AWp.reg 64 (N' := 256) rfl ?_
    iterate 3 refine pA ?_
    refine ARun.fin ?_
    refine normThen ?_
    refine ⟨_, ?_, l_0, v_1, (IntKind.i64.wrap (i_5 + 1)), rfl, hm⟩
    exact le_canon id (wV (wV (wD ((CFi .i64).sl _ _ _) wk_none))) heapWk0
  ·
   refine AWp.exit ?_
   refine exitSeq ?_
   refine exitThen ?_
   refine exitHere ?_
   refine normSeq ?_
   refine sr (N' := 192) rfl ?_
   refine pA ?_
   refine fs ?_
   refine AWp.ret ?_
   cases hm
   exact ret1D (.inr rfl) Try.results96 (td Z1 (.v _))
def ref13Cut_J1 (rec1 : List GEdge → List Int → List GEdge → Int → Option ((List GEdge))) (l_0 : List GEdge) (set_1 : List Int) (out_5 : List GEdge) (i_6 : Int) : Option ((List GEdge)) :=
 rec1 l_0 set_1 out_5 (IntKind.i64.wrap (i_6 + 1))
def ref13Cut_B1 (rec1 : List GEdge → List Int → List GEdge → Int → Option ((List GEdge))) (l_0 : List GEdge) (set_1 : List Int) (out_5 : List GEdge) (i_6 : Int) : Option ((List GEdge)) :=
 (bif (decide (i_6 < (l_0.length : Int))) then
  ((idx l_0 i_6).bind fun x2 =>
  ((ref08First_m set_1 x2.U).bind fun r4 =>
  ((idx l_0 i_6).bind fun x6 =>
  ((ref08First_m set_1 x6.V).bind fun r8 =>
  (bif (((decide (0 ≤ r4)) && (!(decide (0 ≤ r8)))) || ((decide (0 ≤ r8)) && (!(decide (0 ≤ r4))))) then
   ((idx l_0 i_6).bind fun x10 =>
   ((app out_5 [x10]).bind fun l12 =>
   ref13Cut_J1 rec1 l_0 set_1 l12 i_6))
  else
   ref13Cut_J1 rec1 l_0 set_1 out_5 i_6)))))
 else
  some out_5)
def ref13Cut_L1 : Nat → List GEdge → List Int → List GEdge → Int → Option ((List GEdge))
 | 0 => fun _ _ _ _ => none
 | n + 1 => ref13Cut_B1 (ref13Cut_L1 n)
def ref13Cut_m (l_0 : List GEdge) (set_1 : List Int) : Option ((List GEdge)) :=
 ref13Cut_L1 FUEL l_0 set_1 [] 0
theorem ref13Cut_c {l_0 : List GEdge} {set_1 : List Int} {r : (List GEdge)} (hm : ref13Cut_m l_0 set_1 = some r) : PureC Try.prog 52 [.sl (l_0.flatMap cGEdge) l_0.length false, .sl (set_1.flatMap (ci .i64)) set_1.length false] (.sl (r.flatMap cGEdge) r.length false) := by
 refine PureC.of_body Try.func52 rfl ?_
 simp only [Try.ntmps52, List.length_cons, List.length_nil, Nat.reduceAdd, Nat.reduceSub, empty_eq]
 unfold ref13Cut_m at hm
 refine sr (N' := 64) rfl ?_
 refine pA ?_
 refine fs ?_
 refine sr (N' := 128) rfl ?_
 refine pA ?_
 refine fs ?_
 refine AWp.seq' ?_
 refine sr (N' := 192) rfl ?_
 refine pA ?_
 refine fs ?_
 refine AWp.block ?_
 refine AWp.loopM (fun m s => ∃ (l_0 : List GEdge) (set_1 : List Int) (out_5 : List GEdge) (i_6 : Int), s = (⟨51, (fset (fset (fset (fset (fun _ => AV.any) 0 (.sl (l_0.flatMap cGEdge) l_0.length false)) 1 (.sl (set_1.flatMap (ci .i64)) set_1.length false)) 5 (.own 1 0 out_5.length)) 6 (.v (.int .i64 i_6))), ⟨(upd nofresh 1 (.cells 3 (out_5.flatMap cGEdge) 0)), 64⟩⟩ : St) ∧ ref13Cut_L1 m l_0 set_1 out_5 i_6 = some r) FUEL ?_ ?_ ?_
 ·
  rintro s ⟨_, _, _, _, _, h⟩
  cases h
 ·
  refine ⟨_, ?_, l_0, set_1, [], 0, rfl, hm⟩
  refine St.Le.trans (le_nil 5 900005 3 Z1 Z5) ?_
  exact le_canon (fun j => bif j == 1 then 900005 else 0) (wV (wO (wD ((CFi .i64).sl _ _ _) (wD (CFGEdge.sl _ _ _) wk_none)))) (hW (eU CFGEdge entWk_none))
 ·
  rintro n1 s ⟨l_0, set_1, out_5, i_6, rfl, hm⟩
  replace hm : ref13Cut_B1 (ref13Cut_L1 n1) l_0 set_1 out_5 i_6 = some r := hm
  unfold ref13Cut_B1 at hm
  refine AWp.seq' ?_
  refine sr (N' := 128) rfl ?_
  iterate 4 refine pA ?_
  refine fs ?_
  refine AWp.condM hm Z1 (fun _ hm => ?_) (fun _ hm => ?_)
  ·
   refine AWp.skip ?_
   refine normSeq ?_
   refine AWp.seqJ (fun s => ∃ (l_0 : List GEdge) (set_1 : List Int) (out_5 : List GEdge) (i_6 : Int), s = (⟨51, (fset (fset (fset (fset (fun _ => AV.any) 0 (.sl (l_0.flatMap cGEdge) l_0.length false)) 1 (.sl (set_1.flatMap (ci .i64)) set_1.length false)) 5 (.own 1 0 out_5.length)) 6 (.v (.int .i64 i_6))), ⟨(upd nofresh 1 (.cells 3 (out_5.flatMap cGEdge) 0)), 64⟩⟩ : St) ∧ ref13Cut_J1 (ref13Cut_L1 n1) l_0 set_1 out_5 i_6 = some r) ?_ ?_
   ·
    refine AWp.block ?_
    refine sd mix (by kernel_rfl) (N' := 192) rfl ?_
    iterate 3 refine pA ?_
    obtain ⟨x2, h1, hm⟩ := bnd hm
    refine pu rfl (ap_idx CFGEdge Zd Try.underlying25 sz38 Z1 rfl Z1 h1) ?_
    iterate 2 refine pA ?_
    obtain ⟨r4, h3, hm⟩ := bnd hm
    refine ARun.callQ (r := .v (.int .i64 r4)) Zd Z1 fb96 (fun H => (cD ((CFi .i64).sl _ _ _) (cV .nil))) (ref08First_c h3) ?_
    iterate 4 refine pA ?_
    obtain ⟨x6, h5, hm⟩ := bnd hm
    refine pu rfl (ap_idx CFGEdge Zd Try.underlying25 sz38 Z1 rfl Z1 h5) ?_
    iterate 2 refine pA ?_
    obtain ⟨r8, h7, hm⟩ := bnd hm
    refine ARun.callQ (r := .v (.int .i64 r8)) Zd Z1 fb96 (fun H => (cD ((CFi .i64).sl _ _ _) (cV .nil))) (ref08First_c h7) ?_
    iterate 3 refine pA ?_
    refine fs ?_
    refine sr (N' := 256) rfl ?_
    iterate 12 first | refine pA ?_ | refine pB ?_
    refine fs ?_
    refine AWp.condM hm Z1 (fun _ hm => ?_) (fun _ hm => ?_)
    ·
     refine AWp.reg 64 (N' := 320) rfl ?_
     iterate 3 refine pA ?_
     obtain ⟨x10, h9, hm⟩ := bnd hm
     refine pu rfl (ap_idx CFGEdge Zd Try.underlying25 sz38 Z1 rfl Z1 h9) ?_
     refine pA ?_
     refine hp (id := 261) rfl rfl (ah_list CFGEdge (l := [x10]) Try.underlying25 sz38 zc38 Z5 Zd Zd Zd (by simp only [go_sem, Nat.reduceBEq]; try rfl) (by kernel_rfl)) ?_
     obtain ⟨l12, h11, hm⟩ := bnd hm
     refine hp (id := 262) rfl rfl (ah_app CFGEdge Try.underlying25 Try.underlying25 rfl in38 ts38 (by rw [tb38]; decide) (by rw [tb38]; decide) tz38 Zd Zd Z1 Z3 Z6 (as_own CFGEdge Z1 Z3 Z6) rfl Z5 h11) ?_
     refine pA ?_
     refine ARun.fin ?_
     refine normIn ?_
     refine normJ ?_
     refine ⟨_, ?_, l_0, set_1, l12, i_6, rfl, hm⟩
     exact le_canon (fun j => bif j == 1 then 262 else 0) (wV (wO (wD ((CFi .i64).sl _ _ _) (wD (CFGEdge.sl _ _ _) wk_none)))) (hW (eU CFGEdge entWk_none))
    ·
     refine AWp.skip ?_
     refine normIn ?_
     refine normJ ?_
     refine ⟨_, ?_, l_0, set_1, out_5, i_6, rfl, hm⟩
     exact le_canon (fun j => bif j == 1 then 1 else 0) (wV (wO (wD ((CFi .i64).sl _ _ _) (wD (CFGEdge.sl _ _ _) wk_none)))) (hW (eU CFGEdge entWk_none))
   ·
    rintro s ⟨l_0, set_1, out_5, i_6, rfl, hm⟩
    unfold ref13Cut_J1 at hm
    refine AWp.reg 64 (N' := 128) rfl ?_
    iterate 3 refine pA ?_
    refine ARun.fin ?_
    refine normThen ?_
    refine ⟨_, ?_, l_0, set_1, out_5, (IntKind.i64.wrap (i_6 + 1)), rfl, hm⟩
    exact le_canon (fun j => bif j == 1 then 1 else 0) (wV (wO (wD ((CFi .i64).sl _ _ _) (wD (CFGEdge.sl _ _ _) wk_none)))) (hW (eU CFGEdge entWk_none))
  ·
   refine AWp.exit ?_
   refine exitSeq ?_
   refine exitThen ?_
   refine exitHere ?_
   refine normSeq ?_
   refine sr (N' := 192) rfl ?_
   iterate 2 refine pA ?_
   refine fs ?_
   refine AWp.ret ?_
   cases hm
   exact ret1D (.inr rfl) Try.results52 (tdo CFGEdge Z1 Z3 Z6)
def ref03Of_J1 (u_0 : Int) (v_1 : Int) : Option (Int × Int) :=
 some ((bor .u64 (shl .u64 (IntKind.u64.wrap u_0) 24) (IntKind.u64.wrap v_1)), 0)
def ref03Of_m (u_0 : Int) (v_1 : Int) : Option (Int × Int) :=
 (bif ((((decide (u_0 < 0)) || (decide (v_1 < 0))) || (decide (16777215 < u_0))) || (decide (16777215 < v_1))) then
  some (0, 1)
 else
  (bif (u_0 == v_1) then
   some (0, 8)
  else
   (bif (decide (v_1 < u_0)) then
    ref03Of_J1 v_1 u_0
   else
    ref03Of_J1 u_0 v_1)))
theorem ref03Of_c {u_0 : Int} {v_1 : Int} {r : Int × Int} (hm : ref03Of_m u_0 v_1 = some r) : PureC Try.prog 97 [.v (.int .i64 u_0), .v (.int .i64 v_1)] (.tup [.v (.int .u64 r.1), .v (.int .i64 r.2)]) := by
 refine PureC.of_body Try.func97 rfl ?_
 simp only [Try.ntmps97, List.length_cons, List.length_nil, Nat.reduceAdd, Nat.reduceSub, empty_eq]
 unfold ref03Of_m at hm
 refine sr (N' := 64) rfl ?_
 iterate 2 refine pA ?_
 refine fs ?_
 refine AWp.seq' ?_
 refine sr (N' := 128) rfl ?_
 iterate 14 first | refine pA ?_ | refine pB ?_
 refine fs ?_
 refine AWp.condM hm Z1 (fun _ hm => ?_) (fun _ hm => ?_)
 ·
  refine sr (N' := 192) rfl ?_
  iterate 2 refine pA ?_
  refine fs ?_
  refine AWp.ret ?_
  refine retSeq ?_
  cases hm
  exact ret2D (.inr rfl) Try.results97 (td Z1 (.v _)) (td Z1 (.v _))
 ·
  refine AWp.skip ?_
  refine normSeq ?_
  refine AWp.seq' ?_
  refine sr (N' := 192) rfl ?_
  iterate 3 refine pA ?_
  refine fs ?_
  refine AWp.condM hm Z1 (fun _ hm => ?_) (fun _ hm => ?_)
  ·
   refine sr (N' := 256) rfl ?_
   iterate 2 refine pA ?_
   refine fs ?_
   refine AWp.ret ?_
   refine retSeq ?_
   cases hm
   exact ret2D (.inr rfl) Try.results97 (td Z1 (.v _)) (td Z1 (.v _))
  ·
   refine AWp.skip ?_
   refine normSeq ?_
   refine AWp.seqJ (fun s => ∃ (u_0 : Int) (v_1 : Int), s = (⟨34, (fset (fset (fun _ => AV.any) 0 (.v (.int .i64 u_0))) 1 (.v (.int .i64 v_1))), ⟨nofresh, 64⟩⟩ : St) ∧ ref03Of_J1 u_0 v_1 = some r) ?_ ?_
   ·
    refine sr (N' := 256) rfl ?_
    iterate 3 refine pA ?_
    refine fs ?_
    refine AWp.condM hm Z1 (fun _ hm => ?_) (fun _ hm => ?_)
    ·
     refine AWp.reg 64 (N' := 320) rfl ?_
     iterate 4 refine pA ?_
     refine ARun.fin ?_
     refine normJ ?_
     refine ⟨_, ?_, v_1, u_0, rfl, hm⟩
     exact le_canon id (wV (wV wk_none)) heapWk0
    ·
     refine AWp.skip ?_
     refine normJ ?_
     refine ⟨_, ?_, u_0, v_1, rfl, hm⟩
     exact le_canon id (wV (wV wk_none)) heapWk0
   ·
    rintro s ⟨u_0, v_1, rfl, hm⟩
    unfold ref03Of_J1 at hm
    refine sr (N' := 128) rfl ?_
    iterate 8 refine pu rfl (by simp only [go_sem, Nat.reduceBEq, Int.reduceEq, Int.reduceLE]; try with_reducible rfl) ?_
    refine fs ?_
    refine AWp.ret ?_
    cases hm
    exact ret2D (.inr rfl) Try.results97 (td Z1 (.v _)) (td Z1 (.v _))
def ref13Names_B1 (rec1 : List GEdge → List Int → Int → Option ((List Int))) (l_0 : List GEdge) (out_3 : List Int) (i_4 : Int) : Option ((List Int)) :=
 (bif (decide (i_4 < (l_0.length : Int))) then
  ((idx l_0 i_4).bind fun x2 =>
  ((idx l_0 i_4).bind fun x4 =>
  ((ref03Of_m x2.U x4.V).bind fun ⟨r6, r7⟩ =>
  ((app out_3 [r6]).bind fun l9 =>
  rec1 l_0 l9 (IntKind.i64.wrap (i_4 + 1))))))
 else
  some out_3)
def ref13Names_L1 : Nat → List GEdge → List Int → Int → Option ((List Int))
 | 0 => fun _ _ _ => none
 | n + 1 => ref13Names_B1 (ref13Names_L1 n)
def ref13Names_m (l_0 : List GEdge) : Option ((List Int)) :=
 ref13Names_L1 FUEL l_0 [] 0
theorem ref13Names_c {l_0 : List GEdge} {r : (List Int)} (hm : ref13Names_m l_0 = some r) : PureC Try.prog 55 [.sl (l_0.flatMap cGEdge) l_0.length false] (.sl (r.flatMap (ci .u64)) r.length false) := by
 refine PureC.of_body Try.func55 rfl ?_
 simp only [Try.ntmps55, List.length_cons, List.length_nil, Nat.reduceAdd, Nat.reduceSub, empty_eq]
 unfold ref13Names_m at hm
 refine sr (N' := 64) rfl ?_
 refine pA ?_
 refine fs ?_
 refine sr (N' := 128) rfl ?_
 refine pA ?_
 refine fs ?_
 refine AWp.seq' ?_
 refine sr (N' := 192) rfl ?_
 refine pA ?_
 refine fs ?_
 refine AWp.block ?_
 refine AWp.loopM (fun m s => ∃ (l_0 : List GEdge) (out_3 : List Int) (i_4 : Int), s = (⟨32, (fset (fset (fset (fun _ => AV.any) 0 (.sl (l_0.flatMap cGEdge) l_0.length false)) 3 (.own 1 0 out_3.length)) 4 (.v (.int .i64 i_4))), ⟨(upd nofresh 1 (.cells 1 (out_3.flatMap (ci .u64)) 0)), 64⟩⟩ : St) ∧ ref13Names_L1 m l_0 out_3 i_4 = some r) FUEL ?_ ?_ ?_
 ·
  rintro s ⟨_, _, _, _, h⟩
  cases h
 ·
  refine ⟨_, ?_, l_0, [], 0, rfl, hm⟩
  refine St.Le.trans (le_nil 3 900003 1 Z1 Z5) ?_
  exact le_canon (fun j => bif j == 1 then 900003 else 0) (wV (wO (wD (CFGEdge.sl _ _ _) wk_none))) (hW (eU (CFi .u64) entWk_none))
 ·
  rintro n1 s ⟨l_0, out_3, i_4, rfl, hm⟩
  replace hm : ref13Names_B1 (ref13Names_L1 n1) l_0 out_3 i_4 = some r := hm
  unfold ref13Names_B1 at hm
  refine AWp.seq' ?_
  refine sr (N' := 128) rfl ?_
  iterate 4 refine pA ?_
  refine fs ?_
  refine AWp.condM hm Z1 (fun _ hm => ?_) (fun _ hm => ?_)
  ·
   refine AWp.skip ?_
   refine normSeq ?_
   refine AWp.seq' ?_
   refine AWp.block ?_
   refine sd mix (by kernel_rfl) (N' := 192) rfl ?_
   iterate 2 refine pA ?_
   obtain ⟨x2, h1, hm⟩ := bnd hm
   refine pu rfl (ap_idx CFGEdge Zd Try.underlying25 sz38 Z1 rfl Z1 h1) ?_
   iterate 4 refine pA ?_
   obtain ⟨x4, h3, hm⟩ := bnd hm
   refine pu rfl (ap_idx CFGEdge Zd Try.underlying25 sz38 Z1 rfl Z1 h3) ?_
   iterate 2 refine pA ?_
   obtain ⟨⟨r6, r7⟩, h5, hm⟩ := bnd hm
   refine ARun.callQ (r := .tup [.v (.int .u64 r6), .v (.int .i64 r7)]) Zd Z1 fb97 (fun H => (cV (cV .nil))) (ref03Of_c h5) ?_
   iterate 5 refine pA ?_
   refine fs ?_
   refine AWp.reg 64 (N' := 256) rfl ?_
   iterate 2 refine pA ?_
   refine hp (id := 194) rfl rfl (ah_list (CFi .u64) (l := [r6]) Try.underlying41 sz51 zc51 Z5 Zd Zd Zd (by simp only [go_sem, Nat.reduceBEq]; try rfl) (by kernel_rfl)) ?_
   obtain ⟨l9, h8, hm⟩ := bnd hm
   refine hp (id := 195) rfl rfl (ah_app (CFi .u64) Try.underlying41 Try.underlying41 rfl in51 ts51 (by rw [tb51]; decide) (by rw [tb51]; decide) tz51 Zd Zd Z1 Z3 Z6 (as_own (CFi .u64) Z1 Z3 Z6) rfl Z5 h8) ?_
   refine pA ?_
   refine ARun.fin ?_
   refine normIn ?_
   refine normSeq ?_
   refine AWp.reg 64 (N' := 320) rfl ?_
   iterate 3 refine pA ?_
   refine ARun.fin ?_
   refine normThen ?_
   refine ⟨_, ?_, l_0, l9, (IntKind.i64.wrap (i_4 + 1)), rfl, hm⟩
   exact le_canon (fun j => bif j == 1 then 195 else 0) (wV (wO (wD (CFGEdge.sl _ _ _) wk_none))) (hW (eU (CFi .u64) entWk_none))
  ·
   refine AWp.exit ?_
   refine exitSeq ?_
   refine exitThen ?_
   refine exitHere ?_
   refine normSeq ?_
   refine sr (N' := 192) rfl ?_
   iterate 2 refine pA ?_
   refine fs ?_
   refine AWp.ret ?_
   cases hm
   exact ret1D (.inr rfl) Try.results55 (tdo (CFi .u64) Z1 Z3 Z6)
def ref04Levels_J1 (bits_3 : Int) : Option (Int) :=
 some (IntKind.i64.wrap ((IntKind.i64.wrap (2 * bits_3)) + 2))
def ref04Levels_B1 (rec1 : Int → Int → Int → Option (Int)) (n_0 : Int) (bits_3 : Int) (many_4 : Int) : Option (Int) :=
 (bif ((decide (many_4 < n_0)) && (decide (bits_3 < 62))) then
  rec1 n_0 (IntKind.i64.wrap (bits_3 + 1)) (IntKind.i64.wrap (2 * many_4))
 else
  (bif (decide (many_4 < n_0)) then
   ref04Levels_J1 63
  else
   ref04Levels_J1 bits_3))
def ref04Levels_L1 : Nat → Int → Int → Int → Option (Int)
 | 0 => fun _ _ _ => none
 | n + 1 => ref04Levels_B1 (ref04Levels_L1 n)
def ref04Levels_m (n_0 : Int) : Option (Int) :=
 (bif (decide (n_0 < 1)) then
  some 0
 else
  ref04Levels_L1 FUEL n_0 0 1)
theorem ref04Levels_c {n_0 : Int} {r : Int} (hm : ref04Levels_m n_0 = some r) : PureC Try.prog 95 [.v (.int .i64 n_0)] (.v (.int .i64 r)) := by
 refine PureC.of_body Try.func95 rfl ?_
 simp only [Try.ntmps95, List.length_cons, List.length_nil, Nat.reduceAdd, Nat.reduceSub, empty_eq]
 unfold ref04Levels_m at hm
 refine sr (N' := 64) rfl ?_
 refine pA ?_
 refine fs ?_
 refine AWp.seq' ?_
 refine sr (N' := 128) rfl ?_
 iterate 2 refine pA ?_
 refine fs ?_
 refine AWp.condM hm Z1 (fun _ hm => ?_) (fun _ hm => ?_)
 ·
  refine sr (N' := 192) rfl ?_
  refine pA ?_
  refine fs ?_
  refine AWp.ret ?_
  refine retSeq ?_
  cases hm
  exact ret1D (.inr rfl) Try.results95 (td Z1 (.v _))
 ·
  refine AWp.skip ?_
  refine normSeq ?_
  refine sr (N' := 192) rfl ?_
  iterate 2 refine pA ?_
  refine fs ?_
  refine AWp.seq' ?_
  refine AWp.block ?_
  refine AWp.loopM (fun m s => ∃ (n_0 : Int) (bits_3 : Int) (many_4 : Int), s = (⟨24, (fset (fset (fset (fun _ => AV.any) 0 (.v (.int .i64 n_0))) 3 (.v (.int .i64 bits_3))) 4 (.v (.int .i64 many_4))), ⟨nofresh, 64⟩⟩ : St) ∧ ref04Levels_L1 m n_0 bits_3 many_4 = some r) FUEL ?_ ?_ ?_
  ·
   rintro s ⟨_, _, _, _, h⟩
   cases h
  ·
   refine ⟨_, ?_, n_0, 0, 1, rfl, hm⟩
   exact le_canon id (wV (wV (wV wk_none))) heapWk0
  ·
   rintro n1 s ⟨n_0, bits_3, many_4, rfl, hm⟩
   replace hm : ref04Levels_B1 (ref04Levels_L1 n1) n_0 bits_3 many_4 = some r := hm
   unfold ref04Levels_B1 at hm
   refine AWp.seq' ?_
   refine sr (N' := 128) rfl ?_
   iterate 7 first | refine pA ?_ | refine pB ?_
   refine fs ?_
   refine AWp.condM hm Z1 (fun _ hm => ?_) (fun _ hm => ?_)
   ·
    refine AWp.skip ?_
    refine normSeq ?_
    refine AWp.block ?_
    refine sr (N' := 192) rfl ?_
    iterate 3 refine pA ?_
    refine fs ?_
    refine AWp.reg 64 (N' := 256) rfl ?_
    iterate 3 refine pA ?_
    refine ARun.fin ?_
    refine normIn ?_
    refine normThen ?_
    refine ⟨_, ?_, n_0, (IntKind.i64.wrap (bits_3 + 1)), (IntKind.i64.wrap (2 * many_4)), rfl, hm⟩
    exact le_canon id (wV (wV (wV wk_none))) heapWk0
   ·
    refine AWp.exit ?_
    refine exitSeq ?_
    refine exitThen ?_
    refine exitHere ?_
    refine normSeq ?_
    refine AWp.seqJ (fun s => ∃ (bits_3 : Int), s = (⟨24, (fset (fun _ => AV.any) 3 (.v (.int .i64 bits_3))), ⟨nofresh, 64⟩⟩ : St) ∧ ref04Levels_J1 bits_3 = some r) ?_ ?_
    ·
     refine sr (N' := 192) rfl ?_
     iterate 3 refine pA ?_
     refine fs ?_
     refine AWp.condM hm Z1 (fun _ hm => ?_) (fun _ hm => ?_)
     ·
      refine AWp.reg 64 (N' := 256) rfl ?_
      refine pA ?_
      refine ARun.fin ?_
      refine normJ ?_
      refine ⟨_, ?_, 63, rfl, hm⟩
      exact le_canon id (wV wk_none) heapWk0
     ·
      refine AWp.skip ?_
      refine normJ ?_
      refine ⟨_, ?_, bits_3, rfl, hm⟩
      exact le_canon id (wV wk_none) heapWk0
    ·
     rintro s ⟨bits_3, rfl, hm⟩
     unfold ref04Levels_J1 at hm
     refine sr (N' := 128) rfl ?_
     iterate 4 refine pA ?_
     refine fs ?_
     refine AWp.ret ?_
     cases hm
     exact ret1D (.inr rfl) Try.results95 (td Z1 (.v _))
def ref01Add_m (a_0 : Int) (b_1 : Int) : Option (Int) :=
 some (Int.tmod (IntKind.u64.wrap ((Int.tmod a_0 2305843009213693951) + (Int.tmod b_1 2305843009213693951))) 2305843009213693951)
theorem ref01Add_c {a_0 : Int} {b_1 : Int} {r : Int} (hm : ref01Add_m a_0 b_1 = some r) : PureC Try.prog 132 [.v (.int .u64 a_0), .v (.int .u64 b_1)] (.v (.int .u64 r)) := by
 refine PureC.of_body Try.func132 rfl ?_
 simp only [Try.ntmps132, List.length_cons, List.length_nil, Nat.reduceAdd, Nat.reduceSub, empty_eq]
 unfold ref01Add_m at hm
 refine sr (N' := 64) rfl ?_
 refine pA ?_
 refine fs ?_
 refine sr (N' := 128) rfl ?_
 iterate 7 refine pu rfl (by simp only [go_sem, Nat.reduceBEq, Int.reduceEq, Int.reduceLE]; try with_reducible rfl) ?_
 refine fs ?_
 refine AWp.ret ?_
 cases hm
 exact ret1D (.inr rfl) Try.results132 (td Z1 (.v _))
def ref01Mul_J1 (rec1 : Int → Int → Int → Int → Option (Int)) (a_0 : Int) (b_1 : Int) (out_5 : Int) (i_6 : Int) : Option (Int) :=
 rec1 a_0 b_1 out_5 (IntKind.i64.wrap (i_6 - 1))
def ref01Mul_B1 (rec1 : Int → Int → Int → Int → Option (Int)) (a_0 : Int) (b_1 : Int) (out_5 : Int) (i_6 : Int) : Option (Int) :=
 (bif (decide (0 ≤ i_6)) then
  ((ref01Add_m out_5 out_5).bind fun r2 =>
  ((chk (decide (0 ≤ (IntKind.u64.wrap i_6)))).bind fun _ =>
  (bif ((Int.tmod (shr .u64 b_1 (IntKind.u64.wrap i_6)) 2) == 1) then
   ((ref01Add_m r2 a_0).bind fun r5 =>
   ref01Mul_J1 rec1 a_0 b_1 r5 i_6)
  else
   ref01Mul_J1 rec1 a_0 b_1 r2 i_6)))
 else
  some out_5)
def ref01Mul_L1 : Nat → Int → Int → Int → Int → Option (Int)
 | 0 => fun _ _ _ _ => none
 | n + 1 => ref01Mul_B1 (ref01Mul_L1 n)
def ref01Mul_m (a_0 : Int) (b_1 : Int) : Option (Int) :=
 ref01Mul_L1 FUEL (Int.tmod a_0 2305843009213693951) (Int.tmod b_1 2305843009213693951) 0 60
theorem ref01Mul_c {a_0 : Int} {b_1 : Int} {r : Int} (hm : ref01Mul_m a_0 b_1 = some r) : PureC Try.prog 133 [.v (.int .u64 a_0), .v (.int .u64 b_1)] (.v (.int .u64 r)) := by
 refine PureC.of_body Try.func133 rfl ?_
 simp only [Try.ntmps133, List.length_cons, List.length_nil, Nat.reduceAdd, Nat.reduceSub, empty_eq]
 unfold ref01Mul_m at hm
 refine sr (N' := 64) rfl ?_
 refine pA ?_
 refine fs ?_
 refine sr (N' := 128) rfl ?_
 refine pA ?_
 refine fs ?_
 refine sr (N' := 192) rfl ?_
 iterate 3 refine pu rfl (by simp only [go_sem, Nat.reduceBEq, Int.reduceEq, Int.reduceLE]; try with_reducible rfl) ?_
 refine fs ?_
 refine sr (N' := 256) rfl ?_
 iterate 3 refine pu rfl (by simp only [go_sem, Nat.reduceBEq, Int.reduceEq, Int.reduceLE]; try with_reducible rfl) ?_
 refine fs ?_
 refine AWp.seq' ?_
 refine sr (N' := 320) rfl ?_
 refine pA ?_
 refine fs ?_
 refine AWp.block ?_
 refine AWp.loopM (fun m s => ∃ (a_0 : Int) (b_1 : Int) (out_5 : Int) (i_6 : Int), s = (⟨28, (fset (fset (fset (fset (fun _ => AV.any) 0 (.v (.int .u64 a_0))) 1 (.v (.int .u64 b_1))) 5 (.v (.int .u64 out_5))) 6 (.v (.int .i64 i_6))), ⟨nofresh, 64⟩⟩ : St) ∧ ref01Mul_L1 m a_0 b_1 out_5 i_6 = some r) FUEL ?_ ?_ ?_
 ·
  rintro s ⟨_, _, _, _, _, h⟩
  cases h
 ·
  refine ⟨_, ?_, (Int.tmod a_0 2305843009213693951), (Int.tmod b_1 2305843009213693951), 0, 60, rfl, hm⟩
  exact le_canon id (wV (wV (wV (wV wk_none)))) heapWk0
 ·
  rintro n1 s ⟨a_0, b_1, out_5, i_6, rfl, hm⟩
  replace hm : ref01Mul_B1 (ref01Mul_L1 n1) a_0 b_1 out_5 i_6 = some r := hm
  unfold ref01Mul_B1 at hm
  refine AWp.seq' ?_
  refine sr (N' := 128) rfl ?_
  iterate 2 refine pA ?_
  refine fs ?_
  refine AWp.condM hm Z1 (fun _ hm => ?_) (fun _ hm => ?_)
  ·
   refine AWp.skip ?_
   refine normSeq ?_
   refine AWp.seqJ (fun s => ∃ (a_0 : Int) (b_1 : Int) (out_5 : Int) (i_6 : Int), s = (⟨28, (fset (fset (fset (fset (fun _ => AV.any) 0 (.v (.int .u64 a_0))) 1 (.v (.int .u64 b_1))) 5 (.v (.int .u64 out_5))) 6 (.v (.int .i64 i_6))), ⟨nofresh, 64⟩⟩ : St) ∧ ref01Mul_J1 (ref01Mul_L1 n1) a_0 b_1 out_5 i_6 = some r) ?_ ?_
   ·
    refine AWp.block ?_
    refine sr (N' := 192) rfl ?_
    iterate 2 refine pA ?_
    obtain ⟨r2, h1, hm⟩ := bnd hm
    refine ARun.callQ (r := .v (.int .u64 r2)) Zd Z1 fb132 (fun H => (cV (cV .nil))) (ref01Add_c h1) ?_
    refine pA ?_
    refine fs ?_
    refine sr (N' := 256) rfl ?_
    iterate 3 refine pA ?_
    obtain ⟨_, h3, hm⟩ := bnd hm
    refine pu rfl (ap_shr Z1 Z1 (chk_t h3)) ?_
    iterate 2 refine pu rfl (by simp only [go_sem, Nat.reduceBEq, Int.reduceEq, Int.reduceLE]; try with_reducible rfl) ?_
    refine fs ?_
    refine AWp.condM hm Z1 (fun _ hm => ?_) (fun _ hm => ?_)
    ·
     refine AWp.reg 64 (N' := 320) rfl ?_
     iterate 2 refine pA ?_
     obtain ⟨r5, h4, hm⟩ := bnd hm
     refine ARun.callQ (r := .v (.int .u64 r5)) Zd Z1 fb132 (fun H => (cV (cV .nil))) (ref01Add_c h4) ?_
     refine pA ?_
     refine ARun.fin ?_
     refine normIn ?_
     refine normJ ?_
     refine ⟨_, ?_, a_0, b_1, r5, i_6, rfl, hm⟩
     exact le_canon id (wV (wV (wV (wV wk_none)))) heapWk0
    ·
     refine AWp.skip ?_
     refine normIn ?_
     refine normJ ?_
     refine ⟨_, ?_, a_0, b_1, r2, i_6, rfl, hm⟩
     exact le_canon id (wV (wV (wV (wV wk_none)))) heapWk0
   ·
    rintro s ⟨a_0, b_1, out_5, i_6, rfl, hm⟩
    unfold ref01Mul_J1 at hm
    refine AWp.reg 64 (N' := 128) rfl ?_
    iterate 3 refine pA ?_
    refine ARun.fin ?_
    refine normThen ?_
    refine ⟨_, ?_, a_0, b_1, out_5, (IntKind.i64.wrap (i_6 - 1)), rfl, hm⟩
    exact le_canon id (wV (wV (wV (wV wk_none)))) heapWk0
  ·
   refine AWp.exit ?_
   refine exitSeq ?_
   refine exitThen ?_
   refine exitHere ?_
   refine normSeq ?_
   refine sr (N' := 192) rfl ?_
   iterate 2 refine pA ?_
   refine fs ?_
   refine AWp.ret ?_
   cases hm
   exact ret1D (.inr rfl) Try.results133 (td Z1 (.v _))
def ref04Value_m (h_0 : GHash) (name_1 : Int) : Option (Int) :=
 ((ref01Mul_m h_0.A name_1).bind fun r2 =>
 ((ref01Add_m r2 h_0.B).bind fun r4 =>
 some r4))
theorem ref04Value_c {h_0 : GHash} {name_1 : Int} {r : Int} (hm : ref04Value_m h_0 name_1 = some r) : PureC Try.prog 119 [.agg [.v (.int .u64 h_0.A), .v (.int .u64 h_0.B)], .v (.int .u64 name_1)] (.v (.int .u64 r)) := by
 refine PureC.of_body Try.func119 rfl ?_
 simp only [Try.ntmps119, List.length_cons, List.length_nil, Nat.reduceAdd, Nat.reduceSub, empty_eq]
 unfold ref04Value_m at hm
 refine sr (N' := 64) rfl ?_
 refine hp (id := 0) rfl rfl (aheap_box Z1 Z5) ?_
 refine pA ?_
 refine fs ?_
 refine sd mix (by kernel_rfl) (N' := 128) rfl ?_
 refine pA ?_
 refine pu rfl (ap_ldv Z1 Z3 Z4) ?_
 refine pA ?_
 obtain ⟨r2, h1, hm⟩ := bnd hm
 refine ARun.callQ (r := .v (.int .u64 r2)) Zd Z1 fb133 (fun H => (cV (cV .nil))) (ref01Mul_c h1) ?_
 refine pA ?_
 refine pu rfl (ap_ldv Z1 Z3 Z4) ?_
 obtain ⟨r4, h3, hm⟩ := bnd hm
 refine ARun.callQ (r := .v (.int .u64 r4)) Zd Z1 fb132 (fun H => (cV (cV .nil))) (ref01Add_c h3) ?_
 refine pA ?_
 refine fs ?_
 refine AWp.ret ?_
 cases hm
 exact ret1D (.inr rfl) Try.results119 (td Z1 (.v _))
def ref04Bound_B1 (rec1 : Int → Int → Int → Option (Int)) (level_0 : Int) (n_3 : Int) (i_4 : Int) : Option (Int) :=
 (bif (decide (i_4 < level_0)) then
  rec1 level_0 (IntKind.u64.wrap (Int.tdiv n_3 2)) (IntKind.i64.wrap (i_4 + 1))
 else
  some n_3)
def ref04Bound_L1 : Nat → Int → Int → Int → Option (Int)
 | 0 => fun _ _ _ => none
 | n + 1 => ref04Bound_B1 (ref04Bound_L1 n)
def ref04Bound_m (level_0 : Int) : Option (Int) :=
 (bif ((decide (level_0 < 0)) || (decide (60 < level_0))) then
  some 0
 else
  ref04Bound_L1 FUEL level_0 2305843009213693951 0)
theorem ref04Bound_c {level_0 : Int} {r : Int} (hm : ref04Bound_m level_0 = some r) : PureC Try.prog 120 [.v (.int .i64 level_0)] (.v (.int .u64 r)) := by
 refine PureC.of_body Try.func120 rfl ?_
 simp only [Try.ntmps120, List.length_cons, List.length_nil, Nat.reduceAdd, Nat.reduceSub, empty_eq]
 unfold ref04Bound_m at hm
 refine sr (N' := 64) rfl ?_
 refine pA ?_
 refine fs ?_
 refine AWp.seq' ?_
 refine sr (N' := 128) rfl ?_
 iterate 6 first | refine pA ?_ | refine pB ?_
 refine fs ?_
 refine AWp.condM hm Z1 (fun _ hm => ?_) (fun _ hm => ?_)
 ·
  refine sr (N' := 192) rfl ?_
  refine pA ?_
  refine fs ?_
  refine AWp.ret ?_
  refine retSeq ?_
  cases hm
  exact ret1D (.inr rfl) Try.results120 (td Z1 (.v _))
 ·
  refine AWp.skip ?_
  refine normSeq ?_
  refine sr (N' := 192) rfl ?_
  refine pA ?_
  refine fs ?_
  refine AWp.seq' ?_
  refine sr (N' := 256) rfl ?_
  refine pA ?_
  refine fs ?_
  refine AWp.block ?_
  refine AWp.loopM (fun m s => ∃ (level_0 : Int) (n_3 : Int) (i_4 : Int), s = (⟨19, (fset (fset (fset (fun _ => AV.any) 0 (.v (.int .i64 level_0))) 3 (.v (.int .u64 n_3))) 4 (.v (.int .i64 i_4))), ⟨nofresh, 64⟩⟩ : St) ∧ ref04Bound_L1 m level_0 n_3 i_4 = some r) FUEL ?_ ?_ ?_
  ·
   rintro s ⟨_, _, _, _, h⟩
   cases h
  ·
   refine ⟨_, ?_, level_0, 2305843009213693951, 0, rfl, hm⟩
   exact le_canon id (wV (wV (wV wk_none))) heapWk0
  ·
   rintro n1 s ⟨level_0, n_3, i_4, rfl, hm⟩
   replace hm : ref04Bound_B1 (ref04Bound_L1 n1) level_0 n_3 i_4 = some r := hm
   unfold ref04Bound_B1 at hm
   refine AWp.seq' ?_
   refine sr (N' := 128) rfl ?_
   iterate 3 refine pA ?_
   refine fs ?_
   refine AWp.condM hm Z1 (fun _ hm => ?_) (fun _ hm => ?_)
   ·
    refine AWp.skip ?_
    refine normSeq ?_
    refine AWp.seq' ?_
    refine AWp.block ?_
    refine AWp.reg 64 (N' := 192) rfl ?_
    iterate 3 refine pu rfl (by simp only [go_sem, Nat.reduceBEq, Int.reduceEq, Int.reduceLE]; try with_reducible rfl) ?_
    refine ARun.fin ?_
    refine normIn ?_
    refine normSeq ?_
    refine AWp.reg 64 (N' := 256) rfl ?_
    iterate 3 refine pA ?_
    refine ARun.fin ?_
    refine normThen ?_
    refine ⟨_, ?_, level_0, (IntKind.u64.wrap (Int.tdiv n_3 2)), (IntKind.i64.wrap (i_4 + 1)), rfl, hm⟩
    exact le_canon id (wV (wV (wV wk_none))) heapWk0
   ·
    refine AWp.exit ?_
    refine exitSeq ?_
    refine exitThen ?_
    refine exitHere ?_
    refine normSeq ?_
    refine sr (N' := 192) rfl ?_
    iterate 2 refine pA ?_
    refine fs ?_
    refine AWp.ret ?_
    cases hm
    exact ret1D (.inr rfl) Try.results120 (td Z1 (.v _))
def ref05Words_J1 (rec1 : List GHash → Int → List Int → List Int → Int → Option ((List Int))) (rec2 : List GHash → Int → List Int → List Int → Int → Int → Option ((List Int))) (rec3 : List GHash → Int → List Int → List Int → Int → Int → Int → Int → Option ((List Int))) (l_0 : List GHash) (v_1 : Int) (names_2 : List Int) (out_7 : List Int) (r_8 : Int) (j_9 : Int) (w_10 : Int) (i_11 : Int) : Option ((List Int)) :=
 rec3 l_0 v_1 names_2 out_7 r_8 j_9 w_10 (IntKind.i64.wrap (i_11 + 1))
def ref05Words_B3 (rec1 : List GHash → Int → List Int → List Int → Int → Option ((List Int))) (rec2 : List GHash → Int → List Int → List Int → Int → Int → Option ((List Int))) (rec3 : List GHash → Int → List Int → List Int → Int → Int → Int → Int → Option ((List Int))) (l_0 : List GHash) (v_1 : Int) (names_2 : List Int) (out_7 : List Int) (r_8 : Int) (j_9 : Int) (w_10 : Int) (i_11 : Int) : Option ((List Int)) :=
 (bif (decide (i_11 < (names_2.length : Int))) then
  ((idx l_0 r_8).bind fun x2 =>
  ((idx names_2 i_11).bind fun x4 =>
  ((ref04Value_m x2 x4).bind fun r6 =>
  ((ref04Bound_m j_9).bind fun r8 =>
  (bif (decide (r6 < r8)) then
   ((idx names_2 i_11).bind fun x10 =>
   ref05Words_J1 rec1 rec2 rec3 l_0 v_1 names_2 out_7 r_8 j_9 (bxor .u64 w_10 x10) i_11)
  else
   ref05Words_J1 rec1 rec2 rec3 l_0 v_1 names_2 out_7 r_8 j_9 w_10 i_11)))))
 else
  ((app out_7 [w_10]).bind fun l12 =>
  rec2 l_0 v_1 names_2 l12 r_8 (IntKind.i64.wrap (j_9 + 1))))
def ref05Words_L3 (rec1 : List GHash → Int → List Int → List Int → Int → Option ((List Int))) (rec2 : List GHash → Int → List Int → List Int → Int → Int → Option ((List Int))) : Nat → List GHash → Int → List Int → List Int → Int → Int → Int → Int → Option ((List Int))
 | 0 => fun _ _ _ _ _ _ _ _ => none
 | n + 1 => ref05Words_B3 rec1 rec2 (ref05Words_L3 rec1 rec2 n)
def ref05Words_B2 (rec1 : List GHash → Int → List Int → List Int → Int → Option ((List Int))) (rec2 : List GHash → Int → List Int → List Int → Int → Int → Option ((List Int))) (l_0 : List GHash) (v_1 : Int) (names_2 : List Int) (out_7 : List Int) (r_8 : Int) (j_9 : Int) : Option ((List Int)) :=
 (bif (decide (j_9 < v_1)) then
  ref05Words_L3 rec1 rec2 FUEL l_0 v_1 names_2 out_7 r_8 j_9 0 0
 else
  rec1 l_0 v_1 names_2 out_7 (IntKind.i64.wrap (r_8 + 1)))
def ref05Words_L2 (rec1 : List GHash → Int → List Int → List Int → Int → Option ((List Int))) : Nat → List GHash → Int → List Int → List Int → Int → Int → Option ((List Int))
 | 0 => fun _ _ _ _ _ _ => none
 | n + 1 => ref05Words_B2 rec1 (ref05Words_L2 rec1 n)
def ref05Words_B1 (rec1 : List GHash → Int → List Int → List Int → Int → Option ((List Int))) (l_0 : List GHash) (v_1 : Int) (names_2 : List Int) (out_7 : List Int) (r_8 : Int) : Option ((List Int)) :=
 (bif (decide (r_8 < (l_0.length : Int))) then
  ref05Words_L2 rec1 FUEL l_0 v_1 names_2 out_7 r_8 0
 else
  some out_7)
def ref05Words_L1 : Nat → List GHash → Int → List Int → List Int → Int → Option ((List Int))
 | 0 => fun _ _ _ _ _ => none
 | n + 1 => ref05Words_B1 (ref05Words_L1 n)
def ref05Words_m (l_0 : List GHash) (v_1 : Int) (names_2 : List Int) : Option ((List Int)) :=
 ref05Words_L1 FUEL l_0 v_1 names_2 [] 0
theorem ref05Words_c {l_0 : List GHash} {v_1 : Int} {names_2 : List Int} {r : (List Int)} (hm : ref05Words_m l_0 v_1 names_2 = some r) : PureC Try.prog 94 [.sl (l_0.flatMap cGHash) l_0.length false, .v (.int .i64 v_1), .sl (names_2.flatMap (ci .u64)) names_2.length false] (.sl (r.flatMap (ci .u64)) r.length false) := by
 refine PureC.of_body Try.func94 rfl ?_
 simp only [Try.ntmps94, List.length_cons, List.length_nil, Nat.reduceAdd, Nat.reduceSub, empty_eq]
 unfold ref05Words_m at hm
 refine sr (N' := 64) rfl ?_
 refine pA ?_
 refine fs ?_
 refine sr (N' := 128) rfl ?_
 refine pA ?_
 refine fs ?_
 refine AWp.seq' ?_
 refine sr (N' := 192) rfl ?_
 refine pA ?_
 refine fs ?_
 refine AWp.block ?_
 refine AWp.loopM (fun m s => ∃ (l_0 : List GHash) (v_1 : Int) (names_2 : List Int) (out_7 : List Int) (r_8 : Int), s = (⟨52, (fset (fset (fset (fset (fset (fun _ => AV.any) 0 (.sl (l_0.flatMap cGHash) l_0.length false)) 1 (.v (.int .i64 v_1))) 2 (.sl (names_2.flatMap (ci .u64)) names_2.length false)) 7 (.own 1 0 out_7.length)) 8 (.v (.int .i64 r_8))), ⟨(upd nofresh 1 (.cells 1 (out_7.flatMap (ci .u64)) 0)), 64⟩⟩ : St) ∧ ref05Words_L1 m l_0 v_1 names_2 out_7 r_8 = some r) FUEL ?_ ?_ ?_
 ·
  rintro s ⟨_, _, _, _, _, _, h⟩
  cases h
 ·
  refine ⟨_, ?_, l_0, v_1, names_2, [], 0, rfl, hm⟩
  refine St.Le.trans (le_nil 7 900007 1 Z1 Z5) ?_
  exact le_canon (fun j => bif j == 1 then 900007 else 0) (wV (wO (wD ((CFi .u64).sl _ _ _) (wV (wD (CFGHash.sl _ _ _) wk_none))))) (hW (eU (CFi .u64) entWk_none))
 ·
  rintro n1 s ⟨l_0, v_1, names_2, out_7, r_8, rfl, hm⟩
  replace hm : ref05Words_B1 (ref05Words_L1 n1) l_0 v_1 names_2 out_7 r_8 = some r := hm
  unfold ref05Words_B1 at hm
  refine AWp.seq' ?_
  refine sr (N' := 128) rfl ?_
  iterate 4 refine pA ?_
  refine fs ?_
  refine AWp.condM hm Z1 (fun _ hm => ?_) (fun _ hm => ?_)
  ·
   refine AWp.skip ?_
   refine normSeq ?_
   refine AWp.seq' ?_
   refine AWp.block ?_
   refine sr (N' := 192) rfl ?_
   refine pA ?_
   refine fs ?_
   refine AWp.block ?_
   refine AWp.loopM (fun m s => ∃ (l_0 : List GHash) (v_1 : Int) (names_2 : List Int) (out_7 : List Int) (r_8 : Int) (j_9 : Int), s = (⟨52, (fset (fset (fset (fset (fset (fset (fun _ => AV.any) 0 (.sl (l_0.flatMap cGHash) l_0.length false)) 1 (.v (.int .i64 v_1))) 2 (.sl (names_2.flatMap (ci .u64)) names_2.length false)) 7 (.own 1 0 out_7.length)) 8 (.v (.int .i64 r_8))) 9 (.v (.int .i64 j_9))), ⟨(upd nofresh 1 (.cells 1 (out_7.flatMap (ci .u64)) 0)), 64⟩⟩ : St) ∧ ref05Words_L2 (ref05Words_L1 n1) m l_0 v_1 names_2 out_7 r_8 j_9 = some r) FUEL ?_ ?_ ?_
   ·
    rintro s ⟨_, _, _, _, _, _, _, h⟩
    cases h
   ·
    refine ⟨_, ?_, l_0, v_1, names_2, out_7, r_8, 0, rfl, hm⟩
    exact le_canon (fun j => bif j == 1 then 1 else 0) (wV (wV (wO (wD ((CFi .u64).sl _ _ _) (wV (wD (CFGHash.sl _ _ _) wk_none)))))) (hW (eU (CFi .u64) entWk_none))
   ·
    rintro n2 s ⟨l_0, v_1, names_2, out_7, r_8, j_9, rfl, hm⟩
    replace hm : ref05Words_B2 (ref05Words_L1 n1) (ref05Words_L2 (ref05Words_L1 n1) n2) l_0 v_1 names_2 out_7 r_8 j_9 = some r := hm
    unfold ref05Words_B2 at hm
    refine AWp.seq' ?_
    refine sr (N' := 128) rfl ?_
    iterate 3 refine pA ?_
    refine fs ?_
    refine AWp.condM hm Z1 (fun _ hm => ?_) (fun _ hm => ?_)
    ·
     refine AWp.skip ?_
     refine normSeq ?_
     refine AWp.seq' ?_
     refine AWp.block ?_
     refine sr (N' := 192) rfl ?_
     refine pA ?_
     refine fs ?_
     refine AWp.seq' ?_
     refine sr (N' := 256) rfl ?_
     refine pA ?_
     refine fs ?_
     refine AWp.block ?_
     refine AWp.loopM (fun m s => ∃ (l_0 : List GHash) (v_1 : Int) (names_2 : List Int) (out_7 : List Int) (r_8 : Int) (j_9 : Int) (w_10 : Int) (i_11 : Int), s = (⟨52, (fset (fset (fset (fset (fset (fset (fset (fset (fun _ => AV.any) 0 (.sl (l_0.flatMap cGHash) l_0.length false)) 1 (.v (.int .i64 v_1))) 2 (.sl (names_2.flatMap (ci .u64)) names_2.length false)) 7 (.own 1 0 out_7.length)) 8 (.v (.int .i64 r_8))) 9 (.v (.int .i64 j_9))) 10 (.v (.int .u64 w_10))) 11 (.v (.int .i64 i_11))), ⟨(upd nofresh 1 (.cells 1 (out_7.flatMap (ci .u64)) 0)), 64⟩⟩ : St) ∧ ref05Words_L3 (ref05Words_L1 n1) (ref05Words_L2 (ref05Words_L1 n1) n2) m l_0 v_1 names_2 out_7 r_8 j_9 w_10 i_11 = some r) FUEL ?_ ?_ ?_
     ·
      rintro s ⟨_, _, _, _, _, _, _, _, _, h⟩
      cases h
     ·
      refine ⟨_, ?_, l_0, v_1, names_2, out_7, r_8, j_9, 0, 0, rfl, hm⟩
      exact le_canon (fun j => bif j == 1 then 1 else 0) (wV (wV (wV (wV (wO (wD ((CFi .u64).sl _ _ _) (wV (wD (CFGHash.sl _ _ _) wk_none)))))))) (hW (eU (CFi .u64) entWk_none))
     ·
      rintro n3 s ⟨l_0, v_1, names_2, out_7, r_8, j_9, w_10, i_11, rfl, hm⟩
      replace hm : ref05Words_B3 (ref05Words_L1 n1) (ref05Words_L2 (ref05Words_L1 n1) n2) (ref05Words_L3 (ref05Words_L1 n1) (ref05Words_L2 (ref05Words_L1 n1) n2) n3) l_0 v_1 names_2 out_7 r_8 j_9 w_10 i_11 = some r := hm
      unfold ref05Words_B3 at hm
      refine AWp.seq' ?_
      refine sr (N' := 128) rfl ?_
      iterate 4 refine pA ?_
      refine fs ?_
      refine AWp.condM hm Z1 (fun _ hm => ?_) (fun _ hm => ?_)
      ·
       refine AWp.skip ?_
       refine normSeq ?_
       refine AWp.seqJ (fun s => ∃ (l_0 : List GHash) (v_1 : Int) (names_2 : List Int) (out_7 : List Int) (r_8 : Int) (j_9 : Int) (w_10 : Int) (i_11 : Int), s = (⟨52, (fset (fset (fset (fset (fset (fset (fset (fset (fun _ => AV.any) 0 (.sl (l_0.flatMap cGHash) l_0.length false)) 1 (.v (.int .i64 v_1))) 2 (.sl (names_2.flatMap (ci .u64)) names_2.length false)) 7 (.own 1 0 out_7.length)) 8 (.v (.int .i64 r_8))) 9 (.v (.int .i64 j_9))) 10 (.v (.int .u64 w_10))) 11 (.v (.int .i64 i_11))), ⟨(upd nofresh 1 (.cells 1 (out_7.flatMap (ci .u64)) 0)), 64⟩⟩ : St) ∧ ref05Words_J1 (ref05Words_L1 n1) (ref05Words_L2 (ref05Words_L1 n1) n2) (ref05Words_L3 (ref05Words_L1 n1) (ref05Words_L2 (ref05Words_L1 n1) n2) n3) l_0 v_1 names_2 out_7 r_8 j_9 w_10 i_11 = some r) ?_ ?_
       ·
        refine AWp.block ?_
        refine sd mix (by kernel_rfl) (N' := 192) rfl ?_
        iterate 2 refine pA ?_
        obtain ⟨x2, h1, hm⟩ := bnd hm
        refine pu rfl (ap_idx CFGHash Zd Try.underlying24 sz53 Z1 rfl Z1 h1) ?_
        iterate 3 refine pA ?_
        obtain ⟨x4, h3, hm⟩ := bnd hm
        refine pu rfl (ap_idx (CFi .u64) Zd Try.underlying41 sz51 Z1 rfl Z1 h3) ?_
        refine pA ?_
        obtain ⟨r6, h5, hm⟩ := bnd hm
        refine ARun.callQ (r := .v (.int .u64 r6)) Zd Z1 fb119 (fun H => (cD (.agg _ (CFGHash.dat _)) (cV .nil))) (ref04Value_c h5) ?_
        refine pA ?_
        obtain ⟨r8, h7, hm⟩ := bnd hm
        refine ARun.callQ (r := .v (.int .u64 r8)) Zd Z1 fb120 (fun H => (cV .nil)) (ref04Bound_c h7) ?_
        refine pA ?_
        refine fs ?_
        refine AWp.condM hm Z1 (fun _ hm => ?_) (fun _ hm => ?_)
        ·
         refine AWp.reg 64 (N' := 256) rfl ?_
         iterate 3 refine pA ?_
         obtain ⟨x10, h9, hm⟩ := bnd hm
         refine pu rfl (ap_idx (CFi .u64) Zd Try.underlying41 sz51 Z1 rfl Z1 h9) ?_
         iterate 3 refine pA ?_
         refine ARun.fin ?_
         refine normIn ?_
         refine normJ ?_
         refine ⟨_, ?_, l_0, v_1, names_2, out_7, r_8, j_9, (bxor .u64 w_10 x10), i_11, rfl, hm⟩
         exact le_canon (fun j => bif j == 1 then 1 else 0) (wV (wV (wV (wV (wO (wD ((CFi .u64).sl _ _ _) (wV (wD (CFGHash.sl _ _ _) wk_none)))))))) (hW (eU (CFi .u64) entWk_none))
        ·
         refine AWp.skip ?_
         refine normIn ?_
         refine normJ ?_
         refine ⟨_, ?_, l_0, v_1, names_2, out_7, r_8, j_9, w_10, i_11, rfl, hm⟩
         exact le_canon (fun j => bif j == 1 then 1 else 0) (wV (wV (wV (wV (wO (wD ((CFi .u64).sl _ _ _) (wV (wD (CFGHash.sl _ _ _) wk_none)))))))) (hW (eU (CFi .u64) entWk_none))
       ·
        rintro s ⟨l_0, v_1, names_2, out_7, r_8, j_9, w_10, i_11, rfl, hm⟩
        unfold ref05Words_J1 at hm
        refine AWp.reg 64 (N' := 128) rfl ?_
        iterate 3 refine pA ?_
        refine ARun.fin ?_
        refine normThen ?_
        refine ⟨_, ?_, l_0, v_1, names_2, out_7, r_8, j_9, w_10, (IntKind.i64.wrap (i_11 + 1)), rfl, hm⟩
        exact le_canon (fun j => bif j == 1 then 1 else 0) (wV (wV (wV (wV (wO (wD ((CFi .u64).sl _ _ _) (wV (wD (CFGHash.sl _ _ _) wk_none)))))))) (hW (eU (CFi .u64) entWk_none))
      ·
       refine AWp.exit ?_
       refine exitSeq ?_
       refine exitThen ?_
       refine exitHere ?_
       refine normSeq ?_
       refine AWp.reg 64 (N' := 192) rfl ?_
       iterate 2 refine pA ?_
       refine hp (id := 130) rfl rfl (ah_list (CFi .u64) (l := [w_10]) Try.underlying41 sz51 zc51 Z5 Zd Zd Zd (by simp only [go_sem, Nat.reduceBEq]; try rfl) (by kernel_rfl)) ?_
       obtain ⟨l12, h11, hm⟩ := bnd hm
       refine hp (id := 131) rfl rfl (ah_app (CFi .u64) Try.underlying41 Try.underlying41 rfl in51 ts51 (by rw [tb51]; decide) (by rw [tb51]; decide) tz51 Zd Zd Z1 Z3 Z6 (as_own (CFi .u64) Z1 Z3 Z6) rfl Z5 h11) ?_
       refine pA ?_
       refine ARun.fin ?_
       refine normIn ?_
       refine normSeq ?_
       refine AWp.reg 64 (N' := 256) rfl ?_
       iterate 3 refine pA ?_
       refine ARun.fin ?_
       refine normThen ?_
       refine ⟨_, ?_, l_0, v_1, names_2, l12, r_8, (IntKind.i64.wrap (j_9 + 1)), rfl, hm⟩
       exact le_canon (fun j => bif j == 1 then 131 else 0) (wV (wV (wO (wD ((CFi .u64).sl _ _ _) (wV (wD (CFGHash.sl _ _ _) wk_none)))))) (hW (eU (CFi .u64) entWk_none))
    ·
     refine AWp.exit ?_
     refine exitSeq ?_
     refine exitThen ?_
     refine exitHere ?_
     refine normIn ?_
     refine normSeq ?_
     refine AWp.reg 64 (N' := 192) rfl ?_
     iterate 3 refine pA ?_
     refine ARun.fin ?_
     refine normThen ?_
     refine ⟨_, ?_, l_0, v_1, names_2, out_7, (IntKind.i64.wrap (r_8 + 1)), rfl, hm⟩
     exact le_canon (fun j => bif j == 1 then 1 else 0) (wV (wO (wD ((CFi .u64).sl _ _ _) (wV (wD (CFGHash.sl _ _ _) wk_none))))) (hW (eU (CFi .u64) entWk_none))
  ·
   refine AWp.exit ?_
   refine exitSeq ?_
   refine exitThen ?_
   refine exitHere ?_
   refine normSeq ?_
   refine sr (N' := 192) rfl ?_
   iterate 2 refine pA ?_
   refine fs ?_
   refine AWp.ret ?_
   cases hm
   exact ret1D (.inr rfl) Try.results94 (tdo (CFi .u64) Z1 Z3 Z6)
def ref14Words_m (g_0 : GGraph) (tier_1 : Int) (v_2 : Int) : Option ((List Int)) :=
 ((ref14Tree_m g_0 tier_1 v_2).bind fun r2 =>
 ((ref13Cut_m g_0.Edges r2).bind fun r4 =>
 ((ref14Hashes_m g_0 tier_1).bind fun r6 =>
 ((ref04Levels_m g_0.Config.N).bind fun r8 =>
 ((ref13Names_m r4).bind fun r10 =>
 ((ref05Words_m r6 r8 r10).bind fun r12 =>
 some r12))))))
theorem ref14Words_c {g_0 : GGraph} {tier_1 : Int} {v_2 : Int} {r : (List Int)} (hm : ref14Words_m g_0 tier_1 v_2 = some r) : PureC Try.prog 51 [.agg [.v (.int .i64 g_0.Config.N), .v (.int .i64 g_0.Config.L), .v (.int .i64 g_0.Config.R), .sl (g_0.Hashes.flatMap cGHash) g_0.Hashes.length false, .sl (g_0.Edges.flatMap cGEdge) g_0.Edges.length false], .v (.int .i64 tier_1), .v (.int .i64 v_2)] (.sl (r.flatMap (ci .u64)) r.length false) := by
 refine PureC.of_body Try.func51 rfl ?_
 simp only [Try.ntmps51, List.length_cons, List.length_nil, Nat.reduceAdd, Nat.reduceSub, empty_eq]
 unfold ref14Words_m at hm
 refine sr (N' := 64) rfl ?_
 refine hp (id := 0) rfl rfl (aheap_box Z1 Z5) ?_
 refine pA ?_
 refine fs ?_
 refine sd mix (by kernel_rfl) (N' := 128) rfl ?_
 refine pA ?_
 refine pu rfl (ap_ldv Z1 Z3 Z4) ?_
 refine pu rfl (ap_ldv Z1 Z3 Z2) ?_
 iterate 2 refine pA ?_
 obtain ⟨r2, h1, hm⟩ := bnd hm
 refine ARun.callQ (r := .sl (r2.flatMap (ci .i64)) r2.length false) Zd Z1 fb48 (fun H => (cD (.agg _ (CFGGraph.dat _)) (cV (cV .nil)))) (ref14Tree_c h1) ?_
 obtain ⟨r4, h3, hm⟩ := bnd hm
 refine ARun.callQ (r := .sl (r4.flatMap cGEdge) r4.length false) Zd Z1 fb52 (fun H => (cD (CFGEdge.sl _ _ _) (cD ((CFi .i64).sl _ _ _) .nil))) (ref13Cut_c h3) ?_
 refine pA ?_
 refine fs ?_
 refine sd mix (by kernel_rfl) (N' := 192) rfl ?_
 refine pu rfl (ap_ldv Z1 Z3 Z2) ?_
 refine pA ?_
 obtain ⟨r6, h5, hm⟩ := bnd hm
 refine ARun.callQ (r := .sl (r6.flatMap cGHash) r6.length false) Zd Z1 fb92 (fun H => (cD (.agg _ (CFGGraph.dat _)) (cV .nil))) (ref14Hashes_c h5) ?_
 iterate 2 refine pA ?_
 refine pu rfl (ap_ldv Z1 Z3 Z4) ?_
 obtain ⟨r8, h7, hm⟩ := bnd hm
 refine ARun.callQ (r := .v (.int .i64 r8)) Zd Z1 fb95 (fun H => (cV .nil)) (ref04Levels_c h7) ?_
 refine pA ?_
 obtain ⟨r10, h9, hm⟩ := bnd hm
 refine ARun.callQ (r := .sl (r10.flatMap (ci .u64)) r10.length false) Zd Z1 fb55 (fun H => (cD (CFGEdge.sl _ _ _) .nil)) (ref13Names_c h9) ?_
 obtain ⟨r12, h11, hm⟩ := bnd hm
 refine ARun.callQ (r := .sl (r12.flatMap (ci .u64)) r12.length false) Zd Z1 fb94 (fun H => (cD (CFGHash.sl _ _ _) (cV (cD ((CFi .u64).sl _ _ _) .nil)))) (ref05Words_c h11) ?_
 refine pA ?_
 refine fs ?_
 refine AWp.ret ?_
 cases hm
 exact ret1D (.inr rfl) Try.results51 (td Z1 ((CFi .u64).sl _ _ _))
def ref14Search_B2 (rec1 : GEdge → List GEdge → List Int → List Int → Int → Option (GEdge × Bool)) (rec2 : GEdge → List GEdge → List Int → List Int → Int → Int → Option (GEdge × Bool)) (t6 : GEdge) (c_8 : List GEdge) (names_9 : List Int) (w_10 : List Int) (i_11 : Int) (k_12 : Int) : Option (GEdge × Bool) :=
 (bif (decide (k_12 < (c_8.length : Int))) then
  ((idx w_10 i_11).bind fun x10 =>
  ((idx names_9 k_12).bind fun x12 =>
  (bif (x10 == x12) then
   ((idx c_8 k_12).bind fun x14 =>
   some (x14, true))
  else
   rec2 t6 c_8 names_9 w_10 i_11 (IntKind.i64.wrap (k_12 + 1)))))
 else
  rec1 t6 c_8 names_9 w_10 (IntKind.i64.wrap (i_11 + 1)))
def ref14Search_L2 (rec1 : GEdge → List GEdge → List Int → List Int → Int → Option (GEdge × Bool)) : Nat → GEdge → List GEdge → List Int → List Int → Int → Int → Option (GEdge × Bool)
 | 0 => fun _ _ _ _ _ _ => none
 | n + 1 => ref14Search_B2 rec1 (ref14Search_L2 rec1 n)
def ref14Search_B1 (rec1 : GEdge → List GEdge → List Int → List Int → Int → Option (GEdge × Bool)) (t6 : GEdge) (c_8 : List GEdge) (names_9 : List Int) (w_10 : List Int) (i_11 : Int) : Option (GEdge × Bool) :=
 (bif (decide (i_11 < (w_10.length : Int))) then
  ref14Search_L2 rec1 FUEL t6 c_8 names_9 w_10 i_11 0
 else
  some ((GEdge.mk 0 0 0), false))
def ref14Search_L1 : Nat → GEdge → List GEdge → List Int → List Int → Int → Option (GEdge × Bool)
 | 0 => fun _ _ _ _ _ => none
 | n + 1 => ref14Search_B1 (ref14Search_L1 n)
def ref14Search_m (g_0 : GGraph) (tier_1 : Int) (v_2 : Int) : Option (GEdge × Bool) :=
 ((ref14Tree_m g_0 tier_1 v_2).bind fun r2 =>
 ((ref13Cut_m g_0.Edges r2).bind fun r4 =>
 ((ref13Names_m r4).bind fun r6 =>
 ((ref14Words_m g_0 tier_1 v_2).bind fun r8 =>
 ref14Search_L1 FUEL (GEdge.mk 0 0 0) r4 r6 r8 0))))
theorem ref14Search_c {g_0 : GGraph} {tier_1 : Int} {v_2 : Int} {r : GEdge × Bool} (hm : ref14Search_m g_0 tier_1 v_2 = some r) : PureC Try.prog 49 [.agg [.v (.int .i64 g_0.Config.N), .v (.int .i64 g_0.Config.L), .v (.int .i64 g_0.Config.R), .sl (g_0.Hashes.flatMap cGHash) g_0.Hashes.length false, .sl (g_0.Edges.flatMap cGEdge) g_0.Edges.length false], .v (.int .i64 tier_1), .v (.int .i64 v_2)] (.tup [.agg [.v (.int .i64 r.1.U), .v (.int .i64 r.1.V), .v (.int .i64 r.1.Tier)], .v (.bool r.2)]) := by
 refine PureC.of_body Try.func49 rfl ?_
 simp only [Try.ntmps49, List.length_cons, List.length_nil, Nat.reduceAdd, Nat.reduceSub, empty_eq]
 unfold ref14Search_m at hm
 refine sr (N' := 64) rfl ?_
 refine hp (id := 0) rfl rfl (aheap_box Z1 Z5) ?_
 refine hp (id := 1) rfl rfl (aheap_alloc' zc38 Z5) ?_
 refine pA ?_
 refine fs ?_
 refine sd mix (by kernel_rfl) (N' := 128) rfl ?_
 refine pA ?_
 refine pu rfl (ap_ldv Z1 Z3 Z4) ?_
 refine pu rfl (ap_ldv Z1 Z3 Z2) ?_
 iterate 2 refine pA ?_
 obtain ⟨r2, h1, hm⟩ := bnd hm
 refine ARun.callQ (r := .sl (r2.flatMap (ci .i64)) r2.length false) Zd Z1 fb48 (fun H => (cD (.agg _ (CFGGraph.dat _)) (cV (cV .nil)))) (ref14Tree_c h1) ?_
 obtain ⟨r4, h3, hm⟩ := bnd hm
 refine ARun.callQ (r := .sl (r4.flatMap cGEdge) r4.length false) Zd Z1 fb52 (fun H => (cD (CFGEdge.sl _ _ _) (cD ((CFi .i64).sl _ _ _) .nil))) (ref13Cut_c h3) ?_
 refine pA ?_
 refine fs ?_
 refine sr (N' := 192) rfl ?_
 refine pA ?_
 obtain ⟨r6, h5, hm⟩ := bnd hm
 refine ARun.callQ (r := .sl (r6.flatMap (ci .u64)) r6.length false) Zd Z1 fb55 (fun H => (cD (CFGEdge.sl _ _ _) .nil)) (ref13Names_c h5) ?_
 refine pA ?_
 refine fs ?_
 refine sr (N' := 256) rfl ?_
 refine pu rfl (ap_ldv Z1 Z3 Z2) ?_
 iterate 2 refine pA ?_
 obtain ⟨r8, h7, hm⟩ := bnd hm
 refine ARun.callQ (r := .sl (r8.flatMap (ci .u64)) r8.length false) Zd Z1 fb51 (fun H => (cD (.agg _ (CFGGraph.dat _)) (cV (cV .nil)))) (ref14Words_c h7) ?_
 refine pA ?_
 refine fs ?_
 refine AWp.seq' ?_
 refine sr (N' := 320) rfl ?_
 refine pA ?_
 refine fs ?_
 refine AWp.block ?_
 refine AWp.loopM (fun m s => ∃ (t6 : GEdge) (c_8 : List GEdge) (names_9 : List Int) (w_10 : List Int) (i_11 : Int), s = (⟨52, (fset (fset (fset (fset (fset (fun _ => AV.any) 6 (.adr 1 0)) 8 (.sl (c_8.flatMap cGEdge) c_8.length false)) 9 (.sl (names_9.flatMap (ci .u64)) names_9.length false)) 10 (.sl (w_10.flatMap (ci .u64)) w_10.length false)) 11 (.v (.int .i64 i_11))), ⟨(upd nofresh 1 (.cells 1 [.v (.int .i64 t6.U), .v (.int .i64 t6.V), .v (.int .i64 t6.Tier)] 0)), 64⟩⟩ : St) ∧ ref14Search_L1 m t6 c_8 names_9 w_10 i_11 = some r) FUEL ?_ ?_ ?_
 ·
  rintro s ⟨_, _, _, _, _, _, h⟩
  cases h
 ·
  refine ⟨_, ?_, (GEdge.mk 0 0 0), r4, r6, r8, 0, rfl, hm⟩
  exact le_canon (fun j => bif j == 1 then 1 else 0) (wV (wD ((CFi .u64).sl _ _ _) (wD ((CFi .u64).sl _ _ _) (wD (CFGEdge.sl _ _ _) (wk_fset _ _ (wk_adr Z1 rfl Z7) wk_none))))) (hW (entWk_upd (entWk_data Z3 (Nat.le_refl _) (Nat.zero_le _) (CFGEdge.dat (GEdge.mk 0 0 0))) entWk_none))
 ·
  rintro n1 s ⟨t6, c_8, names_9, w_10, i_11, rfl, hm⟩
  replace hm : ref14Search_B1 (ref14Search_L1 n1) t6 c_8 names_9 w_10 i_11 = some r := hm
  unfold ref14Search_B1 at hm
  refine AWp.seq' ?_
  refine sr (N' := 128) rfl ?_
  iterate 4 refine pA ?_
  refine fs ?_
  refine AWp.condM hm Z1 (fun _ hm => ?_) (fun _ hm => ?_)
  ·
   refine AWp.skip ?_
   refine normSeq ?_
   refine AWp.seq' ?_
   refine AWp.block ?_
   refine sr (N' := 192) rfl ?_
   refine pA ?_
   refine fs ?_
   refine AWp.block ?_
   refine AWp.loopM (fun m s => ∃ (t6 : GEdge) (c_8 : List GEdge) (names_9 : List Int) (w_10 : List Int) (i_11 : Int) (k_12 : Int), s = (⟨52, (fset (fset (fset (fset (fset (fset (fun _ => AV.any) 6 (.adr 1 0)) 8 (.sl (c_8.flatMap cGEdge) c_8.length false)) 9 (.sl (names_9.flatMap (ci .u64)) names_9.length false)) 10 (.sl (w_10.flatMap (ci .u64)) w_10.length false)) 11 (.v (.int .i64 i_11))) 12 (.v (.int .i64 k_12))), ⟨(upd nofresh 1 (.cells 1 [.v (.int .i64 t6.U), .v (.int .i64 t6.V), .v (.int .i64 t6.Tier)] 0)), 64⟩⟩ : St) ∧ ref14Search_L2 (ref14Search_L1 n1) m t6 c_8 names_9 w_10 i_11 k_12 = some r) FUEL ?_ ?_ ?_
   ·
    rintro s ⟨_, _, _, _, _, _, _, h⟩
    cases h
   ·
    refine ⟨_, ?_, t6, c_8, names_9, w_10, i_11, 0, rfl, hm⟩
    exact le_canon (fun j => bif j == 1 then 1 else 0) (wV (wV (wD ((CFi .u64).sl _ _ _) (wD ((CFi .u64).sl _ _ _) (wD (CFGEdge.sl _ _ _) (wk_fset _ _ (wk_adr Z1 rfl Z7) wk_none)))))) (hW (entWk_upd (entWk_data Z3 (Nat.le_refl _) (Nat.zero_le _) (CFGEdge.dat t6)) entWk_none))
   ·
    rintro n2 s ⟨t6, c_8, names_9, w_10, i_11, k_12, rfl, hm⟩
    replace hm : ref14Search_B2 (ref14Search_L1 n1) (ref14Search_L2 (ref14Search_L1 n1) n2) t6 c_8 names_9 w_10 i_11 k_12 = some r := hm
    unfold ref14Search_B2 at hm
    refine AWp.seq' ?_
    refine sr (N' := 128) rfl ?_
    iterate 4 refine pA ?_
    refine fs ?_
    refine AWp.condM hm Z1 (fun _ hm => ?_) (fun _ hm => ?_)
    ·
     refine AWp.skip ?_
     refine normSeq ?_
     refine AWp.seq' ?_
     refine AWp.block ?_
     refine sd mix (by kernel_rfl) (N' := 192) rfl ?_
     iterate 2 refine pA ?_
     obtain ⟨x10, h9, hm⟩ := bnd hm
     refine pu rfl (ap_idx (CFi .u64) Zd Try.underlying41 sz51 Z1 rfl Z1 h9) ?_
     iterate 3 refine pA ?_
     obtain ⟨x12, h11, hm⟩ := bnd hm
     refine pu rfl (ap_idx (CFi .u64) Zd Try.underlying41 sz51 Z1 rfl Z1 h11) ?_
     iterate 2 refine pA ?_
     refine fs ?_
     refine AWp.condM hm Z1 (fun _ hm => ?_) (fun _ hm => ?_)
     ·
      refine sr (N' := 256) rfl ?_
      iterate 2 refine pA ?_
      obtain ⟨x14, h13, hm⟩ := bnd hm
      refine pu rfl (ap_idx CFGEdge Zd Try.underlying25 sz38 Z1 rfl Z1 h13) ?_
      refine pA ?_
      refine ARun.heap0 (id := 196) rfl (ah_var (ys := [.v (.int .i64 x14.U), .v (.int .i64 x14.V), .v (.int .i64 x14.Tier)]) sz38 Z1 Z1 Z3 rfl (Nat.le_of_ble_eq_true rfl) Z9 rfl) ?_
      refine pA ?_
      refine fs ?_
      refine AWp.ret ?_
      refine retIn ?_
      refine retSeq ?_
      refine retThen ?_
      refine retIn ?_
      refine retIn ?_
      refine retSeq ?_
      refine retThen ?_
      refine retIn ?_
      refine retSeq ?_
      cases hm
      exact retL (.inr rfl) (by rw [Try.results49]) (.cell (ap_ldv' Z1 Z3 Z2) (.tmp Z1 .nil)) rfl (tdt (.cons (td rfl (.agg _ (CFGEdge.dat _))) (.cons (td rfl (.v _)) .nil)))
     ·
      refine AWp.skip ?_
      refine normIn ?_
      refine normSeq ?_
      refine AWp.reg 64 (N' := 256) rfl ?_
      iterate 3 refine pA ?_
      refine ARun.fin ?_
      refine normThen ?_
      refine ⟨_, ?_, t6, c_8, names_9, w_10, i_11, (IntKind.i64.wrap (k_12 + 1)), rfl, hm⟩
      exact le_canon (fun j => bif j == 1 then 1 else 0) (wV (wV (wD ((CFi .u64).sl _ _ _) (wD ((CFi .u64).sl _ _ _) (wD (CFGEdge.sl _ _ _) (wk_fset _ _ (wk_adr Z1 rfl Z7) wk_none)))))) (hW (entWk_upd (entWk_data Z3 (Nat.le_refl _) (Nat.zero_le _) (CFGEdge.dat t6)) entWk_none))
    ·
     refine AWp.exit ?_
     refine exitSeq ?_
     refine exitThen ?_
     refine exitHere ?_
     refine normIn ?_
     refine normSeq ?_
     refine AWp.reg 64 (N' := 192) rfl ?_
     iterate 3 refine pA ?_
     refine ARun.fin ?_
     refine normThen ?_
     refine ⟨_, ?_, t6, c_8, names_9, w_10, (IntKind.i64.wrap (i_11 + 1)), rfl, hm⟩
     exact le_canon (fun j => bif j == 1 then 1 else 0) (wV (wD ((CFi .u64).sl _ _ _) (wD ((CFi .u64).sl _ _ _) (wD (CFGEdge.sl _ _ _) (wk_fset _ _ (wk_adr Z1 rfl Z7) wk_none))))) (hW (entWk_upd (entWk_data Z3 (Nat.le_refl _) (Nat.zero_le _) (CFGEdge.dat t6)) entWk_none))
  ·
   refine AWp.exit ?_
   refine exitSeq ?_
   refine exitThen ?_
   refine exitHere ?_
   refine normSeq ?_
   refine sr (N' := 192) rfl ?_
   refine pu rfl (by simp only [go_sem, Nat.reduceBEq]; exact (by kernel_rfl : abuild Try.prog 38 [] = some (.agg [.v (.int .i64 0), .v (.int .i64 0), .v (.int .i64 0)]))) ?_
   refine ARun.heap0 (id := 129) rfl (ah_var (ys := [.v (.int .i64 0), .v (.int .i64 0), .v (.int .i64 0)]) sz38 Z1 Z1 Z3 rfl (Nat.le_of_ble_eq_true rfl) Z9 rfl) ?_
   refine pA ?_
   refine fs ?_
   refine AWp.ret ?_
   cases hm
   exact retL (.inr rfl) (by rw [Try.results49]) (.cell (ap_ldv' Z1 Z3 Z2) (.tmp Z1 .nil)) rfl (tdt (.cons (td rfl (.agg _ (CFGEdge.dat (GEdge.mk 0 0 0)))) (.cons (td rfl (.v _)) .nil)))
end Go.Proofs.Ytibnmlbjahcjmaa
