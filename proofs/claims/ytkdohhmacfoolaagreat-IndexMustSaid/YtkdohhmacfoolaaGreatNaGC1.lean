/- Facts that the statement's proof is made of. No condition. -/
import Derived.Test.YtkdohhmacfoolaaGreatNaLds
import Derived.Test.YtkdohhmacfoolaaGreatNaAmF
set_option linter.unusedVariables false
set_option linter.unusedSimpArgs false
set_option maxRecDepth 20000
set_option maxHeartbeats 4000000
namespace Go.Proofs.YtkdohhmacfoolaaGreat
open Go Go.AM
theorem fo102_0GC1 (i o : Nat) : afieldAddr Tryz.prog 102 (.adr i o) 0 = some (.adr i (o + 0)) := by kernel_rfl
attribute [go_sem] fo102_0GC1
theorem fo102_1GC1 (i o : Nat) : afieldAddr Tryz.prog 102 (.adr i o) 1 = some (.adr i (o + 1)) := by kernel_rfl
attribute [go_sem] fo102_1GC1
theorem fo102_2GC1 (i o : Nat) : afieldAddr Tryz.prog 102 (.adr i o) 2 = some (.adr i (o + 2)) := by kernel_rfl
attribute [go_sem] fo102_2GC1
theorem fo23_0GC1 (i o : Nat) : afieldAddr Tryz.prog 23 (.adr i o) 0 = some (.adr i (o + 0)) := by kernel_rfl
attribute [go_sem] fo23_0GC1
theorem fo23_1GC1 (i o : Nat) : afieldAddr Tryz.prog 23 (.adr i o) 1 = some (.adr i (o + 1)) := by kernel_rfl
attribute [go_sem] fo23_1GC1
theorem fo30_0GC1 (i o : Nat) : afieldAddr Tryz.prog 30 (.adr i o) 0 = some (.adr i (o + 0)) := by kernel_rfl
attribute [go_sem] fo30_0GC1
theorem fo30_2GC1 (i o : Nat) : afieldAddr Tryz.prog 30 (.adr i o) 2 = some (.adr i (o + 4)) := by kernel_rfl
attribute [go_sem] fo30_2GC1
theorem ld102GC1 (H : Heap) (x0 x1 x2 : AV) (xs : List AV) : aload Tryz.prog H 102 (.ptr (x0 :: x1 :: x2 :: xs)) = some (.agg [x0, x1, x2]) := by kernel_rfl
attribute [go_sem] ld102GC1
theorem ld28GC1 (H : Heap) (x : AV) (xs : List AV) : aload Tryz.prog H 28 (.ptr (x :: xs)) = some x := by kernel_rfl
attribute [go_sem] ld28GC1
theorem ld3GC1 (H : Heap) (x : AV) (xs : List AV) : aload Tryz.prog H 3 (.ptr (x :: xs)) = some x := by kernel_rfl
attribute [go_sem] ld3GC1
theorem ld30GC1 (H : Heap) (x0 x1 x2 x3 x4 : AV) (xs : List AV) : aload Tryz.prog H 30 (.ptr (x0 :: x1 :: x2 :: x3 :: x4 :: xs)) = some (.agg [x0, x1, x2, x3, x4]) := by kernel_rfl
attribute [go_sem] ld30GC1
def grovePath_B1 (rec1 : List GEdge → Int → List Int → List GEdge → Int → Option ((List GEdge) × Int)) (l_1 : List GEdge) (v_3 : Int) (lead_10 : List Int) (path_11 : List GEdge) (x_12 : Int) : Option ((List GEdge) × Int) :=
 (bif (x_12 != v_3) then
  ((idx lead_10 x_12).bind fun x10 =>
  (bif (decide (x10 < 0)) then
   some ([], 3)
  else
   ((idx lead_10 x_12).bind fun x12 =>
   ((idx l_1 x12).bind fun x14 =>
   ((app path_11 [x14]).bind fun l16 =>
   ((groveOther_m x14 x_12).bind fun r18 =>
   rec1 l_1 v_3 lead_10 l16 r18))))))
 else
  some (path_11, 0))
def grovePath_L1 : Nat → List GEdge → Int → List Int → List GEdge → Int → Option ((List GEdge) × Int)
 | 0 => fun _ _ _ _ _ => none
 | n + 1 => grovePath_B1 (grovePath_L1 n)
def grovePath_m (n_0 : Int) (l_1 : List GEdge) (u_2 : Int) (v_3 : Int) : Option ((List GEdge) × Int) :=
 ((groveRight_m n_0 l_1).bind fun r2 =>
 ((gopt ((!r2) == false) false (groveVertex_m n_0 u_2)).bind fun r4 =>
 ((gopt (((!r2) || (!r4)) == false) false (groveVertex_m n_0 v_3)).bind fun r6 =>
 (bif (((!r2) || (!r4)) || (!r6)) then
  some ([], 1)
 else
  ((groveLeads_m n_0 l_1 v_3).bind fun r8 =>
  grovePath_L1 FUEL l_1 v_3 r8 [] u_2)))))
theorem grovePath_c {n_0 : Int} {l_1 : List GEdge} {u_2 : Int} {v_3 : Int} {r : (List GEdge) × Int} (hm : grovePath_m n_0 l_1 u_2 v_3 = some r) : PureC Tryz.prog 170 [.v (.int .i64 n_0), .sl (l_1.flatMap cGEdge) l_1.length false, .v (.int .i64 u_2), .v (.int .i64 v_3)] (.tup [.sl (r.1.flatMap cGEdge) r.1.length false, .v (.int .i64 r.2)]) := by
 refine PureC.of_body Tryz.func170 rfl ?_
 simp only [Tryz.ntmps170, List.length_cons, List.length_nil, Nat.reduceAdd, Nat.reduceSub, empty_eq]
 unfold grovePath_m at hm
 refine sr (N' := 64) rfl ?_
 iterate 2 refine pA ?_
 refine fs ?_
 refine AWp.seq' ?_
 refine sr (N' := 128) rfl ?_
 iterate 2 refine pA ?_
 obtain ⟨r2, h1, hm⟩ := bnd hm
 refine ARun.callQ (r := .v (.bool r2)) Zd Z1 fb90 (fun H => (cV (cD (CFGEdge.sl _ _ _) .nil))) (groveRight_c h1) ?_
 iterate 4 first | refine pA ?_ | refine pB ?_
 obtain ⟨r4, h3, hm⟩ := bnd hm
 refine ARun.callQG (r := .v (.bool r4)) Zd rfl Z2 Z1 fb190 (fun hb H => (.cons (td (Zh hb) (.v _)) (.cons (td (Zh hb) (.v _)) .nil))) (fun hb => groveVertex_c (gopt_t h3 hb)) ?_
 iterate 5 first | refine pA ?_ | refine pB ?_
 obtain ⟨r6, h5, hm⟩ := bnd hm
 refine ARun.callQG (r := .v (.bool r6)) Zd rfl Z2 Z1 fb190 (fun hb H => (.cons (td (Zh hb) (.v _)) (.cons (td (Zh hb) (.v _)) .nil))) (fun hb => groveVertex_c (gopt_t h5 hb)) ?_
 iterate 2 first | refine pA ?_ | refine pB ?_
 refine fs ?_
 refine AWp.condM hm Z1 (fun _ hm => ?_) (fun _ hm => ?_)
 ·
  refine sr (N' := 192) rfl ?_
  iterate 2 refine pA ?_
  refine fs ?_
  refine AWp.ret ?_
  refine retSeq ?_
  cases hm
  exact ret2D (.inr rfl) Tryz.results170 (tdn Z1) (td Z1 (.v _))
 ·
  refine AWp.skip ?_
  refine normSeq ?_
  refine sr (N' := 192) rfl ?_
  iterate 3 refine pA ?_
  obtain ⟨r8, h7, hm⟩ := bnd hm
  refine ARun.callQ (r := .sl (r8.flatMap (ci .i64)) r8.length false) Zd Z1 fb191 (fun H => (cV (cD (CFGEdge.sl _ _ _) (cV .nil)))) (groveLeads_c h7) ?_
  refine pA ?_
  refine fs ?_
  refine sr (N' := 256) rfl ?_
  refine pA ?_
  refine fs ?_
  refine AWp.seq' ?_
  refine sr (N' := 320) rfl ?_
  iterate 2 refine pA ?_
  refine fs ?_
  refine AWp.block ?_
  refine AWp.loopM (fun m s => ∃ (l_1 : List GEdge) (v_3 : Int) (lead_10 : List Int) (path_11 : List GEdge) (x_12 : Int), s = (⟨58, (fset (fset (fset (fset (fset (fun _ => AV.any) 1 (.sl (l_1.flatMap cGEdge) l_1.length false)) 3 (.v (.int .i64 v_3))) 10 (.sl (lead_10.flatMap (ci .i64)) lead_10.length false)) 11 (.own 1 0 path_11.length)) 12 (.v (.int .i64 x_12))), ⟨(upd nofresh 1 (.cells 3 (path_11.flatMap cGEdge) 0)), 64⟩⟩ : St) ∧ grovePath_L1 m l_1 v_3 lead_10 path_11 x_12 = some r) FUEL ?_ ?_ ?_
  ·
   rintro s ⟨_, _, _, _, _, _, h⟩
   cases h
  ·
   refine ⟨_, ?_, l_1, v_3, r8, [], u_2, rfl, hm⟩
   refine St.Le.trans (le_nil 11 900011 3 Z1 Z5) ?_
   exact le_canon (fun j => bif j == 1 then 900011 else 0) (wV (wO (wD ((CFi .i64).sl _ _ _) (wV (wD (CFGEdge.sl _ _ _) wk_none))))) (hW (eU CFGEdge entWk_none))
  ·
   rintro n1 s ⟨l_1, v_3, lead_10, path_11, x_12, rfl, hm⟩
   replace hm : grovePath_B1 (grovePath_L1 n1) l_1 v_3 lead_10 path_11 x_12 = some r := hm
   unfold grovePath_B1 at hm
   refine AWp.seq' ?_
   refine sr (N' := 128) rfl ?_
   iterate 3 refine pA ?_
   refine fs ?_
   refine AWp.condM hm Z1 (fun _ hm => ?_) (fun _ hm => ?_)
   ·
    refine AWp.skip ?_
    refine normSeq ?_
    refine AWp.block ?_
    refine AWp.seq' ?_
    refine sr (N' := 192) rfl ?_
    iterate 2 refine pA ?_
    obtain ⟨x10, h9, hm⟩ := bnd hm
    refine pu rfl (ap_idx (CFi .i64) Zd Tryz.underlying112 sz3 Z1 rfl Z1 h9) ?_
    iterate 2 refine pA ?_
    refine fs ?_
    refine AWp.condM hm Z1 (fun _ hm => ?_) (fun _ hm => ?_)
    ·
     refine sr (N' := 256) rfl ?_
     iterate 2 refine pA ?_
     refine fs ?_
     refine AWp.ret ?_
     refine retSeq ?_
     refine retIn ?_
     refine retThen ?_
     refine retIn ?_
     refine retSeq ?_
     cases hm
     exact ret2D (.inr rfl) Tryz.results170 (tdn Z1) (td Z1 (.v _))
    ·
     refine AWp.skip ?_
     refine normSeq ?_
     refine sr (N' := 256) rfl ?_
     iterate 3 refine pA ?_
     obtain ⟨x12, h11, hm⟩ := bnd hm
     refine pu rfl (ap_idx (CFi .i64) Zd Tryz.underlying112 sz3 Z1 rfl Z1 h11) ?_
     refine pA ?_
     obtain ⟨x14, h13, hm⟩ := bnd hm
     refine pu rfl (ap_idx CFGEdge Zd Tryz.underlying28 sz102 Z1 rfl Z1 h13) ?_
     refine pA ?_
     refine hp (id := 199) rfl rfl (aheap_alloc' zc102 Z5) ?_
     refine ARun.heap0 (id := 200) rfl (ah_var (ys := [.v (.int .i64 x14.U), .v (.int .i64 x14.V), .v (.int .i64 x14.Tier)]) sz102 Z1 Z1 Z3 rfl (Nat.le_of_ble_eq_true rfl) Z9 rfl) ?_
     refine fs ?_
     refine sr (N' := 320) rfl ?_
     refine pA ?_
     refine pu rfl (ap_ldv Z1 Z3 Z2) ?_
     refine hp (id := 258) rfl rfl (ah_list CFGEdge (l := [x14]) Tryz.underlying28 sz102 zc102 Z5 Zd Zd Zd (by simp only [go_sem, Nat.reduceBEq]; try rfl) (by kernel_rfl)) ?_
     obtain ⟨l16, h15, hm⟩ := bnd hm
     refine hp (id := 259) rfl rfl (ah_app CFGEdge Tryz.underlying28 Tryz.underlying28 rfl in102 ts102 (by rw [tb102]; decide) (by rw [tb102]; decide) tz102 Zd Zd Z1 Z3 Z6 (as_own CFGEdge Z1 Z3 Z6) rfl Z5 h15) ?_
     refine pA ?_
     refine fs ?_
     refine AWp.reg 64 (N' := 384) rfl ?_
     refine pu rfl (ap_ldv Z1 Z3 Z2) ?_
     refine pA ?_
     obtain ⟨r18, h17, hm⟩ := bnd hm
     refine ARun.callQ (r := .v (.int .i64 r18)) Zd Z1 fb192 (fun H => (cD (.agg _ (CFGEdge.dat _)) (cV .nil))) (groveOther_c h17) ?_
     refine pA ?_
     refine ARun.fin ?_
     refine normIn ?_
     refine normThen ?_
     refine ⟨_, ?_, l_1, v_3, lead_10, l16, r18, rfl, hm⟩
     exact le_canon (fun j => bif j == 1 then 259 else 0) (wV (wO (wD ((CFi .i64).sl _ _ _) (wV (wD (CFGEdge.sl _ _ _) wk_none))))) (hW (eU CFGEdge entWk_none))
   ·
    refine AWp.exit ?_
    refine exitSeq ?_
    refine exitThen ?_
    refine exitHere ?_
    refine normSeq ?_
    refine sr (N' := 192) rfl ?_
    iterate 3 refine pA ?_
    refine fs ?_
    refine AWp.ret ?_
    cases hm
    exact ret2D (.inr rfl) Tryz.results170 (tdo CFGEdge Z1 Z3 Z6) (td Z1 (.v _))
def tiersRaised_J1 (tier_1 : Int) (g_3 : GGraph) (t6 : GGraph) (e_7 : GEdge) (n_9 : Int) : Option (GGraph) :=
 ((tableSet_m n_9 g_3.Edges e_7.U e_7.V (IntKind.i64.wrap (tier_1 + 1))).bind fun ⟨r9, r10⟩ =>
 some (GGraph.mk g_3.Config g_3.Hashes r9))
def tiersRaised_m (g_0 : GGraph) (tier_1 : Int) (v_2 : Int) : Option (GGraph) :=
 ((searchTree_m g_0 tier_1 v_2).bind fun r2 =>
 ((searchTree_m g_0 (IntKind.i64.wrap (tier_1 + 1)) v_2).bind fun r4 =>
 (bif ((r2.length : Int) != (r4.length : Int)) then
  some g_0
 else
  ((searchSearch_m g_0 tier_1 v_2).bind fun ⟨r6, r7⟩ =>
  (bif (!r7) then
   some g_0
  else
   (bif (r6.Tier == 0) then
    ((tableForest_m g_0.Config.N g_0.Edges g_0.Config.L).bind fun r12 =>
    ((grovePath_m g_0.Config.N r12 r6.U r6.V).bind fun ⟨r14, r15⟩ =>
    ((groveGreatest_m r14).bind fun ⟨r17, r18⟩ =>
    (bif (r18 && (r15 == 0)) then
     ((tableSet_m g_0.Config.N g_0.Edges r17.U r17.V 0).bind fun ⟨r20, r21⟩ =>
     tiersRaised_J1 tier_1 (GGraph.mk g_0.Config g_0.Hashes r20) (GGraph.mk (GConfig.mk 0 0 0) [] []) r6 g_0.Config.N)
    else
     tiersRaised_J1 tier_1 g_0 (GGraph.mk (GConfig.mk 0 0 0) [] []) r6 g_0.Config.N))))
   else
    tiersRaised_J1 tier_1 g_0 (GGraph.mk (GConfig.mk 0 0 0) [] []) r6 g_0.Config.N))))))
theorem tiersRaised_c {g_0 : GGraph} {tier_1 : Int} {v_2 : Int} {r : GGraph} (hm : tiersRaised_m g_0 tier_1 v_2 = some r) : PureC Tryz.prog 141 [.agg [.v (.int .i64 g_0.Config.N), .v (.int .i64 g_0.Config.L), .v (.int .i64 g_0.Config.R), .sl (g_0.Hashes.flatMap cGHash) g_0.Hashes.length false, .sl (g_0.Edges.flatMap cGEdge) g_0.Edges.length false], .v (.int .i64 tier_1), .v (.int .i64 v_2)] (.agg [.v (.int .i64 r.Config.N), .v (.int .i64 r.Config.L), .v (.int .i64 r.Config.R), .sl (r.Hashes.flatMap cGHash) r.Hashes.length false, .sl (r.Edges.flatMap cGEdge) r.Edges.length false]) := by
 refine PureC.of_body Tryz.func141 rfl ?_
 simp only [Tryz.ntmps141, List.length_cons, List.length_nil, Nat.reduceAdd, Nat.reduceSub, empty_eq]
 unfold tiersRaised_m at hm
 refine sr (N' := 64) rfl ?_
 refine hp (id := 0) rfl rfl (aheap_box Z1 Z5) ?_
 refine hp (id := 1) rfl rfl (aheap_alloc' zc30 Z5) ?_
 refine fs ?_
 refine AWp.seq' ?_
 refine sd mix (by kernel_rfl) (N' := 128) rfl ?_
 refine pu rfl (ap_ldv Z1 Z3 Z2) ?_
 iterate 2 refine pA ?_
 obtain ⟨r2, h1, hm⟩ := bnd hm
 refine ARun.callQ (r := .sl (r2.flatMap (ci .i64)) r2.length false) Zd Z1 fb168 (fun H => (cD (.agg _ (CFGGraph.dat _)) (cV (cV .nil)))) (searchTree_c h1) ?_
 refine pA ?_
 refine pu rfl (ap_ldv Z1 Z3 Z2) ?_
 iterate 3 refine pA ?_
 obtain ⟨r4, h3, hm⟩ := bnd hm
 refine ARun.callQ (r := .sl (r4.flatMap (ci .i64)) r4.length false) Zd Z1 fb168 (fun H => (cD (.agg _ (CFGGraph.dat _)) (cV (cV .nil)))) (searchTree_c h3) ?_
 iterate 2 refine pA ?_
 refine fs ?_
 refine AWp.condM hm Z1 (fun _ hm => ?_) (fun _ hm => ?_)
 ·
  refine sr (N' := 192) rfl ?_
  refine pu rfl (ap_ldv Z1 Z3 Z2) ?_
  refine ARun.heap0 (id := 129) rfl (ah_var (ys := [.v (.int .i64 g_0.Config.N), .v (.int .i64 g_0.Config.L), .v (.int .i64 g_0.Config.R), .sl (g_0.Hashes.flatMap cGHash) g_0.Hashes.length false, .sl (g_0.Edges.flatMap cGEdge) g_0.Edges.length false]) sz30 Z1 Z1 Z3 rfl (Nat.le_of_ble_eq_true rfl) Z9 rfl) ?_
  refine fs ?_
  refine AWp.ret ?_
  refine retSeq ?_
  cases hm
  exact retL (.inr rfl) (by rw [Tryz.results141]) (.cell (ap_ldv' Z1 Z3 Z2) .nil) rfl (td rfl (.agg _ (CFGGraph.dat _)))
 ·
  refine AWp.skip ?_
  refine normSeq ?_
  refine sr (N' := 192) rfl ?_
  refine pu rfl (ap_ldv Z1 Z3 Z2) ?_
  iterate 2 refine pA ?_
  obtain ⟨⟨r6, r7⟩, h5, hm⟩ := bnd hm
  refine ARun.callQ (r := .tup [.agg [.v (.int .i64 r6.U), .v (.int .i64 r6.V), .v (.int .i64 r6.Tier)], .v (.bool r7)]) Zd Z1 fb169 (fun H => (cD (.agg _ (CFGGraph.dat _)) (cV (cV .nil)))) (searchSearch_c h5) ?_
  iterate 3 refine pA ?_
  refine hp (id := 135) rfl rfl (aheap_alloc' zc102 Z5) ?_
  refine ARun.heap0 (id := 136) rfl (ah_var (ys := [.v (.int .i64 r6.U), .v (.int .i64 r6.V), .v (.int .i64 r6.Tier)]) sz102 Z1 Z1 Z3 rfl (Nat.le_of_ble_eq_true rfl) Z9 rfl) ?_
  refine pA ?_
  refine fs ?_
  refine AWp.seq' ?_
  refine sr (N' := 256) rfl ?_
  iterate 2 refine pA ?_
  refine fs ?_
  refine AWp.condM hm Z1 (fun _ hm => ?_) (fun _ hm => ?_)
  ·
   refine sr (N' := 320) rfl ?_
   refine pu rfl (ap_ldv Z1 Z3 Z2) ?_
   refine ARun.heap0 (id := 257) rfl (ah_var (ys := [.v (.int .i64 g_0.Config.N), .v (.int .i64 g_0.Config.L), .v (.int .i64 g_0.Config.R), .sl (g_0.Hashes.flatMap cGHash) g_0.Hashes.length false, .sl (g_0.Edges.flatMap cGEdge) g_0.Edges.length false]) sz30 Z1 Z1 Z3 rfl (Nat.le_of_ble_eq_true rfl) Z9 rfl) ?_
   refine fs ?_
   refine AWp.ret ?_
   refine retSeq ?_
   cases hm
   exact retL (.inr rfl) (by rw [Tryz.results141]) (.cell (ap_ldv' Z1 Z3 Z2) .nil) rfl (td rfl (.agg _ (CFGGraph.dat _)))
  ·
   refine AWp.skip ?_
   refine normSeq ?_
   refine sr (N' := 320) rfl ?_
   iterate 2 refine pA ?_
   refine pu rfl (ap_ldv Z1 Z3 Z4) ?_
   refine pA ?_
   refine fs ?_
   refine AWp.seqJ (fun s => ∃ (tier_1 : Int) (g_3 : GGraph) (t6 : GGraph) (e_7 : GEdge) (n_9 : Int), s = (⟨98, (fset (fset (fset (fset (fset (fun _ => AV.any) 1 (.v (.int .i64 tier_1))) 3 (.adr 1 0)) 6 (.adr 2 0)) 7 (.adr 3 0)) 9 (.v (.int .i64 n_9))), ⟨(upd (upd (upd nofresh 1 (.cells 1 [.v (.int .i64 g_3.Config.N), .v (.int .i64 g_3.Config.L), .v (.int .i64 g_3.Config.R), .sl (g_3.Hashes.flatMap cGHash) g_3.Hashes.length false, .sl (g_3.Edges.flatMap cGEdge) g_3.Edges.length false] 0)) 2 (.cells 1 [.v (.int .i64 t6.Config.N), .v (.int .i64 t6.Config.L), .v (.int .i64 t6.Config.R), .sl (t6.Hashes.flatMap cGHash) t6.Hashes.length false, .sl (t6.Edges.flatMap cGEdge) t6.Edges.length false] 0)) 3 (.cells 1 [.v (.int .i64 e_7.U), .v (.int .i64 e_7.V), .v (.int .i64 e_7.Tier)] 0)), 64⟩⟩ : St) ∧ tiersRaised_J1 tier_1 g_3 t6 e_7 n_9 = some r) ?_ ?_
   ·
    refine sr (N' := 384) rfl ?_
    refine pA ?_
    refine pu rfl (ap_ldv Z1 Z3 Z4) ?_
    refine pA ?_
    refine fs ?_
    refine AWp.condM hm Z1 (fun _ hm => ?_) (fun _ hm => ?_)
    ·
     refine sr (N' := 448) rfl ?_
     iterate 2 refine pA ?_
     refine pu rfl (ap_ldv Z1 Z3 Z4) ?_
     iterate 2 refine pA ?_
     refine pu rfl (ap_ldv Z1 Z3 Z4) ?_
     obtain ⟨r12, h11, hm⟩ := bnd hm
     refine ARun.callQ (r := .sl (r12.flatMap cGEdge) r12.length false) Zd Z1 fb91 (fun H => (cV (cD (CFGEdge.sl _ _ _) (cV .nil)))) (tableForest_c h11) ?_
     refine pA ?_
     refine fs ?_
     refine sr (N' := 512) rfl ?_
     iterate 3 refine pA ?_
     refine pu rfl (ap_ldv Z1 Z3 Z4) ?_
     refine pA ?_
     refine pu rfl (ap_ldv Z1 Z3 Z4) ?_
     obtain ⟨⟨r14, r15⟩, h13, hm⟩ := bnd hm
     refine ARun.callQ (r := .tup [.sl (r14.flatMap cGEdge) r14.length false, .v (.int .i64 r15)]) Zd Z1 fb170 (fun H => (cV (cD (CFGEdge.sl _ _ _) (cV (cV .nil))))) (grovePath_c h13) ?_
     iterate 5 refine pA ?_
     refine fs ?_
     refine sr (N' := 576) rfl ?_
     refine pA ?_
     obtain ⟨⟨r17, r18⟩, h16, hm⟩ := bnd hm
     refine ARun.callQ (r := .tup [.agg [.v (.int .i64 r17.U), .v (.int .i64 r17.V), .v (.int .i64 r17.Tier)], .v (.bool r18)]) Zd Z1 fb171 (fun H => (cD (CFGEdge.sl _ _ _) .nil)) (groveGreatest_c h16) ?_
     iterate 3 refine pA ?_
     refine hp (id := 517) rfl rfl (aheap_alloc' zc102 Z5) ?_
     refine ARun.heap0 (id := 518) rfl (ah_var (ys := [.v (.int .i64 r17.U), .v (.int .i64 r17.V), .v (.int .i64 r17.Tier)]) sz102 Z1 Z1 Z3 rfl (Nat.le_of_ble_eq_true rfl) Z9 rfl) ?_
     refine pA ?_
     refine fs ?_
     refine sr (N' := 640) rfl ?_
     iterate 5 first | refine pA ?_ | refine pB ?_
     refine fs ?_
     refine AWp.condM hm Z1 (fun _ hm => ?_) (fun _ hm => ?_)
     ·
      refine AWp.reg 64 (N' := 704) rfl ?_
      iterate 2 refine pA ?_
      refine pu rfl (ap_ldv Z1 Z3 Z4) ?_
      refine pA ?_
      refine pu rfl (ap_ldv Z1 Z3 Z4) ?_
      refine pA ?_
      refine pu rfl (ap_ldv Z1 Z3 Z4) ?_
      obtain ⟨⟨r20, r21⟩, h19, hm⟩ := bnd hm
      refine ARun.callQ (r := .tup [.sl (r20.flatMap cGEdge) r20.length false, .v (.int .i64 r21)]) Zd Z1 fb172 (fun H => (cV (cD (CFGEdge.sl _ _ _) (cV (cV (cV .nil)))))) (tableSet_c h19) ?_
      iterate 4 refine pA ?_
      refine ARun.heap0 (id := 652) rfl (ah_var (ys := [.v (.int .i64 g_0.Config.N), .v (.int .i64 g_0.Config.L), .v (.int .i64 g_0.Config.R), .sl (g_0.Hashes.flatMap cGHash) g_0.Hashes.length false, .sl (r20.flatMap cGEdge) r20.length false]) sz28 Z1 Z1 Z3 rfl (Nat.le_of_ble_eq_true rfl) Z9 rfl) ?_
      refine ARun.fin ?_
      refine normJ ?_
      refine ⟨_, ?_, tier_1, (GGraph.mk g_0.Config g_0.Hashes r20), (GGraph.mk (GConfig.mk 0 0 0) [] []), r6, g_0.Config.N, rfl, hm⟩
      refine St.Le.trans (le_cells 1 (ys := [.v (.int .i64 (((GGraph.mk (GConfig.mk 0 0 0) [] []).Config).N)), .v (.int .i64 (((GGraph.mk (GConfig.mk 0 0 0) [] []).Config).L)), .v (.int .i64 (((GGraph.mk (GConfig.mk 0 0 0) [] []).Config).R)), .sl (((GGraph.mk (GConfig.mk 0 0 0) [] []).Hashes).flatMap cGHash) ((GGraph.mk (GConfig.mk 0 0 0) [] []).Hashes).length false, .sl (((GGraph.mk (GConfig.mk 0 0 0) [] []).Edges).flatMap cGEdge) ((GGraph.mk (GConfig.mk 0 0 0) [] []).Edges).length false]) Z3 (.cons (.data _ (.v _)) (.cons (.data _ (.v _)) (.cons (.data _ (.v _)) (.cons (.nil false) (.cons (.nil false) .nil)))))) ?_
      exact le_canon (fun j => bif j == 1 then 0 else bif j == 2 then 1 else bif j == 3 then 135 else 0) (wV (wk_fset _ _ (wk_adr Z1 rfl Z7) (wk_fset _ _ (wk_adr Z1 rfl Z7) (wk_fset _ _ (wk_adr Z1 rfl Z7) (wV wk_none))))) (heapWk_of _ (entWk_upd (entWk_data Z3 (Nat.le_refl _) (Nat.zero_le _) (CFGEdge.dat r6)) (entWk_upd (entWk_data Z3 (Nat.le_refl _) (Nat.zero_le _) (CFGGraph.dat (GGraph.mk (GConfig.mk 0 0 0) [] []))) (entWk_upd (entWk_data Z3 (Nat.le_refl _) (Nat.zero_le _) (CFGGraph.dat (GGraph.mk g_0.Config g_0.Hashes r20))) entWk_none))) Z8)
     ·
      refine AWp.skip ?_
      refine normJ ?_
      refine ⟨_, ?_, tier_1, g_0, (GGraph.mk (GConfig.mk 0 0 0) [] []), r6, g_0.Config.N, rfl, hm⟩
      refine St.Le.trans (le_cells 1 (ys := [.v (.int .i64 (((GGraph.mk (GConfig.mk 0 0 0) [] []).Config).N)), .v (.int .i64 (((GGraph.mk (GConfig.mk 0 0 0) [] []).Config).L)), .v (.int .i64 (((GGraph.mk (GConfig.mk 0 0 0) [] []).Config).R)), .sl (((GGraph.mk (GConfig.mk 0 0 0) [] []).Hashes).flatMap cGHash) ((GGraph.mk (GConfig.mk 0 0 0) [] []).Hashes).length false, .sl (((GGraph.mk (GConfig.mk 0 0 0) [] []).Edges).flatMap cGEdge) ((GGraph.mk (GConfig.mk 0 0 0) [] []).Edges).length false]) Z3 (.cons (.data _ (.v _)) (.cons (.data _ (.v _)) (.cons (.data _ (.v _)) (.cons (.nil false) (.cons (.nil false) .nil)))))) ?_
      exact le_canon (fun j => bif j == 1 then 0 else bif j == 2 then 1 else bif j == 3 then 135 else 0) (wV (wk_fset _ _ (wk_adr Z1 rfl Z7) (wk_fset _ _ (wk_adr Z1 rfl Z7) (wk_fset _ _ (wk_adr Z1 rfl Z7) (wV wk_none))))) (heapWk_of _ (entWk_upd (entWk_data Z3 (Nat.le_refl _) (Nat.zero_le _) (CFGEdge.dat r6)) (entWk_upd (entWk_data Z3 (Nat.le_refl _) (Nat.zero_le _) (CFGGraph.dat (GGraph.mk (GConfig.mk 0 0 0) [] []))) (entWk_upd (entWk_data Z3 (Nat.le_refl _) (Nat.zero_le _) (CFGGraph.dat g_0)) entWk_none))) Z8)
    ·
     refine AWp.skip ?_
     refine normJ ?_
     refine ⟨_, ?_, tier_1, g_0, (GGraph.mk (GConfig.mk 0 0 0) [] []), r6, g_0.Config.N, rfl, hm⟩
     refine St.Le.trans (le_cells 1 (ys := [.v (.int .i64 (((GGraph.mk (GConfig.mk 0 0 0) [] []).Config).N)), .v (.int .i64 (((GGraph.mk (GConfig.mk 0 0 0) [] []).Config).L)), .v (.int .i64 (((GGraph.mk (GConfig.mk 0 0 0) [] []).Config).R)), .sl (((GGraph.mk (GConfig.mk 0 0 0) [] []).Hashes).flatMap cGHash) ((GGraph.mk (GConfig.mk 0 0 0) [] []).Hashes).length false, .sl (((GGraph.mk (GConfig.mk 0 0 0) [] []).Edges).flatMap cGEdge) ((GGraph.mk (GConfig.mk 0 0 0) [] []).Edges).length false]) Z3 (.cons (.data _ (.v _)) (.cons (.data _ (.v _)) (.cons (.data _ (.v _)) (.cons (.nil false) (.cons (.nil false) .nil)))))) ?_
     exact le_canon (fun j => bif j == 1 then 0 else bif j == 2 then 1 else bif j == 3 then 135 else 0) (wV (wk_fset _ _ (wk_adr Z1 rfl Z7) (wk_fset _ _ (wk_adr Z1 rfl Z7) (wk_fset _ _ (wk_adr Z1 rfl Z7) (wV wk_none))))) (heapWk_of _ (entWk_upd (entWk_data Z3 (Nat.le_refl _) (Nat.zero_le _) (CFGEdge.dat r6)) (entWk_upd (entWk_data Z3 (Nat.le_refl _) (Nat.zero_le _) (CFGGraph.dat (GGraph.mk (GConfig.mk 0 0 0) [] []))) (entWk_upd (entWk_data Z3 (Nat.le_refl _) (Nat.zero_le _) (CFGGraph.dat g_0)) entWk_none))) Z8)
   ·
    rintro s ⟨tier_1, g_3, t6, e_7, n_9, rfl, hm⟩
    unfold tiersRaised_J1 at hm
    refine sr (N' := 128) rfl ?_
    iterate 2 refine pA ?_
    refine pu rfl (ap_ldv Z1 Z3 Z4) ?_
    refine pA ?_
    refine pu rfl (ap_ldv Z1 Z3 Z4) ?_
    refine pA ?_
    refine pu rfl (ap_ldv Z1 Z3 Z4) ?_
    iterate 2 refine pA ?_
    obtain ⟨⟨r9, r10⟩, h8, hm⟩ := bnd hm
    refine ARun.callQ (r := .tup [.sl (r9.flatMap cGEdge) r9.length false, .v (.int .i64 r10)]) Zd Z1 fb172 (fun H => (cV (cD (CFGEdge.sl _ _ _) (cV (cV (cV .nil)))))) (tableSet_c h8) ?_
    iterate 4 refine pA ?_
    refine ARun.heap0 (id := 78) rfl (ah_var (ys := [.v (.int .i64 g_3.Config.N), .v (.int .i64 g_3.Config.L), .v (.int .i64 g_3.Config.R), .sl (g_3.Hashes.flatMap cGHash) g_3.Hashes.length false, .sl (r9.flatMap cGEdge) r9.length false]) sz28 Z1 Z1 Z3 rfl (Nat.le_of_ble_eq_true rfl) Z9 rfl) ?_
    refine fs ?_
    refine sr (N' := 192) rfl ?_
    refine pu rfl (ap_ldv Z1 Z3 Z2) ?_
    refine ARun.heap0 (id := 129) rfl (ah_var (ys := [.v (.int .i64 g_3.Config.N), .v (.int .i64 g_3.Config.L), .v (.int .i64 g_3.Config.R), .sl (g_3.Hashes.flatMap cGHash) g_3.Hashes.length false, .sl (r9.flatMap cGEdge) r9.length false]) sz30 Z1 Z1 Z3 rfl (Nat.le_of_ble_eq_true rfl) Z9 rfl) ?_
    refine fs ?_
    refine AWp.ret ?_
    cases hm
    exact retL (.inr rfl) (by rw [Tryz.results141]) (.cell (ap_ldv' Z1 Z3 Z2) .nil) rfl (td rfl (.agg _ (CFGGraph.dat (GGraph.mk g_3.Config g_3.Hashes r9))))
def tiersMended_B1 (rec1 : Int → Int → GGraph → GGraph → Int → Int → Option (GGraph)) (u_1 : Int) (v_2 : Int) (g_3 : GGraph) (t6 : GGraph) (t10 : Int) (t11 : Int) : Option (GGraph) :=
 (bif (decide (t11 < t10)) then
  ((tiersRaised_m g_3 t11 u_1).bind fun r2 =>
  ((tiersRaised_m r2 t11 v_2).bind fun r4 =>
  rec1 u_1 v_2 r4 t6 t10 (IntKind.i64.wrap (t11 + 1))))
 else
  some g_3)
def tiersMended_L1 : Nat → Int → Int → GGraph → GGraph → Int → Int → Option (GGraph)
 | 0 => fun _ _ _ _ _ _ => none
 | n + 1 => tiersMended_B1 (tiersMended_L1 n)
def tiersMended_m (g_0 : GGraph) (u_1 : Int) (v_2 : Int) : Option (GGraph) :=
 tiersMended_L1 FUEL u_1 v_2 g_0 (GGraph.mk (GConfig.mk 0 0 0) [] []) g_0.Config.L 0
theorem tiersMended_c {g_0 : GGraph} {u_1 : Int} {v_2 : Int} {r : GGraph} (hm : tiersMended_m g_0 u_1 v_2 = some r) : PureC Tryz.prog 117 [.agg [.v (.int .i64 g_0.Config.N), .v (.int .i64 g_0.Config.L), .v (.int .i64 g_0.Config.R), .sl (g_0.Hashes.flatMap cGHash) g_0.Hashes.length false, .sl (g_0.Edges.flatMap cGEdge) g_0.Edges.length false], .v (.int .i64 u_1), .v (.int .i64 v_2)] (.agg [.v (.int .i64 r.Config.N), .v (.int .i64 r.Config.L), .v (.int .i64 r.Config.R), .sl (r.Hashes.flatMap cGHash) r.Hashes.length false, .sl (r.Edges.flatMap cGEdge) r.Edges.length false]) := by
 refine PureC.of_body Tryz.func117 rfl ?_
 simp only [Tryz.ntmps117, List.length_cons, List.length_nil, Nat.reduceAdd, Nat.reduceSub, empty_eq]
 unfold tiersMended_m at hm
 refine sr (N' := 64) rfl ?_
 refine hp (id := 0) rfl rfl (aheap_box Z1 Z5) ?_
 refine hp (id := 1) rfl rfl (aheap_alloc' zc30 Z5) ?_
 refine fs ?_
 refine AWp.seq' ?_
 refine sr (N' := 128) rfl ?_
 iterate 2 refine pA ?_
 refine pu rfl (ap_ldv Z1 Z3 Z4) ?_
 refine pA ?_
 refine fs ?_
 refine AWp.block ?_
 refine AWp.loopM (fun m s => ∃ (u_1 : Int) (v_2 : Int) (g_3 : GGraph) (t6 : GGraph) (t10 : Int) (t11 : Int), s = (⟨24, (fset (fset (fset (fset (fset (fset (fun _ => AV.any) 1 (.v (.int .i64 u_1))) 2 (.v (.int .i64 v_2))) 3 (.adr 1 0)) 6 (.adr 2 0)) 10 (.v (.int .i64 t10))) 11 (.v (.int .i64 t11))), ⟨(upd (upd nofresh 1 (.cells 1 [.v (.int .i64 g_3.Config.N), .v (.int .i64 g_3.Config.L), .v (.int .i64 g_3.Config.R), .sl (g_3.Hashes.flatMap cGHash) g_3.Hashes.length false, .sl (g_3.Edges.flatMap cGEdge) g_3.Edges.length false] 0)) 2 (.cells 1 [.v (.int .i64 t6.Config.N), .v (.int .i64 t6.Config.L), .v (.int .i64 t6.Config.R), .sl (t6.Hashes.flatMap cGHash) t6.Hashes.length false, .sl (t6.Edges.flatMap cGEdge) t6.Edges.length false] 0)), 64⟩⟩ : St) ∧ tiersMended_L1 m u_1 v_2 g_3 t6 t10 t11 = some r) FUEL ?_ ?_ ?_
 ·
  rintro s ⟨_, _, _, _, _, _, _, h⟩
  cases h
 ·
  refine ⟨_, ?_, u_1, v_2, g_0, (GGraph.mk (GConfig.mk 0 0 0) [] []), g_0.Config.L, 0, rfl, hm⟩
  refine St.Le.trans (le_cells 1 (ys := [.v (.int .i64 (((GGraph.mk (GConfig.mk 0 0 0) [] []).Config).N)), .v (.int .i64 (((GGraph.mk (GConfig.mk 0 0 0) [] []).Config).L)), .v (.int .i64 (((GGraph.mk (GConfig.mk 0 0 0) [] []).Config).R)), .sl (((GGraph.mk (GConfig.mk 0 0 0) [] []).Hashes).flatMap cGHash) ((GGraph.mk (GConfig.mk 0 0 0) [] []).Hashes).length false, .sl (((GGraph.mk (GConfig.mk 0 0 0) [] []).Edges).flatMap cGEdge) ((GGraph.mk (GConfig.mk 0 0 0) [] []).Edges).length false]) Z3 (.cons (.data _ (.v _)) (.cons (.data _ (.v _)) (.cons (.data _ (.v _)) (.cons (.nil false) (.cons (.nil false) .nil)))))) ?_
  exact le_canon (fun j => bif j == 1 then 0 else bif j == 2 then 1 else 0) (wV (wV (wk_fset _ _ (wk_adr Z1 rfl Z7) (wk_fset _ _ (wk_adr Z1 rfl Z7) (wV (wV wk_none)))))) (heapWk_of _ (entWk_upd (entWk_data Z3 (Nat.le_refl _) (Nat.zero_le _) (CFGGraph.dat (GGraph.mk (GConfig.mk 0 0 0) [] []))) (entWk_upd (entWk_data Z3 (Nat.le_refl _) (Nat.zero_le _) (CFGGraph.dat g_0)) entWk_none)) Z8)
 ·
  rintro n1 s ⟨u_1, v_2, g_3, t6, t10, t11, rfl, hm⟩
  replace hm : tiersMended_B1 (tiersMended_L1 n1) u_1 v_2 g_3 t6 t10 t11 = some r := hm
  unfold tiersMended_B1 at hm
  refine sr (N' := 128) rfl ?_
  refine pA ?_
  refine fs ?_
  refine AWp.seq' ?_
  refine AWp.condM hm Z1 (fun _ hm => ?_) (fun _ hm => ?_)
  ·
   refine AWp.skip ?_
   refine normSeq ?_
   refine AWp.seq' ?_
   refine AWp.block ?_
   refine sr (N' := 192) rfl ?_
   iterate 2 refine pA ?_
   refine fs ?_
   refine sr (N' := 256) rfl ?_
   refine pu rfl (ap_ldv Z1 Z3 Z2) ?_
   iterate 2 refine pA ?_
   obtain ⟨r2, h1, hm⟩ := bnd hm
   refine ARun.callQ (r := .agg [.v (.int .i64 r2.Config.N), .v (.int .i64 r2.Config.L), .v (.int .i64 r2.Config.R), .sl (r2.Hashes.flatMap cGHash) r2.Hashes.length false, .sl (r2.Edges.flatMap cGEdge) r2.Edges.length false]) Zd Z1 fb141 (fun H => (cD (.agg _ (CFGGraph.dat _)) (cV (cV .nil)))) (tiersRaised_c h1) ?_
   refine ARun.heap0 (id := 196) rfl (ah_var (ys := [.v (.int .i64 r2.Config.N), .v (.int .i64 r2.Config.L), .v (.int .i64 r2.Config.R), .sl (r2.Hashes.flatMap cGHash) r2.Hashes.length false, .sl (r2.Edges.flatMap cGEdge) r2.Edges.length false]) sz30 Z1 Z1 Z3 rfl (Nat.le_of_ble_eq_true rfl) Z9 rfl) ?_
   refine fs ?_
   refine AWp.reg 64 (N' := 320) rfl ?_
   refine pu rfl (ap_ldv Z1 Z3 Z2) ?_
   iterate 2 refine pA ?_
   obtain ⟨r4, h3, hm⟩ := bnd hm
   refine ARun.callQ (r := .agg [.v (.int .i64 r4.Config.N), .v (.int .i64 r4.Config.L), .v (.int .i64 r4.Config.R), .sl (r4.Hashes.flatMap cGHash) r4.Hashes.length false, .sl (r4.Edges.flatMap cGEdge) r4.Edges.length false]) Zd Z1 fb141 (fun H => (cD (.agg _ (CFGGraph.dat _)) (cV (cV .nil)))) (tiersRaised_c h3) ?_
   refine ARun.heap0 (id := 260) rfl (ah_var (ys := [.v (.int .i64 r4.Config.N), .v (.int .i64 r4.Config.L), .v (.int .i64 r4.Config.R), .sl (r4.Hashes.flatMap cGHash) r4.Hashes.length false, .sl (r4.Edges.flatMap cGEdge) r4.Edges.length false]) sz30 Z1 Z1 Z3 rfl (Nat.le_of_ble_eq_true rfl) Z9 rfl) ?_
   refine ARun.fin ?_
   refine normIn ?_
   refine normSeq ?_
   refine AWp.reg 64 (N' := 384) rfl ?_
   iterate 2 refine pA ?_
   refine ARun.fin ?_
   refine normThen ?_
   refine ⟨_, ?_, u_1, v_2, r4, t6, t10, (IntKind.i64.wrap (t11 + 1)), rfl, hm⟩
   exact le_canon (fun j => bif j == 1 then 1 else bif j == 2 then 2 else 0) (wV (wV (wk_fset _ _ (wk_adr Z1 rfl Z7) (wk_fset _ _ (wk_adr Z1 rfl Z7) (wV (wV wk_none)))))) (hW (entWk_upd (entWk_data Z3 (Nat.le_refl _) (Nat.zero_le _) (CFGGraph.dat t6)) (entWk_upd (entWk_data Z3 (Nat.le_refl _) (Nat.zero_le _) (CFGGraph.dat r4)) entWk_none)))
  ·
   refine AWp.exit ?_
   refine exitSeq ?_
   refine exitThen ?_
   refine exitHere ?_
   refine normSeq ?_
   refine sr (N' := 192) rfl ?_
   refine pu rfl (ap_ldv Z1 Z3 Z2) ?_
   refine ARun.heap0 (id := 129) rfl (ah_var (ys := [.v (.int .i64 g_3.Config.N), .v (.int .i64 g_3.Config.L), .v (.int .i64 g_3.Config.R), .sl (g_3.Hashes.flatMap cGHash) g_3.Hashes.length false, .sl (g_3.Edges.flatMap cGEdge) g_3.Edges.length false]) sz30 Z1 Z1 Z3 rfl (Nat.le_of_ble_eq_true rfl) Z9 rfl) ?_
   refine fs ?_
   refine AWp.ret ?_
   cases hm
   exact retL (.inr rfl) (by rw [Tryz.results117]) (.cell (ap_ldv' Z1 Z3 Z2) .nil) rfl (td rfl (.agg _ (CFGGraph.dat _)))
def tiersInsert_m (g_0 : GGraph) (u_1 : Int) (v_2 : Int) : Option (GGraph × Int) :=
 ((tiersFits_m g_0 u_1 v_2).bind fun r2 =>
 (bif (!r2) then
  some (g_0, 1)
 else
  ((tableAdd_m g_0.Config.N g_0.Edges u_1 v_2).bind fun ⟨r4, r5⟩ =>
  (bif (r5 != 0) then
   some (g_0, r5)
  else
   ((tiersMended_m (GGraph.mk g_0.Config g_0.Hashes r4) u_1 v_2).bind fun r7 =>
   some (r7, 0))))))
theorem tiersInsert_c {g_0 : GGraph} {u_1 : Int} {v_2 : Int} {r : GGraph × Int} (hm : tiersInsert_m g_0 u_1 v_2 = some r) : PureC Tryz.prog 85 [.agg [.v (.int .i64 g_0.Config.N), .v (.int .i64 g_0.Config.L), .v (.int .i64 g_0.Config.R), .sl (g_0.Hashes.flatMap cGHash) g_0.Hashes.length false, .sl (g_0.Edges.flatMap cGEdge) g_0.Edges.length false], .v (.int .i64 u_1), .v (.int .i64 v_2)] (.tup [.agg [.v (.int .i64 r.1.Config.N), .v (.int .i64 r.1.Config.L), .v (.int .i64 r.1.Config.R), .sl (r.1.Hashes.flatMap cGHash) r.1.Hashes.length false, .sl (r.1.Edges.flatMap cGEdge) r.1.Edges.length false], .v (.int .i64 r.2)]) := by
 refine PureC.of_body Tryz.func85 rfl ?_
 simp only [Tryz.ntmps85, List.length_cons, List.length_nil, Nat.reduceAdd, Nat.reduceSub, empty_eq]
 unfold tiersInsert_m at hm
 refine sr (N' := 64) rfl ?_
 refine hp (id := 0) rfl rfl (aheap_box Z1 Z5) ?_
 refine hp (id := 1) rfl rfl (aheap_alloc' zc30 Z5) ?_
 refine pA ?_
 refine fs ?_
 refine AWp.seq' ?_
 refine sr (N' := 128) rfl ?_
 refine pu rfl (ap_ldv Z1 Z3 Z2) ?_
 iterate 2 refine pA ?_
 obtain ⟨r2, h1, hm⟩ := bnd hm
 refine ARun.callQ (r := .v (.bool r2)) Zd Z1 fb115 (fun H => (cD (.agg _ (CFGGraph.dat _)) (cV (cV .nil)))) (tiersFits_c h1) ?_
 refine pA ?_
 refine fs ?_
 refine AWp.condM hm Z1 (fun _ hm => ?_) (fun _ hm => ?_)
 ·
  refine sr (N' := 192) rfl ?_
  refine pu rfl (ap_ldv Z1 Z3 Z2) ?_
  refine ARun.heap0 (id := 129) rfl (ah_var (ys := [.v (.int .i64 g_0.Config.N), .v (.int .i64 g_0.Config.L), .v (.int .i64 g_0.Config.R), .sl (g_0.Hashes.flatMap cGHash) g_0.Hashes.length false, .sl (g_0.Edges.flatMap cGEdge) g_0.Edges.length false]) sz30 Z1 Z1 Z3 rfl (Nat.le_of_ble_eq_true rfl) Z9 rfl) ?_
  refine pA ?_
  refine fs ?_
  refine AWp.ret ?_
  refine retSeq ?_
  cases hm
  exact retL (.inr rfl) (by rw [Tryz.results85]) (.cell (ap_ldv' Z1 Z3 Z2) (.tmp Z1 .nil)) rfl (tdt (.cons (td rfl (.agg _ (CFGGraph.dat _))) (.cons (td rfl (.v _)) .nil)))
 ·
  refine AWp.skip ?_
  refine normSeq ?_
  refine sr (N' := 192) rfl ?_
  iterate 2 refine pA ?_
  refine pu rfl (ap_ldv Z1 Z3 Z4) ?_
  refine pA ?_
  refine pu rfl (ap_ldv Z1 Z3 Z4) ?_
  iterate 2 refine pA ?_
  obtain ⟨⟨r4, r5⟩, h3, hm⟩ := bnd hm
  refine ARun.callQ (r := .tup [.sl (r4.flatMap cGEdge) r4.length false, .v (.int .i64 r5)]) Zd Z1 fb116 (fun H => (cV (cD (CFGEdge.sl _ _ _) (cV (cV .nil))))) (tableAdd_c h3) ?_
  iterate 5 refine pA ?_
  refine fs ?_
  refine AWp.seq' ?_
  refine sr (N' := 256) rfl ?_
  iterate 2 refine pA ?_
  refine fs ?_
  refine AWp.condM hm Z1 (fun _ hm => ?_) (fun _ hm => ?_)
  ·
   refine sr (N' := 320) rfl ?_
   refine pu rfl (ap_ldv Z1 Z3 Z2) ?_
   refine pA ?_
   refine ARun.heap0 (id := 258) rfl (ah_var (ys := [.v (.int .i64 g_0.Config.N), .v (.int .i64 g_0.Config.L), .v (.int .i64 g_0.Config.R), .sl (g_0.Hashes.flatMap cGHash) g_0.Hashes.length false, .sl (g_0.Edges.flatMap cGEdge) g_0.Edges.length false]) sz30 Z1 Z1 Z3 rfl (Nat.le_of_ble_eq_true rfl) Z9 rfl) ?_
   refine pA ?_
   refine fs ?_
   refine AWp.ret ?_
   refine retSeq ?_
   cases hm
   exact retL (.inr rfl) (by rw [Tryz.results85]) (.cell (ap_ldv' Z1 Z3 Z2) (.tmp Z1 .nil)) rfl (tdt (.cons (td rfl (.agg _ (CFGGraph.dat _))) (.cons (td rfl (.v _)) .nil)))
  ·
   refine AWp.skip ?_
   refine normSeq ?_
   refine sr (N' := 320) rfl ?_
   iterate 2 refine pA ?_
   refine ARun.heap0 (id := 258) rfl (ah_var (ys := [.v (.int .i64 g_0.Config.N), .v (.int .i64 g_0.Config.L), .v (.int .i64 g_0.Config.R), .sl (g_0.Hashes.flatMap cGHash) g_0.Hashes.length false, .sl (r4.flatMap cGEdge) r4.length false]) sz28 Z1 Z1 Z3 rfl (Nat.le_of_ble_eq_true rfl) Z9 rfl) ?_
   refine fs ?_
   refine sr (N' := 384) rfl ?_
   refine pu rfl (ap_ldv Z1 Z3 Z2) ?_
   iterate 2 refine pA ?_
   obtain ⟨r7, h6, hm⟩ := bnd hm
   refine ARun.callQ (r := .agg [.v (.int .i64 r7.Config.N), .v (.int .i64 r7.Config.L), .v (.int .i64 r7.Config.R), .sl (r7.Hashes.flatMap cGHash) r7.Hashes.length false, .sl (r7.Edges.flatMap cGEdge) r7.Edges.length false]) Zd Z1 fb117 (fun H => (.cons (td Z1 (.agg _ (CFGGraph.dat (GGraph.mk g_0.Config g_0.Hashes r4)))) (cV (cV .nil)))) (tiersMended_c h6) ?_
   refine ARun.heap0 (id := 324) rfl (ah_var (ys := [.v (.int .i64 r7.Config.N), .v (.int .i64 r7.Config.L), .v (.int .i64 r7.Config.R), .sl (r7.Hashes.flatMap cGHash) r7.Hashes.length false, .sl (r7.Edges.flatMap cGEdge) r7.Edges.length false]) sz30 Z1 Z1 Z3 rfl (Nat.le_of_ble_eq_true rfl) Z9 rfl) ?_
   refine pA ?_
   refine fs ?_
   refine AWp.ret ?_
   cases hm
   exact retL (.inr rfl) (by rw [Tryz.results85]) (.cell (ap_ldv' Z1 Z3 Z2) (.tmp Z1 .nil)) rfl (tdt (.cons (td rfl (.agg _ (CFGGraph.dat _))) (.cons (td rfl (.v _)) .nil)))
def tiersDelete_m (g_0 : GGraph) (u_1 : Int) (v_2 : Int) : Option (GGraph × Int) :=
 ((tiersFits_m g_0 u_1 v_2).bind fun r2 =>
 (bif (!r2) then
  some (g_0, 1)
 else
  ((tableRemove_m g_0.Config.N g_0.Edges u_1 v_2).bind fun ⟨r4, r5⟩ =>
  (bif (r5 != 0) then
   some (g_0, r5)
  else
   ((tiersMended_m (GGraph.mk g_0.Config g_0.Hashes r4) u_1 v_2).bind fun r7 =>
   some (r7, 0))))))
theorem tiersDelete_c {g_0 : GGraph} {u_1 : Int} {v_2 : Int} {r : GGraph × Int} (hm : tiersDelete_m g_0 u_1 v_2 = some r) : PureC Tryz.prog 86 [.agg [.v (.int .i64 g_0.Config.N), .v (.int .i64 g_0.Config.L), .v (.int .i64 g_0.Config.R), .sl (g_0.Hashes.flatMap cGHash) g_0.Hashes.length false, .sl (g_0.Edges.flatMap cGEdge) g_0.Edges.length false], .v (.int .i64 u_1), .v (.int .i64 v_2)] (.tup [.agg [.v (.int .i64 r.1.Config.N), .v (.int .i64 r.1.Config.L), .v (.int .i64 r.1.Config.R), .sl (r.1.Hashes.flatMap cGHash) r.1.Hashes.length false, .sl (r.1.Edges.flatMap cGEdge) r.1.Edges.length false], .v (.int .i64 r.2)]) := by
 refine PureC.of_body Tryz.func86 rfl ?_
 simp only [Tryz.ntmps86, List.length_cons, List.length_nil, Nat.reduceAdd, Nat.reduceSub, empty_eq]
 unfold tiersDelete_m at hm
 refine sr (N' := 64) rfl ?_
 refine hp (id := 0) rfl rfl (aheap_box Z1 Z5) ?_
 refine hp (id := 1) rfl rfl (aheap_alloc' zc30 Z5) ?_
 refine pA ?_
 refine fs ?_
 refine AWp.seq' ?_
 refine sr (N' := 128) rfl ?_
 refine pu rfl (ap_ldv Z1 Z3 Z2) ?_
 iterate 2 refine pA ?_
 obtain ⟨r2, h1, hm⟩ := bnd hm
 refine ARun.callQ (r := .v (.bool r2)) Zd Z1 fb115 (fun H => (cD (.agg _ (CFGGraph.dat _)) (cV (cV .nil)))) (tiersFits_c h1) ?_
 refine pA ?_
 refine fs ?_
 refine AWp.condM hm Z1 (fun _ hm => ?_) (fun _ hm => ?_)
 ·
  refine sr (N' := 192) rfl ?_
  refine pu rfl (ap_ldv Z1 Z3 Z2) ?_
  refine ARun.heap0 (id := 129) rfl (ah_var (ys := [.v (.int .i64 g_0.Config.N), .v (.int .i64 g_0.Config.L), .v (.int .i64 g_0.Config.R), .sl (g_0.Hashes.flatMap cGHash) g_0.Hashes.length false, .sl (g_0.Edges.flatMap cGEdge) g_0.Edges.length false]) sz30 Z1 Z1 Z3 rfl (Nat.le_of_ble_eq_true rfl) Z9 rfl) ?_
  refine pA ?_
  refine fs ?_
  refine AWp.ret ?_
  refine retSeq ?_
  cases hm
  exact retL (.inr rfl) (by rw [Tryz.results86]) (.cell (ap_ldv' Z1 Z3 Z2) (.tmp Z1 .nil)) rfl (tdt (.cons (td rfl (.agg _ (CFGGraph.dat _))) (.cons (td rfl (.v _)) .nil)))
 ·
  refine AWp.skip ?_
  refine normSeq ?_
  refine sr (N' := 192) rfl ?_
  iterate 2 refine pA ?_
  refine pu rfl (ap_ldv Z1 Z3 Z4) ?_
  refine pA ?_
  refine pu rfl (ap_ldv Z1 Z3 Z4) ?_
  iterate 2 refine pA ?_
  obtain ⟨⟨r4, r5⟩, h3, hm⟩ := bnd hm
  refine ARun.callQ (r := .tup [.sl (r4.flatMap cGEdge) r4.length false, .v (.int .i64 r5)]) Zd Z1 fb118 (fun H => (cV (cD (CFGEdge.sl _ _ _) (cV (cV .nil))))) (tableRemove_c h3) ?_
  iterate 5 refine pA ?_
  refine fs ?_
  refine AWp.seq' ?_
  refine sr (N' := 256) rfl ?_
  iterate 2 refine pA ?_
  refine fs ?_
  refine AWp.condM hm Z1 (fun _ hm => ?_) (fun _ hm => ?_)
  ·
   refine sr (N' := 320) rfl ?_
   refine pu rfl (ap_ldv Z1 Z3 Z2) ?_
   refine pA ?_
   refine ARun.heap0 (id := 258) rfl (ah_var (ys := [.v (.int .i64 g_0.Config.N), .v (.int .i64 g_0.Config.L), .v (.int .i64 g_0.Config.R), .sl (g_0.Hashes.flatMap cGHash) g_0.Hashes.length false, .sl (g_0.Edges.flatMap cGEdge) g_0.Edges.length false]) sz30 Z1 Z1 Z3 rfl (Nat.le_of_ble_eq_true rfl) Z9 rfl) ?_
   refine pA ?_
   refine fs ?_
   refine AWp.ret ?_
   refine retSeq ?_
   cases hm
   exact retL (.inr rfl) (by rw [Tryz.results86]) (.cell (ap_ldv' Z1 Z3 Z2) (.tmp Z1 .nil)) rfl (tdt (.cons (td rfl (.agg _ (CFGGraph.dat _))) (.cons (td rfl (.v _)) .nil)))
  ·
   refine AWp.skip ?_
   refine normSeq ?_
   refine sr (N' := 320) rfl ?_
   iterate 2 refine pA ?_
   refine ARun.heap0 (id := 258) rfl (ah_var (ys := [.v (.int .i64 g_0.Config.N), .v (.int .i64 g_0.Config.L), .v (.int .i64 g_0.Config.R), .sl (g_0.Hashes.flatMap cGHash) g_0.Hashes.length false, .sl (r4.flatMap cGEdge) r4.length false]) sz28 Z1 Z1 Z3 rfl (Nat.le_of_ble_eq_true rfl) Z9 rfl) ?_
   refine fs ?_
   refine sr (N' := 384) rfl ?_
   refine pu rfl (ap_ldv Z1 Z3 Z2) ?_
   iterate 2 refine pA ?_
   obtain ⟨r7, h6, hm⟩ := bnd hm
   refine ARun.callQ (r := .agg [.v (.int .i64 r7.Config.N), .v (.int .i64 r7.Config.L), .v (.int .i64 r7.Config.R), .sl (r7.Hashes.flatMap cGHash) r7.Hashes.length false, .sl (r7.Edges.flatMap cGEdge) r7.Edges.length false]) Zd Z1 fb117 (fun H => (.cons (td Z1 (.agg _ (CFGGraph.dat (GGraph.mk g_0.Config g_0.Hashes r4)))) (cV (cV .nil)))) (tiersMended_c h6) ?_
   refine ARun.heap0 (id := 324) rfl (ah_var (ys := [.v (.int .i64 r7.Config.N), .v (.int .i64 r7.Config.L), .v (.int .i64 r7.Config.R), .sl (r7.Hashes.flatMap cGHash) r7.Hashes.length false, .sl (r7.Edges.flatMap cGEdge) r7.Edges.length false]) sz30 Z1 Z1 Z3 rfl (Nat.le_of_ble_eq_true rfl) Z9 rfl) ?_
   refine pA ?_
   refine fs ?_
   refine AWp.ret ?_
   cases hm
   exact retL (.inr rfl) (by rw [Tryz.results86]) (.cell (ap_ldv' Z1 Z3 Z2) (.tmp Z1 .nil)) rfl (tdt (.cons (td rfl (.agg _ (CFGGraph.dat _))) (.cons (td rfl (.v _)) .nil)))
end Go.Proofs.YtkdohhmacfoolaaGreat
