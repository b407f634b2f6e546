/- Facts that the statement's proof is made of. No condition. -/
import Derived.Test.YtibnmlbjahcjmaaQyGC2
import Derived.Test.YtibnmlbjahcjmaaQyAmM
set_option linter.unusedVariables false
set_option linter.unusedSimpArgs false
set_option maxRecDepth 20000
set_option maxHeartbeats 4000000
namespace Go.Proofs.Ytibnmlbjahcjmaa
open Go Go.AM
theorem fo23_0GD2 (i o : Nat) : afieldAddr Try.prog 23 (.adr i o) 0 = some (.adr i (o + 0)) := by kernel_rfl
attribute [go_sem] fo23_0GD2
theorem fo23_1GD2 (i o : Nat) : afieldAddr Try.prog 23 (.adr i o) 1 = some (.adr i (o + 1)) := by kernel_rfl
attribute [go_sem] fo23_1GD2
theorem fo23_2GD2 (i o : Nat) : afieldAddr Try.prog 23 (.adr i o) 2 = some (.adr i (o + 2)) := by kernel_rfl
attribute [go_sem] fo23_2GD2
theorem fo27_0GD2 (i o : Nat) : afieldAddr Try.prog 27 (.adr i o) 0 = some (.adr i (o + 0)) := by kernel_rfl
attribute [go_sem] fo27_0GD2
theorem fo27_1GD2 (i o : Nat) : afieldAddr Try.prog 27 (.adr i o) 1 = some (.adr i (o + 3)) := by kernel_rfl
attribute [go_sem] fo27_1GD2
theorem fo53_0GD2 (i o : Nat) : afieldAddr Try.prog 53 (.adr i o) 0 = some (.adr i (o + 0)) := by kernel_rfl
attribute [go_sem] fo53_0GD2
theorem fo53_1GD2 (i o : Nat) : afieldAddr Try.prog 53 (.adr i o) 1 = some (.adr i (o + 1)) := by kernel_rfl
attribute [go_sem] fo53_1GD2
theorem ld24GD2 (H : Heap) (x : AV) (xs : List AV) : aload Try.prog H 24 (.ptr (x :: xs)) = some x := by kernel_rfl
attribute [go_sem] ld24GD2
theorem ld27GD2 (H : Heap) (x0 x1 x2 x3 x4 : AV) (xs : List AV) : aload Try.prog H 27 (.ptr (x0 :: x1 :: x2 :: x3 :: x4 :: xs)) = some (.agg [x0, x1, x2, x3, x4]) := by kernel_rfl
attribute [go_sem] ld27GD2
theorem ld3GD2 (H : Heap) (x : AV) (xs : List AV) : aload Try.prog H 3 (.ptr (x :: xs)) = some x := by kernel_rfl
attribute [go_sem] ld3GD2
theorem ld51GD2 (H : Heap) (x : AV) (xs : List AV) : aload Try.prog H 51 (.ptr (x :: xs)) = some x := by kernel_rfl
attribute [go_sem] ld51GD2
theorem ld53GD2 (H : Heap) (x0 x1 : AV) (xs : List AV) : aload Try.prog H 53 (.ptr (x0 :: x1 :: xs)) = some (.agg [x0, x1]) := by kernel_rfl
attribute [go_sem] ld53GD2
def SearchTrees_B2 (rec1 : Int → Int → List GHash → GGraph → List Int → List Int → Int → Int → Option (Bool)) (rec2 : Int → Int → List GHash → GGraph → List Int → Int → Bool → List Int → Int → Int → List Int → Int → Int → Option (Bool)) (tier_1 : Int) (v_2 : Int) (other_3 : List GHash) (g_4 : GGraph) (b_10 : List Int) (w_12 : Int) (in_13 : Bool) (t66 : List Int) (t67 : Int) (t68 : Int) (t72 : List Int) (t73 : Int) (t74 : Int) : Option (Bool) :=
 (bif (decide (t74 < t73)) then
  ((idx t72 t74).bind fun x14 =>
  rec2 tier_1 v_2 other_3 g_4 b_10 w_12 (in_13 || (x14 == w_12)) t66 t67 t68 t72 t73 (IntKind.i64.wrap (t74 + 1)))
 else
  (bif (!in_13) then
   some false
  else
   rec1 tier_1 v_2 other_3 g_4 b_10 t66 t67 (IntKind.i64.wrap (t68 + 1))))
def SearchTrees_L2 (rec1 : Int → Int → List GHash → GGraph → List Int → List Int → Int → Int → Option (Bool)) : Nat → Int → Int → List GHash → GGraph → List Int → Int → Bool → List Int → Int → Int → List Int → Int → Int → Option (Bool)
 | 0 => fun _ _ _ _ _ _ _ _ _ _ _ _ _ => none
 | n + 1 => SearchTrees_B2 rec1 (SearchTrees_L2 rec1 n)
def SearchTrees_J1 (rec3 : Int → Int → GGraph → GGraph → Int → Int → Option (Bool)) (tier_1 : Int) (v_2 : Int) (g_4 : GGraph) (h_16 : GGraph) (t99 : Int) (t100 : Int) : Option (Bool) :=
 rec3 tier_1 v_2 g_4 (GGraph.mk h_16.Config h_16.Hashes h_16.Edges) t99 (IntKind.i64.wrap (t100 + 1))
def SearchTrees_J2 (rec3 : Int → Int → GGraph → GGraph → Int → Int → Option (Bool)) (tier_1 : Int) (v_2 : Int) (g_4 : GGraph) (h_16 : GGraph) (i_17 : Int) (t99 : Int) (t100 : Int) : Option (Bool) :=
 ((idx h_16.Hashes i_17).bind fun x20 =>
 ((idx h_16.Hashes i_17).bind fun x22 =>
 ((idx h_16.Hashes i_17).bind fun x24 =>
 ((stt h_16.Hashes i_17 (GHash.mk (Int.tmod x20.A 2305843009213693951) x24.B)).bind fun l26 =>
 ((idx l26 i_17).bind fun x28 =>
 ((stt l26 i_17 (GHash.mk x28.A (Int.tmod x22.B 2305843009213693951))).bind fun l30 =>
 SearchTrees_J1 rec3 tier_1 v_2 g_4 (GGraph.mk h_16.Config l30 h_16.Edges) t99 t100))))))
def SearchTrees_B3 (rec3 : Int → Int → GGraph → GGraph → Int → Int → Option (Bool)) (tier_1 : Int) (v_2 : Int) (g_4 : GGraph) (h_16 : GGraph) (t99 : Int) (t100 : Int) : Option (Bool) :=
 (bif (decide (t100 < t99)) then
  ((chk (g_4.Config.R != 0)).bind fun _ =>
  (bif ((IntKind.i64.wrap (Int.tdiv t100 g_4.Config.R)) == tier_1) then
   ((idx g_4.Hashes t100).bind fun x33 =>
   ((idx h_16.Hashes t100).bind fun x35 =>
   ((stt h_16.Hashes t100 x33).bind fun l37 =>
   SearchTrees_J2 rec3 tier_1 v_2 g_4 (GGraph.mk h_16.Config l37 h_16.Edges) t100 t99 t100)))
  else
   SearchTrees_J2 rec3 tier_1 v_2 g_4 (GGraph.mk h_16.Config h_16.Hashes h_16.Edges) t100 t99 t100))
 else
  ((searchTree_m g_4 0 v_2).bind fun r39 =>
  ((ref06Same_m r39 [v_2]).bind fun r41 =>
  ((gopt (r41 == true) [] (searchWords_m g_4 tier_1 v_2)).bind fun r43 =>
  ((gopt (r41 == true) [] (searchWords_m (GGraph.mk h_16.Config h_16.Hashes h_16.Edges) tier_1 v_2)).bind fun r45 =>
  ((gopt (r41 == true) false (ref05Same_m r43 r45)).bind fun r47 =>
  ((gopt ((r41 && r47) == true) false (law14Awake_m )).bind fun r49 =>
  some ((r41 && r47) && r49))))))))
def SearchTrees_L3 : Nat → Int → Int → GGraph → GGraph → Int → Int → Option (Bool)
 | 0 => fun _ _ _ _ _ _ => none
 | n + 1 => SearchTrees_B3 (SearchTrees_L3 n)
def SearchTrees_B1 (rec1 : Int → Int → List GHash → GGraph → List Int → List Int → Int → Int → Option (Bool)) (tier_1 : Int) (v_2 : Int) (other_3 : List GHash) (g_4 : GGraph) (b_10 : List Int) (t66 : List Int) (t67 : Int) (t68 : Int) : Option (Bool) :=
 (bif (decide (t68 < t67)) then
  ((idx t66 t68).bind fun x12 =>
  SearchTrees_L2 rec1 FUEL tier_1 v_2 other_3 g_4 b_10 x12 false t66 t67 t68 b_10 (b_10.length : Int) 0)
 else
  ((slc other_3 0 (g_4.Hashes.length : Int)).bind fun l16 =>
  ((app [] l16).bind fun l18 =>
  SearchTrees_L3 FUEL tier_1 v_2 g_4 (GGraph.mk g_4.Config l18 g_4.Edges) (l18.length : Int) 0)))
def SearchTrees_L1 : Nat → Int → Int → List GHash → GGraph → List Int → List Int → Int → Int → Option (Bool)
 | 0 => fun _ _ _ _ _ _ _ _ => none
 | n + 1 => SearchTrees_B1 (SearchTrees_L1 n)
def SearchTrees_m (g_0 : GGraph) (tier_1 : Int) (v_2 : Int) (other_3 : List GHash) : Option (Bool) :=
 ((ref14Small_m g_0).bind fun r2 =>
 ((gopt ((!r2) == false) false (searchRight_m g_0)).bind fun r4 =>
 (bif (((((((!r2) || (!r4)) || (decide (tier_1 < 0))) || (decide (g_0.Config.L ≤ tier_1))) || (decide (v_2 < 0))) || (decide (g_0.Config.N ≤ v_2))) || (decide ((other_3.length : Int) < (g_0.Hashes.length : Int)))) then
  ((law14Awake_m ).bind fun r6 =>
  some r6)
 else
  ((searchTree_m g_0 tier_1 v_2).bind fun r8 =>
  ((searchTree_m g_0 (IntKind.i64.wrap (tier_1 + 1)) v_2).bind fun r10 =>
  SearchTrees_L1 FUEL tier_1 v_2 other_3 g_0 r10 r8 (r8.length : Int) 0)))))
theorem SearchTrees_c {g_0 : GGraph} {tier_1 : Int} {v_2 : Int} {other_3 : List GHash} {r : Bool} (hm : SearchTrees_m g_0 tier_1 v_2 other_3 = some r) : PureC Try.prog 8 [.agg [.v (.int .i64 g_0.Config.N), .v (.int .i64 g_0.Config.L), .v (.int .i64 g_0.Config.R), .sl (g_0.Hashes.flatMap cGHash) g_0.Hashes.length false, .sl (g_0.Edges.flatMap cGEdge) g_0.Edges.length false], .v (.int .i64 tier_1), .v (.int .i64 v_2), .sl (other_3.flatMap cGHash) other_3.length false] (.v (.bool r)) := by
 refine PureC.of_body Try.func8 rfl ?_
 simp only [Try.ntmps8, List.length_cons, List.length_nil, Nat.reduceAdd, Nat.reduceSub, empty_eq]
 unfold SearchTrees_m at hm
 refine sr (N' := 64) rfl ?_
 refine hp (id := 0) rfl rfl (aheap_box Z1 Z5) ?_
 refine pA ?_
 refine fs ?_
 refine AWp.seq' ?_
 refine sr (N' := 128) rfl ?_
 refine pu rfl (ap_ldv Z1 Z3 Z2) ?_
 obtain ⟨r2, h1, hm⟩ := bnd hm
 refine ARun.callQ (r := .v (.bool r2)) Zd Z1 fb25 (fun H => (cD (.agg _ (CFGGraph.dat _)) .nil)) (ref14Small_c h1) ?_
 iterate 2 refine pA ?_
 refine pg rfl rfl Z2 (fun hb => (ap_ldv (Zh hb) Z3 Z2)) ?_
 obtain ⟨r4, h3, hm⟩ := bnd hm
 refine ARun.callQG (r := .v (.bool r4)) Zd rfl Z2 Z1 fb45 (fun hb H => (.cons (td (Zh hb) (.agg _ (CFGGraph.dat _))) .nil)) (fun hb => searchRight_c (gopt_t h3 hb)) ?_
 iterate 10 first | refine pA ?_ | refine pB ?_
 refine pg rfl rfl Z2 (fun hb => (ap_ldv (Zh hb) Z3 Z4)) ?_
 iterate 10 first | refine pA ?_ | refine pB ?_
 refine pg rfl rfl Z2 (fun hb => (ap_ldv (Zh hb) Z3 Z4)) ?_
 iterate 6 first | refine pA ?_ | refine pB ?_
 refine pg rfl rfl Z2 (fun hb => (ap_ldv (Zh hb) Z3 Z4)) ?_
 iterate 3 first | refine pA ?_ | refine pB ?_
 refine fs ?_
 refine AWp.condM hm Z1 (fun _ hm => ?_) (fun _ hm => ?_)
 ·
  refine sr (N' := 192) rfl ?_
  obtain ⟨r6, h5, hm⟩ := bnd hm
  refine ARun.callQ (r := .v (.bool r6)) Zd Z1 fb40 (fun H => .nil) (law14Awake_c h5) ?_
  refine pA ?_
  refine fs ?_
  refine AWp.ret ?_
  refine retSeq ?_
  cases hm
  exact ret1D (.inr rfl) Try.results8 (td Z1 (.v _))
 ·
  refine AWp.skip ?_
  refine normSeq ?_
  refine sd mix (by kernel_rfl) (N' := 192) rfl ?_
  refine pu rfl (ap_ldv Z1 Z3 Z2) ?_
  iterate 2 refine pA ?_
  obtain ⟨r8, h7, hm⟩ := bnd hm
  refine ARun.callQ (r := .sl (r8.flatMap (ci .i64)) r8.length false) Zd Z1 fb42 (fun H => (cD (.agg _ (CFGGraph.dat _)) (cV (cV .nil)))) (searchTree_c h7) ?_
  refine pu rfl (ap_ldv Z1 Z3 Z2) ?_
  iterate 3 refine pA ?_
  obtain ⟨r10, h9, hm⟩ := bnd hm
  refine ARun.callQ (r := .sl (r10.flatMap (ci .i64)) r10.length false) Zd Z1 fb42 (fun H => (cD (.agg _ (CFGGraph.dat _)) (cV (cV .nil)))) (searchTree_c h9) ?_
  iterate 2 refine pA ?_
  refine fs ?_
  refine AWp.seq' ?_
  refine sr (N' := 256) rfl ?_
  iterate 3 refine pA ?_
  refine fs ?_
  refine AWp.block ?_
  refine AWp.loopM (fun m s => ∃ (tier_1 : Int) (v_2 : Int) (other_3 : List GHash) (g_4 : GGraph) (b_10 : List Int) (t66 : List Int) (t67 : Int) (t68 : Int), s = (⟨164, (fset (fset (fset (fset (fset (fset (fset (fset (fun _ => AV.any) 1 (.v (.int .i64 tier_1))) 2 (.v (.int .i64 v_2))) 3 (.sl (other_3.flatMap cGHash) other_3.length false)) 4 (.adr 1 0)) 10 (.sl (b_10.flatMap (ci .i64)) b_10.length false)) 66 (.sl (t66.flatMap (ci .i64)) t66.length false)) 67 (.v (.int .i64 t67))) 68 (.v (.int .i64 t68))), ⟨(upd nofresh 1 (.cells 1 [.v (.int .i64 g_4.Config.N), .v (.int .i64 g_4.Config.L), .v (.int .i64 g_4.Config.R), .sl (g_4.Hashes.flatMap cGHash) g_4.Hashes.length false, .sl (g_4.Edges.flatMap cGEdge) g_4.Edges.length false] 0)), 64⟩⟩ : St) ∧ SearchTrees_L1 m tier_1 v_2 other_3 g_4 b_10 t66 t67 t68 = some r) FUEL ?_ ?_ ?_
  ·
   rintro s ⟨_, _, _, _, _, _, _, _, _, h⟩
   cases h
  ·
   refine ⟨_, ?_, tier_1, v_2, other_3, g_0, r10, r8, (r8.length : Int), 0, rfl, hm⟩
   exact le_canon (fun j => bif j == 1 then 0 else 0) (wV (wV (wD ((CFi .i64).sl _ _ _) (wD ((CFi .i64).sl _ _ _) (wk_fset _ _ (wk_adr Z1 rfl Z7) (wD (CFGHash.sl _ _ _) (wV (wV wk_none)))))))) (hW (entWk_upd (entWk_data Z3 (Nat.le_refl _) (Nat.zero_le _) (CFGGraph.dat g_0)) entWk_none))
  ·
   rintro n1 s ⟨tier_1, v_2, other_3, g_4, b_10, t66, t67, t68, rfl, hm⟩
   replace hm : SearchTrees_B1 (SearchTrees_L1 n1) tier_1 v_2 other_3 g_4 b_10 t66 t67 t68 = some r := hm
   unfold SearchTrees_B1 at hm
   refine sr (N' := 128) rfl ?_
   refine pA ?_
   refine fs ?_
   refine AWp.seq' ?_
   refine AWp.condM hm Z1 (fun _ hm => ?_) (fun _ hm => ?_)
   ·
    refine AWp.skip ?_
    refine normSeq ?_
    refine AWp.seq' ?_
    refine AWp.block ?_
    refine sr (N' := 192) rfl ?_
    obtain ⟨x12, h11, hm⟩ := bnd hm
    refine pu rfl (ap_idx (CFi .i64) Zd Try.underlying30 sz3 Z1 rfl Z1 h11) ?_
    iterate 2 refine pA ?_
    refine fs ?_
    refine sr (N' := 256) rfl ?_
    refine pA ?_
    refine fs ?_
    refine AWp.seq' ?_
    refine sr (N' := 320) rfl ?_
    iterate 3 refine pA ?_
    refine fs ?_
    refine AWp.block ?_
    refine AWp.loopM (fun m s => ∃ (tier_1 : Int) (v_2 : Int) (other_3 : List GHash) (g_4 : GGraph) (b_10 : List Int) (w_12 : Int) (in_13 : Bool) (t66 : List Int) (t67 : Int) (t68 : Int) (t72 : List Int) (t73 : Int) (t74 : Int), s = (⟨164, (fset (fset (fset (fset (fset (fset (fset (fset (fset (fset (fset (fset (fset (fun _ => AV.any) 1 (.v (.int .i64 tier_1))) 2 (.v (.int .i64 v_2))) 3 (.sl (other_3.flatMap cGHash) other_3.length false)) 4 (.adr 1 0)) 10 (.sl (b_10.flatMap (ci .i64)) b_10.length false)) 12 (.v (.int .i64 w_12))) 13 (.v (.bool in_13))) 66 (.sl (t66.flatMap (ci .i64)) t66.length false)) 67 (.v (.int .i64 t67))) 68 (.v (.int .i64 t68))) 72 (.sl (t72.flatMap (ci .i64)) t72.length false)) 73 (.v (.int .i64 t73))) 74 (.v (.int .i64 t74))), ⟨(upd nofresh 1 (.cells 1 [.v (.int .i64 g_4.Config.N), .v (.int .i64 g_4.Config.L), .v (.int .i64 g_4.Config.R), .sl (g_4.Hashes.flatMap cGHash) g_4.Hashes.length false, .sl (g_4.Edges.flatMap cGEdge) g_4.Edges.length false] 0)), 64⟩⟩ : St) ∧ SearchTrees_L2 (SearchTrees_L1 n1) m tier_1 v_2 other_3 g_4 b_10 w_12 in_13 t66 t67 t68 t72 t73 t74 = some r) FUEL ?_ ?_ ?_
    ·
     rintro s ⟨_, _, _, _, _, _, _, _, _, _, _, _, _, _, h⟩
     cases h
    ·
     refine ⟨_, ?_, tier_1, v_2, other_3, g_4, b_10, x12, false, t66, t67, t68, b_10, (b_10.length : Int), 0, rfl, hm⟩
     exact le_canon (fun j => bif j == 1 then 1 else 0) (wV (wV (wD ((CFi .i64).sl _ _ _) (wV (wV (wD ((CFi .i64).sl _ _ _) (wV (wV (wD ((CFi .i64).sl _ _ _) (wk_fset _ _ (wk_adr Z1 rfl Z7) (wD (CFGHash.sl _ _ _) (wV (wV wk_none))))))))))))) (hW (entWk_upd (entWk_data Z3 (Nat.le_refl _) (Nat.zero_le _) (CFGGraph.dat g_4)) entWk_none))
    ·
     rintro n2 s ⟨tier_1, v_2, other_3, g_4, b_10, w_12, in_13, t66, t67, t68, t72, t73, t74, rfl, hm⟩
     replace hm : SearchTrees_B2 (SearchTrees_L1 n1) (SearchTrees_L2 (SearchTrees_L1 n1) n2) tier_1 v_2 other_3 g_4 b_10 w_12 in_13 t66 t67 t68 t72 t73 t74 = some r := hm
     unfold SearchTrees_B2 at hm
     refine sr (N' := 128) rfl ?_
     refine pA ?_
     refine fs ?_
     refine AWp.seq' ?_
     refine AWp.condM hm Z1 (fun _ hm => ?_) (fun _ hm => ?_)
     ·
      refine AWp.skip ?_
      refine normSeq ?_
      refine AWp.seq' ?_
      refine AWp.block ?_
      refine sr (N' := 192) rfl ?_
      obtain ⟨x14, h13, hm⟩ := bnd hm
      refine pu rfl (ap_idx (CFi .i64) Zd Try.underlying30 sz3 Z1 rfl Z1 h13) ?_
      iterate 2 refine pA ?_
      refine fs ?_
      refine AWp.reg 64 (N' := 256) rfl ?_
      iterate 7 first | refine pA ?_ | refine pB ?_
      refine ARun.fin ?_
      refine normIn ?_
      refine normSeq ?_
      refine AWp.reg 64 (N' := 320) rfl ?_
      iterate 2 refine pA ?_
      refine ARun.fin ?_
      refine normThen ?_
      refine ⟨_, ?_, tier_1, v_2, other_3, g_4, b_10, w_12, (in_13 || (x14 == w_12)), t66, t67, t68, t72, t73, (IntKind.i64.wrap (t74 + 1)), rfl, hm⟩
      exact le_canon (fun j => bif j == 1 then 1 else 0) (wV (wV (wD ((CFi .i64).sl _ _ _) (wV (wV (wD ((CFi .i64).sl _ _ _) (wV (wV (wD ((CFi .i64).sl _ _ _) (wk_fset _ _ (wk_adr Z1 rfl Z7) (wD (CFGHash.sl _ _ _) (wV (wV wk_none))))))))))))) (hW (entWk_upd (entWk_data Z3 (Nat.le_refl _) (Nat.zero_le _) (CFGGraph.dat g_4)) entWk_none))
     ·
      refine AWp.exit ?_
      refine exitSeq ?_
      refine exitThen ?_
      refine exitHere ?_
      refine normSeq ?_
      refine sr (N' := 192) rfl ?_
      iterate 2 refine pA ?_
      refine fs ?_
      refine AWp.condM hm Z1 (fun _ hm => ?_) (fun _ hm => ?_)
      ·
       refine sr (N' := 256) rfl ?_
       refine pA ?_
       refine fs ?_
       refine AWp.ret ?_
       refine retIn ?_
       refine retSeq ?_
       refine retThen ?_
       refine retIn ?_
       refine retSeq ?_
       cases hm
       exact ret1D (.inr rfl) Try.results8 (td Z1 (.v _))
      ·
       refine AWp.skip ?_
       refine normIn ?_
       refine normSeq ?_
       refine AWp.reg 64 (N' := 256) rfl ?_
       iterate 2 refine pA ?_
       refine ARun.fin ?_
       refine normThen ?_
       refine ⟨_, ?_, tier_1, v_2, other_3, g_4, b_10, t66, t67, (IntKind.i64.wrap (t68 + 1)), rfl, hm⟩
       exact le_canon (fun j => bif j == 1 then 1 else 0) (wV (wV (wD ((CFi .i64).sl _ _ _) (wD ((CFi .i64).sl _ _ _) (wk_fset _ _ (wk_adr Z1 rfl Z7) (wD (CFGHash.sl _ _ _) (wV (wV wk_none)))))))) (hW (entWk_upd (entWk_data Z3 (Nat.le_refl _) (Nat.zero_le _) (CFGGraph.dat g_4)) entWk_none))
   ·
    refine AWp.exit ?_
    refine exitSeq ?_
    refine exitThen ?_
    refine exitHere ?_
    refine normSeq ?_
    refine sr (N' := 192) rfl ?_
    refine pu rfl (ap_ldv Z1 Z3 Z2) ?_
    refine hp (id := 129) rfl rfl (aheap_alloc' zc27 Z5) ?_
    refine ARun.heap0 (id := 130) rfl (ah_var (ys := [.v (.int .i64 g_4.Config.N), .v (.int .i64 g_4.Config.L), .v (.int .i64 g_4.Config.R), .sl (g_4.Hashes.flatMap cGHash) g_4.Hashes.length false, .sl (g_4.Edges.flatMap cGEdge) g_4.Edges.length false]) sz27 Z1 Z1 Z3 rfl (Nat.le_of_ble_eq_true rfl) Z9 rfl) ?_
    refine fs ?_
    refine sr (N' := 256) rfl ?_
    refine hp (id := 192) rfl rfl (ah_list CFGHash (l := []) Try.underlying24 sz53 zc53 Z5 Zd Zd Zd (by simp only [go_sem, Nat.reduceBEq]; try rfl) (by kernel_rfl)) ?_
    iterate 2 refine pA ?_
    refine pu rfl (ap_ldv Z1 Z3 Z4) ?_
    refine pA ?_
    obtain ⟨l16, h15, hm⟩ := bnd hm
    refine pu rfl (ap_slc CFGHash Try.underlying24 sz53 Z1 rfl ab_none0 (ab_some Z1 (slc_0 h15).2) h15) ?_
    obtain ⟨l18, h17, hm⟩ := bnd hm
    refine hp (id := 198) rfl rfl (ah_app CFGHash Try.underlying24 Try.underlying24 rfl in53 ts53 (by rw [tb53]; decide) (by rw [tb53]; decide) tz53 Zd Zd Z1 Z3 Z6 (as_sl CFGHash Z1 rfl) rfl Z5 h17) ?_
    refine pA ?_
    refine ARun.heap0 (id := 200) rfl (ah_var (ys := [.v (.int .i64 g_4.Config.N), .v (.int .i64 g_4.Config.L), .v (.int .i64 g_4.Config.R), .own 198 0 l18.length, .sl (g_4.Edges.flatMap cGEdge) g_4.Edges.length false]) sz24 Z1 Z1 Z3 rfl (Nat.le_of_ble_eq_true rfl) Z9 rfl) ?_
    refine fs ?_
    refine AWp.seq' ?_
    refine sr (N' := 320) rfl ?_
    refine pA ?_
    refine pu rfl (ap_ldv Z1 Z3 Z4) ?_
    iterate 2 refine pA ?_
    refine fs ?_
    refine AWp.block ?_
    refine AWp.loopM (fun m s => ∃ (tier_1 : Int) (v_2 : Int) (g_4 : GGraph) (h_16 : GGraph) (t99 : Int) (t100 : Int), s = (⟨164, (fset (fset (fset (fset (fset (fset (fun _ => AV.any) 1 (.v (.int .i64 tier_1))) 2 (.v (.int .i64 v_2))) 4 (.adr 1 0)) 16 (.adr 2 0)) 99 (.v (.int .i64 t99))) 100 (.v (.int .i64 t100))), ⟨(upd (upd (upd nofresh 1 (.cells 1 [.v (.int .i64 g_4.Config.N), .v (.int .i64 g_4.Config.L), .v (.int .i64 g_4.Config.R), .sl (g_4.Hashes.flatMap cGHash) g_4.Hashes.length false, .sl (g_4.Edges.flatMap cGEdge) g_4.Edges.length false] 0)) 2 (.cells 1 [.v (.int .i64 h_16.Config.N), .v (.int .i64 h_16.Config.L), .v (.int .i64 h_16.Config.R), .own 3 0 h_16.Hashes.length, .sl (h_16.Edges.flatMap cGEdge) h_16.Edges.length false] 0)) 3 (.cells 2 (h_16.Hashes.flatMap cGHash) 0)), 64⟩⟩ : St) ∧ SearchTrees_L3 m tier_1 v_2 g_4 h_16 t99 t100 = some r) FUEL ?_ ?_ ?_
    ·
     rintro s ⟨_, _, _, _, _, _, _, h⟩
     cases h
    ·
     refine ⟨_, ?_, tier_1, v_2, g_4, (GGraph.mk g_4.Config l18 g_4.Edges), (l18.length : Int), 0, rfl, hm⟩
     exact le_canon (fun j => bif j == 1 then 1 else bif j == 2 then 129 else bif j == 3 then 198 else 0) (wV (wV (wk_fset _ _ (wk_adr Z1 rfl Z7) (wk_fset _ _ (wk_adr Z1 rfl Z7) (wV (wV wk_none)))))) (heapWk_of _ (eU CFGHash (entWk_upd (entWk_cells Z3 rfl (.cons (.data _ (.v _)) (.cons (.data _ (.v _)) (.cons (.data _ (.v _)) (.cons (wk_owna (by first | rfl | omega | (dsimp only; omega)) rfl Z7) (.cons (.data _ (CFGEdge.sl _ _ _)) .nil)))))) (entWk_upd (entWk_data Z3 (Nat.le_refl _) (Nat.zero_le _) (CFGGraph.dat g_4)) entWk_none))) Z8)
    ·
     rintro n3 s ⟨tier_1, v_2, g_4, h_16, t99, t100, rfl, hm⟩
     replace hm : SearchTrees_B3 (SearchTrees_L3 n3) tier_1 v_2 g_4 h_16 t99 t100 = some r := hm
     unfold SearchTrees_B3 at hm
     refine sr (N' := 128) rfl ?_
     refine pA ?_
     refine fs ?_
     refine AWp.seq' ?_
     refine AWp.condM hm Z1 (fun _ hm => ?_) (fun _ hm => ?_)
     ·
      refine AWp.skip ?_
      refine normSeq ?_
      refine AWp.seqJ (fun s => ∃ (tier_1 : Int) (v_2 : Int) (g_4 : GGraph) (h_16 : GGraph) (t99 : Int) (t100 : Int), s = (⟨164, (fset (fset (fset (fset (fset (fset (fun _ => AV.any) 1 (.v (.int .i64 tier_1))) 2 (.v (.int .i64 v_2))) 4 (.adr 1 0)) 16 (.adr 2 0)) 99 (.v (.int .i64 t99))) 100 (.v (.int .i64 t100))), ⟨(upd (upd (upd nofresh 1 (.cells 1 [.v (.int .i64 g_4.Config.N), .v (.int .i64 g_4.Config.L), .v (.int .i64 g_4.Config.R), .sl (g_4.Hashes.flatMap cGHash) g_4.Hashes.length false, .sl (g_4.Edges.flatMap cGEdge) g_4.Edges.length false] 0)) 2 (.cells 1 [.v (.int .i64 h_16.Config.N), .v (.int .i64 h_16.Config.L), .v (.int .i64 h_16.Config.R), .own 3 0 h_16.Hashes.length, .sl (h_16.Edges.flatMap cGEdge) h_16.Edges.length false] 0)) 3 (.cells 2 (h_16.Hashes.flatMap cGHash) 0)), 64⟩⟩ : St) ∧ SearchTrees_J1 (SearchTrees_L3 n3) tier_1 v_2 g_4 h_16 t99 t100 = some r) ?_ ?_
      ·
       refine AWp.block ?_
       refine sr (N' := 192) rfl ?_
       iterate 2 refine pA ?_
       refine fs ?_
       refine AWp.seqJ (fun s => ∃ (tier_1 : Int) (v_2 : Int) (g_4 : GGraph) (h_16 : GGraph) (i_17 : Int) (t99 : Int) (t100 : Int), s = (⟨164, (fset (fset (fset (fset (fset (fset (fset (fun _ => AV.any) 1 (.v (.int .i64 tier_1))) 2 (.v (.int .i64 v_2))) 4 (.adr 1 0)) 16 (.adr 2 0)) 17 (.v (.int .i64 i_17))) 99 (.v (.int .i64 t99))) 100 (.v (.int .i64 t100))), ⟨(upd (upd (upd nofresh 1 (.cells 1 [.v (.int .i64 g_4.Config.N), .v (.int .i64 g_4.Config.L), .v (.int .i64 g_4.Config.R), .sl (g_4.Hashes.flatMap cGHash) g_4.Hashes.length false, .sl (g_4.Edges.flatMap cGEdge) g_4.Edges.length false] 0)) 2 (.cells 1 [.v (.int .i64 h_16.Config.N), .v (.int .i64 h_16.Config.L), .v (.int .i64 h_16.Config.R), .own 3 0 h_16.Hashes.length, .sl (h_16.Edges.flatMap cGEdge) h_16.Edges.length false] 0)) 3 (.cells 2 (h_16.Hashes.flatMap cGHash) 0)), 64⟩⟩ : St) ∧ SearchTrees_J2 (SearchTrees_L3 n3) tier_1 v_2 g_4 h_16 i_17 t99 t100 = some r) ?_ ?_
       ·
        refine sr (N' := 256) rfl ?_
        iterate 3 refine pA ?_
        refine pu rfl (ap_ldv Z1 Z3 Z4) ?_
        obtain ⟨_, h31, hm⟩ := bnd hm
        refine pu rfl (ap_quo Z1 Z1 (chk_t h31)) ?_
        iterate 2 refine pA ?_
        refine fs ?_
        refine AWp.condM hm Z1 (fun _ hm => ?_) (fun _ hm => ?_)
        ·
         refine AWp.regD 64 mix (by kernel_rfl) (N' := 320) rfl ?_
         refine pA ?_
         refine pu rfl (ap_ldv Z1 Z3 Z4) ?_
         iterate 2 refine pA ?_
         refine pu rfl (ap_ldv Z1 Z3 Z4) ?_
         refine pA ?_
         obtain ⟨x33, h32, hm⟩ := bnd hm
         refine pu rfl (ap_idx CFGHash Zd Try.underlying24 sz53 Z1 rfl Z1 h32) ?_
         refine pA ?_
         obtain ⟨x35, h34, hm⟩ := bnd hm
         refine pu rfl (ap_idxo Try.underlying24 sz53 Z1 Z3 Z6 Z1 h34) ?_
         obtain ⟨l37, h36, hm⟩ := bnd hm
         have qh36 := stt_len h36
         refine ARun.heap0 (id := 265) rfl (ah_stt CFGHash sz53 Z1 Z1 Z3 rfl h36) ?_
         refine ARun.fin ?_
         refine normJ ?_
         refine ⟨_, ?_, tier_1, v_2, g_4, (GGraph.mk h_16.Config l37 h_16.Edges), t100, t99, t100, rfl, hm⟩
         exact le_canon (fun j => bif j == 1 then 1 else bif j == 2 then 2 else bif j == 3 then 3 else 0) (wV (wV (wV (wk_fset _ _ (wk_adr Z1 rfl Z7) (wk_fset _ _ (wk_adr Z1 rfl Z7) (wV (wV wk_none))))))) (heapWk_of _ (eU CFGHash (entWk_upd (entWk_cells Z3 rfl (.cons (.data _ (.v _)) (.cons (.data _ (.v _)) (.cons (.data _ (.v _)) (.cons (wk_owna (by first | rfl | omega | (dsimp only; omega)) rfl Z7) (.cons (.data _ (CFGEdge.sl _ _ _)) .nil)))))) (entWk_upd (entWk_data Z3 (Nat.le_refl _) (Nat.zero_le _) (CFGGraph.dat g_4)) entWk_none))) Z8)
        ·
         refine AWp.skip ?_
         refine normJ ?_
         refine ⟨_, ?_, tier_1, v_2, g_4, (GGraph.mk h_16.Config h_16.Hashes h_16.Edges), t100, t99, t100, rfl, hm⟩
         exact le_canon (fun j => bif j == 1 then 1 else bif j == 2 then 2 else bif j == 3 then 3 else 0) (wV (wV (wV (wk_fset _ _ (wk_adr Z1 rfl Z7) (wk_fset _ _ (wk_adr Z1 rfl Z7) (wV (wV wk_none))))))) (heapWk_of _ (eU CFGHash (entWk_upd (entWk_cells Z3 rfl (.cons (.data _ (.v _)) (.cons (.data _ (.v _)) (.cons (.data _ (.v _)) (.cons (wk_owna (by first | rfl | omega | (dsimp only; omega)) rfl Z7) (.cons (.data _ (CFGEdge.sl _ _ _)) .nil)))))) (entWk_upd (entWk_data Z3 (Nat.le_refl _) (Nat.zero_le _) (CFGGraph.dat g_4)) entWk_none))) Z8)
       ·
        rintro s ⟨tier_1, v_2, g_4, h_16, i_17, t99, t100, rfl, hm⟩
        unfold SearchTrees_J2 at hm
        refine AWp.regJ' [16] [119, 122, 125, 132] [140, 139, 120, 142, 141, 123] 2 64 mix (by kernel_rfl) (by kernel_rfl) rfl (by intro k hk; cases hk with | head => exact ⟨0, rfl⟩ | tail _ h => cases h) (by intro k hk; simp only [List.mem_cons, List.not_mem_nil, or_false] at hk; rcases hk with rfl | rfl | rfl | rfl <;> rfl) (by intro k hk; simp only [List.mem_cons, List.not_mem_nil, or_false] at hk; rcases hk with rfl | rfl | rfl | rfl | rfl | rfl <;> rfl) (N' := 128) rfl ?_
        refine pA ?_
        refine pu rfl (ap_ldv Z1 Z3 Z4) ?_
        iterate 2 refine pA ?_
        refine pu rfl (ap_ldv Z1 Z3 Z4) ?_
        iterate 2 refine pA ?_
        refine pu rfl (ap_ldv Z1 Z3 Z4) ?_
        refine pA ?_
        obtain ⟨x20, h19, hm⟩ := bnd hm
        refine pu rfl (ap_idxo Try.underlying24 sz53 Z1 Z3 Z6 Z1 h19) ?_
        refine pA ?_
        refine pu rfl (ap_ldof CFGHash (off := 0) Z1 Z3 h19 (fun _ => by simp only [go_sem, Nat.reduceBEq, Nat.reduceAdd]; try with_reducible rfl)) ?_
        iterate 2 refine pu rfl (by simp only [go_sem, Nat.reduceBEq, Int.reduceEq, Int.reduceLE]; try with_reducible rfl) ?_
        refine pu rfl (ap_ldv Z1 Z3 Z4) ?_
        refine pA ?_
        obtain ⟨x22, h21, hm⟩ := bnd hm
        refine pu rfl (ap_idxo Try.underlying24 sz53 Z1 Z3 Z6 Z1 h21) ?_
        refine pA ?_
        refine pu rfl (ap_ldof CFGHash (off := 1) Z1 Z3 h21 (fun _ => by simp only [go_sem, Nat.reduceBEq, Nat.reduceAdd]; try with_reducible rfl)) ?_
        refine pu rfl (by simp only [go_sem, Nat.reduceBEq, Int.reduceEq, Int.reduceLE]; try with_reducible rfl) ?_
        obtain ⟨x24, h23, hm⟩ := bnd hm
        refine pu rfl (ap_idxo Try.underlying24 sz53 Z1 Z3 Z6 Z1 h23) ?_
        refine pA ?_
        obtain ⟨l26, h25, hm⟩ := bnd hm
        have qh25 := stt_len h25
        refine ARun.heap0 (id := 86) rfl (ah_sttf CFGHash (off := 0) (y := x24) (y' := (GHash.mk (Int.tmod x20.A 2305843009213693951) x24.B)) (cs := [.v (.int .u64 (Int.tmod x20.A 2305843009213693951))]) sz51 Z1 Z1 Z3 rfl h23 rfl Zd Z9 rfl h25) ?_
        obtain ⟨x28, h27, hm⟩ := bnd hm
        refine pu rfl (ap_idxo Try.underlying24 sz53 Z1 Z3 Z6 Z1 h27) ?_
        refine pA ?_
        obtain ⟨l30, h29, hm⟩ := bnd hm
        have qh29 := stt_len h29
        refine ARun.heap0 (id := 89) rfl (ah_sttf CFGHash (off := 1) (y := x28) (y' := (GHash.mk x28.A (Int.tmod x22.B 2305843009213693951))) (cs := [.v (.int .u64 (Int.tmod x22.B 2305843009213693951))]) sz51 Z1 Z1 Z3 rfl h27 rfl Zd Z9 rfl h29) ?_
        refine ARun.fin ?_
        refine normIn ?_
        refine normJ ?_
        refine ⟨_, ?_, tier_1, v_2, g_4, (GGraph.mk h_16.Config l30 h_16.Edges), t99, t100, rfl, hm⟩
        exact le_canon (fun j => bif j == 1 then 1 else bif j == 2 then 2 else bif j == 3 then 3 else 0) (wV (wV (wk_fset _ _ (wk_adr Z1 rfl Z7) (wk_fset _ _ (wk_adr Z1 rfl Z7) (wV (wV wk_none)))))) (heapWk_of _ (eU CFGHash (entWk_upd (entWk_cells Z3 rfl (.cons (.data _ (.v _)) (.cons (.data _ (.v _)) (.cons (.data _ (.v _)) (.cons (wk_owna (by first | rfl | omega | (dsimp only; omega)) rfl Z7) (.cons (.data _ (CFGEdge.sl _ _ _)) .nil)))))) (entWk_upd (entWk_data Z3 (Nat.le_refl _) (Nat.zero_le _) (CFGGraph.dat g_4)) entWk_none))) Z8)
      ·
       rintro s ⟨tier_1, v_2, g_4, h_16, t99, t100, rfl, hm⟩
       unfold SearchTrees_J1 at hm
       refine AWp.reg 64 (N' := 128) rfl ?_
       iterate 2 refine pA ?_
       refine ARun.fin ?_
       refine normThen ?_
       refine ⟨_, ?_, tier_1, v_2, g_4, (GGraph.mk h_16.Config h_16.Hashes h_16.Edges), t99, (IntKind.i64.wrap (t100 + 1)), rfl, hm⟩
       exact le_canon (fun j => bif j == 1 then 1 else bif j == 2 then 2 else bif j == 3 then 3 else 0) (wV (wV (wk_fset _ _ (wk_adr Z1 rfl Z7) (wk_fset _ _ (wk_adr Z1 rfl Z7) (wV (wV wk_none)))))) (heapWk_of _ (eU CFGHash (entWk_upd (entWk_cells Z3 rfl (.cons (.data _ (.v _)) (.cons (.data _ (.v _)) (.cons (.data _ (.v _)) (.cons (wk_owna (by first | rfl | omega | (dsimp only; omega)) rfl Z7) (.cons (.data _ (CFGEdge.sl _ _ _)) .nil)))))) (entWk_upd (entWk_data Z3 (Nat.le_refl _) (Nat.zero_le _) (CFGGraph.dat g_4)) entWk_none))) Z8)
     ·
      refine AWp.exit ?_
      refine exitSeq ?_
      refine exitThen ?_
      refine exitHere ?_
      refine normSeq ?_
      refine AWp.seq' ?_
      refine AWp.weaken (le_lockE 3 Z3) ?_
      refine AWp.weaken (le_cells 2 (ys := [.v (.int .i64 h_16.Config.N), .v (.int .i64 h_16.Config.L), .v (.int .i64 h_16.Config.R), .sl (h_16.Hashes.flatMap cGHash) h_16.Hashes.length false, .sl (h_16.Edges.flatMap cGEdge) h_16.Edges.length false]) Z3 (.cons (.data _ (.v _)) (.cons (.data _ (.v _)) (.cons (.data _ (.v _)) (.cons (tdL CFGHash rfl Z3 Z6) (.cons (.data _ (CFGEdge.sl _ _ _)) .nil)))))) ?_
      refine AWp.regD 64 mix (by kernel_rfl) (N' := 192) rfl ?_
      refine pu rfl (ap_ldv Z1 Z3 Z2) ?_
      refine pA ?_
      obtain ⟨r39, h38, hm⟩ := bnd hm
      refine ARun.callQ (r := .sl (r39.flatMap (ci .i64)) r39.length false) Zd Z1 fb42 (fun H => (cD (.agg _ (CFGGraph.dat _)) (cV (cV .nil)))) (searchTree_c h38) ?_
      refine pA ?_
      refine hp (id := 132) rfl rfl (ah_list (CFi .i64) (l := [v_2]) Try.underlying30 sz3 zc3 Z5 Zd Zd Zd (by simp only [go_sem, Nat.reduceBEq]; try rfl) (by kernel_rfl)) ?_
      obtain ⟨r41, h40, hm⟩ := bnd hm
      refine ARun.callB (r := .v (.bool r41)) Zd Z1 fb34 (.cons (ltd fun H => (td Z1 ((CFi .i64).sl _ _ _))) (.cons (lto (CFi .i64) Z1 Z3 Z6) Lent.nil)) scal1 (ref06Same_c h40) ?_
      refine pA ?_
      refine pg rfl rfl Z2 (fun hb => (ap_ldv (Zh hb) Z3 Z2)) ?_
      iterate 2 refine pB ?_
      obtain ⟨r43, h42, hm⟩ := bnd hm
      refine ARun.callQG (r := .sl (r43.flatMap (ci .u64)) r43.length false) Zd rfl Z2 Z1 fb43 (fun hb H => (.cons (td (Zh hb) (.agg _ (CFGGraph.dat _))) (.cons (td (Zh hb) (.v _)) (.cons (td (Zh hb) (.v _)) .nil)))) (fun hb => searchWords_c (gopt_t h42 hb)) ?_
      refine pg rfl rfl Z2 (fun hb => (ap_ldv (Zh hb) Z3 Z2)) ?_
      iterate 2 refine pB ?_
      obtain ⟨r45, h44, hm⟩ := bnd hm
      refine ARun.callQG (r := .sl (r45.flatMap (ci .u64)) r45.length false) Zd rfl Z2 Z1 fb43 (fun hb H => (.cons (td (Zh hb) (.agg _ (CFGGraph.dat (GGraph.mk h_16.Config h_16.Hashes h_16.Edges)))) (.cons (td (Zh hb) (.v _)) (.cons (td (Zh hb) (.v _)) .nil)))) (fun hb => searchWords_c (gopt_t h44 hb)) ?_
      obtain ⟨r47, h46, hm⟩ := bnd hm
      refine ARun.callQG (r := .v (.bool r47)) Zd rfl Z2 Z1 fb50 (fun hb H => (.cons (td (Zh hb) ((CFi .u64).sl _ _ _)) (.cons (td (Zh hb) ((CFi .u64).sl _ _ _)) .nil))) (fun hb => ref05Same_c (gopt_t h46 hb)) ?_
      iterate 2 refine pA ?_
      obtain ⟨r49, h48, hm⟩ := bnd hm
      refine ARun.callQG (r := .v (.bool r49)) Zd rfl Z2 Z1 fb40 (fun hb H => .nil) (fun hb => law14Awake_c (gopt_t h48 hb)) ?_
      iterate 2 refine pA ?_
      refine fs ?_
      refine AWp.ret ?_
      cases hm
      exact ret1D (.inr rfl) Try.results8 (td Z1 (.v _))
end Go.Proofs.Ytibnmlbjahcjmaa
