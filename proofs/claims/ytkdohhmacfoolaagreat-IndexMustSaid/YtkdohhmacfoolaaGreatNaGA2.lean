/- Facts that the statement's proof is made of. No condition. -/
import Derived.Test.YtkdohhmacfoolaaGreatNaGA1
set_option linter.unusedVariables false
set_option linter.unusedSimpArgs false
set_option maxRecDepth 20000
set_option maxHeartbeats 4000000
namespace Go.Proofs.YtkdohhmacfoolaaGreat
open Go Go.AM
structure GSketchSketch where
 R : Int
 V : Int
 Words : List Int
deriving DecidableEq
def cGSketchSketch (e : GSketchSketch) : List AV := [.v (.int .i64 e.R), .v (.int .i64 e.V), .sl (e.Words.flatMap (ci .u64)) e.Words.length false]
theorem CFGSketchSketch : CF cGSketchSketch 3 := ⟨fun _ => rfl, fun a x hx => by
 simp only [cGSketchSketch, List.mem_cons, List.not_mem_nil, or_false] at hx
 rcases hx with rfl | rfl | rfl
 ·
  exact (.v _)
 ·
  exact (.v _)
 ·
  exact ((CFi .u64).sl _ _ _), fun _ => rfl⟩
theorem cGSketchSketch_app (e : GSketchSketch) (r : List AV) : cGSketchSketch e ++ r = .v (.int .i64 e.R) :: .v (.int .i64 e.V) :: .sl (e.Words.flatMap (ci .u64)) e.Words.length false :: r := rfl
attribute [go_sem] cGSketchSketch_app
theorem fo102_0GA2 (i o : Nat) : afieldAddr Tryz.prog 102 (.adr i o) 0 = some (.adr i (o + 0)) := by kernel_rfl
attribute [go_sem] fo102_0GA2
theorem fo102_1GA2 (i o : Nat) : afieldAddr Tryz.prog 102 (.adr i o) 1 = some (.adr i (o + 1)) := by kernel_rfl
attribute [go_sem] fo102_1GA2
theorem fo102_2GA2 (i o : Nat) : afieldAddr Tryz.prog 102 (.adr i o) 2 = some (.adr i (o + 2)) := by kernel_rfl
attribute [go_sem] fo102_2GA2
theorem fo120_0GA2 (i o : Nat) : afieldAddr Tryz.prog 120 (.adr i o) 0 = some (.adr i (o + 0)) := by kernel_rfl
attribute [go_sem] fo120_0GA2
theorem fo120_1GA2 (i o : Nat) : afieldAddr Tryz.prog 120 (.adr i o) 1 = some (.adr i (o + 1)) := by kernel_rfl
attribute [go_sem] fo120_1GA2
theorem fo23_0GA2 (i o : Nat) : afieldAddr Tryz.prog 23 (.adr i o) 0 = some (.adr i (o + 0)) := by kernel_rfl
attribute [go_sem] fo23_0GA2
theorem fo23_1GA2 (i o : Nat) : afieldAddr Tryz.prog 23 (.adr i o) 1 = some (.adr i (o + 1)) := by kernel_rfl
attribute [go_sem] fo23_1GA2
theorem fo23_2GA2 (i o : Nat) : afieldAddr Tryz.prog 23 (.adr i o) 2 = some (.adr i (o + 2)) := by kernel_rfl
attribute [go_sem] fo23_2GA2
theorem fo243_0GA2 (i o : Nat) : afieldAddr Tryz.prog 243 (.adr i o) 0 = some (.adr i (o + 0)) := by kernel_rfl
attribute [go_sem] fo243_0GA2
theorem fo243_1GA2 (i o : Nat) : afieldAddr Tryz.prog 243 (.adr i o) 1 = some (.adr i (o + 1)) := by kernel_rfl
attribute [go_sem] fo243_1GA2
theorem fo243_2GA2 (i o : Nat) : afieldAddr Tryz.prog 243 (.adr i o) 2 = some (.adr i (o + 2)) := by kernel_rfl
attribute [go_sem] fo243_2GA2
theorem fo30_0GA2 (i o : Nat) : afieldAddr Tryz.prog 30 (.adr i o) 0 = some (.adr i (o + 0)) := by kernel_rfl
attribute [go_sem] fo30_0GA2
theorem fo30_1GA2 (i o : Nat) : afieldAddr Tryz.prog 30 (.adr i o) 1 = some (.adr i (o + 3)) := by kernel_rfl
attribute [go_sem] fo30_1GA2
theorem fo30_2GA2 (i o : Nat) : afieldAddr Tryz.prog 30 (.adr i o) 2 = some (.adr i (o + 4)) := by kernel_rfl
attribute [go_sem] fo30_2GA2
theorem ld102GA2 (H : Heap) (x0 x1 x2 : AV) (xs : List AV) : aload Tryz.prog H 102 (.ptr (x0 :: x1 :: x2 :: xs)) = some (.agg [x0, x1, x2]) := by kernel_rfl
attribute [go_sem] ld102GA2
theorem ld120GA2 (H : Heap) (x0 x1 : AV) (xs : List AV) : aload Tryz.prog H 120 (.ptr (x0 :: x1 :: xs)) = some (.agg [x0, x1]) := by kernel_rfl
attribute [go_sem] ld120GA2
theorem ld24GA2 (H : Heap) (x : AV) (xs : List AV) : aload Tryz.prog H 24 (.ptr (x :: xs)) = some x := by kernel_rfl
attribute [go_sem] ld24GA2
theorem ld243GA2 (H : Heap) (x0 x1 x2 : AV) (xs : List AV) : aload Tryz.prog H 243 (.ptr (x0 :: x1 :: x2 :: xs)) = some (.agg [x0, x1, x2]) := by kernel_rfl
attribute [go_sem] ld243GA2
theorem ld27GA2 (H : Heap) (x : AV) (xs : List AV) : aload Tryz.prog H 27 (.ptr (x :: xs)) = some x := by kernel_rfl
attribute [go_sem] ld27GA2
theorem ld28GA2 (H : Heap) (x : AV) (xs : List AV) : aload Tryz.prog H 28 (.ptr (x :: xs)) = some x := by kernel_rfl
attribute [go_sem] ld28GA2
theorem ld3GA2 (H : Heap) (x : AV) (xs : List AV) : aload Tryz.prog H 3 (.ptr (x :: xs)) = some x := by kernel_rfl
attribute [go_sem] ld3GA2
theorem ld30GA2 (H : Heap) (x0 x1 x2 x3 x4 : AV) (xs : List AV) : aload Tryz.prog H 30 (.ptr (x0 :: x1 :: x2 :: x3 :: x4 :: xs)) = some (.agg [x0, x1, x2, x3, x4]) := by kernel_rfl
attribute [go_sem] ld30GA2
theorem ld4GA2 (H : Heap) (x : AV) (xs : List AV) : aload Tryz.prog H 4 (.ptr (x :: xs)) = some x := by kernel_rfl
attribute [go_sem] ld4GA2
theorem ld43GA2 (H : Heap) (x : AV) (xs : List AV) : aload Tryz.prog H 43 (.ptr (x :: xs)) = some x := by kernel_rfl
attribute [go_sem] ld43GA2
theorem cv3_43GA2 (H : Heap) (k : IntKind) (n : Int) : aconv Tryz.prog H 3 43 (.v (.int k n)) = some (.v (.int .u64 (IntKind.u64.wrap n))) := aconv_int Tryz.underlying3 Tryz.underlying43
attribute [go_sem] cv3_43GA2
theorem cv3_198GA2 (H : Heap) (k : IntKind) (n : Int) : aconv Tryz.prog H 3 198 (.v (.int k n)) = some (.v (.int .u64 (IntKind.u64.wrap n))) := aconv_int Tryz.underlying3 Tryz.underlying198
attribute [go_sem] cv3_198GA2
theorem cv5_3GA2 (H : Heap) (k : IntKind) (n : Int) : aconv Tryz.prog H 5 3 (.v (.int k n)) = some (.v (.int .i64 (IntKind.i64.wrap n))) := aconv_int Tryz.underlying5 Tryz.underlying3
attribute [go_sem] cv5_3GA2
theorem cv43_3GA2 (H : Heap) (k : IntKind) (n : Int) : aconv Tryz.prog H 43 3 (.v (.int k n)) = some (.v (.int .i64 (IntKind.i64.wrap n))) := aconv_int Tryz.underlying43 Tryz.underlying3
attribute [go_sem] cv43_3GA2
theorem cv214_5GA2 (H : Heap) (k : IntKind) (n : Int) : aconv Tryz.prog H 214 5 (.v (.int k n)) = some (.v (.int .u8 (IntKind.u8.wrap n))) := aconv_int Tryz.underlying214 Tryz.underlying5
attribute [go_sem] cv214_5GA2
def bitsRem64_m (hi_0 : Int) (lo_1 : Int) (y_2 : Int) : Option (Int) :=
 ((chk (y_2 != 0)).bind fun _ =>
 ((bitsDiv64_m (Int.tmod hi_0 y_2) lo_1 y_2).bind fun ⟨r3, r4⟩ =>
 some r4))
theorem bitsRem64_c {hi_0 : Int} {lo_1 : Int} {y_2 : Int} {r : Int} (hm : bitsRem64_m hi_0 lo_1 y_2 = some r) : PureC Tryz.prog 166 [.v (.int .u64 hi_0), .v (.int .u64 lo_1), .v (.int .u64 y_2)] (.v (.int .u64 r)) := by
 refine PureC.of_body Tryz.func166 rfl ?_
 simp only [Tryz.ntmps166, List.length_cons, List.length_nil, Nat.reduceAdd, Nat.reduceSub, empty_eq]
 unfold bitsRem64_m at hm
 refine sr (N' := 64) rfl ?_
 refine pA ?_
 refine fs ?_
 refine sr (N' := 128) rfl ?_
 iterate 2 refine pA ?_
 obtain ⟨_, h1, hm⟩ := bnd hm
 refine pu rfl (ap_rem Z1 Z1 (chk_t h1)) ?_
 iterate 2 refine pA ?_
 obtain ⟨⟨r3, r4⟩, h2, hm⟩ := bnd hm
 refine ARun.callQ (r := .tup [.v (.int .u64 r3), .v (.int .u64 r4)]) Zd Z1 fb183 (fun H => (cV (cV (cV .nil)))) (bitsDiv64_c h2) ?_
 iterate 5 refine pA ?_
 refine fs ?_
 refine sr (N' := 192) rfl ?_
 iterate 2 refine pA ?_
 refine fs ?_
 refine AWp.ret ?_
 cases hm
 exact ret1D (.inr rfl) Tryz.results166 (td Z1 (.v _))
def modMul_m (a_0 : Int) (b_1 : Int) : Option (Int) :=
 ((modOf_m a_0).bind fun r2 =>
 ((modOf_m b_1).bind fun r4 =>
 ((bitsMul64_m r2 r4).bind fun ⟨r6, r7⟩ =>
 ((bitsRem64_m r6 r7 2305843009213693951).bind fun r9 =>
 some r9))))
theorem modMul_c {a_0 : Int} {b_1 : Int} {r : Int} (hm : modMul_m a_0 b_1 = some r) : PureC Tryz.prog 139 [.v (.int .u64 a_0), .v (.int .u64 b_1)] (.v (.int .u64 r)) := by
 refine PureC.of_body Tryz.func139 rfl ?_
 simp only [Tryz.ntmps139, List.length_cons, List.length_nil, Nat.reduceAdd, Nat.reduceSub, empty_eq]
 unfold modMul_m at hm
 refine sr (N' := 64) rfl ?_
 refine pA ?_
 refine fs ?_
 refine sr (N' := 128) rfl ?_
 refine pA ?_
 obtain ⟨r2, h1, hm⟩ := bnd hm
 refine ARun.callQ (r := .v (.int .u64 r2)) Zd Z1 fb164 (fun H => (cV .nil)) (modOf_c h1) ?_
 refine pA ?_
 obtain ⟨r4, h3, hm⟩ := bnd hm
 refine ARun.callQ (r := .v (.int .u64 r4)) Zd Z1 fb164 (fun H => (cV .nil)) (modOf_c h3) ?_
 obtain ⟨⟨r6, r7⟩, h5, hm⟩ := bnd hm
 refine ARun.callQ (r := .tup [.v (.int .u64 r6), .v (.int .u64 r7)]) Zd Z1 fb165 (fun H => (cV (cV .nil))) (bitsMul64_c h5) ?_
 iterate 5 refine pA ?_
 refine fs ?_
 refine sr (N' := 192) rfl ?_
 iterate 2 refine pA ?_
 obtain ⟨r9, h8, hm⟩ := bnd hm
 refine ARun.callQ (r := .v (.int .u64 r9)) Zd Z1 fb166 (fun H => (cV (cV (cV .nil)))) (bitsRem64_c h8) ?_
 refine pA ?_
 refine fs ?_
 refine AWp.ret ?_
 cases hm
 exact ret1D (.inr rfl) Tryz.results139 (td Z1 (.v _))
def groveTree_m (n_0 : Int) (l_1 : List GEdge) (v_2 : Int) : Option ((List Int)) :=
 ((groveRight_m n_0 l_1).bind fun r2 =>
 (bif (!r2) then
  some []
 else
  ((partOf_m n_0 l_1).bind fun ⟨r4, r5⟩ =>
  ((partClass_m r4 v_2).bind fun r7 =>
  some r7))))
theorem groveTree_c {n_0 : Int} {l_1 : List GEdge} {v_2 : Int} {r : (List Int)} (hm : groveTree_m n_0 l_1 v_2 = some r) : PureC Tryz.prog 197 [.v (.int .i64 n_0), .sl (l_1.flatMap cGEdge) l_1.length false, .v (.int .i64 v_2)] (.sl (r.flatMap (ci .i64)) r.length false) := by
 refine PureC.of_body Tryz.func197 rfl ?_
 simp only [Tryz.ntmps197, List.length_cons, List.length_nil, Nat.reduceAdd, Nat.reduceSub, empty_eq]
 unfold groveTree_m at hm
 refine sr (N' := 64) rfl ?_
 refine pA ?_
 refine fs ?_
 refine AWp.seq' ?_
 refine sr (N' := 128) rfl ?_
 iterate 2 refine pA ?_
 obtain ⟨r2, h1, hm⟩ := bnd hm
 refine ARun.callQ (r := .v (.bool r2)) Zd Z1 fb90 (fun H => (cV (cD (CFGEdge.sl _ _ _) .nil))) (groveRight_c h1) ?_
 refine pA ?_
 refine fs ?_
 refine AWp.condM hm Z1 (fun _ hm => ?_) (fun _ hm => ?_)
 ·
  refine sr (N' := 192) rfl ?_
  refine pA ?_
  refine fs ?_
  refine AWp.ret ?_
  refine retSeq ?_
  cases hm
  exact ret1D (.inr rfl) Tryz.results197 (tdn Z1)
 ·
  refine AWp.skip ?_
  refine normSeq ?_
  refine sr (N' := 192) rfl ?_
  iterate 2 refine pA ?_
  obtain ⟨⟨r4, r5⟩, h3, hm⟩ := bnd hm
  refine ARun.callQ (r := .tup [.sl (r4.flatMap (ci .i64)) r4.length false, .v (.int .i64 r5)]) Zd Z1 fb99 (fun H => (cV (cD (CFGEdge.sl _ _ _) .nil))) (partOf_c h3) ?_
  iterate 5 refine pA ?_
  refine fs ?_
  refine sr (N' := 256) rfl ?_
  iterate 2 refine pA ?_
  obtain ⟨r7, h6, hm⟩ := bnd hm
  refine ARun.callQ (r := .sl (r7.flatMap (ci .i64)) r7.length false) Zd Z1 fb78 (fun H => (cD ((CFi .i64).sl _ _ _) (cV .nil))) (partClass_c h6) ?_
  refine pA ?_
  refine fs ?_
  refine AWp.ret ?_
  cases hm
  exact ret1D (.inr rfl) Tryz.results197 (td Z1 ((CFi .i64).sl _ _ _))
def searchTree0_m (g_0 : GGraph) (tier_1 : Int) (v_2 : Int) : Option ((List Int)) :=
 ((tableForest_m g_0.Config.N g_0.Edges tier_1).bind fun r2 =>
 ((groveTree_m g_0.Config.N r2 v_2).bind fun r4 =>
 some r4))
theorem searchTree0_c {g_0 : GGraph} {tier_1 : Int} {v_2 : Int} {r : (List Int)} (hm : searchTree0_m g_0 tier_1 v_2 = some r) : PureC Tryz.prog 184 [.agg [.v (.int .i64 g_0.Config.N), .v (.int .i64 g_0.Config.L), .v (.int .i64 g_0.Config.R), .sl (g_0.Hashes.flatMap cGHash) g_0.Hashes.length false, .sl (g_0.Edges.flatMap cGEdge) g_0.Edges.length false], .v (.int .i64 tier_1), .v (.int .i64 v_2)] (.sl (r.flatMap (ci .i64)) r.length false) := by
 refine PureC.of_body Tryz.func184 rfl ?_
 simp only [Tryz.ntmps184, List.length_cons, List.length_nil, Nat.reduceAdd, Nat.reduceSub, empty_eq]
 unfold searchTree0_m at hm
 refine sr (N' := 64) rfl ?_
 refine hp (id := 0) rfl rfl (aheap_box Z1 Z5) ?_
 refine pA ?_
 refine fs ?_
 refine sr (N' := 128) rfl ?_
 iterate 2 refine pA ?_
 refine pu rfl (ap_ldv Z1 Z3 Z4) ?_
 refine pA ?_
 refine fs ?_
 refine sr (N' := 192) rfl ?_
 iterate 3 refine pA ?_
 refine pu rfl (ap_ldv Z1 Z3 Z4) ?_
 refine pA ?_
 obtain ⟨r2, h1, hm⟩ := bnd hm
 refine ARun.callQ (r := .sl (r2.flatMap cGEdge) r2.length false) Zd Z1 fb91 (fun H => (cV (cD (CFGEdge.sl _ _ _) (cV .nil)))) (tableForest_c h1) ?_
 refine pA ?_
 obtain ⟨r4, h3, hm⟩ := bnd hm
 refine ARun.callQ (r := .sl (r4.flatMap (ci .i64)) r4.length false) Zd Z1 fb197 (fun H => (cV (cD (CFGEdge.sl _ _ _) (cV .nil)))) (groveTree_c h3) ?_
 refine pA ?_
 refine fs ?_
 refine AWp.ret ?_
 cases hm
 exact ret1D (.inr rfl) Tryz.results184 (td Z1 ((CFi .i64).sl _ _ _))
def searchTree_m (g_0 : GGraph) (tier_1 : Int) (v_2 : Int) : Option ((List Int)) :=
 ((searchRight_m g_0).bind fun r2 =>
 (bif (((((!r2) || (decide (tier_1 < 0))) || (decide (g_0.Config.L < tier_1))) || (decide (v_2 < 0))) || (decide (g_0.Config.N ≤ v_2))) then
  some []
 else
  ((searchTree0_m g_0 tier_1 v_2).bind fun r4 =>
  some r4)))
theorem searchTree_c {g_0 : GGraph} {tier_1 : Int} {v_2 : Int} {r : (List Int)} (hm : searchTree_m g_0 tier_1 v_2 = some r) : PureC Tryz.prog 168 [.agg [.v (.int .i64 g_0.Config.N), .v (.int .i64 g_0.Config.L), .v (.int .i64 g_0.Config.R), .sl (g_0.Hashes.flatMap cGHash) g_0.Hashes.length false, .sl (g_0.Edges.flatMap cGEdge) g_0.Edges.length false], .v (.int .i64 tier_1), .v (.int .i64 v_2)] (.sl (r.flatMap (ci .i64)) r.length false) := by
 refine PureC.of_body Tryz.func168 rfl ?_
 simp only [Tryz.ntmps168, List.length_cons, List.length_nil, Nat.reduceAdd, Nat.reduceSub, empty_eq]
 unfold searchTree_m at hm
 refine sr (N' := 64) rfl ?_
 refine hp (id := 0) rfl rfl (aheap_box Z1 Z5) ?_
 refine pA ?_
 refine fs ?_
 refine AWp.seq' ?_
 refine sr (N' := 128) rfl ?_
 refine pu rfl (ap_ldv Z1 Z3 Z2) ?_
 obtain ⟨r2, h1, hm⟩ := bnd hm
 refine ARun.callQ (r := .v (.bool r2)) Zd Z1 fb49 (fun H => (cD (.agg _ (CFGGraph.dat _)) .nil)) (searchRight_c h1) ?_
 iterate 9 first | refine pA ?_ | refine pB ?_
 refine pg rfl rfl Z2 (fun hb => (ap_ldv (Zh hb) Z3 Z4)) ?_
 iterate 10 first | refine pA ?_ | refine pB ?_
 refine pg rfl rfl Z2 (fun hb => (ap_ldv (Zh hb) Z3 Z4)) ?_
 iterate 2 first | refine pA ?_ | refine pB ?_
 refine fs ?_
 refine AWp.condM hm Z1 (fun _ hm => ?_) (fun _ hm => ?_)
 ·
  refine sr (N' := 192) rfl ?_
  refine pA ?_
  refine fs ?_
  refine AWp.ret ?_
  refine retSeq ?_
  cases hm
  exact ret1D (.inr rfl) Tryz.results168 (tdn Z1)
 ·
  refine AWp.skip ?_
  refine normSeq ?_
  refine sr (N' := 192) rfl ?_
  refine pu rfl (ap_ldv Z1 Z3 Z2) ?_
  iterate 2 refine pA ?_
  obtain ⟨r4, h3, hm⟩ := bnd hm
  refine ARun.callQ (r := .sl (r4.flatMap (ci .i64)) r4.length false) Zd Z1 fb184 (fun H => (cD (.agg _ (CFGGraph.dat _)) (cV (cV .nil)))) (searchTree0_c h3) ?_
  refine pA ?_
  refine fs ?_
  refine AWp.ret ?_
  cases hm
  exact ret1D (.inr rfl) Tryz.results168 (td Z1 ((CFi .i64).sl _ _ _))
def searchHasSketch_m (g_0 : GGraph) (tier_1 : Int) (v_2 : Int) : Option (Bool) :=
 ((searchRight_m g_0).bind fun r2 =>
 some ((((r2 && (decide (0 ≤ tier_1))) && (decide (tier_1 < g_0.Config.L))) && (decide (0 ≤ v_2))) && (decide (v_2 < g_0.Config.N))))
theorem searchHasSketch_c {g_0 : GGraph} {tier_1 : Int} {v_2 : Int} {r : Bool} (hm : searchHasSketch_m g_0 tier_1 v_2 = some r) : PureC Tryz.prog 185 [.agg [.v (.int .i64 g_0.Config.N), .v (.int .i64 g_0.Config.L), .v (.int .i64 g_0.Config.R), .sl (g_0.Hashes.flatMap cGHash) g_0.Hashes.length false, .sl (g_0.Edges.flatMap cGEdge) g_0.Edges.length false], .v (.int .i64 tier_1), .v (.int .i64 v_2)] (.v (.bool r)) := by
 refine PureC.of_body Tryz.func185 rfl ?_
 simp only [Tryz.ntmps185, List.length_cons, List.length_nil, Nat.reduceAdd, Nat.reduceSub, empty_eq]
 unfold searchHasSketch_m at hm
 refine sr (N' := 64) rfl ?_
 refine hp (id := 0) rfl rfl (aheap_box Z1 Z5) ?_
 refine pA ?_
 refine fs ?_
 refine sr (N' := 128) rfl ?_
 refine pu rfl (ap_ldv Z1 Z3 Z2) ?_
 obtain ⟨r2, h1, hm⟩ := bnd hm
 refine ARun.callQ (r := .v (.bool r2)) Zd Z1 fb49 (fun H => (cD (.agg _ (CFGGraph.dat _)) .nil)) (searchRight_c h1) ?_
 iterate 8 first | refine pA ?_ | refine pB ?_
 refine pg rfl rfl Z2 (fun hb => (ap_ldv (Zh hb) Z3 Z4)) ?_
 iterate 10 first | refine pA ?_ | refine pB ?_
 refine pg rfl rfl Z2 (fun hb => (ap_ldv (Zh hb) Z3 Z4)) ?_
 iterate 3 first | refine pA ?_ | refine pB ?_
 refine fs ?_
 refine AWp.ret ?_
 cases hm
 exact ret1D (.inr rfl) Tryz.results185 (td Z1 (.v _))
def cutFits_B1 (rec1 : Int → List Int → Int → Int → Option (Bool)) (n_0 : Int) (t13 : List Int) (t14 : Int) (t15 : Int) : Option (Bool) :=
 (bif (decide (t15 < t14)) then
  ((idx t13 t15).bind fun x4 =>
  (bif ((decide (x4 < 0)) || (decide (n_0 ≤ x4))) then
   some false
  else
   rec1 n_0 t13 t14 (IntKind.i64.wrap (t15 + 1))))
 else
  some true)
def cutFits_L1 : Nat → Int → List Int → Int → Int → Option (Bool)
 | 0 => fun _ _ _ _ => none
 | n + 1 => cutFits_B1 (cutFits_L1 n)
def cutFits_m (n_0 : Int) (l_1 : List GEdge) (set_2 : List Int) : Option (Bool) :=
 ((tableRight_m n_0 l_1).bind fun r2 =>
 (bif (!r2) then
  some false
 else
  cutFits_L1 FUEL n_0 set_2 (set_2.length : Int) 0))
theorem cutFits_c {n_0 : Int} {l_1 : List GEdge} {set_2 : List Int} {r : Bool} (hm : cutFits_m n_0 l_1 set_2 = some r) : PureC Tryz.prog 205 [.v (.int .i64 n_0), .sl (l_1.flatMap cGEdge) l_1.length false, .sl (set_2.flatMap (ci .i64)) set_2.length false] (.v (.bool r)) := by
 refine PureC.of_body Tryz.func205 rfl ?_
 simp only [Tryz.ntmps205, List.length_cons, List.length_nil, Nat.reduceAdd, Nat.reduceSub, empty_eq]
 unfold cutFits_m at hm
 refine sr (N' := 64) rfl ?_
 refine pA ?_
 refine fs ?_
 refine AWp.seq' ?_
 refine sr (N' := 128) rfl ?_
 iterate 2 refine pA ?_
 obtain ⟨r2, h1, hm⟩ := bnd hm
 refine ARun.callQ (r := .v (.bool r2)) Zd Z1 fb89 (fun H => (cV (cD (CFGEdge.sl _ _ _) .nil))) (tableRight_c h1) ?_
 refine pA ?_
 refine fs ?_
 refine AWp.condM hm Z1 (fun _ hm => ?_) (fun _ hm => ?_)
 ·
  refine sr (N' := 192) rfl ?_
  refine pA ?_
  refine fs ?_
  refine AWp.ret ?_
  refine retSeq ?_
  cases hm
  exact ret1D (.inr rfl) Tryz.results205 (td Z1 (.v _))
 ·
  refine AWp.skip ?_
  refine normSeq ?_
  refine AWp.seq' ?_
  refine sr (N' := 192) rfl ?_
  iterate 3 refine pA ?_
  refine fs ?_
  refine AWp.block ?_
  refine AWp.loopM (fun m s => ∃ (n_0 : Int) (t13 : List Int) (t14 : Int) (t15 : Int), s = (⟨27, (fset (fset (fset (fset (fun _ => AV.any) 0 (.v (.int .i64 n_0))) 13 (.sl (t13.flatMap (ci .i64)) t13.length false)) 14 (.v (.int .i64 t14))) 15 (.v (.int .i64 t15))), ⟨nofresh, 64⟩⟩ : St) ∧ cutFits_L1 m n_0 t13 t14 t15 = some r) FUEL ?_ ?_ ?_
  ·
   rintro s ⟨_, _, _, _, _, h⟩
   cases h
  ·
   refine ⟨_, ?_, n_0, set_2, (set_2.length : Int), 0, rfl, hm⟩
   exact le_canon id (wV (wV (wD ((CFi .i64).sl _ _ _) (wV wk_none)))) heapWk0
  ·
   rintro n1 s ⟨n_0, t13, t14, t15, rfl, hm⟩
   replace hm : cutFits_B1 (cutFits_L1 n1) n_0 t13 t14 t15 = some r := hm
   unfold cutFits_B1 at hm
   refine sr (N' := 128) rfl ?_
   refine pA ?_
   refine fs ?_
   refine AWp.seq' ?_
   refine AWp.condM hm Z1 (fun _ hm => ?_) (fun _ hm => ?_)
   ·
    refine AWp.skip ?_
    refine normSeq ?_
    refine AWp.seq' ?_
    refine AWp.block ?_
    refine sr (N' := 192) rfl ?_
    obtain ⟨x4, h3, hm⟩ := bnd hm
    refine pu rfl (ap_idx (CFi .i64) Zd Tryz.underlying112 sz3 Z1 rfl Z1 h3) ?_
    iterate 2 refine pA ?_
    refine fs ?_
    refine sr (N' := 256) rfl ?_
    iterate 7 first | refine pA ?_ | refine pB ?_
    refine fs ?_
    refine AWp.condM hm Z1 (fun _ hm => ?_) (fun _ hm => ?_)
    ·
     refine sr (N' := 320) rfl ?_
     refine pA ?_
     refine fs ?_
     refine AWp.ret ?_
     refine retIn ?_
     refine retSeq ?_
     refine retThen ?_
     refine retIn ?_
     refine retSeq ?_
     cases hm
     exact ret1D (.inr rfl) Tryz.results205 (td Z1 (.v _))
    ·
     refine AWp.skip ?_
     refine normIn ?_
     refine normSeq ?_
     refine AWp.reg 64 (N' := 320) rfl ?_
     iterate 2 refine pA ?_
     refine ARun.fin ?_
     refine normThen ?_
     refine ⟨_, ?_, n_0, t13, t14, (IntKind.i64.wrap (t15 + 1)), rfl, hm⟩
     exact le_canon id (wV (wV (wD ((CFi .i64).sl _ _ _) (wV wk_none)))) heapWk0
   ·
    refine AWp.exit ?_
    refine exitSeq ?_
    refine exitThen ?_
    refine exitHere ?_
    refine normSeq ?_
    refine sr (N' := 192) rfl ?_
    refine pA ?_
    refine fs ?_
    refine AWp.ret ?_
    cases hm
    exact ret1D (.inr rfl) Tryz.results205 (td Z1 (.v _))
def cutUnlike_J1 (rec1 : List Bool → List GEdge → List GEdge → Int → Int → Option ((List GEdge))) (mark_1 : List Bool) (out_5 : List GEdge) (t8 : List GEdge) (t9 : Int) (t10 : Int) : Option ((List GEdge)) :=
 rec1 mark_1 out_5 t8 t9 (IntKind.i64.wrap (t10 + 1))
def cutUnlike_B1 (rec1 : List Bool → List GEdge → List GEdge → Int → Int → Option ((List GEdge))) (mark_1 : List Bool) (out_5 : List GEdge) (t8 : List GEdge) (t9 : Int) (t10 : Int) : Option ((List GEdge)) :=
 (bif (decide (t10 < t9)) then
  ((idx t8 t10).bind fun x2 =>
  ((idx mark_1 x2.U).bind fun x4 =>
  ((idx mark_1 x2.V).bind fun x6 =>
  (bif (!(x4 == x6)) then
   ((app out_5 [x2]).bind fun l8 =>
   cutUnlike_J1 rec1 mark_1 l8 t8 t9 t10)
  else
   cutUnlike_J1 rec1 mark_1 out_5 t8 t9 t10))))
 else
  some out_5)
def cutUnlike_L1 : Nat → List Bool → List GEdge → List GEdge → Int → Int → Option ((List GEdge))
 | 0 => fun _ _ _ _ _ => none
 | n + 1 => cutUnlike_B1 (cutUnlike_L1 n)
def cutUnlike_m (l_0 : List GEdge) (mark_1 : List Bool) : Option ((List GEdge)) :=
 cutUnlike_L1 FUEL mark_1 [] l_0 (l_0.length : Int) 0
theorem cutUnlike_c {l_0 : List GEdge} {mark_1 : List Bool} {r : (List GEdge)} (hm : cutUnlike_m l_0 mark_1 = some r) : PureC Tryz.prog 206 [.sl (l_0.flatMap cGEdge) l_0.length false, .sl (mark_1.flatMap cbool) mark_1.length false] (.sl (r.flatMap cGEdge) r.length false) := by
 refine PureC.of_body Tryz.func206 rfl ?_
 simp only [Tryz.ntmps206, List.length_cons, List.length_nil, Nat.reduceAdd, Nat.reduceSub, empty_eq]
 unfold cutUnlike_m at hm
 refine sr (N' := 64) rfl ?_
 refine pA ?_
 refine fs ?_
 refine sr (N' := 128) rfl ?_
 refine pA ?_
 refine fs ?_
 refine AWp.seq' ?_
 refine sr (N' := 192) rfl ?_
 iterate 3 refine pA ?_
 refine fs ?_
 refine AWp.block ?_
 refine AWp.loopM (fun m s => ∃ (mark_1 : List Bool) (out_5 : List GEdge) (t8 : List GEdge) (t9 : Int) (t10 : Int), s = (⟨31, (fset (fset (fset (fset (fset (fun _ => AV.any) 1 (.sl (mark_1.flatMap cbool) mark_1.length false)) 5 (.own 1 0 out_5.length)) 8 (.sl (t8.flatMap cGEdge) t8.length false)) 9 (.v (.int .i64 t9))) 10 (.v (.int .i64 t10))), ⟨(upd nofresh 1 (.cells 3 (out_5.flatMap cGEdge) 0)), 64⟩⟩ : St) ∧ cutUnlike_L1 m mark_1 out_5 t8 t9 t10 = some r) FUEL ?_ ?_ ?_
 ·
  rintro s ⟨_, _, _, _, _, _, h⟩
  cases h
 ·
  refine ⟨_, ?_, mark_1, [], l_0, (l_0.length : Int), 0, rfl, hm⟩
  refine St.Le.trans (le_nil 5 900005 3 Z1 Z5) ?_
  exact le_canon (fun j => bif j == 1 then 900005 else 0) (wV (wV (wD (CFGEdge.sl _ _ _) (wO (wD (CFb.sl _ _ _) wk_none))))) (hW (eU CFGEdge entWk_none))
 ·
  rintro n1 s ⟨mark_1, out_5, t8, t9, t10, rfl, hm⟩
  replace hm : cutUnlike_B1 (cutUnlike_L1 n1) mark_1 out_5 t8 t9 t10 = some r := hm
  unfold cutUnlike_B1 at hm
  refine sr (N' := 128) rfl ?_
  refine pA ?_
  refine fs ?_
  refine AWp.seq' ?_
  refine AWp.condM hm Z1 (fun _ hm => ?_) (fun _ hm => ?_)
  ·
   refine AWp.skip ?_
   refine normSeq ?_
   refine AWp.seqJ (fun s => ∃ (mark_1 : List Bool) (out_5 : List GEdge) (t8 : List GEdge) (t9 : Int) (t10 : Int), s = (⟨31, (fset (fset (fset (fset (fset (fun _ => AV.any) 1 (.sl (mark_1.flatMap cbool) mark_1.length false)) 5 (.own 1 0 out_5.length)) 8 (.sl (t8.flatMap cGEdge) t8.length false)) 9 (.v (.int .i64 t9))) 10 (.v (.int .i64 t10))), ⟨(upd nofresh 1 (.cells 3 (out_5.flatMap cGEdge) 0)), 64⟩⟩ : St) ∧ cutUnlike_J1 (cutUnlike_L1 n1) mark_1 out_5 t8 t9 t10 = some r) ?_ ?_
   ·
    refine AWp.block ?_
    refine sr (N' := 192) rfl ?_
    obtain ⟨x2, h1, hm⟩ := bnd hm
    refine pu rfl (ap_idx CFGEdge Zd Tryz.underlying28 sz102 Z1 rfl Z1 h1) ?_
    refine pA ?_
    refine hp (id := 130) rfl rfl (aheap_alloc' zc102 Z5) ?_
    refine ARun.heap0 (id := 131) rfl (ah_var (ys := [.v (.int .i64 x2.U), .v (.int .i64 x2.V), .v (.int .i64 x2.Tier)]) sz102 Z1 Z1 Z3 rfl (Nat.le_of_ble_eq_true rfl) Z9 rfl) ?_
    refine fs ?_
    refine sd mix (by kernel_rfl) (N' := 256) rfl ?_
    iterate 2 refine pA ?_
    refine pu rfl (ap_ldv Z1 Z3 Z4) ?_
    obtain ⟨x4, h3, hm⟩ := bnd hm
    refine pu rfl (ap_idx CFb Zd Tryz.underlying265 sz4 Z1 rfl Z1 h3) ?_
    iterate 3 refine pA ?_
    refine pu rfl (ap_ldv Z1 Z3 Z4) ?_
    obtain ⟨x6, h5, hm⟩ := bnd hm
    refine pu rfl (ap_idx CFb Zd Tryz.underlying265 sz4 Z1 rfl Z1 h5) ?_
    iterate 2 refine pA ?_
    refine fs ?_
    refine AWp.condM hm Z1 (fun _ hm => ?_) (fun _ hm => ?_)
    ·
     refine AWp.reg 64 (N' := 320) rfl ?_
     refine pA ?_
     refine pu rfl (ap_ldv Z1 Z3 Z2) ?_
     refine hp (id := 258) rfl rfl (ah_list CFGEdge (l := [x2]) Tryz.underlying28 sz102 zc102 Z5 Zd Zd Zd (by simp only [go_sem, Nat.reduceBEq]; try rfl) (by kernel_rfl)) ?_
     obtain ⟨l8, h7, hm⟩ := bnd hm
     refine hp (id := 259) rfl rfl (ah_app CFGEdge Tryz.underlying28 Tryz.underlying28 rfl in102 ts102 (by rw [tb102]; decide) (by rw [tb102]; decide) tz102 Zd Zd Z1 Z3 Z6 (as_own CFGEdge Z1 Z3 Z6) rfl Z5 h7) ?_
     refine pA ?_
     refine ARun.fin ?_
     refine normIn ?_
     refine normJ ?_
     refine ⟨_, ?_, mark_1, l8, t8, t9, t10, rfl, hm⟩
     exact le_canon (fun j => bif j == 1 then 259 else 0) (wV (wV (wD (CFGEdge.sl _ _ _) (wO (wD (CFb.sl _ _ _) wk_none))))) (hW (eU CFGEdge entWk_none))
    ·
     refine AWp.skip ?_
     refine normIn ?_
     refine normJ ?_
     refine ⟨_, ?_, mark_1, out_5, t8, t9, t10, rfl, hm⟩
     exact le_canon (fun j => bif j == 1 then 1 else 0) (wV (wV (wD (CFGEdge.sl _ _ _) (wO (wD (CFb.sl _ _ _) wk_none))))) (hW (eU CFGEdge entWk_none))
   ·
    rintro s ⟨mark_1, out_5, t8, t9, t10, rfl, hm⟩
    unfold cutUnlike_J1 at hm
    refine AWp.reg 64 (N' := 128) rfl ?_
    iterate 2 refine pA ?_
    refine ARun.fin ?_
    refine normThen ?_
    refine ⟨_, ?_, mark_1, out_5, t8, t9, (IntKind.i64.wrap (t10 + 1)), rfl, hm⟩
    exact le_canon (fun j => bif j == 1 then 1 else 0) (wV (wV (wD (CFGEdge.sl _ _ _) (wO (wD (CFb.sl _ _ _) wk_none))))) (hW (eU CFGEdge entWk_none))
  ·
   refine AWp.exit ?_
   refine exitSeq ?_
   refine exitThen ?_
   refine exitHere ?_
   refine normSeq ?_
   refine sr (N' := 192) rfl ?_
   iterate 2 refine pA ?_
   refine fs ?_
   refine AWp.ret ?_
   cases hm
   exact ret1D (.inr rfl) Tryz.results206 (tdo CFGEdge Z1 Z3 Z6)
def cutCut_B1 (rec1 : List GEdge → List Bool → List Int → Int → Int → Option ((List GEdge) × Int)) (l_1 : List GEdge) (in_8 : List Bool) (t18 : List Int) (t19 : Int) (t20 : Int) : Option ((List GEdge) × Int) :=
 (bif (decide (t20 < t19)) then
  ((idx t18 t20).bind fun x6 =>
  ((idx in_8 x6).bind fun x8 =>
  ((stt in_8 x6 true).bind fun l10 =>
  rec1 l_1 l10 t18 t19 (IntKind.i64.wrap (t20 + 1)))))
 else
  ((cutUnlike_m l_1 in_8).bind fun r12 =>
  some (r12, 0)))
def cutCut_L1 : Nat → List GEdge → List Bool → List Int → Int → Int → Option ((List GEdge) × Int)
 | 0 => fun _ _ _ _ _ => none
 | n + 1 => cutCut_B1 (cutCut_L1 n)
def cutCut_m (n_0 : Int) (l_1 : List GEdge) (set_2 : List Int) : Option ((List GEdge) × Int) :=
 ((cutFits_m n_0 l_1 set_2).bind fun r2 =>
 (bif (!r2) then
  some ([], 1)
 else
  ((mkc n_0 n_0 false).bind fun l4 =>
  cutCut_L1 FUEL l_1 l4 set_2 (set_2.length : Int) 0)))
theorem cutCut_c {n_0 : Int} {l_1 : List GEdge} {set_2 : List Int} {r : (List GEdge) × Int} (hm : cutCut_m n_0 l_1 set_2 = some r) : PureC Tryz.prog 198 [.v (.int .i64 n_0), .sl (l_1.flatMap cGEdge) l_1.length false, .sl (set_2.flatMap (ci .i64)) set_2.length false] (.tup [.sl (r.1.flatMap cGEdge) r.1.length false, .v (.int .i64 r.2)]) := by
 refine PureC.of_body Tryz.func198 rfl ?_
 simp only [Tryz.ntmps198, List.length_cons, List.length_nil, Nat.reduceAdd, Nat.reduceSub, empty_eq]
 unfold cutCut_m at hm
 refine sr (N' := 64) rfl ?_
 iterate 2 refine pA ?_
 refine fs ?_
 refine AWp.seq' ?_
 refine sr (N' := 128) rfl ?_
 iterate 3 refine pA ?_
 obtain ⟨r2, h1, hm⟩ := bnd hm
 refine ARun.callQ (r := .v (.bool r2)) Zd Z1 fb205 (fun H => (cV (cD (CFGEdge.sl _ _ _) (cD ((CFi .i64).sl _ _ _) .nil)))) (cutFits_c h1) ?_
 refine pA ?_
 refine fs ?_
 refine AWp.condM hm Z1 (fun _ hm => ?_) (fun _ hm => ?_)
 ·
  refine sr (N' := 192) rfl ?_
  iterate 2 refine pA ?_
  refine fs ?_
  refine AWp.ret ?_
  refine retSeq ?_
  cases hm
  exact ret2D (.inr rfl) Tryz.results198 (tdn Z1) (td Z1 (.v _))
 ·
  refine AWp.skip ?_
  refine normSeq ?_
  refine sr (N' := 192) rfl ?_
  refine pA ?_
  obtain ⟨l4, h3, hm⟩ := bnd hm
  refine hp (id := 129) rfl rfl (ah_mk CFb (z := false) Tryz.underlying265 in4 (zc4) (by rw [tb4]; decide) ts4 Zd Z5 Z1 Z1 h3) ?_
  refine pA ?_
  refine fs ?_
  refine AWp.seq' ?_
  refine sr (N' := 256) rfl ?_
  iterate 3 refine pA ?_
  refine fs ?_
  refine AWp.block ?_
  refine AWp.loopM (fun m s => ∃ (l_1 : List GEdge) (in_8 : List Bool) (t18 : List Int) (t19 : Int) (t20 : Int), s = (⟨31, (fset (fset (fset (fset (fset (fun _ => AV.any) 1 (.sl (l_1.flatMap cGEdge) l_1.length false)) 8 (.own 1 0 in_8.length)) 18 (.sl (t18.flatMap (ci .i64)) t18.length false)) 19 (.v (.int .i64 t19))) 20 (.v (.int .i64 t20))), ⟨(upd nofresh 1 (.cells 1 (in_8.flatMap cbool) 0)), 64⟩⟩ : St) ∧ cutCut_L1 m l_1 in_8 t18 t19 t20 = some r) FUEL ?_ ?_ ?_
  ·
   rintro s ⟨_, _, _, _, _, _, h⟩
   cases h
  ·
   refine ⟨_, ?_, l_1, l4, set_2, (set_2.length : Int), 0, rfl, hm⟩
   exact le_canon (fun j => bif j == 1 then 129 else 0) (wV (wV (wD ((CFi .i64).sl _ _ _) (wO (wD (CFGEdge.sl _ _ _) wk_none))))) (hW (eU CFb entWk_none))
  ·
   rintro n1 s ⟨l_1, in_8, t18, t19, t20, rfl, hm⟩
   replace hm : cutCut_B1 (cutCut_L1 n1) l_1 in_8 t18 t19 t20 = some r := hm
   unfold cutCut_B1 at hm
   refine sr (N' := 128) rfl ?_
   refine pA ?_
   refine fs ?_
   refine AWp.seq' ?_
   refine AWp.condM hm Z1 (fun _ hm => ?_) (fun _ hm => ?_)
   ·
    refine AWp.skip ?_
    refine normSeq ?_
    refine AWp.seq' ?_
    refine AWp.block ?_
    refine sr (N' := 192) rfl ?_
    obtain ⟨x6, h5, hm⟩ := bnd hm
    refine pu rfl (ap_idx (CFi .i64) Zd Tryz.underlying112 sz3 Z1 rfl Z1 h5) ?_
    iterate 2 refine pA ?_
    refine fs ?_
    refine AWp.reg 64 (N' := 256) rfl ?_
    iterate 2 refine pA ?_
    obtain ⟨x8, h7, hm⟩ := bnd hm
    refine pu rfl (ap_idxo Tryz.underlying265 sz4 Z1 Z3 Z6 Z1 h7) ?_
    obtain ⟨l10, h9, hm⟩ := bnd hm
    have qh9 := stt_len h9
    refine ARun.heap0 (id := 195) rfl (ah_stt CFb sz4 Z1 Z1 Z3 rfl h9) ?_
    refine ARun.fin ?_
    refine normIn ?_
    refine normSeq ?_
    refine AWp.reg 64 (N' := 320) rfl ?_
    iterate 2 refine pA ?_
    refine ARun.fin ?_
    refine normThen ?_
    refine ⟨_, ?_, l_1, l10, t18, t19, (IntKind.i64.wrap (t20 + 1)), rfl, hm⟩
    exact le_canon (fun j => bif j == 1 then 1 else 0) (wV (wV (wD ((CFi .i64).sl _ _ _) (wO (wD (CFGEdge.sl _ _ _) wk_none))))) (hW (eU CFb entWk_none))
   ·
    refine AWp.exit ?_
    refine exitSeq ?_
    refine exitThen ?_
    refine exitHere ?_
    refine normSeq ?_
    refine AWp.seq' ?_
    refine AWp.weaken (le_lock CFb 8 1 Z1 Z3 Z6) ?_
    refine AWp.reg 64 (N' := 192) rfl ?_
    iterate 2 refine pA ?_
    obtain ⟨r12, h11, hm⟩ := bnd hm
    refine ARun.callQ (r := .sl (r12.flatMap cGEdge) r12.length false) Zd Z1 fb206 (fun H => (cD (CFGEdge.sl _ _ _) (cD (CFb.sl _ _ _) .nil))) (cutUnlike_c h11) ?_
    iterate 2 refine pA ?_
    refine fs ?_
    refine AWp.ret ?_
    cases hm
    exact ret2D (.inr rfl) Tryz.results198 (td Z1 (CFGEdge.sl _ _ _)) (td Z1 (.v _))
def searchCutOf_m (g_0 : GGraph) (tier_1 : Int) (v_2 : Int) : Option ((List GEdge)) :=
 ((searchTree0_m g_0 tier_1 v_2).bind fun r2 =>
 ((cutCut_m g_0.Config.N g_0.Edges r2).bind fun ⟨r4, r5⟩ =>
 some r4))
theorem searchCutOf_c {g_0 : GGraph} {tier_1 : Int} {v_2 : Int} {r : (List GEdge)} (hm : searchCutOf_m g_0 tier_1 v_2 = some r) : PureC Tryz.prog 186 [.agg [.v (.int .i64 g_0.Config.N), .v (.int .i64 g_0.Config.L), .v (.int .i64 g_0.Config.R), .sl (g_0.Hashes.flatMap cGHash) g_0.Hashes.length false, .sl (g_0.Edges.flatMap cGEdge) g_0.Edges.length false], .v (.int .i64 tier_1), .v (.int .i64 v_2)] (.sl (r.flatMap cGEdge) r.length false) := by
 refine PureC.of_body Tryz.func186 rfl ?_
 simp only [Tryz.ntmps186, List.length_cons, List.length_nil, Nat.reduceAdd, Nat.reduceSub, empty_eq]
 unfold searchCutOf_m at hm
 refine sr (N' := 64) rfl ?_
 refine hp (id := 0) rfl rfl (aheap_box Z1 Z5) ?_
 refine pA ?_
 refine fs ?_
 refine sd mix (by kernel_rfl) (N' := 128) rfl ?_
 iterate 2 refine pA ?_
 refine pu rfl (ap_ldv Z1 Z3 Z4) ?_
 refine pA ?_
 refine pu rfl (ap_ldv Z1 Z3 Z4) ?_
 refine pu rfl (ap_ldv Z1 Z3 Z2) ?_
 iterate 2 refine pA ?_
 obtain ⟨r2, h1, hm⟩ := bnd hm
 refine ARun.callQ (r := .sl (r2.flatMap (ci .i64)) r2.length false) Zd Z1 fb184 (fun H => (cD (.agg _ (CFGGraph.dat _)) (cV (cV .nil)))) (searchTree0_c h1) ?_
 obtain ⟨⟨r4, r5⟩, h3, hm⟩ := bnd hm
 refine ARun.callQ (r := .tup [.sl (r4.flatMap cGEdge) r4.length false, .v (.int .i64 r5)]) Zd Z1 fb198 (fun H => (cV (cD (CFGEdge.sl _ _ _) (cD ((CFi .i64).sl _ _ _) .nil)))) (cutCut_c h3) ?_
 iterate 5 refine pA ?_
 refine fs ?_
 refine sr (N' := 192) rfl ?_
 iterate 2 refine pA ?_
 refine fs ?_
 refine AWp.ret ?_
 cases hm
 exact ret1D (.inr rfl) Tryz.results186 (td Z1 (CFGEdge.sl _ _ _))
def bitsLen_m (x_0 : Int) : Option (Int) :=
 ((bitsLen64_m x_0).bind fun r2 =>
 some r2)
theorem bitsLen_c {x_0 : Int} {r : Int} (hm : bitsLen_m x_0 = some r) : PureC Tryz.prog 134 [.v (.int .u64 x_0)] (.v (.int .i64 r)) := by
 refine PureC.of_body Tryz.func134 rfl ?_
 simp only [Tryz.ntmps134, List.length_cons, List.length_nil, Nat.reduceAdd, Nat.reduceSub, empty_eq]
 unfold bitsLen_m at hm
 refine sr (N' := 64) rfl ?_
 refine pA ?_
 refine fs ?_
 refine AWp.seq' ?_
 refine AWp.condF Z1 ?_
 refine AWp.skip ?_
 refine normSeq ?_
 refine sr (N' := 128) rfl ?_
 refine pA ?_
 obtain ⟨r2, h1, hm⟩ := bnd hm
 refine ARun.callQ (r := .v (.int .i64 r2)) Zd Z1 fb155 (fun H => (cV .nil)) (bitsLen64_c h1) ?_
 refine pA ?_
 refine fs ?_
 refine AWp.ret ?_
 cases hm
 exact ret1D (.inr rfl) Tryz.results134 (td Z1 (.v _))
def levelLevels_m (n_0 : Int) : Option (Int) :=
 (bif (decide (n_0 < 1)) then
  some 0
 else
  ((bitsLen_m (IntKind.u64.wrap (IntKind.i64.wrap (n_0 - 1)))).bind fun r2 =>
  some (IntKind.i64.wrap ((IntKind.i64.wrap (2 * r2)) + 2))))
theorem levelLevels_c {n_0 : Int} {r : Int} (hm : levelLevels_m n_0 = some r) : PureC Tryz.prog 201 [.v (.int .i64 n_0)] (.v (.int .i64 r)) := by
 refine PureC.of_body Tryz.func201 rfl ?_
 simp only [Tryz.ntmps201, List.length_cons, List.length_nil, Nat.reduceAdd, Nat.reduceSub, empty_eq]
 unfold levelLevels_m at hm
 refine sr (N' := 64) rfl ?_
 refine pA ?_
 refine fs ?_
 refine AWp.seq' ?_
 refine sr (N' := 128) rfl ?_
 iterate 2 refine pA ?_
 refine fs ?_
 refine AWp.condM hm Z1 (fun _ hm => ?_) (fun _ hm => ?_)
 ·
  refine sr (N' := 192) rfl ?_
  refine pA ?_
  refine fs ?_
  refine AWp.ret ?_
  refine retSeq ?_
  cases hm
  exact ret1D (.inr rfl) Tryz.results201 (td Z1 (.v _))
 ·
  refine AWp.skip ?_
  refine normSeq ?_
  refine sr (N' := 192) rfl ?_
  iterate 3 refine pA ?_
  obtain ⟨r2, h1, hm⟩ := bnd hm
  refine ARun.callQ (r := .v (.int .i64 r2)) Zd Z1 fb134 (fun H => (cV .nil)) (bitsLen_c h1) ?_
  iterate 3 refine pA ?_
  refine fs ?_
  refine AWp.ret ?_
  cases hm
  exact ret1D (.inr rfl) Tryz.results201 (td Z1 (.v _))
def sketchSized_m (r_0 : Int) (v_1 : Int) : Option (Bool) :=
 some ((((decide (1 ≤ r_0)) && (decide (r_0 ≤ 8))) && (decide (1 ≤ v_1))) && (decide (v_1 ≤ 61)))
theorem sketchSized_c {r_0 : Int} {v_1 : Int} {r : Bool} (hm : sketchSized_m r_0 v_1 = some r) : PureC Tryz.prog 207 [.v (.int .i64 r_0), .v (.int .i64 v_1)] (.v (.bool r)) := by
 refine PureC.of_body Tryz.func207 rfl ?_
 simp only [Tryz.ntmps207, List.length_cons, List.length_nil, Nat.reduceAdd, Nat.reduceSub, empty_eq]
 unfold sketchSized_m at hm
 refine sr (N' := 64) rfl ?_
 refine pA ?_
 refine fs ?_
 refine sr (N' := 128) rfl ?_
 iterate 15 first | refine pA ?_ | refine pB ?_
 refine fs ?_
 refine AWp.ret ?_
 cases hm
 exact ret1D (.inr rfl) Tryz.results207 (td Z1 (.v _))
def sketchNew_m (r_0 : Int) (v_1 : Int) : Option (GSketchSketch × Int) :=
 ((sketchSized_m r_0 v_1).bind fun r2 =>
 (bif (!r2) then
  some ((GSketchSketch.mk 0 0 []), 1)
 else
  ((mkc (IntKind.i64.wrap (r_0 * v_1)) (IntKind.i64.wrap (r_0 * v_1)) 0).bind fun l4 =>
  some ((GSketchSketch.mk r_0 v_1 l4), 0))))
theorem sketchNew_c {r_0 : Int} {v_1 : Int} {r : GSketchSketch × Int} (hm : sketchNew_m r_0 v_1 = some r) : PureC Tryz.prog 200 [.v (.int .i64 r_0), .v (.int .i64 v_1)] (.tup [.agg [.v (.int .i64 r.1.R), .v (.int .i64 r.1.V), .sl (r.1.Words.flatMap (ci .u64)) r.1.Words.length false], .v (.int .i64 r.2)]) := by
 refine PureC.of_body Tryz.func200 rfl ?_
 simp only [Tryz.ntmps200, List.length_cons, List.length_nil, Nat.reduceAdd, Nat.reduceSub, empty_eq]
 unfold sketchNew_m at hm
 refine sr (N' := 64) rfl ?_
 refine hp (id := 0) rfl rfl (aheap_alloc' zc243 Z5) ?_
 refine pA ?_
 refine fs ?_
 refine AWp.seq' ?_
 refine sr (N' := 128) rfl ?_
 iterate 2 refine pA ?_
 obtain ⟨r2, h1, hm⟩ := bnd hm
 refine ARun.callQ (r := .v (.bool r2)) Zd Z1 fb207 (fun H => (cV (cV .nil))) (sketchSized_c h1) ?_
 refine pA ?_
 refine fs ?_
 refine AWp.condM hm Z1 (fun _ hm => ?_) (fun _ hm => ?_)
 ·
  refine sr (N' := 192) rfl ?_
  refine pu rfl (by simp only [go_sem, Nat.reduceBEq]; exact (by kernel_rfl : abuild Tryz.prog 243 [] = some (.agg [.v (.int .i64 0), .v (.int .i64 0), .v (.slice none 0 0)]))) ?_
  refine ARun.heap0 (id := 129) rfl (ah_var (ys := [.v (.int .i64 0), .v (.int .i64 0), .v (.slice none 0 0)]) sz243 Z1 Z1 Z3 rfl (Nat.le_of_ble_eq_true rfl) Z9 rfl) ?_
  refine pA ?_
  refine fs ?_
  refine AWp.ret ?_
  refine retSeq ?_
  cases hm
  exact retL (.inr rfl) (by rw [Tryz.results200]) (.cell (ap_ldv' Z1 Z3 Z2) (.tmp Z1 .nil)) rfl (tdt (.cons (tda rfl (.cons (.data _ (.v _)) (.cons (.data _ (.v _)) (.cons (.nil false) .nil)))) (.cons (td rfl (.v _)) .nil)))
 ·
  refine AWp.skip ?_
  refine normSeq ?_
  refine AWp.seq' ?_
  refine AWp.regC 64 6 (N' := 192) rfl ?_
  iterate 5 refine pA ?_
  obtain ⟨l4, h3, hm⟩ := bnd hm
  refine hp (id := 133) rfl rfl (ah_mk (CFi .u64) (z := 0) Tryz.underlying24 in43 (zc43) (by rw [tb43]; decide) ts43 Zd Z5 Z1 Z1 h3) ?_
  refine ARun.cut (le_lock (CFi .u64) 16 133 Z1 Z3 Z6) ?_
  refine pu rfl (by simp only [go_sem, Nat.reduceBEq]; exact (by kernel_rfl : abuild Tryz.prog 243 [(0, .v (.int .i64 r_0)), (1, .v (.int .i64 v_1)), (2, .sl (l4.flatMap (ci .u64)) l4.length false)] = some (.agg [.v (.int .i64 r_0), .v (.int .i64 v_1), .sl (l4.flatMap (ci .u64)) l4.length false]))) ?_
  refine ARun.heap0 (id := 135) rfl (ah_var (ys := [.v (.int .i64 r_0), .v (.int .i64 v_1), .sl (l4.flatMap (ci .u64)) l4.length false]) sz243 Z1 Z1 Z3 rfl (Nat.le_of_ble_eq_true rfl) Z9 rfl) ?_
  refine pA ?_
  refine fs ?_
  refine AWp.ret ?_
  cases hm
  exact retL (.inr rfl) (by rw [Tryz.results200]) (.cell (ap_ldv' Z1 Z3 Z2) (.tmp Z1 .nil)) rfl (tdt (.cons (td rfl (.agg _ (CFGSketchSketch.dat (GSketchSketch.mk r_0 v_1 l4)))) (.cons (td rfl (.v _)) .nil)))
def searchHashes0_m (g_0 : GGraph) (tier_1 : Int) : Option ((List GHash)) :=
 ((slc g_0.Hashes (IntKind.i64.wrap (tier_1 * g_0.Config.R)) (IntKind.i64.wrap ((IntKind.i64.wrap (tier_1 * g_0.Config.R)) + g_0.Config.R))).bind fun l2 =>
 ((slicesCloneHash_m l2).bind fun r4 =>
 some r4))
theorem searchHashes0_c {g_0 : GGraph} {tier_1 : Int} {r : (List GHash)} (hm : searchHashes0_m g_0 tier_1 = some r) : PureC Tryz.prog 202 [.agg [.v (.int .i64 g_0.Config.N), .v (.int .i64 g_0.Config.L), .v (.int .i64 g_0.Config.R), .sl (g_0.Hashes.flatMap cGHash) g_0.Hashes.length false, .sl (g_0.Edges.flatMap cGEdge) g_0.Edges.length false], .v (.int .i64 tier_1)] (.sl (r.flatMap cGHash) r.length false) := by
 refine PureC.of_body Tryz.func202 rfl ?_
 simp only [Tryz.ntmps202, List.length_cons, List.length_nil, Nat.reduceAdd, Nat.reduceSub, empty_eq]
 unfold searchHashes0_m at hm
 refine sr (N' := 64) rfl ?_
 refine hp (id := 0) rfl rfl (aheap_box Z1 Z5) ?_
 refine pA ?_
 refine fs ?_
 refine sr (N' := 128) rfl ?_
 iterate 2 refine pA ?_
 refine pu rfl (ap_ldv Z1 Z3 Z4) ?_
 refine pA ?_
 refine fs ?_
 refine sr (N' := 192) rfl ?_
 refine pA ?_
 refine pu rfl (ap_ldv Z1 Z3 Z4) ?_
 iterate 8 refine pA ?_
 obtain ⟨l2, h1, hm⟩ := bnd hm
 refine pu rfl (ap_slc CFGHash Tryz.underlying27 sz120 Z1 rfl (ab_some Z1 (slc_0 h1).1) (ab_some Z1 (slc_0 h1).2) h1) ?_
 obtain ⟨r4, h3, hm⟩ := bnd hm
 refine ARun.callF (id := 139) Zd Z1 fb69 (fun H => (.cons (tdf Z1 (CFGHash.sl _ _ _)) .nil)) CFGHash Z5 (slicesCloneHash_f h3) ?_
 refine pA ?_
 refine fs ?_
 refine AWp.ret ?_
 cases hm
 exact ret1D (.inr rfl) Tryz.results202 (tdo CFGHash Z1 Z3 Z6)
def nameVertex_m (v_0 : Int) : Option (Bool) :=
 some ((decide (0 ≤ v_0)) && (decide (v_0 < 16777216)))
theorem nameVertex_c {v_0 : Int} {r : Bool} (hm : nameVertex_m v_0 = some r) : PureC Tryz.prog 211 [.v (.int .i64 v_0)] (.v (.bool r)) := by
 refine PureC.of_body Tryz.func211 rfl ?_
 simp only [Tryz.ntmps211, List.length_cons, List.length_nil, Nat.reduceAdd, Nat.reduceSub, empty_eq]
 unfold nameVertex_m at hm
 refine sr (N' := 64) rfl ?_
 refine pA ?_
 refine fs ?_
 refine sr (N' := 128) rfl ?_
 iterate 7 first | refine pA ?_ | refine pB ?_
 refine fs ?_
 refine AWp.ret ?_
 cases hm
 exact ret1D (.inr rfl) Tryz.results211 (td Z1 (.v _))
def nameOf_m (u_0 : Int) (v_1 : Int) : Option (Int × Int) :=
 ((nameVertex_m u_0).bind fun r2 =>
 ((gopt ((!r2) == false) false (nameVertex_m v_1)).bind fun r4 =>
 (bif ((!r2) || (!r4)) then
  some (0, 1)
 else
  (bif (u_0 == v_1) then
   some (0, 8)
  else
   some ((IntKind.u64.wrap ((IntKind.u64.wrap ((IntKind.u64.wrap (if v_1 < u_0 then v_1 else u_0)) * 16777216)) + (IntKind.u64.wrap (if u_0 < v_1 then v_1 else u_0)))), 0)))))
theorem nameOf_c {u_0 : Int} {v_1 : Int} {r : Int × Int} (hm : nameOf_m u_0 v_1 = some r) : PureC Tryz.prog 208 [.v (.int .i64 u_0), .v (.int .i64 v_1)] (.tup [.v (.int .u64 r.1), .v (.int .i64 r.2)]) := by
 refine PureC.of_body Tryz.func208 rfl ?_
 simp only [Tryz.ntmps208, List.length_cons, List.length_nil, Nat.reduceAdd, Nat.reduceSub, empty_eq]
 unfold nameOf_m at hm
 refine sr (N' := 64) rfl ?_
 iterate 2 refine pA ?_
 refine fs ?_
 refine AWp.seq' ?_
 refine sr (N' := 128) rfl ?_
 refine pA ?_
 obtain ⟨r2, h1, hm⟩ := bnd hm
 refine ARun.callQ (r := .v (.bool r2)) Zd Z1 fb211 (fun H => (cV .nil)) (nameVertex_c h1) ?_
 iterate 3 first | refine pA ?_ | refine pB ?_
 obtain ⟨r4, h3, hm⟩ := bnd hm
 refine ARun.callQG (r := .v (.bool r4)) Zd rfl Z2 Z1 fb211 (fun hb H => (.cons (td (Zh hb) (.v _)) .nil)) (fun hb => nameVertex_c (gopt_t h3 hb)) ?_
 iterate 2 first | refine pA ?_ | refine pB ?_
 refine fs ?_
 refine AWp.condM hm Z1 (fun _ hm => ?_) (fun _ hm => ?_)
 ·
  refine sr (N' := 192) rfl ?_
  iterate 2 refine pA ?_
  refine fs ?_
  refine AWp.ret ?_
  refine retSeq ?_
  cases hm
  exact ret2D (.inr rfl) Tryz.results208 (td Z1 (.v _)) (td Z1 (.v _))
 ·
  refine AWp.skip ?_
  refine normSeq ?_
  refine AWp.seq' ?_
  refine sr (N' := 192) rfl ?_
  iterate 3 refine pA ?_
  refine fs ?_
  refine AWp.condM hm Z1 (fun _ hm => ?_) (fun _ hm => ?_)
  ·
   refine sr (N' := 256) rfl ?_
   iterate 2 refine pA ?_
   refine fs ?_
   refine AWp.ret ?_
   refine retSeq ?_
   cases hm
   exact ret2D (.inr rfl) Tryz.results208 (td Z1 (.v _)) (td Z1 (.v _))
  ·
   refine AWp.skip ?_
   refine normSeq ?_
   refine sr (N' := 256) rfl ?_
   iterate 12 refine pA ?_
   refine fs ?_
   refine AWp.ret ?_
   cases hm
   exact ret2D (.inr rfl) Tryz.results208 (td Z1 (.v _)) (td Z1 (.v _))
def cutNames_J1 (rec1 : List Int → List GEdge → Int → Int → Option ((List Int))) (names_3 : List Int) (t8 : List GEdge) (t9 : Int) (t10 : Int) : Option ((List Int)) :=
 rec1 names_3 t8 t9 (IntKind.i64.wrap (t10 + 1))
def cutNames_J2 (rec1 : List Int → List GEdge → Int → Int → Option ((List Int))) (names_3 : List Int) (of_6 : Int) (t8 : List GEdge) (t9 : Int) (t10 : Int) : Option ((List Int)) :=
 ((app names_3 [of_6]).bind fun l7 =>
 cutNames_J1 rec1 l7 t8 t9 t10)
def cutNames_B1 (rec1 : List Int → List GEdge → Int → Int → Option ((List Int))) (names_3 : List Int) (t8 : List GEdge) (t9 : Int) (t10 : Int) : Option ((List Int)) :=
 (bif (decide (t10 < t9)) then
  ((idx t8 t10).bind fun x2 =>
  ((nameOf_m x2.U x2.V).bind fun ⟨r4, r5⟩ =>
  (bif (r5 != 0) then
   cutNames_J2 rec1 names_3 0 t8 t9 t10
  else
   cutNames_J2 rec1 names_3 r4 t8 t9 t10)))
 else
  some names_3)
def cutNames_L1 : Nat → List Int → List GEdge → Int → Int → Option ((List Int))
 | 0 => fun _ _ _ _ => none
 | n + 1 => cutNames_B1 (cutNames_L1 n)
def cutNames_m (l_0 : List GEdge) : Option ((List Int)) :=
 cutNames_L1 FUEL [] l_0 (l_0.length : Int) 0
theorem cutNames_c {l_0 : List GEdge} {r : (List Int)} (hm : cutNames_m l_0 = some r) : PureC Tryz.prog 203 [.sl (l_0.flatMap cGEdge) l_0.length false] (.sl (r.flatMap (ci .u64)) r.length false) := by
 refine PureC.of_body Tryz.func203 rfl ?_
 simp only [Tryz.ntmps203, List.length_cons, List.length_nil, Nat.reduceAdd, Nat.reduceSub, empty_eq]
 unfold cutNames_m at hm
 refine sr (N' := 64) rfl ?_
 refine pA ?_
 refine fs ?_
 refine sr (N' := 128) rfl ?_
 refine pA ?_
 refine fs ?_
 refine AWp.seq' ?_
 refine sr (N' := 192) rfl ?_
 iterate 3 refine pA ?_
 refine fs ?_
 refine AWp.block ?_
 refine AWp.loopM (fun m s => ∃ (names_3 : List Int) (t8 : List GEdge) (t9 : Int) (t10 : Int), s = (⟨30, (fset (fset (fset (fset (fun _ => AV.any) 3 (.own 1 0 names_3.length)) 8 (.sl (t8.flatMap cGEdge) t8.length false)) 9 (.v (.int .i64 t9))) 10 (.v (.int .i64 t10))), ⟨(upd nofresh 1 (.cells 1 (names_3.flatMap (ci .u64)) 0)), 64⟩⟩ : St) ∧ cutNames_L1 m names_3 t8 t9 t10 = some r) FUEL ?_ ?_ ?_
 ·
  rintro s ⟨_, _, _, _, _, h⟩
  cases h
 ·
  refine ⟨_, ?_, [], l_0, (l_0.length : Int), 0, rfl, hm⟩
  refine St.Le.trans (le_nil 3 900003 1 Z1 Z5) ?_
  exact le_canon (fun j => bif j == 1 then 900003 else 0) (wV (wV (wD (CFGEdge.sl _ _ _) (wO wk_none)))) (hW (eU (CFi .u64) entWk_none))
 ·
  rintro n1 s ⟨names_3, t8, t9, t10, rfl, hm⟩
  replace hm : cutNames_B1 (cutNames_L1 n1) names_3 t8 t9 t10 = some r := hm
  unfold cutNames_B1 at hm
  refine sr (N' := 128) rfl ?_
  refine pA ?_
  refine fs ?_
  refine AWp.seq' ?_
  refine AWp.condM hm Z1 (fun _ hm => ?_) (fun _ hm => ?_)
  ·
   refine AWp.skip ?_
   refine normSeq ?_
   refine AWp.seqJ (fun s => ∃ (names_3 : List Int) (t8 : List GEdge) (t9 : Int) (t10 : Int), s = (⟨30, (fset (fset (fset (fset (fun _ => AV.any) 3 (.own 1 0 names_3.length)) 8 (.sl (t8.flatMap cGEdge) t8.length false)) 9 (.v (.int .i64 t9))) 10 (.v (.int .i64 t10))), ⟨(upd nofresh 1 (.cells 1 (names_3.flatMap (ci .u64)) 0)), 64⟩⟩ : St) ∧ cutNames_J1 (cutNames_L1 n1) names_3 t8 t9 t10 = some r) ?_ ?_
   ·
    refine AWp.block ?_
    refine sr (N' := 192) rfl ?_
    obtain ⟨x2, h1, hm⟩ := bnd hm
    refine pu rfl (ap_idx CFGEdge Zd Tryz.underlying28 sz102 Z1 rfl Z1 h1) ?_
    refine pA ?_
    refine hp (id := 130) rfl rfl (aheap_alloc' zc102 Z5) ?_
    refine ARun.heap0 (id := 131) rfl (ah_var (ys := [.v (.int .i64 x2.U), .v (.int .i64 x2.V), .v (.int .i64 x2.Tier)]) sz102 Z1 Z1 Z3 rfl (Nat.le_of_ble_eq_true rfl) Z9 rfl) ?_
    refine fs ?_
    refine sr (N' := 256) rfl ?_
    refine pA ?_
    refine pu rfl (ap_ldv Z1 Z3 Z4) ?_
    refine pA ?_
    refine pu rfl (ap_ldv Z1 Z3 Z4) ?_
    obtain ⟨⟨r4, r5⟩, h3, hm⟩ := bnd hm
    refine ARun.callQ (r := .tup [.v (.int .u64 r4), .v (.int .i64 r5)]) Zd Z1 fb208 (fun H => (cV (cV .nil))) (nameOf_c h3) ?_
    iterate 5 refine pA ?_
    refine fs ?_
    refine AWp.seqJ (fun s => ∃ (names_3 : List Int) (of_6 : Int) (t8 : List GEdge) (t9 : Int) (t10 : Int), s = (⟨30, (fset (fset (fset (fset (fset (fun _ => AV.any) 3 (.own 1 0 names_3.length)) 6 (.v (.int .u64 of_6))) 8 (.sl (t8.flatMap cGEdge) t8.length false)) 9 (.v (.int .i64 t9))) 10 (.v (.int .i64 t10))), ⟨(upd nofresh 1 (.cells 1 (names_3.flatMap (ci .u64)) 0)), 64⟩⟩ : St) ∧ cutNames_J2 (cutNames_L1 n1) names_3 of_6 t8 t9 t10 = some r) ?_ ?_
    ·
     refine sr (N' := 320) rfl ?_
     iterate 2 refine pA ?_
     refine fs ?_
     refine AWp.condM hm Z1 (fun _ hm => ?_) (fun _ hm => ?_)
     ·
      refine AWp.reg 64 (N' := 384) rfl ?_
      refine pA ?_
      refine ARun.fin ?_
      refine normJ ?_
      refine ⟨_, ?_, names_3, 0, t8, t9, t10, rfl, hm⟩
      exact le_canon (fun j => bif j == 1 then 1 else 0) (wV (wV (wD (CFGEdge.sl _ _ _) (wV (wO wk_none))))) (hW (eU (CFi .u64) entWk_none))
     ·
      refine AWp.skip ?_
      refine normJ ?_
      refine ⟨_, ?_, names_3, r4, t8, t9, t10, rfl, hm⟩
      exact le_canon (fun j => bif j == 1 then 1 else 0) (wV (wV (wD (CFGEdge.sl _ _ _) (wV (wO wk_none))))) (hW (eU (CFi .u64) entWk_none))
    ·
     rintro s ⟨names_3, of_6, t8, t9, t10, rfl, hm⟩
     unfold cutNames_J2 at hm
     refine AWp.reg 64 (N' := 128) rfl ?_
     iterate 2 refine pA ?_
     refine hp (id := 66) rfl rfl (ah_list (CFi .u64) (l := [of_6]) Tryz.underlying24 sz43 zc43 Z5 Zd Zd Zd (by simp only [go_sem, Nat.reduceBEq]; try rfl) (by kernel_rfl)) ?_
     obtain ⟨l7, h6, hm⟩ := bnd hm
     refine hp (id := 67) rfl rfl (ah_app (CFi .u64) Tryz.underlying24 Tryz.underlying24 rfl in43 ts43 (by rw [tb43]; decide) (by rw [tb43]; decide) tz43 Zd Zd Z1 Z3 Z6 (as_own (CFi .u64) Z1 Z3 Z6) rfl Z5 h6) ?_
     refine pA ?_
     refine ARun.fin ?_
     refine normIn ?_
     refine normJ ?_
     refine ⟨_, ?_, l7, t8, t9, t10, rfl, hm⟩
     exact le_canon (fun j => bif j == 1 then 67 else 0) (wV (wV (wD (CFGEdge.sl _ _ _) (wO wk_none)))) (hW (eU (CFi .u64) entWk_none))
   ·
    rintro s ⟨names_3, t8, t9, t10, rfl, hm⟩
    unfold cutNames_J1 at hm
    refine AWp.reg 64 (N' := 128) rfl ?_
    iterate 2 refine pA ?_
    refine ARun.fin ?_
    refine normThen ?_
    refine ⟨_, ?_, names_3, t8, t9, (IntKind.i64.wrap (t10 + 1)), rfl, hm⟩
    exact le_canon (fun j => bif j == 1 then 1 else 0) (wV (wV (wD (CFGEdge.sl _ _ _) (wO wk_none)))) (hW (eU (CFi .u64) entWk_none))
  ·
   refine AWp.exit ?_
   refine exitSeq ?_
   refine exitThen ?_
   refine exitHere ?_
   refine normSeq ?_
   refine sr (N' := 192) rfl ?_
   iterate 2 refine pA ?_
   refine fs ?_
   refine AWp.ret ?_
   cases hm
   exact ret1D (.inr rfl) Tryz.results203 (tdo (CFi .u64) Z1 Z3 Z6)
def sketchRight_m (s_0 : GSketchSketch) : Option (Bool) :=
 ((sketchSized_m s_0.R s_0.V).bind fun r2 =>
 some (r2 && ((s_0.Words.length : Int) == (IntKind.i64.wrap (s_0.R * s_0.V)))))
theorem sketchRight_c {s_0 : GSketchSketch} {r : Bool} (hm : sketchRight_m s_0 = some r) : PureC Tryz.prog 199 [.agg [.v (.int .i64 s_0.R), .v (.int .i64 s_0.V), .sl (s_0.Words.flatMap (ci .u64)) s_0.Words.length false]] (.v (.bool r)) := by
 refine PureC.of_body Tryz.func199 rfl ?_
 simp only [Tryz.ntmps199, List.length_cons, List.length_nil, Nat.reduceAdd, Nat.reduceSub, empty_eq]
 unfold sketchRight_m at hm
 refine sr (N' := 64) rfl ?_
 refine hp (id := 0) rfl rfl (aheap_box Z1 Z5) ?_
 refine pA ?_
 refine fs ?_
 refine sr (N' := 128) rfl ?_
 refine pA ?_
 refine pu rfl (ap_ldv Z1 Z3 Z4) ?_
 refine pA ?_
 refine pu rfl (ap_ldv Z1 Z3 Z4) ?_
 obtain ⟨r2, h1, hm⟩ := bnd hm
 refine ARun.callQ (r := .v (.bool r2)) Zd Z1 fb207 (fun H => (cV (cV .nil))) (sketchSized_c h1) ?_
 iterate 2 first | refine pA ?_ | refine pB ?_
 refine pg rfl rfl Z2 (fun hb => (ap_ldv (Zh hb) Z3 Z4)) ?_
 iterate 2 refine pB ?_
 refine pg rfl rfl Z2 (fun hb => (ap_ldv (Zh hb) Z3 Z4)) ?_
 refine pB ?_
 refine pg rfl rfl Z2 (fun hb => (ap_ldv (Zh hb) Z3 Z4)) ?_
 iterate 4 first | refine pA ?_ | refine pB ?_
 refine fs ?_
 refine AWp.ret ?_
 cases hm
 exact ret1D (.inr rfl) Tryz.results199 (td Z1 (.v _))
def slicesCloneUint64_m (l : List Int) : Option (List Int) := app [] l
theorem slicesCloneUint64_fA {r : List Int} (hm : some [] = some r) : FreshC Tryz.prog 209 [.v (.slice none 0 0)] 1 (r.flatMap (ci .u64)) r.length := by
 refine FreshC.of_body Tryz.func209 rfl ((CFi .u64).fmdat r) ?_
 simp only [Tryz.ntmps209, List.length_cons, List.length_nil, Nat.reduceAdd, Nat.reduceSub, empty_eq]
 refine sr (N' := 64) rfl ?_
 refine pA ?_
 refine fs ?_
 refine AWp.seq' ?_
 refine sr (N' := 128) rfl ?_
 refine pA ?_
 refine pu rfl (ap_eqn Z1 Z1 (abin_nil Tryz.underlying24)) ?_
 refine fs ?_
 refine AWp.condT Z1 ?_
 refine sr (N' := 192) rfl ?_
 refine pA ?_
 refine fs ?_
 refine AWp.weaken (le_nil 2 900002 1 Z1 Z5) ?_
 refine AWp.ret ?_
 refine retSeq ?_
 cases hm
 exact retF (.inr rfl) Tryz.results209 Z1 Z3 Z6
theorem slicesCloneUint64_fB {a : Addr} {c : Nat} {r : List Int} (hm : ((app [] []).bind fun l2 =>
some l2) = some r) : FreshC Tryz.prog 209 [.v (.slice (some a) 0 c)] 1 (r.flatMap (ci .u64)) r.length := by
 refine FreshC.of_body Tryz.func209 rfl ((CFi .u64).fmdat r) ?_
 simp only [Tryz.ntmps209, List.length_cons, List.length_nil, Nat.reduceAdd, Nat.reduceSub, empty_eq]
 refine sr (N' := 64) rfl ?_
 refine pA ?_
 refine fs ?_
 refine AWp.seq' ?_
 refine sr (N' := 128) rfl ?_
 refine pA ?_
 refine pu rfl (ap_eqn Z1 Z1 (abin_xnil Tryz.underlying24)) ?_
 refine fs ?_
 refine AWp.condF Z1 ?_
 refine AWp.skip ?_
 refine normSeq ?_
 refine sr (N' := 192) rfl ?_
 refine hp (id := 128) rfl rfl (ah_list (CFi .u64) (l := []) Tryz.underlying24 sz43 zc43 Z5 Zd Zd Zd (by simp only [go_sem, Nat.reduceBEq]; try rfl) (by kernel_rfl)) ?_
 refine pA ?_
 obtain ⟨l2, h1, hm⟩ := bnd hm
 refine hp (id := 130) rfl rfl (ah_app (CFi .u64) Tryz.underlying24 Tryz.underlying24 rfl in43 ts43 (by rw [tb43]; decide) (by rw [tb43]; decide) tz43 Zd Zd Z1 Z3 Z6 (as_xnil Z1) rfl Z5 h1) ?_
 refine pA ?_
 refine fs ?_
 refine AWp.ret ?_
 cases hm
 exact retF (.inr rfl) Tryz.results209 Z1 Z3 Z6
theorem slicesCloneUint64_fC {x0 : Int} {l0 : List Int} {r : List Int} (hm : ((app [] (x0 :: l0)).bind fun l2 =>
some l2) = some r) : FreshC Tryz.prog 209 [.sl ((x0 :: l0).flatMap (ci .u64)) (x0 :: l0).length false] 1 (r.flatMap (ci .u64)) r.length := by
 refine FreshC.of_body Tryz.func209 rfl ((CFi .u64).fmdat r) ?_
 simp only [Tryz.ntmps209, List.length_cons, List.length_nil, Nat.reduceAdd, Nat.reduceSub, empty_eq]
 refine sr (N' := 64) rfl ?_
 refine pA ?_
 refine fs ?_
 refine AWp.seq' ?_
 refine sr (N' := 128) rfl ?_
 refine pA ?_
 refine pu rfl (ap_eqn Z1 Z1 (abin_nnil Tryz.underlying24 (by simp))) ?_
 refine fs ?_
 refine AWp.condF Z1 ?_
 refine AWp.skip ?_
 refine normSeq ?_
 refine sr (N' := 192) rfl ?_
 refine hp (id := 128) rfl rfl (ah_list (CFi .u64) (l := []) Tryz.underlying24 sz43 zc43 Z5 Zd Zd Zd (by simp only [go_sem, Nat.reduceBEq]; try rfl) (by kernel_rfl)) ?_
 refine pA ?_
 obtain ⟨l2, h1, hm⟩ := bnd hm
 refine hp (id := 130) rfl rfl (ah_app (CFi .u64) Tryz.underlying24 Tryz.underlying24 rfl in43 ts43 (by rw [tb43]; decide) (by rw [tb43]; decide) tz43 Zd Zd Z1 Z3 Z6 (as_sl (CFi .u64) Z1 rfl) rfl Z5 h1) ?_
 refine pA ?_
 refine fs ?_
 refine AWp.ret ?_
 cases hm
 exact retF (.inr rfl) Tryz.results209 Z1 Z3 Z6
theorem slicesCloneUint64_f {l r : List Int} (hm : slicesCloneUint64_m l = some r) : FreshC Tryz.prog 209 [.sl (l.flatMap (ci .u64)) l.length false] 1 (r.flatMap (ci .u64)) r.length := by
 cases l with
 | nil =>
  have hr : r = [] := by unfold slicesCloneUint64_m app at hm; simpa using hm.symm
  subst hr
  exact FreshC.nil_arg (slicesCloneUint64_fA (r := []) rfl) (fun a c => slicesCloneUint64_fB (r := []) rfl)
 | cons x0 l0 =>
  refine slicesCloneUint64_fC ?_
  show (app [] (x0 :: l0)).bind _ = _
  unfold slicesCloneUint64_m at hm
  rw [hm]; rfl
def levelValue_m (h_0 : GHash) (name_1 : Int) : Option (Int) :=
 ((modMul_m h_0.A name_1).bind fun r2 =>
 ((modAdd_m r2 h_0.B).bind fun r4 =>
 some r4))
theorem levelValue_c {h_0 : GHash} {name_1 : Int} {r : Int} (hm : levelValue_m h_0 name_1 = some r) : PureC Tryz.prog 212 [.agg [.v (.int .u64 h_0.A), .v (.int .u64 h_0.B)], .v (.int .u64 name_1)] (.v (.int .u64 r)) := by
 refine PureC.of_body Tryz.func212 rfl ?_
 simp only [Tryz.ntmps212, List.length_cons, List.length_nil, Nat.reduceAdd, Nat.reduceSub, empty_eq]
 unfold levelValue_m at hm
 refine sr (N' := 64) rfl ?_
 refine hp (id := 0) rfl rfl (aheap_box Z1 Z5) ?_
 refine pA ?_
 refine fs ?_
 refine sd mix (by kernel_rfl) (N' := 128) rfl ?_
 refine pA ?_
 refine pu rfl (ap_ldv Z1 Z3 Z4) ?_
 refine pA ?_
 obtain ⟨r2, h1, hm⟩ := bnd hm
 refine ARun.callQ (r := .v (.int .u64 r2)) Zd Z1 fb139 (fun H => (cV (cV .nil))) (modMul_c h1) ?_
 refine pA ?_
 refine pu rfl (ap_ldv Z1 Z3 Z4) ?_
 obtain ⟨r4, h3, hm⟩ := bnd hm
 refine ARun.callQ (r := .v (.int .u64 r4)) Zd Z1 fb138 (fun H => (cV (cV .nil))) (modAdd_c h3) ?_
 refine pA ?_
 refine fs ?_
 refine AWp.ret ?_
 cases hm
 exact ret1D (.inr rfl) Tryz.results212 (td Z1 (.v _))
def levelBound_m (level_0 : Int) : Option (Int) :=
 (bif ((decide (level_0 < 0)) || (decide (61 ≤ level_0))) then
  some 0
 else
  ((chk (decide (0 ≤ level_0))).bind fun _ =>
  some (shr .u64 2305843009213693951 level_0)))
theorem levelBound_c {level_0 : Int} {r : Int} (hm : levelBound_m level_0 = some r) : PureC Tryz.prog 213 [.v (.int .i64 level_0)] (.v (.int .u64 r)) := by
 refine PureC.of_body Tryz.func213 rfl ?_
 simp only [Tryz.ntmps213, List.length_cons, List.length_nil, Nat.reduceAdd, Nat.reduceSub, empty_eq]
 unfold levelBound_m at hm
 refine sr (N' := 64) rfl ?_
 refine pA ?_
 refine fs ?_
 refine AWp.seq' ?_
 refine sr (N' := 128) rfl ?_
 iterate 6 first | refine pA ?_ | refine pB ?_
 refine fs ?_
 refine AWp.condM hm Z1 (fun _ hm => ?_) (fun _ hm => ?_)
 ·
  refine sr (N' := 192) rfl ?_
  refine pA ?_
  refine fs ?_
  refine AWp.ret ?_
  refine retSeq ?_
  cases hm
  exact ret1D (.inr rfl) Tryz.results213 (td Z1 (.v _))
 ·
  refine AWp.skip ?_
  refine normSeq ?_
  refine sr (N' := 192) rfl ?_
  refine pA ?_
  obtain ⟨_, h1, hm⟩ := bnd hm
  refine pu rfl (ap_shr Z1 Z1 (chk_t h1)) ?_
  refine pA ?_
  refine fs ?_
  refine AWp.ret ?_
  cases hm
  exact ret1D (.inr rfl) Tryz.results213 (td Z1 (.v _))
def levelDeep_B1 (rec1 : Int → Int → Int → Option (Int)) (levels_2 : Int) (value_7 : Int) (deep_8 : Int) : Option (Int) :=
 ((gopt ((decide (deep_8 < (if 61 < levels_2 then 61 else levels_2))) == true) 0 (levelBound_m deep_8)).bind fun r4 =>
 (bif ((decide (deep_8 < (if 61 < levels_2 then 61 else levels_2))) && (decide (value_7 < r4))) then
  rec1 levels_2 value_7 (IntKind.i64.wrap (deep_8 + 1))
 else
  some deep_8))
def levelDeep_L1 : Nat → Int → Int → Int → Option (Int)
 | 0 => fun _ _ _ => none
 | n + 1 => levelDeep_B1 (levelDeep_L1 n)
def levelDeep_m (h_0 : GHash) (name_1 : Int) (levels_2 : Int) : Option (Int) :=
 ((levelValue_m h_0 name_1).bind fun r2 =>
 levelDeep_L1 FUEL levels_2 r2 0)
theorem levelDeep_c {h_0 : GHash} {name_1 : Int} {levels_2 : Int} {r : Int} (hm : levelDeep_m h_0 name_1 levels_2 = some r) : PureC Tryz.prog 210 [.agg [.v (.int .u64 h_0.A), .v (.int .u64 h_0.B)], .v (.int .u64 name_1), .v (.int .i64 levels_2)] (.v (.int .i64 r)) := by
 refine PureC.of_body Tryz.func210 rfl ?_
 simp only [Tryz.ntmps210, List.length_cons, List.length_nil, Nat.reduceAdd, Nat.reduceSub, empty_eq]
 unfold levelDeep_m at hm
 refine sr (N' := 64) rfl ?_
 refine hp (id := 0) rfl rfl (aheap_box Z1 Z5) ?_
 refine pA ?_
 refine fs ?_
 refine sr (N' := 128) rfl ?_
 refine pu rfl (ap_ldv Z1 Z3 Z2) ?_
 refine pA ?_
 obtain ⟨r2, h1, hm⟩ := bnd hm
 refine ARun.callQ (r := .v (.int .u64 r2)) Zd Z1 fb212 (fun H => (cD (.agg _ (CFGHash.dat _)) (cV .nil))) (levelValue_c h1) ?_
 refine pA ?_
 refine fs ?_
 refine sr (N' := 192) rfl ?_
 refine pA ?_
 refine fs ?_
 refine AWp.seq' ?_
 refine AWp.block ?_
 refine AWp.loopM (fun m s => ∃ (levels_2 : Int) (value_7 : Int) (deep_8 : Int), s = (⟨25, (fset (fset (fset (fun _ => AV.any) 2 (.v (.int .i64 levels_2))) 7 (.v (.int .u64 value_7))) 8 (.v (.int .i64 deep_8))), ⟨nofresh, 64⟩⟩ : St) ∧ levelDeep_L1 m levels_2 value_7 deep_8 = some r) FUEL ?_ ?_ ?_
 ·
  rintro s ⟨_, _, _, _, h⟩
  cases h
 ·
  refine ⟨_, ?_, levels_2, r2, 0, rfl, hm⟩
  exact le_canon id (wV (wV (wV wk_none))) heapWk0
 ·
  rintro n1 s ⟨levels_2, value_7, deep_8, rfl, hm⟩
  replace hm : levelDeep_B1 (levelDeep_L1 n1) levels_2 value_7 deep_8 = some r := hm
  unfold levelDeep_B1 at hm
  refine AWp.seq' ?_
  refine sr (N' := 128) rfl ?_
  iterate 7 first | refine pA ?_ | refine pB ?_
  obtain ⟨r4, h3, hm⟩ := bnd hm
  refine ARun.callQG (r := .v (.int .u64 r4)) Zd rfl Z2 Z1 fb213 (fun hb H => (.cons (td (Zh hb) (.v _)) .nil)) (fun hb => levelBound_c (gopt_t h3 hb)) ?_
  iterate 2 first | refine pA ?_ | refine pB ?_
  refine fs ?_
  refine AWp.condM hm Z1 (fun _ hm => ?_) (fun _ hm => ?_)
  ·
   refine AWp.skip ?_
   refine normSeq ?_
   refine AWp.block ?_
   refine AWp.reg 64 (N' := 192) rfl ?_
   iterate 3 refine pA ?_
   refine ARun.fin ?_
   refine normIn ?_
   refine normThen ?_
   refine ⟨_, ?_, levels_2, value_7, (IntKind.i64.wrap (deep_8 + 1)), rfl, hm⟩
   exact le_canon id (wV (wV (wV wk_none))) heapWk0
  ·
   refine AWp.exit ?_
   refine exitSeq ?_
   refine exitThen ?_
   refine exitHere ?_
   refine normSeq ?_
   refine sr (N' := 192) rfl ?_
   iterate 2 refine pA ?_
   refine fs ?_
   refine AWp.ret ?_
   cases hm
   exact ret1D (.inr rfl) Tryz.results210 (td Z1 (.v _))
def sketchToggle_B2 (rec1 : Int → GSketchSketch → GSketchSketch → List Int → List GHash → Int → Int → Option (GSketchSketch × Int)) (rec2 : Int → GSketchSketch → GSketchSketch → List Int → Int → List GHash → Int → Int → Int → Int → Option (GSketchSketch × Int)) (name_2 : Int) (s_3 : GSketchSketch) (t6 : GSketchSketch) (words_8 : List Int) (row_9 : Int) (t26 : List GHash) (t27 : Int) (t28 : Int) (t37 : Int) (t38 : Int) : Option (GSketchSketch × Int) :=
 (bif (decide (t38 < t37)) then
  ((idx words_8 (IntKind.i64.wrap ((IntKind.i64.wrap (row_9 * s_3.V)) + t38))).bind fun x10 =>
  ((idx words_8 (IntKind.i64.wrap ((IntKind.i64.wrap (row_9 * s_3.V)) + t38))).bind fun x12 =>
  ((stt words_8 (IntKind.i64.wrap ((IntKind.i64.wrap (row_9 * s_3.V)) + t38)) (bxor .u64 x10 name_2)).bind fun l14 =>
  rec2 name_2 s_3 t6 l14 row_9 t26 t27 t28 t37 (IntKind.i64.wrap (t38 + 1)))))
 else
  rec1 name_2 s_3 t6 words_8 t26 t27 (IntKind.i64.wrap (t28 + 1)))
def sketchToggle_L2 (rec1 : Int → GSketchSketch → GSketchSketch → List Int → List GHash → Int → Int → Option (GSketchSketch × Int)) : Nat → Int → GSketchSketch → GSketchSketch → List Int → Int → List GHash → Int → Int → Int → Int → Option (GSketchSketch × Int)
 | 0 => fun _ _ _ _ _ _ _ _ _ _ => none
 | n + 1 => sketchToggle_B2 rec1 (sketchToggle_L2 rec1 n)
def sketchToggle_B1 (rec1 : Int → GSketchSketch → GSketchSketch → List Int → List GHash → Int → Int → Option (GSketchSketch × Int)) (name_2 : Int) (s_3 : GSketchSketch) (t6 : GSketchSketch) (words_8 : List Int) (t26 : List GHash) (t27 : Int) (t28 : Int) : Option (GSketchSketch × Int) :=
 (bif (decide (t28 < t27)) then
  ((idx t26 t28).bind fun x6 =>
  ((levelDeep_m x6 name_2 s_3.V).bind fun r8 =>
  sketchToggle_L2 rec1 FUEL name_2 s_3 t6 words_8 t28 t26 t27 t28 r8 0))
 else
  some ((GSketchSketch.mk s_3.R s_3.V words_8), 0))
def sketchToggle_L1 : Nat → Int → GSketchSketch → GSketchSketch → List Int → List GHash → Int → Int → Option (GSketchSketch × Int)
 | 0 => fun _ _ _ _ _ _ _ => none
 | n + 1 => sketchToggle_B1 (sketchToggle_L1 n)
def sketchToggle_m (s_0 : GSketchSketch) (l_1 : List GHash) (name_2 : Int) : Option (GSketchSketch × Int) :=
 ((sketchRight_m s_0).bind fun r2 =>
 (bif ((!r2) || ((l_1.length : Int) != s_0.R)) then
  some (s_0, 1)
 else
  ((slicesCloneUint64_m s_0.Words).bind fun r4 =>
  sketchToggle_L1 FUEL name_2 s_0 (GSketchSketch.mk 0 0 []) r4 l_1 (l_1.length : Int) 0)))
theorem sketchToggle_c {s_0 : GSketchSketch} {l_1 : List GHash} {name_2 : Int} {r : GSketchSketch × Int} (hm : sketchToggle_m s_0 l_1 name_2 = some r) : PureC Tryz.prog 204 [.agg [.v (.int .i64 s_0.R), .v (.int .i64 s_0.V), .sl (s_0.Words.flatMap (ci .u64)) s_0.Words.length false], .sl (l_1.flatMap cGHash) l_1.length false, .v (.int .u64 name_2)] (.tup [.agg [.v (.int .i64 r.1.R), .v (.int .i64 r.1.V), .sl (r.1.Words.flatMap (ci .u64)) r.1.Words.length false], .v (.int .i64 r.2)]) := by
 refine PureC.of_body Tryz.func204 rfl ?_
 simp only [Tryz.ntmps204, List.length_cons, List.length_nil, Nat.reduceAdd, Nat.reduceSub, empty_eq]
 unfold sketchToggle_m at hm
 refine sr (N' := 64) rfl ?_
 refine hp (id := 0) rfl rfl (aheap_box Z1 Z5) ?_
 refine hp (id := 1) rfl rfl (aheap_alloc' zc243 Z5) ?_
 refine pA ?_
 refine fs ?_
 refine AWp.seq' ?_
 refine sr (N' := 128) rfl ?_
 refine pu rfl (ap_ldv Z1 Z3 Z2) ?_
 obtain ⟨r2, h1, hm⟩ := bnd hm
 refine ARun.callQ (r := .v (.bool r2)) Zd Z1 fb199 (fun H => (cD (.agg _ (CFGSketchSketch.dat _)) .nil)) (sketchRight_c h1) ?_
 iterate 5 first | refine pA ?_ | refine pB ?_
 refine pg rfl rfl Z2 (fun hb => (ap_ldv (Zh hb) Z3 Z4)) ?_
 iterate 2 first | refine pA ?_ | refine pB ?_
 refine fs ?_
 refine AWp.condM hm Z1 (fun _ hm => ?_) (fun _ hm => ?_)
 ·
  refine sr (N' := 192) rfl ?_
  refine pu rfl (ap_ldv Z1 Z3 Z2) ?_
  refine ARun.heap0 (id := 129) rfl (ah_var (ys := [.v (.int .i64 s_0.R), .v (.int .i64 s_0.V), .sl (s_0.Words.flatMap (ci .u64)) s_0.Words.length false]) sz243 Z1 Z1 Z3 rfl (Nat.le_of_ble_eq_true rfl) Z9 rfl) ?_
  refine pA ?_
  refine fs ?_
  refine AWp.ret ?_
  refine retSeq ?_
  cases hm
  exact retL (.inr rfl) (by rw [Tryz.results204]) (.cell (ap_ldv' Z1 Z3 Z2) (.tmp Z1 .nil)) rfl (tdt (.cons (td rfl (.agg _ (CFGSketchSketch.dat _))) (.cons (td rfl (.v _)) .nil)))
 ·
  refine AWp.skip ?_
  refine normSeq ?_
  refine sr (N' := 192) rfl ?_
  refine pA ?_
  refine pu rfl (ap_ldv Z1 Z3 Z4) ?_
  obtain ⟨r4, h3, hm⟩ := bnd hm
  refine ARun.callF (id := 130) Zd Z1 fb209 (fun H => (cD ((CFi .u64).sl _ _ _) .nil)) (CFi .u64) Z5 (slicesCloneUint64_f h3) ?_
  refine pA ?_
  refine fs ?_
  refine AWp.seq' ?_
  refine sr (N' := 256) rfl ?_
  iterate 3 refine pA ?_
  refine fs ?_
  refine AWp.block ?_
  refine AWp.loopM (fun m s => ∃ (name_2 : Int) (s_3 : GSketchSketch) (t6 : GSketchSketch) (words_8 : List Int) (t26 : List GHash) (t27 : Int) (t28 : Int), s = (⟨61, (fset (fset (fset (fset (fset (fset (fset (fun _ => AV.any) 2 (.v (.int .u64 name_2))) 3 (.adr 1 0)) 6 (.adr 2 0)) 8 (.own 3 0 words_8.length)) 26 (.sl (t26.flatMap cGHash) t26.length false)) 27 (.v (.int .i64 t27))) 28 (.v (.int .i64 t28))), ⟨(upd (upd (upd nofresh 1 (.cells 1 [.v (.int .i64 s_3.R), .v (.int .i64 s_3.V), .sl (s_3.Words.flatMap (ci .u64)) s_3.Words.length false] 0)) 2 (.cells 1 [.v (.int .i64 t6.R), .v (.int .i64 t6.V), .sl (t6.Words.flatMap (ci .u64)) t6.Words.length false] 0)) 3 (.cells 1 (words_8.flatMap (ci .u64)) 0)), 64⟩⟩ : St) ∧ sketchToggle_L1 m name_2 s_3 t6 words_8 t26 t27 t28 = some r) FUEL ?_ ?_ ?_
  ·
   rintro s ⟨_, _, _, _, _, _, _, _, h⟩
   cases h
  ·
   refine ⟨_, ?_, name_2, s_0, (GSketchSketch.mk 0 0 []), r4, l_1, (l_1.length : Int), 0, rfl, hm⟩
   refine St.Le.trans (le_cells 1 (ys := [.v (.int .i64 ((GSketchSketch.mk 0 0 []).R)), .v (.int .i64 ((GSketchSketch.mk 0 0 []).V)), .sl (((GSketchSketch.mk 0 0 []).Words).flatMap (ci .u64)) ((GSketchSketch.mk 0 0 []).Words).length false]) Z3 (.cons (.data _ (.v _)) (.cons (.data _ (.v _)) (.cons (.nil false) .nil)))) ?_
   exact le_canon (fun j => bif j == 1 then 0 else bif j == 2 then 1 else bif j == 3 then 130 else 0) (wV (wV (wD (CFGHash.sl _ _ _) (wO (wk_fset _ _ (wk_adr Z1 rfl Z7) (wk_fset _ _ (wk_adr Z1 rfl Z7) (wV wk_none))))))) (heapWk_of _ (eU (CFi .u64) (entWk_upd (entWk_data Z3 (Nat.le_refl _) (Nat.zero_le _) (CFGSketchSketch.dat (GSketchSketch.mk 0 0 []))) (entWk_upd (entWk_data Z3 (Nat.le_refl _) (Nat.zero_le _) (CFGSketchSketch.dat s_0)) entWk_none))) Z8)
  ·
   rintro n1 s ⟨name_2, s_3, t6, words_8, t26, t27, t28, rfl, hm⟩
   replace hm : sketchToggle_B1 (sketchToggle_L1 n1) name_2 s_3 t6 words_8 t26 t27 t28 = some r := hm
   unfold sketchToggle_B1 at hm
   refine sr (N' := 128) rfl ?_
   refine pA ?_
   refine fs ?_
   refine AWp.seq' ?_
   refine AWp.condM hm Z1 (fun _ hm => ?_) (fun _ hm => ?_)
   ·
    refine AWp.skip ?_
    refine normSeq ?_
    refine AWp.seq' ?_
    refine AWp.block ?_
    refine sr (N' := 192) rfl ?_
    refine pA ?_
    obtain ⟨x6, h5, hm⟩ := bnd hm
    refine pu rfl (ap_idx CFGHash Zd Tryz.underlying27 sz120 Z1 rfl Z1 h5) ?_
    refine pA ?_
    refine hp (id := 131) rfl rfl (aheap_alloc' zc120 Z5) ?_
    refine pA ?_
    refine ARun.heap0 (id := 133) rfl (ah_var (ys := [.v (.int .u64 x6.A), .v (.int .u64 x6.B)]) sz120 Z1 Z1 Z3 rfl (Nat.le_of_ble_eq_true rfl) Z9 rfl) ?_
    refine fs ?_
    refine sr (N' := 256) rfl ?_
    refine pu rfl (ap_ldv Z1 Z3 Z2) ?_
    iterate 2 refine pA ?_
    refine pu rfl (ap_ldv Z1 Z3 Z4) ?_
    obtain ⟨r8, h7, hm⟩ := bnd hm
    refine ARun.callQ (r := .v (.int .i64 r8)) Zd Z1 fb210 (fun H => (cD (.agg _ (CFGHash.dat _)) (cV (cV .nil)))) (levelDeep_c h7) ?_
    refine pA ?_
    refine fs ?_
    refine AWp.block ?_
    refine AWp.loopM (fun m s => ∃ (name_2 : Int) (s_3 : GSketchSketch) (t6 : GSketchSketch) (words_8 : List Int) (row_9 : Int) (t26 : List GHash) (t27 : Int) (t28 : Int) (t37 : Int) (t38 : Int), s = (⟨61, (fset (fset (fset (fset (fset (fset (fset (fset (fset (fset (fun _ => AV.any) 2 (.v (.int .u64 name_2))) 3 (.adr 1 0)) 6 (.adr 2 0)) 8 (.own 3 0 words_8.length)) 9 (.v (.int .i64 row_9))) 26 (.sl (t26.flatMap cGHash) t26.length false)) 27 (.v (.int .i64 t27))) 28 (.v (.int .i64 t28))) 37 (.v (.int .i64 t37))) 38 (.v (.int .i64 t38))), ⟨(upd (upd (upd nofresh 1 (.cells 1 [.v (.int .i64 s_3.R), .v (.int .i64 s_3.V), .sl (s_3.Words.flatMap (ci .u64)) s_3.Words.length false] 0)) 2 (.cells 1 [.v (.int .i64 t6.R), .v (.int .i64 t6.V), .sl (t6.Words.flatMap (ci .u64)) t6.Words.length false] 0)) 3 (.cells 1 (words_8.flatMap (ci .u64)) 0)), 64⟩⟩ : St) ∧ sketchToggle_L2 (sketchToggle_L1 n1) m name_2 s_3 t6 words_8 row_9 t26 t27 t28 t37 t38 = some r) FUEL ?_ ?_ ?_
    ·
     rintro s ⟨_, _, _, _, _, _, _, _, _, _, _, h⟩
     cases h
    ·
     refine ⟨_, ?_, name_2, s_3, t6, words_8, t28, t26, t27, t28, r8, 0, rfl, hm⟩
     exact le_canon (fun j => bif j == 1 then 1 else bif j == 2 then 2 else bif j == 3 then 3 else 0) (wV (wV (wV (wV (wD (CFGHash.sl _ _ _) (wV (wO (wk_fset _ _ (wk_adr Z1 rfl Z7) (wk_fset _ _ (wk_adr Z1 rfl Z7) (wV wk_none)))))))))) (heapWk_of _ (eU (CFi .u64) (entWk_upd (entWk_data Z3 (Nat.le_refl _) (Nat.zero_le _) (CFGSketchSketch.dat t6)) (entWk_upd (entWk_data Z3 (Nat.le_refl _) (Nat.zero_le _) (CFGSketchSketch.dat s_3)) entWk_none))) Z8)
    ·
     rintro n2 s ⟨name_2, s_3, t6, words_8, row_9, t26, t27, t28, t37, t38, rfl, hm⟩
     replace hm : sketchToggle_B2 (sketchToggle_L1 n1) (sketchToggle_L2 (sketchToggle_L1 n1) n2) name_2 s_3 t6 words_8 row_9 t26 t27 t28 t37 t38 = some r := hm
     unfold sketchToggle_B2 at hm
     refine sr (N' := 128) rfl ?_
     refine pA ?_
     refine fs ?_
     refine AWp.seq' ?_
     refine AWp.condM hm Z1 (fun _ hm => ?_) (fun _ hm => ?_)
     ·
      refine AWp.skip ?_
      refine normSeq ?_
      refine AWp.seq' ?_
      refine AWp.block ?_
      refine sr (N' := 192) rfl ?_
      iterate 2 refine pA ?_
      refine fs ?_
      refine AWp.reg 64 (N' := 256) rfl ?_
      iterate 3 refine pA ?_
      refine pu rfl (ap_ldv Z1 Z3 Z4) ?_
      iterate 3 refine pA ?_
      obtain ⟨x10, h9, hm⟩ := bnd hm
      refine pu rfl (ap_idxo Tryz.underlying24 sz43 Z1 Z3 Z6 Z1 h9) ?_
      refine pu rfl (ap_ldo (CFi .u64) Z1 Z3 h9 (fun _ => by simp only [go_sem, Nat.reduceBEq]; try with_reducible rfl)) ?_
      iterate 2 refine pA ?_
      obtain ⟨x12, h11, hm⟩ := bnd hm
      refine pu rfl (ap_idxo Tryz.underlying24 sz43 Z1 Z3 Z6 Z1 h11) ?_
      obtain ⟨l14, h13, hm⟩ := bnd hm
      have qh13 := stt_len h13
      refine ARun.heap0 (id := 204) rfl (ah_stt (CFi .u64) sz43 Z1 Z1 Z3 rfl h13) ?_
      refine ARun.fin ?_
      refine normIn ?_
      refine normSeq ?_
      refine AWp.reg 64 (N' := 320) rfl ?_
      iterate 2 refine pA ?_
      refine ARun.fin ?_
      refine normThen ?_
      refine ⟨_, ?_, name_2, s_3, t6, l14, row_9, t26, t27, t28, t37, (IntKind.i64.wrap (t38 + 1)), rfl, hm⟩
      exact le_canon (fun j => bif j == 1 then 1 else bif j == 2 then 2 else bif j == 3 then 3 else 0) (wV (wV (wV (wV (wD (CFGHash.sl _ _ _) (wV (wO (wk_fset _ _ (wk_adr Z1 rfl Z7) (wk_fset _ _ (wk_adr Z1 rfl Z7) (wV wk_none)))))))))) (heapWk_of _ (eU (CFi .u64) (entWk_upd (entWk_data Z3 (Nat.le_refl _) (Nat.zero_le _) (CFGSketchSketch.dat t6)) (entWk_upd (entWk_data Z3 (Nat.le_refl _) (Nat.zero_le _) (CFGSketchSketch.dat s_3)) entWk_none))) Z8)
     ·
      refine AWp.exit ?_
      refine exitSeq ?_
      refine exitThen ?_
      refine exitHere ?_
      refine normIn ?_
      refine normSeq ?_
      refine AWp.reg 64 (N' := 192) rfl ?_
      iterate 2 refine pA ?_
      refine ARun.fin ?_
      refine normThen ?_
      refine ⟨_, ?_, name_2, s_3, t6, words_8, t26, t27, (IntKind.i64.wrap (t28 + 1)), rfl, hm⟩
      exact le_canon (fun j => bif j == 1 then 1 else bif j == 2 then 2 else bif j == 3 then 3 else 0) (wV (wV (wD (CFGHash.sl _ _ _) (wO (wk_fset _ _ (wk_adr Z1 rfl Z7) (wk_fset _ _ (wk_adr Z1 rfl Z7) (wV wk_none))))))) (heapWk_of _ (eU (CFi .u64) (entWk_upd (entWk_data Z3 (Nat.le_refl _) (Nat.zero_le _) (CFGSketchSketch.dat t6)) (entWk_upd (entWk_data Z3 (Nat.le_refl _) (Nat.zero_le _) (CFGSketchSketch.dat s_3)) entWk_none))) Z8)
   ·
    refine AWp.exit ?_
    refine exitSeq ?_
    refine exitThen ?_
    refine exitHere ?_
    refine normSeq ?_
    refine AWp.seq' ?_
    refine AWp.weaken (le_lock (CFi .u64) 8 3 Z1 Z3 Z6) ?_
    refine AWp.reg 64 (N' := 192) rfl ?_
    refine pA ?_
    refine pu rfl (ap_ldv Z1 Z3 Z4) ?_
    refine pA ?_
    refine pu rfl (ap_ldv Z1 Z3 Z4) ?_
    refine pA ?_
    refine pu rfl (by simp only [go_sem, Nat.reduceBEq]; exact (by kernel_rfl : abuild Tryz.prog 243 [(0, .v (.int .i64 s_3.R)), (1, .v (.int .i64 s_3.V)), (2, .sl (words_8.flatMap (ci .u64)) words_8.length false)] = some (.agg [.v (.int .i64 s_3.R), .v (.int .i64 s_3.V), .sl (words_8.flatMap (ci .u64)) words_8.length false]))) ?_
    refine ARun.heap0 (id := 134) rfl (ah_var (ys := [.v (.int .i64 s_3.R), .v (.int .i64 s_3.V), .sl (words_8.flatMap (ci .u64)) words_8.length false]) sz243 Z1 Z1 Z3 rfl (Nat.le_of_ble_eq_true rfl) Z9 rfl) ?_
    refine pA ?_
    refine fs ?_
    refine AWp.ret ?_
    cases hm
    exact retL (.inr rfl) (by rw [Tryz.results204]) (.cell (ap_ldv' Z1 Z3 Z2) (.tmp Z1 .nil)) rfl (tdt (.cons (td rfl (.agg _ (CFGSketchSketch.dat (GSketchSketch.mk s_3.R s_3.V words_8)))) (.cons (td rfl (.v _)) .nil)))
def searchDrawn_B1 (rec1 : GSketchSketch → GSketchSketch → List GHash → List Int → Int → Int → Option (GSketchSketch)) (t6 : GSketchSketch) (s_7 : GSketchSketch) (by_9 : List GHash) (t27 : List Int) (t28 : Int) (t29 : Int) : Option (GSketchSketch) :=
 (bif (decide (t29 < t28)) then
  ((idx t27 t29).bind fun x11 =>
  ((sketchToggle_m s_7 by_9 x11).bind fun ⟨r13, r14⟩ =>
  rec1 t6 r13 by_9 t27 t28 (IntKind.i64.wrap (t29 + 1))))
 else
  some s_7)
def searchDrawn_L1 : Nat → GSketchSketch → GSketchSketch → List GHash → List Int → Int → Int → Option (GSketchSketch)
 | 0 => fun _ _ _ _ _ _ => none
 | n + 1 => searchDrawn_B1 (searchDrawn_L1 n)
def searchDrawn_m (g_0 : GGraph) (tier_1 : Int) (out_2 : List GEdge) : Option (GSketchSketch) :=
 ((levelLevels_m g_0.Config.N).bind fun r2 =>
 ((sketchNew_m g_0.Config.R r2).bind fun ⟨r4, r5⟩ =>
 ((searchHashes0_m g_0 tier_1).bind fun r7 =>
 ((cutNames_m out_2).bind fun r9 =>
 searchDrawn_L1 FUEL (GSketchSketch.mk 0 0 []) r4 r7 r9 (r9.length : Int) 0))))
theorem searchDrawn_c {g_0 : GGraph} {tier_1 : Int} {out_2 : List GEdge} {r : GSketchSketch} (hm : searchDrawn_m g_0 tier_1 out_2 = some r) : PureC Tryz.prog 188 [.agg [.v (.int .i64 g_0.Config.N), .v (.int .i64 g_0.Config.L), .v (.int .i64 g_0.Config.R), .sl (g_0.Hashes.flatMap cGHash) g_0.Hashes.length false, .sl (g_0.Edges.flatMap cGEdge) g_0.Edges.length false], .v (.int .i64 tier_1), .sl (out_2.flatMap cGEdge) out_2.length false] (.agg [.v (.int .i64 r.R), .v (.int .i64 r.V), .sl (r.Words.flatMap (ci .u64)) r.Words.length false]) := by
 refine PureC.of_body Tryz.func188 rfl ?_
 simp only [Tryz.ntmps188, List.length_cons, List.length_nil, Nat.reduceAdd, Nat.reduceSub, empty_eq]
 unfold searchDrawn_m at hm
 refine sr (N' := 64) rfl ?_
 refine hp (id := 0) rfl rfl (aheap_box Z1 Z5) ?_
 refine hp (id := 1) rfl rfl (aheap_alloc' zc243 Z5) ?_
 refine fs ?_
 refine sd mix (by kernel_rfl) (N' := 128) rfl ?_
 iterate 2 refine pA ?_
 refine pu rfl (ap_ldv Z1 Z3 Z4) ?_
 iterate 2 refine pA ?_
 refine pu rfl (ap_ldv Z1 Z3 Z4) ?_
 obtain ⟨r2, h1, hm⟩ := bnd hm
 refine ARun.callQ (r := .v (.int .i64 r2)) Zd Z1 fb201 (fun H => (cV .nil)) (levelLevels_c h1) ?_
 obtain ⟨⟨r4, r5⟩, h3, hm⟩ := bnd hm
 refine ARun.callQ (r := .tup [.agg [.v (.int .i64 r4.R), .v (.int .i64 r4.V), .sl (r4.Words.flatMap (ci .u64)) r4.Words.length false], .v (.int .i64 r5)]) Zd Z1 fb200 (fun H => (cV (cV .nil))) (sketchNew_c h3) ?_
 iterate 3 refine pA ?_
 refine hp (id := 75) rfl rfl (aheap_alloc' zc243 Z5) ?_
 refine ARun.heap0 (id := 76) rfl (ah_var (ys := [.v (.int .i64 r4.R), .v (.int .i64 r4.V), .sl (r4.Words.flatMap (ci .u64)) r4.Words.length false]) sz243 Z1 Z1 Z3 rfl (Nat.le_of_ble_eq_true rfl) Z9 rfl) ?_
 refine pA ?_
 refine fs ?_
 refine sr (N' := 192) rfl ?_
 refine pu rfl (ap_ldv Z1 Z3 Z2) ?_
 refine pA ?_
 obtain ⟨r7, h6, hm⟩ := bnd hm
 refine ARun.callQ (r := .sl (r7.flatMap cGHash) r7.length false) Zd Z1 fb202 (fun H => (cD (.agg _ (CFGGraph.dat _)) (cV .nil))) (searchHashes0_c h6) ?_
 refine pA ?_
 refine fs ?_
 refine AWp.seq' ?_
 refine sr (N' := 256) rfl ?_
 refine pA ?_
 obtain ⟨r9, h8, hm⟩ := bnd hm
 refine ARun.callQ (r := .sl (r9.flatMap (ci .u64)) r9.length false) Zd Z1 fb203 (fun H => (cD (CFGEdge.sl _ _ _) .nil)) (cutNames_c h8) ?_
 iterate 2 refine pA ?_
 refine fs ?_
 refine AWp.block ?_
 refine AWp.loopM (fun m s => ∃ (t6 : GSketchSketch) (s_7 : GSketchSketch) (by_9 : List GHash) (t27 : List Int) (t28 : Int) (t29 : Int), s = (⟨42, (fset (fset (fset (fset (fset (fset (fun _ => AV.any) 6 (.adr 1 0)) 7 (.adr 2 0)) 9 (.sl (by_9.flatMap cGHash) by_9.length false)) 27 (.sl (t27.flatMap (ci .u64)) t27.length false)) 28 (.v (.int .i64 t28))) 29 (.v (.int .i64 t29))), ⟨(upd (upd nofresh 1 (.cells 1 [.v (.int .i64 t6.R), .v (.int .i64 t6.V), .sl (t6.Words.flatMap (ci .u64)) t6.Words.length false] 0)) 2 (.cells 1 [.v (.int .i64 s_7.R), .v (.int .i64 s_7.V), .sl (s_7.Words.flatMap (ci .u64)) s_7.Words.length false] 0)), 64⟩⟩ : St) ∧ searchDrawn_L1 m t6 s_7 by_9 t27 t28 t29 = some r) FUEL ?_ ?_ ?_
 ·
  rintro s ⟨_, _, _, _, _, _, _, h⟩
  cases h
 ·
  refine ⟨_, ?_, (GSketchSketch.mk 0 0 []), r4, r7, r9, (r9.length : Int), 0, rfl, hm⟩
  refine St.Le.trans (le_cells 1 (ys := [.v (.int .i64 ((GSketchSketch.mk 0 0 []).R)), .v (.int .i64 ((GSketchSketch.mk 0 0 []).V)), .sl (((GSketchSketch.mk 0 0 []).Words).flatMap (ci .u64)) ((GSketchSketch.mk 0 0 []).Words).length false]) Z3 (.cons (.data _ (.v _)) (.cons (.data _ (.v _)) (.cons (.nil false) .nil)))) ?_
  exact le_canon (fun j => bif j == 1 then 1 else bif j == 2 then 75 else 0) (wV (wV (wD ((CFi .u64).sl _ _ _) (wD (CFGHash.sl _ _ _) (wk_fset _ _ (wk_adr Z1 rfl Z7) (wk_fset _ _ (wk_adr Z1 rfl Z7) wk_none)))))) (heapWk_of _ (entWk_upd (entWk_data Z3 (Nat.le_refl _) (Nat.zero_le _) (CFGSketchSketch.dat r4)) (entWk_upd (entWk_data Z3 (Nat.le_refl _) (Nat.zero_le _) (CFGSketchSketch.dat (GSketchSketch.mk 0 0 []))) entWk_none)) Z8)
 ·
  rintro n1 s ⟨t6, s_7, by_9, t27, t28, t29, rfl, hm⟩
  replace hm : searchDrawn_B1 (searchDrawn_L1 n1) t6 s_7 by_9 t27 t28 t29 = some r := hm
  unfold searchDrawn_B1 at hm
  refine sr (N' := 128) rfl ?_
  refine pA ?_
  refine fs ?_
  refine AWp.seq' ?_
  refine AWp.condM hm Z1 (fun _ hm => ?_) (fun _ hm => ?_)
  ·
   refine AWp.skip ?_
   refine normSeq ?_
   refine AWp.seq' ?_
   refine AWp.block ?_
   refine sr (N' := 192) rfl ?_
   obtain ⟨x11, h10, hm⟩ := bnd hm
   refine pu rfl (ap_idx (CFi .u64) Zd Tryz.underlying24 sz43 Z1 rfl Z1 h10) ?_
   iterate 2 refine pA ?_
   refine fs ?_
   refine AWp.reg 64 (N' := 256) rfl ?_
   refine pu rfl (ap_ldv Z1 Z3 Z2) ?_
   iterate 2 refine pA ?_
   obtain ⟨⟨r13, r14⟩, h12, hm⟩ := bnd hm
   refine ARun.callQ (r := .tup [.agg [.v (.int .i64 r13.R), .v (.int .i64 r13.V), .sl (r13.Words.flatMap (ci .u64)) r13.Words.length false], .v (.int .i64 r14)]) Zd Z1 fb204 (fun H => (cD (.agg _ (CFGSketchSketch.dat _)) (cD (CFGHash.sl _ _ _) (cV .nil)))) (sketchToggle_c h12) ?_
   iterate 3 refine pA ?_
   refine ARun.heap0 (id := 199) rfl (ah_var (ys := [.v (.int .i64 r13.R), .v (.int .i64 r13.V), .sl (r13.Words.flatMap (ci .u64)) r13.Words.length false]) sz243 Z1 Z1 Z3 rfl (Nat.le_of_ble_eq_true rfl) Z9 rfl) ?_
   refine ARun.fin ?_
   refine normIn ?_
   refine normSeq ?_
   refine AWp.reg 64 (N' := 320) rfl ?_
   iterate 2 refine pA ?_
   refine ARun.fin ?_
   refine normThen ?_
   refine ⟨_, ?_, t6, r13, by_9, t27, t28, (IntKind.i64.wrap (t29 + 1)), rfl, hm⟩
   exact le_canon (fun j => bif j == 1 then 1 else bif j == 2 then 2 else 0) (wV (wV (wD ((CFi .u64).sl _ _ _) (wD (CFGHash.sl _ _ _) (wk_fset _ _ (wk_adr Z1 rfl Z7) (wk_fset _ _ (wk_adr Z1 rfl Z7) wk_none)))))) (hW (entWk_upd (entWk_data Z3 (Nat.le_refl _) (Nat.zero_le _) (CFGSketchSketch.dat r13)) (entWk_upd (entWk_data Z3 (Nat.le_refl _) (Nat.zero_le _) (CFGSketchSketch.dat t6)) entWk_none)))
  ·
   refine AWp.exit ?_
   refine exitSeq ?_
   refine exitThen ?_
   refine exitHere ?_
   refine normSeq ?_
   refine sr (N' := 192) rfl ?_
   refine pu rfl (ap_ldv Z1 Z3 Z2) ?_
   refine ARun.heap0 (id := 129) rfl (ah_var (ys := [.v (.int .i64 s_7.R), .v (.int .i64 s_7.V), .sl (s_7.Words.flatMap (ci .u64)) s_7.Words.length false]) sz243 Z1 Z1 Z3 rfl (Nat.le_of_ble_eq_true rfl) Z9 rfl) ?_
   refine fs ?_
   refine AWp.ret ?_
   cases hm
   exact retL (.inr rfl) (by rw [Tryz.results188]) (.cell (ap_ldv' Z1 Z3 Z2) .nil) rfl (td rfl (.agg _ (CFGSketchSketch.dat _)))
def nameEnds_m (name_0 : Int) : Option (Int × Int × Bool) :=
 (bif (decide ((Int.tmod name_0 16777216) ≤ (IntKind.u64.wrap (Int.tdiv name_0 16777216)))) then
  some (0, 0, false)
 else
  some ((IntKind.i64.wrap (IntKind.u64.wrap (Int.tdiv name_0 16777216))), (IntKind.i64.wrap (Int.tmod name_0 16777216)), true))
theorem nameEnds_c {name_0 : Int} {r : Int × Int × Bool} (hm : nameEnds_m name_0 = some r) : PureC Tryz.prog 189 [.v (.int .u64 name_0)] (.tup [.v (.int .i64 r.1), .v (.int .i64 r.2.1), .v (.bool r.2.2)]) := by
 refine PureC.of_body Tryz.func189 rfl ?_
 simp only [Tryz.ntmps189, List.length_cons, List.length_nil, Nat.reduceAdd, Nat.reduceSub, empty_eq]
 unfold nameEnds_m at hm
 refine sr (N' := 64) rfl ?_
 iterate 3 refine pA ?_
 refine fs ?_
 refine sr (N' := 128) rfl ?_
 iterate 6 refine pu rfl (by simp only [go_sem, Nat.reduceBEq, Int.reduceEq, Int.reduceLE]; try with_reducible rfl) ?_
 refine fs ?_
 refine AWp.seq' ?_
 refine sr (N' := 192) rfl ?_
 iterate 3 refine pA ?_
 refine fs ?_
 refine AWp.condM hm Z1 (fun _ hm => ?_) (fun _ hm => ?_)
 ·
  refine sr (N' := 256) rfl ?_
  iterate 3 refine pA ?_
  refine fs ?_
  refine AWp.ret ?_
  refine retSeq ?_
  cases hm
  exact ret3D (.inr rfl) Tryz.results189 (td Z1 (.v _)) (td Z1 (.v _)) (td Z1 (.v _))
 ·
  refine AWp.skip ?_
  refine normSeq ?_
  refine sr (N' := 256) rfl ?_
  iterate 7 refine pA ?_
  refine fs ?_
  refine AWp.ret ?_
  cases hm
  exact ret3D (.inr rfl) Tryz.results189 (td Z1 (.v _)) (td Z1 (.v _)) (td Z1 (.v _))
def sketchNames_J1 (rec1 : List Int → List Int → Int → Int → Option ((List Int))) (names_3 : List Int) (t13 : List Int) (t14 : Int) (t15 : Int) : Option ((List Int)) :=
 rec1 names_3 t13 t14 (IntKind.i64.wrap (t15 + 1))
def sketchNames_B1 (rec1 : List Int → List Int → Int → Int → Option ((List Int))) (names_3 : List Int) (t13 : List Int) (t14 : Int) (t15 : Int) : Option ((List Int)) :=
 (bif (decide (t15 < t14)) then
  ((idx t13 t15).bind fun x4 =>
  ((nameEnds_m x4).bind fun ⟨r6, r7, r8⟩ =>
  (bif r8 then
   ((app names_3 [x4]).bind fun l10 =>
   sketchNames_J1 rec1 l10 t13 t14 t15)
  else
   sketchNames_J1 rec1 names_3 t13 t14 t15)))
 else
  some names_3)
def sketchNames_L1 : Nat → List Int → List Int → Int → Int → Option ((List Int))
 | 0 => fun _ _ _ _ => none
 | n + 1 => sketchNames_B1 (sketchNames_L1 n)
def sketchNames_m (s_0 : GSketchSketch) : Option ((List Int)) :=
 ((sketchRight_m s_0).bind fun r2 =>
 (bif (!r2) then
  some []
 else
  sketchNames_L1 FUEL [] s_0.Words (s_0.Words.length : Int) 0))
theorem sketchNames_c {s_0 : GSketchSketch} {r : (List Int)} (hm : sketchNames_m s_0 = some r) : PureC Tryz.prog 187 [.agg [.v (.int .i64 s_0.R), .v (.int .i64 s_0.V), .sl (s_0.Words.flatMap (ci .u64)) s_0.Words.length false]] (.sl (r.flatMap (ci .u64)) r.length false) := by
 refine PureC.of_body Tryz.func187 rfl ?_
 simp only [Tryz.ntmps187, List.length_cons, List.length_nil, Nat.reduceAdd, Nat.reduceSub, empty_eq]
 unfold sketchNames_m at hm
 refine sr (N' := 64) rfl ?_
 refine hp (id := 0) rfl rfl (aheap_box Z1 Z5) ?_
 refine pA ?_
 refine fs ?_
 refine AWp.seq' ?_
 refine sr (N' := 128) rfl ?_
 refine pu rfl (ap_ldv Z1 Z3 Z2) ?_
 obtain ⟨r2, h1, hm⟩ := bnd hm
 refine ARun.callQ (r := .v (.bool r2)) Zd Z1 fb199 (fun H => (cD (.agg _ (CFGSketchSketch.dat _)) .nil)) (sketchRight_c h1) ?_
 refine pA ?_
 refine fs ?_
 refine AWp.condM hm Z1 (fun _ hm => ?_) (fun _ hm => ?_)
 ·
  refine sr (N' := 192) rfl ?_
  refine pA ?_
  refine fs ?_
  refine AWp.ret ?_
  refine retSeq ?_
  cases hm
  exact ret1D (.inr rfl) Tryz.results187 (tdn Z1)
 ·
  refine AWp.skip ?_
  refine normSeq ?_
  refine sr (N' := 192) rfl ?_
  refine pA ?_
  refine fs ?_
  refine AWp.seq' ?_
  refine sr (N' := 256) rfl ?_
  refine pA ?_
  refine pu rfl (ap_ldv Z1 Z3 Z4) ?_
  iterate 2 refine pA ?_
  refine fs ?_
  refine AWp.block ?_
  refine AWp.loopM (fun m s => ∃ (names_3 : List Int) (t13 : List Int) (t14 : Int) (t15 : Int), s = (⟨32, (fset (fset (fset (fset (fun _ => AV.any) 3 (.own 1 0 names_3.length)) 13 (.sl (t13.flatMap (ci .u64)) t13.length false)) 14 (.v (.int .i64 t14))) 15 (.v (.int .i64 t15))), ⟨(upd nofresh 1 (.cells 1 (names_3.flatMap (ci .u64)) 0)), 64⟩⟩ : St) ∧ sketchNames_L1 m names_3 t13 t14 t15 = some r) FUEL ?_ ?_ ?_
  ·
   rintro s ⟨_, _, _, _, _, h⟩
   cases h
  ·
   refine ⟨_, ?_, [], s_0.Words, (s_0.Words.length : Int), 0, rfl, hm⟩
   refine St.Le.trans (le_nil 3 900003 1 Z1 Z5) ?_
   exact le_canon (fun j => bif j == 1 then 900003 else 0) (wV (wV (wD ((CFi .u64).sl _ _ _) (wO wk_none)))) (hW (eU (CFi .u64) entWk_none))
  ·
   rintro n1 s ⟨names_3, t13, t14, t15, rfl, hm⟩
   replace hm : sketchNames_B1 (sketchNames_L1 n1) names_3 t13 t14 t15 = some r := hm
   unfold sketchNames_B1 at hm
   refine sr (N' := 128) rfl ?_
   refine pA ?_
   refine fs ?_
   refine AWp.seq' ?_
   refine AWp.condM hm Z1 (fun _ hm => ?_) (fun _ hm => ?_)
   ·
    refine AWp.skip ?_
    refine normSeq ?_
    refine AWp.seqJ (fun s => ∃ (names_3 : List Int) (t13 : List Int) (t14 : Int) (t15 : Int), s = (⟨32, (fset (fset (fset (fset (fun _ => AV.any) 3 (.own 1 0 names_3.length)) 13 (.sl (t13.flatMap (ci .u64)) t13.length false)) 14 (.v (.int .i64 t14))) 15 (.v (.int .i64 t15))), ⟨(upd nofresh 1 (.cells 1 (names_3.flatMap (ci .u64)) 0)), 64⟩⟩ : St) ∧ sketchNames_J1 (sketchNames_L1 n1) names_3 t13 t14 t15 = some r) ?_ ?_
    ·
     refine AWp.block ?_
     refine sr (N' := 192) rfl ?_
     obtain ⟨x4, h3, hm⟩ := bnd hm
     refine pu rfl (ap_idx (CFi .u64) Zd Tryz.underlying24 sz43 Z1 rfl Z1 h3) ?_
     iterate 2 refine pA ?_
     refine fs ?_
     refine sr (N' := 256) rfl ?_
     refine pA ?_
     obtain ⟨⟨r6, r7, r8⟩, h5, hm⟩ := bnd hm
     refine ARun.callQ (r := .tup [.v (.int .i64 r6), .v (.int .i64 r7), .v (.bool r8)]) Zd Z1 fb189 (fun H => (cV .nil)) (nameEnds_c h5) ?_
     iterate 7 refine pA ?_
     refine fs ?_
     refine sr (N' := 320) rfl ?_
     refine pA ?_
     refine fs ?_
     refine AWp.condM hm Z1 (fun _ hm => ?_) (fun _ hm => ?_)
     ·
      refine AWp.reg 64 (N' := 384) rfl ?_
      iterate 2 refine pA ?_
      refine hp (id := 322) rfl rfl (ah_list (CFi .u64) (l := [x4]) Tryz.underlying24 sz43 zc43 Z5 Zd Zd Zd (by simp only [go_sem, Nat.reduceBEq]; try rfl) (by kernel_rfl)) ?_
      obtain ⟨l10, h9, hm⟩ := bnd hm
      refine hp (id := 323) rfl rfl (ah_app (CFi .u64) Tryz.underlying24 Tryz.underlying24 rfl in43 ts43 (by rw [tb43]; decide) (by rw [tb43]; decide) tz43 Zd Zd Z1 Z3 Z6 (as_own (CFi .u64) Z1 Z3 Z6) rfl Z5 h9) ?_
      refine pA ?_
      refine ARun.fin ?_
      refine normIn ?_
      refine normJ ?_
      refine ⟨_, ?_, l10, t13, t14, t15, rfl, hm⟩
      exact le_canon (fun j => bif j == 1 then 323 else 0) (wV (wV (wD ((CFi .u64).sl _ _ _) (wO wk_none)))) (hW (eU (CFi .u64) entWk_none))
     ·
      refine AWp.skip ?_
      refine normIn ?_
      refine normJ ?_
      refine ⟨_, ?_, names_3, t13, t14, t15, rfl, hm⟩
      exact le_canon (fun j => bif j == 1 then 1 else 0) (wV (wV (wD ((CFi .u64).sl _ _ _) (wO wk_none)))) (hW (eU (CFi .u64) entWk_none))
    ·
     rintro s ⟨names_3, t13, t14, t15, rfl, hm⟩
     unfold sketchNames_J1 at hm
     refine AWp.reg 64 (N' := 128) rfl ?_
     iterate 2 refine pA ?_
     refine ARun.fin ?_
     refine normThen ?_
     refine ⟨_, ?_, names_3, t13, t14, (IntKind.i64.wrap (t15 + 1)), rfl, hm⟩
     exact le_canon (fun j => bif j == 1 then 1 else 0) (wV (wV (wD ((CFi .u64).sl _ _ _) (wO wk_none)))) (hW (eU (CFi .u64) entWk_none))
   ·
    refine AWp.exit ?_
    refine exitSeq ?_
    refine exitThen ?_
    refine exitHere ?_
    refine normSeq ?_
    refine sr (N' := 192) rfl ?_
    iterate 2 refine pA ?_
    refine fs ?_
    refine AWp.ret ?_
    cases hm
    exact ret1D (.inr rfl) Tryz.results187 (tdo (CFi .u64) Z1 Z3 Z6)
def searchSearch_J1 (rec1 : GEdge → List GEdge → List Int → Int → Int → Option (GEdge × Bool)) (t6 : GEdge) (out_8 : List GEdge) (t30 : List Int) (t31 : Int) (t32 : Int) : Option (GEdge × Bool) :=
 rec1 t6 out_8 t30 t31 (IntKind.i64.wrap (t32 + 1))
def searchSearch_B1 (rec1 : GEdge → List GEdge → List Int → Int → Int → Option (GEdge × Bool)) (t6 : GEdge) (out_8 : List GEdge) (t30 : List Int) (t31 : Int) (t32 : Int) : Option (GEdge × Bool) :=
 (bif (decide (t32 < t31)) then
  ((idx t30 t32).bind fun x10 =>
  ((nameEnds_m x10).bind fun ⟨r12, r13, r14⟩ =>
  (bif (!r14) then
   searchSearch_J1 rec1 t6 out_8 t30 t31 t32
  else
   ((nameFind_m out_8 r12 r13).bind fun ⟨r16, r17⟩ =>
   (bif r17 then
    ((idx out_8 r16).bind fun x19 =>
    some (x19, true))
   else
    searchSearch_J1 rec1 t6 out_8 t30 t31 t32)))))
 else
  some ((GEdge.mk 0 0 0), false))
def searchSearch_L1 : Nat → GEdge → List GEdge → List Int → Int → Int → Option (GEdge × Bool)
 | 0 => fun _ _ _ _ _ => none
 | n + 1 => searchSearch_B1 (searchSearch_L1 n)
def searchSearch_m (g_0 : GGraph) (tier_1 : Int) (v_2 : Int) : Option (GEdge × Bool) :=
 ((searchHasSketch_m g_0 tier_1 v_2).bind fun r2 =>
 (bif (!r2) then
  some ((GEdge.mk 0 0 0), false)
 else
  ((searchCutOf_m g_0 tier_1 v_2).bind fun r4 =>
  ((searchDrawn_m g_0 tier_1 r4).bind fun r6 =>
  ((sketchNames_m r6).bind fun r8 =>
  searchSearch_L1 FUEL (GEdge.mk 0 0 0) r4 r8 (r8.length : Int) 0)))))
theorem searchSearch_c {g_0 : GGraph} {tier_1 : Int} {v_2 : Int} {r : GEdge × Bool} (hm : searchSearch_m g_0 tier_1 v_2 = some r) : PureC Tryz.prog 169 [.agg [.v (.int .i64 g_0.Config.N), .v (.int .i64 g_0.Config.L), .v (.int .i64 g_0.Config.R), .sl (g_0.Hashes.flatMap cGHash) g_0.Hashes.length false, .sl (g_0.Edges.flatMap cGEdge) g_0.Edges.length false], .v (.int .i64 tier_1), .v (.int .i64 v_2)] (.tup [.agg [.v (.int .i64 r.1.U), .v (.int .i64 r.1.V), .v (.int .i64 r.1.Tier)], .v (.bool r.2)]) := by
 refine PureC.of_body Tryz.func169 rfl ?_
 simp only [Tryz.ntmps169, List.length_cons, List.length_nil, Nat.reduceAdd, Nat.reduceSub, empty_eq]
 unfold searchSearch_m at hm
 refine sr (N' := 64) rfl ?_
 refine hp (id := 0) rfl rfl (aheap_box Z1 Z5) ?_
 refine hp (id := 1) rfl rfl (aheap_alloc' zc102 Z5) ?_
 refine pA ?_
 refine fs ?_
 refine AWp.seq' ?_
 refine sr (N' := 128) rfl ?_
 refine pu rfl (ap_ldv Z1 Z3 Z2) ?_
 iterate 2 refine pA ?_
 obtain ⟨r2, h1, hm⟩ := bnd hm
 refine ARun.callQ (r := .v (.bool r2)) Zd Z1 fb185 (fun H => (cD (.agg _ (CFGGraph.dat _)) (cV (cV .nil)))) (searchHasSketch_c h1) ?_
 refine pA ?_
 refine fs ?_
 refine AWp.condM hm Z1 (fun _ hm => ?_) (fun _ hm => ?_)
 ·
  refine sr (N' := 192) rfl ?_
  refine pu rfl (by simp only [go_sem, Nat.reduceBEq]; exact (by kernel_rfl : abuild Tryz.prog 102 [] = some (.agg [.v (.int .i64 0), .v (.int .i64 0), .v (.int .i64 0)]))) ?_
  refine ARun.heap0 (id := 129) rfl (ah_var (ys := [.v (.int .i64 0), .v (.int .i64 0), .v (.int .i64 0)]) sz102 Z1 Z1 Z3 rfl (Nat.le_of_ble_eq_true rfl) Z9 rfl) ?_
  refine pA ?_
  refine fs ?_
  refine AWp.ret ?_
  refine retSeq ?_
  cases hm
  exact retL (.inr rfl) (by rw [Tryz.results169]) (.cell (ap_ldv' Z1 Z3 Z2) (.tmp Z1 .nil)) rfl (tdt (.cons (td rfl (.agg _ (CFGEdge.dat (GEdge.mk 0 0 0)))) (.cons (td rfl (.v _)) .nil)))
 ·
  refine AWp.skip ?_
  refine normSeq ?_
  refine sr (N' := 192) rfl ?_
  refine pu rfl (ap_ldv Z1 Z3 Z2) ?_
  iterate 2 refine pA ?_
  obtain ⟨r4, h3, hm⟩ := bnd hm
  refine ARun.callQ (r := .sl (r4.flatMap cGEdge) r4.length false) Zd Z1 fb186 (fun H => (cD (.agg _ (CFGGraph.dat _)) (cV (cV .nil)))) (searchCutOf_c h3) ?_
  refine pA ?_
  refine fs ?_
  refine AWp.seq' ?_
  refine sr (N' := 256) rfl ?_
  refine pu rfl (ap_ldv Z1 Z3 Z2) ?_
  iterate 2 refine pA ?_
  obtain ⟨r6, h5, hm⟩ := bnd hm
  refine ARun.callQ (r := .agg [.v (.int .i64 r6.R), .v (.int .i64 r6.V), .sl (r6.Words.flatMap (ci .u64)) r6.Words.length false]) Zd Z1 fb188 (fun H => (cD (.agg _ (CFGGraph.dat _)) (cV (cD (CFGEdge.sl _ _ _) .nil)))) (searchDrawn_c h5) ?_
  obtain ⟨r8, h7, hm⟩ := bnd hm
  refine ARun.callQ (r := .sl (r8.flatMap (ci .u64)) r8.length false) Zd Z1 fb187 (fun H => (cD (.agg _ (CFGSketchSketch.dat _)) .nil)) (sketchNames_c h7) ?_
  iterate 2 refine pA ?_
  refine fs ?_
  refine AWp.block ?_
  refine AWp.loopM (fun m s => ∃ (t6 : GEdge) (out_8 : List GEdge) (t30 : List Int) (t31 : Int) (t32 : Int), s = (⟨58, (fset (fset (fset (fset (fset (fun _ => AV.any) 6 (.adr 1 0)) 8 (.sl (out_8.flatMap cGEdge) out_8.length false)) 30 (.sl (t30.flatMap (ci .u64)) t30.length false)) 31 (.v (.int .i64 t31))) 32 (.v (.int .i64 t32))), ⟨(upd nofresh 1 (.cells 1 [.v (.int .i64 t6.U), .v (.int .i64 t6.V), .v (.int .i64 t6.Tier)] 0)), 64⟩⟩ : St) ∧ searchSearch_L1 m t6 out_8 t30 t31 t32 = some r) FUEL ?_ ?_ ?_
  ·
   rintro s ⟨_, _, _, _, _, _, h⟩
   cases h
  ·
   refine ⟨_, ?_, (GEdge.mk 0 0 0), r4, r8, (r8.length : Int), 0, rfl, hm⟩
   exact le_canon (fun j => bif j == 1 then 1 else 0) (wV (wV (wD ((CFi .u64).sl _ _ _) (wD (CFGEdge.sl _ _ _) (wk_fset _ _ (wk_adr Z1 rfl Z7) wk_none))))) (hW (entWk_upd (entWk_data Z3 (Nat.le_refl _) (Nat.zero_le _) (CFGEdge.dat (GEdge.mk 0 0 0))) entWk_none))
  ·
   rintro n1 s ⟨t6, out_8, t30, t31, t32, rfl, hm⟩
   replace hm : searchSearch_B1 (searchSearch_L1 n1) t6 out_8 t30 t31 t32 = some r := hm
   unfold searchSearch_B1 at hm
   refine sr (N' := 128) rfl ?_
   refine pA ?_
   refine fs ?_
   refine AWp.seq' ?_
   refine AWp.condM hm Z1 (fun _ hm => ?_) (fun _ hm => ?_)
   ·
    refine AWp.skip ?_
    refine normSeq ?_
    refine AWp.seqJ (fun s => ∃ (t6 : GEdge) (out_8 : List GEdge) (t30 : List Int) (t31 : Int) (t32 : Int), s = (⟨58, (fset (fset (fset (fset (fset (fun _ => AV.any) 6 (.adr 1 0)) 8 (.sl (out_8.flatMap cGEdge) out_8.length false)) 30 (.sl (t30.flatMap (ci .u64)) t30.length false)) 31 (.v (.int .i64 t31))) 32 (.v (.int .i64 t32))), ⟨(upd nofresh 1 (.cells 1 [.v (.int .i64 t6.U), .v (.int .i64 t6.V), .v (.int .i64 t6.Tier)] 0)), 64⟩⟩ : St) ∧ searchSearch_J1 (searchSearch_L1 n1) t6 out_8 t30 t31 t32 = some r) ?_ ?_
    ·
     refine AWp.block ?_
     refine sr (N' := 192) rfl ?_
     obtain ⟨x10, h9, hm⟩ := bnd hm
     refine pu rfl (ap_idx (CFi .u64) Zd Tryz.underlying24 sz43 Z1 rfl Z1 h9) ?_
     iterate 2 refine pA ?_
     refine fs ?_
     refine sr (N' := 256) rfl ?_
     refine pA ?_
     obtain ⟨⟨r12, r13, r14⟩, h11, hm⟩ := bnd hm
     refine ARun.callQ (r := .tup [.v (.int .i64 r12), .v (.int .i64 r13), .v (.bool r14)]) Zd Z1 fb189 (fun H => (cV .nil)) (nameEnds_c h11) ?_
     iterate 7 refine pA ?_
     refine fs ?_
     refine AWp.seq' ?_
     refine sr (N' := 320) rfl ?_
     iterate 2 refine pA ?_
     refine fs ?_
     refine AWp.condM hm Z1 (fun _ hm => ?_) (fun _ hm => ?_)
     ·
      refine AWp.exit ?_
      refine exitSeq ?_
      refine exitHere ?_
      refine normJ ?_
      refine ⟨_, ?_, t6, out_8, t30, t31, t32, rfl, hm⟩
      exact le_canon (fun j => bif j == 1 then 1 else 0) (wV (wV (wD ((CFi .u64).sl _ _ _) (wD (CFGEdge.sl _ _ _) (wk_fset _ _ (wk_adr Z1 rfl Z7) wk_none))))) (hW (entWk_upd (entWk_data Z3 (Nat.le_refl _) (Nat.zero_le _) (CFGEdge.dat t6)) entWk_none))
     ·
      refine AWp.skip ?_
      refine normSeq ?_
      refine sr (N' := 384) rfl ?_
      iterate 3 refine pA ?_
      obtain ⟨⟨r16, r17⟩, h15, hm⟩ := bnd hm
      refine ARun.callQ (r := .tup [.v (.int .i64 r16), .v (.bool r17)]) Zd Z1 fb74 (fun H => (cD (CFGEdge.sl _ _ _) (cV (cV .nil)))) (nameFind_c h15) ?_
      iterate 5 refine pA ?_
      refine fs ?_
      refine sr (N' := 448) rfl ?_
      refine pA ?_
      refine fs ?_
      refine AWp.condM hm Z1 (fun _ hm => ?_) (fun _ hm => ?_)
      ·
       refine sr (N' := 512) rfl ?_
       iterate 2 refine pA ?_
       obtain ⟨x19, h18, hm⟩ := bnd hm
       refine pu rfl (ap_idx CFGEdge Zd Tryz.underlying28 sz102 Z1 rfl Z1 h18) ?_
       refine pA ?_
       refine ARun.heap0 (id := 452) rfl (ah_var (ys := [.v (.int .i64 x19.U), .v (.int .i64 x19.V), .v (.int .i64 x19.Tier)]) sz102 Z1 Z1 Z3 rfl (Nat.le_of_ble_eq_true rfl) Z9 rfl) ?_
       refine pA ?_
       refine fs ?_
       refine AWp.ret ?_
       refine retIn ?_
       refine retJ ?_
       refine retThen ?_
       refine retIn ?_
       refine retSeq ?_
       cases hm
       exact retL (.inr rfl) (by rw [Tryz.results169]) (.cell (ap_ldv' Z1 Z3 Z2) (.tmp Z1 .nil)) rfl (tdt (.cons (td rfl (.agg _ (CFGEdge.dat _))) (.cons (td rfl (.v _)) .nil)))
      ·
       refine AWp.skip ?_
       refine normIn ?_
       refine normJ ?_
       refine ⟨_, ?_, t6, out_8, t30, t31, t32, rfl, hm⟩
       exact le_canon (fun j => bif j == 1 then 1 else 0) (wV (wV (wD ((CFi .u64).sl _ _ _) (wD (CFGEdge.sl _ _ _) (wk_fset _ _ (wk_adr Z1 rfl Z7) wk_none))))) (hW (entWk_upd (entWk_data Z3 (Nat.le_refl _) (Nat.zero_le _) (CFGEdge.dat t6)) entWk_none))
    ·
     rintro s ⟨t6, out_8, t30, t31, t32, rfl, hm⟩
     unfold searchSearch_J1 at hm
     refine AWp.reg 64 (N' := 128) rfl ?_
     iterate 2 refine pA ?_
     refine ARun.fin ?_
     refine normThen ?_
     refine ⟨_, ?_, t6, out_8, t30, t31, (IntKind.i64.wrap (t32 + 1)), rfl, hm⟩
     exact le_canon (fun j => bif j == 1 then 1 else 0) (wV (wV (wD ((CFi .u64).sl _ _ _) (wD (CFGEdge.sl _ _ _) (wk_fset _ _ (wk_adr Z1 rfl Z7) wk_none))))) (hW (entWk_upd (entWk_data Z3 (Nat.le_refl _) (Nat.zero_le _) (CFGEdge.dat t6)) entWk_none))
   ·
    refine AWp.exit ?_
    refine exitSeq ?_
    refine exitThen ?_
    refine exitHere ?_
    refine normSeq ?_
    refine sr (N' := 192) rfl ?_
    refine pu rfl (by simp only [go_sem, Nat.reduceBEq]; exact (by kernel_rfl : abuild Tryz.prog 102 [] = some (.agg [.v (.int .i64 0), .v (.int .i64 0), .v (.int .i64 0)]))) ?_
    refine ARun.heap0 (id := 129) rfl (ah_var (ys := [.v (.int .i64 0), .v (.int .i64 0), .v (.int .i64 0)]) sz102 Z1 Z1 Z3 rfl (Nat.le_of_ble_eq_true rfl) Z9 rfl) ?_
    refine pA ?_
    refine fs ?_
    refine AWp.ret ?_
    cases hm
    exact retL (.inr rfl) (by rw [Tryz.results169]) (.cell (ap_ldv' Z1 Z3 Z2) (.tmp Z1 .nil)) rfl (tdt (.cons (td rfl (.agg _ (CFGEdge.dat (GEdge.mk 0 0 0)))) (.cons (td rfl (.v _)) .nil)))
def groveGreatest_J1 (rec1 : GEdge → GEdge → List GEdge → Int → Int → Option (GEdge × Bool)) (t2 : GEdge) (greatest_4 : GEdge) (t15 : List GEdge) (t16 : Int) (t17 : Int) : Option (GEdge × Bool) :=
 rec1 t2 greatest_4 t15 t16 (IntKind.i64.wrap (t17 + 1))
def groveGreatest_B1 (rec1 : GEdge → GEdge → List GEdge → Int → Int → Option (GEdge × Bool)) (t2 : GEdge) (greatest_4 : GEdge) (t15 : List GEdge) (t16 : Int) (t17 : Int) : Option (GEdge × Bool) :=
 (bif (decide (t17 < t16)) then
  ((idx t15 t17).bind fun x6 =>
  ((gopt (((decide (greatest_4.Tier < x6.Tier)) == false) && ((x6.Tier == greatest_4.Tier) == true)) false (nameLess_m greatest_4 x6)).bind fun r8 =>
  (bif ((decide (greatest_4.Tier < x6.Tier)) || ((x6.Tier == greatest_4.Tier) && r8)) then
   groveGreatest_J1 rec1 t2 x6 t15 t16 t17
  else
   groveGreatest_J1 rec1 t2 greatest_4 t15 t16 t17)))
 else
  some (greatest_4, true))
def groveGreatest_L1 : Nat → GEdge → GEdge → List GEdge → Int → Int → Option (GEdge × Bool)
 | 0 => fun _ _ _ _ _ => none
 | n + 1 => groveGreatest_B1 (groveGreatest_L1 n)
def groveGreatest_m (l_0 : List GEdge) : Option (GEdge × Bool) :=
 (bif ((l_0.length : Int) == 0) then
  some ((GEdge.mk 0 0 0), false)
 else
  ((idx l_0 0).bind fun x2 =>
  ((slc l_0 1 (l_0.length : Int)).bind fun l4 =>
  groveGreatest_L1 FUEL (GEdge.mk 0 0 0) x2 l4 (l4.length : Int) 0)))
theorem groveGreatest_c {l_0 : List GEdge} {r : GEdge × Bool} (hm : groveGreatest_m l_0 = some r) : PureC Tryz.prog 171 [.sl (l_0.flatMap cGEdge) l_0.length false] (.tup [.agg [.v (.int .i64 r.1.U), .v (.int .i64 r.1.V), .v (.int .i64 r.1.Tier)], .v (.bool r.2)]) := by
 refine PureC.of_body Tryz.func171 rfl ?_
 simp only [Tryz.ntmps171, List.length_cons, List.length_nil, Nat.reduceAdd, Nat.reduceSub, empty_eq]
 unfold groveGreatest_m at hm
 refine sr (N' := 64) rfl ?_
 refine hp (id := 0) rfl rfl (aheap_alloc' zc102 Z5) ?_
 refine pA ?_
 refine fs ?_
 refine AWp.seq' ?_
 refine sr (N' := 128) rfl ?_
 iterate 3 refine pA ?_
 refine fs ?_
 refine AWp.condM hm Z1 (fun _ hm => ?_) (fun _ hm => ?_)
 ·
  refine sr (N' := 192) rfl ?_
  refine pu rfl (by simp only [go_sem, Nat.reduceBEq]; exact (by kernel_rfl : abuild Tryz.prog 102 [] = some (.agg [.v (.int .i64 0), .v (.int .i64 0), .v (.int .i64 0)]))) ?_
  refine ARun.heap0 (id := 129) rfl (ah_var (ys := [.v (.int .i64 0), .v (.int .i64 0), .v (.int .i64 0)]) sz102 Z1 Z1 Z3 rfl (Nat.le_of_ble_eq_true rfl) Z9 rfl) ?_
  refine pA ?_
  refine fs ?_
  refine AWp.ret ?_
  refine retSeq ?_
  cases hm
  exact retL (.inr rfl) (by rw [Tryz.results171]) (.cell (ap_ldv' Z1 Z3 Z2) (.tmp Z1 .nil)) rfl (tdt (.cons (td rfl (.agg _ (CFGEdge.dat (GEdge.mk 0 0 0)))) (.cons (td rfl (.v _)) .nil)))
 ·
  refine AWp.skip ?_
  refine normSeq ?_
  refine sr (N' := 192) rfl ?_
  refine pA ?_
  obtain ⟨x2, h1, hm⟩ := bnd hm
  refine pu rfl (ap_idx CFGEdge Zd Tryz.underlying28 sz102 Z1 rfl Z1 h1) ?_
  refine pA ?_
  refine hp (id := 131) rfl rfl (aheap_alloc' zc102 Z5) ?_
  refine ARun.heap0 (id := 132) rfl (ah_var (ys := [.v (.int .i64 x2.U), .v (.int .i64 x2.V), .v (.int .i64 x2.Tier)]) sz102 Z1 Z1 Z3 rfl (Nat.le_of_ble_eq_true rfl) Z9 rfl) ?_
  refine fs ?_
  refine AWp.seq' ?_
  refine sr (N' := 256) rfl ?_
  refine pA ?_
  obtain ⟨l4, h3, hm⟩ := bnd hm
  refine pu rfl (ap_slc CFGEdge Tryz.underlying28 sz102 Z1 rfl (ab_some Z1 (slc_0 h3).1) (ab_none _) h3) ?_
  iterate 2 refine pA ?_
  refine fs ?_
  refine AWp.block ?_
  refine AWp.loopM (fun m s => ∃ (t2 : GEdge) (greatest_4 : GEdge) (t15 : List GEdge) (t16 : Int) (t17 : Int), s = (⟨41, (fset (fset (fset (fset (fset (fun _ => AV.any) 2 (.adr 1 0)) 4 (.adr 2 0)) 15 (.sl (t15.flatMap cGEdge) t15.length false)) 16 (.v (.int .i64 t16))) 17 (.v (.int .i64 t17))), ⟨(upd (upd nofresh 1 (.cells 1 [.v (.int .i64 t2.U), .v (.int .i64 t2.V), .v (.int .i64 t2.Tier)] 0)) 2 (.cells 1 [.v (.int .i64 greatest_4.U), .v (.int .i64 greatest_4.V), .v (.int .i64 greatest_4.Tier)] 0)), 64⟩⟩ : St) ∧ groveGreatest_L1 m t2 greatest_4 t15 t16 t17 = some r) FUEL ?_ ?_ ?_
  ·
   rintro s ⟨_, _, _, _, _, _, h⟩
   cases h
  ·
   refine ⟨_, ?_, (GEdge.mk 0 0 0), x2, l4, (l4.length : Int), 0, rfl, hm⟩
   refine St.Le.trans (le_tod 15 (.sl (l4.flatMap cGEdge) l4.length false) (fun H => (tdf Z1 (CFGEdge.sl _ _ _)))) ?_
   exact le_canon (fun j => bif j == 1 then 0 else bif j == 2 then 131 else 0) (wV (wV (wD (CFGEdge.sl _ _ _) (wk_fset _ _ (wk_adr Z1 rfl Z7) (wk_fset _ _ (wk_adr Z1 rfl Z7) wk_none))))) (heapWk_of _ (entWk_upd (entWk_data Z3 (Nat.le_refl _) (Nat.zero_le _) (CFGEdge.dat x2)) (entWk_upd (entWk_data Z3 (Nat.le_refl _) (Nat.zero_le _) (CFGEdge.dat (GEdge.mk 0 0 0))) entWk_none)) Z8)
  ·
   rintro n1 s ⟨t2, greatest_4, t15, t16, t17, rfl, hm⟩
   replace hm : groveGreatest_B1 (groveGreatest_L1 n1) t2 greatest_4 t15 t16 t17 = some r := hm
   unfold groveGreatest_B1 at hm
   refine sr (N' := 128) rfl ?_
   refine pA ?_
   refine fs ?_
   refine AWp.seq' ?_
   refine AWp.condM hm Z1 (fun _ hm => ?_) (fun _ hm => ?_)
   ·
    refine AWp.skip ?_
    refine normSeq ?_
    refine AWp.seqJ (fun s => ∃ (t2 : GEdge) (greatest_4 : GEdge) (t15 : List GEdge) (t16 : Int) (t17 : Int), s = (⟨41, (fset (fset (fset (fset (fset (fun _ => AV.any) 2 (.adr 1 0)) 4 (.adr 2 0)) 15 (.sl (t15.flatMap cGEdge) t15.length false)) 16 (.v (.int .i64 t16))) 17 (.v (.int .i64 t17))), ⟨(upd (upd nofresh 1 (.cells 1 [.v (.int .i64 t2.U), .v (.int .i64 t2.V), .v (.int .i64 t2.Tier)] 0)) 2 (.cells 1 [.v (.int .i64 greatest_4.U), .v (.int .i64 greatest_4.V), .v (.int .i64 greatest_4.Tier)] 0)), 64⟩⟩ : St) ∧ groveGreatest_J1 (groveGreatest_L1 n1) t2 greatest_4 t15 t16 t17 = some r) ?_ ?_
    ·
     refine AWp.block ?_
     refine sr (N' := 192) rfl ?_
     obtain ⟨x6, h5, hm⟩ := bnd hm
     refine pu rfl (ap_idx CFGEdge Zd Tryz.underlying28 sz102 Z1 rfl Z1 h5) ?_
     refine pA ?_
     refine hp (id := 130) rfl rfl (aheap_alloc' zc102 Z5) ?_
     refine ARun.heap0 (id := 131) rfl (ah_var (ys := [.v (.int .i64 x6.U), .v (.int .i64 x6.V), .v (.int .i64 x6.Tier)]) sz102 Z1 Z1 Z3 rfl (Nat.le_of_ble_eq_true rfl) Z9 rfl) ?_
     refine fs ?_
     refine sr (N' := 256) rfl ?_
     refine pA ?_
     refine pu rfl (ap_ldv Z1 Z3 Z4) ?_
     refine pA ?_
     refine pu rfl (ap_ldv Z1 Z3 Z4) ?_
     iterate 3 first | refine pA ?_ | refine pB ?_
     refine pg rfl rfl Z2 (fun hb => (ap_ldv (Zh hb) Z3 Z4)) ?_
     refine pB ?_
     refine pg rfl rfl Z2 (fun hb => (ap_ldv (Zh hb) Z3 Z4)) ?_
     iterate 2 refine pB ?_
     refine pg rfl rfl Z2 (fun hb => (ap_ldv (Zh hb) Z3 Z2)) ?_
     refine pg rfl rfl Z2 (fun hb => (ap_ldv (Zh hb) Z3 Z2)) ?_
     obtain ⟨r8, h7, hm⟩ := bnd hm
     refine ARun.callQG (r := .v (.bool r8)) Zd rfl Z2 Z1 fb121 (fun hb H => (.cons (td (Zh hb) (.agg _ (CFGEdge.dat _))) (.cons (td (Zh hb) (.agg _ (CFGEdge.dat _))) .nil))) (fun hb => nameLess_c (gopt_t h7 hb)) ?_
     iterate 2 first | refine pA ?_ | refine pB ?_
     refine fs ?_
     refine AWp.condM hm Z1 (fun _ hm => ?_) (fun _ hm => ?_)
     ·
      refine AWp.reg 64 (N' := 320) rfl ?_
      refine pu rfl (ap_ldv Z1 Z3 Z2) ?_
      refine ARun.heap0 (id := 257) rfl (ah_var (ys := [.v (.int .i64 x6.U), .v (.int .i64 x6.V), .v (.int .i64 x6.Tier)]) sz102 Z1 Z1 Z3 rfl (Nat.le_of_ble_eq_true rfl) Z9 rfl) ?_
      refine ARun.fin ?_
      refine normIn ?_
      refine normJ ?_
      refine ⟨_, ?_, t2, x6, t15, t16, t17, rfl, hm⟩
      exact le_canon (fun j => bif j == 1 then 1 else bif j == 2 then 2 else 0) (wV (wV (wD (CFGEdge.sl _ _ _) (wk_fset _ _ (wk_adr Z1 rfl Z7) (wk_fset _ _ (wk_adr Z1 rfl Z7) wk_none))))) (hW (entWk_upd (entWk_data Z3 (Nat.le_refl _) (Nat.zero_le _) (CFGEdge.dat x6)) (entWk_upd (entWk_data Z3 (Nat.le_refl _) (Nat.zero_le _) (CFGEdge.dat t2)) entWk_none)))
     ·
      refine AWp.skip ?_
      refine normIn ?_
      refine normJ ?_
      refine ⟨_, ?_, t2, greatest_4, t15, t16, t17, rfl, hm⟩
      exact le_canon (fun j => bif j == 1 then 1 else bif j == 2 then 2 else 0) (wV (wV (wD (CFGEdge.sl _ _ _) (wk_fset _ _ (wk_adr Z1 rfl Z7) (wk_fset _ _ (wk_adr Z1 rfl Z7) wk_none))))) (hW (entWk_upd (entWk_data Z3 (Nat.le_refl _) (Nat.zero_le _) (CFGEdge.dat greatest_4)) (entWk_upd (entWk_data Z3 (Nat.le_refl _) (Nat.zero_le _) (CFGEdge.dat t2)) entWk_none)))
    ·
     rintro s ⟨t2, greatest_4, t15, t16, t17, rfl, hm⟩
     unfold groveGreatest_J1 at hm
     refine AWp.reg 64 (N' := 128) rfl ?_
     iterate 2 refine pA ?_
     refine ARun.fin ?_
     refine normThen ?_
     refine ⟨_, ?_, t2, greatest_4, t15, t16, (IntKind.i64.wrap (t17 + 1)), rfl, hm⟩
     exact le_canon (fun j => bif j == 1 then 1 else bif j == 2 then 2 else 0) (wV (wV (wD (CFGEdge.sl _ _ _) (wk_fset _ _ (wk_adr Z1 rfl Z7) (wk_fset _ _ (wk_adr Z1 rfl Z7) wk_none))))) (hW (entWk_upd (entWk_data Z3 (Nat.le_refl _) (Nat.zero_le _) (CFGEdge.dat greatest_4)) (entWk_upd (entWk_data Z3 (Nat.le_refl _) (Nat.zero_le _) (CFGEdge.dat t2)) entWk_none)))
   ·
    refine AWp.exit ?_
    refine exitSeq ?_
    refine exitThen ?_
    refine exitHere ?_
    refine normSeq ?_
    refine sr (N' := 192) rfl ?_
    refine pu rfl (ap_ldv Z1 Z3 Z2) ?_
    refine ARun.heap0 (id := 129) rfl (ah_var (ys := [.v (.int .i64 greatest_4.U), .v (.int .i64 greatest_4.V), .v (.int .i64 greatest_4.Tier)]) sz102 Z1 Z1 Z3 rfl (Nat.le_of_ble_eq_true rfl) Z9 rfl) ?_
    refine pA ?_
    refine fs ?_
    refine AWp.ret ?_
    cases hm
    exact retL (.inr rfl) (by rw [Tryz.results171]) (.cell (ap_ldv' Z1 Z3 Z2) (.tmp Z1 .nil)) rfl (tdt (.cons (td rfl (.agg _ (CFGEdge.dat _))) (.cons (td rfl (.v _)) .nil)))
def slicesCloneEdge_m (l : List GEdge) : Option (List GEdge) := app [] l
theorem slicesCloneEdge_fA {r : List GEdge} (hm : some [] = some r) : FreshC Tryz.prog 193 [.v (.slice none 0 0)] 3 (r.flatMap cGEdge) r.length := by
 refine FreshC.of_body Tryz.func193 rfl (CFGEdge.fmdat r) ?_
 simp only [Tryz.ntmps193, List.length_cons, List.length_nil, Nat.reduceAdd, Nat.reduceSub, empty_eq]
 refine sr (N' := 64) rfl ?_
 refine pA ?_
 refine fs ?_
 refine AWp.seq' ?_
 refine sr (N' := 128) rfl ?_
 refine pA ?_
 refine pu rfl (ap_eqn Z1 Z1 (abin_nil Tryz.underlying28)) ?_
 refine fs ?_
 refine AWp.condT Z1 ?_
 refine sr (N' := 192) rfl ?_
 refine pA ?_
 refine fs ?_
 refine AWp.weaken (le_nil 2 900002 3 Z1 Z5) ?_
 refine AWp.ret ?_
 refine retSeq ?_
 cases hm
 exact retF (.inr rfl) Tryz.results193 Z1 Z3 Z6
theorem slicesCloneEdge_fB {a : Addr} {c : Nat} {r : List GEdge} (hm : ((app [] []).bind fun l2 =>
some l2) = some r) : FreshC Tryz.prog 193 [.v (.slice (some a) 0 c)] 3 (r.flatMap cGEdge) r.length := by
 refine FreshC.of_body Tryz.func193 rfl (CFGEdge.fmdat r) ?_
 simp only [Tryz.ntmps193, List.length_cons, List.length_nil, Nat.reduceAdd, Nat.reduceSub, empty_eq]
 refine sr (N' := 64) rfl ?_
 refine pA ?_
 refine fs ?_
 refine AWp.seq' ?_
 refine sr (N' := 128) rfl ?_
 refine pA ?_
 refine pu rfl (ap_eqn Z1 Z1 (abin_xnil Tryz.underlying28)) ?_
 refine fs ?_
 refine AWp.condF Z1 ?_
 refine AWp.skip ?_
 refine normSeq ?_
 refine sr (N' := 192) rfl ?_
 refine hp (id := 128) rfl rfl (ah_list CFGEdge (l := []) Tryz.underlying28 sz102 zc102 Z5 Zd Zd Zd (by simp only [go_sem, Nat.reduceBEq]; try rfl) (by kernel_rfl)) ?_
 refine pA ?_
 obtain ⟨l2, h1, hm⟩ := bnd hm
 refine hp (id := 130) rfl rfl (ah_app CFGEdge Tryz.underlying28 Tryz.underlying28 rfl in102 ts102 (by rw [tb102]; decide) (by rw [tb102]; decide) tz102 Zd Zd Z1 Z3 Z6 (as_xnil Z1) rfl Z5 h1) ?_
 refine pA ?_
 refine fs ?_
 refine AWp.ret ?_
 cases hm
 exact retF (.inr rfl) Tryz.results193 Z1 Z3 Z6
theorem slicesCloneEdge_fC {x0 : GEdge} {l0 : List GEdge} {r : List GEdge} (hm : ((app [] (x0 :: l0)).bind fun l2 =>
some l2) = some r) : FreshC Tryz.prog 193 [.sl ((x0 :: l0).flatMap cGEdge) (x0 :: l0).length false] 3 (r.flatMap cGEdge) r.length := by
 refine FreshC.of_body Tryz.func193 rfl (CFGEdge.fmdat r) ?_
 simp only [Tryz.ntmps193, List.length_cons, List.length_nil, Nat.reduceAdd, Nat.reduceSub, empty_eq]
 refine sr (N' := 64) rfl ?_
 refine pA ?_
 refine fs ?_
 refine AWp.seq' ?_
 refine sr (N' := 128) rfl ?_
 refine pA ?_
 refine pu rfl (ap_eqn Z1 Z1 (abin_nnil Tryz.underlying28 (by simp))) ?_
 refine fs ?_
 refine AWp.condF Z1 ?_
 refine AWp.skip ?_
 refine normSeq ?_
 refine sr (N' := 192) rfl ?_
 refine hp (id := 128) rfl rfl (ah_list CFGEdge (l := []) Tryz.underlying28 sz102 zc102 Z5 Zd Zd Zd (by simp only [go_sem, Nat.reduceBEq]; try rfl) (by kernel_rfl)) ?_
 refine pA ?_
 obtain ⟨l2, h1, hm⟩ := bnd hm
 refine hp (id := 130) rfl rfl (ah_app CFGEdge Tryz.underlying28 Tryz.underlying28 rfl in102 ts102 (by rw [tb102]; decide) (by rw [tb102]; decide) tz102 Zd Zd Z1 Z3 Z6 (as_sl CFGEdge Z1 rfl) rfl Z5 h1) ?_
 refine pA ?_
 refine fs ?_
 refine AWp.ret ?_
 cases hm
 exact retF (.inr rfl) Tryz.results193 Z1 Z3 Z6
theorem slicesCloneEdge_f {l r : List GEdge} (hm : slicesCloneEdge_m l = some r) : FreshC Tryz.prog 193 [.sl (l.flatMap cGEdge) l.length false] 3 (r.flatMap cGEdge) r.length := by
 cases l with
 | nil =>
  have hr : r = [] := by unfold slicesCloneEdge_m app at hm; simpa using hm.symm
  subst hr
  exact FreshC.nil_arg (slicesCloneEdge_fA (r := []) rfl) (fun a c => slicesCloneEdge_fB (r := []) rfl)
 | cons x0 l0 =>
  refine slicesCloneEdge_fC ?_
  show (app [] (x0 :: l0)).bind _ = _
  unfold slicesCloneEdge_m at hm
  rw [hm]; rfl
def tableSet_m (n_0 : Int) (l_1 : List GEdge) (u_2 : Int) (v_3 : Int) (tier_4 : Int) : Option ((List GEdge) × Int) :=
 ((tableRight_m n_0 l_1).bind fun r2 =>
 ((gopt ((!r2) == false) false (tableVertex_m n_0 u_2)).bind fun r4 =>
 ((gopt (((!r2) || (!r4)) == false) false (tableVertex_m n_0 v_3)).bind fun r6 =>
 ((gopt ((((!r2) || (!r4)) || (!r6)) == false) false (tableTiered_m tier_4)).bind fun r8 =>
 (bif ((((!r2) || (!r4)) || (!r6)) || (!r8)) then
  some (l_1, 1)
 else
  ((nameFind_m l_1 u_2 v_3).bind fun ⟨r10, r11⟩ =>
  (bif (!r11) then
   some (l_1, 9)
  else
   ((slicesCloneEdge_m l_1).bind fun r13 =>
   ((idx r13 r10).bind fun x15 =>
   ((stt r13 r10 (GEdge.mk x15.U x15.V tier_4)).bind fun l17 =>
   some (l17, 0)))))))))))
theorem tableSet_c {n_0 : Int} {l_1 : List GEdge} {u_2 : Int} {v_3 : Int} {tier_4 : Int} {r : (List GEdge) × Int} (hm : tableSet_m n_0 l_1 u_2 v_3 tier_4 = some r) : PureC Tryz.prog 172 [.v (.int .i64 n_0), .sl (l_1.flatMap cGEdge) l_1.length false, .v (.int .i64 u_2), .v (.int .i64 v_3), .v (.int .i64 tier_4)] (.tup [.sl (r.1.flatMap cGEdge) r.1.length false, .v (.int .i64 r.2)]) := by
 refine PureC.of_body Tryz.func172 rfl ?_
 simp only [Tryz.ntmps172, List.length_cons, List.length_nil, Nat.reduceAdd, Nat.reduceSub, empty_eq]
 unfold tableSet_m at hm
 refine sr (N' := 64) rfl ?_
 iterate 2 refine pA ?_
 refine fs ?_
 refine AWp.seq' ?_
 refine sr (N' := 128) rfl ?_
 iterate 2 refine pA ?_
 obtain ⟨r2, h1, hm⟩ := bnd hm
 refine ARun.callQ (r := .v (.bool r2)) Zd Z1 fb89 (fun H => (cV (cD (CFGEdge.sl _ _ _) .nil))) (tableRight_c h1) ?_
 iterate 4 first | refine pA ?_ | refine pB ?_
 obtain ⟨r4, h3, hm⟩ := bnd hm
 refine ARun.callQG (r := .v (.bool r4)) Zd rfl Z2 Z1 fb135 (fun hb H => (.cons (td (Zh hb) (.v _)) (.cons (td (Zh hb) (.v _)) .nil))) (fun hb => tableVertex_c (gopt_t h3 hb)) ?_
 iterate 5 first | refine pA ?_ | refine pB ?_
 obtain ⟨r6, h5, hm⟩ := bnd hm
 refine ARun.callQG (r := .v (.bool r6)) Zd rfl Z2 Z1 fb135 (fun hb H => (.cons (td (Zh hb) (.v _)) (.cons (td (Zh hb) (.v _)) .nil))) (fun hb => tableVertex_c (gopt_t h5 hb)) ?_
 iterate 4 first | refine pA ?_ | refine pB ?_
 obtain ⟨r8, h7, hm⟩ := bnd hm
 refine ARun.callQG (r := .v (.bool r8)) Zd rfl Z2 Z1 fb120 (fun hb H => (.cons (td (Zh hb) (.v _)) .nil)) (fun hb => tableTiered_c (gopt_t h7 hb)) ?_
 iterate 2 first | refine pA ?_ | refine pB ?_
 refine fs ?_
 refine AWp.condM hm Z1 (fun _ hm => ?_) (fun _ hm => ?_)
 ·
  refine sr (N' := 192) rfl ?_
  iterate 3 refine pA ?_
  refine fs ?_
  refine AWp.ret ?_
  refine retSeq ?_
  cases hm
  exact ret2D (.inr rfl) Tryz.results172 (td Z1 (CFGEdge.sl _ _ _)) (td Z1 (.v _))
 ·
  refine AWp.skip ?_
  refine normSeq ?_
  refine sr (N' := 192) rfl ?_
  iterate 3 refine pA ?_
  obtain ⟨⟨r10, r11⟩, h9, hm⟩ := bnd hm
  refine ARun.callQ (r := .tup [.v (.int .i64 r10), .v (.bool r11)]) Zd Z1 fb74 (fun H => (cD (CFGEdge.sl _ _ _) (cV (cV .nil)))) (nameFind_c h9) ?_
  iterate 5 refine pA ?_
  refine fs ?_
  refine AWp.seq' ?_
  refine sr (N' := 256) rfl ?_
  iterate 2 refine pA ?_
  refine fs ?_
  refine AWp.condM hm Z1 (fun _ hm => ?_) (fun _ hm => ?_)
  ·
   refine sr (N' := 320) rfl ?_
   iterate 3 refine pA ?_
   refine fs ?_
   refine AWp.ret ?_
   refine retSeq ?_
   cases hm
   exact ret2D (.inr rfl) Tryz.results172 (td Z1 (CFGEdge.sl _ _ _)) (td Z1 (.v _))
  ·
   refine AWp.skip ?_
   refine normSeq ?_
   refine sr (N' := 320) rfl ?_
   refine pA ?_
   obtain ⟨r13, h12, hm⟩ := bnd hm
   refine ARun.callF (id := 257) Zd Z1 fb193 (fun H => (cD (CFGEdge.sl _ _ _) .nil)) CFGEdge Z5 (slicesCloneEdge_f h12) ?_
   refine pA ?_
   refine fs ?_
   refine sr (N' := 384) rfl ?_
   iterate 3 refine pA ?_
   obtain ⟨x15, h14, hm⟩ := bnd hm
   refine pu rfl (ap_idxo Tryz.underlying28 sz102 Z1 Z3 Z6 Z1 h14) ?_
   refine pA ?_
   obtain ⟨l17, h16, hm⟩ := bnd hm
   have qh16 := stt_len h16
   refine ARun.heap0 (id := 325) rfl (ah_sttf CFGEdge (off := 2) (y := x15) (y' := (GEdge.mk x15.U x15.V tier_4)) (cs := [.v (.int .i64 tier_4)]) sz3 Z1 Z1 Z3 rfl h14 rfl Zd Z9 rfl h16) ?_
   refine fs ?_
   refine sr (N' := 448) rfl ?_
   iterate 3 refine pA ?_
   refine fs ?_
   refine AWp.ret ?_
   cases hm
   exact ret2D (.inr rfl) Tryz.results172 (tdo CFGEdge Z1 Z3 Z6) (td Z1 (.v _))
def groveVertex_m (n_0 : Int) (v_1 : Int) : Option (Bool) :=
 some ((decide (0 ≤ v_1)) && (decide (v_1 < n_0)))
theorem groveVertex_c {n_0 : Int} {v_1 : Int} {r : Bool} (hm : groveVertex_m n_0 v_1 = some r) : PureC Tryz.prog 190 [.v (.int .i64 n_0), .v (.int .i64 v_1)] (.v (.bool r)) := by
 refine PureC.of_body Tryz.func190 rfl ?_
 simp only [Tryz.ntmps190, List.length_cons, List.length_nil, Nat.reduceAdd, Nat.reduceSub, empty_eq]
 unfold groveVertex_m at hm
 refine sr (N' := 64) rfl ?_
 refine pA ?_
 refine fs ?_
 refine sr (N' := 128) rfl ?_
 iterate 8 first | refine pA ?_ | refine pB ?_
 refine fs ?_
 refine AWp.ret ?_
 cases hm
 exact ret1D (.inr rfl) Tryz.results190 (td Z1 (.v _))
end Go.Proofs.YtkdohhmacfoolaaGreat
