/- Facts that the statement's proof is made of. No condition. -/
import Derived.Test.YtkdohhmacfoolaaGreatNaGI1
set_option linter.unusedVariables false
set_option linter.unusedSimpArgs false
set_option maxRecDepth 20000
set_option maxHeartbeats 4000000
namespace Go.Proofs.YtkdohhmacfoolaaGreat
open Go Go.AM
structure GRaftsmanref11Slot where
 Used : Bool
 Key : Int
deriving DecidableEq
def cGRaftsmanref11Slot (e : GRaftsmanref11Slot) : List AV := [.v (.bool e.Used), .v (.int .u64 e.Key)]
theorem cGRaftsmanref11Slot_app (e : GRaftsmanref11Slot) (r : List AV) : cGRaftsmanref11Slot e ++ r = .v (.bool e.Used) :: .v (.int .u64 e.Key) :: r := rfl
attribute [go_sem] cGRaftsmanref11Slot_app
structure GRaftsmanref19State where
 Graph : GGraph
 Slots : List GRaftsmanref11Slot
deriving DecidableEq
def cGRaftsmanref19State (e : GRaftsmanref19State) : List AV := [.v (.int .i64 e.Graph.Config.N), .v (.int .i64 e.Graph.Config.L), .v (.int .i64 e.Graph.Config.R), .sl (e.Graph.Hashes.flatMap cGHash) e.Graph.Hashes.length false, .sl (e.Graph.Edges.flatMap cGEdge) e.Graph.Edges.length false, .sl (e.Slots.flatMap cGRaftsmanref11Slot) e.Slots.length false]
theorem cGRaftsmanref19State_app (e : GRaftsmanref19State) (r : List AV) : cGRaftsmanref19State e ++ r = .v (.int .i64 e.Graph.Config.N) :: .v (.int .i64 e.Graph.Config.L) :: .v (.int .i64 e.Graph.Config.R) :: .sl (e.Graph.Hashes.flatMap cGHash) e.Graph.Hashes.length false :: .sl (e.Graph.Edges.flatMap cGEdge) e.Graph.Edges.length false :: .sl (e.Slots.flatMap cGRaftsmanref11Slot) e.Slots.length false :: r := rfl
attribute [go_sem] cGRaftsmanref19State_app
structure GRaftsmanref21Model where
 Most : Int
 Keys : List Int
 Pairs : List GPairU64
deriving DecidableEq
def cGRaftsmanref21Model (e : GRaftsmanref21Model) : List AV := [.v (.int .i64 e.Most), .sl (e.Keys.flatMap (ci .u64)) e.Keys.length false, .sl (e.Pairs.flatMap cGPairU64) e.Pairs.length false]
theorem cGRaftsmanref21Model_app (e : GRaftsmanref21Model) (r : List AV) : cGRaftsmanref21Model e ++ r = .v (.int .i64 e.Most) :: .sl (e.Keys.flatMap (ci .u64)) e.Keys.length false :: .sl (e.Pairs.flatMap cGPairU64) e.Pairs.length false :: r := rfl
attribute [go_sem] cGRaftsmanref21Model_app
theorem fa102_0GI2 (xs : List AV) : afieldAddr Tryz.prog 102 (.ptr (xs)) 0 = some (.ptr xs) := by kernel_rfl
attribute [go_sem] fa102_0GI2
theorem fa102_1GI2 (x0 : AV) (xs : List AV) : afieldAddr Tryz.prog 102 (.ptr (x0 :: xs)) 1 = some (.ptr xs) := by kernel_rfl
attribute [go_sem] fa102_1GI2
theorem fa104_1GI2 (x0 : AV) (xs : List AV) : afieldAddr Tryz.prog 104 (.ptr (x0 :: xs)) 1 = some (.ptr xs) := by kernel_rfl
attribute [go_sem] fa104_1GI2
theorem fa151_0GI2 (xs : List AV) : afieldAddr Tryz.prog 151 (.ptr (xs)) 0 = some (.ptr xs) := by kernel_rfl
attribute [go_sem] fa151_0GI2
theorem fa151_1GI2 (x0 : AV) (xs : List AV) : afieldAddr Tryz.prog 151 (.ptr (x0 :: xs)) 1 = some (.ptr xs) := by kernel_rfl
attribute [go_sem] fa151_1GI2
theorem fo102_0GI2 (i o : Nat) : afieldAddr Tryz.prog 102 (.adr i o) 0 = some (.adr i (o + 0)) := by kernel_rfl
attribute [go_sem] fo102_0GI2
theorem fo102_1GI2 (i o : Nat) : afieldAddr Tryz.prog 102 (.adr i o) 1 = some (.adr i (o + 1)) := by kernel_rfl
attribute [go_sem] fo102_1GI2
theorem fo104_0GI2 (i o : Nat) : afieldAddr Tryz.prog 104 (.adr i o) 0 = some (.adr i (o + 0)) := by kernel_rfl
attribute [go_sem] fo104_0GI2
theorem fo151_0GI2 (i o : Nat) : afieldAddr Tryz.prog 151 (.adr i o) 0 = some (.adr i (o + 0)) := by kernel_rfl
attribute [go_sem] fo151_0GI2
theorem fo151_1GI2 (i o : Nat) : afieldAddr Tryz.prog 151 (.adr i o) 1 = some (.adr i (o + 1)) := by kernel_rfl
attribute [go_sem] fo151_1GI2
theorem fo23_0GI2 (i o : Nat) : afieldAddr Tryz.prog 23 (.adr i o) 0 = some (.adr i (o + 0)) := by kernel_rfl
attribute [go_sem] fo23_0GI2
theorem fo23_1GI2 (i o : Nat) : afieldAddr Tryz.prog 23 (.adr i o) 1 = some (.adr i (o + 1)) := by kernel_rfl
attribute [go_sem] fo23_1GI2
theorem fo23_2GI2 (i o : Nat) : afieldAddr Tryz.prog 23 (.adr i o) 2 = some (.adr i (o + 2)) := by kernel_rfl
attribute [go_sem] fo23_2GI2
theorem fo30_0GI2 (i o : Nat) : afieldAddr Tryz.prog 30 (.adr i o) 0 = some (.adr i (o + 0)) := by kernel_rfl
attribute [go_sem] fo30_0GI2
theorem fo30_1GI2 (i o : Nat) : afieldAddr Tryz.prog 30 (.adr i o) 1 = some (.adr i (o + 3)) := by kernel_rfl
attribute [go_sem] fo30_1GI2
theorem fo30_2GI2 (i o : Nat) : afieldAddr Tryz.prog 30 (.adr i o) 2 = some (.adr i (o + 4)) := by kernel_rfl
attribute [go_sem] fo30_2GI2
theorem fo33_0GI2 (i o : Nat) : afieldAddr Tryz.prog 33 (.adr i o) 0 = some (.adr i (o + 0)) := by kernel_rfl
attribute [go_sem] fo33_0GI2
theorem fo33_1GI2 (i o : Nat) : afieldAddr Tryz.prog 33 (.adr i o) 1 = some (.adr i (o + 5)) := by kernel_rfl
attribute [go_sem] fo33_1GI2
theorem fo35_1GI2 (i o : Nat) : afieldAddr Tryz.prog 35 (.adr i o) 1 = some (.adr i (o + 1)) := by kernel_rfl
attribute [go_sem] fo35_1GI2
theorem fo42_0GI2 (i o : Nat) : afieldAddr Tryz.prog 42 (.adr i o) 0 = some (.adr i (o + 0)) := by kernel_rfl
attribute [go_sem] fo42_0GI2
theorem fo42_1GI2 (i o : Nat) : afieldAddr Tryz.prog 42 (.adr i o) 1 = some (.adr i (o + 1)) := by kernel_rfl
attribute [go_sem] fo42_1GI2
theorem fo42_2GI2 (i o : Nat) : afieldAddr Tryz.prog 42 (.adr i o) 2 = some (.adr i (o + 2)) := by kernel_rfl
attribute [go_sem] fo42_2GI2
theorem fo45_0GI2 (i o : Nat) : afieldAddr Tryz.prog 45 (.adr i o) 0 = some (.adr i (o + 0)) := by kernel_rfl
attribute [go_sem] fo45_0GI2
theorem fo45_1GI2 (i o : Nat) : afieldAddr Tryz.prog 45 (.adr i o) 1 = some (.adr i (o + 1)) := by kernel_rfl
attribute [go_sem] fo45_1GI2
theorem fo45_2GI2 (i o : Nat) : afieldAddr Tryz.prog 45 (.adr i o) 2 = some (.adr i (o + 2)) := by kernel_rfl
attribute [go_sem] fo45_2GI2
theorem fo45_3GI2 (i o : Nat) : afieldAddr Tryz.prog 45 (.adr i o) 3 = some (.adr i (o + 3)) := by kernel_rfl
attribute [go_sem] fo45_3GI2
theorem fo56_0GI2 (i o : Nat) : afieldAddr Tryz.prog 56 (.adr i o) 0 = some (.adr i (o + 0)) := by kernel_rfl
attribute [go_sem] fo56_0GI2
theorem fo56_1GI2 (i o : Nat) : afieldAddr Tryz.prog 56 (.adr i o) 1 = some (.adr i (o + 5)) := by kernel_rfl
attribute [go_sem] fo56_1GI2
theorem io69_0GI2 (i o : Nat) (k : IntKind) : aindexAddr Tryz.prog 69 (.adr i o) (.v (.int k 0)) = some (.adr i o) := by kernel_rfl
theorem io69_1GI2 (i o : Nat) (k : IntKind) : aindexAddr Tryz.prog 69 (.adr i o) (.v (.int k 1)) = some (.adr i (o + 1)) := by kernel_rfl
attribute [go_sem] io69_0GI2 io69_1GI2
theorem ld102GI2 (H : Heap) (x0 x1 x2 : AV) (xs : List AV) : aload Tryz.prog H 102 (.ptr (x0 :: x1 :: x2 :: xs)) = some (.agg [x0, x1, x2]) := by kernel_rfl
attribute [go_sem] ld102GI2
theorem ld104GI2 (H : Heap) (x0 x1 : AV) (xs : List AV) : aload Tryz.prog H 104 (.ptr (x0 :: x1 :: xs)) = some (.agg [x0, x1]) := by kernel_rfl
attribute [go_sem] ld104GI2
theorem ld130GI2 (H : Heap) (x0 : AV) (xs : List AV) : aload Tryz.prog H 130 (.ptr (x0 :: xs)) = some (.agg [x0]) := by kernel_rfl
attribute [go_sem] ld130GI2
theorem ld151GI2 (H : Heap) (x0 x1 : AV) (xs : List AV) : aload Tryz.prog H 151 (.ptr (x0 :: x1 :: xs)) = some (.agg [x0, x1]) := by kernel_rfl
attribute [go_sem] ld151GI2
theorem ld23GI2 (H : Heap) (x0 x1 x2 : AV) (xs : List AV) : aload Tryz.prog H 23 (.ptr (x0 :: x1 :: x2 :: xs)) = some (.agg [x0, x1, x2]) := by kernel_rfl
attribute [go_sem] ld23GI2
theorem ld24GI2 (H : Heap) (x : AV) (xs : List AV) : aload Tryz.prog H 24 (.ptr (x :: xs)) = some x := by kernel_rfl
attribute [go_sem] ld24GI2
theorem ld27GI2 (H : Heap) (x : AV) (xs : List AV) : aload Tryz.prog H 27 (.ptr (x :: xs)) = some x := by kernel_rfl
attribute [go_sem] ld27GI2
theorem ld28GI2 (H : Heap) (x : AV) (xs : List AV) : aload Tryz.prog H 28 (.ptr (x :: xs)) = some x := by kernel_rfl
attribute [go_sem] ld28GI2
theorem ld3GI2 (H : Heap) (x : AV) (xs : List AV) : aload Tryz.prog H 3 (.ptr (x :: xs)) = some x := by kernel_rfl
attribute [go_sem] ld3GI2
theorem ld30GI2 (H : Heap) (x0 x1 x2 x3 x4 : AV) (xs : List AV) : aload Tryz.prog H 30 (.ptr (x0 :: x1 :: x2 :: x3 :: x4 :: xs)) = some (.agg [x0, x1, x2, x3, x4]) := by kernel_rfl
attribute [go_sem] ld30GI2
theorem ld31GI2 (H : Heap) (x : AV) (xs : List AV) : aload Tryz.prog H 31 (.ptr (x :: xs)) = some x := by kernel_rfl
attribute [go_sem] ld31GI2
theorem ld33GI2 (H : Heap) (x0 x1 x2 x3 x4 x5 : AV) (xs : List AV) : aload Tryz.prog H 33 (.ptr (x0 :: x1 :: x2 :: x3 :: x4 :: x5 :: xs)) = some (.agg [x0, x1, x2, x3, x4, x5]) := by kernel_rfl
attribute [go_sem] ld33GI2
theorem ld4GI2 (H : Heap) (x : AV) (xs : List AV) : aload Tryz.prog H 4 (.ptr (x :: xs)) = some x := by kernel_rfl
attribute [go_sem] ld4GI2
theorem ld40GI2 (H : Heap) (x : AV) (xs : List AV) : aload Tryz.prog H 40 (.ptr (x :: xs)) = some x := by kernel_rfl
attribute [go_sem] ld40GI2
theorem ld42GI2 (H : Heap) (x0 x1 x2 : AV) (xs : List AV) : aload Tryz.prog H 42 (.ptr (x0 :: x1 :: x2 :: xs)) = some (.agg [x0, x1, x2]) := by kernel_rfl
attribute [go_sem] ld42GI2
theorem ld43GI2 (H : Heap) (x : AV) (xs : List AV) : aload Tryz.prog H 43 (.ptr (x :: xs)) = some x := by kernel_rfl
attribute [go_sem] ld43GI2
theorem ld45GI2 (H : Heap) (x0 x1 x2 x3 : AV) (xs : List AV) : aload Tryz.prog H 45 (.ptr (x0 :: x1 :: x2 :: x3 :: xs)) = some (.agg [x0, x1, x2, x3]) := by kernel_rfl
attribute [go_sem] ld45GI2
theorem ld54GI2 (H : Heap) (x : AV) (xs : List AV) : aload Tryz.prog H 54 (.ptr (x :: xs)) = some x := by kernel_rfl
attribute [go_sem] ld54GI2
theorem ld56GI2 (H : Heap) (x0 x1 x2 x3 x4 x5 : AV) (xs : List AV) : aload Tryz.prog H 56 (.ptr (x0 :: x1 :: x2 :: x3 :: x4 :: x5 :: xs)) = some (.agg [x0, x1, x2, x3, x4, x5]) := by kernel_rfl
attribute [go_sem] ld56GI2
theorem ld69GI2 (H : Heap) (x0 x1 : AV) (xs : List AV) : aload Tryz.prog H 69 (.ptr (x0 :: x1 :: xs)) = some (.agg [x0, x1]) := by kernel_rfl
attribute [go_sem] ld69GI2
theorem ld9GI2 (H : Heap) (x : AV) (xs : List AV) : aload Tryz.prog H 9 (.ptr (x :: xs)) = some x := by kernel_rfl
attribute [go_sem] ld9GI2
theorem cv3_43GI2 (H : Heap) (k : IntKind) (n : Int) : aconv Tryz.prog H 3 43 (.v (.int k n)) = some (.v (.int .u64 (IntKind.u64.wrap n))) := aconv_int Tryz.underlying3 Tryz.underlying43
attribute [go_sem] cv3_43GI2
theorem cv5_43GI2 (H : Heap) (k : IntKind) (n : Int) : aconv Tryz.prog H 5 43 (.v (.int k n)) = some (.v (.int .u64 (IntKind.u64.wrap n))) := aconv_int Tryz.underlying5 Tryz.underlying43
attribute [go_sem] cv5_43GI2
theorem cv43_3GI2 (H : Heap) (k : IntKind) (n : Int) : aconv Tryz.prog H 43 3 (.v (.int k n)) = some (.v (.int .i64 (IntKind.i64.wrap n))) := aconv_int Tryz.underlying43 Tryz.underlying3
attribute [go_sem] cv43_3GI2
theorem cv43_5GI2 (H : Heap) (k : IntKind) (n : Int) : aconv Tryz.prog H 43 5 (.v (.int k n)) = some (.v (.int .u8 (IntKind.u8.wrap n))) := aconv_int Tryz.underlying43 Tryz.underlying5
attribute [go_sem] cv43_5GI2
def cmpOrInt_B1 (rec1 : Int → List Int → Int → Int → Option (Int)) (zero_3 : Int) (t6 : List Int) (t7 : Int) (t8 : Int) : Option (Int) :=
 (bif (decide (t8 < t7)) then
  ((idx t6 t8).bind fun x2 =>
  (bif (x2 != zero_3) then
   some x2
  else
   rec1 zero_3 t6 t7 (IntKind.i64.wrap (t8 + 1))))
 else
  some zero_3)
def cmpOrInt_L1 : Nat → Int → List Int → Int → Int → Option (Int)
 | 0 => fun _ _ _ _ => none
 | n + 1 => cmpOrInt_B1 (cmpOrInt_L1 n)
def cmpOrInt_m (vals_0 : List Int) : Option (Int) :=
 cmpOrInt_L1 FUEL 0 vals_0 (vals_0.length : Int) 0
theorem cmpOrInt_c {vals_0 : List Int} {r : Int} (hm : cmpOrInt_m vals_0 = some r) : PureC Tryz.prog 106 [.sl (vals_0.flatMap (ci .i64)) vals_0.length false] (.v (.int .i64 r)) := by
 refine PureC.of_body Tryz.func106 rfl ?_
 simp only [Tryz.ntmps106, List.length_cons, List.length_nil, Nat.reduceAdd, Nat.reduceSub, empty_eq]
 unfold cmpOrInt_m at hm
 refine sr (N' := 64) rfl ?_
 refine pA ?_
 refine fs ?_
 refine sr (N' := 128) rfl ?_
 refine pA ?_
 refine fs ?_
 refine AWp.seq' ?_
 refine sr (N' := 192) rfl ?_
 iterate 3 refine pA ?_
 refine fs ?_
 refine AWp.block ?_
 refine AWp.loopM (fun m s => ∃ (zero_3 : Int) (t6 : List Int) (t7 : Int) (t8 : Int), s = (⟨18, (fset (fset (fset (fset (fun _ => AV.any) 3 (.v (.int .i64 zero_3))) 6 (.sl (t6.flatMap (ci .i64)) t6.length false)) 7 (.v (.int .i64 t7))) 8 (.v (.int .i64 t8))), ⟨nofresh, 64⟩⟩ : St) ∧ cmpOrInt_L1 m zero_3 t6 t7 t8 = some r) FUEL ?_ ?_ ?_
 ·
  rintro s ⟨_, _, _, _, _, h⟩
  cases h
 ·
  refine ⟨_, ?_, 0, vals_0, (vals_0.length : Int), 0, rfl, hm⟩
  exact le_canon id (wV (wV (wD ((CFi .i64).sl _ _ _) (wV wk_none)))) heapWk0
 ·
  rintro n1 s ⟨zero_3, t6, t7, t8, rfl, hm⟩
  replace hm : cmpOrInt_B1 (cmpOrInt_L1 n1) zero_3 t6 t7 t8 = some r := hm
  unfold cmpOrInt_B1 at hm
  refine sr (N' := 128) rfl ?_
  refine pA ?_
  refine fs ?_
  refine AWp.seq' ?_
  refine AWp.condM hm Z1 (fun _ hm => ?_) (fun _ hm => ?_)
  ·
   refine AWp.skip ?_
   refine normSeq ?_
   refine AWp.seq' ?_
   refine AWp.block ?_
   refine sr (N' := 192) rfl ?_
   obtain ⟨x2, h1, hm⟩ := bnd hm
   refine pu rfl (ap_idx (CFi .i64) Zd Tryz.underlying112 sz3 Z1 rfl Z1 h1) ?_
   iterate 2 refine pA ?_
   refine fs ?_
   refine sr (N' := 256) rfl ?_
   iterate 3 refine pA ?_
   refine fs ?_
   refine AWp.condM hm Z1 (fun _ hm => ?_) (fun _ hm => ?_)
   ·
    refine sr (N' := 320) rfl ?_
    iterate 2 refine pA ?_
    refine fs ?_
    refine AWp.ret ?_
    refine retIn ?_
    refine retSeq ?_
    refine retThen ?_
    refine retIn ?_
    refine retSeq ?_
    cases hm
    exact ret1D (.inr rfl) Tryz.results106 (td Z1 (.v _))
   ·
    refine AWp.skip ?_
    refine normIn ?_
    refine normSeq ?_
    refine AWp.reg 64 (N' := 320) rfl ?_
    iterate 2 refine pA ?_
    refine ARun.fin ?_
    refine normThen ?_
    refine ⟨_, ?_, zero_3, t6, t7, (IntKind.i64.wrap (t8 + 1)), rfl, hm⟩
    exact le_canon id (wV (wV (wD ((CFi .i64).sl _ _ _) (wV wk_none)))) heapWk0
  ·
   refine AWp.exit ?_
   refine exitSeq ?_
   refine exitThen ?_
   refine exitHere ?_
   refine normSeq ?_
   refine sr (N' := 192) rfl ?_
   iterate 2 refine pA ?_
   refine fs ?_
   refine AWp.ret ?_
   cases hm
   exact ret1D (.inr rfl) Tryz.results106 (td Z1 (.v _))
def indexForestC1_m (p_0 : GPairU64) (q_1 : GPairU64) : Option (Int) :=
 ((cmpCompareUint64_m p_0.x0 q_1.x0).bind fun r2 =>
 ((cmpCompareUint64_m p_0.x1 q_1.x1).bind fun r4 =>
 ((cmpOrInt_m [r2, r4]).bind fun r6 =>
 some r6)))
theorem indexForestC1_c {p_0 : GPairU64} {q_1 : GPairU64} {r : Int} (hm : indexForestC1_m p_0 q_1 = some r) : PureC Tryz.prog 105 [.agg [.v (.int .u64 p_0.x0), .v (.int .u64 p_0.x1)], .agg [.v (.int .u64 q_1.x0), .v (.int .u64 q_1.x1)]] (.v (.int .i64 r)) := by
 refine PureC.of_body Tryz.func105 rfl ?_
 simp only [Tryz.ntmps105, List.length_cons, List.length_nil, Nat.reduceAdd, Nat.reduceSub, empty_eq]
 unfold indexForestC1_m at hm
 refine sr (N' := 64) rfl ?_
 refine hp (id := 0) rfl rfl (aheap_box Z1 Z5) ?_
 refine hp (id := 1) rfl rfl (aheap_box Z1 Z5) ?_
 refine pA ?_
 refine fs ?_
 refine sd mix (by kernel_rfl) (N' := 128) rfl ?_
 refine pA ?_
 refine pu rfl (ap_ldv Z1 Z3 Z4) ?_
 refine pA ?_
 refine pu rfl (ap_ldv Z1 Z3 Z4) ?_
 obtain ⟨r2, h1, hm⟩ := bnd hm
 refine ARun.callQ (r := .v (.int .i64 r2)) Zd Z1 fb107 (fun H => (cV (cV .nil))) (cmpCompareUint64_c h1) ?_
 refine pA ?_
 refine pu rfl (ap_ldv Z1 Z3 Z4) ?_
 refine pA ?_
 refine pu rfl (ap_ldv Z1 Z3 Z4) ?_
 obtain ⟨r4, h3, hm⟩ := bnd hm
 refine ARun.callQ (r := .v (.int .i64 r4)) Zd Z1 fb107 (fun H => (cV (cV .nil))) (cmpCompareUint64_c h3) ?_
 refine hp (id := 74) rfl rfl (ah_list (CFi .i64) (l := [r2, r4]) Tryz.underlying112 sz3 zc3 Z5 Zd Zd Zd (by simp only [go_sem, Nat.reduceBEq]; try rfl) (by kernel_rfl)) ?_
 obtain ⟨r6, h5, hm⟩ := bnd hm
 refine ARun.callB (r := .v (.int .i64 r6)) Zd Z1 fb106 (.cons (lto (CFi .i64) Z1 Z3 Z6) Lent.nil) scal1 (cmpOrInt_c h5) ?_
 refine pA ?_
 refine fs ?_
 refine AWp.ret ?_
 cases hm
 exact ret1D (.inr rfl) Tryz.results105 (td Z1 (.v _))
def indexForest_B1 (rec1 : GSnapState → List GPairU64 → List GEdge → Int → Int → Option ((List GPairU64))) (s_1 : GSnapState) (pairs_4 : List GPairU64) (t19 : List GEdge) (t20 : Int) (t21 : Int) : Option ((List GPairU64)) :=
 (bif (decide (t21 < t20)) then
  ((idx t19 t21).bind fun x4 =>
  ((idx s_1.Slots x4.U).bind fun x6 =>
  ((idx s_1.Slots x4.V).bind fun x8 =>
  ((app pairs_4 [(GPairU64.mk (if x8.Key < x6.Key then x8.Key else x6.Key) (if x6.Key < x8.Key then x8.Key else x6.Key))]).bind fun l10 =>
  rec1 s_1 l10 t19 t20 (IntKind.i64.wrap (t21 + 1))))))
 else
  ((lenk (fun x => x.length) pairs_4.length (slicesSortFuncUint64_m pairs_4 (fun x0 x1 => indexForestC1_m x0 x1))).bind fun l12 =>
  some l12))
def indexForest_L1 : Nat → GSnapState → List GPairU64 → List GEdge → Int → Int → Option ((List GPairU64))
 | 0 => fun _ _ _ _ _ => none
 | n + 1 => indexForest_B1 (indexForest_L1 n)
def indexForest_m (s_0 : GSnapState) : Option ((List GPairU64)) :=
 ((tableForest_m s_0.Graph.Config.N s_0.Graph.Edges s_0.Graph.Config.L).bind fun r2 =>
 indexForest_L1 FUEL s_0 [] r2 (r2.length : Int) 0)
theorem indexForest_c {s_0 : GSnapState} {r : (List GPairU64)} (hm : indexForest_m s_0 = some r) : PureC Tryz.prog 80 [.agg [.v (.int .i64 s_0.Graph.Config.N), .v (.int .i64 s_0.Graph.Config.L), .v (.int .i64 s_0.Graph.Config.R), .sl (s_0.Graph.Hashes.flatMap cGHash) s_0.Graph.Hashes.length false, .sl (s_0.Graph.Edges.flatMap cGEdge) s_0.Graph.Edges.length false, .sl (s_0.Slots.flatMap cGVertsSlot) s_0.Slots.length false]] (.sl (r.flatMap cGPairU64) r.length false) := by
 refine PureC.of_body Tryz.func80 rfl ?_
 simp only [Tryz.ntmps80, List.length_cons, List.length_nil, Nat.reduceAdd, Nat.reduceSub, empty_eq]
 unfold indexForest_m at hm
 refine sr (N' := 64) rfl ?_
 refine hp (id := 0) rfl rfl (aheap_box Z1 Z5) ?_
 refine pA ?_
 refine fs ?_
 refine sr (N' := 128) rfl ?_
 iterate 2 refine pA ?_
 refine pu rfl (ap_ldv Z1 Z3 Z4) ?_
 refine hp (id := 67) rfl rfl (aheap_alloc' zc23 Z5) ?_
 refine ARun.heap0 (id := 68) rfl (ah_var (ys := [.v (.int .i64 s_0.Graph.Config.N), .v (.int .i64 s_0.Graph.Config.L), .v (.int .i64 s_0.Graph.Config.R)]) sz23 Z1 Z1 Z3 rfl (Nat.le_of_ble_eq_true rfl) Z9 rfl) ?_
 refine fs ?_
 refine sr (N' := 192) rfl ?_
 refine pA ?_
 refine fs ?_
 refine AWp.seq' ?_
 refine sr (N' := 256) rfl ?_
 refine pA ?_
 refine pu rfl (ap_ldv Z1 Z3 Z4) ?_
 iterate 2 refine pA ?_
 refine pu rfl (ap_ldv Z1 Z3 Z4) ?_
 refine pA ?_
 refine pu rfl (ap_ldv Z1 Z3 Z4) ?_
 obtain ⟨r2, h1, hm⟩ := bnd hm
 refine ARun.callQ (r := .sl (r2.flatMap cGEdge) r2.length false) Zd Z1 fb91 (fun H => (cV (cD (CFGEdge.sl _ _ _) (cV .nil)))) (tableForest_c h1) ?_
 iterate 2 refine pA ?_
 refine fs ?_
 refine AWp.block ?_
 refine AWp.loopM (fun m s => ∃ (s_1 : GSnapState) (pairs_4 : List GPairU64) (t19 : List GEdge) (t20 : Int) (t21 : Int), s = (⟨53, (fset (fset (fset (fset (fset (fun _ => AV.any) 1 (.adr 1 0)) 4 (.own 2 0 pairs_4.length)) 19 (.sl (t19.flatMap cGEdge) t19.length false)) 20 (.v (.int .i64 t20))) 21 (.v (.int .i64 t21))), ⟨(upd (upd nofresh 1 (.cells 1 [.v (.int .i64 s_1.Graph.Config.N), .v (.int .i64 s_1.Graph.Config.L), .v (.int .i64 s_1.Graph.Config.R), .sl (s_1.Graph.Hashes.flatMap cGHash) s_1.Graph.Hashes.length false, .sl (s_1.Graph.Edges.flatMap cGEdge) s_1.Graph.Edges.length false, .sl (s_1.Slots.flatMap cGVertsSlot) s_1.Slots.length false] 0)) 2 (.cells 2 (pairs_4.flatMap cGPairU64) 0)), 64⟩⟩ : St) ∧ indexForest_L1 m s_1 pairs_4 t19 t20 t21 = some r) FUEL ?_ ?_ ?_
 ·
  rintro s ⟨_, _, _, _, _, _, h⟩
  cases h
 ·
  refine ⟨_, ?_, s_0, [], r2, (r2.length : Int), 0, rfl, hm⟩
  refine St.Le.trans (le_nil 4 900004 2 Z1 Z5) ?_
  exact le_canon (fun j => bif j == 1 then 0 else bif j == 2 then 900004 else 0) (wV (wV (wD (CFGEdge.sl _ _ _) (wO (wk_fset _ _ (wk_adr Z1 rfl Z7) wk_none))))) (hW (eU CFGPairU64 (entWk_upd (entWk_data Z3 (Nat.le_refl _) (Nat.zero_le _) (CFGSnapState.dat s_0)) entWk_none)))
 ·
  rintro n1 s ⟨s_1, pairs_4, t19, t20, t21, rfl, hm⟩
  replace hm : indexForest_B1 (indexForest_L1 n1) s_1 pairs_4 t19 t20 t21 = some r := hm
  unfold indexForest_B1 at hm
  refine sr (N' := 128) rfl ?_
  refine pA ?_
  refine fs ?_
  refine AWp.seq' ?_
  refine AWp.condM hm Z1 (fun _ hm => ?_) (fun _ hm => ?_)
  ·
   refine AWp.skip ?_
   refine normSeq ?_
   refine AWp.seq' ?_
   refine AWp.block ?_
   refine sr (N' := 192) rfl ?_
   obtain ⟨x4, h3, hm⟩ := bnd hm
   refine pu rfl (ap_idx CFGEdge Zd Tryz.underlying28 sz102 Z1 rfl Z1 h3) ?_
   refine pA ?_
   refine hp (id := 130) rfl rfl (aheap_alloc' zc102 Z5) ?_
   refine ARun.heap0 (id := 131) rfl (ah_var (ys := [.v (.int .i64 x4.U), .v (.int .i64 x4.V), .v (.int .i64 x4.Tier)]) sz102 Z1 Z1 Z3 rfl (Nat.le_of_ble_eq_true rfl) Z9 rfl) ?_
   refine fs ?_
   refine sd mix (by kernel_rfl) (N' := 256) rfl ?_
   refine pA ?_
   refine pu rfl (ap_ldv Z1 Z3 Z4) ?_
   refine pA ?_
   refine pu rfl (ap_ldv Z1 Z3 Z4) ?_
   obtain ⟨x6, h5, hm⟩ := bnd hm
   refine pu rfl (ap_idx CFGVertsSlot Zd Tryz.underlying31 sz104 Z1 rfl Z1 h5) ?_
   iterate 3 refine pA ?_
   refine pu rfl (ap_ldv Z1 Z3 Z4) ?_
   refine pA ?_
   refine pu rfl (ap_ldv Z1 Z3 Z4) ?_
   obtain ⟨x8, h7, hm⟩ := bnd hm
   refine pu rfl (ap_idx CFGVertsSlot Zd Tryz.underlying31 sz104 Z1 rfl Z1 h7) ?_
   iterate 4 refine pA ?_
   refine fs ?_
   refine AWp.reg 64 (N' := 320) rfl ?_
   iterate 7 refine pA ?_
   refine pu rfl (by simp only [go_sem, Nat.reduceBEq]; exact (by kernel_rfl : abuild Tryz.prog 69 [(0, .v (.int .u64 (if x8.Key < x6.Key then x8.Key else x6.Key))), (1, .v (.int .u64 (if x6.Key < x8.Key then x8.Key else x6.Key)))] = some (.agg [.v (.int .u64 (if x8.Key < x6.Key then x8.Key else x6.Key)), .v (.int .u64 (if x6.Key < x8.Key then x8.Key else x6.Key))]))) ?_
   refine hp (id := 264) rfl rfl (ah_list CFGPairU64 (l := [(GPairU64.mk (if x8.Key < x6.Key then x8.Key else x6.Key) (if x6.Key < x8.Key then x8.Key else x6.Key))]) Tryz.underlying40 sz69 zc69 Z5 Zd Zd Zd (by simp only [go_sem, Nat.reduceBEq]; try rfl) (by kernel_rfl)) ?_
   obtain ⟨l10, h9, hm⟩ := bnd hm
   refine hp (id := 265) rfl rfl (ah_app CFGPairU64 Tryz.underlying40 Tryz.underlying40 rfl in69 ts69 (by rw [tb69]; decide) (by rw [tb69]; decide) tz69 Zd Zd Z1 Z3 Z6 (as_own CFGPairU64 Z1 Z3 Z6) rfl Z5 h9) ?_
   refine pA ?_
   refine ARun.fin ?_
   refine normIn ?_
   refine normSeq ?_
   refine AWp.reg 64 (N' := 384) rfl ?_
   iterate 2 refine pA ?_
   refine ARun.fin ?_
   refine normThen ?_
   refine ⟨_, ?_, s_1, l10, t19, t20, (IntKind.i64.wrap (t21 + 1)), rfl, hm⟩
   exact le_canon (fun j => bif j == 1 then 1 else bif j == 2 then 265 else 0) (wV (wV (wD (CFGEdge.sl _ _ _) (wO (wk_fset _ _ (wk_adr Z1 rfl Z7) wk_none))))) (hW (eU CFGPairU64 (entWk_upd (entWk_data Z3 (Nat.le_refl _) (Nat.zero_le _) (CFGSnapState.dat s_1)) entWk_none)))
  ·
   refine AWp.exit ?_
   refine exitSeq ?_
   refine exitThen ?_
   refine exitHere ?_
   refine normSeq ?_
   refine sr (N' := 192) rfl ?_
   refine pA ?_
   obtain ⟨l12, h11, hm⟩ := bnd hm
   have qh11 := lenk_2 h11
   refine ARun.callM Zd Z1 fb104 Z1 (slicesSortFuncUint64_c (lenk_1 h11) dl_nil fb105 (fun h => indexForestC1_c h) Z3) ?_
   refine fs ?_
   refine sr (N' := 256) rfl ?_
   iterate 2 refine pA ?_
   refine fs ?_
   refine AWp.ret ?_
   cases hm
   exact ret1D (.inr rfl) Tryz.results80 (tdo CFGPairU64 Z1 Z3 Z6)
def indexAnswer_m (s_0 : GSnapState) (do_1 : Int) (u_2 : Int) (v_3 : Int) : Option (GA) :=
 ((tiersKept_m s_0.Graph).bind fun r2 =>
 (bif (do_1 == 5) then
  ((nameFind_m s_0.Graph.Edges u_2 v_3).bind fun ⟨r4, r5⟩ =>
  some (GA.b 4 r5))
 else
  (bif (do_1 == 6) then
   ((indexDegree_m s_0 u_2).bind fun r7 =>
   some (GA.i 3 .i64 r7))
  else
   (bif (do_1 == 7) then
    ((indexNear_m s_0 u_2).bind fun r9 =>
    ((indexKeys_m s_0 r9).bind fun r11 =>
    some (GA.lu 24 r11)))
   else
    (bif (do_1 == 8) then
     ((idx r2 u_2).bind fun x13 =>
     ((idx r2 v_3).bind fun x15 =>
     some (GA.b 4 (x13 == x15))))
    else
     (bif (do_1 == 9) then
      ((partClass_m r2 u_2).bind fun r17 =>
      ((indexKeys_m s_0 r17).bind fun r19 =>
      some (GA.i 3 .i64 (r19.length : Int))))
     else
      (bif (do_1 == 10) then
       ((indexClasses_m s_0 r2).bind fun r21 =>
       some (GA.i 3 .i64 r21))
      else
       (bif (do_1 == 11) then
        ((partClass_m r2 u_2).bind fun r23 =>
        ((indexKeys_m s_0 r23).bind fun r25 =>
        some (GA.lu 24 r25)))
       else
        (bif (do_1 == 12) then
         ((indexForest_m s_0).bind fun r27 =>
         some (GA.lp 40 r27))
        else
         (bif (do_1 == 13) then
          ((auditExact_m s_0.Graph).bind fun r29 =>
          some (GA.b 4 r29))
         else
          none))))))))))
theorem indexAnswer_c {s_0 : GSnapState} {do_1 : Int} {u_2 : Int} {v_3 : Int} {r : GA} (hm : indexAnswer_m s_0 do_1 u_2 v_3 = some r) : PureC Tryz.prog 42 [.agg [.v (.int .i64 s_0.Graph.Config.N), .v (.int .i64 s_0.Graph.Config.L), .v (.int .i64 s_0.Graph.Config.R), .sl (s_0.Graph.Hashes.flatMap cGHash) s_0.Graph.Hashes.length false, .sl (s_0.Graph.Edges.flatMap cGEdge) s_0.Graph.Edges.length false, .sl (s_0.Slots.flatMap cGVertsSlot) s_0.Slots.length false], .v (.int .i64 do_1), .v (.int .i64 u_2), .v (.int .i64 v_3)] (GA.av r) := by
 refine PureC.of_body Tryz.func42 rfl ?_
 simp only [Tryz.ntmps42, List.length_cons, List.length_nil, Nat.reduceAdd, Nat.reduceSub, empty_eq]
 unfold indexAnswer_m at hm
 refine sr (N' := 64) rfl ?_
 refine hp (id := 0) rfl rfl (aheap_box Z1 Z5) ?_
 refine pA ?_
 refine fs ?_
 refine sr (N' := 128) rfl ?_
 refine pA ?_
 refine pu rfl (ap_ldv Z1 Z3 Z4) ?_
 obtain ⟨r2, h1, hm⟩ := bnd hm
 refine ARun.callQ (r := .sl (r2.flatMap (ci .i64)) r2.length false) Zd Z1 fb73 (fun H => (cD (.agg _ (CFGGraph.dat _)) .nil)) (tiersKept_c h1) ?_
 refine pA ?_
 refine fs ?_
 refine AWp.seq' ?_
 refine sr (N' := 192) rfl ?_
 refine pA ?_
 refine fs ?_
 refine AWp.block ?_
 refine sr (N' := 256) rfl ?_
 iterate 2 refine pA ?_
 refine fs ?_
 refine AWp.condM hm Z1 (fun _ hm => ?_) (fun _ hm => ?_)
 ·
  refine sr (N' := 320) rfl ?_
  iterate 2 refine pA ?_
  refine pu rfl (ap_ldv Z1 Z3 Z4) ?_
  iterate 2 refine pA ?_
  obtain ⟨⟨r4, r5⟩, h3, hm⟩ := bnd hm
  refine ARun.callQ (r := .tup [.v (.int .i64 r4), .v (.bool r5)]) Zd Z1 fb74 (fun H => (cD (CFGEdge.sl _ _ _) (cV (cV .nil)))) (nameFind_c h3) ?_
  iterate 5 refine pA ?_
  refine fs ?_
  refine sr (N' := 384) rfl ?_
  iterate 3 refine pA ?_
  refine fs ?_
  refine AWp.ret ?_
  refine retIn ?_
  refine retSeq ?_
  cases hm
  exact ret1D (.inr rfl) Tryz.results42 (td Z1 (GA.data _))
 ·
  refine sr (N' := 320) rfl ?_
  iterate 2 refine pA ?_
  refine fs ?_
  refine AWp.condM hm Z1 (fun _ hm => ?_) (fun _ hm => ?_)
  ·
   refine sr (N' := 384) rfl ?_
   refine pu rfl (ap_ldv Z1 Z3 Z2) ?_
   refine pA ?_
   obtain ⟨r7, h6, hm⟩ := bnd hm
   refine ARun.callQ (r := .v (.int .i64 r7)) Zd Z1 fb75 (fun H => (cD (.agg _ (CFGSnapState.dat _)) (cV .nil))) (indexDegree_c h6) ?_
   iterate 2 refine pA ?_
   refine fs ?_
   refine AWp.ret ?_
   refine retIn ?_
   refine retSeq ?_
   cases hm
   exact ret1D (.inr rfl) Tryz.results42 (td Z1 (GA.data _))
  ·
   refine sr (N' := 384) rfl ?_
   iterate 2 refine pA ?_
   refine fs ?_
   refine AWp.condM hm Z1 (fun _ hm => ?_) (fun _ hm => ?_)
   ·
    refine sd mix (by kernel_rfl) (N' := 448) rfl ?_
    refine pu rfl (ap_ldv Z1 Z3 Z2) ?_
    refine pu rfl (ap_ldv Z1 Z3 Z2) ?_
    refine pA ?_
    obtain ⟨r9, h8, hm⟩ := bnd hm
    refine ARun.callQ (r := .sl (r9.flatMap (ci .i64)) r9.length false) Zd Z1 fb77 (fun H => (cD (.agg _ (CFGSnapState.dat _)) (cV .nil))) (indexNear_c h8) ?_
    obtain ⟨r11, h10, hm⟩ := bnd hm
    refine ARun.callQ (r := .sl (r11.flatMap (ci .u64)) r11.length false) Zd Z1 fb76 (fun H => (cD (.agg _ (CFGSnapState.dat _)) (cD ((CFi .i64).sl _ _ _) .nil))) (indexKeys_c h10) ?_
    refine ARun.pop Zd (noOwn1 Z1 ((CFi .u64).sl _ _ _)) (pop_mkif (a := .sl (r11.flatMap (ci .u64)) r11.length false) Tryz.underlying24 (fun _ => by simp) Z1 ((CFi .u64).sl _ _ _) (fun H => (td rfl ((CFi .u64).sl _ _ _)))) rfl ?_
    refine pA ?_
    refine fs ?_
    refine AWp.ret ?_
    refine retIn ?_
    refine retSeq ?_
    cases hm
    exact ret1D (.inr rfl) Tryz.results42 (td Z1 (GA.data _))
   ·
    refine sr (N' := 448) rfl ?_
    iterate 2 refine pA ?_
    refine fs ?_
    refine AWp.condM hm Z1 (fun _ hm => ?_) (fun _ hm => ?_)
    ·
     refine sd mix (by kernel_rfl) (N' := 512) rfl ?_
     iterate 2 refine pA ?_
     obtain ⟨x13, h12, hm⟩ := bnd hm
     refine pu rfl (ap_idx (CFi .i64) Zd Tryz.underlying112 sz3 Z1 rfl Z1 h12) ?_
     iterate 3 refine pA ?_
     obtain ⟨x15, h14, hm⟩ := bnd hm
     refine pu rfl (ap_idx (CFi .i64) Zd Tryz.underlying112 sz3 Z1 rfl Z1 h14) ?_
     iterate 4 refine pA ?_
     refine fs ?_
     refine AWp.ret ?_
     refine retIn ?_
     refine retSeq ?_
     cases hm
     exact ret1D (.inr rfl) Tryz.results42 (td Z1 (GA.data _))
    ·
     refine sr (N' := 512) rfl ?_
     iterate 2 refine pA ?_
     refine fs ?_
     refine AWp.condM hm Z1 (fun _ hm => ?_) (fun _ hm => ?_)
     ·
      refine sd mix (by kernel_rfl) (N' := 576) rfl ?_
      refine pu rfl (ap_ldv Z1 Z3 Z2) ?_
      iterate 2 refine pA ?_
      obtain ⟨r17, h16, hm⟩ := bnd hm
      refine ARun.callQ (r := .sl (r17.flatMap (ci .i64)) r17.length false) Zd Z1 fb78 (fun H => (cD ((CFi .i64).sl _ _ _) (cV .nil))) (partClass_c h16) ?_
      obtain ⟨r19, h18, hm⟩ := bnd hm
      refine ARun.callQ (r := .sl (r19.flatMap (ci .u64)) r19.length false) Zd Z1 fb76 (fun H => (cD (.agg _ (CFGSnapState.dat _)) (cD ((CFi .i64).sl _ _ _) .nil))) (indexKeys_c h18) ?_
      iterate 3 refine pA ?_
      refine fs ?_
      refine AWp.ret ?_
      refine retIn ?_
      refine retSeq ?_
      cases hm
      exact ret1D (.inr rfl) Tryz.results42 (td Z1 (GA.data _))
     ·
      refine sr (N' := 576) rfl ?_
      iterate 2 refine pA ?_
      refine fs ?_
      refine AWp.condM hm Z1 (fun _ hm => ?_) (fun _ hm => ?_)
      ·
       refine sr (N' := 640) rfl ?_
       refine pu rfl (ap_ldv Z1 Z3 Z2) ?_
       refine pA ?_
       obtain ⟨r21, h20, hm⟩ := bnd hm
       refine ARun.callQ (r := .v (.int .i64 r21)) Zd Z1 fb79 (fun H => (cD (.agg _ (CFGSnapState.dat _)) (cD ((CFi .i64).sl _ _ _) .nil))) (indexClasses_c h20) ?_
       iterate 2 refine pA ?_
       refine fs ?_
       refine AWp.ret ?_
       refine retIn ?_
       refine retSeq ?_
       cases hm
       exact ret1D (.inr rfl) Tryz.results42 (td Z1 (GA.data _))
      ·
       refine sr (N' := 640) rfl ?_
       iterate 2 refine pA ?_
       refine fs ?_
       refine AWp.condM hm Z1 (fun _ hm => ?_) (fun _ hm => ?_)
       ·
        refine sd mix (by kernel_rfl) (N' := 704) rfl ?_
        refine pu rfl (ap_ldv Z1 Z3 Z2) ?_
        iterate 2 refine pA ?_
        obtain ⟨r23, h22, hm⟩ := bnd hm
        refine ARun.callQ (r := .sl (r23.flatMap (ci .i64)) r23.length false) Zd Z1 fb78 (fun H => (cD ((CFi .i64).sl _ _ _) (cV .nil))) (partClass_c h22) ?_
        obtain ⟨r25, h24, hm⟩ := bnd hm
        refine ARun.callQ (r := .sl (r25.flatMap (ci .u64)) r25.length false) Zd Z1 fb76 (fun H => (cD (.agg _ (CFGSnapState.dat _)) (cD ((CFi .i64).sl _ _ _) .nil))) (indexKeys_c h24) ?_
        refine ARun.pop Zd (noOwn1 Z1 ((CFi .u64).sl _ _ _)) (pop_mkif (a := .sl (r25.flatMap (ci .u64)) r25.length false) Tryz.underlying24 (fun _ => by simp) Z1 ((CFi .u64).sl _ _ _) (fun H => (td rfl ((CFi .u64).sl _ _ _)))) rfl ?_
        refine pA ?_
        refine fs ?_
        refine AWp.ret ?_
        refine retIn ?_
        refine retSeq ?_
        cases hm
        exact ret1D (.inr rfl) Tryz.results42 (td Z1 (GA.data _))
       ·
        refine sr (N' := 704) rfl ?_
        iterate 2 refine pA ?_
        refine fs ?_
        refine AWp.condM hm Z1 (fun _ hm => ?_) (fun _ hm => ?_)
        ·
         refine sr (N' := 768) rfl ?_
         refine pu rfl (ap_ldv Z1 Z3 Z2) ?_
         obtain ⟨r27, h26, hm⟩ := bnd hm
         refine ARun.callQ (r := .sl (r27.flatMap cGPairU64) r27.length false) Zd Z1 fb80 (fun H => (cD (.agg _ (CFGSnapState.dat _)) .nil)) (indexForest_c h26) ?_
         refine ARun.pop Zd (noOwn1 Z1 (CFGPairU64.sl _ _ _)) (pop_mkif (a := .sl (r27.flatMap cGPairU64) r27.length false) Tryz.underlying40 (fun _ => by simp) Z1 (CFGPairU64.sl _ _ _) (fun H => (td rfl (CFGPairU64.sl _ _ _)))) rfl ?_
         refine pA ?_
         refine fs ?_
         refine AWp.ret ?_
         refine retIn ?_
         refine retSeq ?_
         cases hm
         exact ret1D (.inr rfl) Tryz.results42 (td Z1 (GA.data _))
        ·
         refine sr (N' := 768) rfl ?_
         iterate 2 refine pA ?_
         refine fs ?_
         refine AWp.condM hm Z1 (fun _ hm => ?_) (fun _ hm => ?_)
         ·
          refine sr (N' := 832) rfl ?_
          refine pA ?_
          refine pu rfl (ap_ldv Z1 Z3 Z4) ?_
          obtain ⟨r29, h28, hm⟩ := bnd hm
          refine ARun.callQ (r := .v (.bool r29)) Zd Z1 fb81 (fun H => (cD (.agg _ (CFGGraph.dat _)) .nil)) (auditExact_c h28) ?_
          iterate 2 refine pA ?_
          refine fs ?_
          refine AWp.ret ?_
          refine retIn ?_
          refine retSeq ?_
          cases hm
          exact ret1D (.inr rfl) Tryz.results42 (td Z1 (GA.data _))
         ·
          cases hm
def slicesIndexFuncSlot_B1 (f_1 : (GVertsSlot → Option (Bool))) (rec1 : List GVertsSlot → Int → Int → Option (Int)) (s_0 : List GVertsSlot) (t7 : Int) (t8 : Int) : Option (Int) :=
 (bif (decide (t8 < t7)) then
  ((idx s_0 t8).bind fun x2 =>
  ((f_1 x2).bind fun r4 =>
  (bif r4 then
   some t8
  else
   rec1 s_0 t7 (IntKind.i64.wrap (t8 + 1)))))
 else
  some (-1))
def slicesIndexFuncSlot_L1 (f_1 : (GVertsSlot → Option (Bool))) : Nat → List GVertsSlot → Int → Int → Option (Int)
 | 0 => fun _ _ _ => none
 | n + 1 => slicesIndexFuncSlot_B1 f_1 (slicesIndexFuncSlot_L1 f_1 n)
def slicesIndexFuncSlot_m (s_0 : List GVertsSlot) (f_1 : (GVertsSlot → Option (Bool))) : Option (Int) :=
 slicesIndexFuncSlot_L1 f_1 FUEL s_0 (s_0.length : Int) 0
theorem slicesIndexFuncSlot_c {s_0 : List GVertsSlot} {f_1 : (GVertsSlot → Option (Bool))} {r : Int} (hm : slicesIndexFuncSlot_m s_0 f_1 = some r) {g_f_1 : FuncId} {cap_f_1 : List AV} (hcap_f_1 : ∀ a, a ∈ cap_f_1 → AM.Data a) (hb_f_1 : (Program.funcs Tryz.prog)[g_f_1]?.any (fun fn => fn.body.isSome && fn.name != "runtime.NumGoroutine") = true) (hf_f_1 : ∀ {x0 r}, f_1 x0 = some r → PureC Tryz.prog g_f_1 ([.agg [.v (.bool x0.Used), .v (.int .u64 x0.Key)]] ++ cap_f_1) (.v (.bool r))) : PureC Tryz.prog 112 [.sl (s_0.flatMap cGVertsSlot) s_0.length false, .clo (.func g_f_1) [] cap_f_1] (.v (.int .i64 r)) := by
 refine PureC.of_body Tryz.func112 rfl ?_
 simp only [Tryz.ntmps112, List.length_cons, List.length_nil, Nat.reduceAdd, Nat.reduceSub, empty_eq]
 unfold slicesIndexFuncSlot_m at hm
 refine sr (N' := 64) rfl ?_
 refine pA ?_
 refine fs ?_
 refine AWp.seq' ?_
 refine sr (N' := 128) rfl ?_
 iterate 3 refine pA ?_
 refine fs ?_
 refine AWp.block ?_
 refine AWp.loopM (fun m s => ∃ (s_0 : List GVertsSlot) (t7 : Int) (t8 : Int), s = (⟨19, (fset (fset (fset (fset (fun _ => AV.any) 0 (.sl (s_0.flatMap cGVertsSlot) s_0.length false)) 1 (.clo (.func g_f_1) [] cap_f_1)) 7 (.v (.int .i64 t7))) 8 (.v (.int .i64 t8))), ⟨nofresh, 64⟩⟩ : St) ∧ slicesIndexFuncSlot_L1 f_1 m s_0 t7 t8 = some r) FUEL ?_ ?_ ?_
 ·
  rintro s ⟨_, _, _, _, h⟩
  cases h
 ·
  refine ⟨_, ?_, s_0, (s_0.length : Int), 0, rfl, hm⟩
  exact le_canon id (wV (wV (wD (dclo hcap_f_1) (wD (CFGVertsSlot.sl _ _ _) wk_none)))) heapWk0
 ·
  rintro n1 s ⟨s_0, t7, t8, rfl, hm⟩
  replace hm : slicesIndexFuncSlot_B1 f_1 (slicesIndexFuncSlot_L1 f_1 n1) s_0 t7 t8 = some r := hm
  unfold slicesIndexFuncSlot_B1 at hm
  refine sr (N' := 128) rfl ?_
  refine pA ?_
  refine fs ?_
  refine AWp.seq' ?_
  refine AWp.condM hm Z1 (fun _ hm => ?_) (fun _ hm => ?_)
  ·
   refine AWp.skip ?_
   refine normSeq ?_
   refine AWp.seq' ?_
   refine AWp.block ?_
   refine sr (N' := 192) rfl ?_
   iterate 2 refine pA ?_
   refine fs ?_
   refine sr (N' := 256) rfl ?_
   iterate 3 refine pA ?_
   obtain ⟨x2, h1, hm⟩ := bnd hm
   refine pu rfl (ap_idx CFGVertsSlot Zd Tryz.underlying31 sz104 Z1 rfl Z1 h1) ?_
   refine pA ?_
   obtain ⟨r4, h3, hm⟩ := bnd hm
   refine ARun.callQC (r := .v (.bool r4)) Zd Z1 hcap_f_1 hb_f_1 (fun H => (cD (.agg _ (CFGVertsSlot.dat _)) .nil)) (hf_f_1 h3) ?_
   refine fs ?_
   refine AWp.condM hm Z1 (fun _ hm => ?_) (fun _ hm => ?_)
   ·
    refine sr (N' := 320) rfl ?_
    iterate 2 refine pA ?_
    refine fs ?_
    refine AWp.ret ?_
    refine retIn ?_
    refine retSeq ?_
    refine retThen ?_
    refine retIn ?_
    refine retSeq ?_
    cases hm
    exact ret1D (.inr rfl) Tryz.results112 (td Z1 (.v _))
   ·
    refine AWp.skip ?_
    refine normIn ?_
    refine normSeq ?_
    refine AWp.reg 64 (N' := 320) rfl ?_
    iterate 2 refine pA ?_
    refine ARun.fin ?_
    refine normThen ?_
    refine ⟨_, ?_, s_0, t7, (IntKind.i64.wrap (t8 + 1)), rfl, hm⟩
    exact le_canon id (wV (wV (wD (dclo hcap_f_1) (wD (CFGVertsSlot.sl _ _ _) wk_none)))) heapWk0
  ·
   refine AWp.exit ?_
   refine exitSeq ?_
   refine exitThen ?_
   refine exitHere ?_
   refine normSeq ?_
   refine sr (N' := 192) rfl ?_
   refine pA ?_
   refine fs ?_
   refine AWp.ret ?_
   cases hm
   exact ret1D (.inr rfl) Tryz.results112 (td Z1 (.v _))
def vertsAddC1_m (slot_0 : GVertsSlot) : Option (Bool) :=
 some (!slot_0.Used)
theorem vertsAddC1_c {slot_0 : GVertsSlot} {r : Bool} (hm : vertsAddC1_m slot_0 = some r) : PureC Tryz.prog 113 [.agg [.v (.bool slot_0.Used), .v (.int .u64 slot_0.Key)]] (.v (.bool r)) := by
 refine PureC.of_body Tryz.func113 rfl ?_
 simp only [Tryz.ntmps113, List.length_cons, List.length_nil, Nat.reduceAdd, Nat.reduceSub, empty_eq]
 unfold vertsAddC1_m at hm
 refine sr (N' := 64) rfl ?_
 refine hp (id := 0) rfl rfl (aheap_box Z1 Z5) ?_
 refine pA ?_
 refine fs ?_
 refine sr (N' := 128) rfl ?_
 refine pA ?_
 refine pu rfl (ap_ldv Z1 Z3 Z4) ?_
 iterate 2 refine pA ?_
 refine fs ?_
 refine AWp.ret ?_
 cases hm
 exact ret1D (.inr rfl) Tryz.results113 (td Z1 (.v _))
def slicesCloneSlot_m (l : List GVertsSlot) : Option (List GVertsSlot) := app [] l
theorem slicesCloneSlot_fA {r : List GVertsSlot} (hm : some [] = some r) : FreshC Tryz.prog 114 [.v (.slice none 0 0)] 2 (r.flatMap cGVertsSlot) r.length := by
 refine FreshC.of_body Tryz.func114 rfl (CFGVertsSlot.fmdat r) ?_
 simp only [Tryz.ntmps114, List.length_cons, List.length_nil, Nat.reduceAdd, Nat.reduceSub, empty_eq]
 refine sr (N' := 64) rfl ?_
 refine pA ?_
 refine fs ?_
 refine AWp.seq' ?_
 refine sr (N' := 128) rfl ?_
 refine pA ?_
 refine pu rfl (ap_eqn Z1 Z1 (abin_nil Tryz.underlying31)) ?_
 refine fs ?_
 refine AWp.condT Z1 ?_
 refine sr (N' := 192) rfl ?_
 refine pA ?_
 refine fs ?_
 refine AWp.weaken (le_nil 2 900002 2 Z1 Z5) ?_
 refine AWp.ret ?_
 refine retSeq ?_
 cases hm
 exact retF (.inr rfl) Tryz.results114 Z1 Z3 Z6
theorem slicesCloneSlot_fB {a : Addr} {c : Nat} {r : List GVertsSlot} (hm : ((app [] []).bind fun l2 =>
some l2) = some r) : FreshC Tryz.prog 114 [.v (.slice (some a) 0 c)] 2 (r.flatMap cGVertsSlot) r.length := by
 refine FreshC.of_body Tryz.func114 rfl (CFGVertsSlot.fmdat r) ?_
 simp only [Tryz.ntmps114, List.length_cons, List.length_nil, Nat.reduceAdd, Nat.reduceSub, empty_eq]
 refine sr (N' := 64) rfl ?_
 refine pA ?_
 refine fs ?_
 refine AWp.seq' ?_
 refine sr (N' := 128) rfl ?_
 refine pA ?_
 refine pu rfl (ap_eqn Z1 Z1 (abin_xnil Tryz.underlying31)) ?_
 refine fs ?_
 refine AWp.condF Z1 ?_
 refine AWp.skip ?_
 refine normSeq ?_
 refine sr (N' := 192) rfl ?_
 refine hp (id := 128) rfl rfl (ah_list CFGVertsSlot (l := []) Tryz.underlying31 sz104 zc104 Z5 Zd Zd Zd (by simp only [go_sem, Nat.reduceBEq]; try rfl) (by kernel_rfl)) ?_
 refine pA ?_
 obtain ⟨l2, h1, hm⟩ := bnd hm
 refine hp (id := 130) rfl rfl (ah_app CFGVertsSlot Tryz.underlying31 Tryz.underlying31 rfl in104 ts104 (by rw [tb104]; decide) (by rw [tb104]; decide) tz104 Zd Zd Z1 Z3 Z6 (as_xnil Z1) rfl Z5 h1) ?_
 refine pA ?_
 refine fs ?_
 refine AWp.ret ?_
 cases hm
 exact retF (.inr rfl) Tryz.results114 Z1 Z3 Z6
theorem slicesCloneSlot_fC {x0 : GVertsSlot} {l0 : List GVertsSlot} {r : List GVertsSlot} (hm : ((app [] (x0 :: l0)).bind fun l2 =>
some l2) = some r) : FreshC Tryz.prog 114 [.sl ((x0 :: l0).flatMap cGVertsSlot) (x0 :: l0).length false] 2 (r.flatMap cGVertsSlot) r.length := by
 refine FreshC.of_body Tryz.func114 rfl (CFGVertsSlot.fmdat r) ?_
 simp only [Tryz.ntmps114, List.length_cons, List.length_nil, Nat.reduceAdd, Nat.reduceSub, empty_eq]
 refine sr (N' := 64) rfl ?_
 refine pA ?_
 refine fs ?_
 refine AWp.seq' ?_
 refine sr (N' := 128) rfl ?_
 refine pA ?_
 refine pu rfl (ap_eqn Z1 Z1 (abin_nnil Tryz.underlying31 (by simp))) ?_
 refine fs ?_
 refine AWp.condF Z1 ?_
 refine AWp.skip ?_
 refine normSeq ?_
 refine sr (N' := 192) rfl ?_
 refine hp (id := 128) rfl rfl (ah_list CFGVertsSlot (l := []) Tryz.underlying31 sz104 zc104 Z5 Zd Zd Zd (by simp only [go_sem, Nat.reduceBEq]; try rfl) (by kernel_rfl)) ?_
 refine pA ?_
 obtain ⟨l2, h1, hm⟩ := bnd hm
 refine hp (id := 130) rfl rfl (ah_app CFGVertsSlot Tryz.underlying31 Tryz.underlying31 rfl in104 ts104 (by rw [tb104]; decide) (by rw [tb104]; decide) tz104 Zd Zd Z1 Z3 Z6 (as_sl CFGVertsSlot Z1 rfl) rfl Z5 h1) ?_
 refine pA ?_
 refine fs ?_
 refine AWp.ret ?_
 cases hm
 exact retF (.inr rfl) Tryz.results114 Z1 Z3 Z6
theorem slicesCloneSlot_f {l r : List GVertsSlot} (hm : slicesCloneSlot_m l = some r) : FreshC Tryz.prog 114 [.sl (l.flatMap cGVertsSlot) l.length false] 2 (r.flatMap cGVertsSlot) r.length := by
 cases l with
 | nil =>
  have hr : r = [] := by unfold slicesCloneSlot_m app at hm; simpa using hm.symm
  subst hr
  exact FreshC.nil_arg (slicesCloneSlot_fA (r := []) rfl) (fun a c => slicesCloneSlot_fB (r := []) rfl)
 | cons x0 l0 =>
  refine slicesCloneSlot_fC ?_
  show (app [] (x0 :: l0)).bind _ = _
  unfold slicesCloneSlot_m at hm
  rw [hm]; rfl
def vertsAdd_m (l_0 : List GVertsSlot) (key_1 : Int) : Option ((List GVertsSlot) × Int × Int) :=
 ((vertsKeyed_m l_0).bind fun ⟨r2, r3⟩ =>
 (bif (!r3) then
  some (l_0, 0, 1)
 else
  ((dictGet_m r2 key_1).bind fun ⟨r5, r6⟩ =>
  (bif r6 then
   some (l_0, 0, 4)
  else
   ((slicesIndexFuncSlot_m l_0 (fun x0 => vertsAddC1_m x0)).bind fun r8 =>
   (bif (decide (r8 < 0)) then
    some (l_0, 0, 10)
   else
    ((slicesCloneSlot_m l_0).bind fun r10 =>
    ((idx r10 r8).bind fun x12 =>
    ((stt r10 r8 (GVertsSlot.mk true key_1)).bind fun l14 =>
    some (l14, r8, 0))))))))))
theorem vertsAdd_c {l_0 : List GVertsSlot} {key_1 : Int} {r : (List GVertsSlot) × Int × Int} (hm : vertsAdd_m l_0 key_1 = some r) : PureC Tryz.prog 83 [.sl (l_0.flatMap cGVertsSlot) l_0.length false, .v (.int .u64 key_1)] (.tup [.sl (r.1.flatMap cGVertsSlot) r.1.length false, .v (.int .i64 r.2.1), .v (.int .i64 r.2.2)]) := by
 refine PureC.of_body Tryz.func83 rfl ?_
 simp only [Tryz.ntmps83, List.length_cons, List.length_nil, Nat.reduceAdd, Nat.reduceSub, empty_eq]
 unfold vertsAdd_m at hm
 refine sr (N' := 64) rfl ?_
 iterate 3 refine pA ?_
 refine fs ?_
 refine sr (N' := 128) rfl ?_
 refine pA ?_
 obtain ⟨⟨r2, r3⟩, h1, hm⟩ := bnd hm
 refine ARun.callQ (r := .tup [.agg [GSeqSeqPair.av r2.s], .v (.bool r3)]) Zd Z1 fb71 (fun H => (cD (CFGVertsSlot.sl _ _ _) .nil)) (vertsKeyed_c h1) ?_
 iterate 3 refine pA ?_
 refine hp (id := 69) rfl rfl (aheap_alloc' zc130 Z5) ?_
 refine ARun.heap0 (id := 70) rfl (ah_var (ys := [GSeqSeqPair.av r2.s]) sz130 Z1 Z1 Z3 rfl (Nat.le_of_ble_eq_true rfl) (by simp only [List.all_cons, List.all_nil, Bool.and_true, GSeqSeqPair.one]; try rfl) rfl) ?_
 refine pA ?_
 refine fs ?_
 refine AWp.seq' ?_
 refine sr (N' := 192) rfl ?_
 iterate 2 refine pA ?_
 refine fs ?_
 refine AWp.condM hm Z1 (fun _ hm => ?_) (fun _ hm => ?_)
 ·
  refine sr (N' := 256) rfl ?_
  iterate 4 refine pA ?_
  refine fs ?_
  refine AWp.ret ?_
  refine retSeq ?_
  cases hm
  exact ret3D (.inr rfl) Tryz.results83 (td Z1 (CFGVertsSlot.sl _ _ _)) (td Z1 (.v _)) (td Z1 (.v _))
 ·
  refine AWp.skip ?_
  refine normSeq ?_
  refine AWp.seq' ?_
  refine sr (N' := 256) rfl ?_
  refine pu rfl (ap_ldv Z1 Z3 Z2) ?_
  refine pA ?_
  obtain ⟨⟨r5, r6⟩, h4, hm⟩ := bnd hm
  refine ARun.callQ (r := .tup [.v (.int .i64 r5), .v (.bool r6)]) Zd Z1 fb72 (fun H => (cD (.agg _ (CFGDictDict.dat _)) (cV .nil))) (dictGet_c h4) ?_
  iterate 5 refine pA ?_
  refine fs ?_
  refine sr (N' := 320) rfl ?_
  refine pA ?_
  refine fs ?_
  refine AWp.condM hm Z1 (fun _ hm => ?_) (fun _ hm => ?_)
  ·
   refine sr (N' := 384) rfl ?_
   iterate 4 refine pA ?_
   refine fs ?_
   refine AWp.ret ?_
   refine retSeq ?_
   cases hm
   exact ret3D (.inr rfl) Tryz.results83 (td Z1 (CFGVertsSlot.sl _ _ _)) (td Z1 (.v _)) (td Z1 (.v _))
  ·
   refine AWp.skip ?_
   refine normSeq ?_
   refine sr (N' := 384) rfl ?_
   refine pA ?_
   obtain ⟨r8, h7, hm⟩ := bnd hm
   refine ARun.callQ (r := .v (.int .i64 r8)) Zd Z1 fb112 (fun H => (cD (CFGVertsSlot.sl _ _ _) (cD (dclo dl_nil) .nil))) (slicesIndexFuncSlot_c h7 dl_nil fb113 (fun h => vertsAddC1_c h)) ?_
   refine pA ?_
   refine fs ?_
   refine AWp.seq' ?_
   refine sr (N' := 448) rfl ?_
   iterate 2 refine pA ?_
   refine fs ?_
   refine AWp.condM hm Z1 (fun _ hm => ?_) (fun _ hm => ?_)
   ·
    refine sr (N' := 512) rfl ?_
    iterate 4 refine pA ?_
    refine fs ?_
    refine AWp.ret ?_
    refine retSeq ?_
    cases hm
    exact ret3D (.inr rfl) Tryz.results83 (td Z1 (CFGVertsSlot.sl _ _ _)) (td Z1 (.v _)) (td Z1 (.v _))
   ·
    refine AWp.skip ?_
    refine normSeq ?_
    refine sr (N' := 512) rfl ?_
    refine pA ?_
    obtain ⟨r10, h9, hm⟩ := bnd hm
    refine ARun.callF (id := 449) Zd Z1 fb114 (fun H => (cD (CFGVertsSlot.sl _ _ _) .nil)) CFGVertsSlot Z5 (slicesCloneSlot_f h9) ?_
    refine pA ?_
    refine fs ?_
    refine sr (N' := 576) rfl ?_
    iterate 3 refine pA ?_
    refine pu rfl (by simp only [go_sem, Nat.reduceBEq]; exact (by kernel_rfl : abuild Tryz.prog 104 [(0, .v (.bool true)), (1, .v (.int .u64 key_1))] = some (.agg [.v (.bool true), .v (.int .u64 key_1)]))) ?_
    obtain ⟨x12, h11, hm⟩ := bnd hm
    refine pu rfl (ap_idxo Tryz.underlying31 sz104 Z1 Z3 Z6 Z1 h11) ?_
    obtain ⟨l14, h13, hm⟩ := bnd hm
    have qh13 := stt_len h13
    refine ARun.heap0 (id := 517) rfl (ah_stt CFGVertsSlot sz104 Z1 Z1 Z3 rfl h13) ?_
    refine fs ?_
    refine sr (N' := 640) rfl ?_
    iterate 5 refine pA ?_
    refine fs ?_
    refine AWp.ret ?_
    cases hm
    exact ret3D (.inr rfl) Tryz.results83 (tdo CFGVertsSlot Z1 Z3 Z6) (td Z1 (.v _)) (td Z1 (.v _))
def vertsRemove_m (l_0 : List GVertsSlot) (key_1 : Int) : Option ((List GVertsSlot) × Int) :=
 ((vertsKeyed_m l_0).bind fun ⟨r2, r3⟩ =>
 (bif (!r3) then
  some (l_0, 1)
 else
  ((dictGet_m r2 key_1).bind fun ⟨r5, r6⟩ =>
  (bif (!r6) then
   some (l_0, 7)
  else
   ((slicesCloneSlot_m l_0).bind fun r8 =>
   ((idx r8 r5).bind fun x10 =>
   ((stt r8 r5 (GVertsSlot.mk false 0)).bind fun l12 =>
   some (l12, 0))))))))
theorem vertsRemove_c {l_0 : List GVertsSlot} {key_1 : Int} {r : (List GVertsSlot) × Int} (hm : vertsRemove_m l_0 key_1 = some r) : PureC Tryz.prog 84 [.sl (l_0.flatMap cGVertsSlot) l_0.length false, .v (.int .u64 key_1)] (.tup [.sl (r.1.flatMap cGVertsSlot) r.1.length false, .v (.int .i64 r.2)]) := by
 refine PureC.of_body Tryz.func84 rfl ?_
 simp only [Tryz.ntmps84, List.length_cons, List.length_nil, Nat.reduceAdd, Nat.reduceSub, empty_eq]
 unfold vertsRemove_m at hm
 refine sr (N' := 64) rfl ?_
 iterate 2 refine pA ?_
 refine fs ?_
 refine sr (N' := 128) rfl ?_
 refine pA ?_
 obtain ⟨⟨r2, r3⟩, h1, hm⟩ := bnd hm
 refine ARun.callQ (r := .tup [.agg [GSeqSeqPair.av r2.s], .v (.bool r3)]) Zd Z1 fb71 (fun H => (cD (CFGVertsSlot.sl _ _ _) .nil)) (vertsKeyed_c h1) ?_
 iterate 3 refine pA ?_
 refine hp (id := 69) rfl rfl (aheap_alloc' zc130 Z5) ?_
 refine ARun.heap0 (id := 70) rfl (ah_var (ys := [GSeqSeqPair.av r2.s]) sz130 Z1 Z1 Z3 rfl (Nat.le_of_ble_eq_true rfl) (by simp only [List.all_cons, List.all_nil, Bool.and_true, GSeqSeqPair.one]; try rfl) rfl) ?_
 refine pA ?_
 refine fs ?_
 refine AWp.seq' ?_
 refine sr (N' := 192) rfl ?_
 iterate 2 refine pA ?_
 refine fs ?_
 refine AWp.condM hm Z1 (fun _ hm => ?_) (fun _ hm => ?_)
 ·
  refine sr (N' := 256) rfl ?_
  iterate 3 refine pA ?_
  refine fs ?_
  refine AWp.ret ?_
  refine retSeq ?_
  cases hm
  exact ret2D (.inr rfl) Tryz.results84 (td Z1 (CFGVertsSlot.sl _ _ _)) (td Z1 (.v _))
 ·
  refine AWp.skip ?_
  refine normSeq ?_
  refine sr (N' := 256) rfl ?_
  refine pu rfl (ap_ldv Z1 Z3 Z2) ?_
  refine pA ?_
  obtain ⟨⟨r5, r6⟩, h4, hm⟩ := bnd hm
  refine ARun.callQ (r := .tup [.v (.int .i64 r5), .v (.bool r6)]) Zd Z1 fb72 (fun H => (cD (.agg _ (CFGDictDict.dat _)) (cV .nil))) (dictGet_c h4) ?_
  iterate 5 refine pA ?_
  refine fs ?_
  refine AWp.seq' ?_
  refine sr (N' := 320) rfl ?_
  iterate 2 refine pA ?_
  refine fs ?_
  refine AWp.condM hm Z1 (fun _ hm => ?_) (fun _ hm => ?_)
  ·
   refine sr (N' := 384) rfl ?_
   iterate 3 refine pA ?_
   refine fs ?_
   refine AWp.ret ?_
   refine retSeq ?_
   cases hm
   exact ret2D (.inr rfl) Tryz.results84 (td Z1 (CFGVertsSlot.sl _ _ _)) (td Z1 (.v _))
  ·
   refine AWp.skip ?_
   refine normSeq ?_
   refine sr (N' := 384) rfl ?_
   refine pA ?_
   obtain ⟨r8, h7, hm⟩ := bnd hm
   refine ARun.callF (id := 321) Zd Z1 fb114 (fun H => (cD (CFGVertsSlot.sl _ _ _) .nil)) CFGVertsSlot Z5 (slicesCloneSlot_f h7) ?_
   refine pA ?_
   refine fs ?_
   refine sr (N' := 448) rfl ?_
   iterate 2 refine pA ?_
   refine pu rfl (by simp only [go_sem, Nat.reduceBEq]; exact (by kernel_rfl : abuild Tryz.prog 104 [] = some (.agg [.v (.bool false), .v (.int .u64 0)]))) ?_
   obtain ⟨x10, h9, hm⟩ := bnd hm
   refine pu rfl (ap_idxo Tryz.underlying31 sz104 Z1 Z3 Z6 Z1 h9) ?_
   obtain ⟨l12, h11, hm⟩ := bnd hm
   have qh11 := stt_len h11
   refine ARun.heap0 (id := 388) rfl (ah_stt CFGVertsSlot sz104 Z1 Z1 Z3 rfl h11) ?_
   refine fs ?_
   refine sr (N' := 512) rfl ?_
   iterate 3 refine pA ?_
   refine fs ?_
   refine AWp.ret ?_
   cases hm
   exact ret2D (.inr rfl) Tryz.results84 (tdo CFGVertsSlot Z1 Z3 Z6) (td Z1 (.v _))
def indexChange_J1 (s_4 : GSnapState) (t8 : GSnapState) (err_10 : Int) : Option (GSnapState × Int) :=
 some (s_4, err_10)
def indexChange_m (s_0 : GSnapState) (c_1 : GIndexCommand) (u_2 : Int) (v_3 : Int) : Option (GSnapState × Int) :=
 (bif (c_1.Do == 1) then
  ((vertsAdd_m s_0.Slots c_1.A).bind fun ⟨r2, r3, r4⟩ =>
  indexChange_J1 (GSnapState.mk s_0.Graph r2) (GSnapState.mk (GGraph.mk (GConfig.mk 0 0 0) [] []) []) r4)
 else
  (bif (c_1.Do == 2) then
   ((indexDegree_m s_0 u_2).bind fun r6 =>
   (bif (decide (0 < r6)) then
    some (s_0, 11)
   else
    ((vertsRemove_m s_0.Slots c_1.A).bind fun ⟨r8, r9⟩ =>
    indexChange_J1 (GSnapState.mk s_0.Graph r8) (GSnapState.mk (GGraph.mk (GConfig.mk 0 0 0) [] []) []) r9)))
  else
   (bif (c_1.Do == 3) then
    ((tiersInsert_m s_0.Graph u_2 v_3).bind fun ⟨r11, r12⟩ =>
    indexChange_J1 (GSnapState.mk r11 s_0.Slots) (GSnapState.mk (GGraph.mk (GConfig.mk 0 0 0) [] []) []) r12)
   else
    (bif (c_1.Do == 4) then
     (bif (u_2 == v_3) then
      some (s_0, 9)
     else
      ((tiersDelete_m s_0.Graph u_2 v_3).bind fun ⟨r14, r15⟩ =>
      indexChange_J1 (GSnapState.mk r14 s_0.Slots) (GSnapState.mk (GGraph.mk (GConfig.mk 0 0 0) [] []) []) r15))
    else
     (bif (c_1.Do == 15) then
      none
     else
      indexChange_J1 s_0 (GSnapState.mk (GGraph.mk (GConfig.mk 0 0 0) [] []) []) 0)))))
theorem indexChange_c {s_0 : GSnapState} {c_1 : GIndexCommand} {u_2 : Int} {v_3 : Int} {r : GSnapState × Int} (hm : indexChange_m s_0 c_1 u_2 v_3 = some r) : PureC Tryz.prog 43 [.agg [.v (.int .i64 s_0.Graph.Config.N), .v (.int .i64 s_0.Graph.Config.L), .v (.int .i64 s_0.Graph.Config.R), .sl (s_0.Graph.Hashes.flatMap cGHash) s_0.Graph.Hashes.length false, .sl (s_0.Graph.Edges.flatMap cGEdge) s_0.Graph.Edges.length false, .sl (s_0.Slots.flatMap cGVertsSlot) s_0.Slots.length false], .agg [.v (.int .i64 c_1.Do), .v (.int .u64 c_1.A), .v (.int .u64 c_1.B), .v (.string c_1.Text)], .v (.int .i64 u_2), .v (.int .i64 v_3)] (.tup [.agg [.v (.int .i64 r.1.Graph.Config.N), .v (.int .i64 r.1.Graph.Config.L), .v (.int .i64 r.1.Graph.Config.R), .sl (r.1.Graph.Hashes.flatMap cGHash) r.1.Graph.Hashes.length false, .sl (r.1.Graph.Edges.flatMap cGEdge) r.1.Graph.Edges.length false, .sl (r.1.Slots.flatMap cGVertsSlot) r.1.Slots.length false], .v (.int .i64 r.2)]) := by
 refine PureC.of_body Tryz.func43 rfl ?_
 simp only [Tryz.ntmps43, List.length_cons, List.length_nil, Nat.reduceAdd, Nat.reduceSub, empty_eq]
 unfold indexChange_m at hm
 refine sr (N' := 64) rfl ?_
 refine hp (id := 0) rfl rfl (aheap_box Z1 Z5) ?_
 refine hp (id := 1) rfl rfl (aheap_box Z1 Z5) ?_
 refine hp (id := 2) rfl rfl (aheap_alloc' zc33 Z5) ?_
 refine pA ?_
 refine fs ?_
 refine sr (N' := 128) rfl ?_
 refine pA ?_
 refine fs ?_
 refine AWp.seqJ (fun s => ∃ (s_4 : GSnapState) (t8 : GSnapState) (err_10 : Int), s = (⟨76, (fset (fset (fset (fun _ => AV.any) 4 (.adr 1 0)) 8 (.adr 2 0)) 10 (.v (.int .i64 err_10))), ⟨(upd (upd nofresh 1 (.cells 1 [.v (.int .i64 s_4.Graph.Config.N), .v (.int .i64 s_4.Graph.Config.L), .v (.int .i64 s_4.Graph.Config.R), .sl (s_4.Graph.Hashes.flatMap cGHash) s_4.Graph.Hashes.length false, .sl (s_4.Graph.Edges.flatMap cGEdge) s_4.Graph.Edges.length false, .sl (s_4.Slots.flatMap cGVertsSlot) s_4.Slots.length false] 0)) 2 (.cells 1 [.v (.int .i64 t8.Graph.Config.N), .v (.int .i64 t8.Graph.Config.L), .v (.int .i64 t8.Graph.Config.R), .sl (t8.Graph.Hashes.flatMap cGHash) t8.Graph.Hashes.length false, .sl (t8.Graph.Edges.flatMap cGEdge) t8.Graph.Edges.length false, .sl (t8.Slots.flatMap cGVertsSlot) t8.Slots.length false] 0)), 64⟩⟩ : St) ∧ indexChange_J1 s_4 t8 err_10 = some r) ?_ ?_
 ·
  refine sr (N' := 192) rfl ?_
  refine pA ?_
  refine pu rfl (ap_ldv Z1 Z3 Z4) ?_
  refine fs ?_
  refine AWp.block ?_
  refine sr (N' := 256) rfl ?_
  iterate 2 refine pA ?_
  refine fs ?_
  refine AWp.condM hm Z1 (fun _ hm => ?_) (fun _ hm => ?_)
  ·
   refine AWp.reg 64 (N' := 320) rfl ?_
   refine pA ?_
   refine pu rfl (ap_ldv Z1 Z3 Z4) ?_
   refine pA ?_
   refine pu rfl (ap_ldv Z1 Z3 Z4) ?_
   obtain ⟨⟨r2, r3, r4⟩, h1, hm⟩ := bnd hm
   refine ARun.callQ (r := .tup [.sl (r2.flatMap cGVertsSlot) r2.length false, .v (.int .i64 r3), .v (.int .i64 r4)]) Zd Z1 fb83 (fun H => (cD (CFGVertsSlot.sl _ _ _) (cV .nil))) (vertsAdd_c h1) ?_
   iterate 5 refine pA ?_
   refine ARun.heap0 (id := 266) rfl (ah_var (ys := [.v (.int .i64 s_0.Graph.Config.N), .v (.int .i64 s_0.Graph.Config.L), .v (.int .i64 s_0.Graph.Config.R), .sl (s_0.Graph.Hashes.flatMap cGHash) s_0.Graph.Hashes.length false, .sl (s_0.Graph.Edges.flatMap cGEdge) s_0.Graph.Edges.length false, .sl (r2.flatMap cGVertsSlot) r2.length false]) sz31 Z1 Z1 Z3 rfl (Nat.le_of_ble_eq_true rfl) Z9 rfl) ?_
   refine pA ?_
   refine ARun.fin ?_
   refine normIn ?_
   refine normJ ?_
   refine ⟨_, ?_, (GSnapState.mk s_0.Graph r2), (GSnapState.mk (GGraph.mk (GConfig.mk 0 0 0) [] []) []), r4, rfl, hm⟩
   refine St.Le.trans (le_cells 2 (ys := [.v (.int .i64 ((((GSnapState.mk (GGraph.mk (GConfig.mk 0 0 0) [] []) []).Graph).Config).N)), .v (.int .i64 ((((GSnapState.mk (GGraph.mk (GConfig.mk 0 0 0) [] []) []).Graph).Config).L)), .v (.int .i64 ((((GSnapState.mk (GGraph.mk (GConfig.mk 0 0 0) [] []) []).Graph).Config).R)), .sl ((((GSnapState.mk (GGraph.mk (GConfig.mk 0 0 0) [] []) []).Graph).Hashes).flatMap cGHash) (((GSnapState.mk (GGraph.mk (GConfig.mk 0 0 0) [] []) []).Graph).Hashes).length false, .sl ((((GSnapState.mk (GGraph.mk (GConfig.mk 0 0 0) [] []) []).Graph).Edges).flatMap cGEdge) (((GSnapState.mk (GGraph.mk (GConfig.mk 0 0 0) [] []) []).Graph).Edges).length false, .sl (((GSnapState.mk (GGraph.mk (GConfig.mk 0 0 0) [] []) []).Slots).flatMap cGVertsSlot) ((GSnapState.mk (GGraph.mk (GConfig.mk 0 0 0) [] []) []).Slots).length false]) Z3 (.cons (.data _ (.v _)) (.cons (.data _ (.v _)) (.cons (.data _ (.v _)) (.cons (.nil false) (.cons (.nil false) (.cons (.nil false) .nil))))))) ?_
   exact le_canon (fun j => bif j == 1 then 0 else bif j == 2 then 2 else 0) (wV (wk_fset _ _ (wk_adr Z1 rfl Z7) (wk_fset _ _ (wk_adr Z1 rfl Z7) wk_none))) (heapWk_of _ (entWk_upd (entWk_data Z3 (Nat.le_refl _) (Nat.zero_le _) (CFGSnapState.dat (GSnapState.mk (GGraph.mk (GConfig.mk 0 0 0) [] []) []))) (entWk_upd (entWk_data Z3 (Nat.le_refl _) (Nat.zero_le _) (CFGSnapState.dat (GSnapState.mk s_0.Graph r2))) entWk_none)) Z8)
  ·
   refine sr (N' := 320) rfl ?_
   iterate 2 refine pA ?_
   refine fs ?_
   refine AWp.condM hm Z1 (fun _ hm => ?_) (fun _ hm => ?_)
   ·
    refine AWp.seq' ?_
    refine sr (N' := 384) rfl ?_
    refine pu rfl (ap_ldv Z1 Z3 Z2) ?_
    refine pA ?_
    obtain ⟨r6, h5, hm⟩ := bnd hm
    refine ARun.callQ (r := .v (.int .i64 r6)) Zd Z1 fb75 (fun H => (cD (.agg _ (CFGSnapState.dat _)) (cV .nil))) (indexDegree_c h5) ?_
    refine pA ?_
    refine fs ?_
    refine AWp.condM hm Z1 (fun _ hm => ?_) (fun _ hm => ?_)
    ·
     refine sr (N' := 448) rfl ?_
     refine pu rfl (ap_ldv Z1 Z3 Z2) ?_
     refine ARun.heap0 (id := 385) rfl (ah_var (ys := [.v (.int .i64 s_0.Graph.Config.N), .v (.int .i64 s_0.Graph.Config.L), .v (.int .i64 s_0.Graph.Config.R), .sl (s_0.Graph.Hashes.flatMap cGHash) s_0.Graph.Hashes.length false, .sl (s_0.Graph.Edges.flatMap cGEdge) s_0.Graph.Edges.length false, .sl (s_0.Slots.flatMap cGVertsSlot) s_0.Slots.length false]) sz33 Z1 Z1 Z3 rfl (Nat.le_of_ble_eq_true rfl) Z9 rfl) ?_
     refine pA ?_
     refine fs ?_
     refine AWp.ret ?_
     refine retSeq ?_
     refine retIn ?_
     refine retJ ?_
     cases hm
     exact retL (.inr rfl) (by rw [Tryz.results43]) (.cell (ap_ldv' Z1 Z3 Z2) (.tmp Z1 .nil)) rfl (tdt (.cons (td rfl (.agg _ (CFGSnapState.dat _))) (.cons (td rfl (.v _)) .nil)))
    ·
     refine AWp.skip ?_
     refine normSeq ?_
     refine AWp.reg 64 (N' := 448) rfl ?_
     refine pA ?_
     refine pu rfl (ap_ldv Z1 Z3 Z4) ?_
     refine pA ?_
     refine pu rfl (ap_ldv Z1 Z3 Z4) ?_
     obtain ⟨⟨r8, r9⟩, h7, hm⟩ := bnd hm
     refine ARun.callQ (r := .tup [.sl (r8.flatMap cGVertsSlot) r8.length false, .v (.int .i64 r9)]) Zd Z1 fb84 (fun H => (cD (CFGVertsSlot.sl _ _ _) (cV .nil))) (vertsRemove_c h7) ?_
     iterate 4 refine pA ?_
     refine ARun.heap0 (id := 393) rfl (ah_var (ys := [.v (.int .i64 s_0.Graph.Config.N), .v (.int .i64 s_0.Graph.Config.L), .v (.int .i64 s_0.Graph.Config.R), .sl (s_0.Graph.Hashes.flatMap cGHash) s_0.Graph.Hashes.length false, .sl (s_0.Graph.Edges.flatMap cGEdge) s_0.Graph.Edges.length false, .sl (r8.flatMap cGVertsSlot) r8.length false]) sz31 Z1 Z1 Z3 rfl (Nat.le_of_ble_eq_true rfl) Z9 rfl) ?_
     refine pA ?_
     refine ARun.fin ?_
     refine normIn ?_
     refine normJ ?_
     refine ⟨_, ?_, (GSnapState.mk s_0.Graph r8), (GSnapState.mk (GGraph.mk (GConfig.mk 0 0 0) [] []) []), r9, rfl, hm⟩
     refine St.Le.trans (le_cells 2 (ys := [.v (.int .i64 ((((GSnapState.mk (GGraph.mk (GConfig.mk 0 0 0) [] []) []).Graph).Config).N)), .v (.int .i64 ((((GSnapState.mk (GGraph.mk (GConfig.mk 0 0 0) [] []) []).Graph).Config).L)), .v (.int .i64 ((((GSnapState.mk (GGraph.mk (GConfig.mk 0 0 0) [] []) []).Graph).Config).R)), .sl ((((GSnapState.mk (GGraph.mk (GConfig.mk 0 0 0) [] []) []).Graph).Hashes).flatMap cGHash) (((GSnapState.mk (GGraph.mk (GConfig.mk 0 0 0) [] []) []).Graph).Hashes).length false, .sl ((((GSnapState.mk (GGraph.mk (GConfig.mk 0 0 0) [] []) []).Graph).Edges).flatMap cGEdge) (((GSnapState.mk (GGraph.mk (GConfig.mk 0 0 0) [] []) []).Graph).Edges).length false, .sl (((GSnapState.mk (GGraph.mk (GConfig.mk 0 0 0) [] []) []).Slots).flatMap cGVertsSlot) ((GSnapState.mk (GGraph.mk (GConfig.mk 0 0 0) [] []) []).Slots).length false]) Z3 (.cons (.data _ (.v _)) (.cons (.data _ (.v _)) (.cons (.data _ (.v _)) (.cons (.nil false) (.cons (.nil false) (.cons (.nil false) .nil))))))) ?_
     exact le_canon (fun j => bif j == 1 then 0 else bif j == 2 then 2 else 0) (wV (wk_fset _ _ (wk_adr Z1 rfl Z7) (wk_fset _ _ (wk_adr Z1 rfl Z7) wk_none))) (heapWk_of _ (entWk_upd (entWk_data Z3 (Nat.le_refl _) (Nat.zero_le _) (CFGSnapState.dat (GSnapState.mk (GGraph.mk (GConfig.mk 0 0 0) [] []) []))) (entWk_upd (entWk_data Z3 (Nat.le_refl _) (Nat.zero_le _) (CFGSnapState.dat (GSnapState.mk s_0.Graph r8))) entWk_none)) Z8)
   ·
    refine sr (N' := 384) rfl ?_
    iterate 2 refine pA ?_
    refine fs ?_
    refine AWp.condM hm Z1 (fun _ hm => ?_) (fun _ hm => ?_)
    ·
     refine AWp.reg 64 (N' := 448) rfl ?_
     refine pA ?_
     refine pu rfl (ap_ldv Z1 Z3 Z4) ?_
     iterate 2 refine pA ?_
     obtain ⟨⟨r11, r12⟩, h10, hm⟩ := bnd hm
     refine ARun.callQ (r := .tup [.agg [.v (.int .i64 r11.Config.N), .v (.int .i64 r11.Config.L), .v (.int .i64 r11.Config.R), .sl (r11.Hashes.flatMap cGHash) r11.Hashes.length false, .sl (r11.Edges.flatMap cGEdge) r11.Edges.length false], .v (.int .i64 r12)]) Zd Z1 fb85 (fun H => (cD (.agg _ (CFGGraph.dat _)) (cV (cV .nil)))) (tiersInsert_c h10) ?_
     iterate 4 refine pA ?_
     refine ARun.heap0 (id := 393) rfl (ah_var (ys := [.v (.int .i64 r11.Config.N), .v (.int .i64 r11.Config.L), .v (.int .i64 r11.Config.R), .sl (r11.Hashes.flatMap cGHash) r11.Hashes.length false, .sl (r11.Edges.flatMap cGEdge) r11.Edges.length false, .sl (s_0.Slots.flatMap cGVertsSlot) s_0.Slots.length false]) sz30 Z1 Z1 Z3 rfl (Nat.le_of_ble_eq_true rfl) Z9 rfl) ?_
     refine pA ?_
     refine ARun.fin ?_
     refine normIn ?_
     refine normJ ?_
     refine ⟨_, ?_, (GSnapState.mk r11 s_0.Slots), (GSnapState.mk (GGraph.mk (GConfig.mk 0 0 0) [] []) []), r12, rfl, hm⟩
     refine St.Le.trans (le_cells 2 (ys := [.v (.int .i64 ((((GSnapState.mk (GGraph.mk (GConfig.mk 0 0 0) [] []) []).Graph).Config).N)), .v (.int .i64 ((((GSnapState.mk (GGraph.mk (GConfig.mk 0 0 0) [] []) []).Graph).Config).L)), .v (.int .i64 ((((GSnapState.mk (GGraph.mk (GConfig.mk 0 0 0) [] []) []).Graph).Config).R)), .sl ((((GSnapState.mk (GGraph.mk (GConfig.mk 0 0 0) [] []) []).Graph).Hashes).flatMap cGHash) (((GSnapState.mk (GGraph.mk (GConfig.mk 0 0 0) [] []) []).Graph).Hashes).length false, .sl ((((GSnapState.mk (GGraph.mk (GConfig.mk 0 0 0) [] []) []).Graph).Edges).flatMap cGEdge) (((GSnapState.mk (GGraph.mk (GConfig.mk 0 0 0) [] []) []).Graph).Edges).length false, .sl (((GSnapState.mk (GGraph.mk (GConfig.mk 0 0 0) [] []) []).Slots).flatMap cGVertsSlot) ((GSnapState.mk (GGraph.mk (GConfig.mk 0 0 0) [] []) []).Slots).length false]) Z3 (.cons (.data _ (.v _)) (.cons (.data _ (.v _)) (.cons (.data _ (.v _)) (.cons (.nil false) (.cons (.nil false) (.cons (.nil false) .nil))))))) ?_
     exact le_canon (fun j => bif j == 1 then 0 else bif j == 2 then 2 else 0) (wV (wk_fset _ _ (wk_adr Z1 rfl Z7) (wk_fset _ _ (wk_adr Z1 rfl Z7) wk_none))) (heapWk_of _ (entWk_upd (entWk_data Z3 (Nat.le_refl _) (Nat.zero_le _) (CFGSnapState.dat (GSnapState.mk (GGraph.mk (GConfig.mk 0 0 0) [] []) []))) (entWk_upd (entWk_data Z3 (Nat.le_refl _) (Nat.zero_le _) (CFGSnapState.dat (GSnapState.mk r11 s_0.Slots))) entWk_none)) Z8)
    ·
     refine sr (N' := 448) rfl ?_
     iterate 2 refine pA ?_
     refine fs ?_
     refine AWp.condM hm Z1 (fun _ hm => ?_) (fun _ hm => ?_)
     ·
      refine AWp.seq' ?_
      refine sr (N' := 512) rfl ?_
      iterate 3 refine pA ?_
      refine fs ?_
      refine AWp.condM hm Z1 (fun _ hm => ?_) (fun _ hm => ?_)
      ·
       refine sr (N' := 576) rfl ?_
       refine pu rfl (ap_ldv Z1 Z3 Z2) ?_
       refine ARun.heap0 (id := 513) rfl (ah_var (ys := [.v (.int .i64 s_0.Graph.Config.N), .v (.int .i64 s_0.Graph.Config.L), .v (.int .i64 s_0.Graph.Config.R), .sl (s_0.Graph.Hashes.flatMap cGHash) s_0.Graph.Hashes.length false, .sl (s_0.Graph.Edges.flatMap cGEdge) s_0.Graph.Edges.length false, .sl (s_0.Slots.flatMap cGVertsSlot) s_0.Slots.length false]) sz33 Z1 Z1 Z3 rfl (Nat.le_of_ble_eq_true rfl) Z9 rfl) ?_
       refine pA ?_
       refine fs ?_
       refine AWp.ret ?_
       refine retSeq ?_
       refine retIn ?_
       refine retJ ?_
       cases hm
       exact retL (.inr rfl) (by rw [Tryz.results43]) (.cell (ap_ldv' Z1 Z3 Z2) (.tmp Z1 .nil)) rfl (tdt (.cons (td rfl (.agg _ (CFGSnapState.dat _))) (.cons (td rfl (.v _)) .nil)))
      ·
       refine AWp.skip ?_
       refine normSeq ?_
       refine AWp.reg 64 (N' := 576) rfl ?_
       refine pA ?_
       refine pu rfl (ap_ldv Z1 Z3 Z4) ?_
       iterate 2 refine pA ?_
       obtain ⟨⟨r14, r15⟩, h13, hm⟩ := bnd hm
       refine ARun.callQ (r := .tup [.agg [.v (.int .i64 r14.Config.N), .v (.int .i64 r14.Config.L), .v (.int .i64 r14.Config.R), .sl (r14.Hashes.flatMap cGHash) r14.Hashes.length false, .sl (r14.Edges.flatMap cGEdge) r14.Edges.length false], .v (.int .i64 r15)]) Zd Z1 fb86 (fun H => (cD (.agg _ (CFGGraph.dat _)) (cV (cV .nil)))) (tiersDelete_c h13) ?_
       iterate 4 refine pA ?_
       refine ARun.heap0 (id := 521) rfl (ah_var (ys := [.v (.int .i64 r14.Config.N), .v (.int .i64 r14.Config.L), .v (.int .i64 r14.Config.R), .sl (r14.Hashes.flatMap cGHash) r14.Hashes.length false, .sl (r14.Edges.flatMap cGEdge) r14.Edges.length false, .sl (s_0.Slots.flatMap cGVertsSlot) s_0.Slots.length false]) sz30 Z1 Z1 Z3 rfl (Nat.le_of_ble_eq_true rfl) Z9 rfl) ?_
       refine pA ?_
       refine ARun.fin ?_
       refine normIn ?_
       refine normJ ?_
       refine ⟨_, ?_, (GSnapState.mk r14 s_0.Slots), (GSnapState.mk (GGraph.mk (GConfig.mk 0 0 0) [] []) []), r15, rfl, hm⟩
       refine St.Le.trans (le_cells 2 (ys := [.v (.int .i64 ((((GSnapState.mk (GGraph.mk (GConfig.mk 0 0 0) [] []) []).Graph).Config).N)), .v (.int .i64 ((((GSnapState.mk (GGraph.mk (GConfig.mk 0 0 0) [] []) []).Graph).Config).L)), .v (.int .i64 ((((GSnapState.mk (GGraph.mk (GConfig.mk 0 0 0) [] []) []).Graph).Config).R)), .sl ((((GSnapState.mk (GGraph.mk (GConfig.mk 0 0 0) [] []) []).Graph).Hashes).flatMap cGHash) (((GSnapState.mk (GGraph.mk (GConfig.mk 0 0 0) [] []) []).Graph).Hashes).length false, .sl ((((GSnapState.mk (GGraph.mk (GConfig.mk 0 0 0) [] []) []).Graph).Edges).flatMap cGEdge) (((GSnapState.mk (GGraph.mk (GConfig.mk 0 0 0) [] []) []).Graph).Edges).length false, .sl (((GSnapState.mk (GGraph.mk (GConfig.mk 0 0 0) [] []) []).Slots).flatMap cGVertsSlot) ((GSnapState.mk (GGraph.mk (GConfig.mk 0 0 0) [] []) []).Slots).length false]) Z3 (.cons (.data _ (.v _)) (.cons (.data _ (.v _)) (.cons (.data _ (.v _)) (.cons (.nil false) (.cons (.nil false) (.cons (.nil false) .nil))))))) ?_
       exact le_canon (fun j => bif j == 1 then 0 else bif j == 2 then 2 else 0) (wV (wk_fset _ _ (wk_adr Z1 rfl Z7) (wk_fset _ _ (wk_adr Z1 rfl Z7) wk_none))) (heapWk_of _ (entWk_upd (entWk_data Z3 (Nat.le_refl _) (Nat.zero_le _) (CFGSnapState.dat (GSnapState.mk (GGraph.mk (GConfig.mk 0 0 0) [] []) []))) (entWk_upd (entWk_data Z3 (Nat.le_refl _) (Nat.zero_le _) (CFGSnapState.dat (GSnapState.mk r14 s_0.Slots))) entWk_none)) Z8)
     ·
      refine sr (N' := 512) rfl ?_
      iterate 2 refine pA ?_
      refine fs ?_
      refine AWp.condM hm Z1 (fun _ hm => ?_) (fun _ hm => ?_)
      ·
       cases hm
      ·
       refine AWp.skip ?_
       refine normIn ?_
       refine normJ ?_
       refine ⟨_, ?_, s_0, (GSnapState.mk (GGraph.mk (GConfig.mk 0 0 0) [] []) []), 0, rfl, hm⟩
       refine St.Le.trans (le_cells 2 (ys := [.v (.int .i64 ((((GSnapState.mk (GGraph.mk (GConfig.mk 0 0 0) [] []) []).Graph).Config).N)), .v (.int .i64 ((((GSnapState.mk (GGraph.mk (GConfig.mk 0 0 0) [] []) []).Graph).Config).L)), .v (.int .i64 ((((GSnapState.mk (GGraph.mk (GConfig.mk 0 0 0) [] []) []).Graph).Config).R)), .sl ((((GSnapState.mk (GGraph.mk (GConfig.mk 0 0 0) [] []) []).Graph).Hashes).flatMap cGHash) (((GSnapState.mk (GGraph.mk (GConfig.mk 0 0 0) [] []) []).Graph).Hashes).length false, .sl ((((GSnapState.mk (GGraph.mk (GConfig.mk 0 0 0) [] []) []).Graph).Edges).flatMap cGEdge) (((GSnapState.mk (GGraph.mk (GConfig.mk 0 0 0) [] []) []).Graph).Edges).length false, .sl (((GSnapState.mk (GGraph.mk (GConfig.mk 0 0 0) [] []) []).Slots).flatMap cGVertsSlot) ((GSnapState.mk (GGraph.mk (GConfig.mk 0 0 0) [] []) []).Slots).length false]) Z3 (.cons (.data _ (.v _)) (.cons (.data _ (.v _)) (.cons (.data _ (.v _)) (.cons (.nil false) (.cons (.nil false) (.cons (.nil false) .nil))))))) ?_
       exact le_canon (fun j => bif j == 1 then 0 else bif j == 2 then 2 else 0) (wV (wk_fset _ _ (wk_adr Z1 rfl Z7) (wk_fset _ _ (wk_adr Z1 rfl Z7) wk_none))) (heapWk_of _ (entWk_upd (entWk_data Z3 (Nat.le_refl _) (Nat.zero_le _) (CFGSnapState.dat (GSnapState.mk (GGraph.mk (GConfig.mk 0 0 0) [] []) []))) (entWk_upd (entWk_data Z3 (Nat.le_refl _) (Nat.zero_le _) (CFGSnapState.dat s_0)) entWk_none)) Z8)
 ·
  rintro s ⟨s_4, t8, err_10, rfl, hm⟩
  unfold indexChange_J1 at hm
  refine sr (N' := 128) rfl ?_
  refine pu rfl (ap_ldv Z1 Z3 Z2) ?_
  refine pA ?_
  refine ARun.heap0 (id := 66) rfl (ah_var (ys := [.v (.int .i64 s_4.Graph.Config.N), .v (.int .i64 s_4.Graph.Config.L), .v (.int .i64 s_4.Graph.Config.R), .sl (s_4.Graph.Hashes.flatMap cGHash) s_4.Graph.Hashes.length false, .sl (s_4.Graph.Edges.flatMap cGEdge) s_4.Graph.Edges.length false, .sl (s_4.Slots.flatMap cGVertsSlot) s_4.Slots.length false]) sz33 Z1 Z1 Z3 rfl (Nat.le_of_ble_eq_true rfl) Z9 rfl) ?_
  refine pA ?_
  refine fs ?_
  refine AWp.ret ?_
  cases hm
  exact retL (.inr rfl) (by rw [Tryz.results43]) (.cell (ap_ldv' Z1 Z3 Z2) (.tmp Z1 .nil)) rfl (tdt (.cons (td rfl (.agg _ (CFGSnapState.dat _))) (.cons (td rfl (.v _)) .nil)))
def indexDo_m (s_0 : GSnapState) (c_1 : GIndexCommand) : Option (GSnapState × GA) :=
 ((gopt (((decide (c_1.Do < 1)) || (decide (15 < c_1.Do))) == false) false (snapRight_m s_0)).bind fun r2 =>
 (bif (((decide (c_1.Do < 1)) || (decide (15 < c_1.Do))) || (!r2)) then
  some (s_0, (GA.i 36 .i64 1))
 else
  ((vertsFind_m s_0.Slots c_1.A).bind fun ⟨r4, r5⟩ =>
  ((vertsFind_m s_0.Slots c_1.B).bind fun ⟨r7, r8⟩ =>
  ((indexAsksA_m c_1.Do).bind fun r10 =>
  ((gopt ((r10 && (!r5)) == false) false (indexAsksB_m c_1.Do)).bind fun r12 =>
  (bif ((r10 && (!r5)) || (r12 && (!r8))) then
   some (s_0, (GA.i 36 .i64 7))
  else
   (bif ((decide (4 < c_1.Do)) && (c_1.Do != 15)) then
    ((indexAnswer_m s_0 c_1.Do r4 r7).bind fun r14 =>
    some (s_0, r14))
   else
    ((indexChange_m s_0 c_1 r4 r7).bind fun ⟨r16, r17⟩ =>
    (bif (r17 != 0) then
     some (s_0, (GA.i 36 .i64 r17))
    else
     some (r16, (GA.i 36 .i64 0))))))))))))
theorem indexDo_c {s_0 : GSnapState} {c_1 : GIndexCommand} {r : GSnapState × GA} (hm : indexDo_m s_0 c_1 = some r) : PureC Tryz.prog 15 [.agg [.v (.int .i64 s_0.Graph.Config.N), .v (.int .i64 s_0.Graph.Config.L), .v (.int .i64 s_0.Graph.Config.R), .sl (s_0.Graph.Hashes.flatMap cGHash) s_0.Graph.Hashes.length false, .sl (s_0.Graph.Edges.flatMap cGEdge) s_0.Graph.Edges.length false, .sl (s_0.Slots.flatMap cGVertsSlot) s_0.Slots.length false], .agg [.v (.int .i64 c_1.Do), .v (.int .u64 c_1.A), .v (.int .u64 c_1.B), .v (.string c_1.Text)]] (.tup [.agg [.v (.int .i64 r.1.Graph.Config.N), .v (.int .i64 r.1.Graph.Config.L), .v (.int .i64 r.1.Graph.Config.R), .sl (r.1.Graph.Hashes.flatMap cGHash) r.1.Graph.Hashes.length false, .sl (r.1.Graph.Edges.flatMap cGEdge) r.1.Graph.Edges.length false, .sl (r.1.Slots.flatMap cGVertsSlot) r.1.Slots.length false], GA.av r.2]) := by
 refine PureC.of_body Tryz.func15 rfl ?_
 simp only [Tryz.ntmps15, List.length_cons, List.length_nil, Nat.reduceAdd, Nat.reduceSub, empty_eq]
 unfold indexDo_m at hm
 refine sr (N' := 64) rfl ?_
 refine hp (id := 0) rfl rfl (aheap_box Z1 Z5) ?_
 refine hp (id := 1) rfl rfl (aheap_box Z1 Z5) ?_
 refine hp (id := 2) rfl rfl (aheap_alloc' zc33 Z5) ?_
 refine pA ?_
 refine fs ?_
 refine AWp.seq' ?_
 refine sr (N' := 128) rfl ?_
 refine pA ?_
 refine pu rfl (ap_ldv Z1 Z3 Z4) ?_
 iterate 3 first | refine pA ?_ | refine pB ?_
 refine pg rfl rfl Z2 (fun hb => (ap_ldv (Zh hb) Z3 Z4)) ?_
 iterate 3 first | refine pA ?_ | refine pB ?_
 refine pg rfl rfl Z2 (fun hb => (ap_ldv (Zh hb) Z3 Z2)) ?_
 obtain ⟨r2, h1, hm⟩ := bnd hm
 refine ARun.callQG (r := .v (.bool r2)) Zd rfl Z2 Z1 fb19 (fun hb H => (.cons (td (Zh hb) (.agg _ (CFGSnapState.dat _))) .nil)) (fun hb => snapRight_c (gopt_t h1 hb)) ?_
 iterate 2 first | refine pA ?_ | refine pB ?_
 refine fs ?_
 refine AWp.condM hm Z1 (fun _ hm => ?_) (fun _ hm => ?_)
 ·
  refine sr (N' := 192) rfl ?_
  refine pu rfl (ap_ldv Z1 Z3 Z2) ?_
  refine pA ?_
  refine ARun.heap0 (id := 130) rfl (ah_var (ys := [.v (.int .i64 s_0.Graph.Config.N), .v (.int .i64 s_0.Graph.Config.L), .v (.int .i64 s_0.Graph.Config.R), .sl (s_0.Graph.Hashes.flatMap cGHash) s_0.Graph.Hashes.length false, .sl (s_0.Graph.Edges.flatMap cGEdge) s_0.Graph.Edges.length false, .sl (s_0.Slots.flatMap cGVertsSlot) s_0.Slots.length false]) sz33 Z1 Z1 Z3 rfl (Nat.le_of_ble_eq_true rfl) Z9 rfl) ?_
  refine pA ?_
  refine fs ?_
  refine AWp.ret ?_
  refine retSeq ?_
  cases hm
  exact retL (.inr rfl) (by rw [Tryz.results15]) (.cell (ap_ldv' Z1 Z3 Z2) (.tmp Z1 .nil)) rfl (tdt (.cons (td rfl (.agg _ (CFGSnapState.dat _))) (.cons (td rfl (GA.data _)) .nil)))
 ·
  refine AWp.skip ?_
  refine normSeq ?_
  refine sr (N' := 192) rfl ?_
  refine pA ?_
  refine pu rfl (ap_ldv Z1 Z3 Z4) ?_
  refine pA ?_
  refine pu rfl (ap_ldv Z1 Z3 Z4) ?_
  obtain ⟨⟨r4, r5⟩, h3, hm⟩ := bnd hm
  refine ARun.callQ (r := .tup [.v (.int .i64 r4), .v (.bool r5)]) Zd Z1 fb39 (fun H => (cD (CFGVertsSlot.sl _ _ _) (cV .nil))) (vertsFind_c h3) ?_
  iterate 5 refine pA ?_
  refine fs ?_
  refine sr (N' := 256) rfl ?_
  refine pA ?_
  refine pu rfl (ap_ldv Z1 Z3 Z4) ?_
  refine pA ?_
  refine pu rfl (ap_ldv Z1 Z3 Z4) ?_
  obtain ⟨⟨r7, r8⟩, h6, hm⟩ := bnd hm
  refine ARun.callQ (r := .tup [.v (.int .i64 r7), .v (.bool r8)]) Zd Z1 fb39 (fun H => (cD (CFGVertsSlot.sl _ _ _) (cV .nil))) (vertsFind_c h6) ?_
  iterate 5 refine pA ?_
  refine fs ?_
  refine AWp.seq' ?_
  refine sr (N' := 320) rfl ?_
  refine pA ?_
  refine pu rfl (ap_ldv Z1 Z3 Z4) ?_
  obtain ⟨r10, h9, hm⟩ := bnd hm
  refine ARun.callQ (r := .v (.bool r10)) Zd Z1 fb40 (fun H => (cV .nil)) (indexAsksA_c h9) ?_
  iterate 6 first | refine pA ?_ | refine pB ?_
  refine pg rfl rfl Z2 (fun hb => (ap_ldv (Zh hb) Z3 Z4)) ?_
  obtain ⟨r12, h11, hm⟩ := bnd hm
  refine ARun.callQG (r := .v (.bool r12)) Zd rfl Z2 Z1 fb41 (fun hb H => (.cons (td (Zh hb) (.v _)) .nil)) (fun hb => indexAsksB_c (gopt_t h11 hb)) ?_
  iterate 5 first | refine pA ?_ | refine pB ?_
  refine fs ?_
  refine AWp.condM hm Z1 (fun _ hm => ?_) (fun _ hm => ?_)
  ·
   refine sr (N' := 384) rfl ?_
   refine pu rfl (ap_ldv Z1 Z3 Z2) ?_
   refine pA ?_
   refine ARun.heap0 (id := 322) rfl (ah_var (ys := [.v (.int .i64 s_0.Graph.Config.N), .v (.int .i64 s_0.Graph.Config.L), .v (.int .i64 s_0.Graph.Config.R), .sl (s_0.Graph.Hashes.flatMap cGHash) s_0.Graph.Hashes.length false, .sl (s_0.Graph.Edges.flatMap cGEdge) s_0.Graph.Edges.length false, .sl (s_0.Slots.flatMap cGVertsSlot) s_0.Slots.length false]) sz33 Z1 Z1 Z3 rfl (Nat.le_of_ble_eq_true rfl) Z9 rfl) ?_
   refine pA ?_
   refine fs ?_
   refine AWp.ret ?_
   refine retSeq ?_
   cases hm
   exact retL (.inr rfl) (by rw [Tryz.results15]) (.cell (ap_ldv' Z1 Z3 Z2) (.tmp Z1 .nil)) rfl (tdt (.cons (td rfl (.agg _ (CFGSnapState.dat _))) (.cons (td rfl (GA.data _)) .nil)))
  ·
   refine AWp.skip ?_
   refine normSeq ?_
   refine AWp.seq' ?_
   refine sr (N' := 384) rfl ?_
   refine pA ?_
   refine pu rfl (ap_ldv Z1 Z3 Z4) ?_
   iterate 3 first | refine pA ?_ | refine pB ?_
   refine pg rfl rfl Z2 (fun hb => (ap_ldv (Zh hb) Z3 Z4)) ?_
   iterate 2 first | refine pA ?_ | refine pB ?_
   refine fs ?_
   refine AWp.condM hm Z1 (fun _ hm => ?_) (fun _ hm => ?_)
   ·
    refine sd mix (by kernel_rfl) (N' := 448) rfl ?_
    refine pu rfl (ap_ldv Z1 Z3 Z2) ?_
    refine pu rfl (ap_ldv Z1 Z3 Z2) ?_
    refine pA ?_
    refine pu rfl (ap_ldv Z1 Z3 Z4) ?_
    iterate 2 refine pA ?_
    obtain ⟨r14, h13, hm⟩ := bnd hm
    refine ARun.callQ (r := GA.av r14) Zd Z1 fb42 (fun H => (cD (.agg _ (CFGSnapState.dat _)) (cV (cV (cV .nil))))) (indexAnswer_c h13) ?_
    refine ARun.heap0 (id := 391) rfl (ah_var (ys := [.v (.int .i64 s_0.Graph.Config.N), .v (.int .i64 s_0.Graph.Config.L), .v (.int .i64 s_0.Graph.Config.R), .sl (s_0.Graph.Hashes.flatMap cGHash) s_0.Graph.Hashes.length false, .sl (s_0.Graph.Edges.flatMap cGEdge) s_0.Graph.Edges.length false, .sl (s_0.Slots.flatMap cGVertsSlot) s_0.Slots.length false]) sz33 Z1 Z1 Z3 rfl (Nat.le_of_ble_eq_true rfl) Z9 rfl) ?_
    refine pA ?_
    refine fs ?_
    refine AWp.ret ?_
    refine retSeq ?_
    cases hm
    exact retL (.inr rfl) (by rw [Tryz.results15]) (.cell (ap_ldv' Z1 Z3 Z2) (.tmp Z1 .nil)) rfl (tdt (.cons (td rfl (.agg _ (CFGSnapState.dat _))) (.cons (td rfl (GA.data _)) .nil)))
   ·
    refine AWp.skip ?_
    refine normSeq ?_
    refine sr (N' := 448) rfl ?_
    refine pu rfl (ap_ldv Z1 Z3 Z2) ?_
    refine pu rfl (ap_ldv Z1 Z3 Z2) ?_
    iterate 2 refine pA ?_
    obtain ⟨⟨r16, r17⟩, h15, hm⟩ := bnd hm
    refine ARun.callQ (r := .tup [.agg [.v (.int .i64 r16.Graph.Config.N), .v (.int .i64 r16.Graph.Config.L), .v (.int .i64 r16.Graph.Config.R), .sl (r16.Graph.Hashes.flatMap cGHash) r16.Graph.Hashes.length false, .sl (r16.Graph.Edges.flatMap cGEdge) r16.Graph.Edges.length false, .sl (r16.Slots.flatMap cGVertsSlot) r16.Slots.length false], .v (.int .i64 r17)]) Zd Z1 fb43 (fun H => (cD (.agg _ (CFGSnapState.dat _)) (cD (.agg _ (CFGIndexCommand.dat _)) (cV (cV .nil))))) (indexChange_c h15) ?_
    iterate 3 refine pA ?_
    refine hp (id := 392) rfl rfl (aheap_alloc' zc33 Z5) ?_
    refine ARun.heap0 (id := 393) rfl (ah_var (ys := [.v (.int .i64 r16.Graph.Config.N), .v (.int .i64 r16.Graph.Config.L), .v (.int .i64 r16.Graph.Config.R), .sl (r16.Graph.Hashes.flatMap cGHash) r16.Graph.Hashes.length false, .sl (r16.Graph.Edges.flatMap cGEdge) r16.Graph.Edges.length false, .sl (r16.Slots.flatMap cGVertsSlot) r16.Slots.length false]) sz33 Z1 Z1 Z3 rfl (Nat.le_of_ble_eq_true rfl) Z9 rfl) ?_
    refine pA ?_
    refine fs ?_
    refine AWp.seq' ?_
    refine sr (N' := 512) rfl ?_
    iterate 2 refine pA ?_
    refine fs ?_
    refine AWp.condM hm Z1 (fun _ hm => ?_) (fun _ hm => ?_)
    ·
     refine sr (N' := 576) rfl ?_
     refine pu rfl (ap_ldv Z1 Z3 Z2) ?_
     iterate 2 refine pA ?_
     refine ARun.heap0 (id := 515) rfl (ah_var (ys := [.v (.int .i64 s_0.Graph.Config.N), .v (.int .i64 s_0.Graph.Config.L), .v (.int .i64 s_0.Graph.Config.R), .sl (s_0.Graph.Hashes.flatMap cGHash) s_0.Graph.Hashes.length false, .sl (s_0.Graph.Edges.flatMap cGEdge) s_0.Graph.Edges.length false, .sl (s_0.Slots.flatMap cGVertsSlot) s_0.Slots.length false]) sz33 Z1 Z1 Z3 rfl (Nat.le_of_ble_eq_true rfl) Z9 rfl) ?_
     refine pA ?_
     refine fs ?_
     refine AWp.ret ?_
     refine retSeq ?_
     cases hm
     exact retL (.inr rfl) (by rw [Tryz.results15]) (.cell (ap_ldv' Z1 Z3 Z2) (.tmp Z1 .nil)) rfl (tdt (.cons (td rfl (.agg _ (CFGSnapState.dat _))) (.cons (td rfl (GA.data _)) .nil)))
    ·
     refine AWp.skip ?_
     refine normSeq ?_
     refine sr (N' := 576) rfl ?_
     refine pu rfl (ap_ldv Z1 Z3 Z2) ?_
     refine pA ?_
     refine ARun.heap0 (id := 514) rfl (ah_var (ys := [.v (.int .i64 r16.Graph.Config.N), .v (.int .i64 r16.Graph.Config.L), .v (.int .i64 r16.Graph.Config.R), .sl (r16.Graph.Hashes.flatMap cGHash) r16.Graph.Hashes.length false, .sl (r16.Graph.Edges.flatMap cGEdge) r16.Graph.Edges.length false, .sl (r16.Slots.flatMap cGVertsSlot) r16.Slots.length false]) sz33 Z1 Z1 Z3 rfl (Nat.le_of_ble_eq_true rfl) Z9 rfl) ?_
     refine pA ?_
     refine fs ?_
     refine AWp.ret ?_
     cases hm
     exact retL (.inr rfl) (by rw [Tryz.results15]) (.cell (ap_ldv' Z1 Z3 Z2) (.tmp Z1 .nil)) rfl (tdt (.cons (td rfl (.agg _ (CFGSnapState.dat _))) (.cons (td rfl (GA.data _)) .nil)))
def indexMustErrno_m (reply_0 : GA) : Option (Int) :=
 ((gaInt1 .i64 36 reply_0).bind fun r2 =>
 some r2)
theorem indexMustErrno_c {reply_0 : GA} {r : Int} (hm : indexMustErrno_m reply_0 = some r) : PureC Tryz.prog 38 [GA.av reply_0] (.v (.int .i64 r)) := by
 refine PureC.of_body Tryz.func38 rfl ?_
 simp only [Tryz.ntmps38, List.length_cons, List.length_nil, Nat.reduceAdd, Nat.reduceSub, empty_eq]
 unfold indexMustErrno_m at hm
 refine sr (N' := 64) rfl ?_
 refine pA ?_
 refine fs ?_
 refine sr (N' := 128) rfl ?_
 refine pA ?_
 obtain ⟨r2, h1, hm⟩ := bnd hm
 refine pu rfl (ap_as1int Tryz.underlying36 Z1 h1) ?_
 refine pA ?_
 refine fs ?_
 refine AWp.ret ?_
 cases hm
 exact ret1D (.inr rfl) Tryz.results38 (td Z1 (.v _))
def law21Awake_m : Option (Bool) :=
 ((indexNew_m (GConfig.mk 2 1 1) (GDrawWords.mk [3, 4, 5] 0)).bind fun ⟨r2, r3, r4⟩ =>
 ((indexDo_m r2 (GIndexCommand.mk 1 9 0 ⟨#[]⟩)).bind fun ⟨r6, r7⟩ =>
 ((indexDo_m r6 (GIndexCommand.mk 1 7 0 ⟨#[]⟩)).bind fun ⟨r9, r10⟩ =>
 ((indexDo_m r9 (GIndexCommand.mk 3 7 9 ⟨#[]⟩)).bind fun ⟨r12, r13⟩ =>
 ((indexDo_m r12 (GIndexCommand.mk 11 9 0 ⟨#[]⟩)).bind fun ⟨r15, r16⟩ =>
 ((indexDo_m r12 (GIndexCommand.mk 2 9 0 ⟨#[]⟩)).bind fun ⟨r18, r19⟩ =>
 ((indexDo_m r12 (GIndexCommand.mk 5 9 8 ⟨#[]⟩)).bind fun ⟨r21, r22⟩ =>
 ((indexDo_m r12 (GIndexCommand.mk 0 0 0 ⟨#[]⟩)).bind fun ⟨r24, r25⟩ =>
 ((gaLu 24 r16).bind fun ⟨r27, r28⟩ =>
 ((gopt (((r4 == 0) && (r3.At == 2)) == true) false (gaEqI r7 36 .i64 0)).bind fun b30 =>
 ((gopt ((((r4 == 0) && (r3.At == 2)) && b30) == true) false (gaEqI r10 36 .i64 0)).bind fun b32 =>
 ((gopt (((((r4 == 0) && (r3.At == 2)) && b30) && b32) == true) false (gaEqI r13 36 .i64 0)).bind fun b34 =>
 (bif ((((((r4 == 0) && (r3.At == 2)) && b30) && b32) && b34) && r28) then
  ((ref05Same_m r27 [7, 9]).bind fun r37 =>
  ((gopt (r37 == true) false (gaEqI r19 36 .i64 11)).bind fun b39 =>
  ((gopt ((r37 && b39) == true) false (gaEqI r22 36 .i64 7)).bind fun b41 =>
  ((gopt (((r37 && b39) && b41) == true) false (gaEqI r25 36 .i64 1)).bind fun b43 =>
  ((gopt ((bif (((r37 && b39) && b41) && b43) then true else false) == true) 0 (indexMustErrno_m r25)).bind fun r45 =>
  some ((bif (((r37 && b39) && b41) && b43) then true else false) && (r45 == 1)))))))
 else
  some false)))))))))))))
theorem law21Awake_c {r : Bool} (hm : law21Awake_m = some r) : PureC Tryz.prog 14 [] (.v (.bool r)) := by
 refine PureC.of_body Tryz.func14 rfl ?_
 simp only [Tryz.ntmps14, List.length_cons, List.length_nil, Nat.reduceAdd, Nat.reduceSub, empty_eq]
 unfold law21Awake_m at hm
 refine sr (N' := 64) rfl ?_
 refine pA ?_
 refine fs ?_
 refine sr (N' := 128) rfl ?_
 refine pu rfl (by simp only [go_sem, Nat.reduceBEq]; exact (by kernel_rfl : abuild Tryz.prog 23 [(0, .v (.int .i64 2)), (1, .v (.int .i64 1)), (2, .v (.int .i64 1))] = some (.agg [.v (.int .i64 2), .v (.int .i64 1), .v (.int .i64 1)]))) ?_
 refine ARun.pop Zd (noOwn_parts (ps := [(0, .v (.int .u64 3)), (1, .v (.int .u64 4)), (2, .v (.int .u64 5))]) (by simp only [go_sem, Nat.reduceBEq]; try rfl) (dps_cons (.v _) (dps_cons (.v _) (dps_cons (.v _) dps_nil)))) (pop_list (CFi .u64) (l := [3, 4, 5]) (xs := [.v (.int .u64 3), .v (.int .u64 4), .v (.int .u64 5)]) Tryz.underlying24 sz43 zc43 Zd Zd Zd (ps := [(0, .v (.int .u64 3)), (1, .v (.int .u64 4)), (2, .v (.int .u64 5))]) (by simp only [go_sem, Nat.reduceBEq]; try rfl) (by kernel_rfl) (fun H => (.cons (.data _ (.v _)) (.cons (.data _ (.v _)) (.cons (.data _ (.v _)) .nil))))) rfl ?_
 refine pu rfl (by simp only [go_sem, Nat.reduceBEq]; exact (by kernel_rfl : abuild Tryz.prog 35 [(0, .sl (([3, 4, 5]).flatMap (ci .u64)) ([3, 4, 5]).length false)] = some (.agg [.sl (([3, 4, 5]).flatMap (ci .u64)) ([3, 4, 5]).length false, .v (.int .i64 0)]))) ?_
 obtain ⟨⟨r2, r3, r4⟩, h1, hm⟩ := bnd hm
 refine ARun.callQ (r := .tup [.agg [.v (.int .i64 r2.Graph.Config.N), .v (.int .i64 r2.Graph.Config.L), .v (.int .i64 r2.Graph.Config.R), .sl (r2.Graph.Hashes.flatMap cGHash) r2.Graph.Hashes.length false, .sl (r2.Graph.Edges.flatMap cGEdge) r2.Graph.Edges.length false, .sl (r2.Slots.flatMap cGVertsSlot) r2.Slots.length false], .agg [.sl (r3.List.flatMap (ci .u64)) r3.List.length false, .v (.int .i64 r3.At)], .v (.int .i64 r4)]) Zd Z1 fb13 (fun H => (.cons (td Z1 (.agg _ (CFGConfig.dat (GConfig.mk 2 1 1)))) (.cons (td Z1 (.agg _ (CFGDrawWords.dat (GDrawWords.mk [3, 4, 5] 0)))) .nil))) (indexNew_c h1) ?_
 iterate 4 refine pA ?_
 refine hp (id := 72) rfl rfl (aheap_alloc' zc33 Z5) ?_
 refine hp (id := 73) rfl rfl (aheap_alloc' zc35 Z5) ?_
 refine ARun.heap0 (id := 74) rfl (ah_var (ys := [.v (.int .i64 r2.Graph.Config.N), .v (.int .i64 r2.Graph.Config.L), .v (.int .i64 r2.Graph.Config.R), .sl (r2.Graph.Hashes.flatMap cGHash) r2.Graph.Hashes.length false, .sl (r2.Graph.Edges.flatMap cGEdge) r2.Graph.Edges.length false, .sl (r2.Slots.flatMap cGVertsSlot) r2.Slots.length false]) sz33 Z1 Z1 Z3 rfl (Nat.le_of_ble_eq_true rfl) Z9 rfl) ?_
 refine ARun.heap0 (id := 75) rfl (ah_var (ys := [.sl (r3.List.flatMap (ci .u64)) r3.List.length false, .v (.int .i64 r3.At)]) sz35 Z1 Z1 Z3 rfl (Nat.le_of_ble_eq_true rfl) Z9 rfl) ?_
 refine pA ?_
 refine fs ?_
 refine sr (N' := 192) rfl ?_
 refine pu rfl (ap_ldv Z1 Z3 Z2) ?_
 refine pu rfl (by simp only [go_sem, Nat.reduceBEq]; exact (by kernel_rfl : abuild Tryz.prog 45 [(0, .v (.int .i64 1)), (1, .v (.int .u64 9))] = some (.agg [.v (.int .i64 1), .v (.int .u64 9), .v (.int .u64 0), .v (.string ⟨#[]⟩)]))) ?_
 obtain ⟨⟨r6, r7⟩, h5, hm⟩ := bnd hm
 refine ARun.callQ (r := .tup [.agg [.v (.int .i64 r6.Graph.Config.N), .v (.int .i64 r6.Graph.Config.L), .v (.int .i64 r6.Graph.Config.R), .sl (r6.Graph.Hashes.flatMap cGHash) r6.Graph.Hashes.length false, .sl (r6.Graph.Edges.flatMap cGEdge) r6.Graph.Edges.length false, .sl (r6.Slots.flatMap cGVertsSlot) r6.Slots.length false], GA.av r7]) Zd Z1 fb15 (fun H => (cD (.agg _ (CFGSnapState.dat _)) (.cons (td Z1 (.agg _ (CFGIndexCommand.dat (GIndexCommand.mk 1 9 0 ⟨#[]⟩)))) .nil))) (indexDo_c h5) ?_
 iterate 3 refine pA ?_
 refine ARun.heap0 (id := 134) rfl (ah_var (ys := [.v (.int .i64 r6.Graph.Config.N), .v (.int .i64 r6.Graph.Config.L), .v (.int .i64 r6.Graph.Config.R), .sl (r6.Graph.Hashes.flatMap cGHash) r6.Graph.Hashes.length false, .sl (r6.Graph.Edges.flatMap cGEdge) r6.Graph.Edges.length false, .sl (r6.Slots.flatMap cGVertsSlot) r6.Slots.length false]) sz33 Z1 Z1 Z3 rfl (Nat.le_of_ble_eq_true rfl) Z9 rfl) ?_
 refine pA ?_
 refine fs ?_
 refine sr (N' := 256) rfl ?_
 refine pu rfl (ap_ldv Z1 Z3 Z2) ?_
 refine pu rfl (by simp only [go_sem, Nat.reduceBEq]; exact (by kernel_rfl : abuild Tryz.prog 45 [(0, .v (.int .i64 1)), (1, .v (.int .u64 7))] = some (.agg [.v (.int .i64 1), .v (.int .u64 7), .v (.int .u64 0), .v (.string ⟨#[]⟩)]))) ?_
 obtain ⟨⟨r9, r10⟩, h8, hm⟩ := bnd hm
 refine ARun.callQ (r := .tup [.agg [.v (.int .i64 r9.Graph.Config.N), .v (.int .i64 r9.Graph.Config.L), .v (.int .i64 r9.Graph.Config.R), .sl (r9.Graph.Hashes.flatMap cGHash) r9.Graph.Hashes.length false, .sl (r9.Graph.Edges.flatMap cGEdge) r9.Graph.Edges.length false, .sl (r9.Slots.flatMap cGVertsSlot) r9.Slots.length false], GA.av r10]) Zd Z1 fb15 (fun H => (cD (.agg _ (CFGSnapState.dat _)) (.cons (td Z1 (.agg _ (CFGIndexCommand.dat (GIndexCommand.mk 1 7 0 ⟨#[]⟩)))) .nil))) (indexDo_c h8) ?_
 iterate 3 refine pA ?_
 refine ARun.heap0 (id := 198) rfl (ah_var (ys := [.v (.int .i64 r9.Graph.Config.N), .v (.int .i64 r9.Graph.Config.L), .v (.int .i64 r9.Graph.Config.R), .sl (r9.Graph.Hashes.flatMap cGHash) r9.Graph.Hashes.length false, .sl (r9.Graph.Edges.flatMap cGEdge) r9.Graph.Edges.length false, .sl (r9.Slots.flatMap cGVertsSlot) r9.Slots.length false]) sz33 Z1 Z1 Z3 rfl (Nat.le_of_ble_eq_true rfl) Z9 rfl) ?_
 refine pA ?_
 refine fs ?_
 refine sr (N' := 320) rfl ?_
 refine pu rfl (ap_ldv Z1 Z3 Z2) ?_
 refine pu rfl (by simp only [go_sem, Nat.reduceBEq]; exact (by kernel_rfl : abuild Tryz.prog 45 [(0, .v (.int .i64 3)), (1, .v (.int .u64 7)), (2, .v (.int .u64 9))] = some (.agg [.v (.int .i64 3), .v (.int .u64 7), .v (.int .u64 9), .v (.string ⟨#[]⟩)]))) ?_
 obtain ⟨⟨r12, r13⟩, h11, hm⟩ := bnd hm
 refine ARun.callQ (r := .tup [.agg [.v (.int .i64 r12.Graph.Config.N), .v (.int .i64 r12.Graph.Config.L), .v (.int .i64 r12.Graph.Config.R), .sl (r12.Graph.Hashes.flatMap cGHash) r12.Graph.Hashes.length false, .sl (r12.Graph.Edges.flatMap cGEdge) r12.Graph.Edges.length false, .sl (r12.Slots.flatMap cGVertsSlot) r12.Slots.length false], GA.av r13]) Zd Z1 fb15 (fun H => (cD (.agg _ (CFGSnapState.dat _)) (.cons (td Z1 (.agg _ (CFGIndexCommand.dat (GIndexCommand.mk 3 7 9 ⟨#[]⟩)))) .nil))) (indexDo_c h11) ?_
 iterate 3 refine pA ?_
 refine ARun.heap0 (id := 262) rfl (ah_var (ys := [.v (.int .i64 r12.Graph.Config.N), .v (.int .i64 r12.Graph.Config.L), .v (.int .i64 r12.Graph.Config.R), .sl (r12.Graph.Hashes.flatMap cGHash) r12.Graph.Hashes.length false, .sl (r12.Graph.Edges.flatMap cGEdge) r12.Graph.Edges.length false, .sl (r12.Slots.flatMap cGVertsSlot) r12.Slots.length false]) sz33 Z1 Z1 Z3 rfl (Nat.le_of_ble_eq_true rfl) Z9 rfl) ?_
 refine pA ?_
 refine fs ?_
 refine sr (N' := 384) rfl ?_
 refine pu rfl (ap_ldv Z1 Z3 Z2) ?_
 refine pu rfl (by simp only [go_sem, Nat.reduceBEq]; exact (by kernel_rfl : abuild Tryz.prog 45 [(0, .v (.int .i64 11)), (1, .v (.int .u64 9))] = some (.agg [.v (.int .i64 11), .v (.int .u64 9), .v (.int .u64 0), .v (.string ⟨#[]⟩)]))) ?_
 obtain ⟨⟨r15, r16⟩, h14, hm⟩ := bnd hm
 refine ARun.callQ (r := .tup [.agg [.v (.int .i64 r15.Graph.Config.N), .v (.int .i64 r15.Graph.Config.L), .v (.int .i64 r15.Graph.Config.R), .sl (r15.Graph.Hashes.flatMap cGHash) r15.Graph.Hashes.length false, .sl (r15.Graph.Edges.flatMap cGEdge) r15.Graph.Edges.length false, .sl (r15.Slots.flatMap cGVertsSlot) r15.Slots.length false], GA.av r16]) Zd Z1 fb15 (fun H => (cD (.agg _ (CFGSnapState.dat _)) (.cons (td Z1 (.agg _ (CFGIndexCommand.dat (GIndexCommand.mk 11 9 0 ⟨#[]⟩)))) .nil))) (indexDo_c h14) ?_
 iterate 3 refine pA ?_
 refine hp (id := 326) rfl rfl (aheap_alloc' zc33 Z5) ?_
 refine ARun.heap0 (id := 327) rfl (ah_var (ys := [.v (.int .i64 r15.Graph.Config.N), .v (.int .i64 r15.Graph.Config.L), .v (.int .i64 r15.Graph.Config.R), .sl (r15.Graph.Hashes.flatMap cGHash) r15.Graph.Hashes.length false, .sl (r15.Graph.Edges.flatMap cGEdge) r15.Graph.Edges.length false, .sl (r15.Slots.flatMap cGVertsSlot) r15.Slots.length false]) sz33 Z1 Z1 Z3 rfl (Nat.le_of_ble_eq_true rfl) Z9 rfl) ?_
 refine pA ?_
 refine fs ?_
 refine sr (N' := 448) rfl ?_
 refine pu rfl (ap_ldv Z1 Z3 Z2) ?_
 refine pu rfl (by simp only [go_sem, Nat.reduceBEq]; exact (by kernel_rfl : abuild Tryz.prog 45 [(0, .v (.int .i64 2)), (1, .v (.int .u64 9))] = some (.agg [.v (.int .i64 2), .v (.int .u64 9), .v (.int .u64 0), .v (.string ⟨#[]⟩)]))) ?_
 obtain ⟨⟨r18, r19⟩, h17, hm⟩ := bnd hm
 refine ARun.callQ (r := .tup [.agg [.v (.int .i64 r18.Graph.Config.N), .v (.int .i64 r18.Graph.Config.L), .v (.int .i64 r18.Graph.Config.R), .sl (r18.Graph.Hashes.flatMap cGHash) r18.Graph.Hashes.length false, .sl (r18.Graph.Edges.flatMap cGEdge) r18.Graph.Edges.length false, .sl (r18.Slots.flatMap cGVertsSlot) r18.Slots.length false], GA.av r19]) Zd Z1 fb15 (fun H => (cD (.agg _ (CFGSnapState.dat _)) (.cons (td Z1 (.agg _ (CFGIndexCommand.dat (GIndexCommand.mk 2 9 0 ⟨#[]⟩)))) .nil))) (indexDo_c h17) ?_
 iterate 3 refine pA ?_
 refine hp (id := 390) rfl rfl (aheap_alloc' zc33 Z5) ?_
 refine ARun.heap0 (id := 391) rfl (ah_var (ys := [.v (.int .i64 r18.Graph.Config.N), .v (.int .i64 r18.Graph.Config.L), .v (.int .i64 r18.Graph.Config.R), .sl (r18.Graph.Hashes.flatMap cGHash) r18.Graph.Hashes.length false, .sl (r18.Graph.Edges.flatMap cGEdge) r18.Graph.Edges.length false, .sl (r18.Slots.flatMap cGVertsSlot) r18.Slots.length false]) sz33 Z1 Z1 Z3 rfl (Nat.le_of_ble_eq_true rfl) Z9 rfl) ?_
 refine pA ?_
 refine fs ?_
 refine sr (N' := 512) rfl ?_
 refine pu rfl (ap_ldv Z1 Z3 Z2) ?_
 refine pu rfl (by simp only [go_sem, Nat.reduceBEq]; exact (by kernel_rfl : abuild Tryz.prog 45 [(0, .v (.int .i64 5)), (1, .v (.int .u64 9)), (2, .v (.int .u64 8))] = some (.agg [.v (.int .i64 5), .v (.int .u64 9), .v (.int .u64 8), .v (.string ⟨#[]⟩)]))) ?_
 obtain ⟨⟨r21, r22⟩, h20, hm⟩ := bnd hm
 refine ARun.callQ (r := .tup [.agg [.v (.int .i64 r21.Graph.Config.N), .v (.int .i64 r21.Graph.Config.L), .v (.int .i64 r21.Graph.Config.R), .sl (r21.Graph.Hashes.flatMap cGHash) r21.Graph.Hashes.length false, .sl (r21.Graph.Edges.flatMap cGEdge) r21.Graph.Edges.length false, .sl (r21.Slots.flatMap cGVertsSlot) r21.Slots.length false], GA.av r22]) Zd Z1 fb15 (fun H => (cD (.agg _ (CFGSnapState.dat _)) (.cons (td Z1 (.agg _ (CFGIndexCommand.dat (GIndexCommand.mk 5 9 8 ⟨#[]⟩)))) .nil))) (indexDo_c h20) ?_
 iterate 3 refine pA ?_
 refine hp (id := 454) rfl rfl (aheap_alloc' zc33 Z5) ?_
 refine ARun.heap0 (id := 455) rfl (ah_var (ys := [.v (.int .i64 r21.Graph.Config.N), .v (.int .i64 r21.Graph.Config.L), .v (.int .i64 r21.Graph.Config.R), .sl (r21.Graph.Hashes.flatMap cGHash) r21.Graph.Hashes.length false, .sl (r21.Graph.Edges.flatMap cGEdge) r21.Graph.Edges.length false, .sl (r21.Slots.flatMap cGVertsSlot) r21.Slots.length false]) sz33 Z1 Z1 Z3 rfl (Nat.le_of_ble_eq_true rfl) Z9 rfl) ?_
 refine pA ?_
 refine fs ?_
 refine sr (N' := 576) rfl ?_
 refine pu rfl (ap_ldv Z1 Z3 Z2) ?_
 refine pu rfl (by simp only [go_sem, Nat.reduceBEq]; exact (by kernel_rfl : abuild Tryz.prog 45 [] = some (.agg [.v (.int .i64 0), .v (.int .u64 0), .v (.int .u64 0), .v (.string ⟨#[]⟩)]))) ?_
 obtain ⟨⟨r24, r25⟩, h23, hm⟩ := bnd hm
 refine ARun.callQ (r := .tup [.agg [.v (.int .i64 r24.Graph.Config.N), .v (.int .i64 r24.Graph.Config.L), .v (.int .i64 r24.Graph.Config.R), .sl (r24.Graph.Hashes.flatMap cGHash) r24.Graph.Hashes.length false, .sl (r24.Graph.Edges.flatMap cGEdge) r24.Graph.Edges.length false, .sl (r24.Slots.flatMap cGVertsSlot) r24.Slots.length false], GA.av r25]) Zd Z1 fb15 (fun H => (cD (.agg _ (CFGSnapState.dat _)) (.cons (td Z1 (.agg _ (CFGIndexCommand.dat (GIndexCommand.mk 0 0 0 ⟨#[]⟩)))) .nil))) (indexDo_c h23) ?_
 iterate 3 refine pA ?_
 refine hp (id := 518) rfl rfl (aheap_alloc' zc33 Z5) ?_
 refine ARun.heap0 (id := 519) rfl (ah_var (ys := [.v (.int .i64 r24.Graph.Config.N), .v (.int .i64 r24.Graph.Config.L), .v (.int .i64 r24.Graph.Config.R), .sl (r24.Graph.Hashes.flatMap cGHash) r24.Graph.Hashes.length false, .sl (r24.Graph.Edges.flatMap cGEdge) r24.Graph.Edges.length false, .sl (r24.Slots.flatMap cGVertsSlot) r24.Slots.length false]) sz33 Z1 Z1 Z3 rfl (Nat.le_of_ble_eq_true rfl) Z9 rfl) ?_
 refine pA ?_
 refine fs ?_
 refine sr (N' := 640) rfl ?_
 refine pA ?_
 obtain ⟨⟨r27, r28⟩, h26, hm⟩ := bnd hm
 refine ARun.pop Zd (noOwn1 Z1 (GA.data _)) (pop_asLu Tryz.underlying24 in24 tz24 Z1 h26) rfl ?_
 iterate 5 refine pA ?_
 refine fs ?_
 refine sr (N' := 704) rfl ?_
 iterate 4 first | refine pA ?_ | refine pB ?_
 refine pg rfl rfl Z2 (fun hb => (ap_ldv (Zh hb) Z3 Z4)) ?_
 iterate 5 first | refine pA ?_ | refine pB ?_
 obtain ⟨b30, h29, hm⟩ := bnd hm
 refine ARun.popG Zd rfl Z2 (fun hb => (noOwn2 (Zh hb) (Zh hb) (GA.data _) (.ifc _ _ (.v _)))) (fun hb => (pop_ifceq Tryz.underlying20 Tryz.underlying36 in36 (by kernel_rfl) (Zh hb) (Zh hb) (gopt_t h29 hb))) rfl ?_
 iterate 4 first | refine pA ?_ | refine pB ?_
 obtain ⟨b32, h31, hm⟩ := bnd hm
 refine ARun.popG Zd rfl Z2 (fun hb => (noOwn2 (Zh hb) (Zh hb) (GA.data _) (.ifc _ _ (.v _)))) (fun hb => (pop_ifceq Tryz.underlying20 Tryz.underlying36 in36 (by kernel_rfl) (Zh hb) (Zh hb) (gopt_t h31 hb))) rfl ?_
 iterate 4 first | refine pA ?_ | refine pB ?_
 obtain ⟨b34, h33, hm⟩ := bnd hm
 refine ARun.popG Zd rfl Z2 (fun hb => (noOwn2 (Zh hb) (Zh hb) (GA.data _) (.ifc _ _ (.v _)))) (fun hb => (pop_ifceq Tryz.underlying20 Tryz.underlying36 in36 (by kernel_rfl) (Zh hb) (Zh hb) (gopt_t h33 hb))) rfl ?_
 iterate 6 first | refine pA ?_ | refine pB ?_
 refine split_m hm (fun h35 hm => ?_) (fun h35 hm => ?_)
 ·
  refine ARun.heapG Zd rfl (by simp only [go_sem, Nat.reduceBEq, h35]; try with_reducible rfl) (id := 667) rfl (ah_list (CFi .u64) (l := [7, 9]) Tryz.underlying24 sz43 zc43 Z5 Zd Zd Zd (by simp only [go_sem, Nat.reduceBEq, h35]; try rfl) (by kernel_rfl)) ?_
  obtain ⟨r37, h36, hm⟩ := bnd hm
  refine ARun.callBG (r := .v (.bool r37)) Zd rfl (by simp only [go_sem, Nat.reduceBEq, h35]; try with_reducible rfl) (by try simp only [go_sem, Nat.reduceBEq, h35]; try rfl) fb33 (fun hb => (.cons (ltd fun H => (td (by try simp only [go_sem, Nat.reduceBEq, h35]; try rfl) ((CFi .u64).sl _ _ _))) (.cons (lto (CFi .u64) (by try simp only [go_sem, Nat.reduceBEq, h35]; try rfl) Z3 Z6) Lent.nil))) scal1 (fun hb => ref05Same_c h36) ?_
  iterate 4 (first | refine pu rfl (by simp only [go_sem, Nat.reduceBEq, h35]; try with_reducible rfl) ?_ | refine pg rfl rfl (by simp only [go_sem, Nat.reduceBEq, h35]; try with_reducible rfl) (by intro hb; simp only [go_sem, Nat.reduceBEq, h35, hb, Bool.true_and]; try with_reducible rfl) ?_)
  obtain ⟨b39, h38, hm⟩ := bnd hm
  refine ARun.popG Zd rfl (by simp only [go_sem, Nat.reduceBEq, h35]; try with_reducible rfl) (fun hb => (noOwn2 (by try simp only [go_sem, Nat.reduceBEq, h35, hb, Bool.true_and]; try rfl) (by try simp only [go_sem, Nat.reduceBEq, h35, hb, Bool.true_and]; try rfl) (GA.data _) (.ifc _ _ (.v _)))) (fun hb => (pop_ifceq Tryz.underlying20 Tryz.underlying36 in36 (by kernel_rfl) (by try simp only [go_sem, Nat.reduceBEq, h35, hb, Bool.true_and]; try rfl) (by try simp only [go_sem, Nat.reduceBEq, h35, hb, Bool.true_and]; try rfl) (gopt_t h38 hb))) rfl ?_
  iterate 4 (first | refine pu rfl (by simp only [go_sem, Nat.reduceBEq, h35]; try with_reducible rfl) ?_ | refine pg rfl rfl (by simp only [go_sem, Nat.reduceBEq, h35]; try with_reducible rfl) (by intro hb; simp only [go_sem, Nat.reduceBEq, h35, hb, Bool.true_and]; try with_reducible rfl) ?_)
  obtain ⟨b41, h40, hm⟩ := bnd hm
  refine ARun.popG Zd rfl (by simp only [go_sem, Nat.reduceBEq, h35]; try with_reducible rfl) (fun hb => (noOwn2 (by try simp only [go_sem, Nat.reduceBEq, h35, hb, Bool.true_and]; try rfl) (by try simp only [go_sem, Nat.reduceBEq, h35, hb, Bool.true_and]; try rfl) (GA.data _) (.ifc _ _ (.v _)))) (fun hb => (pop_ifceq Tryz.underlying20 Tryz.underlying36 in36 (by kernel_rfl) (by try simp only [go_sem, Nat.reduceBEq, h35, hb, Bool.true_and]; try rfl) (by try simp only [go_sem, Nat.reduceBEq, h35, hb, Bool.true_and]; try rfl) (gopt_t h40 hb))) rfl ?_
  iterate 4 (first | refine pu rfl (by simp only [go_sem, Nat.reduceBEq, h35]; try with_reducible rfl) ?_ | refine pg rfl rfl (by simp only [go_sem, Nat.reduceBEq, h35]; try with_reducible rfl) (by intro hb; simp only [go_sem, Nat.reduceBEq, h35, hb, Bool.true_and]; try with_reducible rfl) ?_)
  obtain ⟨b43, h42, hm⟩ := bnd hm
  refine ARun.popG Zd rfl (by simp only [go_sem, Nat.reduceBEq, h35]; try with_reducible rfl) (fun hb => (noOwn2 (by try simp only [go_sem, Nat.reduceBEq, h35, hb, Bool.true_and]; try rfl) (by try simp only [go_sem, Nat.reduceBEq, h35, hb, Bool.true_and]; try rfl) (GA.data _) (.ifc _ _ (.v _)))) (fun hb => (pop_ifceq Tryz.underlying20 Tryz.underlying36 in36 (by kernel_rfl) (by try simp only [go_sem, Nat.reduceBEq, h35, hb, Bool.true_and]; try rfl) (by try simp only [go_sem, Nat.reduceBEq, h35, hb, Bool.true_and]; try rfl) (gopt_t h42 hb))) rfl ?_
  iterate 5 (first | refine pu rfl (by simp only [go_sem, Nat.reduceBEq, h35]; try with_reducible rfl) ?_ | refine pg rfl rfl (by simp only [go_sem, Nat.reduceBEq, h35]; try with_reducible rfl) (by intro hb; simp only [go_sem, Nat.reduceBEq, h35, hb, Bool.true_and]; try with_reducible rfl) ?_)
  obtain ⟨r45, h44, hm⟩ := bnd hm
  refine ARun.callQG (r := .v (.int .i64 r45)) Zd rfl (by simp only [go_sem, Nat.reduceBEq, h35]; try with_reducible rfl) (by try simp only [go_sem, Nat.reduceBEq, h35]; try rfl) fb38 (fun hb H => (.cons (td (by try simp only [go_sem, Nat.reduceBEq, h35, hb, Bool.true_and]; try rfl) (GA.data _)) .nil)) (fun hb => indexMustErrno_c (gopt_t h44 hb)) ?_
  iterate 3 (first | refine pu rfl (by simp only [go_sem, Nat.reduceBEq, h35]; try with_reducible rfl) ?_ | refine pg rfl rfl (by simp only [go_sem, Nat.reduceBEq, h35]; try with_reducible rfl) (by intro hb; simp only [go_sem, Nat.reduceBEq, h35, hb, Bool.true_and]; try with_reducible rfl) ?_)
  refine fs ?_
  refine AWp.ret ?_
  cases hm
  exact ret1D (.inr rfl) Tryz.results14 (td Z1 (.v _))
 ·
  refine ARun.skipG Zd rfl (by simp only [go_sem, Nat.reduceBEq, h35]; try with_reducible rfl) ?_
  refine ARun.skipG Zd rfl (by simp only [go_sem, Nat.reduceBEq, h35]; try with_reducible rfl) ?_
  iterate 2 refine pu rfl (by simp only [go_sem, Nat.reduceBEq, h35]; try with_reducible rfl) ?_
  refine ARun.skipG Zd rfl (by simp only [go_sem, Nat.reduceBEq, h35]; try with_reducible rfl) ?_
  refine ARun.skipG Zd rfl (by simp only [go_sem, Nat.reduceBEq, h35]; try with_reducible rfl) ?_
  refine ARun.skipG Zd rfl (by simp only [go_sem, Nat.reduceBEq, h35]; try with_reducible rfl) ?_
  iterate 2 refine pu rfl (by simp only [go_sem, Nat.reduceBEq, h35]; try with_reducible rfl) ?_
  refine ARun.skipG Zd rfl (by simp only [go_sem, Nat.reduceBEq, h35]; try with_reducible rfl) ?_
  refine ARun.skipG Zd rfl (by simp only [go_sem, Nat.reduceBEq, h35]; try with_reducible rfl) ?_
  refine ARun.skipG Zd rfl (by simp only [go_sem, Nat.reduceBEq, h35]; try with_reducible rfl) ?_
  iterate 2 refine pu rfl (by simp only [go_sem, Nat.reduceBEq, h35]; try with_reducible rfl) ?_
  refine ARun.skipG Zd rfl (by simp only [go_sem, Nat.reduceBEq, h35]; try with_reducible rfl) ?_
  refine ARun.skipG Zd rfl (by simp only [go_sem, Nat.reduceBEq, h35]; try with_reducible rfl) ?_
  refine ARun.skipG Zd rfl (by simp only [go_sem, Nat.reduceBEq, h35]; try with_reducible rfl) ?_
  iterate 4 refine pu rfl (by simp only [go_sem, Nat.reduceBEq, h35]; try with_reducible rfl) ?_
  refine ARun.skipG Zd rfl (by simp only [go_sem, Nat.reduceBEq, h35]; try with_reducible rfl) ?_
  refine ARun.skipG Zd rfl (by simp only [go_sem, Nat.reduceBEq, h35]; try with_reducible rfl) ?_
  refine ARun.skipG Zd rfl (by simp only [go_sem, Nat.reduceBEq, h35]; try with_reducible rfl) ?_
  iterate 2 refine pu rfl (by simp only [go_sem, Nat.reduceBEq, h35]; try with_reducible rfl) ?_
  refine fs ?_
  refine AWp.ret ?_
  cases hm
  exact ret1D (.inr rfl) Tryz.results14 (td Z1 (.v _))
end Go.Proofs.YtkdohhmacfoolaaGreat
