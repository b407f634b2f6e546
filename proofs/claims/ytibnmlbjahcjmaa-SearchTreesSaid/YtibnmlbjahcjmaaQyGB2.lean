/- Facts that the statement's proof is made of. No condition. -/
import Derived.Test.YtibnmlbjahcjmaaQyGB1
set_option linter.unusedVariables false
set_option linter.unusedSimpArgs false
set_option maxRecDepth 20000
set_option maxHeartbeats 4000000
namespace Go.Proofs.Ytibnmlbjahcjmaa
open Go Go.AM
theorem eqs38GB2 (x0 y0 x1 y1 x2 y2 : Int) : abin Try.prog .eql 38 (.agg [.v (.int .i64 x0), .v (.int .i64 x1), .v (.int .i64 x2)]) (.agg [.v (.int .i64 y0), .v (.int .i64 y1), .v (.int .i64 y2)]) = some (.v (.bool ((x0 == y0) && ((x1 == y1) && (x2 == y2))))) :=
 (by kernel_rfl : abin Try.prog .eql 38 (.agg [.v (.int .i64 x0), .v (.int .i64 x1), .v (.int .i64 x2)]) (.agg [.v (.int .i64 y0), .v (.int .i64 y1), .v (.int .i64 y2)]) = some (.v (.bool ((x0 == y0) && ((x1 == y1) && ((x2 == y2) && true)))))).trans (by rw [Bool.and_true])
theorem nqs38GB2 (x0 y0 x1 y1 x2 y2 : Int) : abin Try.prog .neq 38 (.agg [.v (.int .i64 x0), .v (.int .i64 x1), .v (.int .i64 x2)]) (.agg [.v (.int .i64 y0), .v (.int .i64 y1), .v (.int .i64 y2)]) = some (.v (.bool (!((x0 == y0) && ((x1 == y1) && (x2 == y2)))))) :=
 (by kernel_rfl : abin Try.prog .neq 38 (.agg [.v (.int .i64 x0), .v (.int .i64 x1), .v (.int .i64 x2)]) (.agg [.v (.int .i64 y0), .v (.int .i64 y1), .v (.int .i64 y2)]) = some (.v (.bool (!((x0 == y0) && ((x1 == y1) && ((x2 == y2) && true))))))).trans (by rw [Bool.and_true])
attribute [go_sem] eqs38GB2 nqs38GB2
theorem eqs53GB2 (x0 y0 x1 y1 : Int) : abin Try.prog .eql 53 (.agg [.v (.int .u64 x0), .v (.int .u64 x1)]) (.agg [.v (.int .u64 y0), .v (.int .u64 y1)]) = some (.v (.bool ((x0 == y0) && (x1 == y1)))) :=
 (by kernel_rfl : abin Try.prog .eql 53 (.agg [.v (.int .u64 x0), .v (.int .u64 x1)]) (.agg [.v (.int .u64 y0), .v (.int .u64 y1)]) = some (.v (.bool ((x0 == y0) && ((x1 == y1) && true))))).trans (by rw [Bool.and_true])
theorem nqs53GB2 (x0 y0 x1 y1 : Int) : abin Try.prog .neq 53 (.agg [.v (.int .u64 x0), .v (.int .u64 x1)]) (.agg [.v (.int .u64 y0), .v (.int .u64 y1)]) = some (.v (.bool (!((x0 == y0) && (x1 == y1))))) :=
 (by kernel_rfl : abin Try.prog .neq 53 (.agg [.v (.int .u64 x0), .v (.int .u64 x1)]) (.agg [.v (.int .u64 y0), .v (.int .u64 y1)]) = some (.v (.bool (!((x0 == y0) && ((x1 == y1) && true)))))).trans (by rw [Bool.and_true])
attribute [go_sem] eqs53GB2 nqs53GB2
theorem fa38_0GB2 (xs : List AV) : afieldAddr Try.prog 38 (.ptr (xs)) 0 = some (.ptr xs) := by kernel_rfl
attribute [go_sem] fa38_0GB2
theorem fa38_1GB2 (x0 : AV) (xs : List AV) : afieldAddr Try.prog 38 (.ptr (x0 :: xs)) 1 = some (.ptr xs) := by kernel_rfl
attribute [go_sem] fa38_1GB2
theorem fo23_0GB2 (i o : Nat) : afieldAddr Try.prog 23 (.adr i o) 0 = some (.adr i (o + 0)) := by kernel_rfl
attribute [go_sem] fo23_0GB2
theorem fo23_1GB2 (i o : Nat) : afieldAddr Try.prog 23 (.adr i o) 1 = some (.adr i (o + 1)) := by kernel_rfl
attribute [go_sem] fo23_1GB2
theorem fo23_2GB2 (i o : Nat) : afieldAddr Try.prog 23 (.adr i o) 2 = some (.adr i (o + 2)) := by kernel_rfl
attribute [go_sem] fo23_2GB2
theorem fo27_0GB2 (i o : Nat) : afieldAddr Try.prog 27 (.adr i o) 0 = some (.adr i (o + 0)) := by kernel_rfl
attribute [go_sem] fo27_0GB2
theorem fo27_1GB2 (i o : Nat) : afieldAddr Try.prog 27 (.adr i o) 1 = some (.adr i (o + 3)) := by kernel_rfl
attribute [go_sem] fo27_1GB2
theorem fo27_2GB2 (i o : Nat) : afieldAddr Try.prog 27 (.adr i o) 2 = some (.adr i (o + 4)) := by kernel_rfl
attribute [go_sem] fo27_2GB2
theorem fo38_0GB2 (i o : Nat) : afieldAddr Try.prog 38 (.adr i o) 0 = some (.adr i (o + 0)) := by kernel_rfl
attribute [go_sem] fo38_0GB2
theorem fo38_1GB2 (i o : Nat) : afieldAddr Try.prog 38 (.adr i o) 1 = some (.adr i (o + 1)) := by kernel_rfl
attribute [go_sem] fo38_1GB2
theorem fo53_0GB2 (i o : Nat) : afieldAddr Try.prog 53 (.adr i o) 0 = some (.adr i (o + 0)) := by kernel_rfl
attribute [go_sem] fo53_0GB2
theorem fo53_1GB2 (i o : Nat) : afieldAddr Try.prog 53 (.adr i o) 1 = some (.adr i (o + 1)) := by kernel_rfl
attribute [go_sem] fo53_1GB2
theorem ld24GB2 (H : Heap) (x : AV) (xs : List AV) : aload Try.prog H 24 (.ptr (x :: xs)) = some x := by kernel_rfl
attribute [go_sem] ld24GB2
theorem ld25GB2 (H : Heap) (x : AV) (xs : List AV) : aload Try.prog H 25 (.ptr (x :: xs)) = some x := by kernel_rfl
attribute [go_sem] ld25GB2
theorem ld27GB2 (H : Heap) (x0 x1 x2 x3 x4 : AV) (xs : List AV) : aload Try.prog H 27 (.ptr (x0 :: x1 :: x2 :: x3 :: x4 :: xs)) = some (.agg [x0, x1, x2, x3, x4]) := by kernel_rfl
attribute [go_sem] ld27GB2
theorem ld3GB2 (H : Heap) (x : AV) (xs : List AV) : aload Try.prog H 3 (.ptr (x :: xs)) = some x := by kernel_rfl
attribute [go_sem] ld3GB2
theorem ld38GB2 (H : Heap) (x0 x1 x2 : AV) (xs : List AV) : aload Try.prog H 38 (.ptr (x0 :: x1 :: x2 :: xs)) = some (.agg [x0, x1, x2]) := by kernel_rfl
attribute [go_sem] ld38GB2
theorem ld51GB2 (H : Heap) (x : AV) (xs : List AV) : aload Try.prog H 51 (.ptr (x :: xs)) = some x := by kernel_rfl
attribute [go_sem] ld51GB2
theorem ld53GB2 (H : Heap) (x0 x1 : AV) (xs : List AV) : aload Try.prog H 53 (.ptr (x0 :: x1 :: xs)) = some (.agg [x0, x1]) := by kernel_rfl
attribute [go_sem] ld53GB2
theorem cv3_51GB2 (H : Heap) (k : IntKind) (n : Int) : aconv Try.prog H 3 51 (.v (.int k n)) = some (.v (.int .u64 (IntKind.u64.wrap n))) := aconv_int Try.underlying3 Try.underlying51
attribute [go_sem] cv3_51GB2
theorem cv3_124GB2 (H : Heap) (k : IntKind) (n : Int) : aconv Try.prog H 3 124 (.v (.int k n)) = some (.v (.int .u64 (IntKind.u64.wrap n))) := aconv_int Try.underlying3 Try.underlying124
attribute [go_sem] cv3_124GB2
def law14Awake_m : Option (Bool) :=
 ((searchSearch_m (GGraph.mk (GConfig.mk 3 1 1) [(GHash.mk 1 0)] [(GEdge.mk 0 2 0)]) 0 0).bind fun ⟨r2, r3⟩ =>
 ((searchSearch_m (GGraph.mk (GConfig.mk 3 1 1) [(GHash.mk 1 0)] [(GEdge.mk 0 2 0)]) 0 1).bind fun ⟨r5, r6⟩ =>
 ((searchSearch_m (GGraph.mk (GConfig.mk 3 1 1) [(GHash.mk 1 0)] [(GEdge.mk 0 2 0)]) 1 0).bind fun ⟨r8, r9⟩ =>
 ((searchWords_m (GGraph.mk (GConfig.mk 3 1 1) [(GHash.mk 1 0)] [(GEdge.mk 0 2 0)]) 0 2).bind fun r11 =>
 ((searchRight_m (GGraph.mk (GConfig.mk 3 1 1) [(GHash.mk 1 0)] [(GEdge.mk 0 2 0)])).bind fun r13 =>
 ((gopt ((((((r13 && ((r2.U == 0) && ((r2.V == 2) && (r2.Tier == 0)))) && r3) && (!r6)) && (!r9)) && ((r11.length : Int) == 6)) == true) 0 (idx r11 0)).bind fun x15 =>
 ((gopt (((((((r13 && ((r2.U == 0) && ((r2.V == 2) && (r2.Tier == 0)))) && r3) && (!r6)) && (!r9)) && ((r11.length : Int) == 6)) && (x15 == 2)) == true) [] (searchTree_m (GGraph.mk (GConfig.mk 3 1 1) [(GHash.mk 1 0)] [(GEdge.mk 0 2 0)]) 1 2)).bind fun r17 =>
 (bif ((((((r13 && ((r2.U == 0) && ((r2.V == 2) && (r2.Tier == 0)))) && r3) && (!r6)) && (!r9)) && ((r11.length : Int) == 6)) && (x15 == 2)) then
  ((ref06Same_m r17 [2]).bind fun r20 =>
  ((gopt (r20 == true) [] (searchHashes_m (GGraph.mk (GConfig.mk 3 1 1) [(GHash.mk 1 0)] [(GEdge.mk 0 2 0)]) 0)).bind fun r22 =>
  ((gopt ((r20 && ((r22.length : Int) == 1)) == true) false (searchRight_m (GGraph.mk (GConfig.mk 0 0 0) [] []))).bind fun r24 =>
  some ((r20 && ((r22.length : Int) == 1)) && (!r24)))))
 else
  some false))))))))
theorem law14Awake_c {r : Bool} (hm : law14Awake_m = some r) : PureC Try.prog 40 [] (.v (.bool r)) := by
 refine PureC.of_body Try.func40 rfl ?_
 simp only [Try.ntmps40, List.length_cons, List.length_nil, Nat.reduceAdd, Nat.reduceSub, empty_eq]
 unfold law14Awake_m at hm
 refine sr (N' := 64) rfl ?_
 refine pA ?_
 refine fs ?_
 refine sr (N' := 128) rfl ?_
 refine pu rfl (by simp only [go_sem, Nat.reduceBEq]; exact (by kernel_rfl : abuild Try.prog 23 [(0, .v (.int .i64 3)), (1, .v (.int .i64 1)), (2, .v (.int .i64 1))] = some (.agg [.v (.int .i64 3), .v (.int .i64 1), .v (.int .i64 1)]))) ?_
 refine pu rfl (by simp only [go_sem, Nat.reduceBEq]; exact (by kernel_rfl : abuild Try.prog 53 [(0, .v (.int .u64 1)), (1, .v (.int .u64 0))] = some (.agg [.v (.int .u64 1), .v (.int .u64 0)]))) ?_
 refine ARun.pop Zd (noOwn_parts (ps := [(0, .agg [.v (.int .u64 1), .v (.int .u64 0)])]) (by simp only [go_sem, Nat.reduceBEq]; try rfl) (dps_cons (.agg _ (CFGHash.dat (GHash.mk 1 0))) dps_nil)) (pop_list CFGHash (l := [(GHash.mk 1 0)]) (xs := [.v (.int .u64 1), .v (.int .u64 0)]) Try.underlying24 sz53 zc53 Zd Zd Zd (ps := [(0, .agg [.v (.int .u64 1), .v (.int .u64 0)])]) (by simp only [go_sem, Nat.reduceBEq]; try rfl) (by kernel_rfl) (fun H => (.cons (.data _ (.v _)) (.cons (.data _ (.v _)) .nil)))) rfl ?_
 refine pu rfl (by simp only [go_sem, Nat.reduceBEq]; exact (by kernel_rfl : abuild Try.prog 38 [(0, .v (.int .i64 0)), (1, .v (.int .i64 2))] = some (.agg [.v (.int .i64 0), .v (.int .i64 2), .v (.int .i64 0)]))) ?_
 refine ARun.pop Zd (noOwn_parts (ps := [(0, .agg [.v (.int .i64 0), .v (.int .i64 2), .v (.int .i64 0)])]) (by simp only [go_sem, Nat.reduceBEq]; try rfl) (dps_cons (.agg _ (CFGEdge.dat (GEdge.mk 0 2 0))) dps_nil)) (pop_list CFGEdge (l := [(GEdge.mk 0 2 0)]) (xs := [.v (.int .i64 0), .v (.int .i64 2), .v (.int .i64 0)]) Try.underlying25 sz38 zc38 Zd Zd Zd (ps := [(0, .agg [.v (.int .i64 0), .v (.int .i64 2), .v (.int .i64 0)])]) (by simp only [go_sem, Nat.reduceBEq]; try rfl) (by kernel_rfl) (fun H => (.cons (.data _ (.v _)) (.cons (.data _ (.v _)) (.cons (.data _ (.v _)) .nil))))) rfl ?_
 refine pu rfl (by simp only [go_sem, Nat.reduceBEq]; exact (by kernel_rfl : abuild Try.prog 27 [(0, .agg [.v (.int .i64 3), .v (.int .i64 1), .v (.int .i64 1)]), (1, .sl (([(GHash.mk 1 0)]).flatMap cGHash) ([(GHash.mk 1 0)]).length false), (2, .sl (([(GEdge.mk 0 2 0)]).flatMap cGEdge) ([(GEdge.mk 0 2 0)]).length false)] = some (.agg [.v (.int .i64 3), .v (.int .i64 1), .v (.int .i64 1), .sl (([(GHash.mk 1 0)]).flatMap cGHash) ([(GHash.mk 1 0)]).length false, .sl (([(GEdge.mk 0 2 0)]).flatMap cGEdge) ([(GEdge.mk 0 2 0)]).length false]))) ?_
 refine hp (id := 70) rfl rfl (aheap_alloc' zc27 Z5) ?_
 refine ARun.heap0 (id := 71) rfl (ah_var (ys := [.v (.int .i64 3), .v (.int .i64 1), .v (.int .i64 1), .sl (([(GHash.mk 1 0)]).flatMap cGHash) ([(GHash.mk 1 0)]).length false, .sl (([(GEdge.mk 0 2 0)]).flatMap cGEdge) ([(GEdge.mk 0 2 0)]).length false]) sz27 Z1 Z1 Z3 rfl (Nat.le_of_ble_eq_true rfl) Z9 rfl) ?_
 refine fs ?_
 refine sr (N' := 192) rfl ?_
 refine pu rfl (ap_ldv Z1 Z3 Z2) ?_
 obtain ⟨⟨r2, r3⟩, h1, hm⟩ := bnd hm
 refine ARun.callQ (r := .tup [.agg [.v (.int .i64 r2.U), .v (.int .i64 r2.V), .v (.int .i64 r2.Tier)], .v (.bool r3)]) Zd Z1 fb44 (fun H => (.cons (td Z1 (.agg _ (CFGGraph.dat (GGraph.mk (GConfig.mk 3 1 1) [(GHash.mk 1 0)] [(GEdge.mk 0 2 0)])))) (cV (cV .nil)))) (searchSearch_c h1) ?_
 iterate 3 refine pA ?_
 refine hp (id := 133) rfl rfl (aheap_alloc' zc38 Z5) ?_
 refine ARun.heap0 (id := 134) rfl (ah_var (ys := [.v (.int .i64 r2.U), .v (.int .i64 r2.V), .v (.int .i64 r2.Tier)]) sz38 Z1 Z1 Z3 rfl (Nat.le_of_ble_eq_true rfl) Z9 rfl) ?_
 refine pA ?_
 refine fs ?_
 refine sr (N' := 256) rfl ?_
 refine pu rfl (ap_ldv Z1 Z3 Z2) ?_
 obtain ⟨⟨r5, r6⟩, h4, hm⟩ := bnd hm
 refine ARun.callQ (r := .tup [.agg [.v (.int .i64 r5.U), .v (.int .i64 r5.V), .v (.int .i64 r5.Tier)], .v (.bool r6)]) Zd Z1 fb44 (fun H => (.cons (td Z1 (.agg _ (CFGGraph.dat (GGraph.mk (GConfig.mk 3 1 1) [(GHash.mk 1 0)] [(GEdge.mk 0 2 0)])))) (cV (cV .nil)))) (searchSearch_c h4) ?_
 iterate 3 refine pA ?_
 refine hp (id := 197) rfl rfl (aheap_alloc' zc38 Z5) ?_
 refine ARun.heap0 (id := 198) rfl (ah_var (ys := [.v (.int .i64 r5.U), .v (.int .i64 r5.V), .v (.int .i64 r5.Tier)]) sz38 Z1 Z1 Z3 rfl (Nat.le_of_ble_eq_true rfl) Z9 rfl) ?_
 refine pA ?_
 refine fs ?_
 refine sr (N' := 320) rfl ?_
 refine pu rfl (ap_ldv Z1 Z3 Z2) ?_
 obtain ⟨⟨r8, r9⟩, h7, hm⟩ := bnd hm
 refine ARun.callQ (r := .tup [.agg [.v (.int .i64 r8.U), .v (.int .i64 r8.V), .v (.int .i64 r8.Tier)], .v (.bool r9)]) Zd Z1 fb44 (fun H => (.cons (td Z1 (.agg _ (CFGGraph.dat (GGraph.mk (GConfig.mk 3 1 1) [(GHash.mk 1 0)] [(GEdge.mk 0 2 0)])))) (cV (cV .nil)))) (searchSearch_c h7) ?_
 iterate 3 refine pA ?_
 refine hp (id := 261) rfl rfl (aheap_alloc' zc38 Z5) ?_
 refine ARun.heap0 (id := 262) rfl (ah_var (ys := [.v (.int .i64 r8.U), .v (.int .i64 r8.V), .v (.int .i64 r8.Tier)]) sz38 Z1 Z1 Z3 rfl (Nat.le_of_ble_eq_true rfl) Z9 rfl) ?_
 refine pA ?_
 refine fs ?_
 refine sr (N' := 384) rfl ?_
 refine pu rfl (ap_ldv Z1 Z3 Z2) ?_
 obtain ⟨r11, h10, hm⟩ := bnd hm
 refine ARun.callQ (r := .sl (r11.flatMap (ci .u64)) r11.length false) Zd Z1 fb43 (fun H => (.cons (td Z1 (.agg _ (CFGGraph.dat (GGraph.mk (GConfig.mk 3 1 1) [(GHash.mk 1 0)] [(GEdge.mk 0 2 0)])))) (cV (cV .nil)))) (searchWords_c h10) ?_
 refine pA ?_
 refine fs ?_
 refine sr (N' := 448) rfl ?_
 refine pu rfl (ap_ldv Z1 Z3 Z2) ?_
 obtain ⟨r13, h12, hm⟩ := bnd hm
 refine ARun.callQ (r := .v (.bool r13)) Zd Z1 fb45 (fun H => (.cons (td Z1 (.agg _ (CFGGraph.dat (GGraph.mk (GConfig.mk 3 1 1) [(GHash.mk 1 0)] [(GEdge.mk 0 2 0)])))) .nil)) (searchRight_c h12) ?_
 refine pA ?_
 refine pg rfl rfl Z2 (fun hb => (ap_ldv (Zh hb) Z3 Z2)) ?_
 refine pg rfl rfl Z2 (fun hb => (by simp only [go_sem, Nat.reduceBEq, hb, Bool.true_and]; exact (by kernel_rfl : abuild Try.prog 38 [(0, .v (.int .i64 0)), (1, .v (.int .i64 2))] = some (.agg [.v (.int .i64 0), .v (.int .i64 2), .v (.int .i64 0)])))) ?_
 iterate 20 first | refine pA ?_ | refine pB ?_
 obtain ⟨x15, h14, hm⟩ := bnd hm
 refine pg rfl rfl Z2 (fun hb => (ap_idx (CFi .u64) Zd Try.underlying41 sz51 (Zh hb) rfl (Zh hb) (gopt_t h14 hb))) ?_
 iterate 4 first | refine pA ?_ | refine pB ?_
 refine pg rfl rfl Z2 (fun hb => (ap_ldv (Zh hb) Z3 Z2)) ?_
 obtain ⟨r17, h16, hm⟩ := bnd hm
 refine ARun.callQG (r := .sl (r17.flatMap (ci .i64)) r17.length false) Zd rfl Z2 Z1 fb42 (fun hb H => (.cons (td (Zh hb) (.agg _ (CFGGraph.dat (GGraph.mk (GConfig.mk 3 1 1) [(GHash.mk 1 0)] [(GEdge.mk 0 2 0)])))) (.cons (td (Zh hb) (.v _)) (.cons (td (Zh hb) (.v _)) .nil)))) (fun hb => searchTree_c (gopt_t h16 hb)) ?_
 refine split_m hm (fun h18 hm => ?_) (fun h18 hm => ?_)
 ·
  refine ARun.heapG Zd rfl (by simp only [go_sem, Nat.reduceBEq, h18]; try with_reducible rfl) (id := 416) rfl (ah_list (CFi .i64) (l := [2]) Try.underlying30 sz3 zc3 Z5 Zd Zd Zd (by simp only [go_sem, Nat.reduceBEq, h18]; try rfl) (by kernel_rfl)) ?_
  obtain ⟨r20, h19, hm⟩ := bnd hm
  refine ARun.callBG (r := .v (.bool r20)) Zd rfl (by simp only [go_sem, Nat.reduceBEq, h18]; try with_reducible rfl) (by try simp only [go_sem, Nat.reduceBEq, h18]; try rfl) fb34 (fun hb => (.cons (ltd fun H => (td (by try simp only [go_sem, Nat.reduceBEq, h18]; try rfl) ((CFi .i64).sl _ _ _))) (.cons (lto (CFi .i64) (by try simp only [go_sem, Nat.reduceBEq, h18]; try rfl) Z3 Z6) Lent.nil))) scal1 (fun hb => ref06Same_c h19) ?_
  iterate 2 refine pu rfl (by simp only [go_sem, Nat.reduceBEq, h18]; try with_reducible rfl) ?_
  refine pg rfl rfl (by simp only [go_sem, Nat.reduceBEq, h18]; try with_reducible rfl) (fun hb => (ap_ldv (by try simp only [go_sem, Nat.reduceBEq, h18, hb, Bool.true_and]; try rfl) Z3 (by simp only [go_sem, Nat.reduceBEq, h18]; try with_reducible rfl))) ?_
  obtain ⟨r22, h21, hm⟩ := bnd hm
  refine ARun.callQG (r := .sl (r22.flatMap cGHash) r22.length false) Zd rfl (by simp only [go_sem, Nat.reduceBEq, h18]; try with_reducible rfl) (by try simp only [go_sem, Nat.reduceBEq, h18]; try rfl) fb41 (fun hb H => (.cons (td (by try simp only [go_sem, Nat.reduceBEq, h18, hb, Bool.true_and]; try rfl) (.agg _ (CFGGraph.dat (GGraph.mk (GConfig.mk 3 1 1) [(GHash.mk 1 0)] [(GEdge.mk 0 2 0)])))) (.cons (td (by try simp only [go_sem, Nat.reduceBEq, h18, hb, Bool.true_and]; try rfl) (.v _)) .nil))) (fun hb => searchHashes_c (gopt_t h21 hb)) ?_
  iterate 4 (first | refine pu rfl (by simp only [go_sem, Nat.reduceBEq, h18]; try with_reducible rfl) ?_ | refine pg rfl rfl (by simp only [go_sem, Nat.reduceBEq, h18]; try with_reducible rfl) (by intro hb; simp only [go_sem, Nat.reduceBEq, h18, hb, Bool.true_and]; try with_reducible rfl) ?_)
  refine pg rfl rfl (by simp only [go_sem, Nat.reduceBEq, h18]; try with_reducible rfl) (fun hb => (by simp only [go_sem, Nat.reduceBEq, h18, hb, Bool.true_and]; exact (by kernel_rfl : abuild Try.prog 27 [] = some (.agg [.v (.int .i64 0), .v (.int .i64 0), .v (.int .i64 0), .v (.slice none 0 0), .v (.slice none 0 0)])))) ?_
  obtain ⟨r24, h23, hm⟩ := bnd hm
  refine ARun.callQG (r := .v (.bool r24)) Zd rfl (by simp only [go_sem, Nat.reduceBEq, h18]; try with_reducible rfl) (by try simp only [go_sem, Nat.reduceBEq, h18]; try rfl) fb45 (fun hb H => (.cons (tda (by try simp only [go_sem, Nat.reduceBEq, h18, hb, Bool.true_and]; try rfl) (.cons (.data _ (.v _)) (.cons (.data _ (.v _)) (.cons (.data _ (.v _)) (.cons (.nil false) (.cons (.nil false) .nil)))))) .nil)) (fun hb => searchRight_c (gopt_t h23 hb)) ?_
  iterate 3 (first | refine pu rfl (by simp only [go_sem, Nat.reduceBEq, h18]; try with_reducible rfl) ?_ | refine pg rfl rfl (by simp only [go_sem, Nat.reduceBEq, h18]; try with_reducible rfl) (by intro hb; simp only [go_sem, Nat.reduceBEq, h18, hb, Bool.true_and]; try with_reducible rfl) ?_)
  refine fs ?_
  refine AWp.ret ?_
  cases hm
  exact ret1D (.inr rfl) Try.results40 (td Z1 (.v _))
 ·
  refine ARun.skipG Zd rfl (by simp only [go_sem, Nat.reduceBEq, h18]; try with_reducible rfl) ?_
  refine ARun.skipG Zd rfl (by simp only [go_sem, Nat.reduceBEq, h18]; try with_reducible rfl) ?_
  iterate 2 refine pu rfl (by simp only [go_sem, Nat.reduceBEq, h18]; try with_reducible rfl) ?_
  refine ARun.skipG Zd rfl (by simp only [go_sem, Nat.reduceBEq, h18]; try with_reducible rfl) ?_
  refine ARun.skipG Zd rfl (by simp only [go_sem, Nat.reduceBEq, h18]; try with_reducible rfl) ?_
  refine ARun.skipG Zd rfl (by simp only [go_sem, Nat.reduceBEq, h18]; try with_reducible rfl) ?_
  refine ARun.skipG Zd rfl (by simp only [go_sem, Nat.reduceBEq, h18]; try with_reducible rfl) ?_
  iterate 2 refine pu rfl (by simp only [go_sem, Nat.reduceBEq, h18]; try with_reducible rfl) ?_
  refine ARun.skipG Zd rfl (by simp only [go_sem, Nat.reduceBEq, h18]; try with_reducible rfl) ?_
  refine ARun.skipG Zd rfl (by simp only [go_sem, Nat.reduceBEq, h18]; try with_reducible rfl) ?_
  refine ARun.skipG Zd rfl (by simp only [go_sem, Nat.reduceBEq, h18]; try with_reducible rfl) ?_
  iterate 2 refine pu rfl (by simp only [go_sem, Nat.reduceBEq, h18]; try with_reducible rfl) ?_
  refine fs ?_
  refine AWp.ret ?_
  cases hm
  exact ret1D (.inr rfl) Try.results40 (td Z1 (.v _))
def ref04Levels_J1 (bits_3 : Int) : Option (Int) :=
 some (IntKind.i64.wrap ((IntKind.i64.wrap (2 * bits_3)) + 2))
def ref04Levels_B1 (rec1 : Int → Int → Int → Option (Int)) (n_0 : Int) (bits_3 : Int) (many_4 : Int) : Option (Int) :=
 (bif ((decide (many_4 < n_0)) && (decide (bits_3 < 62))) then
  rec1 n_0 (IntKind.i64.wrap (bits_3 + 1)) (IntKind.i64.wrap (2 * many_4))
 else
  (bif (decide (many_4 < n_0)) then
   ref04Levels_J1 63
  else
   ref04Levels_J1 bits_3))
def ref04Levels_L1 : Nat → Int → Int → Int → Option (Int)
 | 0 => fun _ _ _ => none
 | n + 1 => ref04Levels_B1 (ref04Levels_L1 n)
def ref04Levels_m (n_0 : Int) : Option (Int) :=
 (bif (decide (n_0 < 1)) then
  some 0
 else
  ref04Levels_L1 FUEL n_0 0 1)
def ref05Same_B1 (rec1 : List Int → List Int → Int → Option (Bool)) (a_0 : List Int) (b_1 : List Int) (i_5 : Int) : Option (Bool) :=
 (bif (decide (i_5 < (a_0.length : Int))) then
  ((idx a_0 i_5).bind fun x2 =>
  ((idx b_1 i_5).bind fun x4 =>
  (bif (x2 != x4) then
   some false
  else
   rec1 a_0 b_1 (IntKind.i64.wrap (i_5 + 1)))))
 else
  some true)
def ref05Same_L1 : Nat → List Int → List Int → Int → Option (Bool)
 | 0 => fun _ _ _ => none
 | n + 1 => ref05Same_B1 (ref05Same_L1 n)
def ref05Same_m (a_0 : List Int) (b_1 : List Int) : Option (Bool) :=
 (bif ((a_0.length : Int) != (b_1.length : Int)) then
  some false
 else
  ref05Same_L1 FUEL a_0 b_1 0)
theorem ref05Same_c {a_0 : List Int} {b_1 : List Int} {r : Bool} (hm : ref05Same_m a_0 b_1 = some r) : PureC Try.prog 50 [.sl (a_0.flatMap (ci .u64)) a_0.length false, .sl (b_1.flatMap (ci .u64)) b_1.length false] (.v (.bool r)) := by
 refine PureC.of_body Try.func50 rfl ?_
 simp only [Try.ntmps50, List.length_cons, List.length_nil, Nat.reduceAdd, Nat.reduceSub, empty_eq]
 unfold ref05Same_m at hm
 refine sr (N' := 64) rfl ?_
 refine pA ?_
 refine fs ?_
 refine AWp.seq' ?_
 refine sr (N' := 128) rfl ?_
 iterate 5 refine pA ?_
 refine fs ?_
 refine AWp.condM hm Z1 (fun _ hm => ?_) (fun _ hm => ?_)
 ·
  refine sr (N' := 192) rfl ?_
  refine pA ?_
  refine fs ?_
  refine AWp.ret ?_
  refine retSeq ?_
  cases hm
  exact ret1D (.inr rfl) Try.results50 (td Z1 (.v _))
 ·
  refine AWp.skip ?_
  refine normSeq ?_
  refine AWp.seq' ?_
  refine sr (N' := 192) rfl ?_
  refine pA ?_
  refine fs ?_
  refine AWp.block ?_
  refine AWp.loopM (fun m s => ∃ (a_0 : List Int) (b_1 : List Int) (i_5 : Int), s = (⟨26, (fset (fset (fset (fun _ => AV.any) 0 (.sl (a_0.flatMap (ci .u64)) a_0.length false)) 1 (.sl (b_1.flatMap (ci .u64)) b_1.length false)) 5 (.v (.int .i64 i_5))), ⟨nofresh, 64⟩⟩ : St) ∧ ref05Same_L1 m a_0 b_1 i_5 = some r) FUEL ?_ ?_ ?_
  ·
   rintro s ⟨_, _, _, _, h⟩
   cases h
  ·
   refine ⟨_, ?_, a_0, b_1, 0, rfl, hm⟩
   exact le_canon id (wV (wD ((CFi .u64).sl _ _ _) (wD ((CFi .u64).sl _ _ _) wk_none))) heapWk0
  ·
   rintro n1 s ⟨a_0, b_1, i_5, rfl, hm⟩
   replace hm : ref05Same_B1 (ref05Same_L1 n1) a_0 b_1 i_5 = some r := hm
   unfold ref05Same_B1 at hm
   refine AWp.seq' ?_
   refine sr (N' := 128) rfl ?_
   iterate 4 refine pA ?_
   refine fs ?_
   refine AWp.condM hm Z1 (fun _ hm => ?_) (fun _ hm => ?_)
   ·
    refine AWp.skip ?_
    refine normSeq ?_
    refine AWp.seq' ?_
    refine AWp.block ?_
    refine sd mix (by kernel_rfl) (N' := 192) rfl ?_
    iterate 2 refine pA ?_
    obtain ⟨x2, h1, hm⟩ := bnd hm
    refine pu rfl (ap_idx (CFi .u64) Zd Try.underlying41 sz51 Z1 rfl Z1 h1) ?_
    iterate 3 refine pA ?_
    obtain ⟨x4, h3, hm⟩ := bnd hm
    refine pu rfl (ap_idx (CFi .u64) Zd Try.underlying41 sz51 Z1 rfl Z1 h3) ?_
    iterate 2 refine pA ?_
    refine fs ?_
    refine AWp.condM hm Z1 (fun _ hm => ?_) (fun _ hm => ?_)
    ·
     refine sr (N' := 256) rfl ?_
     refine pA ?_
     refine fs ?_
     refine AWp.ret ?_
     refine retIn ?_
     refine retSeq ?_
     refine retThen ?_
     refine retIn ?_
     refine retSeq ?_
     cases hm
     exact ret1D (.inr rfl) Try.results50 (td Z1 (.v _))
    ·
     refine AWp.skip ?_
     refine normIn ?_
     refine normSeq ?_
     refine AWp.reg 64 (N' := 256) rfl ?_
     iterate 3 refine pA ?_
     refine ARun.fin ?_
     refine normThen ?_
     refine ⟨_, ?_, a_0, b_1, (IntKind.i64.wrap (i_5 + 1)), rfl, hm⟩
     exact le_canon id (wV (wD ((CFi .u64).sl _ _ _) (wD ((CFi .u64).sl _ _ _) wk_none))) heapWk0
   ·
    refine AWp.exit ?_
    refine exitSeq ?_
    refine exitThen ?_
    refine exitHere ?_
    refine normSeq ?_
    refine sr (N' := 192) rfl ?_
    refine pA ?_
    refine fs ?_
    refine AWp.ret ?_
    cases hm
    exact ret1D (.inr rfl) Try.results50 (td Z1 (.v _))
end Go.Proofs.Ytibnmlbjahcjmaa
