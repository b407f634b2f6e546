/- Facts that the statement's proof is made of. No condition. -/
import Derived.Test.YtibnmlbjahcjmaaQsGB1
set_option linter.unusedVariables false
set_option linter.unusedSimpArgs false
set_option maxRecDepth 20000
set_option maxHeartbeats 4000000
namespace Go.Proofs.Ytibnmlbjahcjmaa
open Go Go.AM
theorem eqs38GB2 (x0 y0 x1 y1 x2 y2 : Int) : abin Try.prog .eql 38 (.agg [.v (.int .i64 x0), .v (.int .i64 x1), .v (.int .i64 x2)]) (.agg [.v (.int .i64 y0), .v (.int .i64 y1), .v (.int .i64 y2)]) = some (.v (.bool ((x0 == y0) && ((x1 == y1) && (x2 == y2))))) :=
 (by kernel_rfl : abin Try.prog .eql 38 (.agg [.v (.int .i64 x0), .v (.int .i64 x1), .v (.int .i64 x2)]) (.agg [.v (.int .i64 y0), .v (.int .i64 y1), .v (.int .i64 y2)]) = some (.v (.bool ((x0 == y0) && ((x1 == y1) && ((x2 == y2) && true)))))).trans (by rw [Bool.and_true])
theorem nqs38GB2 (x0 y0 x1 y1 x2 y2 : Int) : abin Try.prog .neq 38 (.agg [.v (.int .i64 x0), .v (.int .i64 x1), .v (.int .i64 x2)]) (.agg [.v (.int .i64 y0), .v (.int .i64 y1), .v (.int .i64 y2)]) = some (.v (.bool (!((x0 == y0) && ((x1 == y1) && (x2 == y2)))))) :=
 (by kernel_rfl : abin Try.prog .neq 38 (.agg [.v (.int .i64 x0), .v (.int .i64 x1), .v (.int .i64 x2)]) (.agg [.v (.int .i64 y0), .v (.int .i64 y1), .v (.int .i64 y2)]) = some (.v (.bool (!((x0 == y0) && ((x1 == y1) && ((x2 == y2) && true))))))).trans (by rw [Bool.and_true])
attribute [go_sem] eqs38GB2 nqs38GB2
theorem eqs53GB2 (x0 y0 x1 y1 : Int) : abin Try.prog .eql 53 (.agg [.v (.int .u64 x0), .v (.int .u64 x1)]) (.agg [.v (.int .u64 y0), .v (.int .u64 y1)]) = some (.v (.bool ((x0 == y0) && (x1 == y1)))) :=
 (by kernel_rfl : abin Try.prog .eql 53 (.agg [.v (.int .u64 x0), .v (.int .u64 x1)]) (.agg [.v (.int .u64 y0), .v (.int .u64 y1)]) = some (.v (.bool ((x0 == y0) && ((x1 == y1) && true))))).trans (by rw [Bool.and_true])
theorem nqs53GB2 (x0 y0 x1 y1 : Int) : abin Try.prog .neq 53 (.agg [.v (.int .u64 x0), .v (.int .u64 x1)]) (.agg [.v (.int .u64 y0), .v (.int .u64 y1)]) = some (.v (.bool (!((x0 == y0) && (x1 == y1))))) :=
 (by kernel_rfl : abin Try.prog .neq 53 (.agg [.v (.int .u64 x0), .v (.int .u64 x1)]) (.agg [.v (.int .u64 y0), .v (.int .u64 y1)]) = some (.v (.bool (!((x0 == y0) && ((x1 == y1) && true)))))).trans (by rw [Bool.and_true])
attribute [go_sem] eqs53GB2 nqs53GB2
theorem fa38_0GB2 (xs : List AV) : afieldAddr Try.prog 38 (.ptr (xs)) 0 = some (.ptr xs) := by kernel_rfl
attribute [go_sem] fa38_0GB2
theorem fa38_1GB2 (x0 : AV) (xs : List AV) : afieldAddr Try.prog 38 (.ptr (x0 :: xs)) 1 = some (.ptr xs) := by kernel_rfl
attribute [go_sem] fa38_1GB2
theorem fo23_0GB2 (i o : Nat) : afieldAddr Try.prog 23 (.adr i o) 0 = some (.adr i (o + 0)) := by kernel_rfl
attribute [go_sem] fo23_0GB2
theorem fo23_1GB2 (i o : Nat) : afieldAddr Try.prog 23 (.adr i o) 1 = some (.adr i (o + 1)) := by kernel_rfl
attribute [go_sem] fo23_1GB2
theorem fo23_2GB2 (i o : Nat) : afieldAddr Try.prog 23 (.adr i o) 2 = some (.adr i (o + 2)) := by kernel_rfl
attribute [go_sem] fo23_2GB2
theorem fo27_0GB2 (i o : Nat) : afieldAddr Try.prog 27 (.adr i o) 0 = some (.adr i (o + 0)) := by kernel_rfl
attribute [go_sem] fo27_0GB2
theorem fo27_1GB2 (i o : Nat) : afieldAddr Try.prog 27 (.adr i o) 1 = some (.adr i (o + 3)) := by kernel_rfl
attribute [go_sem] fo27_1GB2
theorem fo27_2GB2 (i o : Nat) : afieldAddr Try.prog 27 (.adr i o) 2 = some (.adr i (o + 4)) := by kernel_rfl
attribute [go_sem] fo27_2GB2
theorem fo38_0GB2 (i o : Nat) : afieldAddr Try.prog 38 (.adr i o) 0 = some (.adr i (o + 0)) := by kernel_rfl
attribute [go_sem] fo38_0GB2
theorem fo38_1GB2 (i o : Nat) : afieldAddr Try.prog 38 (.adr i o) 1 = some (.adr i (o + 1)) := by kernel_rfl
attribute [go_sem] fo38_1GB2
theorem fo53_0GB2 (i o : Nat) : afieldAddr Try.prog 53 (.adr i o) 0 = some (.adr i (o + 0)) := by kernel_rfl
attribute [go_sem] fo53_0GB2
theorem fo53_1GB2 (i o : Nat) : afieldAddr Try.prog 53 (.adr i o) 1 = some (.adr i (o + 1)) := by kernel_rfl
attribute [go_sem] fo53_1GB2
theorem ld24GB2 (H : Heap) (x : AV) (xs : List AV) : aload Try.prog H 24 (.ptr (x :: xs)) = some x := by kernel_rfl
attribute [go_sem] ld24GB2
theorem ld25GB2 (H : Heap) (x : AV) (xs : List AV) : aload Try.prog H 25 (.ptr (x :: xs)) = some x := by kernel_rfl
attribute [go_sem] ld25GB2
theorem ld27GB2 (H : Heap) (x0 x1 x2 x3 x4 : AV) (xs : List AV) : aload Try.prog H 27 (.ptr (x0 :: x1 :: x2 :: x3 :: x4 :: xs)) = some (.agg [x0, x1, x2, x3, x4]) := by kernel_rfl
attribute [go_sem] ld27GB2
theorem ld3GB2 (H : Heap) (x : AV) (xs : List AV) : aload Try.prog H 3 (.ptr (x :: xs)) = some x := by kernel_rfl
attribute [go_sem] ld3GB2
theorem ld38GB2 (H : Heap) (x0 x1 x2 : AV) (xs : List AV) : aload Try.prog H 38 (.ptr (x0 :: x1 :: x2 :: xs)) = some (.agg [x0, x1, x2]) := by kernel_rfl
attribute [go_sem] ld38GB2
theorem ld51GB2 (H : Heap) (x : AV) (xs : List AV) : aload Try.prog H 51 (.ptr (x :: xs)) = some x := by kernel_rfl
attribute [go_sem] ld51GB2
theorem ld53GB2 (H : Heap) (x0 x1 : AV) (xs : List AV) : aload Try.prog H 53 (.ptr (x0 :: x1 :: xs)) = some (.agg [x0, x1]) := by kernel_rfl
attribute [go_sem] ld53GB2
theorem cv3_51GB2 (H : Heap) (k : IntKind) (n : Int) : aconv Try.prog H 3 51 (.v (.int k n)) = some (.v (.int .u64 (IntKind.u64.wrap n))) := aconv_int Try.underlying3 Try.underlying51
attribute [go_sem] cv3_51GB2
theorem cv3_124GB2 (H : Heap) (k : IntKind) (n : Int) : aconv Try.prog H 3 124 (.v (.int k n)) = some (.v (.int .u64 (IntKind.u64.wrap n))) := aconv_int Try.underlying3 Try.underlying124
attribute [go_sem] cv3_124GB2
def law14Awake_m : Option (Bool) :=
 ((searchSearch_m (GGraph.mk (GConfig.mk 3 1 1) [(GHash.mk 1 0)] [(GEdge.mk 0 2 0)]) 0 0).bind fun ⟨r2, r3⟩ =>
 ((searchSearch_m (GGraph.mk (GConfig.mk 3 1 1) [(GHash.mk 1 0)] [(GEdge.mk 0 2 0)]) 0 1).bind fun ⟨r5, r6⟩ =>
 ((searchSearch_m (GGraph.mk (GConfig.mk 3 1 1) [(GHash.mk 1 0)] [(GEdge.mk 0 2 0)]) 1 0).bind fun ⟨r8, r9⟩ =>
 ((searchWords_m (GGraph.mk (GConfig.mk 3 1 1) [(GHash.mk 1 0)] [(GEdge.mk 0 2 0)]) 0 2).bind fun r11 =>
 ((searchRight_m (GGraph.mk (GConfig.mk 3 1 1) [(GHash.mk 1 0)] [(GEdge.mk 0 2 0)])).bind fun r13 =>
 ((gopt ((((((r13 && ((r2.U == 0) && ((r2.V == 2) && (r2.Tier == 0)))) && r3) && (!r6)) && (!r9)) && ((r11.length : Int) == 6)) == true) 0 (idx r11 0)).bind fun x15 =>
 ((gopt (((((((r13 && ((r2.U == 0) && ((r2.V == 2) && (r2.Tier == 0)))) && r3) && (!r6)) && (!r9)) && ((r11.length : Int) == 6)) && (x15 == 2)) == true) [] (searchTree_m (GGraph.mk (GConfig.mk 3 1 1) [(GHash.mk 1 0)] [(GEdge.mk 0 2 0)]) 1 2)).bind fun r17 =>
 (bif ((((((r13 && ((r2.U == 0) && ((r2.V == 2) && (r2.Tier == 0)))) && r3) && (!r6)) && (!r9)) && ((r11.length : Int) == 6)) && (x15 == 2)) then
  ((ref06Same_m r17 [2]).bind fun r20 =>
  ((gopt (r20 == true) [] (searchHashes_m (GGraph.mk (GConfig.mk 3 1 1) [(GHash.mk 1 0)] [(GEdge.mk 0 2 0)]) 0)).bind fun r22 =>
  ((gopt ((r20 && ((r22.length : Int) == 1)) == true) false (searchRight_m (GGraph.mk (GConfig.mk 0 0 0) [] []))).bind fun r24 =>
  some ((r20 && ((r22.length : Int) == 1)) && (!r24)))))
 else
  some false))))))))
theorem law14Awake_c {r : Bool} (hm : law14Awake_m = some r) : PureC Try.prog 40 [] (.v (.bool r)) := by
 refine PureC.of_body Try.func40 rfl ?_
 simp only [Try.ntmps40, List.length_cons, List.length_nil, Nat.reduceAdd, Nat.reduceSub, empty_eq]
 unfold law14Awake_m at hm
 refine sr (N' := 64) rfl ?_
 refine pA ?_
 refine fs ?_
 refine sr (N' := 128) rfl ?_
 refine pu rfl (by simp only [go_sem, Nat.reduceBEq]; exact (by kernel_rfl : abuild Try.prog 23 [(0, .v (.int .i64 3)), (1, .v (.int .i64 1)), (2, .v (.int .i64 1))] = some (.agg [.v (.int .i64 3), .v (.int .i64 1), .v (.int .i64 1)]))) ?_
 refine pu rfl (by simp only [go_sem, Nat.reduceBEq]; exact (by kernel_rfl : abuild Try.prog 53 [(0, .v (.int .u64 1)), (1, .v (.int .u64 0))] = some (.agg [.v (.int .u64 1), .v (.int .u64 0)]))) ?_
 refine ARun.pop Zd (noOwn_parts (ps := [(0, .agg [.v (.int .u64 1), .v (.int .u64 0)])]) (by simp only [go_sem, Nat.reduceBEq]; try rfl) (dps_cons (.agg _ (CFGHash.dat (GHash.mk 1 0))) dps_nil)) (pop_list CFGHash (l := [(GHash.mk 1 0)]) (xs := [.v (.int .u64 1), .v (.int .u64 0)]) Try.underlying24 sz53 zc53 Zd Zd Zd (ps := [(0, .agg [.v (.int .u64 1), .v (.int .u64 0)])]) (by simp only [go_sem, Nat.reduceBEq]; try rfl) (by kernel_rfl) (fun H => (.cons (.data _ (.v _)) (.cons (.data _ (.v _)) .nil)))) rfl ?_
 refine pu rfl (by simp only [go_sem, Nat.reduceBEq]; exact (by kernel_rfl : abuild Try.prog 38 [(0, .v (.int .i64 0)), (1, .v (.int .i64 2))] = some (.agg [.v (.int .i64 0), .v (.int .i64 2), .v (.int .i64 0)]))) ?_
 refine ARun.pop Zd (noOwn_parts (ps := [(0, .agg [.v (.int .i64 0), .v (.int .i64 2), .v (.int .i64 0)])]) (by simp only [go_sem, Nat.reduceBEq]; try rfl) (dps_cons (.agg _ (CFGEdge.dat (GEdge.mk 0 2 0))) dps_nil)) (pop_list CFGEdge (l := [(GEdge.mk 0 2 0)]) (xs := [.v (.int .i64 0), .v (.int .i64 2), .v (.int .i64 0)]) Try.underlying25 sz38 zc38 Zd Zd Zd (ps := [(0, .agg [.v (.int .i64 0), .v (.int .i64 2), .v (.int .i64 0)])]) (by simp only [go_sem, Nat.reduceBEq]; try rfl) (by kernel_rfl) (fun H => (.cons (.data _ (.v _)) (.cons (.data _ (.v _)) (.cons (.data _ (.v _)) .nil))))) rfl ?_
 refine pu rfl (by simp only [go_sem, Nat.reduceBEq]; exact (by kernel_rfl : abuild Try.prog 27 [(0, .agg [.v (.int .i64 3), .v (.int .i64 1), .v (.int .i64 1)]), (1, .sl (([(GHash.mk 1 0)]).flatMap cGHash) ([(GHash.mk 1 0)]).length false), (2, .sl (([(GEdge.mk 0 2 0)]).flatMap cGEdge) ([(GEdge.mk 0 2 0)]).length false)] = some (.agg [.v (.int .i64 3), .v (.int .i64 1), .v (.int .i64 1), .sl (([(GHash.mk 1 0)]).flatMap cGHash) ([(GHash.mk 1 0)]).length false, .sl (([(GEdge.mk 0 2 0)]).flatMap cGEdge) ([(GEdge.mk 0 2 0)]).length false]))) ?_
 refine hp (id := 70) rfl rfl (aheap_alloc' zc27 Z5) ?_
 refine ARun.heap0 (id := 71) rfl (ah_var (ys := [.v (.int .i64 3), .v (.int .i64 1), .v (.int .i64 1), .sl (([(GHash.mk 1 0)]).flatMap cGHash) ([(GHash.mk 1 0)]).length false, .sl (([(GEdge.mk 0 2 0)]).flatMap cGEdge) ([(GEdge.mk 0 2 0)]).length false]) sz27 Z1 Z1 Z3 rfl (Nat.le_of_ble_eq_true rfl) Z9 rfl) ?_
 refine fs ?_
 refine sr (N' := 192) rfl ?_
 refine pu rfl (ap_ldv Z1 Z3 Z2) ?_
 obtain ⟨⟨r2, r3⟩, h1, hm⟩ := bnd hm
 refine ARun.callQ (r := .tup [.agg [.v (.int .i64 r2.U), .v (.int .i64 r2.V), .v (.int .i64 r2.Tier)], .v (.bool r3)]) Zd Z1 fb44 (fun H => (.cons (td Z1 (.agg _ (CFGGraph.dat (GGraph.mk (GConfig.mk 3 1 1) [(GHash.mk 1 0)] [(GEdge.mk 0 2 0)])))) (cV (cV .nil)))) (searchSearch_c h1) ?_
 iterate 3 refine pA ?_
 refine hp (id := 133) rfl rfl (aheap_alloc' zc38 Z5) ?_
 refine ARun.heap0 (id := 134) rfl (ah_var (ys := [.v (.int .i64 r2.U), .v (.int .i64 r2.V), .v (.int .i64 r2.Tier)]) sz38 Z1 Z1 Z3 rfl (Nat.le_of_ble_eq_true rfl) Z9 rfl) ?_
 refine pA ?_
 refine fs ?_
 refine sr (N' := 256) rfl ?_
 refine pu rfl (ap_ldv Z1 Z3 Z2) ?_
 obtain ⟨⟨r5, r6⟩, h4, hm⟩ := bnd hm
 refine ARun.callQ (r := .tup [.agg [.v (.int .i64 r5.U), .v (.int .i64 r5.V), .v (.int .i64 r5.Tier)], .v (.bool r6)]) Zd Z1 fb44 (fun H => (.cons (td Z1 (.agg _ (CFGGraph.dat (GGraph.mk (GConfig.mk 3 1 1) [(GHash.mk 1 0)] [(GEdge.mk 0 2 0)])))) (cV (cV .nil)))) (searchSearch_c h4) ?_
 iterate 3 refine pA ?_
 refine hp (id := 197) rfl rfl (aheap_alloc' zc38 Z5) ?_
 refine ARun.heap0 (id := 198) rfl (ah_var (ys := [.v (.int .i64 r5.U), .v (.int .i64 r5.V), .v (.int .i64 r5.Tier)]) sz38 Z1 Z1 Z3 rfl (Nat.le_of_ble_eq_true rfl) Z9 rfl) ?_
 refine pA ?_
 refine fs ?_
 refine sr (N' := 320) rfl ?_
 refine pu rfl (ap_ldv Z1 Z3 Z2) ?_
 obtain ⟨⟨r8, r9⟩, h7, hm⟩ := bnd hm
 refine ARun.callQ (r := .tup [.agg [.v (.int .i64 r8.U), .v (.int .i64 r8.V), .v (.int .i64 r8.Tier)], .v (.bool r9)]) Zd Z1 fb44 (fun H => (.cons (td Z1 (.agg _ (CFGGraph.dat (GGraph.mk (GConfig.mk 3 1 1) [(GHash.mk 1 0)] [(GEdge.mk 0 2 0)])))) (cV (cV .nil)))) (searchSearch_c h7) ?_
 iterate 3 refine pA ?_
 refine hp (id := 261) rfl rfl (aheap_alloc' zc38 Z5) ?_
 refine ARun.heap0 (id := 262) rfl (ah_var (ys := [.v (.int .i64 r8.U), .v (.int .i64 r8.V), .v (.int .i64 r8.Tier)]) sz38 Z1 Z1 Z3 rfl (Nat.le_of_ble_eq_true rfl) Z9 rfl) ?_
 refine pA ?_
 refine fs ?_
 refine sr (N' := 384) rfl ?_
 refine pu rfl (ap_ldv Z1 Z3 Z2) ?_
 obtain ⟨r11, h10, hm⟩ := bnd hm
 refine ARun.callQ (r := .sl (r11.flatMap (ci .u64)) r11.length false) Zd Z1 fb43 (fun H => (.cons (td Z1 (.agg _ (CFGGraph.dat (GGraph.mk (GConfig.mk 3 1 1) [(GHash.mk 1 0)] [(GEdge.mk 0 2 0)])))) (cV (cV .nil)))) (searchWords_c h10) ?_
 refine pA ?_
 refine fs ?_
 refine sr (N' := 448) rfl ?_
 refine pu rfl (ap_ldv Z1 Z3 Z2) ?_
 obtain ⟨r13, h12, hm⟩ := bnd hm
 refine ARun.callQ (r := .v (.bool r13)) Zd Z1 fb45 (fun H => (.cons (td Z1 (.agg _ (CFGGraph.dat (GGraph.mk (GConfig.mk 3 1 1) [(GHash.mk 1 0)] [(GEdge.mk 0 2 0)])))) .nil)) (searchRight_c h12) ?_
 refine pA ?_
 refine pg rfl rfl Z2 (fun hb => (ap_ldv (Zh hb) Z3 Z2)) ?_
 refine pg rfl rfl Z2 (fun hb => (by simp only [go_sem, Nat.reduceBEq, hb, Bool.true_and]; exact (by kernel_rfl : abuild Try.prog 38 [(0, .v (.int .i64 0)), (1, .v (.int .i64 2))] = some (.agg [.v (.int .i64 0), .v (.int .i64 2), .v (.int .i64 0)])))) ?_
 iterate 20 first | refine pA ?_ | refine pB ?_
 obtain ⟨x15, h14, hm⟩ := bnd hm
 refine pg rfl rfl Z2 (fun hb => (ap_idx (CFi .u64) Zd Try.underlying41 sz51 (Zh hb) rfl (Zh hb) (gopt_t h14 hb))) ?_
 iterate 4 first | refine pA ?_ | refine pB ?_
 refine pg rfl rfl Z2 (fun hb => (ap_ldv (Zh hb) Z3 Z2)) ?_
 obtain ⟨r17, h16, hm⟩ := bnd hm
 refine ARun.callQG (r := .sl (r17.flatMap (ci .i64)) r17.length false) Zd rfl Z2 Z1 fb42 (fun hb H => (.cons (td (Zh hb) (.agg _ (CFGGraph.dat (GGraph.mk (GConfig.mk 3 1 1) [(GHash.mk 1 0)] [(GEdge.mk 0 2 0)])))) (.cons (td (Zh hb) (.v _)) (.cons (td (Zh hb) (.v _)) .nil)))) (fun hb => searchTree_c (gopt_t h16 hb)) ?_
 refine split_m hm (fun h18 hm => ?_) (fun h18 hm => ?_)
 ·
  refine ARun.heapG Zd rfl (by simp only [go_sem, Nat.reduceBEq, h18]; try with_reducible rfl) (id := 416) rfl (ah_list (CFi .i64) (l := [2]) Try.underlying30 sz3 zc3 Z5 Zd Zd Zd (by simp only [go_sem, Nat.reduceBEq, h18]; try rfl) (by kernel_rfl)) ?_
  obtain ⟨r20, h19, hm⟩ := bnd hm
  refine ARun.callBG (r := .v (.bool r20)) Zd rfl (by simp only [go_sem, Nat.reduceBEq, h18]; try with_reducible rfl) (by try simp only [go_sem, Nat.reduceBEq, h18]; try rfl) fb34 (fun hb => (.cons (ltd fun H => (td (by try simp only [go_sem, Nat.reduceBEq, h18]; try rfl) ((CFi .i64).sl _ _ _))) (.cons (lto (CFi .i64) (by try simp only [go_sem, Nat.reduceBEq, h18]; try rfl) Z3 Z6) Lent.nil))) scal1 (fun hb => ref06Same_c h19) ?_
  iterate 2 refine pu rfl (by simp only [go_sem, Nat.reduceBEq, h18]; try with_reducible rfl) ?_
  refine pg rfl rfl (by simp only [go_sem, Nat.reduceBEq, h18]; try with_reducible rfl) (fun hb => (ap_ldv (by try simp only [go_sem, Nat.reduceBEq, h18, hb, Bool.true_and]; try rfl) Z3 (by simp only [go_sem, Nat.reduceBEq, h18]; try with_reducible rfl))) ?_
  obtain ⟨r22, h21, hm⟩ := bnd hm
  refine ARun.callQG (r := .sl (r22.flatMap cGHash) r22.length false) Zd rfl (by simp only [go_sem, Nat.reduceBEq, h18]; try with_reducible rfl) (by try simp only [go_sem, Nat.reduceBEq, h18]; try rfl) fb41 (fun hb H => (.cons (td (by try simp only [go_sem, Nat.reduceBEq, h18, hb, Bool.true_and]; try rfl) (.agg _ (CFGGraph.dat (GGraph.mk (GConfig.mk 3 1 1) [(GHash.mk 1 0)] [(GEdge.mk 0 2 0)])))) (.cons (td (by try simp only [go_sem, Nat.reduceBEq, h18, hb, Bool.true_and]; try rfl) (.v _)) .nil))) (fun hb => searchHashes_c (gopt_t h21 hb)) ?_
  iterate 4 (first | refine pu rfl (by simp only [go_sem, Nat.reduceBEq, h18]; try with_reducible rfl) ?_ | refine pg rfl rfl (by simp only [go_sem, Nat.reduceBEq, h18]; try with_reducible rfl) (by intro hb; simp only [go_sem, Nat.reduceBEq, h18, hb, Bool.true_and]; try with_reducible rfl) ?_)
  refine pg rfl rfl (by simp only [go_sem, Nat.reduceBEq, h18]; try with_reducible rfl) (fun hb => (by simp only [go_sem, Nat.reduceBEq, h18, hb, Bool.true_and]; exact (by kernel_rfl : abuild Try.prog 27 [] = some (.agg [.v (.int .i64 0), .v (.int .i64 0), .v (.int .i64 0), .v (.slice none 0 0), .v (.slice none 0 0)])))) ?_
  obtain ⟨r24, h23, hm⟩ := bnd hm
  refine ARun.callQG (r := .v (.bool r24)) Zd rfl (by simp only [go_sem, Nat.reduceBEq, h18]; try with_reducible rfl) (by try simp only [go_sem, Nat.reduceBEq, h18]; try rfl) fb45 (fun hb H => (.cons (tda (by try simp only [go_sem, Nat.reduceBEq, h18, hb, Bool.true_and]; try rfl) (.cons (.data _ (.v _)) (.cons (.data _ (.v _)) (.cons (.data _ (.v _)) (.cons (.nil false) (.cons (.nil false) .nil)))))) .nil)) (fun hb => searchRight_c (gopt_t h23 hb)) ?_
  iterate 3 (first | refine pu rfl (by simp only [go_sem, Nat.reduceBEq, h18]; try with_reducible rfl) ?_ | refine pg rfl rfl (by simp only [go_sem, Nat.reduceBEq, h18]; try with_reducible rfl) (by intro hb; simp only [go_sem, Nat.reduceBEq, h18, hb, Bool.true_and]; try with_reducible rfl) ?_)
  refine fs ?_
  refine AWp.ret ?_
  cases hm
  exact ret1D (.inr rfl) Try.results40 (td Z1 (.v _))
 ·
  refine ARun.skipG Zd rfl (by simp only [go_sem, Nat.reduceBEq, h18]; try with_reducible rfl) ?_
  refine ARun.skipG Zd rfl (by simp only [go_sem, Nat.reduceBEq, h18]; try with_reducible rfl) ?_
  iterate 2 refine pu rfl (by simp only [go_sem, Nat.reduceBEq, h18]; try with_reducible rfl) ?_
  refine ARun.skipG Zd rfl (by simp only [go_sem, Nat.reduceBEq, h18]; try with_reducible rfl) ?_
  refine ARun.skipG Zd rfl (by simp only [go_sem, Nat.reduceBEq, h18]; try with_reducible rfl) ?_
  refine ARun.skipG Zd rfl (by simp only [go_sem, Nat.reduceBEq, h18]; try with_reducible rfl) ?_
  refine ARun.skipG Zd rfl (by simp only [go_sem, Nat.reduceBEq, h18]; try with_reducible rfl) ?_
  iterate 2 refine pu rfl (by simp only [go_sem, Nat.reduceBEq, h18]; try with_reducible rfl) ?_
  refine ARun.skipG Zd rfl (by simp only [go_sem, Nat.reduceBEq, h18]; try with_reducible rfl) ?_
  refine ARun.skipG Zd rfl (by simp only [go_sem, Nat.reduceBEq, h18]; try with_reducible rfl) ?_
  refine ARun.skipG Zd rfl (by simp only [go_sem, Nat.reduceBEq, h18]; try with_reducible rfl) ?_
  iterate 2 refine pu rfl (by simp only [go_sem, Nat.reduceBEq, h18]; try with_reducible rfl) ?_
  refine fs ?_
  refine AWp.ret ?_
  cases hm
  exact ret1D (.inr rfl) Try.results40 (td Z1 (.v _))
def ref14Hashes_B1 (rec1 : Int → GGraph → List GHash → Int → Option ((List GHash))) (tier_1 : Int) (g_2 : GGraph) (out_5 : List GHash) (i_6 : Int) : Option ((List GHash)) :=
 (bif (decide (i_6 < g_2.Config.R)) then
  ((idx g_2.Hashes (IntKind.i64.wrap ((IntKind.i64.wrap (tier_1 * g_2.Config.R)) + i_6))).bind fun x2 =>
  ((app out_5 [x2]).bind fun l4 =>
  rec1 tier_1 g_2 l4 (IntKind.i64.wrap (i_6 + 1))))
 else
  some out_5)
def ref14Hashes_L1 : Nat → Int → GGraph → List GHash → Int → Option ((List GHash))
 | 0 => fun _ _ _ _ => none
 | n + 1 => ref14Hashes_B1 (ref14Hashes_L1 n)
def ref14Hashes_m (g_0 : GGraph) (tier_1 : Int) : Option ((List GHash)) :=
 ref14Hashes_L1 FUEL tier_1 g_0 [] 0
theorem ref14Hashes_c {g_0 : GGraph} {tier_1 : Int} {r : (List GHash)} (hm : ref14Hashes_m g_0 tier_1 = some r) : PureC Try.prog 92 [.agg [.v (.int .i64 g_0.Config.N), .v (.int .i64 g_0.Config.L), .v (.int .i64 g_0.Config.R), .sl (g_0.Hashes.flatMap cGHash) g_0.Hashes.length false, .sl (g_0.Edges.flatMap cGEdge) g_0.Edges.length false], .v (.int .i64 tier_1)] (.sl (r.flatMap cGHash) r.length false) := by
 refine PureC.of_body Try.func92 rfl ?_
 simp only [Try.ntmps92, List.length_cons, List.length_nil, Nat.reduceAdd, Nat.reduceSub, empty_eq]
 unfold ref14Hashes_m at hm
 refine sr (N' := 64) rfl ?_
 refine hp (id := 0) rfl rfl (aheap_box Z1 Z5) ?_
 refine pA ?_
 refine fs ?_
 refine sr (N' := 128) rfl ?_
 refine pA ?_
 refine fs ?_
 refine AWp.seq' ?_
 refine sr (N' := 192) rfl ?_
 refine pA ?_
 refine fs ?_
 refine AWp.block ?_
 refine AWp.loopM (fun m s => ∃ (tier_1 : Int) (g_2 : GGraph) (out_5 : List GHash) (i_6 : Int), s = (⟨29, (fset (fset (fset (fset (fun _ => AV.any) 1 (.v (.int .i64 tier_1))) 2 (.adr 1 0)) 5 (.own 2 0 out_5.length)) 6 (.v (.int .i64 i_6))), ⟨(upd (upd nofresh 1 (.cells 1 [.v (.int .i64 g_2.Config.N), .v (.int .i64 g_2.Config.L), .v (.int .i64 g_2.Config.R), .sl (g_2.Hashes.flatMap cGHash) g_2.Hashes.length false, .sl (g_2.Edges.flatMap cGEdge) g_2.Edges.length false] 0)) 2 (.cells 2 (out_5.flatMap cGHash) 0)), 64⟩⟩ : St) ∧ ref14Hashes_L1 m tier_1 g_2 out_5 i_6 = some r) FUEL ?_ ?_ ?_
 ·
  rintro s ⟨_, _, _, _, _, h⟩
  cases h
 ·
  refine ⟨_, ?_, tier_1, g_0, [], 0, rfl, hm⟩
  refine St.Le.trans (le_nil 5 900005 2 Z1 Z5) ?_
  exact le_canon (fun j => bif j == 1 then 0 else bif j == 2 then 900005 else 0) (wV (wO (wk_fset _ _ (wk_adr Z1 rfl Z7) (wV wk_none)))) (hW (eU CFGHash (entWk_upd (entWk_data Z3 (Nat.le_refl _) (Nat.zero_le _) (CFGGraph.dat g_0)) entWk_none)))
 ·
  rintro n1 s ⟨tier_1, g_2, out_5, i_6, rfl, hm⟩
  replace hm : ref14Hashes_B1 (ref14Hashes_L1 n1) tier_1 g_2 out_5 i_6 = some r := hm
  unfold ref14Hashes_B1 at hm
  refine AWp.seq' ?_
  refine sr (N' := 128) rfl ?_
  iterate 3 refine pA ?_
  refine pu rfl (ap_ldv Z1 Z3 Z4) ?_
  refine pA ?_
  refine fs ?_
  refine AWp.condM hm Z1 (fun _ hm => ?_) (fun _ hm => ?_)
  ·
   refine AWp.skip ?_
   refine normSeq ?_
   refine AWp.seq' ?_
   refine AWp.block ?_
   refine AWp.reg 64 (N' := 192) rfl ?_
   iterate 2 refine pA ?_
   refine pu rfl (ap_ldv Z1 Z3 Z4) ?_
   iterate 3 refine pA ?_
   refine pu rfl (ap_ldv Z1 Z3 Z4) ?_
   iterate 3 refine pA ?_
   obtain ⟨x2, h1, hm⟩ := bnd hm
   refine pu rfl (ap_idx CFGHash Zd Try.underlying24 sz53 Z1 rfl Z1 h1) ?_
   refine pA ?_
   refine hp (id := 140) rfl rfl (ah_list CFGHash (l := [x2]) Try.underlying24 sz53 zc53 Z5 Zd Zd Zd (by simp only [go_sem, Nat.reduceBEq]; try rfl) (by kernel_rfl)) ?_
   obtain ⟨l4, h3, hm⟩ := bnd hm
   refine hp (id := 141) rfl rfl (ah_app CFGHash Try.underlying24 Try.underlying24 rfl in53 ts53 (by rw [tb53]; decide) (by rw [tb53]; decide) tz53 Zd Zd Z1 Z3 Z6 (as_own CFGHash Z1 Z3 Z6) rfl Z5 h3) ?_
   refine pA ?_
   refine ARun.fin ?_
   refine normIn ?_
   refine normSeq ?_
   refine AWp.reg 64 (N' := 256) rfl ?_
   iterate 3 refine pA ?_
   refine ARun.fin ?_
   refine normThen ?_
   refine ⟨_, ?_, tier_1, g_2, l4, (IntKind.i64.wrap (i_6 + 1)), rfl, hm⟩
   exact le_canon (fun j => bif j == 1 then 1 else bif j == 2 then 141 else 0) (wV (wO (wk_fset _ _ (wk_adr Z1 rfl Z7) (wV wk_none)))) (hW (eU CFGHash (entWk_upd (entWk_data Z3 (Nat.le_refl _) (Nat.zero_le _) (CFGGraph.dat g_2)) entWk_none)))
  ·
   refine AWp.exit ?_
   refine exitSeq ?_
   refine exitThen ?_
   refine exitHere ?_
   refine normSeq ?_
   refine sr (N' := 192) rfl ?_
   iterate 2 refine pA ?_
   refine fs ?_
   refine AWp.ret ?_
   cases hm
   exact ret1D (.inr rfl) Try.results92 (tdo CFGHash Z1 Z3 Z6)
def law14Hashes_m (g_0 : GGraph) (tier_1 : Int) (low_2 : Bool) : Option ((List GHash)) :=
 (bif (!low_2) then
  some []
 else
  ((ref14Hashes_m g_0 tier_1).bind fun r2 =>
  some r2))
theorem law14Hashes_c {g_0 : GGraph} {tier_1 : Int} {low_2 : Bool} {r : (List GHash)} (hm : law14Hashes_m g_0 tier_1 low_2 = some r) : PureC Try.prog 47 [.agg [.v (.int .i64 g_0.Config.N), .v (.int .i64 g_0.Config.L), .v (.int .i64 g_0.Config.R), .sl (g_0.Hashes.flatMap cGHash) g_0.Hashes.length false, .sl (g_0.Edges.flatMap cGEdge) g_0.Edges.length false], .v (.int .i64 tier_1), .v (.bool low_2)] (.sl (r.flatMap cGHash) r.length false) := by
 refine PureC.of_body Try.func47 rfl ?_
 simp only [Try.ntmps47, List.length_cons, List.length_nil, Nat.reduceAdd, Nat.reduceSub, empty_eq]
 unfold law14Hashes_m at hm
 refine sr (N' := 64) rfl ?_
 refine hp (id := 0) rfl rfl (aheap_box Z1 Z5) ?_
 refine pA ?_
 refine fs ?_
 refine AWp.seq' ?_
 refine sr (N' := 128) rfl ?_
 iterate 2 refine pA ?_
 refine fs ?_
 refine AWp.condM hm Z1 (fun _ hm => ?_) (fun _ hm => ?_)
 ·
  refine sr (N' := 192) rfl ?_
  refine pA ?_
  refine fs ?_
  refine AWp.ret ?_
  refine retSeq ?_
  cases hm
  exact ret1D (.inr rfl) Try.results47 (tdn Z1)
 ·
  refine AWp.skip ?_
  refine normSeq ?_
  refine sr (N' := 192) rfl ?_
  refine pu rfl (ap_ldv Z1 Z3 Z2) ?_
  refine pA ?_
  obtain ⟨r2, h1, hm⟩ := bnd hm
  refine ARun.callQ (r := .sl (r2.flatMap cGHash) r2.length false) Zd Z1 fb92 (fun H => (cD (.agg _ (CFGGraph.dat _)) (cV .nil))) (ref14Hashes_c h1) ?_
  refine pA ?_
  refine fs ?_
  refine AWp.ret ?_
  cases hm
  exact ret1D (.inr rfl) Try.results47 (td Z1 (CFGHash.sl _ _ _))
def ref14Same_B1 (rec1 : List GHash → List GHash → Int → Option (Bool)) (a_0 : List GHash) (b_1 : List GHash) (i_5 : Int) : Option (Bool) :=
 (bif (decide (i_5 < (a_0.length : Int))) then
  ((idx a_0 i_5).bind fun x2 =>
  ((idx b_1 i_5).bind fun x4 =>
  (bif (!((x2.A == x4.A) && (x2.B == x4.B))) then
   some false
  else
   rec1 a_0 b_1 (IntKind.i64.wrap (i_5 + 1)))))
 else
  some true)
def ref14Same_L1 : Nat → List GHash → List GHash → Int → Option (Bool)
 | 0 => fun _ _ _ => none
 | n + 1 => ref14Same_B1 (ref14Same_L1 n)
def ref14Same_m (a_0 : List GHash) (b_1 : List GHash) : Option (Bool) :=
 (bif ((a_0.length : Int) != (b_1.length : Int)) then
  some false
 else
  ref14Same_L1 FUEL a_0 b_1 0)
theorem ref14Same_c {a_0 : List GHash} {b_1 : List GHash} {r : Bool} (hm : ref14Same_m a_0 b_1 = some r) : PureC Try.prog 46 [.sl (a_0.flatMap cGHash) a_0.length false, .sl (b_1.flatMap cGHash) b_1.length false] (.v (.bool r)) := by
 refine PureC.of_body Try.func46 rfl ?_
 simp only [Try.ntmps46, List.length_cons, List.length_nil, Nat.reduceAdd, Nat.reduceSub, empty_eq]
 unfold ref14Same_m at hm
 refine sr (N' := 64) rfl ?_
 refine pA ?_
 refine fs ?_
 refine AWp.seq' ?_
 refine sr (N' := 128) rfl ?_
 iterate 5 refine pA ?_
 refine fs ?_
 refine AWp.condM hm Z1 (fun _ hm => ?_) (fun _ hm => ?_)
 ·
  refine sr (N' := 192) rfl ?_
  refine pA ?_
  refine fs ?_
  refine AWp.ret ?_
  refine retSeq ?_
  cases hm
  exact ret1D (.inr rfl) Try.results46 (td Z1 (.v _))
 ·
  refine AWp.skip ?_
  refine normSeq ?_
  refine AWp.seq' ?_
  refine sr (N' := 192) rfl ?_
  refine pA ?_
  refine fs ?_
  refine AWp.block ?_
  refine AWp.loopM (fun m s => ∃ (a_0 : List GHash) (b_1 : List GHash) (i_5 : Int), s = (⟨26, (fset (fset (fset (fun _ => AV.any) 0 (.sl (a_0.flatMap cGHash) a_0.length false)) 1 (.sl (b_1.flatMap cGHash) b_1.length false)) 5 (.v (.int .i64 i_5))), ⟨nofresh, 64⟩⟩ : St) ∧ ref14Same_L1 m a_0 b_1 i_5 = some r) FUEL ?_ ?_ ?_
  ·
   rintro s ⟨_, _, _, _, h⟩
   cases h
  ·
   refine ⟨_, ?_, a_0, b_1, 0, rfl, hm⟩
   exact le_canon id (wV (wD (CFGHash.sl _ _ _) (wD (CFGHash.sl _ _ _) wk_none))) heapWk0
  ·
   rintro n1 s ⟨a_0, b_1, i_5, rfl, hm⟩
   replace hm : ref14Same_B1 (ref14Same_L1 n1) a_0 b_1 i_5 = some r := hm
   unfold ref14Same_B1 at hm
   refine AWp.seq' ?_
   refine sr (N' := 128) rfl ?_
   iterate 4 refine pA ?_
   refine fs ?_
   refine AWp.condM hm Z1 (fun _ hm => ?_) (fun _ hm => ?_)
   ·
    refine AWp.skip ?_
    refine normSeq ?_
    refine AWp.seq' ?_
    refine AWp.block ?_
    refine sd mix (by kernel_rfl) (N' := 192) rfl ?_
    iterate 2 refine pA ?_
    obtain ⟨x2, h1, hm⟩ := bnd hm
    refine pu rfl (ap_idx CFGHash Zd Try.underlying24 sz53 Z1 rfl Z1 h1) ?_
    iterate 3 refine pA ?_
    obtain ⟨x4, h3, hm⟩ := bnd hm
    refine pu rfl (ap_idx CFGHash Zd Try.underlying24 sz53 Z1 rfl Z1 h3) ?_
    iterate 2 refine pA ?_
    refine fs ?_
    refine AWp.condM hm Z1 (fun _ hm => ?_) (fun _ hm => ?_)
    ·
     refine sr (N' := 256) rfl ?_
     refine pA ?_
     refine fs ?_
     refine AWp.ret ?_
     refine retIn ?_
     refine retSeq ?_
     refine retThen ?_
     refine retIn ?_
     refine retSeq ?_
     cases hm
     exact ret1D (.inr rfl) Try.results46 (td Z1 (.v _))
    ·
     refine AWp.skip ?_
     refine normIn ?_
     refine normSeq ?_
     refine AWp.reg 64 (N' := 256) rfl ?_
     iterate 3 refine pA ?_
     refine ARun.fin ?_
     refine normThen ?_
     refine ⟨_, ?_, a_0, b_1, (IntKind.i64.wrap (i_5 + 1)), rfl, hm⟩
     exact le_canon id (wV (wD (CFGHash.sl _ _ _) (wD (CFGHash.sl _ _ _) wk_none))) heapWk0
   ·
    refine AWp.exit ?_
    refine exitSeq ?_
    refine exitThen ?_
    refine exitHere ?_
    refine normSeq ?_
    refine sr (N' := 192) rfl ?_
    refine pA ?_
    refine fs ?_
    refine AWp.ret ?_
    cases hm
    exact ret1D (.inr rfl) Try.results46 (td Z1 (.v _))
def ref09Class_J1 (rec1 : List Int → Int → List Int → Int → Option ((List Int))) (p_0 : List Int) (v_1 : Int) (out_5 : List Int) (i_6 : Int) : Option ((List Int)) :=
 rec1 p_0 v_1 out_5 (IntKind.i64.wrap (i_6 + 1))
def ref09Class_B1 (rec1 : List Int → Int → List Int → Int → Option ((List Int))) (p_0 : List Int) (v_1 : Int) (out_5 : List Int) (i_6 : Int) : Option ((List Int)) :=
 (bif (decide (i_6 < (p_0.length : Int))) then
  ((idx p_0 i_6).bind fun x2 =>
  ((idx p_0 v_1).bind fun x4 =>
  (bif (x2 == x4) then
   ((app out_5 [i_6]).bind fun l6 =>
   ref09Class_J1 rec1 p_0 v_1 l6 i_6)
  else
   ref09Class_J1 rec1 p_0 v_1 out_5 i_6)))
 else
  some out_5)
def ref09Class_L1 : Nat → List Int → Int → List Int → Int → Option ((List Int))
 | 0 => fun _ _ _ _ => none
 | n + 1 => ref09Class_B1 (ref09Class_L1 n)
def ref09Class_m (p_0 : List Int) (v_1 : Int) : Option ((List Int)) :=
 ref09Class_L1 FUEL p_0 v_1 [] 0
theorem ref09Class_c {p_0 : List Int} {v_1 : Int} {r : (List Int)} (hm : ref09Class_m p_0 v_1 = some r) : PureC Try.prog 93 [.sl (p_0.flatMap (ci .i64)) p_0.length false, .v (.int .i64 v_1)] (.sl (r.flatMap (ci .i64)) r.length false) := by
 refine PureC.of_body Try.func93 rfl ?_
 simp only [Try.ntmps93, List.length_cons, List.length_nil, Nat.reduceAdd, Nat.reduceSub, empty_eq]
 unfold ref09Class_m at hm
 refine sr (N' := 64) rfl ?_
 refine pA ?_
 refine fs ?_
 refine sr (N' := 128) rfl ?_
 refine pA ?_
 refine fs ?_
 refine AWp.seq' ?_
 refine sr (N' := 192) rfl ?_
 refine pA ?_
 refine fs ?_
 refine AWp.block ?_
 refine AWp.loopM (fun m s => ∃ (p_0 : List Int) (v_1 : Int) (out_5 : List Int) (i_6 : Int), s = (⟨27, (fset (fset (fset (fset (fun _ => AV.any) 0 (.sl (p_0.flatMap (ci .i64)) p_0.length false)) 1 (.v (.int .i64 v_1))) 5 (.own 1 0 out_5.length)) 6 (.v (.int .i64 i_6))), ⟨(upd nofresh 1 (.cells 1 (out_5.flatMap (ci .i64)) 0)), 64⟩⟩ : St) ∧ ref09Class_L1 m p_0 v_1 out_5 i_6 = some r) FUEL ?_ ?_ ?_
 ·
  rintro s ⟨_, _, _, _, _, h⟩
  cases h
 ·
  refine ⟨_, ?_, p_0, v_1, [], 0, rfl, hm⟩
  refine St.Le.trans (le_nil 5 900005 1 Z1 Z5) ?_
  exact le_canon (fun j => bif j == 1 then 900005 else 0) (wV (wO (wV (wD ((CFi .i64).sl _ _ _) wk_none)))) (hW (eU (CFi .i64) entWk_none))
 ·
  rintro n1 s ⟨p_0, v_1, out_5, i_6, rfl, hm⟩
  replace hm : ref09Class_B1 (ref09Class_L1 n1) p_0 v_1 out_5 i_6 = some r := hm
  unfold ref09Class_B1 at hm
  refine AWp.seq' ?_
  refine sr (N' := 128) rfl ?_
  iterate 4 refine pA ?_
  refine fs ?_
  refine AWp.condM hm Z1 (fun _ hm => ?_) (fun _ hm => ?_)
  ·
   refine AWp.skip ?_
   refine normSeq ?_
   refine AWp.seqJ (fun s => ∃ (p_0 : List Int) (v_1 : Int) (out_5 : List Int) (i_6 : Int), s = (⟨27, (fset (fset (fset (fset (fun _ => AV.any) 0 (.sl (p_0.flatMap (ci .i64)) p_0.length false)) 1 (.v (.int .i64 v_1))) 5 (.own 1 0 out_5.length)) 6 (.v (.int .i64 i_6))), ⟨(upd nofresh 1 (.cells 1 (out_5.flatMap (ci .i64)) 0)), 64⟩⟩ : St) ∧ ref09Class_J1 (ref09Class_L1 n1) p_0 v_1 out_5 i_6 = some r) ?_ ?_
   ·
    refine AWp.block ?_
    refine sd mix (by kernel_rfl) (N' := 192) rfl ?_
    iterate 2 refine pA ?_
    obtain ⟨x2, h1, hm⟩ := bnd hm
    refine pu rfl (ap_idx (CFi .i64) Zd Try.underlying30 sz3 Z1 rfl Z1 h1) ?_
    iterate 3 refine pA ?_
    obtain ⟨x4, h3, hm⟩ := bnd hm
    refine pu rfl (ap_idx (CFi .i64) Zd Try.underlying30 sz3 Z1 rfl Z1 h3) ?_
    iterate 2 refine pA ?_
    refine fs ?_
    refine AWp.condM hm Z1 (fun _ hm => ?_) (fun _ hm => ?_)
    ·
     refine AWp.reg 64 (N' := 256) rfl ?_
     iterate 2 refine pA ?_
     refine hp (id := 194) rfl rfl (ah_list (CFi .i64) (l := [i_6]) Try.underlying30 sz3 zc3 Z5 Zd Zd Zd (by simp only [go_sem, Nat.reduceBEq]; try rfl) (by kernel_rfl)) ?_
     obtain ⟨l6, h5, hm⟩ := bnd hm
     refine hp (id := 195) rfl rfl (ah_app (CFi .i64) Try.underlying30 Try.underlying30 rfl in3 ts3 (by rw [tb3]; decide) (by rw [tb3]; decide) tz3 Zd Zd Z1 Z3 Z6 (as_own (CFi .i64) Z1 Z3 Z6) rfl Z5 h5) ?_
     refine pA ?_
     refine ARun.fin ?_
     refine normIn ?_
     refine normJ ?_
     refine ⟨_, ?_, p_0, v_1, l6, i_6, rfl, hm⟩
     exact le_canon (fun j => bif j == 1 then 195 else 0) (wV (wO (wV (wD ((CFi .i64).sl _ _ _) wk_none)))) (hW (eU (CFi .i64) entWk_none))
    ·
     refine AWp.skip ?_
     refine normIn ?_
     refine normJ ?_
     refine ⟨_, ?_, p_0, v_1, out_5, i_6, rfl, hm⟩
     exact le_canon (fun j => bif j == 1 then 1 else 0) (wV (wO (wV (wD ((CFi .i64).sl _ _ _) wk_none)))) (hW (eU (CFi .i64) entWk_none))
   ·
    rintro s ⟨p_0, v_1, out_5, i_6, rfl, hm⟩
    unfold ref09Class_J1 at hm
    refine AWp.reg 64 (N' := 128) rfl ?_
    iterate 3 refine pA ?_
    refine ARun.fin ?_
    refine normThen ?_
    refine ⟨_, ?_, p_0, v_1, out_5, (IntKind.i64.wrap (i_6 + 1)), rfl, hm⟩
    exact le_canon (fun j => bif j == 1 then 1 else 0) (wV (wO (wV (wD ((CFi .i64).sl _ _ _) wk_none)))) (hW (eU (CFi .i64) entWk_none))
  ·
   refine AWp.exit ?_
   refine exitSeq ?_
   refine exitThen ?_
   refine exitHere ?_
   refine normSeq ?_
   refine sr (N' := 192) rfl ?_
   iterate 2 refine pA ?_
   refine fs ?_
   refine AWp.ret ?_
   cases hm
   exact ret1D (.inr rfl) Try.results93 (tdo (CFi .i64) Z1 Z3 Z6)
def ref14Tree_m (g_0 : GGraph) (tier_1 : Int) (v_2 : Int) : Option ((List Int)) :=
 ((ref12Forest_m g_0.Edges tier_1).bind fun r2 =>
 ((ref09Of_m g_0.Config.N r2).bind fun r4 =>
 ((ref09Class_m r4 v_2).bind fun r6 =>
 some r6)))
theorem ref14Tree_c {g_0 : GGraph} {tier_1 : Int} {v_2 : Int} {r : (List Int)} (hm : ref14Tree_m g_0 tier_1 v_2 = some r) : PureC Try.prog 48 [.agg [.v (.int .i64 g_0.Config.N), .v (.int .i64 g_0.Config.L), .v (.int .i64 g_0.Config.R), .sl (g_0.Hashes.flatMap cGHash) g_0.Hashes.length false, .sl (g_0.Edges.flatMap cGEdge) g_0.Edges.length false], .v (.int .i64 tier_1), .v (.int .i64 v_2)] (.sl (r.flatMap (ci .i64)) r.length false) := by
 refine PureC.of_body Try.func48 rfl ?_
 simp only [Try.ntmps48, List.length_cons, List.length_nil, Nat.reduceAdd, Nat.reduceSub, empty_eq]
 unfold ref14Tree_m at hm
 refine sr (N' := 64) rfl ?_
 refine hp (id := 0) rfl rfl (aheap_box Z1 Z5) ?_
 refine pA ?_
 refine fs ?_
 refine sd mix (by kernel_rfl) (N' := 128) rfl ?_
 iterate 2 refine pA ?_
 refine pu rfl (ap_ldv Z1 Z3 Z4) ?_
 refine pA ?_
 refine pu rfl (ap_ldv Z1 Z3 Z4) ?_
 refine pA ?_
 obtain ⟨r2, h1, hm⟩ := bnd hm
 refine ARun.callQ (r := .sl (r2.flatMap cGEdge) r2.length false) Zd Z1 fb70 (fun H => (cD (CFGEdge.sl _ _ _) (cV .nil))) (ref12Forest_c h1) ?_
 obtain ⟨r4, h3, hm⟩ := bnd hm
 refine ARun.callQ (r := .sl (r4.flatMap (ci .i64)) r4.length false) Zd Z1 fb71 (fun H => (cV (cD (CFGEdge.sl _ _ _) .nil))) (ref09Of_c h3) ?_
 refine pA ?_
 obtain ⟨r6, h5, hm⟩ := bnd hm
 refine ARun.callQ (r := .sl (r6.flatMap (ci .i64)) r6.length false) Zd Z1 fb93 (fun H => (cD ((CFi .i64).sl _ _ _) (cV .nil))) (ref09Class_c h5) ?_
 refine pA ?_
 refine fs ?_
 refine AWp.ret ?_
 cases hm
 exact ret1D (.inr rfl) Try.results48 (td Z1 ((CFi .i64).sl _ _ _))
def ref08First_B1 (rec1 : List Int → Int → Int → Option (Int)) (l_0 : List Int) (v_1 : Int) (i_5 : Int) : Option (Int) :=
 (bif (decide (i_5 < (l_0.length : Int))) then
  ((idx l_0 i_5).bind fun x2 =>
  (bif (x2 == v_1) then
   some i_5
  else
   rec1 l_0 v_1 (IntKind.i64.wrap (i_5 + 1))))
 else
  some (-1))
def ref08First_L1 : Nat → List Int → Int → Int → Option (Int)
 | 0 => fun _ _ _ => none
 | n + 1 => ref08First_B1 (ref08First_L1 n)
def ref08First_m (l_0 : List Int) (v_1 : Int) : Option (Int) :=
 ref08First_L1 FUEL l_0 v_1 0
theorem ref08First_c {l_0 : List Int} {v_1 : Int} {r : Int} (hm : ref08First_m l_0 v_1 = some r) : PureC Try.prog 96 [.sl (l_0.flatMap (ci .i64)) l_0.length false, .v (.int .i64 v_1)] (.v (.int .i64 r)) := by
 refine PureC.of_body Try.func96 rfl ?_
 simp only [Try.ntmps96, List.length_cons, List.length_nil, Nat.reduceAdd, Nat.reduceSub, empty_eq]
 unfold ref08First_m at hm
 refine sr (N' := 64) rfl ?_
 refine pA ?_
 refine fs ?_
 refine AWp.seq' ?_
 refine sr (N' := 128) rfl ?_
 refine pA ?_
 refine fs ?_
 refine AWp.block ?_
 refine AWp.loopM (fun m s => ∃ (l_0 : List Int) (v_1 : Int) (i_5 : Int), s = (⟨19, (fset (fset (fset (fun _ => AV.any) 0 (.sl (l_0.flatMap (ci .i64)) l_0.length false)) 1 (.v (.int .i64 v_1))) 5 (.v (.int .i64 i_5))), ⟨nofresh, 64⟩⟩ : St) ∧ ref08First_L1 m l_0 v_1 i_5 = some r) FUEL ?_ ?_ ?_
 ·
  rintro s ⟨_, _, _, _, h⟩
  cases h
 ·
  refine ⟨_, ?_, l_0, v_1, 0, rfl, hm⟩
  exact le_canon id (wV (wV (wD ((CFi .i64).sl _ _ _) wk_none))) heapWk0
 ·
  rintro n1 s ⟨l_0, v_1, i_5, rfl, hm⟩
  replace hm : ref08First_B1 (ref08First_L1 n1) l_0 v_1 i_5 = some r := hm
  unfold ref08First_B1 at hm
  refine AWp.seq' ?_
  refine sr (N' := 128) rfl ?_
  iterate 4 refine pA ?_
  refine fs ?_
  refine AWp.condM hm Z1 (fun _ hm => ?_) (fun _ hm => ?_)
  ·
   refine AWp.skip ?_
   refine normSeq ?_
   refine AWp.seq' ?_
   refine AWp.block ?_
   refine sr (N' := 192) rfl ?_
   iterate 2 refine pA ?_
   obtain ⟨x2, h1, hm⟩ := bnd hm
   refine pu rfl (ap_idx (CFi .i64) Zd Try.underlying30 sz3 Z1 rfl Z1 h1) ?_
   iterate 3 refine pA ?_
   refine fs ?_
   refine AWp.condM hm Z1 (fun _ hm => ?_) (fun _ hm => ?_)
   ·
    refine sr (N' := 256) rfl ?_
    iterate 2 refine pA ?_
    refine fs ?_
    refine AWp.ret ?_
    refine retIn ?_
    refine retSeq ?_
    refine retThen ?_
    refine retIn ?_
    refine retSeq ?_
    cases hm
    exact ret1D (.inr rfl) Try.results96 (td Z1 (.v _))
   ·
    refine AWp.skip ?_
    refine normIn ?_
    refine normSeq ?_
    refine AWp.reg 64 (N' := 256) rfl ?_
    iterate 3 refine pA ?_
    refine ARun.fin ?_
    refine normThen ?_
    refine ⟨_, ?_, l_0, v_1, (IntKind.i64.wrap (i_5 + 1)), rfl, hm⟩
    exact le_canon id (wV (wV (wD ((CFi .i64).sl _ _ _) wk_none))) heapWk0
  ·
   refine AWp.exit ?_
   refine exitSeq ?_
   refine exitThen ?_
   refine exitHere ?_
   refine normSeq ?_
   refine sr (N' := 192) rfl ?_
   refine pA ?_
   refine fs ?_
   refine AWp.ret ?_
   cases hm
   exact ret1D (.inr rfl) Try.results96 (td Z1 (.v _))
def ref13Cut_J1 (rec1 : List GEdge → List Int → List GEdge → Int → Option ((List GEdge))) (l_0 : List GEdge) (set_1 : List Int) (out_5 : List GEdge) (i_6 : Int) : Option ((List GEdge)) :=
 rec1 l_0 set_1 out_5 (IntKind.i64.wrap (i_6 + 1))
def ref13Cut_B1 (rec1 : List GEdge → List Int → List GEdge → Int → Option ((List GEdge))) (l_0 : List GEdge) (set_1 : List Int) (out_5 : List GEdge) (i_6 : Int) : Option ((List GEdge)) :=
 (bif (decide (i_6 < (l_0.length : Int))) then
  ((idx l_0 i_6).bind fun x2 =>
  ((ref08First_m set_1 x2.U).bind fun r4 =>
  ((idx l_0 i_6).bind fun x6 =>
  ((ref08First_m set_1 x6.V).bind fun r8 =>
  (bif (((decide (0 ≤ r4)) && (!(decide (0 ≤ r8)))) || ((decide (0 ≤ r8)) && (!(decide (0 ≤ r4))))) then
   ((idx l_0 i_6).bind fun x10 =>
   ((app out_5 [x10]).bind fun l12 =>
   ref13Cut_J1 rec1 l_0 set_1 l12 i_6))
  else
   ref13Cut_J1 rec1 l_0 set_1 out_5 i_6)))))
 else
  some out_5)
def ref13Cut_L1 : Nat → List GEdge → List Int → List GEdge → Int → Option ((List GEdge))
 | 0 => fun _ _ _ _ => none
 | n + 1 => ref13Cut_B1 (ref13Cut_L1 n)
def ref13Cut_m (l_0 : List GEdge) (set_1 : List Int) : Option ((List GEdge)) :=
 ref13Cut_L1 FUEL l_0 set_1 [] 0
theorem ref13Cut_c {l_0 : List GEdge} {set_1 : List Int} {r : (List GEdge)} (hm : ref13Cut_m l_0 set_1 = some r) : PureC Try.prog 52 [.sl (l_0.flatMap cGEdge) l_0.length false, .sl (set_1.flatMap (ci .i64)) set_1.length false] (.sl (r.flatMap cGEdge) r.length false) := by
 refine PureC.of_body Try.func52 rfl ?_
 simp only [Try.ntmps52, List.length_cons, List.length_nil, Nat.reduceAdd, Nat.reduceSub, empty_eq]
 unfold ref13Cut_m at hm
 refine sr (N' := 64) rfl ?_
 refine pA ?_
 refine fs ?_
 refine sr (N' := 128) rfl ?_
 refine pA ?_
 refine fs ?_
 refine AWp.seq' ?_
 refine sr (N' := 192) rfl ?_
 refine pA ?_
 refine fs ?_
 refine AWp.block ?_
 refine AWp.loopM (fun m s => ∃ (l_0 : List GEdge) (set_1 : List Int) (out_5 : List GEdge) (i_6 : Int), s = (⟨51, (fset (fset (fset (fset (fun _ => AV.any) 0 (.sl (l_0.flatMap cGEdge) l_0.length false)) 1 (.sl (set_1.flatMap (ci .i64)) set_1.length false)) 5 (.own 1 0 out_5.length)) 6 (.v (.int .i64 i_6))), ⟨(upd nofresh 1 (.cells 3 (out_5.flatMap cGEdge) 0)), 64⟩⟩ : St) ∧ ref13Cut_L1 m l_0 set_1 out_5 i_6 = some r) FUEL ?_ ?_ ?_
 ·
  rintro s ⟨_, _, _, _, _, h⟩
  cases h
 ·
  refine ⟨_, ?_, l_0, set_1, [], 0, rfl, hm⟩
  refine St.Le.trans (le_nil 5 900005 3 Z1 Z5) ?_
  exact le_canon (fun j => bif j == 1 then 900005 else 0) (wV (wO (wD ((CFi .i64).sl _ _ _) (wD (CFGEdge.sl _ _ _) wk_none)))) (hW (eU CFGEdge entWk_none))
 ·
  rintro n1 s ⟨l_0, set_1, out_5, i_6, rfl, hm⟩
  replace hm : ref13Cut_B1 (ref13Cut_L1 n1) l_0 set_1 out_5 i_6 = some r := hm
  unfold ref13Cut_B1 at hm
  refine AWp.seq' ?_
  refine sr (N' := 128) rfl ?_
  iterate 4 refine pA ?_
  refine fs ?_
  refine AWp.condM hm Z1 (fun _ hm => ?_) (fun _ hm => ?_)
  ·
   refine AWp.skip ?_
   refine normSeq ?_
   refine AWp.seqJ (fun s => ∃ (l_0 : List GEdge) (set_1 : List Int) (out_5 : List GEdge) (i_6 : Int), s = (⟨51, (fset (fset (fset (fset (fun _ => AV.any) 0 (.sl (l_0.flatMap cGEdge) l_0.length false)) 1 (.sl (set_1.flatMap (ci .i64)) set_1.length false)) 5 (.own 1 0 out_5.length)) 6 (.v (.int .i64 i_6))), ⟨(upd nofresh 1 (.cells 3 (out_5.flatMap cGEdge) 0)), 64⟩⟩ : St) ∧ ref13Cut_J1 (ref13Cut_L1 n1) l_0 set_1 out_5 i_6 = some r) ?_ ?_
   ·
    refine AWp.block ?_
    refine sd mix (by kernel_rfl) (N' := 192) rfl ?_
    iterate 3 refine pA ?_
    obtain ⟨x2, h1, hm⟩ := bnd hm
    refine pu rfl (ap_idx CFGEdge Zd Try.underlying25 sz38 Z1 rfl Z1 h1) ?_
    iterate 2 refine pA ?_
    obtain ⟨r4, h3, hm⟩ := bnd hm
    refine ARun.callQ (r := .v (.int .i64 r4)) Zd Z1 fb96 (fun H => (cD ((CFi .i64).sl _ _ _) (cV .nil))) (ref08First_c h3) ?_
    iterate 4 refine pA ?_
    obtain ⟨x6, h5, hm⟩ := bnd hm
    refine pu rfl (ap_idx CFGEdge Zd Try.underlying25 sz38 Z1 rfl Z1 h5) ?_
    iterate 2 refine pA ?_
    obtain ⟨r8, h7, hm⟩ := bnd hm
    refine ARun.callQ (r := .v (.int .i64 r8)) Zd Z1 fb96 (fun H => (cD ((CFi .i64).sl _ _ _) (cV .nil))) (ref08First_c h7) ?_
    iterate 3 refine pA ?_
    refine fs ?_
    refine sr (N' := 256) rfl ?_
    iterate 12 first | refine pA ?_ | refine pB ?_
    refine fs ?_
    refine AWp.condM hm Z1 (fun _ hm => ?_) (fun _ hm => ?_)
    ·
     refine AWp.reg 64 (N' := 320) rfl ?_
     iterate 3 refine pA ?_
     obtain ⟨x10, h9, hm⟩ := bnd hm
     refine pu rfl (ap_idx CFGEdge Zd Try.underlying25 sz38 Z1 rfl Z1 h9) ?_
     refine pA ?_
     refine hp (id := 261) rfl rfl (ah_list CFGEdge (l := [x10]) Try.underlying25 sz38 zc38 Z5 Zd Zd Zd (by simp only [go_sem, Nat.reduceBEq]; try rfl) (by kernel_rfl)) ?_
     obtain ⟨l12, h11, hm⟩ := bnd hm
     refine hp (id := 262) rfl rfl (ah_app CFGEdge Try.underlying25 Try.underlying25 rfl in38 ts38 (by rw [tb38]; decide) (by rw [tb38]; decide) tz38 Zd Zd Z1 Z3 Z6 (as_own CFGEdge Z1 Z3 Z6) rfl Z5 h11) ?_
     refine pA ?_
     refine ARun.fin ?_
     refine normIn ?_
     refine normJ ?_
     refine ⟨_, ?_, l_0, set_1, l12, i_6, rfl, hm⟩
     exact le_canon (fun j => bif j == 1 then 262 else 0) (wV (wO (wD ((CFi .i64).sl _ _ _) (wD (CFGEdge.sl _ _ _) wk_none)))) (hW (eU CFGEdge entWk_none))
    ·
     refine AWp.skip ?_
     refine normIn ?_
     refine normJ ?_
     refine ⟨_, ?_, l_0, set_1, out_5, i_6, rfl, hm⟩
     exact le_canon (fun j => bif j == 1 then 1 else 0) (wV (wO (wD ((CFi .i64).sl _ _ _) (wD (CFGEdge.sl _ _ _) wk_none)))) (hW (eU CFGEdge entWk_none))
   ·
    rintro s ⟨l_0, set_1, out_5, i_6, rfl, hm⟩
    unfold ref13Cut_J1 at hm
    refine AWp.reg 64 (N' := 128) rfl ?_
    iterate 3 refine pA ?_
    refine ARun.fin ?_
    refine normThen ?_
    refine ⟨_, ?_, l_0, set_1, out_5, (IntKind.i64.wrap (i_6 + 1)), rfl, hm⟩
    exact le_canon (fun j => bif j == 1 then 1 else 0) (wV (wO (wD ((CFi .i64).sl _ _ _) (wD (CFGEdge.sl _ _ _) wk_none)))) (hW (eU CFGEdge entWk_none))
  ·
   refine AWp.exit ?_
   refine exitSeq ?_
   refine exitThen ?_
   refine exitHere ?_
   refine normSeq ?_
   refine sr (N' := 192) rfl ?_
   iterate 2 refine pA ?_
   refine fs ?_
   refine AWp.ret ?_
   cases hm
   exact ret1D (.inr rfl) Try.results52 (tdo CFGEdge Z1 Z3 Z6)
def ref03Of_J1 (u_0 : Int) (v_1 : Int) : Option (Int × Int) :=
 some ((bor .u64 (shl .u64 (IntKind.u64.wrap u_0) 24) (IntKind.u64.wrap v_1)), 0)
def ref03Of_m (u_0 : Int) (v_1 : Int) : Option (Int × Int) :=
 (bif ((((decide (u_0 < 0)) || (decide (v_1 < 0))) || (decide (16777215 < u_0))) || (decide (16777215 < v_1))) then
  some (0, 1)
 else
  (bif (u_0 == v_1) then
   some (0, 8)
  else
   (bif (decide (v_1 < u_0)) then
    ref03Of_J1 v_1 u_0
   else
    ref03Of_J1 u_0 v_1)))
theorem ref03Of_c {u_0 : Int} {v_1 : Int} {r : Int × Int} (hm : ref03Of_m u_0 v_1 = some r) : PureC Try.prog 97 [.v (.int .i64 u_0), .v (.int .i64 v_1)] (.tup [.v (.int .u64 r.1), .v (.int .i64 r.2)]) := by
 refine PureC.of_body Try.func97 rfl ?_
 simp only [Try.ntmps97, List.length_cons, List.length_nil, Nat.reduceAdd, Nat.reduceSub, empty_eq]
 unfold ref03Of_m at hm
 refine sr (N' := 64) rfl ?_
 iterate 2 refine pA ?_
 refine fs ?_
 refine AWp.seq' ?_
 refine sr (N' := 128) rfl ?_
 iterate 14 first | refine pA ?_ | refine pB ?_
 refine fs ?_
 refine AWp.condM hm Z1 (fun _ hm => ?_) (fun _ hm => ?_)
 ·
  refine sr (N' := 192) rfl ?_
  iterate 2 refine pA ?_
  refine fs ?_
  refine AWp.ret ?_
  refine retSeq ?_
  cases hm
  exact ret2D (.inr rfl) Try.results97 (td Z1 (.v _)) (td Z1 (.v _))
 ·
  refine AWp.skip ?_
  refine normSeq ?_
  refine AWp.seq' ?_
  refine sr (N' := 192) rfl ?_
  iterate 3 refine pA ?_
  refine fs ?_
  refine AWp.condM hm Z1 (fun _ hm => ?_) (fun _ hm => ?_)
  ·
   refine sr (N' := 256) rfl ?_
   iterate 2 refine pA ?_
   refine fs ?_
   refine AWp.ret ?_
   refine retSeq ?_
   cases hm
   exact ret2D (.inr rfl) Try.results97 (td Z1 (.v _)) (td Z1 (.v _))
  ·
   refine AWp.skip ?_
   refine normSeq ?_
   refine AWp.seqJ (fun s => ∃ (u_0 : Int) (v_1 : Int), s = (⟨34, (fset (fset (fun _ => AV.any) 0 (.v (.int .i64 u_0))) 1 (.v (.int .i64 v_1))), ⟨nofresh, 64⟩⟩ : St) ∧ ref03Of_J1 u_0 v_1 = some r) ?_ ?_
   ·
    refine sr (N' := 256) rfl ?_
    iterate 3 refine pA ?_
    refine fs ?_
    refine AWp.condM hm Z1 (fun _ hm => ?_) (fun _ hm => ?_)
    ·
     refine AWp.reg 64 (N' := 320) rfl ?_
     iterate 4 refine pA ?_
     refine ARun.fin ?_
     refine normJ ?_
     refine ⟨_, ?_, v_1, u_0, rfl, hm⟩
     exact le_canon id (wV (wV wk_none)) heapWk0
    ·
     refine AWp.skip ?_
     refine normJ ?_
     refine ⟨_, ?_, u_0, v_1, rfl, hm⟩
     exact le_canon id (wV (wV wk_none)) heapWk0
   ·
    rintro s ⟨u_0, v_1, rfl, hm⟩
    unfold ref03Of_J1 at hm
    refine sr (N' := 128) rfl ?_
    iterate 8 refine pu rfl (by simp only [go_sem, Nat.reduceBEq, Int.reduceEq, Int.reduceLE]; try with_reducible rfl) ?_
    refine fs ?_
    refine AWp.ret ?_
    cases hm
    exact ret2D (.inr rfl) Try.results97 (td Z1 (.v _)) (td Z1 (.v _))
def ref13Names_B1 (rec1 : List GEdge → List Int → Int → Option ((List Int))) (l_0 : List GEdge) (out_3 : List Int) (i_4 : Int) : Option ((List Int)) :=
 (bif (decide (i_4 < (l_0.length : Int))) then
  ((idx l_0 i_4).bind fun x2 =>
  ((idx l_0 i_4).bind fun x4 =>
  ((ref03Of_m x2.U x4.V).bind fun ⟨r6, r7⟩ =>
  ((app out_3 [r6]).bind fun l9 =>
  rec1 l_0 l9 (IntKind.i64.wrap (i_4 + 1))))))
 else
  some out_3)
def ref13Names_L1 : Nat → List GEdge → List Int → Int → Option ((List Int))
 | 0 => fun _ _ _ => none
 | n + 1 => ref13Names_B1 (ref13Names_L1 n)
def ref13Names_m (l_0 : List GEdge) : Option ((List Int)) :=
 ref13Names_L1 FUEL l_0 [] 0
theorem ref13Names_c {l_0 : List GEdge} {r : (List Int)} (hm : ref13Names_m l_0 = some r) : PureC Try.prog 55 [.sl (l_0.flatMap cGEdge) l_0.length false] (.sl (r.flatMap (ci .u64)) r.length false) := by
 refine PureC.of_body Try.func55 rfl ?_
 simp only [Try.ntmps55, List.length_cons, List.length_nil, Nat.reduceAdd, Nat.reduceSub, empty_eq]
 unfold ref13Names_m at hm
 refine sr (N' := 64) rfl ?_
 refine pA ?_
 refine fs ?_
 refine sr (N' := 128) rfl ?_
 refine pA ?_
 refine fs ?_
 refine AWp.seq' ?_
 refine sr (N' := 192) rfl ?_
 refine pA ?_
 refine fs ?_
 refine AWp.block ?_
 refine AWp.loopM (fun m s => ∃ (l_0 : List GEdge) (out_3 : List Int) (i_4 : Int), s = (⟨32, (fset (fset (fset (fun _ => AV.any) 0 (.sl (l_0.flatMap cGEdge) l_0.length false)) 3 (.own 1 0 out_3.length)) 4 (.v (.int .i64 i_4))), ⟨(upd nofresh 1 (.cells 1 (out_3.flatMap (ci .u64)) 0)), 64⟩⟩ : St) ∧ ref13Names_L1 m l_0 out_3 i_4 = some r) FUEL ?_ ?_ ?_
 ·
  rintro s ⟨_, _, _, _, h⟩
  cases h
 ·
  refine ⟨_, ?_, l_0, [], 0, rfl, hm⟩
  refine St.Le.trans (le_nil 3 900003 1 Z1 Z5) ?_
  exact le_canon (fun j => bif j == 1 then 900003 else 0) (wV (wO (wD (CFGEdge.sl _ _ _) wk_none))) (hW (eU (CFi .u64) entWk_none))
 ·
  rintro n1 s ⟨l_0, out_3, i_4, rfl, hm⟩
  replace hm : ref13Names_B1 (ref13Names_L1 n1) l_0 out_3 i_4 = some r := hm
  unfold ref13Names_B1 at hm
  refine AWp.seq' ?_
  refine sr (N' := 128) rfl ?_
  iterate 4 refine pA ?_
  refine fs ?_
  refine AWp.condM hm Z1 (fun _ hm => ?_) (fun _ hm => ?_)
  ·
   refine AWp.skip ?_
   refine normSeq ?_
   refine AWp.seq' ?_
   refine AWp.block ?_
   refine sd mix (by kernel_rfl) (N' := 192) rfl ?_
   iterate 2 refine pA ?_
   obtain ⟨x2, h1, hm⟩ := bnd hm
   refine pu rfl (ap_idx CFGEdge Zd Try.underlying25 sz38 Z1 rfl Z1 h1) ?_
   iterate 4 refine pA ?_
   obtain ⟨x4, h3, hm⟩ := bnd hm
   refine pu rfl (ap_idx CFGEdge Zd Try.underlying25 sz38 Z1 rfl Z1 h3) ?_
   iterate 2 refine pA ?_
   obtain ⟨⟨r6, r7⟩, h5, hm⟩ := bnd hm
   refine ARun.callQ (r := .tup [.v (.int .u64 r6), .v (.int .i64 r7)]) Zd Z1 fb97 (fun H => (cV (cV .nil))) (ref03Of_c h5) ?_
   iterate 5 refine pA ?_
   refine fs ?_
   refine AWp.reg 64 (N' := 256) rfl ?_
   iterate 2 refine pA ?_
   refine hp (id := 194) rfl rfl (ah_list (CFi .u64) (l := [r6]) Try.underlying41 sz51 zc51 Z5 Zd Zd Zd (by simp only [go_sem, Nat.reduceBEq]; try rfl) (by kernel_rfl)) ?_
   obtain ⟨l9, h8, hm⟩ := bnd hm
   refine hp (id := 195) rfl rfl (ah_app (CFi .u64) Try.underlying41 Try.underlying41 rfl in51 ts51 (by rw [tb51]; decide) (by rw [tb51]; decide) tz51 Zd Zd Z1 Z3 Z6 (as_own (CFi .u64) Z1 Z3 Z6) rfl Z5 h8) ?_
   refine pA ?_
   refine ARun.fin ?_
   refine normIn ?_
   refine normSeq ?_
   refine AWp.reg 64 (N' := 320) rfl ?_
   iterate 3 refine pA ?_
   refine ARun.fin ?_
   refine normThen ?_
   refine ⟨_, ?_, l_0, l9, (IntKind.i64.wrap (i_4 + 1)), rfl, hm⟩
   exact le_canon (fun j => bif j == 1 then 195 else 0) (wV (wO (wD (CFGEdge.sl _ _ _) wk_none))) (hW (eU (CFi .u64) entWk_none))
  ·
   refine AWp.exit ?_
   refine exitSeq ?_
   refine exitThen ?_
   refine exitHere ?_
   refine normSeq ?_
   refine sr (N' := 192) rfl ?_
   iterate 2 refine pA ?_
   refine fs ?_
   refine AWp.ret ?_
   cases hm
   exact ret1D (.inr rfl) Try.results55 (tdo (CFi .u64) Z1 Z3 Z6)
def ref04Levels_J1 (bits_3 : Int) : Option (Int) :=
 some (IntKind.i64.wrap ((IntKind.i64.wrap (2 * bits_3)) + 2))
def ref04Levels_B1 (rec1 : Int → Int → Int → Option (Int)) (n_0 : Int) (bits_3 : Int) (many_4 : Int) : Option (Int) :=
 (bif ((decide (many_4 < n_0)) && (decide (bits_3 < 62))) then
  rec1 n_0 (IntKind.i64.wrap (bits_3 + 1)) (IntKind.i64.wrap (2 * many_4))
 else
  (bif (decide (many_4 < n_0)) then
   ref04Levels_J1 63
  else
   ref04Levels_J1 bits_3))
def ref04Levels_L1 : Nat → Int → Int → Int → Option (Int)
 | 0 => fun _ _ _ => none
 | n + 1 => ref04Levels_B1 (ref04Levels_L1 n)
def ref04Levels_m (n_0 : Int) : Option (Int) :=
 (bif (decide (n_0 < 1)) then
  some 0
 else
  ref04Levels_L1 FUEL n_0 0 1)
theorem ref04Levels_c {n_0 : Int} {r : Int} (hm : ref04Levels_m n_0 = some r) : PureC Try.prog 95 [.v (.int .i64 n_0)] (.v (.int .i64 r)) := by
 refine PureC.of_body Try.func95 rfl ?_
 simp only [Try.ntmps95, List.length_cons, List.length_nil, Nat.reduceAdd, Nat.reduceSub, empty_eq]
 unfold ref04Levels_m at hm
 refine sr (N' := 64) rfl ?_
 refine pA ?_
 refine fs ?_
 refine AWp.seq' ?_
 refine sr (N' := 128) rfl ?_
 iterate 2 refine pA ?_
 refine fs ?_
 refine AWp.condM hm Z1 (fun _ hm => ?_) (fun _ hm => ?_)
 ·
  refine sr (N' := 192) rfl ?_
  refine pA ?_
  refine fs ?_
  refine AWp.ret ?_
  refine retSeq ?_
  cases hm
  exact ret1D (.inr rfl) Try.results95 (td Z1 (.v _))
 ·
  refine AWp.skip ?_
  refine normSeq ?_
  refine sr (N' := 192) rfl ?_
  iterate 2 refine pA ?_
  refine fs ?_
  refine AWp.seq' ?_
  refine AWp.block ?_
  refine AWp.loopM (fun m s => ∃ (n_0 : Int) (bits_3 : Int) (many_4 : Int), s = (⟨24, (fset (fset (fset (fun _ => AV.any) 0 (.v (.int .i64 n_0))) 3 (.v (.int .i64 bits_3))) 4 (.v (.int .i64 many_4))), ⟨nofresh, 64⟩⟩ : St) ∧ ref04Levels_L1 m n_0 bits_3 many_4 = some r) FUEL ?_ ?_ ?_
  ·
   rintro s ⟨_, _, _, _, h⟩
   cases h
  ·
   refine ⟨_, ?_, n_0, 0, 1, rfl, hm⟩
   exact le_canon id (wV (wV (wV wk_none))) heapWk0
  ·
   rintro n1 s ⟨n_0, bits_3, many_4, rfl, hm⟩
   replace hm : ref04Levels_B1 (ref04Levels_L1 n1) n_0 bits_3 many_4 = some r := hm
   unfold ref04Levels_B1 at hm
   refine AWp.seq' ?_
   refine sr (N' := 128) rfl ?_
   iterate 7 first | refine pA ?_ | refine pB ?_
   refine fs ?_
   refine AWp.condM hm Z1 (fun _ hm => ?_) (fun _ hm => ?_)
   ·
    refine AWp.skip ?_
    refine normSeq ?_
    refine AWp.block ?_
    refine sr (N' := 192) rfl ?_
    iterate 3 refine pA ?_
    refine fs ?_
    refine AWp.reg 64 (N' := 256) rfl ?_
    iterate 3 refine pA ?_
    refine ARun.fin ?_
    refine normIn ?_
    refine normThen ?_
    refine ⟨_, ?_, n_0, (IntKind.i64.wrap (bits_3 + 1)), (IntKind.i64.wrap (2 * many_4)), rfl, hm⟩
    exact le_canon id (wV (wV (wV wk_none))) heapWk0
   ·
    refine AWp.exit ?_
    refine exitSeq ?_
    refine exitThen ?_
    refine exitHere ?_
    refine normSeq ?_
    refine AWp.seqJ (fun s => ∃ (bits_3 : Int), s = (⟨24, (fset (fun _ => AV.any) 3 (.v (.int .i64 bits_3))), ⟨nofresh, 64⟩⟩ : St) ∧ ref04Levels_J1 bits_3 = some r) ?_ ?_
    ·
     refine sr (N' := 192) rfl ?_
     iterate 3 refine pA ?_
     refine fs ?_
     refine AWp.condM hm Z1 (fun _ hm => ?_) (fun _ hm => ?_)
     ·
      refine AWp.reg 64 (N' := 256) rfl ?_
      refine pA ?_
      refine ARun.fin ?_
      refine normJ ?_
      refine ⟨_, ?_, 63, rfl, hm⟩
      exact le_canon id (wV wk_none) heapWk0
     ·
      refine AWp.skip ?_
      refine normJ ?_
      refine ⟨_, ?_, bits_3, rfl, hm⟩
      exact le_canon id (wV wk_none) heapWk0
    ·
     rintro s ⟨bits_3, rfl, hm⟩
     unfold ref04Levels_J1 at hm
     refine sr (N' := 128) rfl ?_
     iterate 4 refine pA ?_
     refine fs ?_
     refine AWp.ret ?_
     cases hm
     exact ret1D (.inr rfl) Try.results95 (td Z1 (.v _))
def ref01Add_m (a_0 : Int) (b_1 : Int) : Option (Int) :=
 some (Int.tmod (IntKind.u64.wrap ((Int.tmod a_0 2305843009213693951) + (Int.tmod b_1 2305843009213693951))) 2305843009213693951)
theorem ref01Add_c {a_0 : Int} {b_1 : Int} {r : Int} (hm : ref01Add_m a_0 b_1 = some r) : PureC Try.prog 132 [.v (.int .u64 a_0), .v (.int .u64 b_1)] (.v (.int .u64 r)) := by
 refine PureC.of_body Try.func132 rfl ?_
 simp only [Try.ntmps132, List.length_cons, List.length_nil, Nat.reduceAdd, Nat.reduceSub, empty_eq]
 unfold ref01Add_m at hm
 refine sr (N' := 64) rfl ?_
 refine pA ?_
 refine fs ?_
 refine sr (N' := 128) rfl ?_
 iterate 7 refine pu rfl (by simp only [go_sem, Nat.reduceBEq, Int.reduceEq, Int.reduceLE]; try with_reducible rfl) ?_
 refine fs ?_
 refine AWp.ret ?_
 cases hm
 exact ret1D (.inr rfl) Try.results132 (td Z1 (.v _))
def ref01Mul_J1 (rec1 : Int → Int → Int → Int → Option (Int)) (a_0 : Int) (b_1 : Int) (out_5 : Int) (i_6 : Int) : Option (Int) :=
 rec1 a_0 b_1 out_5 (IntKind.i64.wrap (i_6 - 1))
def ref01Mul_B1 (rec1 : Int → Int → Int → Int → Option (Int)) (a_0 : Int) (b_1 : Int) (out_5 : Int) (i_6 : Int) : Option (Int) :=
 (bif (decide (0 ≤ i_6)) then
  ((ref01Add_m out_5 out_5).bind fun r2 =>
  ((chk (decide (0 ≤ (IntKind.u64.wrap i_6)))).bind fun _ =>
  (bif ((Int.tmod (shr .u64 b_1 (IntKind.u64.wrap i_6)) 2) == 1) then
   ((ref01Add_m r2 a_0).bind fun r5 =>
   ref01Mul_J1 rec1 a_0 b_1 r5 i_6)
  else
   ref01Mul_J1 rec1 a_0 b_1 r2 i_6)))
 else
  some out_5)
def ref01Mul_L1 : Nat → Int → Int → Int → Int → Option (Int)
 | 0 => fun _ _ _ _ => none
 | n + 1 => ref01Mul_B1 (ref01Mul_L1 n)
def ref01Mul_m (a_0 : Int) (b_1 : Int) : Option (Int) :=
 ref01Mul_L1 FUEL (Int.tmod a_0 2305843009213693951) (Int.tmod b_1 2305843009213693951) 0 60
theorem ref01Mul_c {a_0 : Int} {b_1 : Int} {r : Int} (hm : ref01Mul_m a_0 b_1 = some r) : PureC Try.prog 133 [.v (.int .u64 a_0), .v (.int .u64 b_1)] (.v (.int .u64 r)) := by
 refine PureC.of_body Try.func133 rfl ?_
 simp only [Try.ntmps133, List.length_cons, List.length_nil, Nat.reduceAdd, Nat.reduceSub, empty_eq]
 unfold ref01Mul_m at hm
 refine sr (N' := 64) rfl ?_
 refine pA ?_
 refine fs ?_
 refine sr (N' := 128) rfl ?_
 refine pA ?_
 refine fs ?_
 refine sr (N' := 192) rfl ?_
 iterate 3 refine pu rfl (by simp only [go_sem, Nat.reduceBEq, Int.reduceEq, Int.reduceLE]; try with_reducible rfl) ?_
 refine fs ?_
 refine sr (N' := 256) rfl ?_
 iterate 3 refine pu rfl (by simp only [go_sem, Nat.reduceBEq, Int.reduceEq, Int.reduceLE]; try with_reducible rfl) ?_
 refine fs ?_
 refine AWp.seq' ?_
 refine sr (N' := 320) rfl ?_
 refine pA ?_
 refine fs ?_
 refine AWp.block ?_
 refine AWp.loopM (fun m s => ∃ (a_0 : Int) (b_1 : Int) (out_5 : Int) (i_6 : Int), s = (⟨28, (fset (fset (fset (fset (fun _ => AV.any) 0 (.v (.int .u64 a_0))) 1 (.v (.int .u64 b_1))) 5 (.v (.int .u64 out_5))) 6 (.v (.int .i64 i_6))), ⟨nofresh, 64⟩⟩ : St) ∧ ref01Mul_L1 m a_0 b_1 out_5 i_6 = some r) FUEL ?_ ?_ ?_
 ·
  rintro s ⟨_, _, _, _, _, h⟩
  cases h
 ·
  refine ⟨_, ?_, (Int.tmod a_0 2305843009213693951), (Int.tmod b_1 2305843009213693951), 0, 60, rfl, hm⟩
  exact le_canon id (wV (wV (wV (wV wk_none)))) heapWk0
 ·
  rintro n1 s ⟨a_0, b_1, out_5, i_6, rfl, hm⟩
  replace hm : ref01Mul_B1 (ref01Mul_L1 n1) a_0 b_1 out_5 i_6 = some r := hm
  unfold ref01Mul_B1 at hm
  refine AWp.seq' ?_
  refine sr (N' := 128) rfl ?_
  iterate 2 refine pA ?_
  refine fs ?_
  refine AWp.condM hm Z1 (fun _ hm => ?_) (fun _ hm => ?_)
  ·
   refine AWp.skip ?_
   refine normSeq ?_
   refine AWp.seqJ (fun s => ∃ (a_0 : Int) (b_1 : Int) (out_5 : Int) (i_6 : Int), s = (⟨28, (fset (fset (fset (fset (fun _ => AV.any) 0 (.v (.int .u64 a_0))) 1 (.v (.int .u64 b_1))) 5 (.v (.int .u64 out_5))) 6 (.v (.int .i64 i_6))), ⟨nofresh, 64⟩⟩ : St) ∧ ref01Mul_J1 (ref01Mul_L1 n1) a_0 b_1 out_5 i_6 = some r) ?_ ?_
   ·
    refine AWp.block ?_
    refine sr (N' := 192) rfl ?_
    iterate 2 refine pA ?_
    obtain ⟨r2, h1, hm⟩ := bnd hm
    refine ARun.callQ (r := .v (.int .u64 r2)) Zd Z1 fb132 (fun H => (cV (cV .nil))) (ref01Add_c h1) ?_
    refine pA ?_
    refine fs ?_
    refine sr (N' := 256) rfl ?_
    iterate 3 refine pA ?_
    obtain ⟨_, h3, hm⟩ := bnd hm
    refine pu rfl (ap_shr Z1 Z1 (chk_t h3)) ?_
    iterate 2 refine pu rfl (by simp only [go_sem, Nat.reduceBEq, Int.reduceEq, Int.reduceLE]; try with_reducible rfl) ?_
    refine fs ?_
    refine AWp.condM hm Z1 (fun _ hm => ?_) (fun _ hm => ?_)
    ·
     refine AWp.reg 64 (N' := 320) rfl ?_
     iterate 2 refine pA ?_
     obtain ⟨r5, h4, hm⟩ := bnd hm
     refine ARun.callQ (r := .v (.int .u64 r5)) Zd Z1 fb132 (fun H => (cV (cV .nil))) (ref01Add_c h4) ?_
     refine pA ?_
     refine ARun.fin ?_
     refine normIn ?_
     refine normJ ?_
     refine ⟨_, ?_, a_0, b_1, r5, i_6, rfl, hm⟩
     exact le_canon id (wV (wV (wV (wV wk_none)))) heapWk0
    ·
     refine AWp.skip ?_
     refine normIn ?_
     refine normJ ?_
     refine ⟨_, ?_, a_0, b_1, r2, i_6, rfl, hm⟩
     exact le_canon id (wV (wV (wV (wV wk_none)))) heapWk0
   ·
    rintro s ⟨a_0, b_1, out_5, i_6, rfl, hm⟩
    unfold ref01Mul_J1 at hm
    refine AWp.reg 64 (N' := 128) rfl ?_
    iterate 3 refine pA ?_
    refine ARun.fin ?_
    refine normThen ?_
    refine ⟨_, ?_, a_0, b_1, out_5, (IntKind.i64.wrap (i_6 - 1)), rfl, hm⟩
    exact le_canon id (wV (wV (wV (wV wk_none)))) heapWk0
  ·
   refine AWp.exit ?_
   refine exitSeq ?_
   refine exitThen ?_
   refine exitHere ?_
   refine normSeq ?_
   refine sr (N' := 192) rfl ?_
   iterate 2 refine pA ?_
   refine fs ?_
   refine AWp.ret ?_
   cases hm
   exact ret1D (.inr rfl) Try.results133 (td Z1 (.v _))
def ref04Value_m (h_0 : GHash) (name_1 : Int) : Option (Int) :=
 ((ref01Mul_m h_0.A name_1).bind fun r2 =>
 ((ref01Add_m r2 h_0.B).bind fun r4 =>
 some r4))
theorem ref04Value_c {h_0 : GHash} {name_1 : Int} {r : Int} (hm : ref04Value_m h_0 name_1 = some r) : PureC Try.prog 119 [.agg [.v (.int .u64 h_0.A), .v (.int .u64 h_0.B)], .v (.int .u64 name_1)] (.v (.int .u64 r)) := by
 refine PureC.of_body Try.func119 rfl ?_
 simp only [Try.ntmps119, List.length_cons, List.length_nil, Nat.reduceAdd, Nat.reduceSub, empty_eq]
 unfold ref04Value_m at hm
 refine sr (N' := 64) rfl ?_
 refine hp (id := 0) rfl rfl (aheap_box Z1 Z5) ?_
 refine pA ?_
 refine fs ?_
 refine sd mix (by kernel_rfl) (N' := 128) rfl ?_
 refine pA ?_
 refine pu rfl (ap_ldv Z1 Z3 Z4) ?_
 refine pA ?_
 obtain ⟨r2, h1, hm⟩ := bnd hm
 refine ARun.callQ (r := .v (.int .u64 r2)) Zd Z1 fb133 (fun H => (cV (cV .nil))) (ref01Mul_c h1) ?_
 refine pA ?_
 refine pu rfl (ap_ldv Z1 Z3 Z4) ?_
 obtain ⟨r4, h3, hm⟩ := bnd hm
 refine ARun.callQ (r := .v (.int .u64 r4)) Zd Z1 fb132 (fun H => (cV (cV .nil))) (ref01Add_c h3) ?_
 refine pA ?_
 refine fs ?_
 refine AWp.ret ?_
 cases hm
 exact ret1D (.inr rfl) Try.results119 (td Z1 (.v _))
def ref04Bound_B1 (rec1 : Int → Int → Int → Option (Int)) (level_0 : Int) (n_3 : Int) (i_4 : Int) : Option (Int) :=
 (bif (decide (i_4 < level_0)) then
  rec1 level_0 (IntKind.u64.wrap (Int.tdiv n_3 2)) (IntKind.i64.wrap (i_4 + 1))
 else
  some n_3)
def ref04Bound_L1 : Nat → Int → Int → Int → Option (Int)
 | 0 => fun _ _ _ => none
 | n + 1 => ref04Bound_B1 (ref04Bound_L1 n)
def ref04Bound_m (level_0 : Int) : Option (Int) :=
 (bif ((decide (level_0 < 0)) || (decide (60 < level_0))) then
  some 0
 else
  ref04Bound_L1 FUEL level_0 2305843009213693951 0)
theorem ref04Bound_c {level_0 : Int} {r : Int} (hm : ref04Bound_m level_0 = some r) : PureC Try.prog 120 [.v (.int .i64 level_0)] (.v (.int .u64 r)) := by
 refine PureC.of_body Try.func120 rfl ?_
 simp only [Try.ntmps120, List.length_cons, List.length_nil, Nat.reduceAdd, Nat.reduceSub, empty_eq]
 unfold ref04Bound_m at hm
 refine sr (N' := 64) rfl ?_
 refine pA ?_
 refine fs ?_
 refine AWp.seq' ?_
 refine sr (N' := 128) rfl ?_
 iterate 6 first | refine pA ?_ | refine pB ?_
 refine fs ?_
 refine AWp.condM hm Z1 (fun _ hm => ?_) (fun _ hm => ?_)
 ·
  refine sr (N' := 192) rfl ?_
  refine pA ?_
  refine fs ?_
  refine AWp.ret ?_
  refine retSeq ?_
  cases hm
  exact ret1D (.inr rfl) Try.results120 (td Z1 (.v _))
 ·
  refine AWp.skip ?_
  refine normSeq ?_
  refine sr (N' := 192) rfl ?_
  refine pA ?_
  refine fs ?_
  refine AWp.seq' ?_
  refine sr (N' := 256) rfl ?_
  refine pA ?_
  refine fs ?_
  refine AWp.block ?_
  refine AWp.loopM (fun m s => ∃ (level_0 : Int) (n_3 : Int) (i_4 : Int), s = (⟨19, (fset (fset (fset (fun _ => AV.any) 0 (.v (.int .i64 level_0))) 3 (.v (.int .u64 n_3))) 4 (.v (.int .i64 i_4))), ⟨nofresh, 64⟩⟩ : St) ∧ ref04Bound_L1 m level_0 n_3 i_4 = some r) FUEL ?_ ?_ ?_
  ·
   rintro s ⟨_, _, _, _, h⟩
   cases h
  ·
   refine ⟨_, ?_, level_0, 2305843009213693951, 0, rfl, hm⟩
   exact le_canon id (wV (wV (wV wk_none))) heapWk0
  ·
   rintro n1 s ⟨level_0, n_3, i_4, rfl, hm⟩
   replace hm : ref04Bound_B1 (ref04Bound_L1 n1) level_0 n_3 i_4 = some r := hm
   unfold ref04Bound_B1 at hm
   refine AWp.seq' ?_
   refine sr (N' := 128) rfl ?_
   iterate 3 refine pA ?_
   refine fs ?_
   refine AWp.condM hm Z1 (fun _ hm => ?_) (fun _ hm => ?_)
   ·
    refine AWp.skip ?_
    refine normSeq ?_
    refine AWp.seq' ?_
    refine AWp.block ?_
    refine AWp.reg 64 (N' := 192) rfl ?_
    iterate 3 refine pu rfl (by simp only [go_sem, Nat.reduceBEq, Int.reduceEq, Int.reduceLE]; try with_reducible rfl) ?_
    refine ARun.fin ?_
    refine normIn ?_
    refine normSeq ?_
    refine AWp.reg 64 (N' := 256) rfl ?_
    iterate 3 refine pA ?_
    refine ARun.fin ?_
    refine normThen ?_
    refine ⟨_, ?_, level_0, (IntKind.u64.wrap (Int.tdiv n_3 2)), (IntKind.i64.wrap (i_4 + 1)), rfl, hm⟩
    exact le_canon id (wV (wV (wV wk_none))) heapWk0
   ·
    refine AWp.exit ?_
    refine exitSeq ?_
    refine exitThen ?_
    refine exitHere ?_
    refine normSeq ?_
    refine sr (N' := 192) rfl ?_
    iterate 2 refine pA ?_
    refine fs ?_
    refine AWp.ret ?_
    cases hm
    exact ret1D (.inr rfl) Try.results120 (td Z1 (.v _))
def ref05Words_J1 (rec1 : List GHash → Int → List Int → List Int → Int → Option ((List Int))) (rec2 : List GHash → Int → List Int → List Int → Int → Int → Option ((List Int))) (rec3 : List GHash → Int → List Int → List Int → Int → Int → Int → Int → Option ((List Int))) (l_0 : List GHash) (v_1 : Int) (names_2 : List Int) (out_7 : List Int) (r_8 : Int) (j_9 : Int) (w_10 : Int) (i_11 : Int) : Option ((List Int)) :=
 rec3 l_0 v_1 names_2 out_7 r_8 j_9 w_10 (IntKind.i64.wrap (i_11 + 1))
def ref05Words_B3 (rec1 : List GHash → Int → List Int → List Int → Int → Option ((List Int))) (rec2 : List GHash → Int → List Int → List Int → Int → Int → Option ((List Int))) (rec3 : List GHash → Int → List Int → List Int → Int → Int → Int → Int → Option ((List Int))) (l_0 : List GHash) (v_1 : Int) (names_2 : List Int) (out_7 : List Int) (r_8 : Int) (j_9 : Int) (w_10 : Int) (i_11 : Int) : Option ((List Int)) :=
 (bif (decide (i_11 < (names_2.length : Int))) then
  ((idx l_0 r_8).bind fun x2 =>
  ((idx names_2 i_11).bind fun x4 =>
  ((ref04Value_m x2 x4).bind fun r6 =>
  ((ref04Bound_m j_9).bind fun r8 =>
  (bif (decide (r6 < r8)) then
   ((idx names_2 i_11).bind fun x10 =>
   ref05Words_J1 rec1 rec2 rec3 l_0 v_1 names_2 out_7 r_8 j_9 (bxor .u64 w_10 x10) i_11)
  else
   ref05Words_J1 rec1 rec2 rec3 l_0 v_1 names_2 out_7 r_8 j_9 w_10 i_11)))))
 else
  ((app out_7 [w_10]).bind fun l12 =>
  rec2 l_0 v_1 names_2 l12 r_8 (IntKind.i64.wrap (j_9 + 1))))
def ref05Words_L3 (rec1 : List GHash → Int → List Int → List Int → Int → Option ((List Int))) (rec2 : List GHash → Int → List Int → List Int → Int → Int → Option ((List Int))) : Nat → List GHash → Int → List Int → List Int → Int → Int → Int → Int → Option ((List Int))
 | 0 => fun _ _ _ _ _ _ _ _ => none
 | n + 1 => ref05Words_B3 rec1 rec2 (ref05Words_L3 rec1 rec2 n)
def ref05Words_B2 (rec1 : List GHash → Int → List Int → List Int → Int → Option ((List Int))) (rec2 : List GHash → Int → List Int → List Int → Int → Int → Option ((List Int))) (l_0 : List GHash) (v_1 : Int) (names_2 : List Int) (out_7 : List Int) (r_8 : Int) (j_9 : Int) : Option ((List Int)) :=
 (bif (decide (j_9 < v_1)) then
  ref05Words_L3 rec1 rec2 FUEL l_0 v_1 names_2 out_7 r_8 j_9 0 0
 else
  rec1 l_0 v_1 names_2 out_7 (IntKind.i64.wrap (r_8 + 1)))
def ref05Words_L2 (rec1 : List GHash → Int → List Int → List Int → Int → Option ((List Int))) : Nat → List GHash → Int → List Int → List Int → Int → Int → Option ((List Int))
 | 0 => fun _ _ _ _ _ _ => none
 | n + 1 => ref05Words_B2 rec1 (ref05Words_L2 rec1 n)
def ref05Words_B1 (rec1 : List GHash → Int → List Int → List Int → Int → Option ((List Int))) (l_0 : List GHash) (v_1 : Int) (names_2 : List Int) (out_7 : List Int) (r_8 : Int) : Option ((List Int)) :=
 (bif (decide (r_8 < (l_0.length : Int))) then
  ref05Words_L2 rec1 FUEL l_0 v_1 names_2 out_7 r_8 0
 else
  some out_7)
def ref05Words_L1 : Nat → List GHash → Int → List Int → List Int → Int → Option ((List Int))
 | 0 => fun _ _ _ _ _ => none
 | n + 1 => ref05Words_B1 (ref05Words_L1 n)
def ref05Words_m (l_0 : List GHash) (v_1 : Int) (names_2 : List Int) : Option ((List Int)) :=
 ref05Words_L1 FUEL l_0 v_1 names_2 [] 0
theorem ref05Words_c {l_0 : List GHash} {v_1 : Int} {names_2 : List Int} {r : (List Int)} (hm : ref05Words_m l_0 v_1 names_2 = some r) : PureC Try.prog 94 [.sl (l_0.flatMap cGHash) l_0.length false, .v (.int .i64 v_1), .sl (names_2.flatMap (ci .u64)) names_2.length false] (.sl (r.flatMap (ci .u64)) r.length false) := by
 refine PureC.of_body Try.func94 rfl ?_
 simp only [Try.ntmps94, List.length_cons, List.length_nil, Nat.reduceAdd, Nat.reduceSub, empty_eq]
 unfold ref05Words_m at hm
 refine sr (N' := 64) rfl ?_
 refine pA ?_
 refine fs ?_
 refine sr (N' := 128) rfl ?_
 refine pA ?_
 refine fs ?_
 refine AWp.seq' ?_
 refine sr (N' := 192) rfl ?_
 refine pA ?_
 refine fs ?_
 refine AWp.block ?_
 refine AWp.loopM (fun m s => ∃ (l_0 : List GHash) (v_1 : Int) (names_2 : List Int) (out_7 : List Int) (r_8 : Int), s = (⟨52, (fset (fset (fset (fset (fset (fun _ => AV.any) 0 (.sl (l_0.flatMap cGHash) l_0.length false)) 1 (.v (.int .i64 v_1))) 2 (.sl (names_2.flatMap (ci .u64)) names_2.length false)) 7 (.own 1 0 out_7.length)) 8 (.v (.int .i64 r_8))), ⟨(upd nofresh 1 (.cells 1 (out_7.flatMap (ci .u64)) 0)), 64⟩⟩ : St) ∧ ref05Words_L1 m l_0 v_1 names_2 out_7 r_8 = some r) FUEL ?_ ?_ ?_
 ·
  rintro s ⟨_, _, _, _, _, _, h⟩
  cases h
 ·
  refine ⟨_, ?_, l_0, v_1, names_2, [], 0, rfl, hm⟩
  refine St.Le.trans (le_nil 7 900007 1 Z1 Z5) ?_
  exact le_canon (fun j => bif j == 1 then 900007 else 0) (wV (wO (wD ((CFi .u64).sl _ _ _) (wV (wD (CFGHash.sl _ _ _) wk_none))))) (hW (eU (CFi .u64) entWk_none))
 ·
  rintro n1 s ⟨l_0, v_1, names_2, out_7, r_8, rfl, hm⟩
  replace hm : ref05Words_B1 (ref05Words_L1 n1) l_0 v_1 names_2 out_7 r_8 = some r := hm
  unfold ref05Words_B1 at hm
  refine AWp.seq' ?_
  refine sr (N' := 128) rfl ?_
  iterate 4 refine pA ?_
  refine fs ?_
  refine AWp.condM hm Z1 (fun _ hm => ?_) (fun _ hm => ?_)
  ·
   refine AWp.skip ?_
   refine normSeq ?_
   refine AWp.seq' ?_
   refine AWp.block ?_
   refine sr (N' := 192) rfl ?_
   refine pA ?_
   refine fs ?_
   refine AWp.block ?_
   refine AWp.loopM (fun m s => ∃ (l_0 : List GHash) (v_1 : Int) (names_2 : List Int) (out_7 : List Int) (r_8 : Int) (j_9 : Int), s = (⟨52, (fset (fset (fset (fset (fset (fset (fun _ => AV.any) 0 (.sl (l_0.flatMap cGHash) l_0.length false)) 1 (.v (.int .i64 v_1))) 2 (.sl (names_2.flatMap (ci .u64)) names_2.length false)) 7 (.own 1 0 out_7.length)) 8 (.v (.int .i64 r_8))) 9 (.v (.int .i64 j_9))), ⟨(upd nofresh 1 (.cells 1 (out_7.flatMap (ci .u64)) 0)), 64⟩⟩ : St) ∧ ref05Words_L2 (ref05Words_L1 n1) m l_0 v_1 names_2 out_7 r_8 j_9 = some r) FUEL ?_ ?_ ?_
   ·
    rintro s ⟨_, _, _, _, _, _, _, h⟩
    cases h
   ·
    refine ⟨_, ?_, l_0, v_1, names_2, out_7, r_8, 0, rfl, hm⟩
    exact le_canon (fun j => bif j == 1 then 1 else 0) (wV (wV (wO (wD ((CFi .u64).sl _ _ _) (wV (wD (CFGHash.sl _ _ _) wk_none)))))) (hW (eU (CFi .u64) entWk_none))
   ·
    rintro n2 s ⟨l_0, v_1, names_2, out_7, r_8, j_9, rfl, hm⟩
    replace hm : ref05Words_B2 (ref05Words_L1 n1) (ref05Words_L2 (ref05Words_L1 n1) n2) l_0 v_1 names_2 out_7 r_8 j_9 = some r := hm
    unfold ref05Words_B2 at hm
    refine AWp.seq' ?_
    refine sr (N' := 128) rfl ?_
    iterate 3 refine pA ?_
    refine fs ?_
    refine AWp.condM hm Z1 (fun _ hm => ?_) (fun _ hm => ?_)
    ·
     refine AWp.skip ?_
     refine normSeq ?_
     refine AWp.seq' ?_
     refine AWp.block ?_
     refine sr (N' := 192) rfl ?_
     refine pA ?_
     refine fs ?_
     refine AWp.seq' ?_
     refine sr (N' := 256) rfl ?_
     refine pA ?_
     refine fs ?_
     refine AWp.block ?_
     refine AWp.loopM (fun m s => ∃ (l_0 : List GHash) (v_1 : Int) (names_2 : List Int) (out_7 : List Int) (r_8 : Int) (j_9 : Int) (w_10 : Int) (i_11 : Int), s = (⟨52, (fset (fset (fset (fset (fset (fset (fset (fset (fun _ => AV.any) 0 (.sl (l_0.flatMap cGHash) l_0.length false)) 1 (.v (.int .i64 v_1))) 2 (.sl (names_2.flatMap (ci .u64)) names_2.length false)) 7 (.own 1 0 out_7.length)) 8 (.v (.int .i64 r_8))) 9 (.v (.int .i64 j_9))) 10 (.v (.int .u64 w_10))) 11 (.v (.int .i64 i_11))), ⟨(upd nofresh 1 (.cells 1 (out_7.flatMap (ci .u64)) 0)), 64⟩⟩ : St) ∧ ref05Words_L3 (ref05Words_L1 n1) (ref05Words_L2 (ref05Words_L1 n1) n2) m l_0 v_1 names_2 out_7 r_8 j_9 w_10 i_11 = some r) FUEL ?_ ?_ ?_
     ·
      rintro s ⟨_, _, _, _, _, _, _, _, _, h⟩
      cases h
     ·
      refine ⟨_, ?_, l_0, v_1, names_2, out_7, r_8, j_9, 0, 0, rfl, hm⟩
      exact le_canon (fun j => bif j == 1 then 1 else 0) (wV (wV (wV (wV (wO (wD ((CFi .u64).sl _ _ _) (wV (wD (CFGHash.sl _ _ _) wk_none)))))))) (hW (eU (CFi .u64) entWk_none))
     ·
      rintro n3 s ⟨l_0, v_1, names_2, out_7, r_8, j_9, w_10, i_11, rfl, hm⟩
      replace hm : ref05Words_B3 (ref05Words_L1 n1) (ref05Words_L2 (ref05Words_L1 n1) n2) (ref05Words_L3 (ref05Words_L1 n1) (ref05Words_L2 (ref05Words_L1 n1) n2) n3) l_0 v_1 names_2 out_7 r_8 j_9 w_10 i_11 = some r := hm
      unfold ref05Words_B3 at hm
      refine AWp.seq' ?_
      refine sr (N' := 128) rfl ?_
      iterate 4 refine pA ?_
      refine fs ?_
      refine AWp.condM hm Z1 (fun _ hm => ?_) (fun _ hm => ?_)
      ·
       refine AWp.skip ?_
       refine normSeq ?_
       refine AWp.seqJ (fun s => ∃ (l_0 : List GHash) (v_1 : Int) (names_2 : List Int) (out_7 : List Int) (r_8 : Int) (j_9 : Int) (w_10 : Int) (i_11 : Int), s = (⟨52, (fset (fset (fset (fset (fset (fset (fset (fset (fun _ => AV.any) 0 (.sl (l_0.flatMap cGHash) l_0.length false)) 1 (.v (.int .i64 v_1))) 2 (.sl (names_2.flatMap (ci .u64)) names_2.length false)) 7 (.own 1 0 out_7.length)) 8 (.v (.int .i64 r_8))) 9 (.v (.int .i64 j_9))) 10 (.v (.int .u64 w_10))) 11 (.v (.int .i64 i_11))), ⟨(upd nofresh 1 (.cells 1 (out_7.flatMap (ci .u64)) 0)), 64⟩⟩ : St) ∧ ref05Words_J1 (ref05Words_L1 n1) (ref05Words_L2 (ref05Words_L1 n1) n2) (ref05Words_L3 (ref05Words_L1 n1) (ref05Words_L2 (ref05Words_L1 n1) n2) n3) l_0 v_1 names_2 out_7 r_8 j_9 w_10 i_11 = some r) ?_ ?_
       ·
        refine AWp.block ?_
        refine sd mix (by kernel_rfl) (N' := 192) rfl ?_
        iterate 2 refine pA ?_
        obtain ⟨x2, h1, hm⟩ := bnd hm
        refine pu rfl (ap_idx CFGHash Zd Try.underlying24 sz53 Z1 rfl Z1 h1) ?_
        iterate 3 refine pA ?_
        obtain ⟨x4, h3, hm⟩ := bnd hm
        refine pu rfl (ap_idx (CFi .u64) Zd Try.underlying41 sz51 Z1 rfl Z1 h3) ?_
        refine pA ?_
        obtain ⟨r6, h5, hm⟩ := bnd hm
        refine ARun.callQ (r := .v (.int .u64 r6)) Zd Z1 fb119 (fun H => (cD (.agg _ (CFGHash.dat _)) (cV .nil))) (ref04Value_c h5) ?_
        refine pA ?_
        obtain ⟨r8, h7, hm⟩ := bnd hm
        refine ARun.callQ (r := .v (.int .u64 r8)) Zd Z1 fb120 (fun H => (cV .nil)) (ref04Bound_c h7) ?_
        refine pA ?_
        refine fs ?_
        refine AWp.condM hm Z1 (fun _ hm => ?_) (fun _ hm => ?_)
        ·
         refine AWp.reg 64 (N' := 256) rfl ?_
         iterate 3 refine pA ?_
         obtain ⟨x10, h9, hm⟩ := bnd hm
         refine pu rfl (ap_idx (CFi .u64) Zd Try.underlying41 sz51 Z1 rfl Z1 h9) ?_
         iterate 3 refine pA ?_
         refine ARun.fin ?_
         refine normIn ?_
         refine normJ ?_
         refine ⟨_, ?_, l_0, v_1, names_2, out_7, r_8, j_9, (bxor .u64 w_10 x10), i_11, rfl, hm⟩
         exact le_canon (fun j => bif j == 1 then 1 else 0) (wV (wV (wV (wV (wO (wD ((CFi .u64).sl _ _ _) (wV (wD (CFGHash.sl _ _ _) wk_none)))))))) (hW (eU (CFi .u64) entWk_none))
        ·
         refine AWp.skip ?_
         refine normIn ?_
         refine normJ ?_
         refine ⟨_, ?_, l_0, v_1, names_2, out_7, r_8, j_9, w_10, i_11, rfl, hm⟩
         exact le_canon (fun j => bif j == 1 then 1 else 0) (wV (wV (wV (wV (wO (wD ((CFi .u64).sl _ _ _) (wV (wD (CFGHash.sl _ _ _) wk_none)))))))) (hW (eU (CFi .u64) entWk_none))
       ·
        rintro s ⟨l_0, v_1, names_2, out_7, r_8, j_9, w_10, i_11, rfl, hm⟩
        unfold ref05Words_J1 at hm
        refine AWp.reg 64 (N' := 128) rfl ?_
        iterate 3 refine pA ?_
        refine ARun.fin ?_
        refine normThen ?_
        refine ⟨_, ?_, l_0, v_1, names_2, out_7, r_8, j_9, w_10, (IntKind.i64.wrap (i_11 + 1)), rfl, hm⟩
        exact le_canon (fun j => bif j == 1 then 1 else 0) (wV (wV (wV (wV (wO (wD ((CFi .u64).sl _ _ _) (wV (wD (CFGHash.sl _ _ _) wk_none)))))))) (hW (eU (CFi .u64) entWk_none))
      ·
       refine AWp.exit ?_
       refine exitSeq ?_
       refine exitThen ?_
       refine exitHere ?_
       refine normSeq ?_
       refine AWp.reg 64 (N' := 192) rfl ?_
       iterate 2 refine pA ?_
       refine hp (id := 130) rfl rfl (ah_list (CFi .u64) (l := [w_10]) Try.underlying41 sz51 zc51 Z5 Zd Zd Zd (by simp only [go_sem, Nat.reduceBEq]; try rfl) (by kernel_rfl)) ?_
       obtain ⟨l12, h11, hm⟩ := bnd hm
       refine hp (id := 131) rfl rfl (ah_app (CFi .u64) Try.underlying41 Try.underlying41 rfl in51 ts51 (by rw [tb51]; decide) (by rw [tb51]; decide) tz51 Zd Zd Z1 Z3 Z6 (as_own (CFi .u64) Z1 Z3 Z6) rfl Z5 h11) ?_
       refine pA ?_
       refine ARun.fin ?_
       refine normIn ?_
       refine normSeq ?_
       refine AWp.reg 64 (N' := 256) rfl ?_
       iterate 3 refine pA ?_
       refine ARun.fin ?_
       refine normThen ?_
       refine ⟨_, ?_, l_0, v_1, names_2, l12, r_8, (IntKind.i64.wrap (j_9 + 1)), rfl, hm⟩
       exact le_canon (fun j => bif j == 1 then 131 else 0) (wV (wV (wO (wD ((CFi .u64).sl _ _ _) (wV (wD (CFGHash.sl _ _ _) wk_none)))))) (hW (eU (CFi .u64) entWk_none))
    ·
     refine AWp.exit ?_
     refine exitSeq ?_
     refine exitThen ?_
     refine exitHere ?_
     refine normIn ?_
     refine normSeq ?_
     refine AWp.reg 64 (N' := 192) rfl ?_
     iterate 3 refine pA ?_
     refine ARun.fin ?_
     refine normThen ?_
     refine ⟨_, ?_, l_0, v_1, names_2, out_7, (IntKind.i64.wrap (r_8 + 1)), rfl, hm⟩
     exact le_canon (fun j => bif j == 1 then 1 else 0) (wV (wO (wD ((CFi .u64).sl _ _ _) (wV (wD (CFGHash.sl _ _ _) wk_none))))) (hW (eU (CFi .u64) entWk_none))
  ·
   refine AWp.exit ?_
   refine exitSeq ?_
   refine exitThen ?_
   refine exitHere ?_
   refine normSeq ?_
   refine sr (N' := 192) rfl ?_
   iterate 2 refine pA ?_
   refine fs ?_
   refine AWp.ret ?_
   cases hm
   exact ret1D (.inr rfl) Try.results94 (tdo (CFi .u64) Z1 Z3 Z6)
def ref14Words_m (g_0 : GGraph) (tier_1 : Int) (v_2 : Int) : Option ((List Int)) :=
 ((ref14Tree_m g_0 tier_1 v_2).bind fun r2 =>
 ((ref13Cut_m g_0.Edges r2).bind fun r4 =>
 ((ref14Hashes_m g_0 tier_1).bind fun r6 =>
 ((ref04Levels_m g_0.Config.N).bind fun r8 =>
 ((ref13Names_m r4).bind fun r10 =>
 ((ref05Words_m r6 r8 r10).bind fun r12 =>
 some r12))))))
theorem ref14Words_c {g_0 : GGraph} {tier_1 : Int} {v_2 : Int} {r : (List Int)} (hm : ref14Words_m g_0 tier_1 v_2 = some r) : PureC Try.prog 51 [.agg [.v (.int .i64 g_0.Config.N), .v (.int .i64 g_0.Config.L), .v (.int .i64 g_0.Config.R), .sl (g_0.Hashes.flatMap cGHash) g_0.Hashes.length false, .sl (g_0.Edges.flatMap cGEdge) g_0.Edges.length false], .v (.int .i64 tier_1), .v (.int .i64 v_2)] (.sl (r.flatMap (ci .u64)) r.length false) := by
 refine PureC.of_body Try.func51 rfl ?_
 simp only [Try.ntmps51, List.length_cons, List.length_nil, Nat.reduceAdd, Nat.reduceSub, empty_eq]
 unfold ref14Words_m at hm
 refine sr (N' := 64) rfl ?_
 refine hp (id := 0) rfl rfl (aheap_box Z1 Z5) ?_
 refine pA ?_
 refine fs ?_
 refine sd mix (by kernel_rfl) (N' := 128) rfl ?_
 refine pA ?_
 refine pu rfl (ap_ldv Z1 Z3 Z4) ?_
 refine pu rfl (ap_ldv Z1 Z3 Z2) ?_
 iterate 2 refine pA ?_
 obtain ⟨r2, h1, hm⟩ := bnd hm
 refine ARun.callQ (r := .sl (r2.flatMap (ci .i64)) r2.length false) Zd Z1 fb48 (fun H => (cD (.agg _ (CFGGraph.dat _)) (cV (cV .nil)))) (ref14Tree_c h1) ?_
 obtain ⟨r4, h3, hm⟩ := bnd hm
 refine ARun.callQ (r := .sl (r4.flatMap cGEdge) r4.length false) Zd Z1 fb52 (fun H => (cD (CFGEdge.sl _ _ _) (cD ((CFi .i64).sl _ _ _) .nil))) (ref13Cut_c h3) ?_
 refine pA ?_
 refine fs ?_
 refine sd mix (by kernel_rfl) (N' := 192) rfl ?_
 refine pu rfl (ap_ldv Z1 Z3 Z2) ?_
 refine pA ?_
 obtain ⟨r6, h5, hm⟩ := bnd hm
 refine ARun.callQ (r := .sl (r6.flatMap cGHash) r6.length false) Zd Z1 fb92 (fun H => (cD (.agg _ (CFGGraph.dat _)) (cV .nil))) (ref14Hashes_c h5) ?_
 iterate 2 refine pA ?_
 refine pu rfl (ap_ldv Z1 Z3 Z4) ?_
 obtain ⟨r8, h7, hm⟩ := bnd hm
 refine ARun.callQ (r := .v (.int .i64 r8)) Zd Z1 fb95 (fun H => (cV .nil)) (ref04Levels_c h7) ?_
 refine pA ?_
 obtain ⟨r10, h9, hm⟩ := bnd hm
 refine ARun.callQ (r := .sl (r10.flatMap (ci .u64)) r10.length false) Zd Z1 fb55 (fun H => (cD (CFGEdge.sl _ _ _) .nil)) (ref13Names_c h9) ?_
 obtain ⟨r12, h11, hm⟩ := bnd hm
 refine ARun.callQ (r := .sl (r12.flatMap (ci .u64)) r12.length false) Zd Z1 fb94 (fun H => (cD (CFGHash.sl _ _ _) (cV (cD ((CFi .u64).sl _ _ _) .nil)))) (ref05Words_c h11) ?_
 refine pA ?_
 refine fs ?_
 refine AWp.ret ?_
 cases hm
 exact ret1D (.inr rfl) Try.results51 (td Z1 ((CFi .u64).sl _ _ _))
def ref14Search_B2 (rec1 : GEdge → List GEdge → List Int → List Int → Int → Option (GEdge × Bool)) (rec2 : GEdge → List GEdge → List Int → List Int → Int → Int → Option (GEdge × Bool)) (t6 : GEdge) (c_8 : List GEdge) (names_9 : List Int) (w_10 : List Int) (i_11 : Int) (k_12 : Int) : Option (GEdge × Bool) :=
 (bif (decide (k_12 < (c_8.length : Int))) then
  ((idx w_10 i_11).bind fun x10 =>
  ((idx names_9 k_12).bind fun x12 =>
  (bif (x10 == x12) then
   ((idx c_8 k_12).bind fun x14 =>
   some (x14, true))
  else
   rec2 t6 c_8 names_9 w_10 i_11 (IntKind.i64.wrap (k_12 + 1)))))
 else
  rec1 t6 c_8 names_9 w_10 (IntKind.i64.wrap (i_11 + 1)))
def ref14Search_L2 (rec1 : GEdge → List GEdge → List Int → List Int → Int → Option (GEdge × Bool)) : Nat → GEdge → List GEdge → List Int → List Int → Int → Int → Option (GEdge × Bool)
 | 0 => fun _ _ _ _ _ _ => none
 | n + 1 => ref14Search_B2 rec1 (ref14Search_L2 rec1 n)
def ref14Search_B1 (rec1 : GEdge → List GEdge → List Int → List Int → Int → Option (GEdge × Bool)) (t6 : GEdge) (c_8 : List GEdge) (names_9 : List Int) (w_10 : List Int) (i_11 : Int) : Option (GEdge × Bool) :=
 (bif (decide (i_11 < (w_10.length : Int))) then
  ref14Search_L2 rec1 FUEL t6 c_8 names_9 w_10 i_11 0
 else
  some ((GEdge.mk 0 0 0), false))
def ref14Search_L1 : Nat → GEdge → List GEdge → List Int → List Int → Int → Option (GEdge × Bool)
 | 0 => fun _ _ _ _ _ => none
 | n + 1 => ref14Search_B1 (ref14Search_L1 n)
def ref14Search_m (g_0 : GGraph) (tier_1 : Int) (v_2 : Int) : Option (GEdge × Bool) :=
 ((ref14Tree_m g_0 tier_1 v_2).bind fun r2 =>
 ((ref13Cut_m g_0.Edges r2).bind fun r4 =>
 ((ref13Names_m r4).bind fun r6 =>
 ((ref14Words_m g_0 tier_1 v_2).bind fun r8 =>
 ref14Search_L1 FUEL (GEdge.mk 0 0 0) r4 r6 r8 0))))
theorem ref14Search_c {g_0 : GGraph} {tier_1 : Int} {v_2 : Int} {r : GEdge × Bool} (hm : ref14Search_m g_0 tier_1 v_2 = some r) : PureC Try.prog 49 [.agg [.v (.int .i64 g_0.Config.N), .v (.int .i64 g_0.Config.L), .v (.int .i64 g_0.Config.R), .sl (g_0.Hashes.flatMap cGHash) g_0.Hashes.length false, .sl (g_0.Edges.flatMap cGEdge) g_0.Edges.length false], .v (.int .i64 tier_1), .v (.int .i64 v_2)] (.tup [.agg [.v (.int .i64 r.1.U), .v (.int .i64 r.1.V), .v (.int .i64 r.1.Tier)], .v (.bool r.2)]) := by
 refine PureC.of_body Try.func49 rfl ?_
 simp only [Try.ntmps49, List.length_cons, List.length_nil, Nat.reduceAdd, Nat.reduceSub, empty_eq]
 unfold ref14Search_m at hm
 refine sr (N' := 64) rfl ?_
 refine hp (id := 0) rfl rfl (aheap_box Z1 Z5) ?_
 refine hp (id := 1) rfl rfl (aheap_alloc' zc38 Z5) ?_
 refine pA ?_
 refine fs ?_
 refine sd mix (by kernel_rfl) (N' := 128) rfl ?_
 refine pA ?_
 refine pu rfl (ap_ldv Z1 Z3 Z4) ?_
 refine pu rfl (ap_ldv Z1 Z3 Z2) ?_
 iterate 2 refine pA ?_
 obtain ⟨r2, h1, hm⟩ := bnd hm
 refine ARun.callQ (r := .sl (r2.flatMap (ci .i64)) r2.length false) Zd Z1 fb48 (fun H => (cD (.agg _ (CFGGraph.dat _)) (cV (cV .nil)))) (ref14Tree_c h1) ?_
 obtain ⟨r4, h3, hm⟩ := bnd hm
 refine ARun.callQ (r := .sl (r4.flatMap cGEdge) r4.length false) Zd Z1 fb52 (fun H => (cD (CFGEdge.sl _ _ _) (cD ((CFi .i64).sl _ _ _) .nil))) (ref13Cut_c h3) ?_
 refine pA ?_
 refine fs ?_
 refine sr (N' := 192) rfl ?_
 refine pA ?_
 obtain ⟨r6, h5, hm⟩ := bnd hm
 refine ARun.callQ (r := .sl (r6.flatMap (ci .u64)) r6.length false) Zd Z1 fb55 (fun H => (cD (CFGEdge.sl _ _ _) .nil)) (ref13Names_c h5) ?_
 refine pA ?_
 refine fs ?_
 refine sr (N' := 256) rfl ?_
 refine pu rfl (ap_ldv Z1 Z3 Z2) ?_
 iterate 2 refine pA ?_
 obtain ⟨r8, h7, hm⟩ := bnd hm
 refine ARun.callQ (r := .sl (r8.flatMap (ci .u64)) r8.length false) Zd Z1 fb51 (fun H => (cD (.agg _ (CFGGraph.dat _)) (cV (cV .nil)))) (ref14Words_c h7) ?_
 refine pA ?_
 refine fs ?_
 refine AWp.seq' ?_
 refine sr (N' := 320) rfl ?_
 refine pA ?_
 refine fs ?_
 refine AWp.block ?_
 refine AWp.loopM (fun m s => ∃ (t6 : GEdge) (c_8 : List GEdge) (names_9 : List Int) (w_10 : List Int) (i_11 : Int), s = (⟨52, (fset (fset (fset (fset (fset (fun _ => AV.any) 6 (.adr 1 0)) 8 (.sl (c_8.flatMap cGEdge) c_8.length false)) 9 (.sl (names_9.flatMap (ci .u64)) names_9.length false)) 10 (.sl (w_10.flatMap (ci .u64)) w_10.length false)) 11 (.v (.int .i64 i_11))), ⟨(upd nofresh 1 (.cells 1 [.v (.int .i64 t6.U), .v (.int .i64 t6.V), .v (.int .i64 t6.Tier)] 0)), 64⟩⟩ : St) ∧ ref14Search_L1 m t6 c_8 names_9 w_10 i_11 = some r) FUEL ?_ ?_ ?_
 ·
  rintro s ⟨_, _, _, _, _, _, h⟩
  cases h
 ·
  refine ⟨_, ?_, (GEdge.mk 0 0 0), r4, r6, r8, 0, rfl, hm⟩
  exact le_canon (fun j => bif j == 1 then 1 else 0) (wV (wD ((CFi .u64).sl _ _ _) (wD ((CFi .u64).sl _ _ _) (wD (CFGEdge.sl _ _ _) (wk_fset _ _ (wk_adr Z1 rfl Z7) wk_none))))) (hW (entWk_upd (entWk_data Z3 (Nat.le_refl _) (Nat.zero_le _) (CFGEdge.dat (GEdge.mk 0 0 0))) entWk_none))
 ·
  rintro n1 s ⟨t6, c_8, names_9, w_10, i_11, rfl, hm⟩
  replace hm : ref14Search_B1 (ref14Search_L1 n1) t6 c_8 names_9 w_10 i_11 = some r := hm
  unfold ref14Search_B1 at hm
  refine AWp.seq' ?_
  refine sr (N' := 128) rfl ?_
  iterate 4 refine pA ?_
  refine fs ?_
  refine AWp.condM hm Z1 (fun _ hm => ?_) (fun _ hm => ?_)
  ·
   refine AWp.skip ?_
   refine normSeq ?_
   refine AWp.seq' ?_
   refine AWp.block ?_
   refine sr (N' := 192) rfl ?_
   refine pA ?_
   refine fs ?_
   refine AWp.block ?_
   refine AWp.loopM (fun m s => ∃ (t6 : GEdge) (c_8 : List GEdge) (names_9 : List Int) (w_10 : List Int) (i_11 : Int) (k_12 : Int), s = (⟨52, (fset (fset (fset (fset (fset (fset (fun _ => AV.any) 6 (.adr 1 0)) 8 (.sl (c_8.flatMap cGEdge) c_8.length false)) 9 (.sl (names_9.flatMap (ci .u64)) names_9.length false)) 10 (.sl (w_10.flatMap (ci .u64)) w_10.length false)) 11 (.v (.int .i64 i_11))) 12 (.v (.int .i64 k_12))), ⟨(upd nofresh 1 (.cells 1 [.v (.int .i64 t6.U), .v (.int .i64 t6.V), .v (.int .i64 t6.Tier)] 0)), 64⟩⟩ : St) ∧ ref14Search_L2 (ref14Search_L1 n1) m t6 c_8 names_9 w_10 i_11 k_12 = some r) FUEL ?_ ?_ ?_
   ·
    rintro s ⟨_, _, _, _, _, _, _, h⟩
    cases h
   ·
    refine ⟨_, ?_, t6, c_8, names_9, w_10, i_11, 0, rfl, hm⟩
    exact le_canon (fun j => bif j == 1 then 1 else 0) (wV (wV (wD ((CFi .u64).sl _ _ _) (wD ((CFi .u64).sl _ _ _) (wD (CFGEdge.sl _ _ _) (wk_fset _ _ (wk_adr Z1 rfl Z7) wk_none)))))) (hW (entWk_upd (entWk_data Z3 (Nat.le_refl _) (Nat.zero_le _) (CFGEdge.dat t6)) entWk_none))
   ·
    rintro n2 s ⟨t6, c_8, names_9, w_10, i_11, k_12, rfl, hm⟩
    replace hm : ref14Search_B2 (ref14Search_L1 n1) (ref14Search_L2 (ref14Search_L1 n1) n2) t6 c_8 names_9 w_10 i_11 k_12 = some r := hm
    unfold ref14Search_B2 at hm
    refine AWp.seq' ?_
    refine sr (N' := 128) rfl ?_
    iterate 4 refine pA ?_
    refine fs ?_
    refine AWp.condM hm Z1 (fun _ hm => ?_) (fun _ hm => ?_)
    ·
     refine AWp.skip ?_
     refine normSeq ?_
     refine AWp.seq' ?_
     refine AWp.block ?_
     refine sd mix (by kernel_rfl) (N' := 192) rfl ?_
     iterate 2 refine pA ?_
     obtain ⟨x10, h9, hm⟩ := bnd hm
     refine pu rfl (ap_idx (CFi .u64) Zd Try.underlying41 sz51 Z1 rfl Z1 h9) ?_
     iterate 3 refine pA ?_
     obtain ⟨x12, h11, hm⟩ := bnd hm
     refine pu rfl (ap_idx (CFi .u64) Zd Try.underlying41 sz51 Z1 rfl Z1 h11) ?_
     iterate 2 refine pA ?_
     refine fs ?_
     refine AWp.condM hm Z1 (fun _ hm => ?_) (fun _ hm => ?_)
     ·
      refine sr (N' := 256) rfl ?_
      iterate 2 refine pA ?_
      obtain ⟨x14, h13, hm⟩ := bnd hm
      refine pu rfl (ap_idx CFGEdge Zd Try.underlying25 sz38 Z1 rfl Z1 h13) ?_
      refine pA ?_
      refine ARun.heap0 (id := 196) rfl (ah_var (ys := [.v (.int .i64 x14.U), .v (.int .i64 x14.V), .v (.int .i64 x14.Tier)]) sz38 Z1 Z1 Z3 rfl (Nat.le_of_ble_eq_true rfl) Z9 rfl) ?_
      refine pA ?_
      refine fs ?_
      refine AWp.ret ?_
      refine retIn ?_
      refine retSeq ?_
      refine retThen ?_
      refine retIn ?_
      refine retIn ?_
      refine retSeq ?_
      refine retThen ?_
      refine retIn ?_
      refine retSeq ?_
      cases hm
      exact retL (.inr rfl) (by rw [Try.results49]) (.cell (ap_ldv' Z1 Z3 Z2) (.tmp Z1 .nil)) rfl (tdt (.cons (td rfl (.agg _ (CFGEdge.dat _))) (.cons (td rfl (.v _)) .nil)))
     ·
      refine AWp.skip ?_
      refine normIn ?_
      refine normSeq ?_
      refine AWp.reg 64 (N' := 256) rfl ?_
      iterate 3 refine pA ?_
      refine ARun.fin ?_
      refine normThen ?_
      refine ⟨_, ?_, t6, c_8, names_9, w_10, i_11, (IntKind.i64.wrap (k_12 + 1)), rfl, hm⟩
      exact le_canon (fun j => bif j == 1 then 1 else 0) (wV (wV (wD ((CFi .u64).sl _ _ _) (wD ((CFi .u64).sl _ _ _) (wD (CFGEdge.sl _ _ _) (wk_fset _ _ (wk_adr Z1 rfl Z7) wk_none)))))) (hW (entWk_upd (entWk_data Z3 (Nat.le_refl _) (Nat.zero_le _) (CFGEdge.dat t6)) entWk_none))
    ·
     refine AWp.exit ?_
     refine exitSeq ?_
     refine exitThen ?_
     refine exitHere ?_
     refine normIn ?_
     refine normSeq ?_
     refine AWp.reg 64 (N' := 192) rfl ?_
     iterate 3 refine pA ?_
     refine ARun.fin ?_
     refine normThen ?_
     refine ⟨_, ?_, t6, c_8, names_9, w_10, (IntKind.i64.wrap (i_11 + 1)), rfl, hm⟩
     exact le_canon (fun j => bif j == 1 then 1 else 0) (wV (wD ((CFi .u64).sl _ _ _) (wD ((CFi .u64).sl _ _ _) (wD (CFGEdge.sl _ _ _) (wk_fset _ _ (wk_adr Z1 rfl Z7) wk_none))))) (hW (entWk_upd (entWk_data Z3 (Nat.le_refl _) (Nat.zero_le _) (CFGEdge.dat t6)) entWk_none))
  ·
   refine AWp.exit ?_
   refine exitSeq ?_
   refine exitThen ?_
   refine exitHere ?_
   refine normSeq ?_
   refine sr (N' := 192) rfl ?_
   refine pu rfl (by simp only [go_sem, Nat.reduceBEq]; exact (by kernel_rfl : abuild Try.prog 38 [] = some (.agg [.v (.int .i64 0), .v (.int .i64 0), .v (.int .i64 0)]))) ?_
   refine ARun.heap0 (id := 129) rfl (ah_var (ys := [.v (.int .i64 0), .v (.int .i64 0), .v (.int .i64 0)]) sz38 Z1 Z1 Z3 rfl (Nat.le_of_ble_eq_true rfl) Z9 rfl) ?_
   refine pA ?_
   refine fs ?_
   refine AWp.ret ?_
   cases hm
   exact retL (.inr rfl) (by rw [Try.results49]) (.cell (ap_ldv' Z1 Z3 Z2) (.tmp Z1 .nil)) rfl (tdt (.cons (td rfl (.agg _ (CFGEdge.dat (GEdge.mk 0 0 0)))) (.cons (td rfl (.v _)) .nil)))
def ref05Same_B1 (rec1 : List Int → List Int → Int → Option (Bool)) (a_0 : List Int) (b_1 : List Int) (i_5 : Int) : Option (Bool) :=
 (bif (decide (i_5 < (a_0.length : Int))) then
  ((idx a_0 i_5).bind fun x2 =>
  ((idx b_1 i_5).bind fun x4 =>
  (bif (x2 != x4) then
   some false
  else
   rec1 a_0 b_1 (IntKind.i64.wrap (i_5 + 1)))))
 else
  some true)
def ref05Same_L1 : Nat → List Int → List Int → Int → Option (Bool)
 | 0 => fun _ _ _ => none
 | n + 1 => ref05Same_B1 (ref05Same_L1 n)
def ref05Same_m (a_0 : List Int) (b_1 : List Int) : Option (Bool) :=
 (bif ((a_0.length : Int) != (b_1.length : Int)) then
  some false
 else
  ref05Same_L1 FUEL a_0 b_1 0)
theorem ref05Same_c {a_0 : List Int} {b_1 : List Int} {r : Bool} (hm : ref05Same_m a_0 b_1 = some r) : PureC Try.prog 50 [.sl (a_0.flatMap (ci .u64)) a_0.length false, .sl (b_1.flatMap (ci .u64)) b_1.length false] (.v (.bool r)) := by
 refine PureC.of_body Try.func50 rfl ?_
 simp only [Try.ntmps50, List.length_cons, List.length_nil, Nat.reduceAdd, Nat.reduceSub, empty_eq]
 unfold ref05Same_m at hm
 refine sr (N' := 64) rfl ?_
 refine pA ?_
 refine fs ?_
 refine AWp.seq' ?_
 refine sr (N' := 128) rfl ?_
 iterate 5 refine pA ?_
 refine fs ?_
 refine AWp.condM hm Z1 (fun _ hm => ?_) (fun _ hm => ?_)
 ·
  refine sr (N' := 192) rfl ?_
  refine pA ?_
  refine fs ?_
  refine AWp.ret ?_
  refine retSeq ?_
  cases hm
  exact ret1D (.inr rfl) Try.results50 (td Z1 (.v _))
 ·
  refine AWp.skip ?_
  refine normSeq ?_
  refine AWp.seq' ?_
  refine sr (N' := 192) rfl ?_
  refine pA ?_
  refine fs ?_
  refine AWp.block ?_
  refine AWp.loopM (fun m s => ∃ (a_0 : List Int) (b_1 : List Int) (i_5 : Int), s = (⟨26, (fset (fset (fset (fun _ => AV.any) 0 (.sl (a_0.flatMap (ci .u64)) a_0.length false)) 1 (.sl (b_1.flatMap (ci .u64)) b_1.length false)) 5 (.v (.int .i64 i_5))), ⟨nofresh, 64⟩⟩ : St) ∧ ref05Same_L1 m a_0 b_1 i_5 = some r) FUEL ?_ ?_ ?_
  ·
   rintro s ⟨_, _, _, _, h⟩
   cases h
  ·
   refine ⟨_, ?_, a_0, b_1, 0, rfl, hm⟩
   exact le_canon id (wV (wD ((CFi .u64).sl _ _ _) (wD ((CFi .u64).sl _ _ _) wk_none))) heapWk0
  ·
   rintro n1 s ⟨a_0, b_1, i_5, rfl, hm⟩
   replace hm : ref05Same_B1 (ref05Same_L1 n1) a_0 b_1 i_5 = some r := hm
   unfold ref05Same_B1 at hm
   refine AWp.seq' ?_
   refine sr (N' := 128) rfl ?_
   iterate 4 refine pA ?_
   refine fs ?_
   refine AWp.condM hm Z1 (fun _ hm => ?_) (fun _ hm => ?_)
   ·
    refine AWp.skip ?_
    refine normSeq ?_
    refine AWp.seq' ?_
    refine AWp.block ?_
    refine sd mix (by kernel_rfl) (N' := 192) rfl ?_
    iterate 2 refine pA ?_
    obtain ⟨x2, h1, hm⟩ := bnd hm
    refine pu rfl (ap_idx (CFi .u64) Zd Try.underlying41 sz51 Z1 rfl Z1 h1) ?_
    iterate 3 refine pA ?_
    obtain ⟨x4, h3, hm⟩ := bnd hm
    refine pu rfl (ap_idx (CFi .u64) Zd Try.underlying41 sz51 Z1 rfl Z1 h3) ?_
    iterate 2 refine pA ?_
    refine fs ?_
    refine AWp.condM hm Z1 (fun _ hm => ?_) (fun _ hm => ?_)
    ·
     refine sr (N' := 256) rfl ?_
     refine pA ?_
     refine fs ?_
     refine AWp.ret ?_
     refine retIn ?_
     refine retSeq ?_
     refine retThen ?_
     refine retIn ?_
     refine retSeq ?_
     cases hm
     exact ret1D (.inr rfl) Try.results50 (td Z1 (.v _))
    ·
     refine AWp.skip ?_
     refine normIn ?_
     refine normSeq ?_
     refine AWp.reg 64 (N' := 256) rfl ?_
     iterate 3 refine pA ?_
     refine ARun.fin ?_
     refine normThen ?_
     refine ⟨_, ?_, a_0, b_1, (IntKind.i64.wrap (i_5 + 1)), rfl, hm⟩
     exact le_canon id (wV (wD ((CFi .u64).sl _ _ _) (wD ((CFi .u64).sl _ _ _) wk_none))) heapWk0
   ·
    refine AWp.exit ?_
    refine exitSeq ?_
    refine exitThen ?_
    refine exitHere ?_
    refine normSeq ?_
    refine sr (N' := 192) rfl ?_
    refine pA ?_
    refine fs ?_
    refine AWp.ret ?_
    cases hm
    exact ret1D (.inr rfl) Try.results50 (td Z1 (.v _))
def SearchTells_m (g_0 : GGraph) (tier_1 : Int) (v_2 : Int) : Option (Bool) :=
 ((ref14Small_m g_0).bind fun r2 =>
 (bif (!r2) then
  ((law14Awake_m ).bind fun r4 =>
  some r4)
 else
  ((ref14Right_m g_0).bind fun r6 =>
  ((searchHashes_m g_0 tier_1).bind fun r8 =>
  ((searchTree_m g_0 tier_1 v_2).bind fun r10 =>
  ((searchWords_m g_0 tier_1 v_2).bind fun r12 =>
  ((searchSearch_m g_0 tier_1 v_2).bind fun ⟨r14, r15⟩ =>
  ((searchRight_m g_0).bind fun r17 =>
  (bif (!(r17 == r6)) then
   some false
  else
   ((gopt ((r6 && (decide (0 ≤ tier_1))) == true) [] (law14Hashes_m g_0 tier_1 (decide (tier_1 < g_0.Config.L)))).bind fun r19 =>
   ((gopt ((r6 && (decide (0 ≤ tier_1))) == true) false (ref14Same_m r8 r19)).bind fun r21 =>
   (bif ((((r6 && (decide (0 ≤ tier_1))) && (!((decide (tier_1 < g_0.Config.L)) == r21))) && (decide (tier_1 < g_0.Config.L))) || ((!((r6 && (decide (0 ≤ tier_1))) && (decide (tier_1 < g_0.Config.L)))) && ((r8.length : Int) != 0))) then
    some false
   else
    (bif ((!(((r6 && (decide (0 ≤ v_2))) && (decide (v_2 < g_0.Config.N))) && (decide (0 ≤ tier_1)))) || (decide (g_0.Config.L < tier_1))) then
     ((gopt (((((IntKind.i64.wrap ((r10.length : Int) + (r12.length : Int))) == 0) && ((r14.U == 0) && ((r14.V == 0) && (r14.Tier == 0)))) && (!r15)) == true) false (law14Awake_m )).bind fun r23 =>
     some (((((IntKind.i64.wrap ((r10.length : Int) + (r12.length : Int))) == 0) && ((r14.U == 0) && ((r14.V == 0) && (r14.Tier == 0)))) && (!r15)) && r23))
    else
     ((ref14Tree_m g_0 tier_1 v_2).bind fun r25 =>
     ((ref06Same_m r10 r25).bind fun r27 =>
     (bif (!r27) then
      some false
     else
      (bif (!(decide (tier_1 < g_0.Config.L))) then
       ((gopt (((((r12.length : Int) == 0) && ((r14.U == 0) && ((r14.V == 0) && (r14.Tier == 0)))) && (!r15)) == true) false (law14Awake_m )).bind fun r29 =>
       some (((((r12.length : Int) == 0) && ((r14.U == 0) && ((r14.V == 0) && (r14.Tier == 0)))) && (!r15)) && r29))
      else
       ((ref14Search_m g_0 tier_1 v_2).bind fun ⟨r31, r32⟩ =>
       ((ref14Words_m g_0 tier_1 v_2).bind fun r34 =>
       ((ref05Same_m r12 r34).bind fun r36 =>
       ((gopt (((r36 && ((r14.U == r31.U) && ((r14.V == r31.V) && (r14.Tier == r31.Tier)))) && (r15 == r32)) == true) false (law14Awake_m )).bind fun r38 =>
       some (((r36 && ((r14.U == r31.U) && ((r14.V == r31.V) && (r14.Tier == r31.Tier)))) && (r15 == r32)) && r38))))))))))))))))))))))
theorem SearchTells_c {g_0 : GGraph} {tier_1 : Int} {v_2 : Int} {r : Bool} (hm : SearchTells_m g_0 tier_1 v_2 = some r) : PureC Try.prog 6 [.agg [.v (.int .i64 g_0.Config.N), .v (.int .i64 g_0.Config.L), .v (.int .i64 g_0.Config.R), .sl (g_0.Hashes.flatMap cGHash) g_0.Hashes.length false, .sl (g_0.Edges.flatMap cGEdge) g_0.Edges.length false], .v (.int .i64 tier_1), .v (.int .i64 v_2)] (.v (.bool r)) := by
 refine PureC.of_body Try.func6 rfl ?_
 simp only [Try.ntmps6, List.length_cons, List.length_nil, Nat.reduceAdd, Nat.reduceSub, empty_eq]
 unfold SearchTells_m at hm
 refine sr (N' := 64) rfl ?_
 refine hp (id := 0) rfl rfl (aheap_box Z1 Z5) ?_
 refine pA ?_
 refine fs ?_
 refine AWp.seq' ?_
 refine sr (N' := 128) rfl ?_
 refine pu rfl (ap_ldv Z1 Z3 Z2) ?_
 obtain ⟨r2, h1, hm⟩ := bnd hm
 refine ARun.callQ (r := .v (.bool r2)) Zd Z1 fb25 (fun H => (cD (.agg _ (CFGGraph.dat _)) .nil)) (ref14Small_c h1) ?_
 refine pA ?_
 refine fs ?_
 refine AWp.condM hm Z1 (fun _ hm => ?_) (fun _ hm => ?_)
 ·
  refine sr (N' := 192) rfl ?_
  obtain ⟨r4, h3, hm⟩ := bnd hm
  refine ARun.callQ (r := .v (.bool r4)) Zd Z1 fb40 (fun H => .nil) (law14Awake_c h3) ?_
  refine pA ?_
  refine fs ?_
  refine AWp.ret ?_
  refine retSeq ?_
  cases hm
  exact ret1D (.inr rfl) Try.results6 (td Z1 (.v _))
 ·
  refine AWp.skip ?_
  refine normSeq ?_
  refine sr (N' := 192) rfl ?_
  refine pu rfl (ap_ldv Z1 Z3 Z2) ?_
  obtain ⟨r6, h5, hm⟩ := bnd hm
  refine ARun.callQ (r := .v (.bool r6)) Zd Z1 fb29 (fun H => (cD (.agg _ (CFGGraph.dat _)) .nil)) (ref14Right_c h5) ?_
  refine pA ?_
  refine fs ?_
  refine sd mix (by kernel_rfl) (N' := 256) rfl ?_
  refine pu rfl (ap_ldv Z1 Z3 Z2) ?_
  refine pA ?_
  obtain ⟨r8, h7, hm⟩ := bnd hm
  refine ARun.callQ (r := .sl (r8.flatMap cGHash) r8.length false) Zd Z1 fb41 (fun H => (cD (.agg _ (CFGGraph.dat _)) (cV .nil))) (searchHashes_c h7) ?_
  refine pu rfl (ap_ldv Z1 Z3 Z2) ?_
  iterate 2 refine pA ?_
  obtain ⟨r10, h9, hm⟩ := bnd hm
  refine ARun.callQ (r := .sl (r10.flatMap (ci .i64)) r10.length false) Zd Z1 fb42 (fun H => (cD (.agg _ (CFGGraph.dat _)) (cV (cV .nil)))) (searchTree_c h9) ?_
  refine pu rfl (ap_ldv Z1 Z3 Z2) ?_
  iterate 2 refine pA ?_
  obtain ⟨r12, h11, hm⟩ := bnd hm
  refine ARun.callQ (r := .sl (r12.flatMap (ci .u64)) r12.length false) Zd Z1 fb43 (fun H => (cD (.agg _ (CFGGraph.dat _)) (cV (cV .nil)))) (searchWords_c h11) ?_
  iterate 3 refine pA ?_
  refine fs ?_
  refine sr (N' := 320) rfl ?_
  refine pu rfl (ap_ldv Z1 Z3 Z2) ?_
  iterate 2 refine pA ?_
  obtain ⟨⟨r14, r15⟩, h13, hm⟩ := bnd hm
  refine ARun.callQ (r := .tup [.agg [.v (.int .i64 r14.U), .v (.int .i64 r14.V), .v (.int .i64 r14.Tier)], .v (.bool r15)]) Zd Z1 fb44 (fun H => (cD (.agg _ (CFGGraph.dat _)) (cV (cV .nil)))) (searchSearch_c h13) ?_
  iterate 3 refine pA ?_
  refine hp (id := 263) rfl rfl (aheap_alloc' zc38 Z5) ?_
  refine ARun.heap0 (id := 264) rfl (ah_var (ys := [.v (.int .i64 r14.U), .v (.int .i64 r14.V), .v (.int .i64 r14.Tier)]) sz38 Z1 Z1 Z3 rfl (Nat.le_of_ble_eq_true rfl) Z9 rfl) ?_
  refine pA ?_
  refine fs ?_
  refine AWp.seq' ?_
  refine sr (N' := 384) rfl ?_
  refine pu rfl (ap_ldv Z1 Z3 Z2) ?_
  obtain ⟨r17, h16, hm⟩ := bnd hm
  refine ARun.callQ (r := .v (.bool r17)) Zd Z1 fb45 (fun H => (cD (.agg _ (CFGGraph.dat _)) .nil)) (searchRight_c h16) ?_
  iterate 2 refine pA ?_
  refine fs ?_
  refine AWp.condM hm Z1 (fun _ hm => ?_) (fun _ hm => ?_)
  ·
   refine sr (N' := 448) rfl ?_
   refine pA ?_
   refine fs ?_
   refine AWp.ret ?_
   refine retSeq ?_
   cases hm
   exact ret1D (.inr rfl) Try.results6 (td Z1 (.v _))
  ·
   refine AWp.skip ?_
   refine normSeq ?_
   refine sd mix (by kernel_rfl) (N' := 448) rfl ?_
   iterate 9 first | refine pA ?_ | refine pB ?_
   refine pg rfl rfl Z2 (fun hb => (ap_ldv (Zh hb) Z3 Z4)) ?_
   iterate 9 first | refine pA ?_ | refine pB ?_
   refine pu rfl (ap_ldv Z1 Z3 Z4) ?_
   iterate 3 refine pA ?_
   refine fs ?_
   refine AWp.seq' ?_
   refine sr (N' := 512) rfl ?_
   iterate 8 first | refine pA ?_ | refine pB ?_
   refine pg rfl rfl Z2 (fun hb => (ap_ldv (Zh hb) Z3 Z2)) ?_
   iterate 2 refine pB ?_
   obtain ⟨r19, h18, hm⟩ := bnd hm
   refine ARun.callQG (r := .sl (r19.flatMap cGHash) r19.length false) Zd rfl Z2 Z1 fb47 (fun hb H => (.cons (td (Zh hb) (.agg _ (CFGGraph.dat _))) (.cons (td (Zh hb) (.v _)) (.cons (td (Zh hb) (.v _)) .nil)))) (fun hb => law14Hashes_c (gopt_t h18 hb)) ?_
   obtain ⟨r21, h20, hm⟩ := bnd hm
   refine ARun.callQG (r := .v (.bool r21)) Zd rfl Z2 Z1 fb46 (fun hb H => (.cons (td (Zh hb) (CFGHash.sl _ _ _)) (.cons (td (Zh hb) (CFGHash.sl _ _ _)) .nil))) (fun hb => ref14Same_c (gopt_t h20 hb)) ?_
   iterate 21 first | refine pA ?_ | refine pB ?_
   refine fs ?_
   refine AWp.condM hm Z1 (fun _ hm => ?_) (fun _ hm => ?_)
   ·
    refine sr (N' := 576) rfl ?_
    refine pA ?_
    refine fs ?_
    refine AWp.ret ?_
    refine retSeq ?_
    cases hm
    exact ret1D (.inr rfl) Try.results6 (td Z1 (.v _))
   ·
    refine AWp.skip ?_
    refine normSeq ?_
    refine AWp.seq' ?_
    refine sr (N' := 576) rfl ?_
    iterate 6 first | refine pA ?_ | refine pB ?_
    refine pg rfl rfl Z2 (fun hb => (ap_ldv (Zh hb) Z3 Z4)) ?_
    iterate 2 first | refine pA ?_ | refine pB ?_
    refine fs ?_
    refine AWp.condM hm Z1 (fun _ hm => ?_) (fun _ hm => ?_)
    ·
     refine sr (N' := 640) rfl ?_
     iterate 7 refine pA ?_
     refine pg rfl rfl Z2 (fun hb => (ap_ldv (Zh hb) Z3 Z2)) ?_
     refine pg rfl rfl Z2 (fun hb => (by simp only [go_sem, Nat.reduceBEq, hb, Bool.true_and]; exact (by kernel_rfl : abuild Try.prog 38 [] = some (.agg [.v (.int .i64 0), .v (.int .i64 0), .v (.int .i64 0)])))) ?_
     iterate 7 first | refine pA ?_ | refine pB ?_
     obtain ⟨r23, h22, hm⟩ := bnd hm
     refine ARun.callQG (r := .v (.bool r23)) Zd rfl Z2 Z1 fb40 (fun hb H => .nil) (fun hb => law14Awake_c (gopt_t h22 hb)) ?_
     iterate 2 refine pA ?_
     refine fs ?_
     refine AWp.ret ?_
     refine retSeq ?_
     cases hm
     exact ret1D (.inr rfl) Try.results6 (td Z1 (.v _))
    ·
     refine AWp.skip ?_
     refine normSeq ?_
     refine AWp.seq' ?_
     refine sr (N' := 640) rfl ?_
     refine pA ?_
     refine pu rfl (ap_ldv Z1 Z3 Z2) ?_
     iterate 2 refine pA ?_
     obtain ⟨r25, h24, hm⟩ := bnd hm
     refine ARun.callQ (r := .sl (r25.flatMap (ci .i64)) r25.length false) Zd Z1 fb48 (fun H => (cD (.agg _ (CFGGraph.dat _)) (cV (cV .nil)))) (ref14Tree_c h24) ?_
     obtain ⟨r27, h26, hm⟩ := bnd hm
     refine ARun.callQ (r := .v (.bool r27)) Zd Z1 fb34 (fun H => (cD ((CFi .i64).sl _ _ _) (cD ((CFi .i64).sl _ _ _) .nil))) (ref06Same_c h26) ?_
     refine pA ?_
     refine fs ?_
     refine AWp.condM hm Z1 (fun _ hm => ?_) (fun _ hm => ?_)
     ·
      refine sr (N' := 704) rfl ?_
      refine pA ?_
      refine fs ?_
      refine AWp.ret ?_
      refine retSeq ?_
      cases hm
      exact ret1D (.inr rfl) Try.results6 (td Z1 (.v _))
     ·
      refine AWp.skip ?_
      refine normSeq ?_
      refine AWp.seq' ?_
      refine sr (N' := 704) rfl ?_
      iterate 2 refine pA ?_
      refine fs ?_
      refine AWp.condM hm Z1 (fun _ hm => ?_) (fun _ hm => ?_)
      ·
       refine sr (N' := 768) rfl ?_
       iterate 4 refine pA ?_
       refine pg rfl rfl Z2 (fun hb => (ap_ldv (Zh hb) Z3 Z2)) ?_
       refine pg rfl rfl Z2 (fun hb => (by simp only [go_sem, Nat.reduceBEq, hb, Bool.true_and]; exact (by kernel_rfl : abuild Try.prog 38 [] = some (.agg [.v (.int .i64 0), .v (.int .i64 0), .v (.int .i64 0)])))) ?_
       iterate 7 first | refine pA ?_ | refine pB ?_
       obtain ⟨r29, h28, hm⟩ := bnd hm
       refine ARun.callQG (r := .v (.bool r29)) Zd rfl Z2 Z1 fb40 (fun hb H => .nil) (fun hb => law14Awake_c (gopt_t h28 hb)) ?_
       iterate 2 refine pA ?_
       refine fs ?_
       refine AWp.ret ?_
       refine retSeq ?_
       cases hm
       exact ret1D (.inr rfl) Try.results6 (td Z1 (.v _))
      ·
       refine AWp.skip ?_
       refine normSeq ?_
       refine sr (N' := 768) rfl ?_
       refine pu rfl (ap_ldv Z1 Z3 Z2) ?_
       iterate 2 refine pA ?_
       obtain ⟨⟨r31, r32⟩, h30, hm⟩ := bnd hm
       refine ARun.callQ (r := .tup [.agg [.v (.int .i64 r31.U), .v (.int .i64 r31.V), .v (.int .i64 r31.Tier)], .v (.bool r32)]) Zd Z1 fb49 (fun H => (cD (.agg _ (CFGGraph.dat _)) (cV (cV .nil)))) (ref14Search_c h30) ?_
       iterate 3 refine pA ?_
       refine hp (id := 711) rfl rfl (aheap_alloc' zc38 Z5) ?_
       refine ARun.heap0 (id := 712) rfl (ah_var (ys := [.v (.int .i64 r31.U), .v (.int .i64 r31.V), .v (.int .i64 r31.Tier)]) sz38 Z1 Z1 Z3 rfl (Nat.le_of_ble_eq_true rfl) Z9 rfl) ?_
       refine pA ?_
       refine fs ?_
       refine sr (N' := 832) rfl ?_
       refine pA ?_
       refine pu rfl (ap_ldv Z1 Z3 Z2) ?_
       iterate 2 refine pA ?_
       obtain ⟨r34, h33, hm⟩ := bnd hm
       refine ARun.callQ (r := .sl (r34.flatMap (ci .u64)) r34.length false) Zd Z1 fb51 (fun H => (cD (.agg _ (CFGGraph.dat _)) (cV (cV .nil)))) (ref14Words_c h33) ?_
       obtain ⟨r36, h35, hm⟩ := bnd hm
       refine ARun.callQ (r := .v (.bool r36)) Zd Z1 fb50 (fun H => (cD ((CFi .u64).sl _ _ _) (cD ((CFi .u64).sl _ _ _) .nil))) (ref05Same_c h35) ?_
       refine pA ?_
       refine pg rfl rfl Z2 (fun hb => (ap_ldv (Zh hb) Z3 Z2)) ?_
       refine pg rfl rfl Z2 (fun hb => (ap_ldv (Zh hb) Z3 Z2)) ?_
       iterate 8 first | refine pA ?_ | refine pB ?_
       obtain ⟨r38, h37, hm⟩ := bnd hm
       refine ARun.callQG (r := .v (.bool r38)) Zd rfl Z2 Z1 fb40 (fun hb H => .nil) (fun hb => law14Awake_c (gopt_t h37 hb)) ?_
       iterate 2 refine pA ?_
       refine fs ?_
       refine AWp.ret ?_
       cases hm
       exact ret1D (.inr rfl) Try.results6 (td Z1 (.v _))
def ref12Find_B1 (rec1 : List GEdge → Int → Int → Int → Option (Int)) (l_0 : List GEdge) (u_1 : Int) (v_2 : Int) (i_7 : Int) : Option (Int) :=
 (bif (decide (i_7 < (l_0.length : Int))) then
  ((idx l_0 i_7).bind fun x2 =>
  ((gopt ((x2.U == u_1) == true) (GEdge.mk 0 0 0) (idx l_0 i_7)).bind fun x4 =>
  ((gopt (((x2.U == u_1) && (x4.V == v_2)) == false) (GEdge.mk 0 0 0) (idx l_0 i_7)).bind fun x6 =>
  ((gopt ((((x2.U == u_1) && (x4.V == v_2)) == false) && ((x6.U == v_2) == true)) (GEdge.mk 0 0 0) (idx l_0 i_7)).bind fun x8 =>
  (bif (((x2.U == u_1) && (x4.V == v_2)) || ((x6.U == v_2) && (x8.V == u_1))) then
   some i_7
  else
   rec1 l_0 u_1 v_2 (IntKind.i64.wrap (i_7 + 1)))))))
 else
  some (-1))
def ref12Find_L1 : Nat → List GEdge → Int → Int → Int → Option (Int)
 | 0 => fun _ _ _ _ => none
 | n + 1 => ref12Find_B1 (ref12Find_L1 n)
def ref12Find_m (l_0 : List GEdge) (u_1 : Int) (v_2 : Int) : Option (Int) :=
 ref12Find_L1 FUEL l_0 u_1 v_2 0
theorem ref12Find_c {l_0 : List GEdge} {u_1 : Int} {v_2 : Int} {r : Int} (hm : ref12Find_m l_0 u_1 v_2 = some r) : PureC Try.prog 53 [.sl (l_0.flatMap cGEdge) l_0.length false, .v (.int .i64 u_1), .v (.int .i64 v_2)] (.v (.int .i64 r)) := by
 refine PureC.of_body Try.func53 rfl ?_
 simp only [Try.ntmps53, List.length_cons, List.length_nil, Nat.reduceAdd, Nat.reduceSub, empty_eq]
 unfold ref12Find_m at hm
 refine sr (N' := 64) rfl ?_
 refine pA ?_
 refine fs ?_
 refine AWp.seq' ?_
 refine sr (N' := 128) rfl ?_
 refine pA ?_
 refine fs ?_
 refine AWp.block ?_
 refine AWp.loopM (fun m s => ∃ (l_0 : List GEdge) (u_1 : Int) (v_2 : Int) (i_7 : Int), s = (⟨49, (fset (fset (fset (fset (fun _ => AV.any) 0 (.sl (l_0.flatMap cGEdge) l_0.length false)) 1 (.v (.int .i64 u_1))) 2 (.v (.int .i64 v_2))) 7 (.v (.int .i64 i_7))), ⟨nofresh, 64⟩⟩ : St) ∧ ref12Find_L1 m l_0 u_1 v_2 i_7 = some r) FUEL ?_ ?_ ?_
 ·
  rintro s ⟨_, _, _, _, _, h⟩
  cases h
 ·
  refine ⟨_, ?_, l_0, u_1, v_2, 0, rfl, hm⟩
  exact le_canon id (wV (wV (wV (wD (CFGEdge.sl _ _ _) wk_none)))) heapWk0
 ·
  rintro n1 s ⟨l_0, u_1, v_2, i_7, rfl, hm⟩
  replace hm : ref12Find_B1 (ref12Find_L1 n1) l_0 u_1 v_2 i_7 = some r := hm
  unfold ref12Find_B1 at hm
  refine AWp.seq' ?_
  refine sr (N' := 128) rfl ?_
  iterate 4 refine pA ?_
  refine fs ?_
  refine AWp.condM hm Z1 (fun _ hm => ?_) (fun _ hm => ?_)
  ·
   refine AWp.skip ?_
   refine normSeq ?_
   refine AWp.seq' ?_
   refine AWp.block ?_
   refine sr (N' := 192) rfl ?_
   iterate 2 refine pA ?_
   obtain ⟨x2, h1, hm⟩ := bnd hm
   refine pu rfl (ap_idx CFGEdge Zd Try.underlying25 sz38 Z1 rfl Z1 h1) ?_
   iterate 7 first | refine pA ?_ | refine pB ?_
   obtain ⟨x4, h3, hm⟩ := bnd hm
   refine pg rfl rfl Z2 (fun hb => (ap_idx CFGEdge Zd Try.underlying25 sz38 (Zh hb) rfl (Zh hb) (gopt_t h3 hb))) ?_
   iterate 8 first | refine pA ?_ | refine pB ?_
   obtain ⟨x6, h5, hm⟩ := bnd hm
   refine pg rfl rfl Z2 (fun hb => (ap_idx CFGEdge Zd Try.underlying25 sz38 (Zh hb) rfl (Zh hb) (gopt_t h5 hb))) ?_
   iterate 7 refine pB ?_
   obtain ⟨x8, h7, hm⟩ := bnd hm
   refine pg rfl rfl Z2 (fun hb => (ap_idx CFGEdge Zd Try.underlying25 sz38 (Zh hb) rfl (Zh hb) (gopt_t h7 hb))) ?_
   iterate 6 first | refine pA ?_ | refine pB ?_
   refine fs ?_
   refine AWp.condM hm Z1 (fun _ hm => ?_) (fun _ hm => ?_)
   ·
    refine sr (N' := 256) rfl ?_
    iterate 2 refine pA ?_
    refine fs ?_
    refine AWp.ret ?_
    refine retIn ?_
    refine retSeq ?_
    refine retThen ?_
    refine retIn ?_
    refine retSeq ?_
    cases hm
    exact ret1D (.inr rfl) Try.results53 (td Z1 (.v _))
   ·
    refine AWp.skip ?_
    refine normIn ?_
    refine normSeq ?_
    refine AWp.reg 64 (N' := 256) rfl ?_
    iterate 3 refine pA ?_
    refine ARun.fin ?_
    refine normThen ?_
    refine ⟨_, ?_, l_0, u_1, v_2, (IntKind.i64.wrap (i_7 + 1)), rfl, hm⟩
    exact le_canon id (wV (wV (wV (wD (CFGEdge.sl _ _ _) wk_none)))) heapWk0
  ·
   refine AWp.exit ?_
   refine exitSeq ?_
   refine exitThen ?_
   refine exitHere ?_
   refine normSeq ?_
   refine sr (N' := 192) rfl ?_
   refine pA ?_
   refine fs ?_
   refine AWp.ret ?_
   cases hm
   exact ret1D (.inr rfl) Try.results53 (td Z1 (.v _))
def SearchFinds_B1 (rec1 : Int → GGraph → List Int → GEdge → Bool → List Int → Int → Int → Option (Bool)) (tier_1 : Int) (g_3 : GGraph) (t_7 : List Int) (e_9 : GEdge) (ok_10 : Bool) (t95 : List Int) (t96 : Int) (t97 : Int) : Option (Bool) :=
 (bif (decide (t97 < t96)) then
  ((idx t95 t97).bind fun x19 =>
  ((searchSearch_m g_3 tier_1 x19).bind fun ⟨r21, r22⟩ =>
  ((gopt (((!((r21.U == e_9.U) && ((r21.V == e_9.V) && (r21.Tier == e_9.Tier)))) || (!(r22 == ok_10))) == false) [] (searchTree_m g_3 tier_1 x19)).bind fun r24 =>
  ((gopt (((!((r21.U == e_9.U) && ((r21.V == e_9.V) && (r21.Tier == e_9.Tier)))) || (!(r22 == ok_10))) == false) false (ref06Same_m r24 t_7)).bind fun r26 =>
  (bif (((!((r21.U == e_9.U) && ((r21.V == e_9.V) && (r21.Tier == e_9.Tier)))) || (!(r22 == ok_10))) || (!r26)) then
   some false
  else
   rec1 tier_1 g_3 t_7 e_9 ok_10 t95 t96 (IntKind.i64.wrap (t97 + 1)))))))
 else
  ((law14Awake_m ).bind fun r28 =>
  some r28))
def SearchFinds_L1 : Nat → Int → GGraph → List Int → GEdge → Bool → List Int → Int → Int → Option (Bool)
 | 0 => fun _ _ _ _ _ _ _ _ => none
 | n + 1 => SearchFinds_B1 (SearchFinds_L1 n)
def SearchFinds_m (g_0 : GGraph) (tier_1 : Int) (v_2 : Int) : Option (Bool) :=
 ((ref14Small_m g_0).bind fun r2 =>
 ((gopt ((!r2) == false) false (searchRight_m g_0)).bind fun r4 =>
 (bif ((((((!r2) || (!r4)) || (decide (tier_1 < 0))) || (decide (g_0.Config.L ≤ tier_1))) || (decide (v_2 < 0))) || (decide (g_0.Config.N ≤ v_2))) then
  ((law14Awake_m ).bind fun r6 =>
  some r6)
 else
  ((searchTree_m g_0 tier_1 v_2).bind fun r8 =>
  ((ref13Cut_m g_0.Edges r8).bind fun r10 =>
  ((searchSearch_m g_0 tier_1 v_2).bind fun ⟨r12, r13⟩ =>
  ((gopt (r13 == true) 0 (ref12Find_m r10 r12.U r12.V)).bind fun r15 =>
  ((gopt (((((r13 && (decide (r15 < 0))) || (((r10.length : Int) == 0) && r13)) == false) && (((r10.length : Int) == 1) == true)) && ((!r13) == false)) (GEdge.mk 0 0 0) (idx r10 0)).bind fun x17 =>
  (bif (((r13 && (decide (r15 < 0))) || (((r10.length : Int) == 0) && r13)) || (((r10.length : Int) == 1) && ((!r13) || (!((r12.U == x17.U) && ((r12.V == x17.V) && (r12.Tier == x17.Tier))))))) then
   some false
  else
   SearchFinds_L1 FUEL tier_1 g_0 r8 r12 r13 r8 (r8.length : Int) 0)))))))))
theorem SearchFinds_c {g_0 : GGraph} {tier_1 : Int} {v_2 : Int} {r : Bool} (hm : SearchFinds_m g_0 tier_1 v_2 = some r) : PureC Try.prog 7 [.agg [.v (.int .i64 g_0.Config.N), .v (.int .i64 g_0.Config.L), .v (.int .i64 g_0.Config.R), .sl (g_0.Hashes.flatMap cGHash) g_0.Hashes.length false, .sl (g_0.Edges.flatMap cGEdge) g_0.Edges.length false], .v (.int .i64 tier_1), .v (.int .i64 v_2)] (.v (.bool r)) := by
 refine PureC.of_body Try.func7 rfl ?_
 simp only [Try.ntmps7, List.length_cons, List.length_nil, Nat.reduceAdd, Nat.reduceSub, empty_eq]
 unfold SearchFinds_m at hm
 refine sr (N' := 64) rfl ?_
 refine hp (id := 0) rfl rfl (aheap_box Z1 Z5) ?_
 refine pA ?_
 refine fs ?_
 refine AWp.seq' ?_
 refine sr (N' := 128) rfl ?_
 refine pu rfl (ap_ldv Z1 Z3 Z2) ?_
 obtain ⟨r2, h1, hm⟩ := bnd hm
 refine ARun.callQ (r := .v (.bool r2)) Zd Z1 fb25 (fun H => (cD (.agg _ (CFGGraph.dat _)) .nil)) (ref14Small_c h1) ?_
 iterate 2 refine pA ?_
 refine pg rfl rfl Z2 (fun hb => (ap_ldv (Zh hb) Z3 Z2)) ?_
 obtain ⟨r4, h3, hm⟩ := bnd hm
 refine ARun.callQG (r := .v (.bool r4)) Zd rfl Z2 Z1 fb45 (fun hb H => (.cons (td (Zh hb) (.agg _ (CFGGraph.dat _))) .nil)) (fun hb => searchRight_c (gopt_t h3 hb)) ?_
 iterate 10 first | refine pA ?_ | refine pB ?_
 refine pg rfl rfl Z2 (fun hb => (ap_ldv (Zh hb) Z3 Z4)) ?_
 iterate 10 first | refine pA ?_ | refine pB ?_
 refine pg rfl rfl Z2 (fun hb => (ap_ldv (Zh hb) Z3 Z4)) ?_
 iterate 2 first | refine pA ?_ | refine pB ?_
 refine fs ?_
 refine AWp.condM hm Z1 (fun _ hm => ?_) (fun _ hm => ?_)
 ·
  refine sr (N' := 192) rfl ?_
  obtain ⟨r6, h5, hm⟩ := bnd hm
  refine ARun.callQ (r := .v (.bool r6)) Zd Z1 fb40 (fun H => .nil) (law14Awake_c h5) ?_
  refine pA ?_
  refine fs ?_
  refine AWp.ret ?_
  refine retSeq ?_
  cases hm
  exact ret1D (.inr rfl) Try.results7 (td Z1 (.v _))
 ·
  refine AWp.skip ?_
  refine normSeq ?_
  refine sr (N' := 192) rfl ?_
  refine pu rfl (ap_ldv Z1 Z3 Z2) ?_
  iterate 2 refine pA ?_
  obtain ⟨r8, h7, hm⟩ := bnd hm
  refine ARun.callQ (r := .sl (r8.flatMap (ci .i64)) r8.length false) Zd Z1 fb42 (fun H => (cD (.agg _ (CFGGraph.dat _)) (cV (cV .nil)))) (searchTree_c h7) ?_
  refine pA ?_
  refine fs ?_
  refine sr (N' := 256) rfl ?_
  refine pA ?_
  refine pu rfl (ap_ldv Z1 Z3 Z4) ?_
  refine pA ?_
  obtain ⟨r10, h9, hm⟩ := bnd hm
  refine ARun.callQ (r := .sl (r10.flatMap cGEdge) r10.length false) Zd Z1 fb52 (fun H => (cD (CFGEdge.sl _ _ _) (cD ((CFi .i64).sl _ _ _) .nil))) (ref13Cut_c h9) ?_
  refine pA ?_
  refine fs ?_
  refine sr (N' := 320) rfl ?_
  refine pu rfl (ap_ldv Z1 Z3 Z2) ?_
  iterate 2 refine pA ?_
  obtain ⟨⟨r12, r13⟩, h11, hm⟩ := bnd hm
  refine ARun.callQ (r := .tup [.agg [.v (.int .i64 r12.U), .v (.int .i64 r12.V), .v (.int .i64 r12.Tier)], .v (.bool r13)]) Zd Z1 fb44 (fun H => (cD (.agg _ (CFGGraph.dat _)) (cV (cV .nil)))) (searchSearch_c h11) ?_
  iterate 3 refine pA ?_
  refine hp (id := 263) rfl rfl (aheap_alloc' zc38 Z5) ?_
  refine ARun.heap0 (id := 264) rfl (ah_var (ys := [.v (.int .i64 r12.U), .v (.int .i64 r12.V), .v (.int .i64 r12.Tier)]) sz38 Z1 Z1 Z3 rfl (Nat.le_of_ble_eq_true rfl) Z9 rfl) ?_
  refine pA ?_
  refine fs ?_
  refine AWp.seq' ?_
  refine sd mix (by kernel_rfl) (N' := 384) rfl ?_
  iterate 4 first | refine pA ?_ | refine pB ?_
  refine pg rfl rfl Z2 (fun hb => (ap_ldv (Zh hb) Z3 Z4)) ?_
  refine pB ?_
  refine pg rfl rfl Z2 (fun hb => (ap_ldv (Zh hb) Z3 Z4)) ?_
  obtain ⟨r15, h14, hm⟩ := bnd hm
  refine ARun.callQG (r := .v (.int .i64 r15)) Zd rfl Z2 Z1 fb53 (fun hb H => (.cons (td (Zh hb) (CFGEdge.sl _ _ _)) (.cons (td (Zh hb) (.v _)) (.cons (td (Zh hb) (.v _)) .nil)))) (fun hb => ref12Find_c (gopt_t h14 hb)) ?_
  iterate 18 first | refine pA ?_ | refine pB ?_
  refine pg rfl rfl Z2 (fun hb => (ap_ldv (Zh hb) Z3 Z2)) ?_
  refine pB ?_
  obtain ⟨x17, h16, hm⟩ := bnd hm
  refine pg rfl rfl Z2 (fun hb => (ap_idx CFGEdge Zd Try.underlying25 sz38 (Zh hb) rfl (Zh hb) (gopt_t h16 hb))) ?_
  iterate 5 first | refine pA ?_ | refine pB ?_
  refine fs ?_
  refine AWp.condM hm Z1 (fun _ hm => ?_) (fun _ hm => ?_)
  ·
   refine sr (N' := 448) rfl ?_
   refine pA ?_
   refine fs ?_
   refine AWp.ret ?_
   refine retSeq ?_
   cases hm
   exact ret1D (.inr rfl) Try.results7 (td Z1 (.v _))
  ·
   refine AWp.skip ?_
   refine normSeq ?_
   refine AWp.seq' ?_
   refine sr (N' := 448) rfl ?_
   iterate 3 refine pA ?_
   refine fs ?_
   refine AWp.block ?_
   refine AWp.loopM (fun m s => ∃ (tier_1 : Int) (g_3 : GGraph) (t_7 : List Int) (e_9 : GEdge) (ok_10 : Bool) (t95 : List Int) (t96 : Int) (t97 : Int), s = (⟨127, (fset (fset (fset (fset (fset (fset (fset (fset (fun _ => AV.any) 1 (.v (.int .i64 tier_1))) 3 (.adr 1 0)) 7 (.sl (t_7.flatMap (ci .i64)) t_7.length false)) 9 (.adr 2 0)) 10 (.v (.bool ok_10))) 95 (.sl (t95.flatMap (ci .i64)) t95.length false)) 96 (.v (.int .i64 t96))) 97 (.v (.int .i64 t97))), ⟨(upd (upd nofresh 1 (.cells 1 [.v (.int .i64 g_3.Config.N), .v (.int .i64 g_3.Config.L), .v (.int .i64 g_3.Config.R), .sl (g_3.Hashes.flatMap cGHash) g_3.Hashes.length false, .sl (g_3.Edges.flatMap cGEdge) g_3.Edges.length false] 0)) 2 (.cells 1 [.v (.int .i64 e_9.U), .v (.int .i64 e_9.V), .v (.int .i64 e_9.Tier)] 0)), 64⟩⟩ : St) ∧ SearchFinds_L1 m tier_1 g_3 t_7 e_9 ok_10 t95 t96 t97 = some r) FUEL ?_ ?_ ?_
   ·
    rintro s ⟨_, _, _, _, _, _, _, _, _, h⟩
    cases h
   ·
    refine ⟨_, ?_, tier_1, g_0, r8, r12, r13, r8, (r8.length : Int), 0, rfl, hm⟩
    exact le_canon (fun j => bif j == 1 then 0 else bif j == 2 then 263 else 0) (wV (wV (wD ((CFi .i64).sl _ _ _) (wV (wk_fset _ _ (wk_adr Z1 rfl Z7) (wD ((CFi .i64).sl _ _ _) (wk_fset _ _ (wk_adr Z1 rfl Z7) (wV wk_none)))))))) (hW (entWk_upd (entWk_data Z3 (Nat.le_refl _) (Nat.zero_le _) (CFGEdge.dat r12)) (entWk_upd (entWk_data Z3 (Nat.le_refl _) (Nat.zero_le _) (CFGGraph.dat g_0)) entWk_none)))
   ·
    rintro n1 s ⟨tier_1, g_3, t_7, e_9, ok_10, t95, t96, t97, rfl, hm⟩
    replace hm : SearchFinds_B1 (SearchFinds_L1 n1) tier_1 g_3 t_7 e_9 ok_10 t95 t96 t97 = some r := hm
    unfold SearchFinds_B1 at hm
    refine sr (N' := 128) rfl ?_
    refine pA ?_
    refine fs ?_
    refine AWp.seq' ?_
    refine AWp.condM hm Z1 (fun _ hm => ?_) (fun _ hm => ?_)
    ·
     refine AWp.skip ?_
     refine normSeq ?_
     refine AWp.seq' ?_
     refine AWp.block ?_
     refine sr (N' := 192) rfl ?_
     obtain ⟨x19, h18, hm⟩ := bnd hm
     refine pu rfl (ap_idx (CFi .i64) Zd Try.underlying30 sz3 Z1 rfl Z1 h18) ?_
     iterate 2 refine pA ?_
     refine fs ?_
     refine sr (N' := 256) rfl ?_
     refine pu rfl (ap_ldv Z1 Z3 Z2) ?_
     iterate 2 refine pA ?_
     obtain ⟨⟨r21, r22⟩, h20, hm⟩ := bnd hm
     refine ARun.callQ (r := .tup [.agg [.v (.int .i64 r21.U), .v (.int .i64 r21.V), .v (.int .i64 r21.Tier)], .v (.bool r22)]) Zd Z1 fb44 (fun H => (cD (.agg _ (CFGGraph.dat _)) (cV (cV .nil)))) (searchSearch_c h20) ?_
     iterate 3 refine pA ?_
     refine hp (id := 199) rfl rfl (aheap_alloc' zc38 Z5) ?_
     refine ARun.heap0 (id := 200) rfl (ah_var (ys := [.v (.int .i64 r21.U), .v (.int .i64 r21.V), .v (.int .i64 r21.Tier)]) sz38 Z1 Z1 Z3 rfl (Nat.le_of_ble_eq_true rfl) Z9 rfl) ?_
     refine pA ?_
     refine fs ?_
     refine sr (N' := 320) rfl ?_
     refine pu rfl (ap_ldv Z1 Z3 Z2) ?_
     refine pu rfl (ap_ldv Z1 Z3 Z2) ?_
     iterate 7 first | refine pA ?_ | refine pB ?_
     refine pg rfl rfl Z2 (fun hb => (ap_ldv (Zh hb) Z3 Z2)) ?_
     iterate 2 refine pB ?_
     obtain ⟨r24, h23, hm⟩ := bnd hm
     refine ARun.callQG (r := .sl (r24.flatMap (ci .i64)) r24.length false) Zd rfl Z2 Z1 fb42 (fun hb H => (.cons (td (Zh hb) (.agg _ (CFGGraph.dat _))) (.cons (td (Zh hb) (.v _)) (.cons (td (Zh hb) (.v _)) .nil)))) (fun hb => searchTree_c (gopt_t h23 hb)) ?_
     refine pB ?_
     obtain ⟨r26, h25, hm⟩ := bnd hm
     refine ARun.callQG (r := .v (.bool r26)) Zd rfl Z2 Z1 fb34 (fun hb H => (.cons (td (Zh hb) ((CFi .i64).sl _ _ _)) (.cons (td (Zh hb) ((CFi .i64).sl _ _ _)) .nil))) (fun hb => ref06Same_c (gopt_t h25 hb)) ?_
     iterate 2 first | refine pA ?_ | refine pB ?_
     refine fs ?_
     refine AWp.condM hm Z1 (fun _ hm => ?_) (fun _ hm => ?_)
     ·
      refine sr (N' := 384) rfl ?_
      refine pA ?_
      refine fs ?_
      refine AWp.ret ?_
      refine retIn ?_
      refine retSeq ?_
      refine retThen ?_
      refine retIn ?_
      refine retSeq ?_
      cases hm
      exact ret1D (.inr rfl) Try.results7 (td Z1 (.v _))
     ·
      refine AWp.skip ?_
      refine normIn ?_
      refine normSeq ?_
      refine AWp.reg 64 (N' := 384) rfl ?_
      iterate 2 refine pA ?_
      refine ARun.fin ?_
      refine normThen ?_
      refine ⟨_, ?_, tier_1, g_3, t_7, e_9, ok_10, t95, t96, (IntKind.i64.wrap (t97 + 1)), rfl, hm⟩
      exact le_canon (fun j => bif j == 1 then 1 else bif j == 2 then 2 else 0) (wV (wV (wD ((CFi .i64).sl _ _ _) (wV (wk_fset _ _ (wk_adr Z1 rfl Z7) (wD ((CFi .i64).sl _ _ _) (wk_fset _ _ (wk_adr Z1 rfl Z7) (wV wk_none)))))))) (hW (entWk_upd (entWk_data Z3 (Nat.le_refl _) (Nat.zero_le _) (CFGEdge.dat e_9)) (entWk_upd (entWk_data Z3 (Nat.le_refl _) (Nat.zero_le _) (CFGGraph.dat g_3)) entWk_none)))
    ·
     refine AWp.exit ?_
     refine exitSeq ?_
     refine exitThen ?_
     refine exitHere ?_
     refine normSeq ?_
     refine sr (N' := 192) rfl ?_
     obtain ⟨r28, h27, hm⟩ := bnd hm
     refine ARun.callQ (r := .v (.bool r28)) Zd Z1 fb40 (fun H => .nil) (law14Awake_c h27) ?_
     refine pA ?_
     refine fs ?_
     refine AWp.ret ?_
     cases hm
     exact ret1D (.inr rfl) Try.results7 (td Z1 (.v _))
def ref05Both_B1 (rec1 : List Int → List Int → List Int → Int → Option ((List Int))) (a_0 : List Int) (b_1 : List Int) (out_5 : List Int) (i_6 : Int) : Option ((List Int)) :=
 (bif (decide (i_6 < (a_0.length : Int))) then
  ((idx a_0 i_6).bind fun x2 =>
  ((idx b_1 i_6).bind fun x4 =>
  ((app out_5 [(bxor .u64 x2 x4)]).bind fun l6 =>
  rec1 a_0 b_1 l6 (IntKind.i64.wrap (i_6 + 1)))))
 else
  some out_5)
def ref05Both_L1 : Nat → List Int → List Int → List Int → Int → Option ((List Int))
 | 0 => fun _ _ _ _ => none
 | n + 1 => ref05Both_B1 (ref05Both_L1 n)
def ref05Both_m (a_0 : List Int) (b_1 : List Int) : Option ((List Int)) :=
 ref05Both_L1 FUEL a_0 b_1 [] 0
theorem ref05Both_c {a_0 : List Int} {b_1 : List Int} {r : (List Int)} (hm : ref05Both_m a_0 b_1 = some r) : PureC Try.prog 54 [.sl (a_0.flatMap (ci .u64)) a_0.length false, .sl (b_1.flatMap (ci .u64)) b_1.length false] (.sl (r.flatMap (ci .u64)) r.length false) := by
 refine PureC.of_body Try.func54 rfl ?_
 simp only [Try.ntmps54, List.length_cons, List.length_nil, Nat.reduceAdd, Nat.reduceSub, empty_eq]
 unfold ref05Both_m at hm
 refine sr (N' := 64) rfl ?_
 refine pA ?_
 refine fs ?_
 refine sr (N' := 128) rfl ?_
 refine pA ?_
 refine fs ?_
 refine AWp.seq' ?_
 refine sr (N' := 192) rfl ?_
 refine pA ?_
 refine fs ?_
 refine AWp.block ?_
 refine AWp.loopM (fun m s => ∃ (a_0 : List Int) (b_1 : List Int) (out_5 : List Int) (i_6 : Int), s = (⟨26, (fset (fset (fset (fset (fun _ => AV.any) 0 (.sl (a_0.flatMap (ci .u64)) a_0.length false)) 1 (.sl (b_1.flatMap (ci .u64)) b_1.length false)) 5 (.own 1 0 out_5.length)) 6 (.v (.int .i64 i_6))), ⟨(upd nofresh 1 (.cells 1 (out_5.flatMap (ci .u64)) 0)), 64⟩⟩ : St) ∧ ref05Both_L1 m a_0 b_1 out_5 i_6 = some r) FUEL ?_ ?_ ?_
 ·
  rintro s ⟨_, _, _, _, _, h⟩
  cases h
 ·
  refine ⟨_, ?_, a_0, b_1, [], 0, rfl, hm⟩
  refine St.Le.trans (le_nil 5 900005 1 Z1 Z5) ?_
  exact le_canon (fun j => bif j == 1 then 900005 else 0) (wV (wO (wD ((CFi .u64).sl _ _ _) (wD ((CFi .u64).sl _ _ _) wk_none)))) (hW (eU (CFi .u64) entWk_none))
 ·
  rintro n1 s ⟨a_0, b_1, out_5, i_6, rfl, hm⟩
  replace hm : ref05Both_B1 (ref05Both_L1 n1) a_0 b_1 out_5 i_6 = some r := hm
  unfold ref05Both_B1 at hm
  refine AWp.seq' ?_
  refine sr (N' := 128) rfl ?_
  iterate 4 refine pA ?_
  refine fs ?_
  refine AWp.condM hm Z1 (fun _ hm => ?_) (fun _ hm => ?_)
  ·
   refine AWp.skip ?_
   refine normSeq ?_
   refine AWp.seq' ?_
   refine AWp.block ?_
   refine AWp.regD 64 mix (by kernel_rfl) (N' := 192) rfl ?_
   iterate 3 refine pA ?_
   obtain ⟨x2, h1, hm⟩ := bnd hm
   refine pu rfl (ap_idx (CFi .u64) Zd Try.underlying41 sz51 Z1 rfl Z1 h1) ?_
   iterate 3 refine pA ?_
   obtain ⟨x4, h3, hm⟩ := bnd hm
   refine pu rfl (ap_idx (CFi .u64) Zd Try.underlying41 sz51 Z1 rfl Z1 h3) ?_
   iterate 2 refine pA ?_
   refine hp (id := 138) rfl rfl (ah_list (CFi .u64) (l := [(bxor .u64 x2 x4)]) Try.underlying41 sz51 zc51 Z5 Zd Zd Zd (by simp only [go_sem, Nat.reduceBEq]; try rfl) (by kernel_rfl)) ?_
   obtain ⟨l6, h5, hm⟩ := bnd hm
   refine hp (id := 139) rfl rfl (ah_app (CFi .u64) Try.underlying41 Try.underlying41 rfl in51 ts51 (by rw [tb51]; decide) (by rw [tb51]; decide) tz51 Zd Zd Z1 Z3 Z6 (as_own (CFi .u64) Z1 Z3 Z6) rfl Z5 h5) ?_
   refine pA ?_
   refine ARun.fin ?_
   refine normIn ?_
   refine normSeq ?_
   refine AWp.reg 64 (N' := 256) rfl ?_
   iterate 3 refine pA ?_
   refine ARun.fin ?_
   refine normThen ?_
   refine ⟨_, ?_, a_0, b_1, l6, (IntKind.i64.wrap (i_6 + 1)), rfl, hm⟩
   exact le_canon (fun j => bif j == 1 then 139 else 0) (wV (wO (wD ((CFi .u64).sl _ _ _) (wD ((CFi .u64).sl _ _ _) wk_none)))) (hW (eU (CFi .u64) entWk_none))
  ·
   refine AWp.exit ?_
   refine exitSeq ?_
   refine exitThen ?_
   refine exitHere ?_
   refine normSeq ?_
   refine sr (N' := 192) rfl ?_
   iterate 2 refine pA ?_
   refine fs ?_
   refine AWp.ret ?_
   cases hm
   exact ret1D (.inr rfl) Try.results54 (tdo (CFi .u64) Z1 Z3 Z6)
def SearchWords_J1 (rec1 : Int → GGraph → List Int → Int → Int → Option (Bool)) (tier_1 : Int) (g_2 : GGraph) (all_5 : List Int) (t33 : Int) (t34 : Int) : Option (Bool) :=
 rec1 tier_1 g_2 all_5 t33 (IntKind.i64.wrap (t34 + 1))
def SearchWords_J2 (rec1 : Int → GGraph → List Int → Int → Int → Option (Bool)) (tier_1 : Int) (g_2 : GGraph) (all_5 : List Int) (w_8 : List Int) (t33 : Int) (t34 : Int) : Option (Bool) :=
 (bif (((w_8.length : Int) != (all_5.length : Int)) || ((w_8.length : Int) == 0)) then
  some false
 else
  ((ref05Both_m all_5 w_8).bind fun r14 =>
  ((chk (!r14.isEmpty)).bind fun _ => SearchWords_J1 rec1 tier_1 g_2 r14 t33 t34)))
def SearchWords_B2 (rec2 : List Int → List Int → Int → Int → Option (Bool)) (all_5 : List Int) (t72 : List Int) (t73 : Int) (t74 : Int) : Option (Bool) :=
 (bif (decide (t74 < t73)) then
  ((idx t72 t74).bind fun x20 =>
  (bif (x20 != 0) then
   some false
  else
   rec2 all_5 t72 t73 (IntKind.i64.wrap (t74 + 1))))
 else
  ((gopt ((decide (0 < (all_5.length : Int))) == true) false (law14Awake_m )).bind fun r22 =>
  some ((decide (0 < (all_5.length : Int))) && r22)))
def SearchWords_L2 : Nat → List Int → List Int → Int → Int → Option (Bool)
 | 0 => fun _ _ _ _ => none
 | n + 1 => SearchWords_B2 (SearchWords_L2 n)
def SearchWords_B1 (rec1 : Int → GGraph → List Int → Int → Int → Option (Bool)) (tier_1 : Int) (g_2 : GGraph) (all_5 : List Int) (t33 : Int) (t34 : Int) : Option (Bool) :=
 (bif (decide (t34 < t33)) then
  ((searchTree_m g_2 tier_1 t34).bind fun r8 =>
  (bif ((r8.length : Int) == 0) then
   some false
  else
   ((idx r8 0).bind fun x10 =>
   (bif (x10 != t34) then
    SearchWords_J1 rec1 tier_1 g_2 all_5 t33 t34
   else
    ((searchWords_m g_2 tier_1 t34).bind fun r12 =>
    (bif (all_5.isEmpty) then
     ((mkc (r12.length : Int) (r12.length : Int) 0).bind fun l17 =>
     ((chk (!l17.isEmpty)).bind fun _ => SearchWords_J2 rec1 tier_1 g_2 l17 r12 t33 t34))
    else
     SearchWords_J2 rec1 tier_1 g_2 all_5 r12 t33 t34))))))
 else
  SearchWords_L2 FUEL all_5 all_5 (all_5.length : Int) 0)
def SearchWords_L1 : Nat → Int → GGraph → List Int → Int → Int → Option (Bool)
 | 0 => fun _ _ _ _ _ => none
 | n + 1 => SearchWords_B1 (SearchWords_L1 n)
def SearchWords_m (g_0 : GGraph) (tier_1 : Int) : Option (Bool) :=
 ((ref14Small_m g_0).bind fun r2 =>
 ((gopt ((!r2) == false) false (searchRight_m g_0)).bind fun r4 =>
 (bif ((((!r2) || (!r4)) || (decide (tier_1 < 0))) || (decide (g_0.Config.L ≤ tier_1))) then
  ((law14Awake_m ).bind fun r6 =>
  some r6)
 else
  SearchWords_L1 FUEL tier_1 g_0 [] g_0.Config.N 0)))
theorem SearchWords_c {g_0 : GGraph} {tier_1 : Int} {r : Bool} (hm : SearchWords_m g_0 tier_1 = some r) : PureC Try.prog 9 [.agg [.v (.int .i64 g_0.Config.N), .v (.int .i64 g_0.Config.L), .v (.int .i64 g_0.Config.R), .sl (g_0.Hashes.flatMap cGHash) g_0.Hashes.length false, .sl (g_0.Edges.flatMap cGEdge) g_0.Edges.length false], .v (.int .i64 tier_1)] (.v (.bool r)) := by
 refine PureC.of_body Try.func9 rfl ?_
 simp only [Try.ntmps9, List.length_cons, List.length_nil, Nat.reduceAdd, Nat.reduceSub, empty_eq]
 unfold SearchWords_m at hm
 refine sr (N' := 64) rfl ?_
 refine hp (id := 0) rfl rfl (aheap_box Z1 Z5) ?_
 refine pA ?_
 refine fs ?_
 refine AWp.seq' ?_
 refine sr (N' := 128) rfl ?_
 refine pu rfl (ap_ldv Z1 Z3 Z2) ?_
 obtain ⟨r2, h1, hm⟩ := bnd hm
 refine ARun.callQ (r := .v (.bool r2)) Zd Z1 fb25 (fun H => (cD (.agg _ (CFGGraph.dat _)) .nil)) (ref14Small_c h1) ?_
 iterate 2 refine pA ?_
 refine pg rfl rfl Z2 (fun hb => (ap_ldv (Zh hb) Z3 Z2)) ?_
 obtain ⟨r4, h3, hm⟩ := bnd hm
 refine ARun.callQG (r := .v (.bool r4)) Zd rfl Z2 Z1 fb45 (fun hb H => (.cons (td (Zh hb) (.agg _ (CFGGraph.dat _))) .nil)) (fun hb => searchRight_c (gopt_t h3 hb)) ?_
 iterate 10 first | refine pA ?_ | refine pB ?_
 refine pg rfl rfl Z2 (fun hb => (ap_ldv (Zh hb) Z3 Z4)) ?_
 iterate 2 first | refine pA ?_ | refine pB ?_
 refine fs ?_
 refine AWp.condM hm Z1 (fun _ hm => ?_) (fun _ hm => ?_)
 ·
  refine sr (N' := 192) rfl ?_
  obtain ⟨r6, h5, hm⟩ := bnd hm
  refine ARun.callQ (r := .v (.bool r6)) Zd Z1 fb40 (fun H => .nil) (law14Awake_c h5) ?_
  refine pA ?_
  refine fs ?_
  refine AWp.ret ?_
  refine retSeq ?_
  cases hm
  exact ret1D (.inr rfl) Try.results9 (td Z1 (.v _))
 ·
  refine AWp.skip ?_
  refine normSeq ?_
  refine sr (N' := 192) rfl ?_
  refine pA ?_
  refine fs ?_
  refine AWp.seq' ?_
  refine sr (N' := 256) rfl ?_
  iterate 2 refine pA ?_
  refine pu rfl (ap_ldv Z1 Z3 Z4) ?_
  refine pA ?_
  refine fs ?_
  refine AWp.block ?_
  refine AWp.loopM (fun m s => ∃ (tier_1 : Int) (g_2 : GGraph) (all_5 : List Int) (t33 : Int) (t34 : Int), s = (⟨87, (fset (fset (fset (fset (fset (fun _ => AV.any) 1 (.v (.int .i64 tier_1))) 2 (.adr 1 0)) 5 (nzav (ci .u64) all_5)) 33 (.v (.int .i64 t33))) 34 (.v (.int .i64 t34))), ⟨(upd nofresh 1 (.cells 1 [.v (.int .i64 g_2.Config.N), .v (.int .i64 g_2.Config.L), .v (.int .i64 g_2.Config.R), .sl (g_2.Hashes.flatMap cGHash) g_2.Hashes.length false, .sl (g_2.Edges.flatMap cGEdge) g_2.Edges.length false] 0)), 64⟩⟩ : St) ∧ SearchWords_L1 m tier_1 g_2 all_5 t33 t34 = some r) FUEL ?_ ?_ ?_
  ·
   rintro s ⟨_, _, _, _, _, _, h⟩
   cases h
  ·
   refine ⟨_, ?_, tier_1, g_0, [], g_0.Config.N, 0, rfl, hm⟩
   exact le_canon (fun j => bif j == 1 then 0 else 0) (wV (wV (wD (nz_data (CFi .u64) _) (wk_fset _ _ (wk_adr Z1 rfl Z7) (wV wk_none))))) (hW (entWk_upd (entWk_data Z3 (Nat.le_refl _) (Nat.zero_le _) (CFGGraph.dat g_0)) entWk_none))
  ·
   rintro n1 s ⟨tier_1, g_2, all_5, t33, t34, rfl, hm⟩
   replace hm : SearchWords_B1 (SearchWords_L1 n1) tier_1 g_2 all_5 t33 t34 = some r := hm
   unfold SearchWords_B1 at hm
   refine sr (N' := 128) rfl ?_
   refine pA ?_
   refine fs ?_
   refine AWp.seq' ?_
   refine AWp.condM hm Z1 (fun _ hm => ?_) (fun _ hm => ?_)
   ·
    refine AWp.skip ?_
    refine normSeq ?_
    refine AWp.seqJ (fun s => ∃ (tier_1 : Int) (g_2 : GGraph) (all_5 : List Int) (t33 : Int) (t34 : Int), s = (⟨87, (fset (fset (fset (fset (fset (fun _ => AV.any) 1 (.v (.int .i64 tier_1))) 2 (.adr 1 0)) 5 (nzav (ci .u64) all_5)) 33 (.v (.int .i64 t33))) 34 (.v (.int .i64 t34))), ⟨(upd nofresh 1 (.cells 1 [.v (.int .i64 g_2.Config.N), .v (.int .i64 g_2.Config.L), .v (.int .i64 g_2.Config.R), .sl (g_2.Hashes.flatMap cGHash) g_2.Hashes.length false, .sl (g_2.Edges.flatMap cGEdge) g_2.Edges.length false] 0)), 64⟩⟩ : St) ∧ SearchWords_J1 (SearchWords_L1 n1) tier_1 g_2 all_5 t33 t34 = some r) ?_ ?_
    ·
     refine AWp.block ?_
     refine sr (N' := 192) rfl ?_
     iterate 2 refine pA ?_
     refine fs ?_
     refine sr (N' := 256) rfl ?_
     refine pu rfl (ap_ldv Z1 Z3 Z2) ?_
     iterate 2 refine pA ?_
     obtain ⟨r8, h7, hm⟩ := bnd hm
     refine ARun.callQ (r := .sl (r8.flatMap (ci .i64)) r8.length false) Zd Z1 fb42 (fun H => (cD (.agg _ (CFGGraph.dat _)) (cV (cV .nil)))) (searchTree_c h7) ?_
     refine pA ?_
     refine fs ?_
     refine AWp.seq' ?_
     refine sr (N' := 320) rfl ?_
     iterate 3 refine pA ?_
     refine fs ?_
     refine AWp.condM hm Z1 (fun _ hm => ?_) (fun _ hm => ?_)
     ·
      refine sr (N' := 384) rfl ?_
      refine pA ?_
      refine fs ?_
      refine AWp.ret ?_
      refine retSeq ?_
      refine retIn ?_
      refine retJ ?_
      refine retThen ?_
      refine retIn ?_
      refine retSeq ?_
      cases hm
      exact ret1D (.inr rfl) Try.results9 (td Z1 (.v _))
     ·
      refine AWp.skip ?_
      refine normSeq ?_
      refine AWp.seq' ?_
      refine sr (N' := 384) rfl ?_
      refine pA ?_
      obtain ⟨x10, h9, hm⟩ := bnd hm
      refine pu rfl (ap_idx (CFi .i64) Zd Try.underlying30 sz3 Z1 rfl Z1 h9) ?_
      iterate 3 refine pA ?_
      refine fs ?_
      refine AWp.condM hm Z1 (fun _ hm => ?_) (fun _ hm => ?_)
      ·
       refine AWp.exit ?_
       refine exitSeq ?_
       refine exitHere ?_
       refine normJ ?_
       refine ⟨_, ?_, tier_1, g_2, all_5, t33, t34, rfl, hm⟩
       exact le_canon (fun j => bif j == 1 then 1 else 0) (wV (wV (wD (nz_data (CFi .u64) _) (wk_fset _ _ (wk_adr Z1 rfl Z7) (wV wk_none))))) (hW (entWk_upd (entWk_data Z3 (Nat.le_refl _) (Nat.zero_le _) (CFGGraph.dat g_2)) entWk_none))
      ·
       refine AWp.skip ?_
       refine normSeq ?_
       refine sr (N' := 448) rfl ?_
       refine pu rfl (ap_ldv Z1 Z3 Z2) ?_
       iterate 2 refine pA ?_
       obtain ⟨r12, h11, hm⟩ := bnd hm
       refine ARun.callQ (r := .sl (r12.flatMap (ci .u64)) r12.length false) Zd Z1 fb43 (fun H => (cD (.agg _ (CFGGraph.dat _)) (cV (cV .nil)))) (searchWords_c h11) ?_
       refine pA ?_
       refine fs ?_
       refine AWp.seqJ (fun s => ∃ (tier_1 : Int) (g_2 : GGraph) (all_5 : List Int) (w_8 : List Int) (t33 : Int) (t34 : Int), s = (⟨87, (fset (fset (fset (fset (fset (fset (fun _ => AV.any) 1 (.v (.int .i64 tier_1))) 2 (.adr 1 0)) 5 (nzav (ci .u64) all_5)) 8 (.sl (w_8.flatMap (ci .u64)) w_8.length false)) 33 (.v (.int .i64 t33))) 34 (.v (.int .i64 t34))), ⟨(upd nofresh 1 (.cells 1 [.v (.int .i64 g_2.Config.N), .v (.int .i64 g_2.Config.L), .v (.int .i64 g_2.Config.R), .sl (g_2.Hashes.flatMap cGHash) g_2.Hashes.length false, .sl (g_2.Edges.flatMap cGEdge) g_2.Edges.length false] 0)), 64⟩⟩ : St) ∧ SearchWords_J2 (SearchWords_L1 n1) tier_1 g_2 all_5 w_8 t33 t34 = some r) ?_ ?_
       ·
        refine sr (N' := 512) rfl ?_
        refine pA ?_
        refine pu rfl (ap_eqnz Try.underlying41 Z1 Z1) ?_
        refine fs ?_
        refine AWp.condM hm Z1 (fun _ hm => ?_) (fun _ hm => ?_)
        ·
         refine AWp.reg 64 (N' := 576) rfl ?_
         iterate 2 refine pA ?_
         obtain ⟨l17, h16, hm⟩ := bnd hm
         refine hp (id := 514) rfl rfl (ah_mk (CFi .u64) Try.underlying41 in51 (zc51) (by rw [tb51]; decide) ts51 Zd Z5 Z1 Z1 h16) ?_
         refine pA ?_
         refine ARun.fin ?_
         refine normJ ?_
         obtain ⟨_, h18, hm⟩ := bnd hm
         refine ⟨_, ?_, tier_1, g_2, l17, r12, t33, t34, rfl, hm⟩
         refine St.Le.trans (le_lock (CFi .u64) 5 514 Z1 Z3 Z6) ?_
         exact le_canon (fun j => bif j == 1 then 1 else 0) (wV (wV (wD ((CFi .u64).sl _ _ _) (wk_fset _ _ (wk_data (nz_of Z1 h18) (nz_data (CFi .u64) _)) (wk_fset _ _ (wk_adr Z1 rfl Z7) (wV wk_none)))))) (hW (entWk_upd (entWk_data Z3 (Nat.le_refl _) (Nat.zero_le _) (CFGGraph.dat g_2)) entWk_none))
        ·
         refine AWp.skip ?_
         refine normJ ?_
         refine ⟨_, ?_, tier_1, g_2, all_5, r12, t33, t34, rfl, hm⟩
         exact le_canon (fun j => bif j == 1 then 1 else 0) (wV (wV (wD ((CFi .u64).sl _ _ _) (wD (nz_data (CFi .u64) _) (wk_fset _ _ (wk_adr Z1 rfl Z7) (wV wk_none)))))) (hW (entWk_upd (entWk_data Z3 (Nat.le_refl _) (Nat.zero_le _) (CFGGraph.dat g_2)) entWk_none))
       ·
        rintro s ⟨tier_1, g_2, all_5, w_8, t33, t34, rfl, hm⟩
        unfold SearchWords_J2 at hm
        refine AWp.seq' ?_
        refine sr (N' := 128) rfl ?_
        iterate 3 refine pA ?_
        refine pu rfl (ap_lennz Try.underlying41 Z1) ?_
        iterate 6 first | refine pA ?_ | refine pB ?_
        refine fs ?_
        refine AWp.condM hm Z1 (fun _ hm => ?_) (fun _ hm => ?_)
        ·
         refine sr (N' := 192) rfl ?_
         refine pA ?_
         refine fs ?_
         refine AWp.ret ?_
         refine retSeq ?_
         refine retIn ?_
         refine retJ ?_
         refine retThen ?_
         refine retIn ?_
         refine retSeq ?_
         cases hm
         exact ret1D (.inr rfl) Try.results9 (td Z1 (.v _))
        ·
         refine AWp.skip ?_
         refine normSeq ?_
         refine AWp.reg 64 (N' := 192) rfl ?_
         iterate 2 refine pA ?_
         obtain ⟨r14, h13, hm⟩ := bnd hm
         refine ARun.callQ (r := .sl (r14.flatMap (ci .u64)) r14.length false) Zd Z1 fb54 (fun H => (.cons (tdz (CFi .u64) Z1) (cD ((CFi .u64).sl _ _ _) .nil))) (ref05Both_c h13) ?_
         refine pA ?_
         refine ARun.fin ?_
         refine normIn ?_
         refine normJ ?_
         obtain ⟨_, h15, hm⟩ := bnd hm
         refine ⟨_, ?_, tier_1, g_2, r14, t33, t34, rfl, hm⟩
         exact le_canon (fun j => bif j == 1 then 1 else 0) (wV (wV (wk_fset _ _ (wk_data (nz_of Z1 h15) (nz_data (CFi .u64) _)) (wk_fset _ _ (wk_adr Z1 rfl Z7) (wV wk_none))))) (hW (entWk_upd (entWk_data Z3 (Nat.le_refl _) (Nat.zero_le _) (CFGGraph.dat g_2)) entWk_none))
    ·
     rintro s ⟨tier_1, g_2, all_5, t33, t34, rfl, hm⟩
     unfold SearchWords_J1 at hm
     refine AWp.reg 64 (N' := 128) rfl ?_
     iterate 2 refine pA ?_
     refine ARun.fin ?_
     refine normThen ?_
     refine ⟨_, ?_, tier_1, g_2, all_5, t33, (IntKind.i64.wrap (t34 + 1)), rfl, hm⟩
     exact le_canon (fun j => bif j == 1 then 1 else 0) (wV (wV (wD (nz_data (CFi .u64) _) (wk_fset _ _ (wk_adr Z1 rfl Z7) (wV wk_none))))) (hW (entWk_upd (entWk_data Z3 (Nat.le_refl _) (Nat.zero_le _) (CFGGraph.dat g_2)) entWk_none))
   ·
    refine AWp.exit ?_
    refine exitSeq ?_
    refine exitThen ?_
    refine exitHere ?_
    refine normSeq ?_
    refine AWp.seq' ?_
    refine sr (N' := 192) rfl ?_
    refine pA ?_
    refine pu rfl (ap_lennz Try.underlying41 Z1) ?_
    refine pA ?_
    refine fs ?_
    refine AWp.block ?_
    refine AWp.loopM (fun m s => ∃ (all_5 : List Int) (t72 : List Int) (t73 : Int) (t74 : Int), s = (⟨87, (fset (fset (fset (fset (fun _ => AV.any) 5 (.sl (all_5.flatMap (ci .u64)) all_5.length false)) 72 (.sl (t72.flatMap (ci .u64)) t72.length false)) 73 (.v (.int .i64 t73))) 74 (.v (.int .i64 t74))), ⟨nofresh, 64⟩⟩ : St) ∧ SearchWords_L2 m all_5 t72 t73 t74 = some r) FUEL ?_ ?_ ?_
    ·
     rintro s ⟨_, _, _, _, _, h⟩
     cases h
    ·
     refine ⟨_, ?_, all_5, all_5, (all_5.length : Int), 0, rfl, hm⟩
     refine St.Le.trans (le_tod 5 (.sl (all_5.flatMap (ci .u64)) all_5.length false) (fun H => (tdz (CFi .u64) Z1))) ?_
     refine St.Le.trans (le_tod 72 (.sl (all_5.flatMap (ci .u64)) all_5.length false) (fun H => (tdz (CFi .u64) Z1))) ?_
     exact le_canon id (wV (wV (wD ((CFi .u64).sl _ _ _) (wD ((CFi .u64).sl _ _ _) wk_none)))) heapWk0
    ·
     rintro n2 s ⟨all_5, t72, t73, t74, rfl, hm⟩
     replace hm : SearchWords_B2 (SearchWords_L2 n2) all_5 t72 t73 t74 = some r := hm
     unfold SearchWords_B2 at hm
     refine sr (N' := 128) rfl ?_
     refine pA ?_
     refine fs ?_
     refine AWp.seq' ?_
     refine AWp.condM hm Z1 (fun _ hm => ?_) (fun _ hm => ?_)
     ·
      refine AWp.skip ?_
      refine normSeq ?_
      refine AWp.seq' ?_
      refine AWp.block ?_
      refine sr (N' := 192) rfl ?_
      obtain ⟨x20, h19, hm⟩ := bnd hm
      refine pu rfl (ap_idx (CFi .u64) Zd Try.underlying41 sz51 Z1 rfl Z1 h19) ?_
      iterate 2 refine pA ?_
      refine fs ?_
      refine sr (N' := 256) rfl ?_
      iterate 2 refine pA ?_
      refine fs ?_
      refine AWp.condM hm Z1 (fun _ hm => ?_) (fun _ hm => ?_)
      ·
       refine sr (N' := 320) rfl ?_
       refine pA ?_
       refine fs ?_
       refine AWp.ret ?_
       refine retIn ?_
       refine retSeq ?_
       refine retThen ?_
       refine retIn ?_
       refine retSeq ?_
       cases hm
       exact ret1D (.inr rfl) Try.results9 (td Z1 (.v _))
      ·
       refine AWp.skip ?_
       refine normIn ?_
       refine normSeq ?_
       refine AWp.reg 64 (N' := 320) rfl ?_
       iterate 2 refine pA ?_
       refine ARun.fin ?_
       refine normThen ?_
       refine ⟨_, ?_, all_5, t72, t73, (IntKind.i64.wrap (t74 + 1)), rfl, hm⟩
       exact le_canon id (wV (wV (wD ((CFi .u64).sl _ _ _) (wD ((CFi .u64).sl _ _ _) wk_none)))) heapWk0
     ·
      refine AWp.exit ?_
      refine exitSeq ?_
      refine exitThen ?_
      refine exitHere ?_
      refine normSeq ?_
      refine sr (N' := 192) rfl ?_
      iterate 4 refine pA ?_
      obtain ⟨r22, h21, hm⟩ := bnd hm
      refine ARun.callQG (r := .v (.bool r22)) Zd rfl Z2 Z1 fb40 (fun hb H => .nil) (fun hb => law14Awake_c (gopt_t h21 hb)) ?_
      iterate 2 refine pA ?_
      refine fs ?_
      refine AWp.ret ?_
      cases hm
      exact ret1D (.inr rfl) Try.results9 (td Z1 (.v _))
def SearchLevel_B2 (rec2 : Int → GGraph → Int → List Int → Int → Int → Int → Option (Bool)) (tier_1 : Int) (g_3 : GGraph) (all_7 : Int) (w_10 : List Int) (rows_11 : Int) (t85 : Int) (t86 : Int) : Option (Bool) :=
 (bif (decide (t86 < t85)) then
  ((idx w_10 (IntKind.i64.wrap (t86 * rows_11))).bind fun x19 =>
  (bif (x19 != all_7) then
   some false
  else
   rec2 tier_1 g_3 all_7 w_10 rows_11 t85 (IntKind.i64.wrap (t86 + 1))))
 else
  ((searchHashes_m g_3 tier_1).bind fun r21 =>
  ((gopt (((r21.length : Int) == g_3.Config.R) == true) false (law14Awake_m )).bind fun r23 =>
  some (((r21.length : Int) == g_3.Config.R) && r23))))
def SearchLevel_L2 : Nat → Int → GGraph → Int → List Int → Int → Int → Int → Option (Bool)
 | 0 => fun _ _ _ _ _ _ _ => none
 | n + 1 => SearchLevel_B2 (SearchLevel_L2 n)
def SearchLevel_B1 (rec1 : Int → Int → GGraph → Int → List Int → Int → Int → Option (Bool)) (tier_1 : Int) (v_2 : Int) (g_3 : GGraph) (all_7 : Int) (t51 : List Int) (t52 : Int) (t53 : Int) : Option (Bool) :=
 (bif (decide (t53 < t52)) then
  ((idx t51 t53).bind fun x14 =>
  rec1 tier_1 v_2 g_3 (bxor .u64 all_7 x14) t51 t52 (IntKind.i64.wrap (t53 + 1)))
 else
  ((searchWords_m g_3 tier_1 v_2).bind fun r16 =>
  ((chk (g_3.Config.R != 0)).bind fun _ =>
  (bif (((IntKind.i64.wrap (Int.tdiv (r16.length : Int) g_3.Config.R)) == 0) || ((r16.length : Int) != (IntKind.i64.wrap ((IntKind.i64.wrap (Int.tdiv (r16.length : Int) g_3.Config.R)) * g_3.Config.R)))) then
   some false
  else
   SearchLevel_L2 FUEL tier_1 g_3 all_7 r16 (IntKind.i64.wrap (Int.tdiv (r16.length : Int) g_3.Config.R)) g_3.Config.R 0))))
def SearchLevel_L1 : Nat → Int → Int → GGraph → Int → List Int → Int → Int → Option (Bool)
 | 0 => fun _ _ _ _ _ _ _ => none
 | n + 1 => SearchLevel_B1 (SearchLevel_L1 n)
def SearchLevel_m (g_0 : GGraph) (tier_1 : Int) (v_2 : Int) : Option (Bool) :=
 ((ref14Small_m g_0).bind fun r2 =>
 ((gopt ((!r2) == false) false (searchRight_m g_0)).bind fun r4 =>
 (bif ((((((!r2) || (!r4)) || (decide (tier_1 < 0))) || (decide (g_0.Config.L ≤ tier_1))) || (decide (v_2 < 0))) || (decide (g_0.Config.N ≤ v_2))) then
  ((law14Awake_m ).bind fun r6 =>
  some r6)
 else
  ((searchTree_m g_0 tier_1 v_2).bind fun r8 =>
  ((ref13Cut_m g_0.Edges r8).bind fun r10 =>
  ((ref13Names_m r10).bind fun r12 =>
  SearchLevel_L1 FUEL tier_1 v_2 g_0 0 r12 (r12.length : Int) 0))))))
theorem SearchLevel_c {g_0 : GGraph} {tier_1 : Int} {v_2 : Int} {r : Bool} (hm : SearchLevel_m g_0 tier_1 v_2 = some r) : PureC Try.prog 10 [.agg [.v (.int .i64 g_0.Config.N), .v (.int .i64 g_0.Config.L), .v (.int .i64 g_0.Config.R), .sl (g_0.Hashes.flatMap cGHash) g_0.Hashes.length false, .sl (g_0.Edges.flatMap cGEdge) g_0.Edges.length false], .v (.int .i64 tier_1), .v (.int .i64 v_2)] (.v (.bool r)) := by
 refine PureC.of_body Try.func10 rfl ?_
 simp only [Try.ntmps10, List.length_cons, List.length_nil, Nat.reduceAdd, Nat.reduceSub, empty_eq]
 unfold SearchLevel_m at hm
 refine sr (N' := 64) rfl ?_
 refine hp (id := 0) rfl rfl (aheap_box Z1 Z5) ?_
 refine pA ?_
 refine fs ?_
 refine AWp.seq' ?_
 refine sr (N' := 128) rfl ?_
 refine pu rfl (ap_ldv Z1 Z3 Z2) ?_
 obtain ⟨r2, h1, hm⟩ := bnd hm
 refine ARun.callQ (r := .v (.bool r2)) Zd Z1 fb25 (fun H => (cD (.agg _ (CFGGraph.dat _)) .nil)) (ref14Small_c h1) ?_
 iterate 2 refine pA ?_
 refine pg rfl rfl Z2 (fun hb => (ap_ldv (Zh hb) Z3 Z2)) ?_
 obtain ⟨r4, h3, hm⟩ := bnd hm
 refine ARun.callQG (r := .v (.bool r4)) Zd rfl Z2 Z1 fb45 (fun hb H => (.cons (td (Zh hb) (.agg _ (CFGGraph.dat _))) .nil)) (fun hb => searchRight_c (gopt_t h3 hb)) ?_
 iterate 10 first | refine pA ?_ | refine pB ?_
 refine pg rfl rfl Z2 (fun hb => (ap_ldv (Zh hb) Z3 Z4)) ?_
 iterate 10 first | refine pA ?_ | refine pB ?_
 refine pg rfl rfl Z2 (fun hb => (ap_ldv (Zh hb) Z3 Z4)) ?_
 iterate 2 first | refine pA ?_ | refine pB ?_
 refine fs ?_
 refine AWp.condM hm Z1 (fun _ hm => ?_) (fun _ hm => ?_)
 ·
  refine sr (N' := 192) rfl ?_
  obtain ⟨r6, h5, hm⟩ := bnd hm
  refine ARun.callQ (r := .v (.bool r6)) Zd Z1 fb40 (fun H => .nil) (law14Awake_c h5) ?_
  refine pA ?_
  refine fs ?_
  refine AWp.ret ?_
  refine retSeq ?_
  cases hm
  exact ret1D (.inr rfl) Try.results10 (td Z1 (.v _))
 ·
  refine AWp.skip ?_
  refine normSeq ?_
  refine sr (N' := 192) rfl ?_
  refine pA ?_
  refine fs ?_
  refine AWp.seq' ?_
  refine sd mix (by kernel_rfl) (N' := 256) rfl ?_
  refine pA ?_
  refine pu rfl (ap_ldv Z1 Z3 Z4) ?_
  refine pu rfl (ap_ldv Z1 Z3 Z2) ?_
  iterate 2 refine pA ?_
  obtain ⟨r8, h7, hm⟩ := bnd hm
  refine ARun.callQ (r := .sl (r8.flatMap (ci .i64)) r8.length false) Zd Z1 fb42 (fun H => (cD (.agg _ (CFGGraph.dat _)) (cV (cV .nil)))) (searchTree_c h7) ?_
  obtain ⟨r10, h9, hm⟩ := bnd hm
  refine ARun.callQ (r := .sl (r10.flatMap cGEdge) r10.length false) Zd Z1 fb52 (fun H => (cD (CFGEdge.sl _ _ _) (cD ((CFi .i64).sl _ _ _) .nil))) (ref13Cut_c h9) ?_
  obtain ⟨r12, h11, hm⟩ := bnd hm
  refine ARun.callQ (r := .sl (r12.flatMap (ci .u64)) r12.length false) Zd Z1 fb55 (fun H => (cD (CFGEdge.sl _ _ _) .nil)) (ref13Names_c h11) ?_
  iterate 2 refine pA ?_
  refine fs ?_
  refine AWp.block ?_
  refine AWp.loopM (fun m s => ∃ (tier_1 : Int) (v_2 : Int) (g_3 : GGraph) (all_7 : Int) (t51 : List Int) (t52 : Int) (t53 : Int), s = (⟨109, (fset (fset (fset (fset (fset (fset (fset (fun _ => AV.any) 1 (.v (.int .i64 tier_1))) 2 (.v (.int .i64 v_2))) 3 (.adr 1 0)) 7 (.v (.int .u64 all_7))) 51 (.sl (t51.flatMap (ci .u64)) t51.length false)) 52 (.v (.int .i64 t52))) 53 (.v (.int .i64 t53))), ⟨(upd nofresh 1 (.cells 1 [.v (.int .i64 g_3.Config.N), .v (.int .i64 g_3.Config.L), .v (.int .i64 g_3.Config.R), .sl (g_3.Hashes.flatMap cGHash) g_3.Hashes.length false, .sl (g_3.Edges.flatMap cGEdge) g_3.Edges.length false] 0)), 64⟩⟩ : St) ∧ SearchLevel_L1 m tier_1 v_2 g_3 all_7 t51 t52 t53 = some r) FUEL ?_ ?_ ?_
  ·
   rintro s ⟨_, _, _, _, _, _, _, _, h⟩
   cases h
  ·
   refine ⟨_, ?_, tier_1, v_2, g_0, 0, r12, (r12.length : Int), 0, rfl, hm⟩
   exact le_canon (fun j => bif j == 1 then 0 else 0) (wV (wV (wD ((CFi .u64).sl _ _ _) (wV (wk_fset _ _ (wk_adr Z1 rfl Z7) (wV (wV wk_none))))))) (hW (entWk_upd (entWk_data Z3 (Nat.le_refl _) (Nat.zero_le _) (CFGGraph.dat g_0)) entWk_none))
  ·
   rintro n1 s ⟨tier_1, v_2, g_3, all_7, t51, t52, t53, rfl, hm⟩
   replace hm : SearchLevel_B1 (SearchLevel_L1 n1) tier_1 v_2 g_3 all_7 t51 t52 t53 = some r := hm
   unfold SearchLevel_B1 at hm
   refine sr (N' := 128) rfl ?_
   refine pA ?_
   refine fs ?_
   refine AWp.seq' ?_
   refine AWp.condM hm Z1 (fun _ hm => ?_) (fun _ hm => ?_)
   ·
    refine AWp.skip ?_
    refine normSeq ?_
    refine AWp.seq' ?_
    refine AWp.block ?_
    refine sr (N' := 192) rfl ?_
    obtain ⟨x14, h13, hm⟩ := bnd hm
    refine pu rfl (ap_idx (CFi .u64) Zd Try.underlying41 sz51 Z1 rfl Z1 h13) ?_
    iterate 2 refine pA ?_
    refine fs ?_
    refine AWp.reg 64 (N' := 256) rfl ?_
    iterate 4 refine pA ?_
    refine ARun.fin ?_
    refine normIn ?_
    refine normSeq ?_
    refine AWp.reg 64 (N' := 320) rfl ?_
    iterate 2 refine pA ?_
    refine ARun.fin ?_
    refine normThen ?_
    refine ⟨_, ?_, tier_1, v_2, g_3, (bxor .u64 all_7 x14), t51, t52, (IntKind.i64.wrap (t53 + 1)), rfl, hm⟩
    exact le_canon (fun j => bif j == 1 then 1 else 0) (wV (wV (wD ((CFi .u64).sl _ _ _) (wV (wk_fset _ _ (wk_adr Z1 rfl Z7) (wV (wV wk_none))))))) (hW (entWk_upd (entWk_data Z3 (Nat.le_refl _) (Nat.zero_le _) (CFGGraph.dat g_3)) entWk_none))
   ·
    refine AWp.exit ?_
    refine exitSeq ?_
    refine exitThen ?_
    refine exitHere ?_
    refine normSeq ?_
    refine sr (N' := 192) rfl ?_
    refine pu rfl (ap_ldv Z1 Z3 Z2) ?_
    iterate 2 refine pA ?_
    obtain ⟨r16, h15, hm⟩ := bnd hm
    refine ARun.callQ (r := .sl (r16.flatMap (ci .u64)) r16.length false) Zd Z1 fb43 (fun H => (cD (.agg _ (CFGGraph.dat _)) (cV (cV .nil)))) (searchWords_c h15) ?_
    refine pA ?_
    refine fs ?_
    refine sr (N' := 256) rfl ?_
    iterate 4 refine pA ?_
    refine pu rfl (ap_ldv Z1 Z3 Z4) ?_
    obtain ⟨_, h17, hm⟩ := bnd hm
    refine pu rfl (ap_quo Z1 Z1 (chk_t h17)) ?_
    refine pA ?_
    refine fs ?_
    refine AWp.seq' ?_
    refine sr (N' := 320) rfl ?_
    iterate 8 first | refine pA ?_ | refine pB ?_
    refine pg rfl rfl Z2 (fun hb => (ap_ldv (Zh hb) Z3 Z4)) ?_
    iterate 3 first | refine pA ?_ | refine pB ?_
    refine fs ?_
    refine AWp.condM hm Z1 (fun _ hm => ?_) (fun _ hm => ?_)
    ·
     refine sr (N' := 384) rfl ?_
     refine pA ?_
     refine fs ?_
     refine AWp.ret ?_
     refine retSeq ?_
     cases hm
     exact ret1D (.inr rfl) Try.results10 (td Z1 (.v _))
    ·
     refine AWp.skip ?_
     refine normSeq ?_
     refine AWp.seq' ?_
     refine sr (N' := 384) rfl ?_
     iterate 2 refine pA ?_
     refine pu rfl (ap_ldv Z1 Z3 Z4) ?_
     refine pA ?_
     refine fs ?_
     refine AWp.block ?_
     refine AWp.loopM (fun m s => ∃ (tier_1 : Int) (g_3 : GGraph) (all_7 : Int) (w_10 : List Int) (rows_11 : Int) (t85 : Int) (t86 : Int), s = (⟨109, (fset (fset (fset (fset (fset (fset (fset (fun _ => AV.any) 1 (.v (.int .i64 tier_1))) 3 (.adr 1 0)) 7 (.v (.int .u64 all_7))) 10 (.sl (w_10.flatMap (ci .u64)) w_10.length false)) 11 (.v (.int .i64 rows_11))) 85 (.v (.int .i64 t85))) 86 (.v (.int .i64 t86))), ⟨(upd nofresh 1 (.cells 1 [.v (.int .i64 g_3.Config.N), .v (.int .i64 g_3.Config.L), .v (.int .i64 g_3.Config.R), .sl (g_3.Hashes.flatMap cGHash) g_3.Hashes.length false, .sl (g_3.Edges.flatMap cGEdge) g_3.Edges.length false] 0)), 64⟩⟩ : St) ∧ SearchLevel_L2 m tier_1 g_3 all_7 w_10 rows_11 t85 t86 = some r) FUEL ?_ ?_ ?_
     ·
      rintro s ⟨_, _, _, _, _, _, _, _, h⟩
      cases h
     ·
      refine ⟨_, ?_, tier_1, g_3, all_7, r16, (IntKind.i64.wrap (Int.tdiv (r16.length : Int) g_3.Config.R)), g_3.Config.R, 0, rfl, hm⟩
      exact le_canon (fun j => bif j == 1 then 1 else 0) (wV (wV (wV (wD ((CFi .u64).sl _ _ _) (wV (wk_fset _ _ (wk_adr Z1 rfl Z7) (wV wk_none))))))) (hW (entWk_upd (entWk_data Z3 (Nat.le_refl _) (Nat.zero_le _) (CFGGraph.dat g_3)) entWk_none))
     ·
      rintro n2 s ⟨tier_1, g_3, all_7, w_10, rows_11, t85, t86, rfl, hm⟩
      replace hm : SearchLevel_B2 (SearchLevel_L2 n2) tier_1 g_3 all_7 w_10 rows_11 t85 t86 = some r := hm
      unfold SearchLevel_B2 at hm
      refine sr (N' := 128) rfl ?_
      refine pA ?_
      refine fs ?_
      refine AWp.seq' ?_
      refine AWp.condM hm Z1 (fun _ hm => ?_) (fun _ hm => ?_)
      ·
       refine AWp.skip ?_
       refine normSeq ?_
       refine AWp.seq' ?_
       refine AWp.block ?_
       refine sr (N' := 192) rfl ?_
       iterate 2 refine pA ?_
       refine fs ?_
       refine sr (N' := 256) rfl ?_
       iterate 4 refine pA ?_
       obtain ⟨x19, h18, hm⟩ := bnd hm
       refine pu rfl (ap_idx (CFi .u64) Zd Try.underlying41 sz51 Z1 rfl Z1 h18) ?_
       iterate 3 refine pA ?_
       refine fs ?_
       refine AWp.condM hm Z1 (fun _ hm => ?_) (fun _ hm => ?_)
       ·
        refine sr (N' := 320) rfl ?_
        refine pA ?_
        refine fs ?_
        refine AWp.ret ?_
        refine retIn ?_
        refine retSeq ?_
        refine retThen ?_
        refine retIn ?_
        refine retSeq ?_
        cases hm
        exact ret1D (.inr rfl) Try.results10 (td Z1 (.v _))
       ·
        refine AWp.skip ?_
        refine normIn ?_
        refine normSeq ?_
        refine AWp.reg 64 (N' := 320) rfl ?_
        iterate 2 refine pA ?_
        refine ARun.fin ?_
        refine normThen ?_
        refine ⟨_, ?_, tier_1, g_3, all_7, w_10, rows_11, t85, (IntKind.i64.wrap (t86 + 1)), rfl, hm⟩
        exact le_canon (fun j => bif j == 1 then 1 else 0) (wV (wV (wV (wD ((CFi .u64).sl _ _ _) (wV (wk_fset _ _ (wk_adr Z1 rfl Z7) (wV wk_none))))))) (hW (entWk_upd (entWk_data Z3 (Nat.le_refl _) (Nat.zero_le _) (CFGGraph.dat g_3)) entWk_none))
      ·
       refine AWp.exit ?_
       refine exitSeq ?_
       refine exitThen ?_
       refine exitHere ?_
       refine normSeq ?_
       refine sd mix (by kernel_rfl) (N' := 192) rfl ?_
       refine pu rfl (ap_ldv Z1 Z3 Z2) ?_
       refine pA ?_
       obtain ⟨r21, h20, hm⟩ := bnd hm
       refine ARun.callQ (r := .sl (r21.flatMap cGHash) r21.length false) Zd Z1 fb41 (fun H => (cD (.agg _ (CFGGraph.dat _)) (cV .nil))) (searchHashes_c h20) ?_
       iterate 3 refine pA ?_
       refine pu rfl (ap_ldv Z1 Z3 Z4) ?_
       iterate 2 refine pA ?_
       obtain ⟨r23, h22, hm⟩ := bnd hm
       refine ARun.callQG (r := .v (.bool r23)) Zd rfl Z2 Z1 fb40 (fun hb H => .nil) (fun hb => law14Awake_c (gopt_t h22 hb)) ?_
       iterate 2 refine pA ?_
       refine fs ?_
       refine AWp.ret ?_
       cases hm
       exact ret1D (.inr rfl) Try.results10 (td Z1 (.v _))
end Go.Proofs.Ytibnmlbjahcjmaa
