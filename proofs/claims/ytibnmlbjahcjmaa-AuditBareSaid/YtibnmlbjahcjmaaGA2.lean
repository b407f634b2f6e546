/- Plain functions in lockstep with the code, and that the code computes them. (Printed by a program.) -/
import Derived.Test.YtibnmlbjahcjmaaGA1
set_option linter.unusedVariables false
set_option linter.unusedSimpArgs false
set_option maxRecDepth 20000
set_option maxHeartbeats 4000000
namespace Go.Proofs.Ytibnmlbjahcjmaa
open Go Go.AM
theorem eqs38GA2 (x0 y0 x1 y1 x2 y2 : Int) : abin Try.prog .eql 38 (.agg [.v (.int .i64 x0), .v (.int .i64 x1), .v (.int .i64 x2)]) (.agg [.v (.int .i64 y0), .v (.int .i64 y1), .v (.int .i64 y2)]) = some (.v (.bool ((x0 == y0) && ((x1 == y1) && (x2 == y2))))) :=
  (by kernel_rfl : abin Try.prog .eql 38 (.agg [.v (.int .i64 x0), .v (.int .i64 x1), .v (.int .i64 x2)]) (.agg [.v (.int .i64 y0), .v (.int .i64 y1), .v (.int .i64 y2)]) = some (.v (.bool ((x0 == y0) && ((x1 == y1) && ((x2 == y2) && true)))))).trans (by rw [Bool.and_true])
theorem nqs38GA2 (x0 y0 x1 y1 x2 y2 : Int) : abin Try.prog .neq 38 (.agg [.v (.int .i64 x0), .v (.int .i64 x1), .v (.int .i64 x2)]) (.agg [.v (.int .i64 y0), .v (.int .i64 y1), .v (.int .i64 y2)]) = some (.v (.bool (!((x0 == y0) && ((x1 == y1) && (x2 == y2)))))) :=
  (by kernel_rfl : abin Try.prog .neq 38 (.agg [.v (.int .i64 x0), .v (.int .i64 x1), .v (.int .i64 x2)]) (.agg [.v (.int .i64 y0), .v (.int .i64 y1), .v (.int .i64 y2)]) = some (.v (.bool (!((x0 == y0) && ((x1 == y1) && ((x2 == y2) && true))))))).trans (by rw [Bool.and_true])
attribute [go_sem] eqs38GA2 nqs38GA2
theorem fa38_0GA2 (xs : List AV) : afieldAddr Try.prog 38 (.ptr (xs)) 0 = some (.ptr xs) := by kernel_rfl
attribute [go_sem] fa38_0GA2
theorem fa38_1GA2 (x0 : AV) (xs : List AV) : afieldAddr Try.prog 38 (.ptr (x0 :: xs)) 1 = some (.ptr xs) := by kernel_rfl
attribute [go_sem] fa38_1GA2
theorem fa38_2GA2 (x0 : AV) (x1 : AV) (xs : List AV) : afieldAddr Try.prog 38 (.ptr (x0 :: x1 :: xs)) 2 = some (.ptr xs) := by kernel_rfl
attribute [go_sem] fa38_2GA2
theorem fa53_0GA2 (xs : List AV) : afieldAddr Try.prog 53 (.ptr (xs)) 0 = some (.ptr xs) := by kernel_rfl
attribute [go_sem] fa53_0GA2
theorem fa53_1GA2 (x0 : AV) (xs : List AV) : afieldAddr Try.prog 53 (.ptr (x0 :: xs)) 1 = some (.ptr xs) := by kernel_rfl
attribute [go_sem] fa53_1GA2
theorem fo23_0GA2 (i o : Nat) : afieldAddr Try.prog 23 (.adr i o) 0 = some (.adr i (o + 0)) := by kernel_rfl
attribute [go_sem] fo23_0GA2
theorem fo23_1GA2 (i o : Nat) : afieldAddr Try.prog 23 (.adr i o) 1 = some (.adr i (o + 1)) := by kernel_rfl
attribute [go_sem] fo23_1GA2
theorem fo23_2GA2 (i o : Nat) : afieldAddr Try.prog 23 (.adr i o) 2 = some (.adr i (o + 2)) := by kernel_rfl
attribute [go_sem] fo23_2GA2
theorem fo27_0GA2 (i o : Nat) : afieldAddr Try.prog 27 (.adr i o) 0 = some (.adr i (o + 0)) := by kernel_rfl
attribute [go_sem] fo27_0GA2
theorem fo27_1GA2 (i o : Nat) : afieldAddr Try.prog 27 (.adr i o) 1 = some (.adr i (o + 3)) := by kernel_rfl
attribute [go_sem] fo27_1GA2
theorem fo27_2GA2 (i o : Nat) : afieldAddr Try.prog 27 (.adr i o) 2 = some (.adr i (o + 4)) := by kernel_rfl
attribute [go_sem] fo27_2GA2
theorem fo38_0GA2 (i o : Nat) : afieldAddr Try.prog 38 (.adr i o) 0 = some (.adr i (o + 0)) := by kernel_rfl
attribute [go_sem] fo38_0GA2
theorem fo38_1GA2 (i o : Nat) : afieldAddr Try.prog 38 (.adr i o) 1 = some (.adr i (o + 1)) := by kernel_rfl
attribute [go_sem] fo38_1GA2
theorem ld23GA2 (H : Heap) (x0 x1 x2 : AV) (xs : List AV) : aload Try.prog H 23 (.ptr (x0 :: x1 :: x2 :: xs)) = some (.agg [x0, x1, x2]) := by kernel_rfl
attribute [go_sem] ld23GA2
theorem ld24GA2 (H : Heap) (x : AV) (xs : List AV) : aload Try.prog H 24 (.ptr (x :: xs)) = some x := by kernel_rfl
attribute [go_sem] ld24GA2
theorem ld25GA2 (H : Heap) (x : AV) (xs : List AV) : aload Try.prog H 25 (.ptr (x :: xs)) = some x := by kernel_rfl
attribute [go_sem] ld25GA2
theorem ld27GA2 (H : Heap) (x0 x1 x2 x3 x4 : AV) (xs : List AV) : aload Try.prog H 27 (.ptr (x0 :: x1 :: x2 :: x3 :: x4 :: xs)) = some (.agg [x0, x1, x2, x3, x4]) := by kernel_rfl
attribute [go_sem] ld27GA2
theorem ld3GA2 (H : Heap) (x : AV) (xs : List AV) : aload Try.prog H 3 (.ptr (x :: xs)) = some x := by kernel_rfl
attribute [go_sem] ld3GA2
theorem ld38GA2 (H : Heap) (x0 x1 x2 : AV) (xs : List AV) : aload Try.prog H 38 (.ptr (x0 :: x1 :: x2 :: xs)) = some (.agg [x0, x1, x2]) := by kernel_rfl
attribute [go_sem] ld38GA2
theorem ld51GA2 (H : Heap) (x : AV) (xs : List AV) : aload Try.prog H 51 (.ptr (x :: xs)) = some x := by kernel_rfl
attribute [go_sem] ld51GA2
def ref10Spanning_J1 (rec1 : Int → List GEdge → List GEdge → Int → Option ((List GEdge))) (n_0 : Int) (l_1 : List GEdge) (out_5 : List GEdge) (i_6 : Int) : Option ((List GEdge)) :=
  rec1 n_0 l_1 out_5 (IntKind.i64.wrap (i_6 + 1))
def ref10Spanning_B1 (rec1 : Int → List GEdge → List GEdge → Int → Option ((List GEdge))) (n_0 : Int) (l_1 : List GEdge) (out_5 : List GEdge) (i_6 : Int) : Option ((List GEdge)) :=
  (bif (decide (i_6 < (l_1.length : Int))) then
    ((slc l_1 0 i_6).bind fun l2 =>
    ((ref09Of_m n_0 l2).bind fun r4 =>
    ((idx l_1 i_6).bind fun x6 =>
    ((idx r4 x6.U).bind fun x8 =>
    ((idx l_1 i_6).bind fun x10 =>
    ((idx r4 x10.V).bind fun x12 =>
    (bif (x8 != x12) then
      ((idx l_1 i_6).bind fun x14 =>
      ((app out_5 [x14]).bind fun l16 =>
      ref10Spanning_J1 rec1 n_0 l_1 l16 i_6))
    else
      ref10Spanning_J1 rec1 n_0 l_1 out_5 i_6)))))))
  else
    some out_5)
def ref10Spanning_L1 : Nat → Int → List GEdge → List GEdge → Int → Option ((List GEdge))
  | 0 => fun _ _ _ _ => none
  | n + 1 => ref10Spanning_B1 (ref10Spanning_L1 n)
def ref10Spanning_m (n_0 : Int) (l_1 : List GEdge) : Option ((List GEdge)) :=
  ref10Spanning_L1 FUEL n_0 l_1 [] 0
theorem ref10Spanning_c {n_0 : Int} {l_1 : List GEdge} {r : (List GEdge)} (hm : ref10Spanning_m n_0 l_1 = some r) : PureC Try.prog 77 [.v (.int .i64 n_0), .sl (l_1.flatMap cGEdge) l_1.length false] (.sl (r.flatMap cGEdge) r.length false) := by
  refine PureC.of_body Try.func77 rfl ?_
  simp only [Try.ntmps77, List.length_cons, List.length_nil, Nat.reduceAdd, Nat.reduceSub, empty_eq]
  unfold ref10Spanning_m at hm
  refine sr (N' := 64) rfl ?_
  refine pu rfl (by simp only [go_sem, Nat.reduceBEq]; try with_reducible rfl) ?_
  refine fs ?_
  refine sr (N' := 128) rfl ?_
  refine pu rfl (by simp only [go_sem, Nat.reduceBEq]; try with_reducible rfl) ?_
  refine fs ?_
  refine AWp.seq' ?_
  refine sr (N' := 192) rfl ?_
  refine pu rfl (by simp only [go_sem, Nat.reduceBEq]; try with_reducible rfl) ?_
  refine fs ?_
  refine AWp.block ?_
  refine AWp.loopM (fun m s => ∃ (n_0 : Int) (l_1 : List GEdge) (out_5 : List GEdge) (i_6 : Int), s = (⟨44, (fset (fset (fset (fset (fun _ => AV.any) 0 (.v (.int .i64 n_0))) 1 (.sl (l_1.flatMap cGEdge) l_1.length false)) 5 (.own 1 0 out_5.length)) 6 (.v (.int .i64 i_6))), ⟨(upd nofresh 1 (.cells 3 (out_5.flatMap cGEdge) 0)), 64⟩⟩ : St) ∧ ref10Spanning_L1 m n_0 l_1 out_5 i_6 = some r) FUEL ?_ ?_ ?_
  · rintro s ⟨_, _, _, _, _, h⟩
    cases h
  · refine ⟨_, ?_, n_0, l_1, [], 0, rfl, hm⟩
    refine St.Le.trans (le_nil 5 900005 3 (by try simp only [go_sem, Nat.reduceBEq]; try rfl) (by simp only [isFresh_upd, isFresh_no, Nat.reduceBEq, cond_true, cond_false])) ?_
    exact le_canon (fun j => bif j == 1 then 900005 else 0) (wk_fset _ _ (wk_data (by try simp only [go_sem, Nat.reduceBEq]; try rfl) (.v _)) (wk_fset _ _ (wk_own (by try simp only [go_sem, Nat.reduceBEq]; try rfl) (by first | rfl | omega) rfl (by simp [upd])) (wk_fset _ _ (wk_data (by try simp only [go_sem, Nat.reduceBEq]; try rfl) (CFGEdge.sl _ _ _)) (wk_fset _ _ (wk_data (by try simp only [go_sem, Nat.reduceBEq]; try rfl) (.v _)) wk_none)))) (heapWk_of _ (entWk_upd (ent_fm CFGEdge (by simp only [upd_beq, Nat.reduceBEq, cond_true, cond_false]; try rfl) rfl) entWk_none) (by repeat' (first | exact inj_none | exact liv_none | refine inj_upd ?_ ?_ | refine liv_upd ?_ ?_ | exact .inl rfl | exact .inr (by decide))))
  · rintro n1 s ⟨n_0, l_1, out_5, i_6, rfl, hm⟩
    replace hm : ref10Spanning_B1 (ref10Spanning_L1 n1) n_0 l_1 out_5 i_6 = some r := hm
    unfold ref10Spanning_B1 at hm
    refine AWp.seq' ?_
    refine sr (N' := 128) rfl ?_
    iterate 4 refine pu rfl (by simp only [go_sem, Nat.reduceBEq]; try with_reducible rfl) ?_
    refine fs ?_
    refine AWp.condM hm (by try simp only [go_sem, Nat.reduceBEq]; try rfl) (fun _ hm => ?_) (fun _ hm => ?_)
    · refine AWp.skip ?_
      refine normSeq ?_
      refine AWp.seqJ (fun s => ∃ (n_0 : Int) (l_1 : List GEdge) (out_5 : List GEdge) (i_6 : Int), s = (⟨44, (fset (fset (fset (fset (fun _ => AV.any) 0 (.v (.int .i64 n_0))) 1 (.sl (l_1.flatMap cGEdge) l_1.length false)) 5 (.own 1 0 out_5.length)) 6 (.v (.int .i64 i_6))), ⟨(upd nofresh 1 (.cells 3 (out_5.flatMap cGEdge) 0)), 64⟩⟩ : St) ∧ ref10Spanning_J1 (ref10Spanning_L1 n1) n_0 l_1 out_5 i_6 = some r) ?_ ?_
      · refine AWp.block ?_
        refine sr (N' := 192) rfl ?_
        iterate 3 refine pu rfl (by simp only [go_sem, Nat.reduceBEq]; try with_reducible rfl) ?_
        obtain ⟨l2, h1, hm⟩ := bnd hm
        refine pu rfl (ap_slc CFGEdge Try.underlying25 sz38 (by try simp only [go_sem, Nat.reduceBEq]; try rfl) rfl ab_none0 (ab_some (by try simp only [go_sem, Nat.reduceBEq]; try rfl) (slc_0 h1).2) h1) ?_
        obtain ⟨r4, h3, hm⟩ := bnd hm
        refine ARun.callQ (r := .sl (r4.flatMap (ci .i64)) r4.length false) (by decide) (by try simp only [go_sem, Nat.reduceBEq]; try rfl) fb71 (fun H => (.cons (td (by try simp only [go_sem, Nat.reduceBEq]; try rfl) (.v _)) (.cons (tdf (by try simp only [go_sem, Nat.reduceBEq]; try rfl) (CFGEdge.sl _ _ _)) .nil))) (ref09Of_c h3) ?_
        refine pu rfl (by simp only [go_sem, Nat.reduceBEq]; try with_reducible rfl) ?_
        refine fs ?_
        refine sd mix (by kernel_rfl) (N' := 256) rfl ?_
        iterate 3 refine pu rfl (by simp only [go_sem, Nat.reduceBEq]; try with_reducible rfl) ?_
        obtain ⟨x6, h5, hm⟩ := bnd hm
        refine pu rfl (ap_idx CFGEdge (by decide) Try.underlying25 sz38 (by try simp only [go_sem, Nat.reduceBEq]; try rfl) rfl (by try simp only [go_sem, Nat.reduceBEq]; try rfl) h5) ?_
        iterate 2 refine pu rfl (by simp only [go_sem, Nat.reduceBEq]; try with_reducible rfl) ?_
        obtain ⟨x8, h7, hm⟩ := bnd hm
        refine pu rfl (ap_idx (CFi .i64) (by decide) Try.underlying30 sz3 (by try simp only [go_sem, Nat.reduceBEq]; try rfl) rfl (by try simp only [go_sem, Nat.reduceBEq]; try rfl) h7) ?_
        iterate 4 refine pu rfl (by simp only [go_sem, Nat.reduceBEq]; try with_reducible rfl) ?_
        obtain ⟨x10, h9, hm⟩ := bnd hm
        refine pu rfl (ap_idx CFGEdge (by decide) Try.underlying25 sz38 (by try simp only [go_sem, Nat.reduceBEq]; try rfl) rfl (by try simp only [go_sem, Nat.reduceBEq]; try rfl) h9) ?_
        iterate 2 refine pu rfl (by simp only [go_sem, Nat.reduceBEq]; try with_reducible rfl) ?_
        obtain ⟨x12, h11, hm⟩ := bnd hm
        refine pu rfl (ap_idx (CFi .i64) (by decide) Try.underlying30 sz3 (by try simp only [go_sem, Nat.reduceBEq]; try rfl) rfl (by try simp only [go_sem, Nat.reduceBEq]; try rfl) h11) ?_
        iterate 2 refine pu rfl (by simp only [go_sem, Nat.reduceBEq]; try with_reducible rfl) ?_
        refine fs ?_
        refine AWp.condM hm (by try simp only [go_sem, Nat.reduceBEq]; try rfl) (fun _ hm => ?_) (fun _ hm => ?_)
        · refine AWp.reg 64 (N' := 320) rfl ?_
          iterate 3 refine pu rfl (by simp only [go_sem, Nat.reduceBEq]; try with_reducible rfl) ?_
          obtain ⟨x14, h13, hm⟩ := bnd hm
          refine pu rfl (ap_idx CFGEdge (by decide) Try.underlying25 sz38 (by try simp only [go_sem, Nat.reduceBEq]; try rfl) rfl (by try simp only [go_sem, Nat.reduceBEq]; try rfl) h13) ?_
          refine pu rfl (by simp only [go_sem, Nat.reduceBEq]; try with_reducible rfl) ?_
          refine hp (id := 261) rfl rfl (ah_list CFGEdge (l := [x14]) Try.underlying25 sz38 zc38 (by simp only [isFresh_upd, isFresh_no, Nat.reduceBEq, cond_true, cond_false]) (by decide) (by decide) (by decide) (by simp only [go_sem, Nat.reduceBEq]; try rfl) (by kernel_rfl)) ?_
          obtain ⟨l16, h15, hm⟩ := bnd hm
          refine hp (id := 262) rfl rfl (ah_app CFGEdge Try.underlying25 Try.underlying25 rfl in38 ts38 (by rw [tb38]; decide) (by rw [tb38]; decide) tz38 (by decide) (by decide) (by try simp only [go_sem, Nat.reduceBEq]; try rfl) (by simp only [upd_beq, Nat.reduceBEq, cond_true, cond_false]; try rfl) (by first | rfl | omega) (as_own CFGEdge (by try simp only [go_sem, Nat.reduceBEq]; try rfl) (by simp only [upd_beq, Nat.reduceBEq, cond_true, cond_false]; try rfl) (by first | rfl | omega)) rfl (by simp only [isFresh_upd, isFresh_no, Nat.reduceBEq, cond_true, cond_false]) h15) ?_
          refine pu rfl (by simp only [go_sem, Nat.reduceBEq]; try with_reducible rfl) ?_
          refine ARun.fin ?_
          refine normIn ?_
          refine normJ ?_
          refine ⟨_, ?_, n_0, l_1, l16, i_6, rfl, hm⟩
          exact le_canon (fun j => bif j == 1 then 262 else 0) (wk_fset _ _ (wk_data (by try simp only [go_sem, Nat.reduceBEq]; try rfl) (.v _)) (wk_fset _ _ (wk_own (by try simp only [go_sem, Nat.reduceBEq]; try rfl) (by first | rfl | omega) rfl (by simp [upd])) (wk_fset _ _ (wk_data (by try simp only [go_sem, Nat.reduceBEq]; try rfl) (CFGEdge.sl _ _ _)) (wk_fset _ _ (wk_data (by try simp only [go_sem, Nat.reduceBEq]; try rfl) (.v _)) wk_none)))) (heapWk_of _ (entWk_upd (ent_fm CFGEdge (by simp only [upd_beq, Nat.reduceBEq, cond_true, cond_false]; try rfl) rfl) entWk_none) (by repeat' (first | exact inj_none | exact liv_none | refine inj_upd ?_ ?_ | refine liv_upd ?_ ?_ | exact .inl rfl | exact .inr (by decide))))
        · refine AWp.skip ?_
          refine normIn ?_
          refine normJ ?_
          refine ⟨_, ?_, n_0, l_1, out_5, i_6, rfl, hm⟩
          exact le_canon (fun j => bif j == 1 then 1 else 0) (wk_fset _ _ (wk_data (by try simp only [go_sem, Nat.reduceBEq]; try rfl) (.v _)) (wk_fset _ _ (wk_own (by try simp only [go_sem, Nat.reduceBEq]; try rfl) (by first | rfl | omega) rfl (by simp [upd])) (wk_fset _ _ (wk_data (by try simp only [go_sem, Nat.reduceBEq]; try rfl) (CFGEdge.sl _ _ _)) (wk_fset _ _ (wk_data (by try simp only [go_sem, Nat.reduceBEq]; try rfl) (.v _)) wk_none)))) (heapWk_of _ (entWk_upd (ent_fm CFGEdge (by simp only [upd_beq, Nat.reduceBEq, cond_true, cond_false]; try rfl) rfl) entWk_none) (by repeat' (first | exact inj_none | exact liv_none | refine inj_upd ?_ ?_ | refine liv_upd ?_ ?_ | exact .inl rfl | exact .inr (by decide))))
      · rintro s ⟨n_0, l_1, out_5, i_6, rfl, hm⟩
        unfold ref10Spanning_J1 at hm
        refine AWp.reg 64 (N' := 128) rfl ?_
        iterate 3 refine pu rfl (by simp only [go_sem, Nat.reduceBEq]; try with_reducible rfl) ?_
        refine ARun.fin ?_
        refine normThen ?_
        refine ⟨_, ?_, n_0, l_1, out_5, (IntKind.i64.wrap (i_6 + 1)), rfl, hm⟩
        exact le_canon (fun j => bif j == 1 then 1 else 0) (wk_fset _ _ (wk_data (by try simp only [go_sem, Nat.reduceBEq]; try rfl) (.v _)) (wk_fset _ _ (wk_own (by try simp only [go_sem, Nat.reduceBEq]; try rfl) (by first | rfl | omega) rfl (by simp [upd])) (wk_fset _ _ (wk_data (by try simp only [go_sem, Nat.reduceBEq]; try rfl) (CFGEdge.sl _ _ _)) (wk_fset _ _ (wk_data (by try simp only [go_sem, Nat.reduceBEq]; try rfl) (.v _)) wk_none)))) (heapWk_of _ (entWk_upd (ent_fm CFGEdge (by simp only [upd_beq, Nat.reduceBEq, cond_true, cond_false]; try rfl) rfl) entWk_none) (by repeat' (first | exact inj_none | exact liv_none | refine inj_upd ?_ ?_ | refine liv_upd ?_ ?_ | exact .inl rfl | exact .inr (by decide))))
    · refine AWp.exit ?_
      refine exitSeq ?_
      refine exitThen ?_
      refine exitHere ?_
      refine normSeq ?_
      refine sr (N' := 192) rfl ?_
      iterate 2 refine pu rfl (by simp only [go_sem, Nat.reduceBEq]; try with_reducible rfl) ?_
      refine fs ?_
      refine AWp.ret ?_
      cases hm
      exact ret1D (.inr rfl) Try.results77 (tdo CFGEdge (by try simp only [go_sem, Nat.reduceBEq]; try rfl) (by simp only [upd_beq, Nat.reduceBEq, cond_true, cond_false]; try rfl) (by first | rfl | omega))
def ref14Right_B2 (rec2 : GGraph → GConfig → Int → Option (Bool)) (g_1 : GGraph) (c_3 : GConfig) (i_6 : Int) : Option (Bool) :=
  (bif (decide (i_6 < (g_1.Edges.length : Int))) then
    ((idx g_1.Edges i_6).bind fun x8 =>
    (bif (decide (c_3.L < x8.Tier)) then
      some false
    else
      rec2 g_1 c_3 (IntKind.i64.wrap (i_6 + 1))))
  else
    ((ref12Forest_m g_1.Edges c_3.L).bind fun r10 =>
    ((ref10Spanning_m c_3.N r10).bind fun r12 =>
    some ((r12.length : Int) == (r10.length : Int)))))
def ref14Right_L2 : Nat → GGraph → GConfig → Int → Option (Bool)
  | 0 => fun _ _ _ => none
  | n + 1 => ref14Right_B2 (ref14Right_L2 n)
def ref14Right_B1 (rec1 : GGraph → GConfig → Int → Option (Bool)) (g_1 : GGraph) (c_3 : GConfig) (i_4 : Int) : Option (Bool) :=
  (bif (decide (i_4 < (g_1.Hashes.length : Int))) then
    ((idx g_1.Hashes i_4).bind fun x2 =>
    ((gopt ((decide (2305843009213693951 ≤ x2.A)) == false) (GHash.mk 0 0) (idx g_1.Hashes i_4)).bind fun x4 =>
    (bif ((decide (2305843009213693951 ≤ x2.A)) || (decide (2305843009213693951 ≤ x4.B))) then
      some false
    else
      rec1 g_1 c_3 (IntKind.i64.wrap (i_4 + 1)))))
  else
    ((ref12Right_m c_3.N g_1.Edges).bind fun r6 =>
    (bif (!r6) then
      some false
    else
      ref14Right_L2 FUEL g_1 c_3 0)))
def ref14Right_L1 : Nat → GGraph → GConfig → Int → Option (Bool)
  | 0 => fun _ _ _ => none
  | n + 1 => ref14Right_B1 (ref14Right_L1 n)
def ref14Right_m (g_0 : GGraph) : Option (Bool) :=
  (bif (((((((decide (g_0.Config.N < 1)) || (decide (1024 < g_0.Config.N))) || (decide (g_0.Config.L < 1))) || (decide (16 < g_0.Config.L))) || (decide (g_0.Config.R < 1))) || (decide (8 < g_0.Config.R))) || ((g_0.Hashes.length : Int) != (IntKind.i64.wrap (g_0.Config.L * g_0.Config.R)))) then
    some false
  else
    ref14Right_L1 FUEL g_0 g_0.Config 0)
theorem ref14Right_c {g_0 : GGraph} {r : Bool} (hm : ref14Right_m g_0 = some r) : PureC Try.prog 29 [.agg [.v (.int .i64 g_0.Config.N), .v (.int .i64 g_0.Config.L), .v (.int .i64 g_0.Config.R), .sl (g_0.Hashes.flatMap cGHash) g_0.Hashes.length false, .sl (g_0.Edges.flatMap cGEdge) g_0.Edges.length false]] (.v (.bool r)) := by
  refine PureC.of_body Try.func29 rfl ?_
  simp only [Try.ntmps29, List.length_cons, List.length_nil, Nat.reduceAdd, Nat.reduceSub, empty_eq]
  unfold ref14Right_m at hm
  refine sr (N' := 64) rfl ?_
  refine hp (id := 0) rfl rfl (aheap_box (by try simp only [go_sem, Nat.reduceBEq]; try rfl) (by simp only [isFresh_upd, isFresh_no, Nat.reduceBEq, cond_true, cond_false])) ?_
  refine pu rfl (by simp only [go_sem, Nat.reduceBEq]; try with_reducible rfl) ?_
  refine fs ?_
  refine sr (N' := 128) rfl ?_
  refine pu rfl (by simp only [go_sem, Nat.reduceBEq]; try with_reducible rfl) ?_
  refine pu rfl (ap_ldv (by try simp only [go_sem, Nat.reduceBEq]; try rfl) (by simp only [upd_beq, Nat.reduceBEq, cond_true, cond_false]; try rfl) (by simp only [go_sem, Nat.reduceBEq, Nat.reduceAdd]; try with_reducible rfl)) ?_
  refine hp (id := 66) rfl rfl (aheap_alloc' zc23 (by simp only [isFresh_upd, isFresh_no, Nat.reduceBEq, cond_true, cond_false])) ?_
  refine ARun.heap0 (id := 67) rfl (ah_var (ys := [.v (.int .i64 g_0.Config.N), .v (.int .i64 g_0.Config.L), .v (.int .i64 g_0.Config.R)]) sz23 (by try simp only [go_sem, Nat.reduceBEq]; try rfl) (by try simp only [go_sem, Nat.reduceBEq]; try rfl) (by simp only [upd_beq, Nat.reduceBEq, cond_true, cond_false]; try rfl) rfl (Nat.le_of_ble_eq_true rfl) (by first | rfl | (simp [AV.one]; done)) rfl) ?_
  refine fs ?_
  refine AWp.seq' ?_
  refine sr (N' := 192) rfl ?_
  refine pu rfl (by simp only [go_sem, Nat.reduceBEq]; try with_reducible rfl) ?_
  refine pu rfl (ap_ldv (by try simp only [go_sem, Nat.reduceBEq]; try rfl) (by simp only [upd_beq, Nat.reduceBEq, cond_true, cond_false]; try rfl) (by simp only [go_sem, Nat.reduceBEq, Nat.reduceAdd]; try with_reducible rfl)) ?_
  iterate 3 (first | refine pu rfl (by simp only [go_sem, Nat.reduceBEq]; try with_reducible rfl) ?_ | refine pg rfl rfl (by simp only [go_sem, Nat.reduceBEq]; try with_reducible rfl) (by intro hb; simp only [go_sem, Nat.reduceBEq, hb, Bool.true_and]; try with_reducible rfl) ?_)
  refine pg rfl rfl (by simp only [go_sem, Nat.reduceBEq]; try with_reducible rfl) (fun hb => (ap_ldv (by try simp only [go_sem, Nat.reduceBEq, hb, Bool.true_and]; try rfl) (by simp only [upd_beq, Nat.reduceBEq, cond_true, cond_false]; try rfl) (by simp only [go_sem, Nat.reduceBEq, Nat.reduceAdd]; try with_reducible rfl))) ?_
  iterate 4 (first | refine pu rfl (by simp only [go_sem, Nat.reduceBEq]; try with_reducible rfl) ?_ | refine pg rfl rfl (by simp only [go_sem, Nat.reduceBEq]; try with_reducible rfl) (by intro hb; simp only [go_sem, Nat.reduceBEq, hb, Bool.true_and]; try with_reducible rfl) ?_)
  refine pg rfl rfl (by simp only [go_sem, Nat.reduceBEq]; try with_reducible rfl) (fun hb => (ap_ldv (by try simp only [go_sem, Nat.reduceBEq, hb, Bool.true_and]; try rfl) (by simp only [upd_beq, Nat.reduceBEq, cond_true, cond_false]; try rfl) (by simp only [go_sem, Nat.reduceBEq, Nat.reduceAdd]; try with_reducible rfl))) ?_
  iterate 4 (first | refine pu rfl (by simp only [go_sem, Nat.reduceBEq]; try with_reducible rfl) ?_ | refine pg rfl rfl (by simp only [go_sem, Nat.reduceBEq]; try with_reducible rfl) (by intro hb; simp only [go_sem, Nat.reduceBEq, hb, Bool.true_and]; try with_reducible rfl) ?_)
  refine pg rfl rfl (by simp only [go_sem, Nat.reduceBEq]; try with_reducible rfl) (fun hb => (ap_ldv (by try simp only [go_sem, Nat.reduceBEq, hb, Bool.true_and]; try rfl) (by simp only [upd_beq, Nat.reduceBEq, cond_true, cond_false]; try rfl) (by simp only [go_sem, Nat.reduceBEq, Nat.reduceAdd]; try with_reducible rfl))) ?_
  iterate 4 (first | refine pu rfl (by simp only [go_sem, Nat.reduceBEq]; try with_reducible rfl) ?_ | refine pg rfl rfl (by simp only [go_sem, Nat.reduceBEq]; try with_reducible rfl) (by intro hb; simp only [go_sem, Nat.reduceBEq, hb, Bool.true_and]; try with_reducible rfl) ?_)
  refine pg rfl rfl (by simp only [go_sem, Nat.reduceBEq]; try with_reducible rfl) (fun hb => (ap_ldv (by try simp only [go_sem, Nat.reduceBEq, hb, Bool.true_and]; try rfl) (by simp only [upd_beq, Nat.reduceBEq, cond_true, cond_false]; try rfl) (by simp only [go_sem, Nat.reduceBEq, Nat.reduceAdd]; try with_reducible rfl))) ?_
  iterate 4 (first | refine pu rfl (by simp only [go_sem, Nat.reduceBEq]; try with_reducible rfl) ?_ | refine pg rfl rfl (by simp only [go_sem, Nat.reduceBEq]; try with_reducible rfl) (by intro hb; simp only [go_sem, Nat.reduceBEq, hb, Bool.true_and]; try with_reducible rfl) ?_)
  refine pg rfl rfl (by simp only [go_sem, Nat.reduceBEq]; try with_reducible rfl) (fun hb => (ap_ldv (by try simp only [go_sem, Nat.reduceBEq, hb, Bool.true_and]; try rfl) (by simp only [upd_beq, Nat.reduceBEq, cond_true, cond_false]; try rfl) (by simp only [go_sem, Nat.reduceBEq, Nat.reduceAdd]; try with_reducible rfl))) ?_
  iterate 4 (first | refine pu rfl (by simp only [go_sem, Nat.reduceBEq]; try with_reducible rfl) ?_ | refine pg rfl rfl (by simp only [go_sem, Nat.reduceBEq]; try with_reducible rfl) (by intro hb; simp only [go_sem, Nat.reduceBEq, hb, Bool.true_and]; try with_reducible rfl) ?_)
  refine pg rfl rfl (by simp only [go_sem, Nat.reduceBEq]; try with_reducible rfl) (fun hb => (ap_ldv (by try simp only [go_sem, Nat.reduceBEq, hb, Bool.true_and]; try rfl) (by simp only [upd_beq, Nat.reduceBEq, cond_true, cond_false]; try rfl) (by simp only [go_sem, Nat.reduceBEq, Nat.reduceAdd]; try with_reducible rfl))) ?_
  iterate 2 refine pg rfl rfl (by simp only [go_sem, Nat.reduceBEq]; try with_reducible rfl) (by intro hb; simp only [go_sem, Nat.reduceBEq, hb, Bool.true_and]; try with_reducible rfl) ?_
  refine pg rfl rfl (by simp only [go_sem, Nat.reduceBEq]; try with_reducible rfl) (fun hb => (ap_ldv (by try simp only [go_sem, Nat.reduceBEq, hb, Bool.true_and]; try rfl) (by simp only [upd_beq, Nat.reduceBEq, cond_true, cond_false]; try rfl) (by simp only [go_sem, Nat.reduceBEq, Nat.reduceAdd]; try with_reducible rfl))) ?_
  refine pg rfl rfl (by simp only [go_sem, Nat.reduceBEq]; try with_reducible rfl) (by intro hb; simp only [go_sem, Nat.reduceBEq, hb, Bool.true_and]; try with_reducible rfl) ?_
  refine pg rfl rfl (by simp only [go_sem, Nat.reduceBEq]; try with_reducible rfl) (fun hb => (ap_ldv (by try simp only [go_sem, Nat.reduceBEq, hb, Bool.true_and]; try rfl) (by simp only [upd_beq, Nat.reduceBEq, cond_true, cond_false]; try rfl) (by simp only [go_sem, Nat.reduceBEq, Nat.reduceAdd]; try with_reducible rfl))) ?_
  iterate 3 (first | refine pu rfl (by simp only [go_sem, Nat.reduceBEq]; try with_reducible rfl) ?_ | refine pg rfl rfl (by simp only [go_sem, Nat.reduceBEq]; try with_reducible rfl) (by intro hb; simp only [go_sem, Nat.reduceBEq, hb, Bool.true_and]; try with_reducible rfl) ?_)
  refine fs ?_
  refine AWp.condM hm (by try simp only [go_sem, Nat.reduceBEq]; try rfl) (fun _ hm => ?_) (fun _ hm => ?_)
  · refine sr (N' := 256) rfl ?_
    refine pu rfl (by simp only [go_sem, Nat.reduceBEq]; try with_reducible rfl) ?_
    refine fs ?_
    refine AWp.ret ?_
    refine retSeq ?_
    cases hm
    exact ret1D (.inr rfl) Try.results29 (td (by try simp only [go_sem, Nat.reduceBEq]; try rfl) (.v _))
  · refine AWp.skip ?_
    refine normSeq ?_
    refine AWp.seq' ?_
    refine sr (N' := 256) rfl ?_
    refine pu rfl (by simp only [go_sem, Nat.reduceBEq]; try with_reducible rfl) ?_
    refine fs ?_
    refine AWp.block ?_
    refine AWp.loopM (fun m s => ∃ (g_1 : GGraph) (c_3 : GConfig) (i_4 : Int), s = (⟨108, (fset (fset (fset (fun _ => AV.any) 1 (.adr 1 0)) 3 (.adr 2 0)) 4 (.v (.int .i64 i_4))), ⟨(upd (upd nofresh 1 (.cells 1 [.v (.int .i64 g_1.Config.N), .v (.int .i64 g_1.Config.L), .v (.int .i64 g_1.Config.R), .sl (g_1.Hashes.flatMap cGHash) g_1.Hashes.length false, .sl (g_1.Edges.flatMap cGEdge) g_1.Edges.length false] 0)) 2 (.cells 1 [.v (.int .i64 c_3.N), .v (.int .i64 c_3.L), .v (.int .i64 c_3.R)] 0)), 64⟩⟩ : St) ∧ ref14Right_L1 m g_1 c_3 i_4 = some r) FUEL ?_ ?_ ?_
    · rintro s ⟨_, _, _, _, h⟩
      cases h
    · refine ⟨_, ?_, g_0, g_0.Config, 0, rfl, hm⟩
      exact le_canon (fun j => bif j == 1 then 0 else bif j == 2 then 66 else 0) (wk_fset _ _ (wk_data (by try simp only [go_sem, Nat.reduceBEq]; try rfl) (.v _)) (wk_fset _ _ (wk_adr (by try simp only [go_sem, Nat.reduceBEq]; try rfl) rfl (by simp [upd])) (wk_fset _ _ (wk_adr (by try simp only [go_sem, Nat.reduceBEq]; try rfl) rfl (by simp [upd])) wk_none))) (heapWk_of _ (entWk_upd (entWk_data (by simp only [upd_beq, Nat.reduceBEq, cond_true, cond_false]; try rfl) (Nat.le_refl _) (Nat.zero_le _) (CFGConfig.dat g_0.Config)) (entWk_upd (entWk_data (by simp only [upd_beq, Nat.reduceBEq, cond_true, cond_false]; try rfl) (Nat.le_refl _) (Nat.zero_le _) (CFGGraph.dat g_0)) entWk_none)) (by repeat' (first | exact inj_none | exact liv_none | refine inj_upd ?_ ?_ | refine liv_upd ?_ ?_ | exact .inl rfl | exact .inr (by decide))))
    · rintro n1 s ⟨g_1, c_3, i_4, rfl, hm⟩
      replace hm : ref14Right_B1 (ref14Right_L1 n1) g_1 c_3 i_4 = some r := hm
      unfold ref14Right_B1 at hm
      refine AWp.seq' ?_
      refine sr (N' := 128) rfl ?_
      iterate 2 refine pu rfl (by simp only [go_sem, Nat.reduceBEq]; try with_reducible rfl) ?_
      refine pu rfl (ap_ldv (by try simp only [go_sem, Nat.reduceBEq]; try rfl) (by simp only [upd_beq, Nat.reduceBEq, cond_true, cond_false]; try rfl) (by simp only [go_sem, Nat.reduceBEq, Nat.reduceAdd]; try with_reducible rfl)) ?_
      iterate 2 refine pu rfl (by simp only [go_sem, Nat.reduceBEq]; try with_reducible rfl) ?_
      refine fs ?_
      refine AWp.condM hm (by try simp only [go_sem, Nat.reduceBEq]; try rfl) (fun _ hm => ?_) (fun _ hm => ?_)
      · refine AWp.skip ?_
        refine normSeq ?_
        refine AWp.seq' ?_
        refine AWp.block ?_
        refine sr (N' := 192) rfl ?_
        refine pu rfl (by simp only [go_sem, Nat.reduceBEq]; try with_reducible rfl) ?_
        refine pu rfl (ap_ldv (by try simp only [go_sem, Nat.reduceBEq]; try rfl) (by simp only [upd_beq, Nat.reduceBEq, cond_true, cond_false]; try rfl) (by simp only [go_sem, Nat.reduceBEq, Nat.reduceAdd]; try with_reducible rfl)) ?_
        refine pu rfl (by simp only [go_sem, Nat.reduceBEq]; try with_reducible rfl) ?_
        obtain ⟨x2, h1, hm⟩ := bnd hm
        refine pu rfl (ap_idx CFGHash (by decide) Try.underlying24 sz53 (by try simp only [go_sem, Nat.reduceBEq]; try rfl) rfl (by try simp only [go_sem, Nat.reduceBEq]; try rfl) h1) ?_
        iterate 5 (first | refine pu rfl (by simp only [go_sem, Nat.reduceBEq]; try with_reducible rfl) ?_ | refine pg rfl rfl (by simp only [go_sem, Nat.reduceBEq]; try with_reducible rfl) (by intro hb; simp only [go_sem, Nat.reduceBEq, hb, Bool.true_and]; try with_reducible rfl) ?_)
        refine pg rfl rfl (by simp only [go_sem, Nat.reduceBEq]; try with_reducible rfl) (fun hb => (ap_ldv (by try simp only [go_sem, Nat.reduceBEq, hb, Bool.true_and]; try rfl) (by simp only [upd_beq, Nat.reduceBEq, cond_true, cond_false]; try rfl) (by simp only [go_sem, Nat.reduceBEq, Nat.reduceAdd]; try with_reducible rfl))) ?_
        refine pg rfl rfl (by simp only [go_sem, Nat.reduceBEq]; try with_reducible rfl) (by intro hb; simp only [go_sem, Nat.reduceBEq, hb, Bool.true_and]; try with_reducible rfl) ?_
        obtain ⟨x4, h3, hm⟩ := bnd hm
        refine pg rfl rfl (by simp only [go_sem, Nat.reduceBEq]; try with_reducible rfl) (fun hb => (ap_idx CFGHash (by decide) Try.underlying24 sz53 (by try simp only [go_sem, Nat.reduceBEq, hb, Bool.true_and]; try rfl) rfl (by try simp only [go_sem, Nat.reduceBEq, hb, Bool.true_and]; try rfl) (gopt_t h3 hb))) ?_
        iterate 4 (first | refine pu rfl (by simp only [go_sem, Nat.reduceBEq]; try with_reducible rfl) ?_ | refine pg rfl rfl (by simp only [go_sem, Nat.reduceBEq]; try with_reducible rfl) (by intro hb; simp only [go_sem, Nat.reduceBEq, hb, Bool.true_and]; try with_reducible rfl) ?_)
        refine fs ?_
        refine AWp.condM hm (by try simp only [go_sem, Nat.reduceBEq]; try rfl) (fun _ hm => ?_) (fun _ hm => ?_)
        · refine sr (N' := 256) rfl ?_
          refine pu rfl (by simp only [go_sem, Nat.reduceBEq]; try with_reducible rfl) ?_
          refine fs ?_
          refine AWp.ret ?_
          refine retIn ?_
          refine retSeq ?_
          refine retThen ?_
          refine retIn ?_
          refine retSeq ?_
          cases hm
          exact ret1D (.inr rfl) Try.results29 (td (by try simp only [go_sem, Nat.reduceBEq]; try rfl) (.v _))
        · refine AWp.skip ?_
          refine normIn ?_
          refine normSeq ?_
          refine AWp.reg 64 (N' := 256) rfl ?_
          iterate 3 refine pu rfl (by simp only [go_sem, Nat.reduceBEq]; try with_reducible rfl) ?_
          refine ARun.fin ?_
          refine normThen ?_
          refine ⟨_, ?_, g_1, c_3, (IntKind.i64.wrap (i_4 + 1)), rfl, hm⟩
          exact le_canon (fun j => bif j == 1 then 1 else bif j == 2 then 2 else 0) (wk_fset _ _ (wk_data (by try simp only [go_sem, Nat.reduceBEq]; try rfl) (.v _)) (wk_fset _ _ (wk_adr (by try simp only [go_sem, Nat.reduceBEq]; try rfl) rfl (by simp [upd])) (wk_fset _ _ (wk_adr (by try simp only [go_sem, Nat.reduceBEq]; try rfl) rfl (by simp [upd])) wk_none))) (heapWk_of _ (entWk_upd (entWk_data (by simp only [upd_beq, Nat.reduceBEq, cond_true, cond_false]; try rfl) (Nat.le_refl _) (Nat.zero_le _) (CFGConfig.dat c_3)) (entWk_upd (entWk_data (by simp only [upd_beq, Nat.reduceBEq, cond_true, cond_false]; try rfl) (Nat.le_refl _) (Nat.zero_le _) (CFGGraph.dat g_1)) entWk_none)) (by repeat' (first | exact inj_none | exact liv_none | refine inj_upd ?_ ?_ | refine liv_upd ?_ ?_ | exact .inl rfl | exact .inr (by decide))))
      · refine AWp.exit ?_
        refine exitSeq ?_
        refine exitThen ?_
        refine exitHere ?_
        refine normSeq ?_
        refine sr (N' := 192) rfl ?_
        refine pu rfl (by simp only [go_sem, Nat.reduceBEq]; try with_reducible rfl) ?_
        refine pu rfl (ap_ldv (by try simp only [go_sem, Nat.reduceBEq]; try rfl) (by simp only [upd_beq, Nat.reduceBEq, cond_true, cond_false]; try rfl) (by simp only [go_sem, Nat.reduceBEq, Nat.reduceAdd]; try with_reducible rfl)) ?_
        refine pu rfl (by simp only [go_sem, Nat.reduceBEq]; try with_reducible rfl) ?_
        refine pu rfl (ap_ldv (by try simp only [go_sem, Nat.reduceBEq]; try rfl) (by simp only [upd_beq, Nat.reduceBEq, cond_true, cond_false]; try rfl) (by simp only [go_sem, Nat.reduceBEq, Nat.reduceAdd]; try with_reducible rfl)) ?_
        obtain ⟨r6, h5, hm⟩ := bnd hm
        refine ARun.callQ (r := .v (.bool r6)) (by decide) (by try simp only [go_sem, Nat.reduceBEq]; try rfl) fb76 (fun H => (.cons (td (by try simp only [go_sem, Nat.reduceBEq]; try rfl) (.v _)) (.cons (td (by try simp only [go_sem, Nat.reduceBEq]; try rfl) (CFGEdge.sl _ _ _)) .nil))) (ref12Right_c h5) ?_
        refine pu rfl (by simp only [go_sem, Nat.reduceBEq]; try with_reducible rfl) ?_
        refine fs ?_
        refine AWp.seq' ?_
        refine sr (N' := 256) rfl ?_
        iterate 2 refine pu rfl (by simp only [go_sem, Nat.reduceBEq]; try with_reducible rfl) ?_
        refine fs ?_
        refine AWp.condM hm (by try simp only [go_sem, Nat.reduceBEq]; try rfl) (fun _ hm => ?_) (fun _ hm => ?_)
        · refine sr (N' := 320) rfl ?_
          refine pu rfl (by simp only [go_sem, Nat.reduceBEq]; try with_reducible rfl) ?_
          refine fs ?_
          refine AWp.ret ?_
          refine retSeq ?_
          cases hm
          exact ret1D (.inr rfl) Try.results29 (td (by try simp only [go_sem, Nat.reduceBEq]; try rfl) (.v _))
        · refine AWp.skip ?_
          refine normSeq ?_
          refine AWp.seq' ?_
          refine sr (N' := 320) rfl ?_
          refine pu rfl (by simp only [go_sem, Nat.reduceBEq]; try with_reducible rfl) ?_
          refine fs ?_
          refine AWp.block ?_
          refine AWp.loopM (fun m s => ∃ (g_1 : GGraph) (c_3 : GConfig) (i_6 : Int), s = (⟨108, (fset (fset (fset (fun _ => AV.any) 1 (.adr 1 0)) 3 (.adr 2 0)) 6 (.v (.int .i64 i_6))), ⟨(upd (upd nofresh 1 (.cells 1 [.v (.int .i64 g_1.Config.N), .v (.int .i64 g_1.Config.L), .v (.int .i64 g_1.Config.R), .sl (g_1.Hashes.flatMap cGHash) g_1.Hashes.length false, .sl (g_1.Edges.flatMap cGEdge) g_1.Edges.length false] 0)) 2 (.cells 1 [.v (.int .i64 c_3.N), .v (.int .i64 c_3.L), .v (.int .i64 c_3.R)] 0)), 64⟩⟩ : St) ∧ ref14Right_L2 m g_1 c_3 i_6 = some r) FUEL ?_ ?_ ?_
          · rintro s ⟨_, _, _, _, h⟩
            cases h
          · refine ⟨_, ?_, g_1, c_3, 0, rfl, hm⟩
            exact le_canon (fun j => bif j == 1 then 1 else bif j == 2 then 2 else 0) (wk_fset _ _ (wk_data (by try simp only [go_sem, Nat.reduceBEq]; try rfl) (.v _)) (wk_fset _ _ (wk_adr (by try simp only [go_sem, Nat.reduceBEq]; try rfl) rfl (by simp [upd])) (wk_fset _ _ (wk_adr (by try simp only [go_sem, Nat.reduceBEq]; try rfl) rfl (by simp [upd])) wk_none))) (heapWk_of _ (entWk_upd (entWk_data (by simp only [upd_beq, Nat.reduceBEq, cond_true, cond_false]; try rfl) (Nat.le_refl _) (Nat.zero_le _) (CFGConfig.dat c_3)) (entWk_upd (entWk_data (by simp only [upd_beq, Nat.reduceBEq, cond_true, cond_false]; try rfl) (Nat.le_refl _) (Nat.zero_le _) (CFGGraph.dat g_1)) entWk_none)) (by repeat' (first | exact inj_none | exact liv_none | refine inj_upd ?_ ?_ | refine liv_upd ?_ ?_ | exact .inl rfl | exact .inr (by decide))))
          · rintro n2 s ⟨g_1, c_3, i_6, rfl, hm⟩
            replace hm : ref14Right_B2 (ref14Right_L2 n2) g_1 c_3 i_6 = some r := hm
            unfold ref14Right_B2 at hm
            refine AWp.seq' ?_
            refine sr (N' := 128) rfl ?_
            iterate 2 refine pu rfl (by simp only [go_sem, Nat.reduceBEq]; try with_reducible rfl) ?_
            refine pu rfl (ap_ldv (by try simp only [go_sem, Nat.reduceBEq]; try rfl) (by simp only [upd_beq, Nat.reduceBEq, cond_true, cond_false]; try rfl) (by simp only [go_sem, Nat.reduceBEq, Nat.reduceAdd]; try with_reducible rfl)) ?_
            iterate 2 refine pu rfl (by simp only [go_sem, Nat.reduceBEq]; try with_reducible rfl) ?_
            refine fs ?_
            refine AWp.condM hm (by try simp only [go_sem, Nat.reduceBEq]; try rfl) (fun _ hm => ?_) (fun _ hm => ?_)
            · refine AWp.skip ?_
              refine normSeq ?_
              refine AWp.seq' ?_
              refine AWp.block ?_
              refine sd mix (by kernel_rfl) (N' := 192) rfl ?_
              refine pu rfl (by simp only [go_sem, Nat.reduceBEq]; try with_reducible rfl) ?_
              refine pu rfl (ap_ldv (by try simp only [go_sem, Nat.reduceBEq]; try rfl) (by simp only [upd_beq, Nat.reduceBEq, cond_true, cond_false]; try rfl) (by simp only [go_sem, Nat.reduceBEq, Nat.reduceAdd]; try with_reducible rfl)) ?_
              refine pu rfl (by simp only [go_sem, Nat.reduceBEq]; try with_reducible rfl) ?_
              obtain ⟨x8, h7, hm⟩ := bnd hm
              refine pu rfl (ap_idx CFGEdge (by decide) Try.underlying25 sz38 (by try simp only [go_sem, Nat.reduceBEq]; try rfl) rfl (by try simp only [go_sem, Nat.reduceBEq]; try rfl) h7) ?_
              iterate 3 refine pu rfl (by simp only [go_sem, Nat.reduceBEq]; try with_reducible rfl) ?_
              refine pu rfl (ap_ldv (by try simp only [go_sem, Nat.reduceBEq]; try rfl) (by simp only [upd_beq, Nat.reduceBEq, cond_true, cond_false]; try rfl) (by simp only [go_sem, Nat.reduceBEq, Nat.reduceAdd]; try with_reducible rfl)) ?_
              refine pu rfl (by simp only [go_sem, Nat.reduceBEq]; try with_reducible rfl) ?_
              refine fs ?_
              refine AWp.condM hm (by try simp only [go_sem, Nat.reduceBEq]; try rfl) (fun _ hm => ?_) (fun _ hm => ?_)
              · refine sr (N' := 256) rfl ?_
                refine pu rfl (by simp only [go_sem, Nat.reduceBEq]; try with_reducible rfl) ?_
                refine fs ?_
                refine AWp.ret ?_
                refine retIn ?_
                refine retSeq ?_
                refine retThen ?_
                refine retIn ?_
                refine retSeq ?_
                cases hm
                exact ret1D (.inr rfl) Try.results29 (td (by try simp only [go_sem, Nat.reduceBEq]; try rfl) (.v _))
              · refine AWp.skip ?_
                refine normIn ?_
                refine normSeq ?_
                refine AWp.reg 64 (N' := 256) rfl ?_
                iterate 3 refine pu rfl (by simp only [go_sem, Nat.reduceBEq]; try with_reducible rfl) ?_
                refine ARun.fin ?_
                refine normThen ?_
                refine ⟨_, ?_, g_1, c_3, (IntKind.i64.wrap (i_6 + 1)), rfl, hm⟩
                exact le_canon (fun j => bif j == 1 then 1 else bif j == 2 then 2 else 0) (wk_fset _ _ (wk_data (by try simp only [go_sem, Nat.reduceBEq]; try rfl) (.v _)) (wk_fset _ _ (wk_adr (by try simp only [go_sem, Nat.reduceBEq]; try rfl) rfl (by simp [upd])) (wk_fset _ _ (wk_adr (by try simp only [go_sem, Nat.reduceBEq]; try rfl) rfl (by simp [upd])) wk_none))) (heapWk_of _ (entWk_upd (entWk_data (by simp only [upd_beq, Nat.reduceBEq, cond_true, cond_false]; try rfl) (Nat.le_refl _) (Nat.zero_le _) (CFGConfig.dat c_3)) (entWk_upd (entWk_data (by simp only [upd_beq, Nat.reduceBEq, cond_true, cond_false]; try rfl) (Nat.le_refl _) (Nat.zero_le _) (CFGGraph.dat g_1)) entWk_none)) (by repeat' (first | exact inj_none | exact liv_none | refine inj_upd ?_ ?_ | refine liv_upd ?_ ?_ | exact .inl rfl | exact .inr (by decide))))
            · refine AWp.exit ?_
              refine exitSeq ?_
              refine exitThen ?_
              refine exitHere ?_
              refine normSeq ?_
              refine sr (N' := 192) rfl ?_
              refine pu rfl (by simp only [go_sem, Nat.reduceBEq]; try with_reducible rfl) ?_
              refine pu rfl (ap_ldv (by try simp only [go_sem, Nat.reduceBEq]; try rfl) (by simp only [upd_beq, Nat.reduceBEq, cond_true, cond_false]; try rfl) (by simp only [go_sem, Nat.reduceBEq, Nat.reduceAdd]; try with_reducible rfl)) ?_
              refine pu rfl (by simp only [go_sem, Nat.reduceBEq]; try with_reducible rfl) ?_
              refine pu rfl (ap_ldv (by try simp only [go_sem, Nat.reduceBEq]; try rfl) (by simp only [upd_beq, Nat.reduceBEq, cond_true, cond_false]; try rfl) (by simp only [go_sem, Nat.reduceBEq, Nat.reduceAdd]; try with_reducible rfl)) ?_
              obtain ⟨r10, h9, hm⟩ := bnd hm
              refine ARun.callQ (r := .sl (r10.flatMap cGEdge) r10.length false) (by decide) (by try simp only [go_sem, Nat.reduceBEq]; try rfl) fb70 (fun H => (.cons (td (by try simp only [go_sem, Nat.reduceBEq]; try rfl) (CFGEdge.sl _ _ _)) (.cons (td (by try simp only [go_sem, Nat.reduceBEq]; try rfl) (.v _)) .nil))) (ref12Forest_c h9) ?_
              refine pu rfl (by simp only [go_sem, Nat.reduceBEq]; try with_reducible rfl) ?_
              refine fs ?_
              refine sr (N' := 256) rfl ?_
              refine pu rfl (by simp only [go_sem, Nat.reduceBEq]; try with_reducible rfl) ?_
              refine pu rfl (ap_ldv (by try simp only [go_sem, Nat.reduceBEq]; try rfl) (by simp only [upd_beq, Nat.reduceBEq, cond_true, cond_false]; try rfl) (by simp only [go_sem, Nat.reduceBEq, Nat.reduceAdd]; try with_reducible rfl)) ?_
              refine pu rfl (by simp only [go_sem, Nat.reduceBEq]; try with_reducible rfl) ?_
              obtain ⟨r12, h11, hm⟩ := bnd hm
              refine ARun.callQ (r := .sl (r12.flatMap cGEdge) r12.length false) (by decide) (by try simp only [go_sem, Nat.reduceBEq]; try rfl) fb77 (fun H => (.cons (td (by try simp only [go_sem, Nat.reduceBEq]; try rfl) (.v _)) (.cons (td (by try simp only [go_sem, Nat.reduceBEq]; try rfl) (CFGEdge.sl _ _ _)) .nil))) (ref10Spanning_c h11) ?_
              iterate 5 refine pu rfl (by simp only [go_sem, Nat.reduceBEq]; try with_reducible rfl) ?_
              refine fs ?_
              refine AWp.ret ?_
              cases hm
              exact ret1D (.inr rfl) Try.results29 (td (by try simp only [go_sem, Nat.reduceBEq]; try rfl) (.v _))
def ref15Kept_m (g_0 : GGraph) : Option ((List Int)) :=
  ((ref12Forest_m g_0.Edges g_0.Config.L).bind fun r2 =>
  ((ref09Of_m g_0.Config.N r2).bind fun r4 =>
  some r4))
theorem ref15Kept_c {g_0 : GGraph} {r : (List Int)} (hm : ref15Kept_m g_0 = some r) : PureC Try.prog 32 [.agg [.v (.int .i64 g_0.Config.N), .v (.int .i64 g_0.Config.L), .v (.int .i64 g_0.Config.R), .sl (g_0.Hashes.flatMap cGHash) g_0.Hashes.length false, .sl (g_0.Edges.flatMap cGEdge) g_0.Edges.length false]] (.sl (r.flatMap (ci .i64)) r.length false) := by
  refine PureC.of_body Try.func32 rfl ?_
  simp only [Try.ntmps32, List.length_cons, List.length_nil, Nat.reduceAdd, Nat.reduceSub, empty_eq]
  unfold ref15Kept_m at hm
  refine sr (N' := 64) rfl ?_
  refine hp (id := 0) rfl rfl (aheap_box (by try simp only [go_sem, Nat.reduceBEq]; try rfl) (by simp only [isFresh_upd, isFresh_no, Nat.reduceBEq, cond_true, cond_false])) ?_
  refine pu rfl (by simp only [go_sem, Nat.reduceBEq]; try with_reducible rfl) ?_
  refine fs ?_
  refine sd mix (by kernel_rfl) (N' := 128) rfl ?_
  iterate 2 refine pu rfl (by simp only [go_sem, Nat.reduceBEq]; try with_reducible rfl) ?_
  refine pu rfl (ap_ldv (by try simp only [go_sem, Nat.reduceBEq]; try rfl) (by simp only [upd_beq, Nat.reduceBEq, cond_true, cond_false]; try rfl) (by simp only [go_sem, Nat.reduceBEq, Nat.reduceAdd]; try with_reducible rfl)) ?_
  refine pu rfl (by simp only [go_sem, Nat.reduceBEq]; try with_reducible rfl) ?_
  refine pu rfl (ap_ldv (by try simp only [go_sem, Nat.reduceBEq]; try rfl) (by simp only [upd_beq, Nat.reduceBEq, cond_true, cond_false]; try rfl) (by simp only [go_sem, Nat.reduceBEq, Nat.reduceAdd]; try with_reducible rfl)) ?_
  iterate 2 refine pu rfl (by simp only [go_sem, Nat.reduceBEq]; try with_reducible rfl) ?_
  refine pu rfl (ap_ldv (by try simp only [go_sem, Nat.reduceBEq]; try rfl) (by simp only [upd_beq, Nat.reduceBEq, cond_true, cond_false]; try rfl) (by simp only [go_sem, Nat.reduceBEq, Nat.reduceAdd]; try with_reducible rfl)) ?_
  obtain ⟨r2, h1, hm⟩ := bnd hm
  refine ARun.callQ (r := .sl (r2.flatMap cGEdge) r2.length false) (by decide) (by try simp only [go_sem, Nat.reduceBEq]; try rfl) fb70 (fun H => (.cons (td (by try simp only [go_sem, Nat.reduceBEq]; try rfl) (CFGEdge.sl _ _ _)) (.cons (td (by try simp only [go_sem, Nat.reduceBEq]; try rfl) (.v _)) .nil))) (ref12Forest_c h1) ?_
  obtain ⟨r4, h3, hm⟩ := bnd hm
  refine ARun.callQ (r := .sl (r4.flatMap (ci .i64)) r4.length false) (by decide) (by try simp only [go_sem, Nat.reduceBEq]; try rfl) fb71 (fun H => (.cons (td (by try simp only [go_sem, Nat.reduceBEq]; try rfl) (.v _)) (.cons (td (by try simp only [go_sem, Nat.reduceBEq]; try rfl) (CFGEdge.sl _ _ _)) .nil))) (ref09Of_c h3) ?_
  refine pu rfl (by simp only [go_sem, Nat.reduceBEq]; try with_reducible rfl) ?_
  refine fs ?_
  refine AWp.ret ?_
  cases hm
  exact ret1D (.inr rfl) Try.results32 (td (by try simp only [go_sem, Nat.reduceBEq]; try rfl) ((CFi .i64).sl _ _ _))
def ref20So_m (g_0 : GGraph) : Option ((List Int)) :=
  ((ref09Of_m g_0.Config.N g_0.Edges).bind fun r2 =>
  some r2)
theorem ref20So_c {g_0 : GGraph} {r : (List Int)} (hm : ref20So_m g_0 = some r) : PureC Try.prog 33 [.agg [.v (.int .i64 g_0.Config.N), .v (.int .i64 g_0.Config.L), .v (.int .i64 g_0.Config.R), .sl (g_0.Hashes.flatMap cGHash) g_0.Hashes.length false, .sl (g_0.Edges.flatMap cGEdge) g_0.Edges.length false]] (.sl (r.flatMap (ci .i64)) r.length false) := by
  refine PureC.of_body Try.func33 rfl ?_
  simp only [Try.ntmps33, List.length_cons, List.length_nil, Nat.reduceAdd, Nat.reduceSub, empty_eq]
  unfold ref20So_m at hm
  refine sr (N' := 64) rfl ?_
  refine hp (id := 0) rfl rfl (aheap_box (by try simp only [go_sem, Nat.reduceBEq]; try rfl) (by simp only [isFresh_upd, isFresh_no, Nat.reduceBEq, cond_true, cond_false])) ?_
  refine pu rfl (by simp only [go_sem, Nat.reduceBEq]; try with_reducible rfl) ?_
  refine fs ?_
  refine sr (N' := 128) rfl ?_
  iterate 2 refine pu rfl (by simp only [go_sem, Nat.reduceBEq]; try with_reducible rfl) ?_
  refine pu rfl (ap_ldv (by try simp only [go_sem, Nat.reduceBEq]; try rfl) (by simp only [upd_beq, Nat.reduceBEq, cond_true, cond_false]; try rfl) (by simp only [go_sem, Nat.reduceBEq, Nat.reduceAdd]; try with_reducible rfl)) ?_
  refine pu rfl (by simp only [go_sem, Nat.reduceBEq]; try with_reducible rfl) ?_
  refine pu rfl (ap_ldv (by try simp only [go_sem, Nat.reduceBEq]; try rfl) (by simp only [upd_beq, Nat.reduceBEq, cond_true, cond_false]; try rfl) (by simp only [go_sem, Nat.reduceBEq, Nat.reduceAdd]; try with_reducible rfl)) ?_
  obtain ⟨r2, h1, hm⟩ := bnd hm
  refine ARun.callQ (r := .sl (r2.flatMap (ci .i64)) r2.length false) (by decide) (by try simp only [go_sem, Nat.reduceBEq]; try rfl) fb71 (fun H => (.cons (td (by try simp only [go_sem, Nat.reduceBEq]; try rfl) (.v _)) (.cons (td (by try simp only [go_sem, Nat.reduceBEq]; try rfl) (CFGEdge.sl _ _ _)) .nil))) (ref09Of_c h1) ?_
  refine pu rfl (by simp only [go_sem, Nat.reduceBEq]; try with_reducible rfl) ?_
  refine fs ?_
  refine AWp.ret ?_
  cases hm
  exact ret1D (.inr rfl) Try.results33 (td (by try simp only [go_sem, Nat.reduceBEq]; try rfl) ((CFi .i64).sl _ _ _))
def ref20Classes_J1 (rec1 : List Int → Int → Int → Option (Int)) (p_0 : List Int) (n_3 : Int) (i_4 : Int) : Option (Int) :=
  rec1 p_0 n_3 (IntKind.i64.wrap (i_4 + 1))
def ref20Classes_B1 (rec1 : List Int → Int → Int → Option (Int)) (p_0 : List Int) (n_3 : Int) (i_4 : Int) : Option (Int) :=
  (bif (decide (i_4 < (p_0.length : Int))) then
    ((idx p_0 i_4).bind fun x2 =>
    (bif (x2 == i_4) then
      ref20Classes_J1 rec1 p_0 (IntKind.i64.wrap (n_3 + 1)) i_4
    else
      ref20Classes_J1 rec1 p_0 n_3 i_4))
  else
    some n_3)
def ref20Classes_L1 : Nat → List Int → Int → Int → Option (Int)
  | 0 => fun _ _ _ => none
  | n + 1 => ref20Classes_B1 (ref20Classes_L1 n)
def ref20Classes_m (p_0 : List Int) : Option (Int) :=
  ref20Classes_L1 FUEL p_0 0 0
theorem ref20Classes_c {p_0 : List Int} {r : Int} (hm : ref20Classes_m p_0 = some r) : PureC Try.prog 35 [.sl (p_0.flatMap (ci .i64)) p_0.length false] (.v (.int .i64 r)) := by
  refine PureC.of_body Try.func35 rfl ?_
  simp only [Try.ntmps35, List.length_cons, List.length_nil, Nat.reduceAdd, Nat.reduceSub, empty_eq]
  unfold ref20Classes_m at hm
  refine sr (N' := 64) rfl ?_
  refine pu rfl (by simp only [go_sem, Nat.reduceBEq]; try with_reducible rfl) ?_
  refine fs ?_
  refine sr (N' := 128) rfl ?_
  refine pu rfl (by simp only [go_sem, Nat.reduceBEq]; try with_reducible rfl) ?_
  refine fs ?_
  refine AWp.seq' ?_
  refine sr (N' := 192) rfl ?_
  refine pu rfl (by simp only [go_sem, Nat.reduceBEq]; try with_reducible rfl) ?_
  refine fs ?_
  refine AWp.block ?_
  refine AWp.loopM (fun m s => ∃ (p_0 : List Int) (n_3 : Int) (i_4 : Int), s = (⟨20, (fset (fset (fset (fun _ => AV.any) 0 (.sl (p_0.flatMap (ci .i64)) p_0.length false)) 3 (.v (.int .i64 n_3))) 4 (.v (.int .i64 i_4))), ⟨nofresh, 64⟩⟩ : St) ∧ ref20Classes_L1 m p_0 n_3 i_4 = some r) FUEL ?_ ?_ ?_
  · rintro s ⟨_, _, _, _, h⟩
    cases h
  · refine ⟨_, ?_, p_0, 0, 0, rfl, hm⟩
    exact le_canon id (wk_fset _ _ (wk_data (by try simp only [go_sem, Nat.reduceBEq]; try rfl) (.v _)) (wk_fset _ _ (wk_data (by try simp only [go_sem, Nat.reduceBEq]; try rfl) (.v _)) (wk_fset _ _ (wk_data (by try simp only [go_sem, Nat.reduceBEq]; try rfl) ((CFi .i64).sl _ _ _)) wk_none))) heapWk0
  · rintro n1 s ⟨p_0, n_3, i_4, rfl, hm⟩
    replace hm : ref20Classes_B1 (ref20Classes_L1 n1) p_0 n_3 i_4 = some r := hm
    unfold ref20Classes_B1 at hm
    refine AWp.seq' ?_
    refine sr (N' := 128) rfl ?_
    iterate 4 refine pu rfl (by simp only [go_sem, Nat.reduceBEq]; try with_reducible rfl) ?_
    refine fs ?_
    refine AWp.condM hm (by try simp only [go_sem, Nat.reduceBEq]; try rfl) (fun _ hm => ?_) (fun _ hm => ?_)
    · refine AWp.skip ?_
      refine normSeq ?_
      refine AWp.seqJ (fun s => ∃ (p_0 : List Int) (n_3 : Int) (i_4 : Int), s = (⟨20, (fset (fset (fset (fun _ => AV.any) 0 (.sl (p_0.flatMap (ci .i64)) p_0.length false)) 3 (.v (.int .i64 n_3))) 4 (.v (.int .i64 i_4))), ⟨nofresh, 64⟩⟩ : St) ∧ ref20Classes_J1 (ref20Classes_L1 n1) p_0 n_3 i_4 = some r) ?_ ?_
      · refine AWp.block ?_
        refine sr (N' := 192) rfl ?_
        iterate 2 refine pu rfl (by simp only [go_sem, Nat.reduceBEq]; try with_reducible rfl) ?_
        obtain ⟨x2, h1, hm⟩ := bnd hm
        refine pu rfl (ap_idx (CFi .i64) (by decide) Try.underlying30 sz3 (by try simp only [go_sem, Nat.reduceBEq]; try rfl) rfl (by try simp only [go_sem, Nat.reduceBEq]; try rfl) h1) ?_
        iterate 3 refine pu rfl (by simp only [go_sem, Nat.reduceBEq]; try with_reducible rfl) ?_
        refine fs ?_
        refine AWp.condM hm (by try simp only [go_sem, Nat.reduceBEq]; try rfl) (fun _ hm => ?_) (fun _ hm => ?_)
        · refine AWp.reg 64 (N' := 256) rfl ?_
          iterate 3 refine pu rfl (by simp only [go_sem, Nat.reduceBEq]; try with_reducible rfl) ?_
          refine ARun.fin ?_
          refine normIn ?_
          refine normJ ?_
          refine ⟨_, ?_, p_0, (IntKind.i64.wrap (n_3 + 1)), i_4, rfl, hm⟩
          exact le_canon id (wk_fset _ _ (wk_data (by try simp only [go_sem, Nat.reduceBEq]; try rfl) (.v _)) (wk_fset _ _ (wk_data (by try simp only [go_sem, Nat.reduceBEq]; try rfl) (.v _)) (wk_fset _ _ (wk_data (by try simp only [go_sem, Nat.reduceBEq]; try rfl) ((CFi .i64).sl _ _ _)) wk_none))) heapWk0
        · refine AWp.skip ?_
          refine normIn ?_
          refine normJ ?_
          refine ⟨_, ?_, p_0, n_3, i_4, rfl, hm⟩
          exact le_canon id (wk_fset _ _ (wk_data (by try simp only [go_sem, Nat.reduceBEq]; try rfl) (.v _)) (wk_fset _ _ (wk_data (by try simp only [go_sem, Nat.reduceBEq]; try rfl) (.v _)) (wk_fset _ _ (wk_data (by try simp only [go_sem, Nat.reduceBEq]; try rfl) ((CFi .i64).sl _ _ _)) wk_none))) heapWk0
      · rintro s ⟨p_0, n_3, i_4, rfl, hm⟩
        unfold ref20Classes_J1 at hm
        refine AWp.reg 64 (N' := 128) rfl ?_
        iterate 3 refine pu rfl (by simp only [go_sem, Nat.reduceBEq]; try with_reducible rfl) ?_
        refine ARun.fin ?_
        refine normThen ?_
        refine ⟨_, ?_, p_0, n_3, (IntKind.i64.wrap (i_4 + 1)), rfl, hm⟩
        exact le_canon id (wk_fset _ _ (wk_data (by try simp only [go_sem, Nat.reduceBEq]; try rfl) (.v _)) (wk_fset _ _ (wk_data (by try simp only [go_sem, Nat.reduceBEq]; try rfl) (.v _)) (wk_fset _ _ (wk_data (by try simp only [go_sem, Nat.reduceBEq]; try rfl) ((CFi .i64).sl _ _ _)) wk_none))) heapWk0
    · refine AWp.exit ?_
      refine exitSeq ?_
      refine exitThen ?_
      refine exitHere ?_
      refine normSeq ?_
      refine sr (N' := 192) rfl ?_
      iterate 2 refine pu rfl (by simp only [go_sem, Nat.reduceBEq]; try with_reducible rfl) ?_
      refine fs ?_
      refine AWp.ret ?_
      cases hm
      exact ret1D (.inr rfl) Try.results35 (td (by try simp only [go_sem, Nat.reduceBEq]; try rfl) (.v _))
def ref20Between_J1 (rec1 : GGraph → List Int → List GEdge → Int → Option ((List GEdge))) (g_1 : GGraph) (p_3 : List Int) (out_4 : List GEdge) (i_5 : Int) : Option ((List GEdge)) :=
  rec1 g_1 p_3 out_4 (IntKind.i64.wrap (i_5 + 1))
def ref20Between_B1 (rec1 : GGraph → List Int → List GEdge → Int → Option ((List GEdge))) (g_1 : GGraph) (p_3 : List Int) (out_4 : List GEdge) (i_5 : Int) : Option ((List GEdge)) :=
  (bif (decide (i_5 < (g_1.Edges.length : Int))) then
    ((idx g_1.Edges i_5).bind fun x4 =>
    ((idx p_3 x4.U).bind fun x6 =>
    ((idx g_1.Edges i_5).bind fun x8 =>
    ((idx p_3 x8.V).bind fun x10 =>
    (bif (x6 != x10) then
      ((idx g_1.Edges i_5).bind fun x12 =>
      ((app out_4 [x12]).bind fun l14 =>
      ref20Between_J1 rec1 g_1 p_3 l14 i_5))
    else
      ref20Between_J1 rec1 g_1 p_3 out_4 i_5)))))
  else
    some out_4)
def ref20Between_L1 : Nat → GGraph → List Int → List GEdge → Int → Option ((List GEdge))
  | 0 => fun _ _ _ _ => none
  | n + 1 => ref20Between_B1 (ref20Between_L1 n)
def ref20Between_m (g_0 : GGraph) : Option ((List GEdge)) :=
  ((ref15Kept_m g_0).bind fun r2 =>
  ref20Between_L1 FUEL g_0 r2 [] 0)
theorem ref20Between_c {g_0 : GGraph} {r : (List GEdge)} (hm : ref20Between_m g_0 = some r) : PureC Try.prog 37 [.agg [.v (.int .i64 g_0.Config.N), .v (.int .i64 g_0.Config.L), .v (.int .i64 g_0.Config.R), .sl (g_0.Hashes.flatMap cGHash) g_0.Hashes.length false, .sl (g_0.Edges.flatMap cGEdge) g_0.Edges.length false]] (.sl (r.flatMap cGEdge) r.length false) := by
  refine PureC.of_body Try.func37 rfl ?_
  simp only [Try.ntmps37, List.length_cons, List.length_nil, Nat.reduceAdd, Nat.reduceSub, empty_eq]
  unfold ref20Between_m at hm
  refine sr (N' := 64) rfl ?_
  refine hp (id := 0) rfl rfl (aheap_box (by try simp only [go_sem, Nat.reduceBEq]; try rfl) (by simp only [isFresh_upd, isFresh_no, Nat.reduceBEq, cond_true, cond_false])) ?_
  refine pu rfl (by simp only [go_sem, Nat.reduceBEq]; try with_reducible rfl) ?_
  refine fs ?_
  refine sr (N' := 128) rfl ?_
  refine pu rfl (ap_ldv (by try simp only [go_sem, Nat.reduceBEq]; try rfl) (by simp only [upd_beq, Nat.reduceBEq, cond_true, cond_false]; try rfl) (by simp only [go_sem, Nat.reduceBEq]; try with_reducible rfl)) ?_
  obtain ⟨r2, h1, hm⟩ := bnd hm
  refine ARun.callQ (r := .sl (r2.flatMap (ci .i64)) r2.length false) (by decide) (by try simp only [go_sem, Nat.reduceBEq]; try rfl) fb32 (fun H => (.cons (td (by try simp only [go_sem, Nat.reduceBEq]; try rfl) (.agg _ (CFGGraph.dat _))) .nil)) (ref15Kept_c h1) ?_
  refine pu rfl (by simp only [go_sem, Nat.reduceBEq]; try with_reducible rfl) ?_
  refine fs ?_
  refine sr (N' := 192) rfl ?_
  refine pu rfl (by simp only [go_sem, Nat.reduceBEq]; try with_reducible rfl) ?_
  refine fs ?_
  refine AWp.seq' ?_
  refine sr (N' := 256) rfl ?_
  refine pu rfl (by simp only [go_sem, Nat.reduceBEq]; try with_reducible rfl) ?_
  refine fs ?_
  refine AWp.block ?_
  refine AWp.loopM (fun m s => ∃ (g_1 : GGraph) (p_3 : List Int) (out_4 : List GEdge) (i_5 : Int), s = (⟨43, (fset (fset (fset (fset (fun _ => AV.any) 1 (.adr 1 0)) 3 (.sl (p_3.flatMap (ci .i64)) p_3.length false)) 4 (.own 2 0 out_4.length)) 5 (.v (.int .i64 i_5))), ⟨(upd (upd nofresh 1 (.cells 1 [.v (.int .i64 g_1.Config.N), .v (.int .i64 g_1.Config.L), .v (.int .i64 g_1.Config.R), .sl (g_1.Hashes.flatMap cGHash) g_1.Hashes.length false, .sl (g_1.Edges.flatMap cGEdge) g_1.Edges.length false] 0)) 2 (.cells 3 (out_4.flatMap cGEdge) 0)), 64⟩⟩ : St) ∧ ref20Between_L1 m g_1 p_3 out_4 i_5 = some r) FUEL ?_ ?_ ?_
  · rintro s ⟨_, _, _, _, _, h⟩
    cases h
  · refine ⟨_, ?_, g_0, r2, [], 0, rfl, hm⟩
    refine St.Le.trans (le_nil 4 900004 3 (by try simp only [go_sem, Nat.reduceBEq]; try rfl) (by simp only [isFresh_upd, isFresh_no, Nat.reduceBEq, cond_true, cond_false])) ?_
    exact le_canon (fun j => bif j == 1 then 0 else bif j == 2 then 900004 else 0) (wk_fset _ _ (wk_data (by try simp only [go_sem, Nat.reduceBEq]; try rfl) (.v _)) (wk_fset _ _ (wk_own (by try simp only [go_sem, Nat.reduceBEq]; try rfl) (by first | rfl | omega) rfl (by simp [upd])) (wk_fset _ _ (wk_data (by try simp only [go_sem, Nat.reduceBEq]; try rfl) ((CFi .i64).sl _ _ _)) (wk_fset _ _ (wk_adr (by try simp only [go_sem, Nat.reduceBEq]; try rfl) rfl (by simp [upd])) wk_none)))) (heapWk_of _ (entWk_upd (ent_fm CFGEdge (by simp only [upd_beq, Nat.reduceBEq, cond_true, cond_false]; try rfl) rfl) (entWk_upd (entWk_data (by simp only [upd_beq, Nat.reduceBEq, cond_true, cond_false]; try rfl) (Nat.le_refl _) (Nat.zero_le _) (CFGGraph.dat g_0)) entWk_none)) (by repeat' (first | exact inj_none | exact liv_none | refine inj_upd ?_ ?_ | refine liv_upd ?_ ?_ | exact .inl rfl | exact .inr (by decide))))
  · rintro n1 s ⟨g_1, p_3, out_4, i_5, rfl, hm⟩
    replace hm : ref20Between_B1 (ref20Between_L1 n1) g_1 p_3 out_4 i_5 = some r := hm
    unfold ref20Between_B1 at hm
    refine AWp.seq' ?_
    refine sr (N' := 128) rfl ?_
    iterate 2 refine pu rfl (by simp only [go_sem, Nat.reduceBEq]; try with_reducible rfl) ?_
    refine pu rfl (ap_ldv (by try simp only [go_sem, Nat.reduceBEq]; try rfl) (by simp only [upd_beq, Nat.reduceBEq, cond_true, cond_false]; try rfl) (by simp only [go_sem, Nat.reduceBEq, Nat.reduceAdd]; try with_reducible rfl)) ?_
    iterate 2 refine pu rfl (by simp only [go_sem, Nat.reduceBEq]; try with_reducible rfl) ?_
    refine fs ?_
    refine AWp.condM hm (by try simp only [go_sem, Nat.reduceBEq]; try rfl) (fun _ hm => ?_) (fun _ hm => ?_)
    · refine AWp.skip ?_
      refine normSeq ?_
      refine AWp.seqJ (fun s => ∃ (g_1 : GGraph) (p_3 : List Int) (out_4 : List GEdge) (i_5 : Int), s = (⟨43, (fset (fset (fset (fset (fun _ => AV.any) 1 (.adr 1 0)) 3 (.sl (p_3.flatMap (ci .i64)) p_3.length false)) 4 (.own 2 0 out_4.length)) 5 (.v (.int .i64 i_5))), ⟨(upd (upd nofresh 1 (.cells 1 [.v (.int .i64 g_1.Config.N), .v (.int .i64 g_1.Config.L), .v (.int .i64 g_1.Config.R), .sl (g_1.Hashes.flatMap cGHash) g_1.Hashes.length false, .sl (g_1.Edges.flatMap cGEdge) g_1.Edges.length false] 0)) 2 (.cells 3 (out_4.flatMap cGEdge) 0)), 64⟩⟩ : St) ∧ ref20Between_J1 (ref20Between_L1 n1) g_1 p_3 out_4 i_5 = some r) ?_ ?_
      · refine AWp.block ?_
        refine sd mix (by kernel_rfl) (N' := 192) rfl ?_
        iterate 2 refine pu rfl (by simp only [go_sem, Nat.reduceBEq]; try with_reducible rfl) ?_
        refine pu rfl (ap_ldv (by try simp only [go_sem, Nat.reduceBEq]; try rfl) (by simp only [upd_beq, Nat.reduceBEq, cond_true, cond_false]; try rfl) (by simp only [go_sem, Nat.reduceBEq, Nat.reduceAdd]; try with_reducible rfl)) ?_
        refine pu rfl (by simp only [go_sem, Nat.reduceBEq]; try with_reducible rfl) ?_
        obtain ⟨x4, h3, hm⟩ := bnd hm
        refine pu rfl (ap_idx CFGEdge (by decide) Try.underlying25 sz38 (by try simp only [go_sem, Nat.reduceBEq]; try rfl) rfl (by try simp only [go_sem, Nat.reduceBEq]; try rfl) h3) ?_
        iterate 2 refine pu rfl (by simp only [go_sem, Nat.reduceBEq]; try with_reducible rfl) ?_
        obtain ⟨x6, h5, hm⟩ := bnd hm
        refine pu rfl (ap_idx (CFi .i64) (by decide) Try.underlying30 sz3 (by try simp only [go_sem, Nat.reduceBEq]; try rfl) rfl (by try simp only [go_sem, Nat.reduceBEq]; try rfl) h5) ?_
        iterate 3 refine pu rfl (by simp only [go_sem, Nat.reduceBEq]; try with_reducible rfl) ?_
        refine pu rfl (ap_ldv (by try simp only [go_sem, Nat.reduceBEq]; try rfl) (by simp only [upd_beq, Nat.reduceBEq, cond_true, cond_false]; try rfl) (by simp only [go_sem, Nat.reduceBEq, Nat.reduceAdd]; try with_reducible rfl)) ?_
        refine pu rfl (by simp only [go_sem, Nat.reduceBEq]; try with_reducible rfl) ?_
        obtain ⟨x8, h7, hm⟩ := bnd hm
        refine pu rfl (ap_idx CFGEdge (by decide) Try.underlying25 sz38 (by try simp only [go_sem, Nat.reduceBEq]; try rfl) rfl (by try simp only [go_sem, Nat.reduceBEq]; try rfl) h7) ?_
        iterate 2 refine pu rfl (by simp only [go_sem, Nat.reduceBEq]; try with_reducible rfl) ?_
        obtain ⟨x10, h9, hm⟩ := bnd hm
        refine pu rfl (ap_idx (CFi .i64) (by decide) Try.underlying30 sz3 (by try simp only [go_sem, Nat.reduceBEq]; try rfl) rfl (by try simp only [go_sem, Nat.reduceBEq]; try rfl) h9) ?_
        iterate 2 refine pu rfl (by simp only [go_sem, Nat.reduceBEq]; try with_reducible rfl) ?_
        refine fs ?_
        refine AWp.condM hm (by try simp only [go_sem, Nat.reduceBEq]; try rfl) (fun _ hm => ?_) (fun _ hm => ?_)
        · refine AWp.reg 64 (N' := 256) rfl ?_
          iterate 2 refine pu rfl (by simp only [go_sem, Nat.reduceBEq]; try with_reducible rfl) ?_
          refine pu rfl (ap_ldv (by try simp only [go_sem, Nat.reduceBEq]; try rfl) (by simp only [upd_beq, Nat.reduceBEq, cond_true, cond_false]; try rfl) (by simp only [go_sem, Nat.reduceBEq, Nat.reduceAdd]; try with_reducible rfl)) ?_
          refine pu rfl (by simp only [go_sem, Nat.reduceBEq]; try with_reducible rfl) ?_
          obtain ⟨x12, h11, hm⟩ := bnd hm
          refine pu rfl (ap_idx CFGEdge (by decide) Try.underlying25 sz38 (by try simp only [go_sem, Nat.reduceBEq]; try rfl) rfl (by try simp only [go_sem, Nat.reduceBEq]; try rfl) h11) ?_
          refine pu rfl (by simp only [go_sem, Nat.reduceBEq]; try with_reducible rfl) ?_
          refine hp (id := 198) rfl rfl (ah_list CFGEdge (l := [x12]) Try.underlying25 sz38 zc38 (by simp only [isFresh_upd, isFresh_no, Nat.reduceBEq, cond_true, cond_false]) (by decide) (by decide) (by decide) (by simp only [go_sem, Nat.reduceBEq]; try rfl) (by kernel_rfl)) ?_
          obtain ⟨l14, h13, hm⟩ := bnd hm
          refine hp (id := 199) rfl rfl (ah_app CFGEdge Try.underlying25 Try.underlying25 rfl in38 ts38 (by rw [tb38]; decide) (by rw [tb38]; decide) tz38 (by decide) (by decide) (by try simp only [go_sem, Nat.reduceBEq]; try rfl) (by simp only [upd_beq, Nat.reduceBEq, cond_true, cond_false]; try rfl) (by first | rfl | omega) (as_own CFGEdge (by try simp only [go_sem, Nat.reduceBEq]; try rfl) (by simp only [upd_beq, Nat.reduceBEq, cond_true, cond_false]; try rfl) (by first | rfl | omega)) rfl (by simp only [isFresh_upd, isFresh_no, Nat.reduceBEq, cond_true, cond_false]) h13) ?_
          refine pu rfl (by simp only [go_sem, Nat.reduceBEq]; try with_reducible rfl) ?_
          refine ARun.fin ?_
          refine normIn ?_
          refine normJ ?_
          refine ⟨_, ?_, g_1, p_3, l14, i_5, rfl, hm⟩
          exact le_canon (fun j => bif j == 1 then 1 else bif j == 2 then 199 else 0) (wk_fset _ _ (wk_data (by try simp only [go_sem, Nat.reduceBEq]; try rfl) (.v _)) (wk_fset _ _ (wk_own (by try simp only [go_sem, Nat.reduceBEq]; try rfl) (by first | rfl | omega) rfl (by simp [upd])) (wk_fset _ _ (wk_data (by try simp only [go_sem, Nat.reduceBEq]; try rfl) ((CFi .i64).sl _ _ _)) (wk_fset _ _ (wk_adr (by try simp only [go_sem, Nat.reduceBEq]; try rfl) rfl (by simp [upd])) wk_none)))) (heapWk_of _ (entWk_upd (ent_fm CFGEdge (by simp only [upd_beq, Nat.reduceBEq, cond_true, cond_false]; try rfl) rfl) (entWk_upd (entWk_data (by simp only [upd_beq, Nat.reduceBEq, cond_true, cond_false]; try rfl) (Nat.le_refl _) (Nat.zero_le _) (CFGGraph.dat g_1)) entWk_none)) (by repeat' (first | exact inj_none | exact liv_none | refine inj_upd ?_ ?_ | refine liv_upd ?_ ?_ | exact .inl rfl | exact .inr (by decide))))
        · refine AWp.skip ?_
          refine normIn ?_
          refine normJ ?_
          refine ⟨_, ?_, g_1, p_3, out_4, i_5, rfl, hm⟩
          exact le_canon (fun j => bif j == 1 then 1 else bif j == 2 then 2 else 0) (wk_fset _ _ (wk_data (by try simp only [go_sem, Nat.reduceBEq]; try rfl) (.v _)) (wk_fset _ _ (wk_own (by try simp only [go_sem, Nat.reduceBEq]; try rfl) (by first | rfl | omega) rfl (by simp [upd])) (wk_fset _ _ (wk_data (by try simp only [go_sem, Nat.reduceBEq]; try rfl) ((CFi .i64).sl _ _ _)) (wk_fset _ _ (wk_adr (by try simp only [go_sem, Nat.reduceBEq]; try rfl) rfl (by simp [upd])) wk_none)))) (heapWk_of _ (entWk_upd (ent_fm CFGEdge (by simp only [upd_beq, Nat.reduceBEq, cond_true, cond_false]; try rfl) rfl) (entWk_upd (entWk_data (by simp only [upd_beq, Nat.reduceBEq, cond_true, cond_false]; try rfl) (Nat.le_refl _) (Nat.zero_le _) (CFGGraph.dat g_1)) entWk_none)) (by repeat' (first | exact inj_none | exact liv_none | refine inj_upd ?_ ?_ | refine liv_upd ?_ ?_ | exact .inl rfl | exact .inr (by decide))))
      · rintro s ⟨g_1, p_3, out_4, i_5, rfl, hm⟩
        unfold ref20Between_J1 at hm
        refine AWp.reg 64 (N' := 128) rfl ?_
        iterate 3 refine pu rfl (by simp only [go_sem, Nat.reduceBEq]; try with_reducible rfl) ?_
        refine ARun.fin ?_
        refine normThen ?_
        refine ⟨_, ?_, g_1, p_3, out_4, (IntKind.i64.wrap (i_5 + 1)), rfl, hm⟩
        exact le_canon (fun j => bif j == 1 then 1 else bif j == 2 then 2 else 0) (wk_fset _ _ (wk_data (by try simp only [go_sem, Nat.reduceBEq]; try rfl) (.v _)) (wk_fset _ _ (wk_own (by try simp only [go_sem, Nat.reduceBEq]; try rfl) (by first | rfl | omega) rfl (by simp [upd])) (wk_fset _ _ (wk_data (by try simp only [go_sem, Nat.reduceBEq]; try rfl) ((CFi .i64).sl _ _ _)) (wk_fset _ _ (wk_adr (by try simp only [go_sem, Nat.reduceBEq]; try rfl) rfl (by simp [upd])) wk_none)))) (heapWk_of _ (entWk_upd (ent_fm CFGEdge (by simp only [upd_beq, Nat.reduceBEq, cond_true, cond_false]; try rfl) rfl) (entWk_upd (entWk_data (by simp only [upd_beq, Nat.reduceBEq, cond_true, cond_false]; try rfl) (Nat.le_refl _) (Nat.zero_le _) (CFGGraph.dat g_1)) entWk_none)) (by repeat' (first | exact inj_none | exact liv_none | refine inj_upd ?_ ?_ | refine liv_upd ?_ ?_ | exact .inl rfl | exact .inr (by decide))))
    · refine AWp.exit ?_
      refine exitSeq ?_
      refine exitThen ?_
      refine exitHere ?_
      refine normSeq ?_
      refine sr (N' := 192) rfl ?_
      iterate 2 refine pu rfl (by simp only [go_sem, Nat.reduceBEq]; try with_reducible rfl) ?_
      refine fs ?_
      refine AWp.ret ?_
      cases hm
      exact ret1D (.inr rfl) Try.results37 (tdo CFGEdge (by try simp only [go_sem, Nat.reduceBEq]; try rfl) (by simp only [upd_beq, Nat.reduceBEq, cond_true, cond_false]; try rfl) (by first | rfl | omega))
def ref03Same_B1 (rec1 : List GEdge → List GEdge → Int → Option (Bool)) (a_0 : List GEdge) (b_1 : List GEdge) (i_5 : Int) : Option (Bool) :=
  (bif (decide (i_5 < (a_0.length : Int))) then
    ((idx a_0 i_5).bind fun x2 =>
    ((idx b_1 i_5).bind fun x4 =>
    (bif (!((x2.U == x4.U) && ((x2.V == x4.V) && (x2.Tier == x4.Tier)))) then
      some false
    else
      rec1 a_0 b_1 (IntKind.i64.wrap (i_5 + 1)))))
  else
    some true)
def ref03Same_L1 : Nat → List GEdge → List GEdge → Int → Option (Bool)
  | 0 => fun _ _ _ => none
  | n + 1 => ref03Same_B1 (ref03Same_L1 n)
def ref03Same_m (a_0 : List GEdge) (b_1 : List GEdge) : Option (Bool) :=
  (bif ((a_0.length : Int) != (b_1.length : Int)) then
    some false
  else
    ref03Same_L1 FUEL a_0 b_1 0)
theorem ref03Same_c {a_0 : List GEdge} {b_1 : List GEdge} {r : Bool} (hm : ref03Same_m a_0 b_1 = some r) : PureC Try.prog 36 [.sl (a_0.flatMap cGEdge) a_0.length false, .sl (b_1.flatMap cGEdge) b_1.length false] (.v (.bool r)) := by
  refine PureC.of_body Try.func36 rfl ?_
  simp only [Try.ntmps36, List.length_cons, List.length_nil, Nat.reduceAdd, Nat.reduceSub, empty_eq]
  unfold ref03Same_m at hm
  refine sr (N' := 64) rfl ?_
  refine pu rfl (by simp only [go_sem, Nat.reduceBEq]; try with_reducible rfl) ?_
  refine fs ?_
  refine AWp.seq' ?_
  refine sr (N' := 128) rfl ?_
  iterate 5 refine pu rfl (by simp only [go_sem, Nat.reduceBEq]; try with_reducible rfl) ?_
  refine fs ?_
  refine AWp.condM hm (by try simp only [go_sem, Nat.reduceBEq]; try rfl) (fun _ hm => ?_) (fun _ hm => ?_)
  · refine sr (N' := 192) rfl ?_
    refine pu rfl (by simp only [go_sem, Nat.reduceBEq]; try with_reducible rfl) ?_
    refine fs ?_
    refine AWp.ret ?_
    refine retSeq ?_
    cases hm
    exact ret1D (.inr rfl) Try.results36 (td (by try simp only [go_sem, Nat.reduceBEq]; try rfl) (.v _))
  · refine AWp.skip ?_
    refine normSeq ?_
    refine AWp.seq' ?_
    refine sr (N' := 192) rfl ?_
    refine pu rfl (by simp only [go_sem, Nat.reduceBEq]; try with_reducible rfl) ?_
    refine fs ?_
    refine AWp.block ?_
    refine AWp.loopM (fun m s => ∃ (a_0 : List GEdge) (b_1 : List GEdge) (i_5 : Int), s = (⟨26, (fset (fset (fset (fun _ => AV.any) 0 (.sl (a_0.flatMap cGEdge) a_0.length false)) 1 (.sl (b_1.flatMap cGEdge) b_1.length false)) 5 (.v (.int .i64 i_5))), ⟨nofresh, 64⟩⟩ : St) ∧ ref03Same_L1 m a_0 b_1 i_5 = some r) FUEL ?_ ?_ ?_
    · rintro s ⟨_, _, _, _, h⟩
      cases h
    · refine ⟨_, ?_, a_0, b_1, 0, rfl, hm⟩
      exact le_canon id (wk_fset _ _ (wk_data (by try simp only [go_sem, Nat.reduceBEq]; try rfl) (.v _)) (wk_fset _ _ (wk_data (by try simp only [go_sem, Nat.reduceBEq]; try rfl) (CFGEdge.sl _ _ _)) (wk_fset _ _ (wk_data (by try simp only [go_sem, Nat.reduceBEq]; try rfl) (CFGEdge.sl _ _ _)) wk_none))) heapWk0
    · rintro n1 s ⟨a_0, b_1, i_5, rfl, hm⟩
      replace hm : ref03Same_B1 (ref03Same_L1 n1) a_0 b_1 i_5 = some r := hm
      unfold ref03Same_B1 at hm
      refine AWp.seq' ?_
      refine sr (N' := 128) rfl ?_
      iterate 4 refine pu rfl (by simp only [go_sem, Nat.reduceBEq]; try with_reducible rfl) ?_
      refine fs ?_
      refine AWp.condM hm (by try simp only [go_sem, Nat.reduceBEq]; try rfl) (fun _ hm => ?_) (fun _ hm => ?_)
      · refine AWp.skip ?_
        refine normSeq ?_
        refine AWp.seq' ?_
        refine AWp.block ?_
        refine sd mix (by kernel_rfl) (N' := 192) rfl ?_
        iterate 2 refine pu rfl (by simp only [go_sem, Nat.reduceBEq]; try with_reducible rfl) ?_
        obtain ⟨x2, h1, hm⟩ := bnd hm
        refine pu rfl (ap_idx CFGEdge (by decide) Try.underlying25 sz38 (by try simp only [go_sem, Nat.reduceBEq]; try rfl) rfl (by try simp only [go_sem, Nat.reduceBEq]; try rfl) h1) ?_
        iterate 3 refine pu rfl (by simp only [go_sem, Nat.reduceBEq]; try with_reducible rfl) ?_
        obtain ⟨x4, h3, hm⟩ := bnd hm
        refine pu rfl (ap_idx CFGEdge (by decide) Try.underlying25 sz38 (by try simp only [go_sem, Nat.reduceBEq]; try rfl) rfl (by try simp only [go_sem, Nat.reduceBEq]; try rfl) h3) ?_
        iterate 2 refine pu rfl (by simp only [go_sem, Nat.reduceBEq]; try with_reducible rfl) ?_
        refine fs ?_
        refine AWp.condM hm (by try simp only [go_sem, Nat.reduceBEq]; try rfl) (fun _ hm => ?_) (fun _ hm => ?_)
        · refine sr (N' := 256) rfl ?_
          refine pu rfl (by simp only [go_sem, Nat.reduceBEq]; try with_reducible rfl) ?_
          refine fs ?_
          refine AWp.ret ?_
          refine retIn ?_
          refine retSeq ?_
          refine retThen ?_
          refine retIn ?_
          refine retSeq ?_
          cases hm
          exact ret1D (.inr rfl) Try.results36 (td (by try simp only [go_sem, Nat.reduceBEq]; try rfl) (.v _))
        · refine AWp.skip ?_
          refine normIn ?_
          refine normSeq ?_
          refine AWp.reg 64 (N' := 256) rfl ?_
          iterate 3 refine pu rfl (by simp only [go_sem, Nat.reduceBEq]; try with_reducible rfl) ?_
          refine ARun.fin ?_
          refine normThen ?_
          refine ⟨_, ?_, a_0, b_1, (IntKind.i64.wrap (i_5 + 1)), rfl, hm⟩
          exact le_canon id (wk_fset _ _ (wk_data (by try simp only [go_sem, Nat.reduceBEq]; try rfl) (.v _)) (wk_fset _ _ (wk_data (by try simp only [go_sem, Nat.reduceBEq]; try rfl) (CFGEdge.sl _ _ _)) (wk_fset _ _ (wk_data (by try simp only [go_sem, Nat.reduceBEq]; try rfl) (CFGEdge.sl _ _ _)) wk_none))) heapWk0
      · refine AWp.exit ?_
        refine exitSeq ?_
        refine exitThen ?_
        refine exitHere ?_
        refine normSeq ?_
        refine sr (N' := 192) rfl ?_
        refine pu rfl (by simp only [go_sem, Nat.reduceBEq]; try with_reducible rfl) ?_
        refine fs ?_
        refine AWp.ret ?_
        cases hm
        exact ret1D (.inr rfl) Try.results36 (td (by try simp only [go_sem, Nat.reduceBEq]; try rfl) (.v _))
def AuditTells_m (g_0 : GGraph) : Option (Bool) :=
  ((ref14Small_m g_0).bind fun r2 =>
  (bif (!r2) then
    ((law20Awake_m ).bind fun r4 =>
    some r4)
  else
    ((auditSo_m g_0).bind fun r6 =>
    ((auditBetween_m g_0).bind fun r8 =>
    ((ref14Right_m g_0).bind fun r10 =>
    (bif (!r10) then
      ((gopt (((IntKind.i64.wrap ((r6.length : Int) + (r8.length : Int))) == 0) == true) false (auditExact_m g_0)).bind fun r12 =>
      ((gopt ((((IntKind.i64.wrap ((r6.length : Int) + (r8.length : Int))) == 0) && (!r12)) == true) 0 (auditMissing_m g_0)).bind fun r14 =>
      ((gopt (((((IntKind.i64.wrap ((r6.length : Int) + (r8.length : Int))) == 0) && (!r12)) && (r14 == 0)) == true) false (law20Awake_m )).bind fun r16 =>
      some (((((IntKind.i64.wrap ((r6.length : Int) + (r8.length : Int))) == 0) && (!r12)) && (r14 == 0)) && r16))))
    else
      ((ref15Kept_m g_0).bind fun r18 =>
      ((ref20So_m g_0).bind fun r20 =>
      ((ref06Same_m r6 r20).bind fun r22 =>
      ((gopt (r22 == true) false (auditExact_m g_0)).bind fun r24 =>
      ((gopt (r22 == true) false (ref06Same_m r18 r20)).bind fun r26 =>
      ((gopt ((r22 && (r24 == r26)) == true) 0 (auditMissing_m g_0)).bind fun r28 =>
      ((gopt ((r22 && (r24 == r26)) == true) 0 (ref20Classes_m r18)).bind fun r30 =>
      ((gopt ((r22 && (r24 == r26)) == true) 0 (ref20Classes_m r20)).bind fun r32 =>
      ((gopt (((r22 && (r24 == r26)) && (r28 == (IntKind.i64.wrap (r30 - r32)))) == true) [] (ref20Between_m g_0)).bind fun r34 =>
      ((gopt (((r22 && (r24 == r26)) && (r28 == (IntKind.i64.wrap (r30 - r32)))) == true) false (ref03Same_m r8 r34)).bind fun r36 =>
      ((gopt ((((r22 && (r24 == r26)) && (r28 == (IntKind.i64.wrap (r30 - r32)))) && r36) == true) false (law20Awake_m )).bind fun r38 =>
      some ((((r22 && (r24 == r26)) && (r28 == (IntKind.i64.wrap (r30 - r32)))) && r36) && r38))))))))))))))))))
theorem AuditTells_c {g_0 : GGraph} {r : Bool} (hm : AuditTells_m g_0 = some r) : PureC Try.prog 3 [.agg [.v (.int .i64 g_0.Config.N), .v (.int .i64 g_0.Config.L), .v (.int .i64 g_0.Config.R), .sl (g_0.Hashes.flatMap cGHash) g_0.Hashes.length false, .sl (g_0.Edges.flatMap cGEdge) g_0.Edges.length false]] (.v (.bool r)) := by
  refine PureC.of_body Try.func3 rfl ?_
  simp only [Try.ntmps3, List.length_cons, List.length_nil, Nat.reduceAdd, Nat.reduceSub, empty_eq]
  unfold AuditTells_m at hm
  refine sr (N' := 64) rfl ?_
  refine hp (id := 0) rfl rfl (aheap_box (by try simp only [go_sem, Nat.reduceBEq]; try rfl) (by simp only [isFresh_upd, isFresh_no, Nat.reduceBEq, cond_true, cond_false])) ?_
  refine pu rfl (by simp only [go_sem, Nat.reduceBEq]; try with_reducible rfl) ?_
  refine fs ?_
  refine AWp.seq' ?_
  refine sr (N' := 128) rfl ?_
  refine pu rfl (ap_ldv (by try simp only [go_sem, Nat.reduceBEq]; try rfl) (by simp only [upd_beq, Nat.reduceBEq, cond_true, cond_false]; try rfl) (by simp only [go_sem, Nat.reduceBEq]; try with_reducible rfl)) ?_
  obtain ⟨r2, h1, hm⟩ := bnd hm
  refine ARun.callQ (r := .v (.bool r2)) (by decide) (by try simp only [go_sem, Nat.reduceBEq]; try rfl) fb25 (fun H => (.cons (td (by try simp only [go_sem, Nat.reduceBEq]; try rfl) (.agg _ (CFGGraph.dat _))) .nil)) (ref14Small_c h1) ?_
  refine pu rfl (by simp only [go_sem, Nat.reduceBEq]; try with_reducible rfl) ?_
  refine fs ?_
  refine AWp.condM hm (by try simp only [go_sem, Nat.reduceBEq]; try rfl) (fun _ hm => ?_) (fun _ hm => ?_)
  · refine sr (N' := 192) rfl ?_
    obtain ⟨r4, h3, hm⟩ := bnd hm
    refine ARun.callQ (r := .v (.bool r4)) (by decide) (by try simp only [go_sem, Nat.reduceBEq]; try rfl) fb26 (fun H => .nil) (law20Awake_c h3) ?_
    refine pu rfl (by simp only [go_sem, Nat.reduceBEq]; try with_reducible rfl) ?_
    refine fs ?_
    refine AWp.ret ?_
    refine retSeq ?_
    cases hm
    exact ret1D (.inr rfl) Try.results3 (td (by try simp only [go_sem, Nat.reduceBEq]; try rfl) (.v _))
  · refine AWp.skip ?_
    refine normSeq ?_
    refine sd mix (by kernel_rfl) (N' := 192) rfl ?_
    refine pu rfl (ap_ldv (by try simp only [go_sem, Nat.reduceBEq]; try rfl) (by simp only [upd_beq, Nat.reduceBEq, cond_true, cond_false]; try rfl) (by simp only [go_sem, Nat.reduceBEq]; try with_reducible rfl)) ?_
    obtain ⟨r6, h5, hm⟩ := bnd hm
    refine ARun.callQ (r := .sl (r6.flatMap (ci .i64)) r6.length false) (by decide) (by try simp only [go_sem, Nat.reduceBEq]; try rfl) fb27 (fun H => (.cons (td (by try simp only [go_sem, Nat.reduceBEq]; try rfl) (.agg _ (CFGGraph.dat _))) .nil)) (auditSo_c h5) ?_
    refine pu rfl (ap_ldv (by try simp only [go_sem, Nat.reduceBEq]; try rfl) (by simp only [upd_beq, Nat.reduceBEq, cond_true, cond_false]; try rfl) (by simp only [go_sem, Nat.reduceBEq]; try with_reducible rfl)) ?_
    obtain ⟨r8, h7, hm⟩ := bnd hm
    refine ARun.callQ (r := .sl (r8.flatMap cGEdge) r8.length false) (by decide) (by try simp only [go_sem, Nat.reduceBEq]; try rfl) fb28 (fun H => (.cons (td (by try simp only [go_sem, Nat.reduceBEq]; try rfl) (.agg _ (CFGGraph.dat _))) .nil)) (auditBetween_c h7) ?_
    iterate 2 refine pu rfl (by simp only [go_sem, Nat.reduceBEq]; try with_reducible rfl) ?_
    refine fs ?_
    refine AWp.seq' ?_
    refine sr (N' := 256) rfl ?_
    refine pu rfl (ap_ldv (by try simp only [go_sem, Nat.reduceBEq]; try rfl) (by simp only [upd_beq, Nat.reduceBEq, cond_true, cond_false]; try rfl) (by simp only [go_sem, Nat.reduceBEq]; try with_reducible rfl)) ?_
    obtain ⟨r10, h9, hm⟩ := bnd hm
    refine ARun.callQ (r := .v (.bool r10)) (by decide) (by try simp only [go_sem, Nat.reduceBEq]; try rfl) fb29 (fun H => (.cons (td (by try simp only [go_sem, Nat.reduceBEq]; try rfl) (.agg _ (CFGGraph.dat _))) .nil)) (ref14Right_c h9) ?_
    refine pu rfl (by simp only [go_sem, Nat.reduceBEq]; try with_reducible rfl) ?_
    refine fs ?_
    refine AWp.condM hm (by try simp only [go_sem, Nat.reduceBEq]; try rfl) (fun _ hm => ?_) (fun _ hm => ?_)
    · refine sr (N' := 320) rfl ?_
      iterate 7 refine pu rfl (by simp only [go_sem, Nat.reduceBEq]; try with_reducible rfl) ?_
      refine pg rfl rfl (by simp only [go_sem, Nat.reduceBEq]; try with_reducible rfl) (fun hb => (ap_ldv (by try simp only [go_sem, Nat.reduceBEq, hb, Bool.true_and]; try rfl) (by simp only [upd_beq, Nat.reduceBEq, cond_true, cond_false]; try rfl) (by simp only [go_sem, Nat.reduceBEq]; try with_reducible rfl))) ?_
      obtain ⟨r12, h11, hm⟩ := bnd hm
      refine ARun.callQG (r := .v (.bool r12)) (by decide) rfl (by simp only [go_sem, Nat.reduceBEq]; try with_reducible rfl) (by try simp only [go_sem, Nat.reduceBEq]; try rfl) fb30 (fun hb H => (.cons (td (by try simp only [go_sem, Nat.reduceBEq, hb, Bool.true_and]; try rfl) (.agg _ (CFGGraph.dat _))) .nil)) (fun hb => auditExact_c (gopt_t h11 hb)) ?_
      iterate 3 (first | refine pu rfl (by simp only [go_sem, Nat.reduceBEq]; try with_reducible rfl) ?_ | refine pg rfl rfl (by simp only [go_sem, Nat.reduceBEq]; try with_reducible rfl) (by intro hb; simp only [go_sem, Nat.reduceBEq, hb, Bool.true_and]; try with_reducible rfl) ?_)
      refine pg rfl rfl (by simp only [go_sem, Nat.reduceBEq]; try with_reducible rfl) (fun hb => (ap_ldv (by try simp only [go_sem, Nat.reduceBEq, hb, Bool.true_and]; try rfl) (by simp only [upd_beq, Nat.reduceBEq, cond_true, cond_false]; try rfl) (by simp only [go_sem, Nat.reduceBEq]; try with_reducible rfl))) ?_
      obtain ⟨r14, h13, hm⟩ := bnd hm
      refine ARun.callQG (r := .v (.int .i64 r14)) (by decide) rfl (by simp only [go_sem, Nat.reduceBEq]; try with_reducible rfl) (by try simp only [go_sem, Nat.reduceBEq]; try rfl) fb31 (fun hb H => (.cons (td (by try simp only [go_sem, Nat.reduceBEq, hb, Bool.true_and]; try rfl) (.agg _ (CFGGraph.dat _))) .nil)) (fun hb => auditMissing_c (gopt_t h13 hb)) ?_
      iterate 3 (first | refine pu rfl (by simp only [go_sem, Nat.reduceBEq]; try with_reducible rfl) ?_ | refine pg rfl rfl (by simp only [go_sem, Nat.reduceBEq]; try with_reducible rfl) (by intro hb; simp only [go_sem, Nat.reduceBEq, hb, Bool.true_and]; try with_reducible rfl) ?_)
      obtain ⟨r16, h15, hm⟩ := bnd hm
      refine ARun.callQG (r := .v (.bool r16)) (by decide) rfl (by simp only [go_sem, Nat.reduceBEq]; try with_reducible rfl) (by try simp only [go_sem, Nat.reduceBEq]; try rfl) fb26 (fun hb H => .nil) (fun hb => law20Awake_c (gopt_t h15 hb)) ?_
      iterate 2 refine pu rfl (by simp only [go_sem, Nat.reduceBEq]; try with_reducible rfl) ?_
      refine fs ?_
      refine AWp.ret ?_
      refine retSeq ?_
      cases hm
      exact ret1D (.inr rfl) Try.results3 (td (by try simp only [go_sem, Nat.reduceBEq]; try rfl) (.v _))
    · refine AWp.skip ?_
      refine normSeq ?_
      refine sd mix (by kernel_rfl) (N' := 320) rfl ?_
      refine pu rfl (ap_ldv (by try simp only [go_sem, Nat.reduceBEq]; try rfl) (by simp only [upd_beq, Nat.reduceBEq, cond_true, cond_false]; try rfl) (by simp only [go_sem, Nat.reduceBEq]; try with_reducible rfl)) ?_
      obtain ⟨r18, h17, hm⟩ := bnd hm
      refine ARun.callQ (r := .sl (r18.flatMap (ci .i64)) r18.length false) (by decide) (by try simp only [go_sem, Nat.reduceBEq]; try rfl) fb32 (fun H => (.cons (td (by try simp only [go_sem, Nat.reduceBEq]; try rfl) (.agg _ (CFGGraph.dat _))) .nil)) (ref15Kept_c h17) ?_
      refine pu rfl (ap_ldv (by try simp only [go_sem, Nat.reduceBEq]; try rfl) (by simp only [upd_beq, Nat.reduceBEq, cond_true, cond_false]; try rfl) (by simp only [go_sem, Nat.reduceBEq]; try with_reducible rfl)) ?_
      obtain ⟨r20, h19, hm⟩ := bnd hm
      refine ARun.callQ (r := .sl (r20.flatMap (ci .i64)) r20.length false) (by decide) (by try simp only [go_sem, Nat.reduceBEq]; try rfl) fb33 (fun H => (.cons (td (by try simp only [go_sem, Nat.reduceBEq]; try rfl) (.agg _ (CFGGraph.dat _))) .nil)) (ref20So_c h19) ?_
      iterate 2 refine pu rfl (by simp only [go_sem, Nat.reduceBEq]; try with_reducible rfl) ?_
      refine fs ?_
      refine sr (N' := 384) rfl ?_
      iterate 2 refine pu rfl (by simp only [go_sem, Nat.reduceBEq]; try with_reducible rfl) ?_
      obtain ⟨r22, h21, hm⟩ := bnd hm
      refine ARun.callQ (r := .v (.bool r22)) (by decide) (by try simp only [go_sem, Nat.reduceBEq]; try rfl) fb34 (fun H => (.cons (td (by try simp only [go_sem, Nat.reduceBEq]; try rfl) ((CFi .i64).sl _ _ _)) (.cons (td (by try simp only [go_sem, Nat.reduceBEq]; try rfl) ((CFi .i64).sl _ _ _)) .nil))) (ref06Same_c h21) ?_
      refine pu rfl (by simp only [go_sem, Nat.reduceBEq]; try with_reducible rfl) ?_
      refine pg rfl rfl (by simp only [go_sem, Nat.reduceBEq]; try with_reducible rfl) (fun hb => (ap_ldv (by try simp only [go_sem, Nat.reduceBEq, hb, Bool.true_and]; try rfl) (by simp only [upd_beq, Nat.reduceBEq, cond_true, cond_false]; try rfl) (by simp only [go_sem, Nat.reduceBEq]; try with_reducible rfl))) ?_
      obtain ⟨r24, h23, hm⟩ := bnd hm
      refine ARun.callQG (r := .v (.bool r24)) (by decide) rfl (by simp only [go_sem, Nat.reduceBEq]; try with_reducible rfl) (by try simp only [go_sem, Nat.reduceBEq]; try rfl) fb30 (fun hb H => (.cons (td (by try simp only [go_sem, Nat.reduceBEq, hb, Bool.true_and]; try rfl) (.agg _ (CFGGraph.dat _))) .nil)) (fun hb => auditExact_c (gopt_t h23 hb)) ?_
      iterate 2 refine pg rfl rfl (by simp only [go_sem, Nat.reduceBEq]; try with_reducible rfl) (by intro hb; simp only [go_sem, Nat.reduceBEq, hb, Bool.true_and]; try with_reducible rfl) ?_
      obtain ⟨r26, h25, hm⟩ := bnd hm
      refine ARun.callQG (r := .v (.bool r26)) (by decide) rfl (by simp only [go_sem, Nat.reduceBEq]; try with_reducible rfl) (by try simp only [go_sem, Nat.reduceBEq]; try rfl) fb34 (fun hb H => (.cons (td (by try simp only [go_sem, Nat.reduceBEq, hb, Bool.true_and]; try rfl) ((CFi .i64).sl _ _ _)) (.cons (td (by try simp only [go_sem, Nat.reduceBEq, hb, Bool.true_and]; try rfl) ((CFi .i64).sl _ _ _)) .nil))) (fun hb => ref06Same_c (gopt_t h25 hb)) ?_
      iterate 3 (first | refine pu rfl (by simp only [go_sem, Nat.reduceBEq]; try with_reducible rfl) ?_ | refine pg rfl rfl (by simp only [go_sem, Nat.reduceBEq]; try with_reducible rfl) (by intro hb; simp only [go_sem, Nat.reduceBEq, hb, Bool.true_and]; try with_reducible rfl) ?_)
      refine pg rfl rfl (by simp only [go_sem, Nat.reduceBEq]; try with_reducible rfl) (fun hb => (ap_ldv (by try simp only [go_sem, Nat.reduceBEq, hb, Bool.true_and]; try rfl) (by simp only [upd_beq, Nat.reduceBEq, cond_true, cond_false]; try rfl) (by simp only [go_sem, Nat.reduceBEq]; try with_reducible rfl))) ?_
      obtain ⟨r28, h27, hm⟩ := bnd hm
      refine ARun.callQG (r := .v (.int .i64 r28)) (by decide) rfl (by simp only [go_sem, Nat.reduceBEq]; try with_reducible rfl) (by try simp only [go_sem, Nat.reduceBEq]; try rfl) fb31 (fun hb H => (.cons (td (by try simp only [go_sem, Nat.reduceBEq, hb, Bool.true_and]; try rfl) (.agg _ (CFGGraph.dat _))) .nil)) (fun hb => auditMissing_c (gopt_t h27 hb)) ?_
      refine pg rfl rfl (by simp only [go_sem, Nat.reduceBEq]; try with_reducible rfl) (by intro hb; simp only [go_sem, Nat.reduceBEq, hb, Bool.true_and]; try with_reducible rfl) ?_
      obtain ⟨r30, h29, hm⟩ := bnd hm
      refine ARun.callQG (r := .v (.int .i64 r30)) (by decide) rfl (by simp only [go_sem, Nat.reduceBEq]; try with_reducible rfl) (by try simp only [go_sem, Nat.reduceBEq]; try rfl) fb35 (fun hb H => (.cons (td (by try simp only [go_sem, Nat.reduceBEq, hb, Bool.true_and]; try rfl) ((CFi .i64).sl _ _ _)) .nil)) (fun hb => ref20Classes_c (gopt_t h29 hb)) ?_
      refine pg rfl rfl (by simp only [go_sem, Nat.reduceBEq]; try with_reducible rfl) (by intro hb; simp only [go_sem, Nat.reduceBEq, hb, Bool.true_and]; try with_reducible rfl) ?_
      obtain ⟨r32, h31, hm⟩ := bnd hm
      refine ARun.callQG (r := .v (.int .i64 r32)) (by decide) rfl (by simp only [go_sem, Nat.reduceBEq]; try with_reducible rfl) (by try simp only [go_sem, Nat.reduceBEq]; try rfl) fb35 (fun hb H => (.cons (td (by try simp only [go_sem, Nat.reduceBEq, hb, Bool.true_and]; try rfl) ((CFi .i64).sl _ _ _)) .nil)) (fun hb => ref20Classes_c (gopt_t h31 hb)) ?_
      iterate 5 (first | refine pu rfl (by simp only [go_sem, Nat.reduceBEq]; try with_reducible rfl) ?_ | refine pg rfl rfl (by simp only [go_sem, Nat.reduceBEq]; try with_reducible rfl) (by intro hb; simp only [go_sem, Nat.reduceBEq, hb, Bool.true_and]; try with_reducible rfl) ?_)
      refine pg rfl rfl (by simp only [go_sem, Nat.reduceBEq]; try with_reducible rfl) (fun hb => (ap_ldv (by try simp only [go_sem, Nat.reduceBEq, hb, Bool.true_and]; try rfl) (by simp only [upd_beq, Nat.reduceBEq, cond_true, cond_false]; try rfl) (by simp only [go_sem, Nat.reduceBEq]; try with_reducible rfl))) ?_
      obtain ⟨r34, h33, hm⟩ := bnd hm
      refine ARun.callQG (r := .sl (r34.flatMap cGEdge) r34.length false) (by decide) rfl (by simp only [go_sem, Nat.reduceBEq]; try with_reducible rfl) (by try simp only [go_sem, Nat.reduceBEq]; try rfl) fb37 (fun hb H => (.cons (td (by try simp only [go_sem, Nat.reduceBEq, hb, Bool.true_and]; try rfl) (.agg _ (CFGGraph.dat _))) .nil)) (fun hb => ref20Between_c (gopt_t h33 hb)) ?_
      obtain ⟨r36, h35, hm⟩ := bnd hm
      refine ARun.callQG (r := .v (.bool r36)) (by decide) rfl (by simp only [go_sem, Nat.reduceBEq]; try with_reducible rfl) (by try simp only [go_sem, Nat.reduceBEq]; try rfl) fb36 (fun hb H => (.cons (td (by try simp only [go_sem, Nat.reduceBEq, hb, Bool.true_and]; try rfl) (CFGEdge.sl _ _ _)) (.cons (td (by try simp only [go_sem, Nat.reduceBEq, hb, Bool.true_and]; try rfl) (CFGEdge.sl _ _ _)) .nil))) (fun hb => ref03Same_c (gopt_t h35 hb)) ?_
      iterate 2 refine pu rfl (by simp only [go_sem, Nat.reduceBEq]; try with_reducible rfl) ?_
      obtain ⟨r38, h37, hm⟩ := bnd hm
      refine ARun.callQG (r := .v (.bool r38)) (by decide) rfl (by simp only [go_sem, Nat.reduceBEq]; try with_reducible rfl) (by try simp only [go_sem, Nat.reduceBEq]; try rfl) fb26 (fun hb H => .nil) (fun hb => law20Awake_c (gopt_t h37 hb)) ?_
      iterate 2 refine pu rfl (by simp only [go_sem, Nat.reduceBEq]; try with_reducible rfl) ?_
      refine fs ?_
      refine AWp.ret ?_
      cases hm
      exact ret1D (.inr rfl) Try.results3 (td (by try simp only [go_sem, Nat.reduceBEq]; try rfl) (.v _))
def AuditBare_B1 (rec1 : GGraph → List GEdge → List GEdge → Int → Int → Option (Bool)) (g_1 : GGraph) (bare_3 : List GEdge) (t16 : List GEdge) (t17 : Int) (t18 : Int) : Option (Bool) :=
  (bif (decide (t18 < t17)) then
    ((idx t16 t18).bind fun x8 =>
    ((app bare_3 [(GEdge.mk x8.U x8.V 0)]).bind fun l10 =>
    rec1 g_1 l10 t16 t17 (IntKind.i64.wrap (t18 + 1))))
  else
    ((auditBetween_m (GGraph.mk g_1.Config g_1.Hashes bare_3)).bind fun r12 =>
    ((ref03Same_m r12 bare_3).bind fun r14 =>
    ((gopt (r14 == true) 0 (auditMissing_m (GGraph.mk g_1.Config g_1.Hashes bare_3))).bind fun r16 =>
    ((gopt (r14 == true) [] (auditSo_m (GGraph.mk g_1.Config g_1.Hashes bare_3))).bind fun r18 =>
    ((gopt (r14 == true) 0 (ref20Classes_m r18)).bind fun r20 =>
    ((gopt ((r14 && (r16 == (IntKind.i64.wrap (g_1.Config.N - r20)))) == true) false (auditExact_m (GGraph.mk g_1.Config g_1.Hashes bare_3))).bind fun r22 =>
    ((gopt (((r14 && (r16 == (IntKind.i64.wrap (g_1.Config.N - r20)))) && (r22 == ((bare_3.length : Int) == 0))) == true) false (law20Awake_m )).bind fun r24 =>
    some (((r14 && (r16 == (IntKind.i64.wrap (g_1.Config.N - r20)))) && (r22 == ((bare_3.length : Int) == 0))) && r24)))))))))
def AuditBare_L1 : Nat → GGraph → List GEdge → List GEdge → Int → Int → Option (Bool)
  | 0 => fun _ _ _ _ _ => none
  | n + 1 => AuditBare_B1 (AuditBare_L1 n)
def AuditBare_m (g_0 : GGraph) : Option (Bool) :=
  ((ref14Small_m g_0).bind fun r2 =>
  ((gopt ((!r2) == false) false (ref14Right_m g_0)).bind fun r4 =>
  (bif ((!r2) || (!r4)) then
    ((law20Awake_m ).bind fun r6 =>
    some r6)
  else
    AuditBare_L1 FUEL g_0 [] g_0.Edges (g_0.Edges.length : Int) 0)))
theorem AuditBare_c {g_0 : GGraph} {r : Bool} (hm : AuditBare_m g_0 = some r) : PureC Try.prog 4 [.agg [.v (.int .i64 g_0.Config.N), .v (.int .i64 g_0.Config.L), .v (.int .i64 g_0.Config.R), .sl (g_0.Hashes.flatMap cGHash) g_0.Hashes.length false, .sl (g_0.Edges.flatMap cGEdge) g_0.Edges.length false]] (.v (.bool r)) := by
  refine PureC.of_body Try.func4 rfl ?_
  simp only [Try.ntmps4, List.length_cons, List.length_nil, Nat.reduceAdd, Nat.reduceSub, empty_eq]
  unfold AuditBare_m at hm
  refine sr (N' := 64) rfl ?_
  refine hp (id := 0) rfl rfl (aheap_box (by try simp only [go_sem, Nat.reduceBEq]; try rfl) (by simp only [isFresh_upd, isFresh_no, Nat.reduceBEq, cond_true, cond_false])) ?_
  refine pu rfl (by simp only [go_sem, Nat.reduceBEq]; try with_reducible rfl) ?_
  refine fs ?_
  refine AWp.seq' ?_
  refine sr (N' := 128) rfl ?_
  refine pu rfl (ap_ldv (by try simp only [go_sem, Nat.reduceBEq]; try rfl) (by simp only [upd_beq, Nat.reduceBEq, cond_true, cond_false]; try rfl) (by simp only [go_sem, Nat.reduceBEq]; try with_reducible rfl)) ?_
  obtain ⟨r2, h1, hm⟩ := bnd hm
  refine ARun.callQ (r := .v (.bool r2)) (by decide) (by try simp only [go_sem, Nat.reduceBEq]; try rfl) fb25 (fun H => (.cons (td (by try simp only [go_sem, Nat.reduceBEq]; try rfl) (.agg _ (CFGGraph.dat _))) .nil)) (ref14Small_c h1) ?_
  iterate 2 refine pu rfl (by simp only [go_sem, Nat.reduceBEq]; try with_reducible rfl) ?_
  refine pg rfl rfl (by simp only [go_sem, Nat.reduceBEq]; try with_reducible rfl) (fun hb => (ap_ldv (by try simp only [go_sem, Nat.reduceBEq, hb, Bool.true_and]; try rfl) (by simp only [upd_beq, Nat.reduceBEq, cond_true, cond_false]; try rfl) (by simp only [go_sem, Nat.reduceBEq]; try with_reducible rfl))) ?_
  obtain ⟨r4, h3, hm⟩ := bnd hm
  refine ARun.callQG (r := .v (.bool r4)) (by decide) rfl (by simp only [go_sem, Nat.reduceBEq]; try with_reducible rfl) (by try simp only [go_sem, Nat.reduceBEq]; try rfl) fb29 (fun hb H => (.cons (td (by try simp only [go_sem, Nat.reduceBEq, hb, Bool.true_and]; try rfl) (.agg _ (CFGGraph.dat _))) .nil)) (fun hb => ref14Right_c (gopt_t h3 hb)) ?_
  iterate 2 (first | refine pu rfl (by simp only [go_sem, Nat.reduceBEq]; try with_reducible rfl) ?_ | refine pg rfl rfl (by simp only [go_sem, Nat.reduceBEq]; try with_reducible rfl) (by intro hb; simp only [go_sem, Nat.reduceBEq, hb, Bool.true_and]; try with_reducible rfl) ?_)
  refine fs ?_
  refine AWp.condM hm (by try simp only [go_sem, Nat.reduceBEq]; try rfl) (fun _ hm => ?_) (fun _ hm => ?_)
  · refine sr (N' := 192) rfl ?_
    obtain ⟨r6, h5, hm⟩ := bnd hm
    refine ARun.callQ (r := .v (.bool r6)) (by decide) (by try simp only [go_sem, Nat.reduceBEq]; try rfl) fb26 (fun H => .nil) (law20Awake_c h5) ?_
    refine pu rfl (by simp only [go_sem, Nat.reduceBEq]; try with_reducible rfl) ?_
    refine fs ?_
    refine AWp.ret ?_
    refine retSeq ?_
    cases hm
    exact ret1D (.inr rfl) Try.results4 (td (by try simp only [go_sem, Nat.reduceBEq]; try rfl) (.v _))
  · refine AWp.skip ?_
    refine normSeq ?_
    refine sr (N' := 192) rfl ?_
    refine pu rfl (by simp only [go_sem, Nat.reduceBEq]; try with_reducible rfl) ?_
    refine fs ?_
    refine AWp.seq' ?_
    refine sr (N' := 256) rfl ?_
    refine pu rfl (by simp only [go_sem, Nat.reduceBEq]; try with_reducible rfl) ?_
    refine pu rfl (ap_ldv (by try simp only [go_sem, Nat.reduceBEq]; try rfl) (by simp only [upd_beq, Nat.reduceBEq, cond_true, cond_false]; try rfl) (by simp only [go_sem, Nat.reduceBEq, Nat.reduceAdd]; try with_reducible rfl)) ?_
    iterate 2 refine pu rfl (by simp only [go_sem, Nat.reduceBEq]; try with_reducible rfl) ?_
    refine fs ?_
    refine AWp.block ?_
    refine AWp.loopM (fun m s => ∃ (g_1 : GGraph) (bare_3 : List GEdge) (t16 : List GEdge) (t17 : Int) (t18 : Int), s = (⟨60, (fset (fset (fset (fset (fset (fun _ => AV.any) 1 (.adr 1 0)) 3 (.own 2 0 bare_3.length)) 16 (.sl (t16.flatMap cGEdge) t16.length false)) 17 (.v (.int .i64 t17))) 18 (.v (.int .i64 t18))), ⟨(upd (upd nofresh 1 (.cells 1 [.v (.int .i64 g_1.Config.N), .v (.int .i64 g_1.Config.L), .v (.int .i64 g_1.Config.R), .sl (g_1.Hashes.flatMap cGHash) g_1.Hashes.length false, .sl (g_1.Edges.flatMap cGEdge) g_1.Edges.length false] 0)) 2 (.cells 3 (bare_3.flatMap cGEdge) 0)), 64⟩⟩ : St) ∧ AuditBare_L1 m g_1 bare_3 t16 t17 t18 = some r) FUEL ?_ ?_ ?_
    · rintro s ⟨_, _, _, _, _, _, h⟩
      cases h
    · refine ⟨_, ?_, g_0, [], g_0.Edges, (g_0.Edges.length : Int), 0, rfl, hm⟩
      refine St.Le.trans (le_nil 3 900003 3 (by try simp only [go_sem, Nat.reduceBEq]; try rfl) (by simp only [isFresh_upd, isFresh_no, Nat.reduceBEq, cond_true, cond_false])) ?_
      exact le_canon (fun j => bif j == 1 then 0 else bif j == 2 then 900003 else 0) (wk_fset _ _ (wk_data (by try simp only [go_sem, Nat.reduceBEq]; try rfl) (.v _)) (wk_fset _ _ (wk_data (by try simp only [go_sem, Nat.reduceBEq]; try rfl) (.v _)) (wk_fset _ _ (wk_data (by try simp only [go_sem, Nat.reduceBEq]; try rfl) (CFGEdge.sl _ _ _)) (wk_fset _ _ (wk_own (by try simp only [go_sem, Nat.reduceBEq]; try rfl) (by first | rfl | omega) rfl (by simp [upd])) (wk_fset _ _ (wk_adr (by try simp only [go_sem, Nat.reduceBEq]; try rfl) rfl (by simp [upd])) wk_none))))) (heapWk_of _ (entWk_upd (ent_fm CFGEdge (by simp only [upd_beq, Nat.reduceBEq, cond_true, cond_false]; try rfl) rfl) (entWk_upd (entWk_data (by simp only [upd_beq, Nat.reduceBEq, cond_true, cond_false]; try rfl) (Nat.le_refl _) (Nat.zero_le _) (CFGGraph.dat g_0)) entWk_none)) (by repeat' (first | exact inj_none | exact liv_none | refine inj_upd ?_ ?_ | refine liv_upd ?_ ?_ | exact .inl rfl | exact .inr (by decide))))
    · rintro n1 s ⟨g_1, bare_3, t16, t17, t18, rfl, hm⟩
      replace hm : AuditBare_B1 (AuditBare_L1 n1) g_1 bare_3 t16 t17 t18 = some r := hm
      unfold AuditBare_B1 at hm
      refine sr (N' := 128) rfl ?_
      refine pu rfl (by simp only [go_sem, Nat.reduceBEq]; try with_reducible rfl) ?_
      refine fs ?_
      refine AWp.seq' ?_
      refine AWp.condM hm (by try simp only [go_sem, Nat.reduceBEq]; try rfl) (fun _ hm => ?_) (fun _ hm => ?_)
      · refine AWp.skip ?_
        refine normSeq ?_
        refine AWp.seq' ?_
        refine AWp.block ?_
        refine sr (N' := 192) rfl ?_
        obtain ⟨x8, h7, hm⟩ := bnd hm
        refine pu rfl (ap_idx CFGEdge (by decide) Try.underlying25 sz38 (by try simp only [go_sem, Nat.reduceBEq]; try rfl) rfl (by try simp only [go_sem, Nat.reduceBEq]; try rfl) h7) ?_
        refine pu rfl (by simp only [go_sem, Nat.reduceBEq]; try with_reducible rfl) ?_
        refine hp (id := 130) rfl rfl (aheap_alloc' zc38 (by simp only [isFresh_upd, isFresh_no, Nat.reduceBEq, cond_true, cond_false])) ?_
        refine ARun.heap0 (id := 131) rfl (ah_var (ys := [.v (.int .i64 x8.U), .v (.int .i64 x8.V), .v (.int .i64 x8.Tier)]) sz38 (by try simp only [go_sem, Nat.reduceBEq]; try rfl) (by try simp only [go_sem, Nat.reduceBEq]; try rfl) (by simp only [upd_beq, Nat.reduceBEq, cond_true, cond_false]; try rfl) rfl (Nat.le_of_ble_eq_true rfl) (by first | rfl | (simp [AV.one]; done)) rfl) ?_
        refine fs ?_
        refine AWp.reg 64 (N' := 256) rfl ?_
        iterate 2 refine pu rfl (by simp only [go_sem, Nat.reduceBEq]; try with_reducible rfl) ?_
        refine pu rfl (ap_ldv (by try simp only [go_sem, Nat.reduceBEq]; try rfl) (by simp only [upd_beq, Nat.reduceBEq, cond_true, cond_false]; try rfl) (by simp only [go_sem, Nat.reduceBEq, Nat.reduceAdd]; try with_reducible rfl)) ?_
        refine pu rfl (by simp only [go_sem, Nat.reduceBEq]; try with_reducible rfl) ?_
        refine pu rfl (ap_ldv (by try simp only [go_sem, Nat.reduceBEq]; try rfl) (by simp only [upd_beq, Nat.reduceBEq, cond_true, cond_false]; try rfl) (by simp only [go_sem, Nat.reduceBEq, Nat.reduceAdd]; try with_reducible rfl)) ?_
        refine pu rfl (by simp only [go_sem, Nat.reduceBEq]; exact (by kernel_rfl : abuild Try.prog 38 [(0, .v (.int .i64 x8.U)), (1, .v (.int .i64 x8.V))] = some (.agg [.v (.int .i64 x8.U), .v (.int .i64 x8.V), .v (.int .i64 0)]))) ?_
        refine hp (id := 198) rfl rfl (ah_list CFGEdge (l := [(GEdge.mk x8.U x8.V 0)]) Try.underlying25 sz38 zc38 (by simp only [isFresh_upd, isFresh_no, Nat.reduceBEq, cond_true, cond_false]) (by decide) (by decide) (by decide) (by simp only [go_sem, Nat.reduceBEq]; try rfl) (by kernel_rfl)) ?_
        obtain ⟨l10, h9, hm⟩ := bnd hm
        refine hp (id := 199) rfl rfl (ah_app CFGEdge Try.underlying25 Try.underlying25 rfl in38 ts38 (by rw [tb38]; decide) (by rw [tb38]; decide) tz38 (by decide) (by decide) (by try simp only [go_sem, Nat.reduceBEq]; try rfl) (by simp only [upd_beq, Nat.reduceBEq, cond_true, cond_false]; try rfl) (by first | rfl | omega) (as_own CFGEdge (by try simp only [go_sem, Nat.reduceBEq]; try rfl) (by simp only [upd_beq, Nat.reduceBEq, cond_true, cond_false]; try rfl) (by first | rfl | omega)) rfl (by simp only [isFresh_upd, isFresh_no, Nat.reduceBEq, cond_true, cond_false]) h9) ?_
        refine pu rfl (by simp only [go_sem, Nat.reduceBEq]; try with_reducible rfl) ?_
        refine ARun.fin ?_
        refine normIn ?_
        refine normSeq ?_
        refine AWp.reg 64 (N' := 320) rfl ?_
        iterate 2 refine pu rfl (by simp only [go_sem, Nat.reduceBEq]; try with_reducible rfl) ?_
        refine ARun.fin ?_
        refine normThen ?_
        refine ⟨_, ?_, g_1, l10, t16, t17, (IntKind.i64.wrap (t18 + 1)), rfl, hm⟩
        exact le_canon (fun j => bif j == 1 then 1 else bif j == 2 then 199 else 0) (wk_fset _ _ (wk_data (by try simp only [go_sem, Nat.reduceBEq]; try rfl) (.v _)) (wk_fset _ _ (wk_data (by try simp only [go_sem, Nat.reduceBEq]; try rfl) (.v _)) (wk_fset _ _ (wk_data (by try simp only [go_sem, Nat.reduceBEq]; try rfl) (CFGEdge.sl _ _ _)) (wk_fset _ _ (wk_own (by try simp only [go_sem, Nat.reduceBEq]; try rfl) (by first | rfl | omega) rfl (by simp [upd])) (wk_fset _ _ (wk_adr (by try simp only [go_sem, Nat.reduceBEq]; try rfl) rfl (by simp [upd])) wk_none))))) (heapWk_of _ (entWk_upd (ent_fm CFGEdge (by simp only [upd_beq, Nat.reduceBEq, cond_true, cond_false]; try rfl) rfl) (entWk_upd (entWk_data (by simp only [upd_beq, Nat.reduceBEq, cond_true, cond_false]; try rfl) (Nat.le_refl _) (Nat.zero_le _) (CFGGraph.dat g_1)) entWk_none)) (by repeat' (first | exact inj_none | exact liv_none | refine inj_upd ?_ ?_ | refine liv_upd ?_ ?_ | exact .inl rfl | exact .inr (by decide))))
      · refine AWp.exit ?_
        refine exitSeq ?_
        refine exitThen ?_
        refine exitHere ?_
        refine normSeq ?_
        refine AWp.seq' ?_
        refine AWp.weaken (le_lock CFGEdge 3 2 (by try simp only [go_sem, Nat.reduceBEq]; try rfl) (by simp only [upd_beq, Nat.reduceBEq, cond_true, cond_false]; try rfl) (by first | rfl | omega)) ?_
        refine AWp.reg 64 (N' := 192) rfl ?_
        iterate 2 refine pu rfl (by simp only [go_sem, Nat.reduceBEq]; try with_reducible rfl) ?_
        refine ARun.heap0 (id := 130) rfl (ah_var (ys := [.v (.int .i64 g_1.Config.N), .v (.int .i64 g_1.Config.L), .v (.int .i64 g_1.Config.R), .sl (g_1.Hashes.flatMap cGHash) g_1.Hashes.length false, .sl (bare_3.flatMap cGEdge) bare_3.length false]) sz25 (by try simp only [go_sem, Nat.reduceBEq]; try rfl) (by try simp only [go_sem, Nat.reduceBEq]; try rfl) (by simp only [upd_beq, Nat.reduceBEq, cond_true, cond_false]; try rfl) rfl (Nat.le_of_ble_eq_true rfl) (by first | rfl | (simp [AV.one]; done)) rfl) ?_
        refine fs ?_
        refine sd mix (by kernel_rfl) (N' := 256) rfl ?_
        refine pu rfl (ap_ldv (by try simp only [go_sem, Nat.reduceBEq]; try rfl) (by simp only [upd_beq, Nat.reduceBEq, cond_true, cond_false]; try rfl) (by simp only [go_sem, Nat.reduceBEq]; try with_reducible rfl)) ?_
        obtain ⟨r12, h11, hm⟩ := bnd hm
        refine ARun.callQ (r := .sl (r12.flatMap cGEdge) r12.length false) (by decide) (by try simp only [go_sem, Nat.reduceBEq]; try rfl) fb28 (fun H => (.cons (td (by try simp only [go_sem, Nat.reduceBEq]; try rfl) (.agg _ (CFGGraph.dat (GGraph.mk g_1.Config g_1.Hashes bare_3)))) .nil)) (auditBetween_c h11) ?_
        refine pu rfl (by simp only [go_sem, Nat.reduceBEq]; try with_reducible rfl) ?_
        obtain ⟨r14, h13, hm⟩ := bnd hm
        refine ARun.callQ (r := .v (.bool r14)) (by decide) (by try simp only [go_sem, Nat.reduceBEq]; try rfl) fb36 (fun H => (.cons (td (by try simp only [go_sem, Nat.reduceBEq]; try rfl) (CFGEdge.sl _ _ _)) (.cons (td (by try simp only [go_sem, Nat.reduceBEq]; try rfl) (CFGEdge.sl _ _ _)) .nil))) (ref03Same_c h13) ?_
        refine pu rfl (by simp only [go_sem, Nat.reduceBEq]; try with_reducible rfl) ?_
        refine pg rfl rfl (by simp only [go_sem, Nat.reduceBEq]; try with_reducible rfl) (fun hb => (ap_ldv (by try simp only [go_sem, Nat.reduceBEq, hb, Bool.true_and]; try rfl) (by simp only [upd_beq, Nat.reduceBEq, cond_true, cond_false]; try rfl) (by simp only [go_sem, Nat.reduceBEq]; try with_reducible rfl))) ?_
        obtain ⟨r16, h15, hm⟩ := bnd hm
        refine ARun.callQG (r := .v (.int .i64 r16)) (by decide) rfl (by simp only [go_sem, Nat.reduceBEq]; try with_reducible rfl) (by try simp only [go_sem, Nat.reduceBEq]; try rfl) fb31 (fun hb H => (.cons (td (by try simp only [go_sem, Nat.reduceBEq, hb, Bool.true_and]; try rfl) (.agg _ (CFGGraph.dat (GGraph.mk g_1.Config g_1.Hashes bare_3)))) .nil)) (fun hb => auditMissing_c (gopt_t h15 hb)) ?_
        iterate 2 refine pg rfl rfl (by simp only [go_sem, Nat.reduceBEq]; try with_reducible rfl) (by intro hb; simp only [go_sem, Nat.reduceBEq, hb, Bool.true_and]; try with_reducible rfl) ?_
        refine pg rfl rfl (by simp only [go_sem, Nat.reduceBEq]; try with_reducible rfl) (fun hb => (ap_ldv (by try simp only [go_sem, Nat.reduceBEq, hb, Bool.true_and]; try rfl) (by simp only [upd_beq, Nat.reduceBEq, cond_true, cond_false]; try rfl) (by simp only [go_sem, Nat.reduceBEq, Nat.reduceAdd]; try with_reducible rfl))) ?_
        refine pg rfl rfl (by simp only [go_sem, Nat.reduceBEq]; try with_reducible rfl) (fun hb => (ap_ldv (by try simp only [go_sem, Nat.reduceBEq, hb, Bool.true_and]; try rfl) (by simp only [upd_beq, Nat.reduceBEq, cond_true, cond_false]; try rfl) (by simp only [go_sem, Nat.reduceBEq]; try with_reducible rfl))) ?_
        obtain ⟨r18, h17, hm⟩ := bnd hm
        refine ARun.callQG (r := .sl (r18.flatMap (ci .i64)) r18.length false) (by decide) rfl (by simp only [go_sem, Nat.reduceBEq]; try with_reducible rfl) (by try simp only [go_sem, Nat.reduceBEq]; try rfl) fb27 (fun hb H => (.cons (td (by try simp only [go_sem, Nat.reduceBEq, hb, Bool.true_and]; try rfl) (.agg _ (CFGGraph.dat (GGraph.mk g_1.Config g_1.Hashes bare_3)))) .nil)) (fun hb => auditSo_c (gopt_t h17 hb)) ?_
        obtain ⟨r20, h19, hm⟩ := bnd hm
        refine ARun.callQG (r := .v (.int .i64 r20)) (by decide) rfl (by simp only [go_sem, Nat.reduceBEq]; try with_reducible rfl) (by try simp only [go_sem, Nat.reduceBEq]; try rfl) fb35 (fun hb H => (.cons (td (by try simp only [go_sem, Nat.reduceBEq, hb, Bool.true_and]; try rfl) ((CFi .i64).sl _ _ _)) .nil)) (fun hb => ref20Classes_c (gopt_t h19 hb)) ?_
        iterate 4 (first | refine pu rfl (by simp only [go_sem, Nat.reduceBEq]; try with_reducible rfl) ?_ | refine pg rfl rfl (by simp only [go_sem, Nat.reduceBEq]; try with_reducible rfl) (by intro hb; simp only [go_sem, Nat.reduceBEq, hb, Bool.true_and]; try with_reducible rfl) ?_)
        refine pg rfl rfl (by simp only [go_sem, Nat.reduceBEq]; try with_reducible rfl) (fun hb => (ap_ldv (by try simp only [go_sem, Nat.reduceBEq, hb, Bool.true_and]; try rfl) (by simp only [upd_beq, Nat.reduceBEq, cond_true, cond_false]; try rfl) (by simp only [go_sem, Nat.reduceBEq]; try with_reducible rfl))) ?_
        obtain ⟨r22, h21, hm⟩ := bnd hm
        refine ARun.callQG (r := .v (.bool r22)) (by decide) rfl (by simp only [go_sem, Nat.reduceBEq]; try with_reducible rfl) (by try simp only [go_sem, Nat.reduceBEq]; try rfl) fb30 (fun hb H => (.cons (td (by try simp only [go_sem, Nat.reduceBEq, hb, Bool.true_and]; try rfl) (.agg _ (CFGGraph.dat (GGraph.mk g_1.Config g_1.Hashes bare_3)))) .nil)) (fun hb => auditExact_c (gopt_t h21 hb)) ?_
        iterate 6 (first | refine pu rfl (by simp only [go_sem, Nat.reduceBEq]; try with_reducible rfl) ?_ | refine pg rfl rfl (by simp only [go_sem, Nat.reduceBEq]; try with_reducible rfl) (by intro hb; simp only [go_sem, Nat.reduceBEq, hb, Bool.true_and]; try with_reducible rfl) ?_)
        obtain ⟨r24, h23, hm⟩ := bnd hm
        refine ARun.callQG (r := .v (.bool r24)) (by decide) rfl (by simp only [go_sem, Nat.reduceBEq]; try with_reducible rfl) (by try simp only [go_sem, Nat.reduceBEq]; try rfl) fb26 (fun hb H => .nil) (fun hb => law20Awake_c (gopt_t h23 hb)) ?_
        iterate 2 refine pu rfl (by simp only [go_sem, Nat.reduceBEq]; try with_reducible rfl) ?_
        refine fs ?_
        refine AWp.ret ?_
        cases hm
        exact ret1D (.inr rfl) Try.results4 (td (by try simp only [go_sem, Nat.reduceBEq]; try rfl) (.v _))
def partRefines_B1 (rec1 : List Int → List Int → Int → Int → Option (Bool)) (q_1 : List Int) (t22 : List Int) (t23 : Int) (t24 : Int) : Option (Bool) :=
  (bif (decide (t24 < t23)) then
    ((idx t22 t24).bind fun x6 =>
    ((idx q_1 t24).bind fun x8 =>
    ((idx q_1 x6).bind fun x10 =>
    (bif (x8 != x10) then
      some false
    else
      rec1 q_1 t22 t23 (IntKind.i64.wrap (t24 + 1))))))
  else
    some true)
def partRefines_L1 : Nat → List Int → List Int → Int → Int → Option (Bool)
  | 0 => fun _ _ _ _ => none
  | n + 1 => partRefines_B1 (partRefines_L1 n)
def partRefines_m (p_0 : List Int) (q_1 : List Int) : Option (Bool) :=
  ((partRight_m p_0).bind fun r2 =>
  ((gopt ((!r2) == false) false (partRight_m q_1)).bind fun r4 =>
  (bif (((!r2) || (!r4)) || ((p_0.length : Int) != (q_1.length : Int))) then
    some false
  else
    partRefines_L1 FUEL q_1 p_0 (p_0.length : Int) 0)))
theorem partRefines_c {p_0 : List Int} {q_1 : List Int} {r : Bool} (hm : partRefines_m p_0 q_1 = some r) : PureC Try.prog 38 [.sl (p_0.flatMap (ci .i64)) p_0.length false, .sl (q_1.flatMap (ci .i64)) q_1.length false] (.v (.bool r)) := by
  refine PureC.of_body Try.func38 rfl ?_
  simp only [Try.ntmps38, List.length_cons, List.length_nil, Nat.reduceAdd, Nat.reduceSub, empty_eq]
  unfold partRefines_m at hm
  refine sr (N' := 64) rfl ?_
  refine pu rfl (by simp only [go_sem, Nat.reduceBEq]; try with_reducible rfl) ?_
  refine fs ?_
  refine AWp.seq' ?_
  refine sr (N' := 128) rfl ?_
  refine pu rfl (by simp only [go_sem, Nat.reduceBEq]; try with_reducible rfl) ?_
  obtain ⟨r2, h1, hm⟩ := bnd hm
  refine ARun.callQ (r := .v (.bool r2)) (by decide) (by try simp only [go_sem, Nat.reduceBEq]; try rfl) fb80 (fun H => (.cons (td (by try simp only [go_sem, Nat.reduceBEq]; try rfl) ((CFi .i64).sl _ _ _)) .nil)) (partRight_c h1) ?_
  iterate 3 (first | refine pu rfl (by simp only [go_sem, Nat.reduceBEq]; try with_reducible rfl) ?_ | refine pg rfl rfl (by simp only [go_sem, Nat.reduceBEq]; try with_reducible rfl) (by intro hb; simp only [go_sem, Nat.reduceBEq, hb, Bool.true_and]; try with_reducible rfl) ?_)
  obtain ⟨r4, h3, hm⟩ := bnd hm
  refine ARun.callQG (r := .v (.bool r4)) (by decide) rfl (by simp only [go_sem, Nat.reduceBEq]; try with_reducible rfl) (by try simp only [go_sem, Nat.reduceBEq]; try rfl) fb80 (fun hb H => (.cons (td (by try simp only [go_sem, Nat.reduceBEq, hb, Bool.true_and]; try rfl) ((CFi .i64).sl _ _ _)) .nil)) (fun hb => partRight_c (gopt_t h3 hb)) ?_
  iterate 9 (first | refine pu rfl (by simp only [go_sem, Nat.reduceBEq]; try with_reducible rfl) ?_ | refine pg rfl rfl (by simp only [go_sem, Nat.reduceBEq]; try with_reducible rfl) (by intro hb; simp only [go_sem, Nat.reduceBEq, hb, Bool.true_and]; try with_reducible rfl) ?_)
  refine fs ?_
  refine AWp.condM hm (by try simp only [go_sem, Nat.reduceBEq]; try rfl) (fun _ hm => ?_) (fun _ hm => ?_)
  · refine sr (N' := 192) rfl ?_
    refine pu rfl (by simp only [go_sem, Nat.reduceBEq]; try with_reducible rfl) ?_
    refine fs ?_
    refine AWp.ret ?_
    refine retSeq ?_
    cases hm
    exact ret1D (.inr rfl) Try.results38 (td (by try simp only [go_sem, Nat.reduceBEq]; try rfl) (.v _))
  · refine AWp.skip ?_
    refine normSeq ?_
    refine AWp.seq' ?_
    refine sr (N' := 192) rfl ?_
    iterate 3 refine pu rfl (by simp only [go_sem, Nat.reduceBEq]; try with_reducible rfl) ?_
    refine fs ?_
    refine AWp.block ?_
    refine AWp.loopM (fun m s => ∃ (q_1 : List Int) (t22 : List Int) (t23 : Int) (t24 : Int), s = (⟨39, (fset (fset (fset (fset (fun _ => AV.any) 1 (.sl (q_1.flatMap (ci .i64)) q_1.length false)) 22 (.sl (t22.flatMap (ci .i64)) t22.length false)) 23 (.v (.int .i64 t23))) 24 (.v (.int .i64 t24))), ⟨nofresh, 64⟩⟩ : St) ∧ partRefines_L1 m q_1 t22 t23 t24 = some r) FUEL ?_ ?_ ?_
    · rintro s ⟨_, _, _, _, _, h⟩
      cases h
    · refine ⟨_, ?_, q_1, p_0, (p_0.length : Int), 0, rfl, hm⟩
      exact le_canon id (wk_fset _ _ (wk_data (by try simp only [go_sem, Nat.reduceBEq]; try rfl) (.v _)) (wk_fset _ _ (wk_data (by try simp only [go_sem, Nat.reduceBEq]; try rfl) (.v _)) (wk_fset _ _ (wk_data (by try simp only [go_sem, Nat.reduceBEq]; try rfl) ((CFi .i64).sl _ _ _)) (wk_fset _ _ (wk_data (by try simp only [go_sem, Nat.reduceBEq]; try rfl) ((CFi .i64).sl _ _ _)) wk_none)))) heapWk0
    · rintro n1 s ⟨q_1, t22, t23, t24, rfl, hm⟩
      replace hm : partRefines_B1 (partRefines_L1 n1) q_1 t22 t23 t24 = some r := hm
      unfold partRefines_B1 at hm
      refine sr (N' := 128) rfl ?_
      refine pu rfl (by simp only [go_sem, Nat.reduceBEq]; try with_reducible rfl) ?_
      refine fs ?_
      refine AWp.seq' ?_
      refine AWp.condM hm (by try simp only [go_sem, Nat.reduceBEq]; try rfl) (fun _ hm => ?_) (fun _ hm => ?_)
      · refine AWp.skip ?_
        refine normSeq ?_
        refine AWp.seq' ?_
        refine AWp.block ?_
        refine sr (N' := 192) rfl ?_
        refine pu rfl (by simp only [go_sem, Nat.reduceBEq]; try with_reducible rfl) ?_
        obtain ⟨x6, h5, hm⟩ := bnd hm
        refine pu rfl (ap_idx (CFi .i64) (by decide) Try.underlying30 sz3 (by try simp only [go_sem, Nat.reduceBEq]; try rfl) rfl (by try simp only [go_sem, Nat.reduceBEq]; try rfl) h5) ?_
        iterate 3 refine pu rfl (by simp only [go_sem, Nat.reduceBEq]; try with_reducible rfl) ?_
        refine fs ?_
        refine sd mix (by kernel_rfl) (N' := 256) rfl ?_
        iterate 2 refine pu rfl (by simp only [go_sem, Nat.reduceBEq]; try with_reducible rfl) ?_
        obtain ⟨x8, h7, hm⟩ := bnd hm
        refine pu rfl (ap_idx (CFi .i64) (by decide) Try.underlying30 sz3 (by try simp only [go_sem, Nat.reduceBEq]; try rfl) rfl (by try simp only [go_sem, Nat.reduceBEq]; try rfl) h7) ?_
        iterate 3 refine pu rfl (by simp only [go_sem, Nat.reduceBEq]; try with_reducible rfl) ?_
        obtain ⟨x10, h9, hm⟩ := bnd hm
        refine pu rfl (ap_idx (CFi .i64) (by decide) Try.underlying30 sz3 (by try simp only [go_sem, Nat.reduceBEq]; try rfl) rfl (by try simp only [go_sem, Nat.reduceBEq]; try rfl) h9) ?_
        iterate 2 refine pu rfl (by simp only [go_sem, Nat.reduceBEq]; try with_reducible rfl) ?_
        refine fs ?_
        refine AWp.condM hm (by try simp only [go_sem, Nat.reduceBEq]; try rfl) (fun _ hm => ?_) (fun _ hm => ?_)
        · refine sr (N' := 320) rfl ?_
          refine pu rfl (by simp only [go_sem, Nat.reduceBEq]; try with_reducible rfl) ?_
          refine fs ?_
          refine AWp.ret ?_
          refine retIn ?_
          refine retSeq ?_
          refine retThen ?_
          refine retIn ?_
          refine retSeq ?_
          cases hm
          exact ret1D (.inr rfl) Try.results38 (td (by try simp only [go_sem, Nat.reduceBEq]; try rfl) (.v _))
        · refine AWp.skip ?_
          refine normIn ?_
          refine normSeq ?_
          refine AWp.reg 64 (N' := 320) rfl ?_
          iterate 2 refine pu rfl (by simp only [go_sem, Nat.reduceBEq]; try with_reducible rfl) ?_
          refine ARun.fin ?_
          refine normThen ?_
          refine ⟨_, ?_, q_1, t22, t23, (IntKind.i64.wrap (t24 + 1)), rfl, hm⟩
          exact le_canon id (wk_fset _ _ (wk_data (by try simp only [go_sem, Nat.reduceBEq]; try rfl) (.v _)) (wk_fset _ _ (wk_data (by try simp only [go_sem, Nat.reduceBEq]; try rfl) (.v _)) (wk_fset _ _ (wk_data (by try simp only [go_sem, Nat.reduceBEq]; try rfl) ((CFi .i64).sl _ _ _)) (wk_fset _ _ (wk_data (by try simp only [go_sem, Nat.reduceBEq]; try rfl) ((CFi .i64).sl _ _ _)) wk_none)))) heapWk0
      · refine AWp.exit ?_
        refine exitSeq ?_
        refine exitThen ?_
        refine exitHere ?_
        refine normSeq ?_
        refine sr (N' := 192) rfl ?_
        refine pu rfl (by simp only [go_sem, Nat.reduceBEq]; try with_reducible rfl) ?_
        refine fs ?_
        refine AWp.ret ?_
        cases hm
        exact ret1D (.inr rfl) Try.results38 (td (by try simp only [go_sem, Nat.reduceBEq]; try rfl) (.v _))
def AuditThree_m (g_0 : GGraph) : Option (Bool) :=
  ((ref14Small_m g_0).bind fun r2 =>
  ((gopt ((!r2) == false) false (ref14Right_m g_0)).bind fun r4 =>
  (bif ((!r2) || (!r4)) then
    ((law20Awake_m ).bind fun r6 =>
    some r6)
  else
    ((auditExact_m g_0).bind fun r8 =>
    ((tiersKept_m g_0).bind fun r10 =>
    ((auditSo_m g_0).bind fun r12 =>
    ((partRefines_m r10 r12).bind fun r14 =>
    ((gopt (r14 == true) 0 (auditMissing_m g_0)).bind fun r16 =>
    ((gopt ((r14 && (r8 == (r16 == 0))) == true) [] (auditBetween_m g_0)).bind fun r18 =>
    ((gopt (((r14 && (r8 == (r16 == 0))) && (r8 == ((r18.length : Int) == 0))) == true) 0 (auditMissing_m g_0)).bind fun r20 =>
    ((gopt ((((r14 && (r8 == (r16 == 0))) && (r8 == ((r18.length : Int) == 0))) && (decide (0 ≤ r20))) == true) 0 (auditMissing_m g_0)).bind fun r22 =>
    ((gopt ((((r14 && (r8 == (r16 == 0))) && (r8 == ((r18.length : Int) == 0))) && (decide (0 ≤ r20))) == true) [] (auditBetween_m g_0)).bind fun r24 =>
    ((gopt (((((r14 && (r8 == (r16 == 0))) && (r8 == ((r18.length : Int) == 0))) && (decide (0 ≤ r20))) && (decide (r22 ≤ (r24.length : Int)))) == true) false (law20Awake_m )).bind fun r26 =>
    some (((((r14 && (r8 == (r16 == 0))) && (r8 == ((r18.length : Int) == 0))) && (decide (0 ≤ r20))) && (decide (r22 ≤ (r24.length : Int)))) && r26))))))))))))))
theorem AuditThree_c {g_0 : GGraph} {r : Bool} (hm : AuditThree_m g_0 = some r) : PureC Try.prog 5 [.agg [.v (.int .i64 g_0.Config.N), .v (.int .i64 g_0.Config.L), .v (.int .i64 g_0.Config.R), .sl (g_0.Hashes.flatMap cGHash) g_0.Hashes.length false, .sl (g_0.Edges.flatMap cGEdge) g_0.Edges.length false]] (.v (.bool r)) := by
  refine PureC.of_body Try.func5 rfl ?_
  simp only [Try.ntmps5, List.length_cons, List.length_nil, Nat.reduceAdd, Nat.reduceSub, empty_eq]
  unfold AuditThree_m at hm
  refine sr (N' := 64) rfl ?_
  refine hp (id := 0) rfl rfl (aheap_box (by try simp only [go_sem, Nat.reduceBEq]; try rfl) (by simp only [isFresh_upd, isFresh_no, Nat.reduceBEq, cond_true, cond_false])) ?_
  refine pu rfl (by simp only [go_sem, Nat.reduceBEq]; try with_reducible rfl) ?_
  refine fs ?_
  refine AWp.seq' ?_
  refine sr (N' := 128) rfl ?_
  refine pu rfl (ap_ldv (by try simp only [go_sem, Nat.reduceBEq]; try rfl) (by simp only [upd_beq, Nat.reduceBEq, cond_true, cond_false]; try rfl) (by simp only [go_sem, Nat.reduceBEq]; try with_reducible rfl)) ?_
  obtain ⟨r2, h1, hm⟩ := bnd hm
  refine ARun.callQ (r := .v (.bool r2)) (by decide) (by try simp only [go_sem, Nat.reduceBEq]; try rfl) fb25 (fun H => (.cons (td (by try simp only [go_sem, Nat.reduceBEq]; try rfl) (.agg _ (CFGGraph.dat _))) .nil)) (ref14Small_c h1) ?_
  iterate 2 refine pu rfl (by simp only [go_sem, Nat.reduceBEq]; try with_reducible rfl) ?_
  refine pg rfl rfl (by simp only [go_sem, Nat.reduceBEq]; try with_reducible rfl) (fun hb => (ap_ldv (by try simp only [go_sem, Nat.reduceBEq, hb, Bool.true_and]; try rfl) (by simp only [upd_beq, Nat.reduceBEq, cond_true, cond_false]; try rfl) (by simp only [go_sem, Nat.reduceBEq]; try with_reducible rfl))) ?_
  obtain ⟨r4, h3, hm⟩ := bnd hm
  refine ARun.callQG (r := .v (.bool r4)) (by decide) rfl (by simp only [go_sem, Nat.reduceBEq]; try with_reducible rfl) (by try simp only [go_sem, Nat.reduceBEq]; try rfl) fb29 (fun hb H => (.cons (td (by try simp only [go_sem, Nat.reduceBEq, hb, Bool.true_and]; try rfl) (.agg _ (CFGGraph.dat _))) .nil)) (fun hb => ref14Right_c (gopt_t h3 hb)) ?_
  iterate 2 (first | refine pu rfl (by simp only [go_sem, Nat.reduceBEq]; try with_reducible rfl) ?_ | refine pg rfl rfl (by simp only [go_sem, Nat.reduceBEq]; try with_reducible rfl) (by intro hb; simp only [go_sem, Nat.reduceBEq, hb, Bool.true_and]; try with_reducible rfl) ?_)
  refine fs ?_
  refine AWp.condM hm (by try simp only [go_sem, Nat.reduceBEq]; try rfl) (fun _ hm => ?_) (fun _ hm => ?_)
  · refine sr (N' := 192) rfl ?_
    obtain ⟨r6, h5, hm⟩ := bnd hm
    refine ARun.callQ (r := .v (.bool r6)) (by decide) (by try simp only [go_sem, Nat.reduceBEq]; try rfl) fb26 (fun H => .nil) (law20Awake_c h5) ?_
    refine pu rfl (by simp only [go_sem, Nat.reduceBEq]; try with_reducible rfl) ?_
    refine fs ?_
    refine AWp.ret ?_
    refine retSeq ?_
    cases hm
    exact ret1D (.inr rfl) Try.results5 (td (by try simp only [go_sem, Nat.reduceBEq]; try rfl) (.v _))
  · refine AWp.skip ?_
    refine normSeq ?_
    refine sr (N' := 192) rfl ?_
    refine pu rfl (ap_ldv (by try simp only [go_sem, Nat.reduceBEq]; try rfl) (by simp only [upd_beq, Nat.reduceBEq, cond_true, cond_false]; try rfl) (by simp only [go_sem, Nat.reduceBEq]; try with_reducible rfl)) ?_
    obtain ⟨r8, h7, hm⟩ := bnd hm
    refine ARun.callQ (r := .v (.bool r8)) (by decide) (by try simp only [go_sem, Nat.reduceBEq]; try rfl) fb30 (fun H => (.cons (td (by try simp only [go_sem, Nat.reduceBEq]; try rfl) (.agg _ (CFGGraph.dat _))) .nil)) (auditExact_c h7) ?_
    refine pu rfl (by simp only [go_sem, Nat.reduceBEq]; try with_reducible rfl) ?_
    refine fs ?_
    refine sd mix (by kernel_rfl) (N' := 256) rfl ?_
    refine pu rfl (ap_ldv (by try simp only [go_sem, Nat.reduceBEq]; try rfl) (by simp only [upd_beq, Nat.reduceBEq, cond_true, cond_false]; try rfl) (by simp only [go_sem, Nat.reduceBEq]; try with_reducible rfl)) ?_
    obtain ⟨r10, h9, hm⟩ := bnd hm
    refine ARun.callQ (r := .sl (r10.flatMap (ci .i64)) r10.length false) (by decide) (by try simp only [go_sem, Nat.reduceBEq]; try rfl) fb39 (fun H => (.cons (td (by try simp only [go_sem, Nat.reduceBEq]; try rfl) (.agg _ (CFGGraph.dat _))) .nil)) (tiersKept_c h9) ?_
    refine pu rfl (ap_ldv (by try simp only [go_sem, Nat.reduceBEq]; try rfl) (by simp only [upd_beq, Nat.reduceBEq, cond_true, cond_false]; try rfl) (by simp only [go_sem, Nat.reduceBEq]; try with_reducible rfl)) ?_
    obtain ⟨r12, h11, hm⟩ := bnd hm
    refine ARun.callQ (r := .sl (r12.flatMap (ci .i64)) r12.length false) (by decide) (by try simp only [go_sem, Nat.reduceBEq]; try rfl) fb27 (fun H => (.cons (td (by try simp only [go_sem, Nat.reduceBEq]; try rfl) (.agg _ (CFGGraph.dat _))) .nil)) (auditSo_c h11) ?_
    obtain ⟨r14, h13, hm⟩ := bnd hm
    refine ARun.callQ (r := .v (.bool r14)) (by decide) (by try simp only [go_sem, Nat.reduceBEq]; try rfl) fb38 (fun H => (.cons (td (by try simp only [go_sem, Nat.reduceBEq]; try rfl) ((CFi .i64).sl _ _ _)) (.cons (td (by try simp only [go_sem, Nat.reduceBEq]; try rfl) ((CFi .i64).sl _ _ _)) .nil))) (partRefines_c h13) ?_
    iterate 2 (first | refine pu rfl (by simp only [go_sem, Nat.reduceBEq]; try with_reducible rfl) ?_ | refine pg rfl rfl (by simp only [go_sem, Nat.reduceBEq]; try with_reducible rfl) (by intro hb; simp only [go_sem, Nat.reduceBEq, hb, Bool.true_and]; try with_reducible rfl) ?_)
    refine pg rfl rfl (by simp only [go_sem, Nat.reduceBEq]; try with_reducible rfl) (fun hb => (ap_ldv (by try simp only [go_sem, Nat.reduceBEq, hb, Bool.true_and]; try rfl) (by simp only [upd_beq, Nat.reduceBEq, cond_true, cond_false]; try rfl) (by simp only [go_sem, Nat.reduceBEq]; try with_reducible rfl))) ?_
    obtain ⟨r16, h15, hm⟩ := bnd hm
    refine ARun.callQG (r := .v (.int .i64 r16)) (by decide) rfl (by simp only [go_sem, Nat.reduceBEq]; try with_reducible rfl) (by try simp only [go_sem, Nat.reduceBEq]; try rfl) fb31 (fun hb H => (.cons (td (by try simp only [go_sem, Nat.reduceBEq, hb, Bool.true_and]; try rfl) (.agg _ (CFGGraph.dat _))) .nil)) (fun hb => auditMissing_c (gopt_t h15 hb)) ?_
    iterate 5 (first | refine pu rfl (by simp only [go_sem, Nat.reduceBEq]; try with_reducible rfl) ?_ | refine pg rfl rfl (by simp only [go_sem, Nat.reduceBEq]; try with_reducible rfl) (by intro hb; simp only [go_sem, Nat.reduceBEq, hb, Bool.true_and]; try with_reducible rfl) ?_)
    refine pg rfl rfl (by simp only [go_sem, Nat.reduceBEq]; try with_reducible rfl) (fun hb => (ap_ldv (by try simp only [go_sem, Nat.reduceBEq, hb, Bool.true_and]; try rfl) (by simp only [upd_beq, Nat.reduceBEq, cond_true, cond_false]; try rfl) (by simp only [go_sem, Nat.reduceBEq]; try with_reducible rfl))) ?_
    obtain ⟨r18, h17, hm⟩ := bnd hm
    refine ARun.callQG (r := .sl (r18.flatMap cGEdge) r18.length false) (by decide) rfl (by simp only [go_sem, Nat.reduceBEq]; try with_reducible rfl) (by try simp only [go_sem, Nat.reduceBEq]; try rfl) fb28 (fun hb H => (.cons (td (by try simp only [go_sem, Nat.reduceBEq, hb, Bool.true_and]; try rfl) (.agg _ (CFGGraph.dat _))) .nil)) (fun hb => auditBetween_c (gopt_t h17 hb)) ?_
    iterate 5 (first | refine pu rfl (by simp only [go_sem, Nat.reduceBEq]; try with_reducible rfl) ?_ | refine pg rfl rfl (by simp only [go_sem, Nat.reduceBEq]; try with_reducible rfl) (by intro hb; simp only [go_sem, Nat.reduceBEq, hb, Bool.true_and]; try with_reducible rfl) ?_)
    refine pg rfl rfl (by simp only [go_sem, Nat.reduceBEq]; try with_reducible rfl) (fun hb => (ap_ldv (by try simp only [go_sem, Nat.reduceBEq, hb, Bool.true_and]; try rfl) (by simp only [upd_beq, Nat.reduceBEq, cond_true, cond_false]; try rfl) (by simp only [go_sem, Nat.reduceBEq]; try with_reducible rfl))) ?_
    obtain ⟨r20, h19, hm⟩ := bnd hm
    refine ARun.callQG (r := .v (.int .i64 r20)) (by decide) rfl (by simp only [go_sem, Nat.reduceBEq]; try with_reducible rfl) (by try simp only [go_sem, Nat.reduceBEq]; try rfl) fb31 (fun hb H => (.cons (td (by try simp only [go_sem, Nat.reduceBEq, hb, Bool.true_and]; try rfl) (.agg _ (CFGGraph.dat _))) .nil)) (fun hb => auditMissing_c (gopt_t h19 hb)) ?_
    iterate 3 (first | refine pu rfl (by simp only [go_sem, Nat.reduceBEq]; try with_reducible rfl) ?_ | refine pg rfl rfl (by simp only [go_sem, Nat.reduceBEq]; try with_reducible rfl) (by intro hb; simp only [go_sem, Nat.reduceBEq, hb, Bool.true_and]; try with_reducible rfl) ?_)
    refine pg rfl rfl (by simp only [go_sem, Nat.reduceBEq]; try with_reducible rfl) (fun hb => (ap_ldv (by try simp only [go_sem, Nat.reduceBEq, hb, Bool.true_and]; try rfl) (by simp only [upd_beq, Nat.reduceBEq, cond_true, cond_false]; try rfl) (by simp only [go_sem, Nat.reduceBEq]; try with_reducible rfl))) ?_
    obtain ⟨r22, h21, hm⟩ := bnd hm
    refine ARun.callQG (r := .v (.int .i64 r22)) (by decide) rfl (by simp only [go_sem, Nat.reduceBEq]; try with_reducible rfl) (by try simp only [go_sem, Nat.reduceBEq]; try rfl) fb31 (fun hb H => (.cons (td (by try simp only [go_sem, Nat.reduceBEq, hb, Bool.true_and]; try rfl) (.agg _ (CFGGraph.dat _))) .nil)) (fun hb => auditMissing_c (gopt_t h21 hb)) ?_
    refine pg rfl rfl (by simp only [go_sem, Nat.reduceBEq]; try with_reducible rfl) (fun hb => (ap_ldv (by try simp only [go_sem, Nat.reduceBEq, hb, Bool.true_and]; try rfl) (by simp only [upd_beq, Nat.reduceBEq, cond_true, cond_false]; try rfl) (by simp only [go_sem, Nat.reduceBEq]; try with_reducible rfl))) ?_
    obtain ⟨r24, h23, hm⟩ := bnd hm
    refine ARun.callQG (r := .sl (r24.flatMap cGEdge) r24.length false) (by decide) rfl (by simp only [go_sem, Nat.reduceBEq]; try with_reducible rfl) (by try simp only [go_sem, Nat.reduceBEq]; try rfl) fb28 (fun hb H => (.cons (td (by try simp only [go_sem, Nat.reduceBEq, hb, Bool.true_and]; try rfl) (.agg _ (CFGGraph.dat _))) .nil)) (fun hb => auditBetween_c (gopt_t h23 hb)) ?_
    iterate 4 (first | refine pu rfl (by simp only [go_sem, Nat.reduceBEq]; try with_reducible rfl) ?_ | refine pg rfl rfl (by simp only [go_sem, Nat.reduceBEq]; try with_reducible rfl) (by intro hb; simp only [go_sem, Nat.reduceBEq, hb, Bool.true_and]; try with_reducible rfl) ?_)
    obtain ⟨r26, h25, hm⟩ := bnd hm
    refine ARun.callQG (r := .v (.bool r26)) (by decide) rfl (by simp only [go_sem, Nat.reduceBEq]; try with_reducible rfl) (by try simp only [go_sem, Nat.reduceBEq]; try rfl) fb26 (fun hb H => .nil) (fun hb => law20Awake_c (gopt_t h25 hb)) ?_
    iterate 2 refine pu rfl (by simp only [go_sem, Nat.reduceBEq]; try with_reducible rfl) ?_
    refine fs ?_
    refine AWp.ret ?_
    cases hm
    exact ret1D (.inr rfl) Try.results5 (td (by try simp only [go_sem, Nat.reduceBEq]; try rfl) (.v _))
end Go.Proofs.Ytibnmlbjahcjmaa
