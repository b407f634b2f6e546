/- Plain functions in lockstep with the code, and that the code computes them. (Printed by a program.) -/
import Derived.Test.YtkkhgcllbbffaaaNatM
set_option linter.unusedVariables false
set_option linter.unusedSimpArgs false
set_option maxRecDepth 20000
set_option maxHeartbeats 4000000
namespace Go.Proofs.Ytkkhgcllbbffaaa
open Go Go.AM
structure GConfig where
  N : Int
  L : Int
  R : Int
deriving DecidableEq
def cGConfig (e : GConfig) : List AV := [.v (.int .i64 e.N), .v (.int .i64 e.L), .v (.int .i64 e.R)]
theorem CFGConfig : CF cGConfig 3 := ⟨fun _ => rfl, fun a x hx => by
  simp only [cGConfig, List.mem_cons, List.not_mem_nil, or_false] at hx
  rcases hx with rfl | rfl | rfl
  · exact (.v _)
  · exact (.v _)
  · exact (.v _), fun _ => rfl⟩
theorem cGConfig_app (e : GConfig) (r : List AV) : cGConfig e ++ r = .v (.int .i64 e.N) :: .v (.int .i64 e.L) :: .v (.int .i64 e.R) :: r := rfl
attribute [go_sem] cGConfig_app
theorem eqs34PlanM (x0 y0 x1 y1 x2 y2 : Int) : abin Try.prog .eql 34 (.agg [.v (.int .i64 x0), .v (.int .i64 x1), .v (.int .i64 x2)]) (.agg [.v (.int .i64 y0), .v (.int .i64 y1), .v (.int .i64 y2)]) = some (.v (.bool ((x0 == y0) && ((x1 == y1) && (x2 == y2))))) :=
  (by kernel_rfl : abin Try.prog .eql 34 (.agg [.v (.int .i64 x0), .v (.int .i64 x1), .v (.int .i64 x2)]) (.agg [.v (.int .i64 y0), .v (.int .i64 y1), .v (.int .i64 y2)]) = some (.v (.bool ((x0 == y0) && ((x1 == y1) && ((x2 == y2) && true)))))).trans (by rw [Bool.and_true])
theorem nqs34PlanM (x0 y0 x1 y1 x2 y2 : Int) : abin Try.prog .neq 34 (.agg [.v (.int .i64 x0), .v (.int .i64 x1), .v (.int .i64 x2)]) (.agg [.v (.int .i64 y0), .v (.int .i64 y1), .v (.int .i64 y2)]) = some (.v (.bool (!((x0 == y0) && ((x1 == y1) && (x2 == y2)))))) :=
  (by kernel_rfl : abin Try.prog .neq 34 (.agg [.v (.int .i64 x0), .v (.int .i64 x1), .v (.int .i64 x2)]) (.agg [.v (.int .i64 y0), .v (.int .i64 y1), .v (.int .i64 y2)]) = some (.v (.bool (!((x0 == y0) && ((x1 == y1) && ((x2 == y2) && true))))))).trans (by rw [Bool.and_true])
attribute [go_sem] eqs34PlanM nqs34PlanM
theorem fo34_0PlanM (i o : Nat) : afieldAddr Try.prog 34 (.adr i o) 0 = some (.adr i (o + 0)) := by kernel_rfl
attribute [go_sem] fo34_0PlanM
theorem fo34_1PlanM (i o : Nat) : afieldAddr Try.prog 34 (.adr i o) 1 = some (.adr i (o + 1)) := by kernel_rfl
attribute [go_sem] fo34_1PlanM
theorem fo34_2PlanM (i o : Nat) : afieldAddr Try.prog 34 (.adr i o) 2 = some (.adr i (o + 2)) := by kernel_rfl
attribute [go_sem] fo34_2PlanM
theorem ld3PlanM (H : Heap) (x : AV) (xs : List AV) : aload Try.prog H 3 (.ptr (x :: xs)) = some x := by kernel_rfl
attribute [go_sem] ld3PlanM
theorem ld34PlanM (H : Heap) (x0 x1 x2 : AV) (xs : List AV) : aload Try.prog H 34 (.ptr (x0 :: x1 :: x2 :: xs)) = some (.agg [x0, x1, x2]) := by kernel_rfl
attribute [go_sem] ld34PlanM
theorem cv3_39PlanM (H : Heap) (k : IntKind) (n : Int) : aconv Try.prog H 3 39 (.v (.int k n)) = some (.v (.int .u64 (IntKind.u64.wrap n))) := aconv_int Try.underlying3 Try.underlying39
attribute [go_sem] cv3_39PlanM
theorem cv5_3PlanM (H : Heap) (k : IntKind) (n : Int) : aconv Try.prog H 5 3 (.v (.int k n)) = some (.v (.int .i64 (IntKind.i64.wrap n))) := aconv_int Try.underlying5 Try.underlying3
attribute [go_sem] cv5_3PlanM
theorem cv38_3PlanM (H : Heap) (k : IntKind) (n : Int) : aconv Try.prog H 38 3 (.v (.int k n)) = some (.v (.int .i64 (IntKind.i64.wrap n))) := aconv_int Try.underlying38 Try.underlying3
attribute [go_sem] cv38_3PlanM
theorem cv39_44PlanM (H : Heap) (k : IntKind) (n : Int) : aconv Try.prog H 39 44 (.v (.int k n)) = some (.v (.int .u32 (IntKind.u32.wrap n))) := aconv_int Try.underlying39 Try.underlying44
attribute [go_sem] cv39_44PlanM
def plCounts_m (n_0 : Int) (m_1 : Int) : Option (Bool) :=
  some ((((decide (1 ≤ n_0)) && (decide (n_0 ≤ 1024))) && (decide (0 ≤ m_1))) && (decide (m_1 ≤ 2147483647)))
theorem plCounts_c {n_0 : Int} {m_1 : Int} {r : Bool} (hm : plCounts_m n_0 m_1 = some r) : PureC Try.prog 22 [.v (.int .i64 n_0), .v (.int .i64 m_1)] (.v (.bool r)) := by
  refine PureC.of_body Try.func22 rfl ?_
  simp only [Try.ntmps22, List.length_cons, List.length_nil, Nat.reduceAdd, Nat.reduceSub, empty_eq]
  unfold plCounts_m at hm
  refine sr (N' := 64) rfl ?_
  refine pu rfl (by simp only [go_sem, Nat.reduceBEq]; try with_reducible rfl) ?_
  refine fs ?_
  refine sr (N' := 128) rfl ?_
  iterate 15 (first | refine pu rfl (by simp only [go_sem, Nat.reduceBEq]; try with_reducible rfl) ?_ | refine pg rfl rfl (by simp only [go_sem, Nat.reduceBEq]; try with_reducible rfl) (by intro hb; simp only [go_sem, Nat.reduceBEq, hb, Bool.true_and]; try with_reducible rfl) ?_)
  refine fs ?_
  refine AWp.ret ?_
  cases hm
  exact ret1D (.inr rfl) Try.results22 (td (by try simp only [go_sem, Nat.reduceBEq]; try rfl) (.v _))
def plShape_m (l_0 : Int) (r_1 : Int) : Option (Bool) :=
  some ((((decide (1 ≤ l_0)) && (decide (l_0 ≤ 16))) && (decide (1 ≤ r_1))) && (decide (r_1 ≤ 8)))
theorem plShape_c {l_0 : Int} {r_1 : Int} {r : Bool} (hm : plShape_m l_0 r_1 = some r) : PureC Try.prog 23 [.v (.int .i64 l_0), .v (.int .i64 r_1)] (.v (.bool r)) := by
  refine PureC.of_body Try.func23 rfl ?_
  simp only [Try.ntmps23, List.length_cons, List.length_nil, Nat.reduceAdd, Nat.reduceSub, empty_eq]
  unfold plShape_m at hm
  refine sr (N' := 64) rfl ?_
  refine pu rfl (by simp only [go_sem, Nat.reduceBEq]; try with_reducible rfl) ?_
  refine fs ?_
  refine sr (N' := 128) rfl ?_
  iterate 15 (first | refine pu rfl (by simp only [go_sem, Nat.reduceBEq]; try with_reducible rfl) ?_ | refine pg rfl rfl (by simp only [go_sem, Nat.reduceBEq]; try with_reducible rfl) (by intro hb; simp only [go_sem, Nat.reduceBEq, hb, Bool.true_and]; try with_reducible rfl) ?_)
  refine fs ?_
  refine AWp.ret ?_
  cases hm
  exact ret1D (.inr rfl) Try.results23 (td (by try simp only [go_sem, Nat.reduceBEq]; try rfl) (.v _))
def plBits_m (k_0 : Int) : Option (Bool) :=
  some ((decide (0 ≤ k_0)) && (decide (k_0 ≤ 64)))
theorem plBits_c {k_0 : Int} {r : Bool} (hm : plBits_m k_0 = some r) : PureC Try.prog 28 [.v (.int .i64 k_0)] (.v (.bool r)) := by
  refine PureC.of_body Try.func28 rfl ?_
  simp only [Try.ntmps28, List.length_cons, List.length_nil, Nat.reduceAdd, Nat.reduceSub, empty_eq]
  unfold plBits_m at hm
  refine sr (N' := 64) rfl ?_
  refine pu rfl (by simp only [go_sem, Nat.reduceBEq]; try with_reducible rfl) ?_
  refine fs ?_
  refine sr (N' := 128) rfl ?_
  iterate 7 (first | refine pu rfl (by simp only [go_sem, Nat.reduceBEq]; try with_reducible rfl) ?_ | refine pg rfl rfl (by simp only [go_sem, Nat.reduceBEq]; try with_reducible rfl) (by intro hb; simp only [go_sem, Nat.reduceBEq, hb, Bool.true_and]; try with_reducible rfl) ?_)
  refine fs ?_
  refine AWp.ret ?_
  cases hm
  exact ret1D (.inr rfl) Try.results28 (td (by try simp only [go_sem, Nat.reduceBEq]; try rfl) (.v _))
def plPower_B1 (rec1 : Int → Int → Int → Int → Option (Int)) (a_0 : Int) (p_5 : Int) (t6 : Int) (t7 : Int) : Option (Int) :=
  (bif (decide (t7 < t6)) then
    rec1 a_0 (IntKind.u64.wrap (p_5 * a_0)) t6 (IntKind.i64.wrap (t7 + 1))
  else
    some p_5)
def plPower_L1 : Nat → Int → Int → Int → Int → Option (Int)
  | 0 => fun _ _ _ _ => none
  | n + 1 => plPower_B1 (plPower_L1 n)
def plPower_m (a_0 : Int) (n_1 : Int) : Option (Int) :=
  plPower_L1 FUEL a_0 1 n_1 0
theorem plPower_c {a_0 : Int} {n_1 : Int} {r : Int} (hm : plPower_m a_0 n_1 = some r) : PureC Try.prog 24 [.v (.int .u64 a_0), .v (.int .i64 n_1)] (.v (.int .u64 r)) := by
  refine PureC.of_body Try.func24 rfl ?_
  simp only [Try.ntmps24, List.length_cons, List.length_nil, Nat.reduceAdd, Nat.reduceSub, empty_eq]
  unfold plPower_m at hm
  refine sr (N' := 64) rfl ?_
  refine pu rfl (by simp only [go_sem, Nat.reduceBEq]; try with_reducible rfl) ?_
  refine fs ?_
  refine sr (N' := 128) rfl ?_
  refine pu rfl (by simp only [go_sem, Nat.reduceBEq]; try with_reducible rfl) ?_
  refine fs ?_
  refine AWp.seq' ?_
  refine sr (N' := 192) rfl ?_
  iterate 2 refine pu rfl (by simp only [go_sem, Nat.reduceBEq]; try with_reducible rfl) ?_
  refine fs ?_
  refine AWp.block ?_
  refine AWp.loopM (fun m s => ∃ (a_0 : Int) (p_5 : Int) (t6 : Int) (t7 : Int), s = (⟨14, (fset (fset (fset (fset (fun _ => AV.any) 0 (.v (.int .u64 a_0))) 5 (.v (.int .u64 p_5))) 6 (.v (.int .i64 t6))) 7 (.v (.int .i64 t7))), ⟨nofresh, 64⟩⟩ : St) ∧ plPower_L1 m a_0 p_5 t6 t7 = some r) FUEL ?_ ?_ ?_
  · rintro s ⟨_, _, _, _, _, h⟩
    cases h
  · refine ⟨_, ?_, a_0, 1, n_1, 0, rfl, hm⟩
    exact le_canon id (wk_fset _ _ (wk_data (by try simp only [go_sem, Nat.reduceBEq]; try rfl) (.v _)) (wk_fset _ _ (wk_data (by try simp only [go_sem, Nat.reduceBEq]; try rfl) (.v _)) (wk_fset _ _ (wk_data (by try simp only [go_sem, Nat.reduceBEq]; try rfl) (.v _)) (wk_fset _ _ (wk_data (by try simp only [go_sem, Nat.reduceBEq]; try rfl) (.v _)) wk_none)))) heapWk0
  · rintro n1 s ⟨a_0, p_5, t6, t7, rfl, hm⟩
    replace hm : plPower_B1 (plPower_L1 n1) a_0 p_5 t6 t7 = some r := hm
    unfold plPower_B1 at hm
    refine sr (N' := 128) rfl ?_
    refine pu rfl (by simp only [go_sem, Nat.reduceBEq]; try with_reducible rfl) ?_
    refine fs ?_
    refine AWp.seq' ?_
    refine AWp.condM hm (by try simp only [go_sem, Nat.reduceBEq]; try rfl) (fun _ hm => ?_) (fun _ hm => ?_)
    · refine AWp.skip ?_
      refine normSeq ?_
      refine AWp.seq' ?_
      refine AWp.block ?_
      refine AWp.reg 64 (N' := 192) rfl ?_
      iterate 4 refine pu rfl (by simp only [go_sem, Nat.reduceBEq]; try with_reducible rfl) ?_
      refine ARun.fin ?_
      refine normIn ?_
      refine normSeq ?_
      refine AWp.reg 64 (N' := 256) rfl ?_
      iterate 2 refine pu rfl (by simp only [go_sem, Nat.reduceBEq]; try with_reducible rfl) ?_
      refine ARun.fin ?_
      refine normThen ?_
      refine ⟨_, ?_, a_0, (IntKind.u64.wrap (p_5 * a_0)), t6, (IntKind.i64.wrap (t7 + 1)), rfl, hm⟩
      exact le_canon id (wk_fset _ _ (wk_data (by try simp only [go_sem, Nat.reduceBEq]; try rfl) (.v _)) (wk_fset _ _ (wk_data (by try simp only [go_sem, Nat.reduceBEq]; try rfl) (.v _)) (wk_fset _ _ (wk_data (by try simp only [go_sem, Nat.reduceBEq]; try rfl) (.v _)) (wk_fset _ _ (wk_data (by try simp only [go_sem, Nat.reduceBEq]; try rfl) (.v _)) wk_none)))) heapWk0
    · refine AWp.exit ?_
      refine exitSeq ?_
      refine exitThen ?_
      refine exitHere ?_
      refine normSeq ?_
      refine sr (N' := 192) rfl ?_
      iterate 2 refine pu rfl (by simp only [go_sem, Nat.reduceBEq]; try with_reducible rfl) ?_
      refine fs ?_
      refine AWp.ret ?_
      cases hm
      exact ret1D (.inr rfl) Try.results24 (td (by try simp only [go_sem, Nat.reduceBEq]; try rfl) (.v _))
def plWeight_m (n_0 : Int) (m_1 : Int) (l_2 : Int) (r_3 : Int) : Option ((List Int) × Int) :=
  ((plCounts_m n_0 m_1).bind fun r2 =>
  ((gopt ((!r2) == false) false (plShape_m l_2 r_3)).bind fun r4 =>
  (bif ((!r2) || (!r4)) then
    some ([], 1)
  else
    ((plPower_m 8 r_3).bind fun r6 =>
    ((natOf_m r6).bind fun r8 =>
    ((plPower_m 7 r_3).bind fun r10 =>
    ((natOf_m r10).bind fun r12 =>
    ((natAdd_m r8 r12).bind fun ⟨r14, r15⟩ =>
    (bif (r15 != 0) then
      some ([], r15)
    else
      ((natPow_m r14 l_2).bind fun ⟨r17, r18⟩ =>
      (bif (r18 != 0) then
        some ([], r18)
      else
        ((natOf_m (IntKind.u64.wrap ((IntKind.u64.wrap m_1) * (IntKind.u64.wrap n_0)))).bind fun r20 =>
        ((natMul_m r20 r17).bind fun ⟨r22, r23⟩ =>
        some (r22, r23))))))))))))))
theorem plWeight_c {n_0 : Int} {m_1 : Int} {l_2 : Int} {r_3 : Int} {r : (List Int) × Int} (hm : plWeight_m n_0 m_1 l_2 r_3 = some r) : PureC Try.prog 11 [.v (.int .i64 n_0), .v (.int .i64 m_1), .v (.int .i64 l_2), .v (.int .i64 r_3)] (.tup [.sl (r.1.flatMap (ci .u32)) r.1.length false, .v (.int .i64 r.2)]) := by
  refine PureC.of_body Try.func11 rfl ?_
  simp only [Try.ntmps11, List.length_cons, List.length_nil, Nat.reduceAdd, Nat.reduceSub, empty_eq]
  unfold plWeight_m at hm
  refine sr (N' := 64) rfl ?_
  iterate 2 refine pu rfl (by simp only [go_sem, Nat.reduceBEq]; try with_reducible rfl) ?_
  refine fs ?_
  refine AWp.seq' ?_
  refine sr (N' := 128) rfl ?_
  iterate 2 refine pu rfl (by simp only [go_sem, Nat.reduceBEq]; try with_reducible rfl) ?_
  obtain ⟨r2, h1, hm⟩ := bnd hm
  refine ARun.callQ (r := .v (.bool r2)) (by decide) (by try simp only [go_sem, Nat.reduceBEq]; try rfl) fb22 (fun H => (.cons (td (by try simp only [go_sem, Nat.reduceBEq]; try rfl) (.v _)) (.cons (td (by try simp only [go_sem, Nat.reduceBEq]; try rfl) (.v _)) .nil))) (plCounts_c h1) ?_
  iterate 4 (first | refine pu rfl (by simp only [go_sem, Nat.reduceBEq]; try with_reducible rfl) ?_ | refine pg rfl rfl (by simp only [go_sem, Nat.reduceBEq]; try with_reducible rfl) (by intro hb; simp only [go_sem, Nat.reduceBEq, hb, Bool.true_and]; try with_reducible rfl) ?_)
  obtain ⟨r4, h3, hm⟩ := bnd hm
  refine ARun.callQG (r := .v (.bool r4)) (by decide) rfl (by simp only [go_sem, Nat.reduceBEq]; try with_reducible rfl) (by try simp only [go_sem, Nat.reduceBEq]; try rfl) fb23 (fun hb H => (.cons (td (by try simp only [go_sem, Nat.reduceBEq, hb, Bool.true_and]; try rfl) (.v _)) (.cons (td (by try simp only [go_sem, Nat.reduceBEq, hb, Bool.true_and]; try rfl) (.v _)) .nil))) (fun hb => plShape_c (gopt_t h3 hb)) ?_
  iterate 2 (first | refine pu rfl (by simp only [go_sem, Nat.reduceBEq]; try with_reducible rfl) ?_ | refine pg rfl rfl (by simp only [go_sem, Nat.reduceBEq]; try with_reducible rfl) (by intro hb; simp only [go_sem, Nat.reduceBEq, hb, Bool.true_and]; try with_reducible rfl) ?_)
  refine fs ?_
  refine AWp.condM hm (by try simp only [go_sem, Nat.reduceBEq]; try rfl) (fun _ hm => ?_) (fun _ hm => ?_)
  · refine sr (N' := 192) rfl ?_
    iterate 2 refine pu rfl (by simp only [go_sem, Nat.reduceBEq]; try with_reducible rfl) ?_
    refine fs ?_
    refine AWp.ret ?_
    refine retSeq ?_
    cases hm
    exact ret2D (.inr rfl) Try.results11 (tdn (by try simp only [go_sem, Nat.reduceBEq]; try rfl)) (td (by try simp only [go_sem, Nat.reduceBEq]; try rfl) (.v _))
  · refine AWp.skip ?_
    refine normSeq ?_
    refine sr (N' := 192) rfl ?_
    refine pu rfl (by simp only [go_sem, Nat.reduceBEq]; try with_reducible rfl) ?_
    obtain ⟨r6, h5, hm⟩ := bnd hm
    refine ARun.callQ (r := .v (.int .u64 r6)) (by decide) (by try simp only [go_sem, Nat.reduceBEq]; try rfl) fb24 (fun H => (.cons (td (by try simp only [go_sem, Nat.reduceBEq]; try rfl) (.v _)) (.cons (td (by try simp only [go_sem, Nat.reduceBEq]; try rfl) (.v _)) .nil))) (plPower_c h5) ?_
    obtain ⟨r8, h7, hm⟩ := bnd hm
    refine ARun.callQ (r := .sl (r8.flatMap (ci .u32)) r8.length false) (by decide) (by try simp only [go_sem, Nat.reduceBEq]; try rfl) fb20 (fun H => (.cons (td (by try simp only [go_sem, Nat.reduceBEq]; try rfl) (.v _)) .nil)) (natOf_c h7) ?_
    refine pu rfl (by simp only [go_sem, Nat.reduceBEq]; try with_reducible rfl) ?_
    obtain ⟨r10, h9, hm⟩ := bnd hm
    refine ARun.callQ (r := .v (.int .u64 r10)) (by decide) (by try simp only [go_sem, Nat.reduceBEq]; try rfl) fb24 (fun H => (.cons (td (by try simp only [go_sem, Nat.reduceBEq]; try rfl) (.v _)) (.cons (td (by try simp only [go_sem, Nat.reduceBEq]; try rfl) (.v _)) .nil))) (plPower_c h9) ?_
    obtain ⟨r12, h11, hm⟩ := bnd hm
    refine ARun.callQ (r := .sl (r12.flatMap (ci .u32)) r12.length false) (by decide) (by try simp only [go_sem, Nat.reduceBEq]; try rfl) fb20 (fun H => (.cons (td (by try simp only [go_sem, Nat.reduceBEq]; try rfl) (.v _)) .nil)) (natOf_c h11) ?_
    obtain ⟨⟨r14, r15⟩, h13, hm⟩ := bnd hm
    refine ARun.callQ (r := .tup [.sl (r14.flatMap (ci .u32)) r14.length false, .v (.int .i64 r15)]) (by decide) (by try simp only [go_sem, Nat.reduceBEq]; try rfl) fb21 (fun H => (.cons (td (by try simp only [go_sem, Nat.reduceBEq]; try rfl) ((CFi .u32).sl _ _ _)) (.cons (td (by try simp only [go_sem, Nat.reduceBEq]; try rfl) ((CFi .u32).sl _ _ _)) .nil))) (natAdd_c h13) ?_
    iterate 5 refine pu rfl (by simp only [go_sem, Nat.reduceBEq]; try with_reducible rfl) ?_
    refine fs ?_
    refine AWp.seq' ?_
    refine sr (N' := 256) rfl ?_
    iterate 2 refine pu rfl (by simp only [go_sem, Nat.reduceBEq]; try with_reducible rfl) ?_
    refine fs ?_
    refine AWp.condM hm (by try simp only [go_sem, Nat.reduceBEq]; try rfl) (fun _ hm => ?_) (fun _ hm => ?_)
    · refine sr (N' := 320) rfl ?_
      iterate 3 refine pu rfl (by simp only [go_sem, Nat.reduceBEq]; try with_reducible rfl) ?_
      refine fs ?_
      refine AWp.ret ?_
      refine retSeq ?_
      cases hm
      exact ret2D (.inr rfl) Try.results11 (tdn (by try simp only [go_sem, Nat.reduceBEq]; try rfl)) (td (by try simp only [go_sem, Nat.reduceBEq]; try rfl) (.v _))
    · refine AWp.skip ?_
      refine normSeq ?_
      refine sr (N' := 320) rfl ?_
      iterate 2 refine pu rfl (by simp only [go_sem, Nat.reduceBEq]; try with_reducible rfl) ?_
      obtain ⟨⟨r17, r18⟩, h16, hm⟩ := bnd hm
      refine ARun.callQ (r := .tup [.sl (r17.flatMap (ci .u32)) r17.length false, .v (.int .i64 r18)]) (by decide) (by try simp only [go_sem, Nat.reduceBEq]; try rfl) fb25 (fun H => (.cons (td (by try simp only [go_sem, Nat.reduceBEq]; try rfl) ((CFi .u32).sl _ _ _)) (.cons (td (by try simp only [go_sem, Nat.reduceBEq]; try rfl) (.v _)) .nil))) (natPow_c h16) ?_
      iterate 5 refine pu rfl (by simp only [go_sem, Nat.reduceBEq]; try with_reducible rfl) ?_
      refine fs ?_
      refine AWp.seq' ?_
      refine sr (N' := 384) rfl ?_
      iterate 2 refine pu rfl (by simp only [go_sem, Nat.reduceBEq]; try with_reducible rfl) ?_
      refine fs ?_
      refine AWp.condM hm (by try simp only [go_sem, Nat.reduceBEq]; try rfl) (fun _ hm => ?_) (fun _ hm => ?_)
      · refine sr (N' := 448) rfl ?_
        iterate 3 refine pu rfl (by simp only [go_sem, Nat.reduceBEq]; try with_reducible rfl) ?_
        refine fs ?_
        refine AWp.ret ?_
        refine retSeq ?_
        cases hm
        exact ret2D (.inr rfl) Try.results11 (tdn (by try simp only [go_sem, Nat.reduceBEq]; try rfl)) (td (by try simp only [go_sem, Nat.reduceBEq]; try rfl) (.v _))
      · refine AWp.skip ?_
        refine normSeq ?_
        refine sr (N' := 448) rfl ?_
        iterate 5 refine pu rfl (by simp only [go_sem, Nat.reduceBEq]; try with_reducible rfl) ?_
        obtain ⟨r20, h19, hm⟩ := bnd hm
        refine ARun.callQ (r := .sl (r20.flatMap (ci .u32)) r20.length false) (by decide) (by try simp only [go_sem, Nat.reduceBEq]; try rfl) fb20 (fun H => (.cons (td (by try simp only [go_sem, Nat.reduceBEq]; try rfl) (.v _)) .nil)) (natOf_c h19) ?_
        refine pu rfl (by simp only [go_sem, Nat.reduceBEq]; try with_reducible rfl) ?_
        obtain ⟨⟨r22, r23⟩, h21, hm⟩ := bnd hm
        refine ARun.callQ (r := .tup [.sl (r22.flatMap (ci .u32)) r22.length false, .v (.int .i64 r23)]) (by decide) (by try simp only [go_sem, Nat.reduceBEq]; try rfl) fb19 (fun H => (.cons (td (by try simp only [go_sem, Nat.reduceBEq]; try rfl) ((CFi .u32).sl _ _ _)) (.cons (td (by try simp only [go_sem, Nat.reduceBEq]; try rfl) ((CFi .u32).sl _ _ _)) .nil))) (natMul_c h21) ?_
        iterate 4 refine pu rfl (by simp only [go_sem, Nat.reduceBEq]; try with_reducible rfl) ?_
        refine fs ?_
        refine AWp.ret ?_
        cases hm
        exact ret2D (.inr rfl) Try.results11 (td (by try simp only [go_sem, Nat.reduceBEq]; try rfl) ((CFi .u32).sl _ _ _)) (td (by try simp only [go_sem, Nat.reduceBEq]; try rfl) (.v _))
def plWhole_m (l_0 : Int) (r_1 : Int) : Option ((List Int) × Int) :=
  ((plShape_m l_0 r_1).bind fun r2 =>
  (bif (!r2) then
    some ([], 1)
  else
    ((plPower_m 8 r_1).bind fun r4 =>
    ((natOf_m (IntKind.u64.wrap (2 * r4))).bind fun r6 =>
    ((natPow_m r6 l_0).bind fun ⟨r8, r9⟩ =>
    some (r8, r9))))))
theorem plWhole_c {l_0 : Int} {r_1 : Int} {r : (List Int) × Int} (hm : plWhole_m l_0 r_1 = some r) : PureC Try.prog 12 [.v (.int .i64 l_0), .v (.int .i64 r_1)] (.tup [.sl (r.1.flatMap (ci .u32)) r.1.length false, .v (.int .i64 r.2)]) := by
  refine PureC.of_body Try.func12 rfl ?_
  simp only [Try.ntmps12, List.length_cons, List.length_nil, Nat.reduceAdd, Nat.reduceSub, empty_eq]
  unfold plWhole_m at hm
  refine sr (N' := 64) rfl ?_
  iterate 2 refine pu rfl (by simp only [go_sem, Nat.reduceBEq]; try with_reducible rfl) ?_
  refine fs ?_
  refine AWp.seq' ?_
  refine sr (N' := 128) rfl ?_
  iterate 2 refine pu rfl (by simp only [go_sem, Nat.reduceBEq]; try with_reducible rfl) ?_
  obtain ⟨r2, h1, hm⟩ := bnd hm
  refine ARun.callQ (r := .v (.bool r2)) (by decide) (by try simp only [go_sem, Nat.reduceBEq]; try rfl) fb23 (fun H => (.cons (td (by try simp only [go_sem, Nat.reduceBEq]; try rfl) (.v _)) (.cons (td (by try simp only [go_sem, Nat.reduceBEq]; try rfl) (.v _)) .nil))) (plShape_c h1) ?_
  refine pu rfl (by simp only [go_sem, Nat.reduceBEq]; try with_reducible rfl) ?_
  refine fs ?_
  refine AWp.condM hm (by try simp only [go_sem, Nat.reduceBEq]; try rfl) (fun _ hm => ?_) (fun _ hm => ?_)
  · refine sr (N' := 192) rfl ?_
    iterate 2 refine pu rfl (by simp only [go_sem, Nat.reduceBEq]; try with_reducible rfl) ?_
    refine fs ?_
    refine AWp.ret ?_
    refine retSeq ?_
    cases hm
    exact ret2D (.inr rfl) Try.results12 (tdn (by try simp only [go_sem, Nat.reduceBEq]; try rfl)) (td (by try simp only [go_sem, Nat.reduceBEq]; try rfl) (.v _))
  · refine AWp.skip ?_
    refine normSeq ?_
    refine sr (N' := 192) rfl ?_
    refine pu rfl (by simp only [go_sem, Nat.reduceBEq]; try with_reducible rfl) ?_
    obtain ⟨r4, h3, hm⟩ := bnd hm
    refine ARun.callQ (r := .v (.int .u64 r4)) (by decide) (by try simp only [go_sem, Nat.reduceBEq]; try rfl) fb24 (fun H => (.cons (td (by try simp only [go_sem, Nat.reduceBEq]; try rfl) (.v _)) (.cons (td (by try simp only [go_sem, Nat.reduceBEq]; try rfl) (.v _)) .nil))) (plPower_c h3) ?_
    refine pu rfl (by simp only [go_sem, Nat.reduceBEq]; try with_reducible rfl) ?_
    obtain ⟨r6, h5, hm⟩ := bnd hm
    refine ARun.callQ (r := .sl (r6.flatMap (ci .u32)) r6.length false) (by decide) (by try simp only [go_sem, Nat.reduceBEq]; try rfl) fb20 (fun H => (.cons (td (by try simp only [go_sem, Nat.reduceBEq]; try rfl) (.v _)) .nil)) (natOf_c h5) ?_
    refine pu rfl (by simp only [go_sem, Nat.reduceBEq]; try with_reducible rfl) ?_
    obtain ⟨⟨r8, r9⟩, h7, hm⟩ := bnd hm
    refine ARun.callQ (r := .tup [.sl (r8.flatMap (ci .u32)) r8.length false, .v (.int .i64 r9)]) (by decide) (by try simp only [go_sem, Nat.reduceBEq]; try rfl) fb25 (fun H => (.cons (td (by try simp only [go_sem, Nat.reduceBEq]; try rfl) ((CFi .u32).sl _ _ _)) (.cons (td (by try simp only [go_sem, Nat.reduceBEq]; try rfl) (.v _)) .nil))) (natPow_c h7) ?_
    iterate 4 refine pu rfl (by simp only [go_sem, Nat.reduceBEq]; try with_reducible rfl) ?_
    refine fs ?_
    refine AWp.ret ?_
    cases hm
    exact ret2D (.inr rfl) Try.results12 (td (by try simp only [go_sem, Nat.reduceBEq]; try rfl) ((CFi .u32).sl _ _ _)) (td (by try simp only [go_sem, Nat.reduceBEq]; try rfl) (.v _))
def plEnough_m (n_0 : Int) (m_1 : Int) (k_2 : Int) (l_3 : Int) (r_4 : Int) : Option (Bool) :=
  ((plCounts_m n_0 m_1).bind fun r2 =>
  ((gopt ((!r2) == false) false (plBits_m k_2)).bind fun r4 =>
  ((gopt (((!r2) || (!r4)) == false) false (plShape_m l_3 r_4)).bind fun r6 =>
  (bif (((!r2) || (!r4)) || (!r6)) then
    some false
  else
    ((plWeight_m n_0 m_1 l_3 r_4).bind fun ⟨r8, r9⟩ =>
    (bif (r9 != 0) then
      some false
    else
      ((plWhole_m l_3 r_4).bind fun ⟨r11, r12⟩ =>
      (bif (r12 != 0) then
        some false
      else
        ((natOf_m 2).bind fun r14 =>
        ((natPow_m r14 k_2).bind fun ⟨r16, r17⟩ =>
        (bif (r17 != 0) then
          some false
        else
          ((natMul_m r8 r16).bind fun ⟨r19, r20⟩ =>
          ((gopt ((r20 == 0) == true) 0 (natCmp_m r19 r11)).bind fun r22 =>
          some ((r20 == 0) && (decide (r22 ≤ 0))))))))))))))))
theorem plEnough_c {n_0 : Int} {m_1 : Int} {k_2 : Int} {l_3 : Int} {r_4 : Int} {r : Bool} (hm : plEnough_m n_0 m_1 k_2 l_3 r_4 = some r) : PureC Try.prog 15 [.v (.int .i64 n_0), .v (.int .i64 m_1), .v (.int .i64 k_2), .v (.int .i64 l_3), .v (.int .i64 r_4)] (.v (.bool r)) := by
  refine PureC.of_body Try.func15 rfl ?_
  simp only [Try.ntmps15, List.length_cons, List.length_nil, Nat.reduceAdd, Nat.reduceSub, empty_eq]
  unfold plEnough_m at hm
  refine sr (N' := 64) rfl ?_
  refine pu rfl (by simp only [go_sem, Nat.reduceBEq]; try with_reducible rfl) ?_
  refine fs ?_
  refine AWp.seq' ?_
  refine sr (N' := 128) rfl ?_
  iterate 2 refine pu rfl (by simp only [go_sem, Nat.reduceBEq]; try with_reducible rfl) ?_
  obtain ⟨r2, h1, hm⟩ := bnd hm
  refine ARun.callQ (r := .v (.bool r2)) (by decide) (by try simp only [go_sem, Nat.reduceBEq]; try rfl) fb22 (fun H => (.cons (td (by try simp only [go_sem, Nat.reduceBEq]; try rfl) (.v _)) (.cons (td (by try simp only [go_sem, Nat.reduceBEq]; try rfl) (.v _)) .nil))) (plCounts_c h1) ?_
  iterate 3 (first | refine pu rfl (by simp only [go_sem, Nat.reduceBEq]; try with_reducible rfl) ?_ | refine pg rfl rfl (by simp only [go_sem, Nat.reduceBEq]; try with_reducible rfl) (by intro hb; simp only [go_sem, Nat.reduceBEq, hb, Bool.true_and]; try with_reducible rfl) ?_)
  obtain ⟨r4, h3, hm⟩ := bnd hm
  refine ARun.callQG (r := .v (.bool r4)) (by decide) rfl (by simp only [go_sem, Nat.reduceBEq]; try with_reducible rfl) (by try simp only [go_sem, Nat.reduceBEq]; try rfl) fb28 (fun hb H => (.cons (td (by try simp only [go_sem, Nat.reduceBEq, hb, Bool.true_and]; try rfl) (.v _)) .nil)) (fun hb => plBits_c (gopt_t h3 hb)) ?_
  iterate 5 (first | refine pu rfl (by simp only [go_sem, Nat.reduceBEq]; try with_reducible rfl) ?_ | refine pg rfl rfl (by simp only [go_sem, Nat.reduceBEq]; try with_reducible rfl) (by intro hb; simp only [go_sem, Nat.reduceBEq, hb, Bool.true_and]; try with_reducible rfl) ?_)
  obtain ⟨r6, h5, hm⟩ := bnd hm
  refine ARun.callQG (r := .v (.bool r6)) (by decide) rfl (by simp only [go_sem, Nat.reduceBEq]; try with_reducible rfl) (by try simp only [go_sem, Nat.reduceBEq]; try rfl) fb23 (fun hb H => (.cons (td (by try simp only [go_sem, Nat.reduceBEq, hb, Bool.true_and]; try rfl) (.v _)) (.cons (td (by try simp only [go_sem, Nat.reduceBEq, hb, Bool.true_and]; try rfl) (.v _)) .nil))) (fun hb => plShape_c (gopt_t h5 hb)) ?_
  iterate 2 (first | refine pu rfl (by simp only [go_sem, Nat.reduceBEq]; try with_reducible rfl) ?_ | refine pg rfl rfl (by simp only [go_sem, Nat.reduceBEq]; try with_reducible rfl) (by intro hb; simp only [go_sem, Nat.reduceBEq, hb, Bool.true_and]; try with_reducible rfl) ?_)
  refine fs ?_
  refine AWp.condM hm (by try simp only [go_sem, Nat.reduceBEq]; try rfl) (fun _ hm => ?_) (fun _ hm => ?_)
  · refine sr (N' := 192) rfl ?_
    refine pu rfl (by simp only [go_sem, Nat.reduceBEq]; try with_reducible rfl) ?_
    refine fs ?_
    refine AWp.ret ?_
    refine retSeq ?_
    cases hm
    exact ret1D (.inr rfl) Try.results15 (td (by try simp only [go_sem, Nat.reduceBEq]; try rfl) (.v _))
  · refine AWp.skip ?_
    refine normSeq ?_
    refine sr (N' := 192) rfl ?_
    iterate 4 refine pu rfl (by simp only [go_sem, Nat.reduceBEq]; try with_reducible rfl) ?_
    obtain ⟨⟨r8, r9⟩, h7, hm⟩ := bnd hm
    refine ARun.callQ (r := .tup [.sl (r8.flatMap (ci .u32)) r8.length false, .v (.int .i64 r9)]) (by decide) (by try simp only [go_sem, Nat.reduceBEq]; try rfl) fb11 (fun H => (.cons (td (by try simp only [go_sem, Nat.reduceBEq]; try rfl) (.v _)) (.cons (td (by try simp only [go_sem, Nat.reduceBEq]; try rfl) (.v _)) (.cons (td (by try simp only [go_sem, Nat.reduceBEq]; try rfl) (.v _)) (.cons (td (by try simp only [go_sem, Nat.reduceBEq]; try rfl) (.v _)) .nil))))) (plWeight_c h7) ?_
    iterate 5 refine pu rfl (by simp only [go_sem, Nat.reduceBEq]; try with_reducible rfl) ?_
    refine fs ?_
    refine AWp.seq' ?_
    refine sr (N' := 256) rfl ?_
    iterate 2 refine pu rfl (by simp only [go_sem, Nat.reduceBEq]; try with_reducible rfl) ?_
    refine fs ?_
    refine AWp.condM hm (by try simp only [go_sem, Nat.reduceBEq]; try rfl) (fun _ hm => ?_) (fun _ hm => ?_)
    · refine sr (N' := 320) rfl ?_
      refine pu rfl (by simp only [go_sem, Nat.reduceBEq]; try with_reducible rfl) ?_
      refine fs ?_
      refine AWp.ret ?_
      refine retSeq ?_
      cases hm
      exact ret1D (.inr rfl) Try.results15 (td (by try simp only [go_sem, Nat.reduceBEq]; try rfl) (.v _))
    · refine AWp.skip ?_
      refine normSeq ?_
      refine sr (N' := 320) rfl ?_
      iterate 2 refine pu rfl (by simp only [go_sem, Nat.reduceBEq]; try with_reducible rfl) ?_
      obtain ⟨⟨r11, r12⟩, h10, hm⟩ := bnd hm
      refine ARun.callQ (r := .tup [.sl (r11.flatMap (ci .u32)) r11.length false, .v (.int .i64 r12)]) (by decide) (by try simp only [go_sem, Nat.reduceBEq]; try rfl) fb12 (fun H => (.cons (td (by try simp only [go_sem, Nat.reduceBEq]; try rfl) (.v _)) (.cons (td (by try simp only [go_sem, Nat.reduceBEq]; try rfl) (.v _)) .nil))) (plWhole_c h10) ?_
      iterate 5 refine pu rfl (by simp only [go_sem, Nat.reduceBEq]; try with_reducible rfl) ?_
      refine fs ?_
      refine AWp.seq' ?_
      refine sr (N' := 384) rfl ?_
      iterate 2 refine pu rfl (by simp only [go_sem, Nat.reduceBEq]; try with_reducible rfl) ?_
      refine fs ?_
      refine AWp.condM hm (by try simp only [go_sem, Nat.reduceBEq]; try rfl) (fun _ hm => ?_) (fun _ hm => ?_)
      · refine sr (N' := 448) rfl ?_
        refine pu rfl (by simp only [go_sem, Nat.reduceBEq]; try with_reducible rfl) ?_
        refine fs ?_
        refine AWp.ret ?_
        refine retSeq ?_
        cases hm
        exact ret1D (.inr rfl) Try.results15 (td (by try simp only [go_sem, Nat.reduceBEq]; try rfl) (.v _))
      · refine AWp.skip ?_
        refine normSeq ?_
        refine sr (N' := 448) rfl ?_
        obtain ⟨r14, h13, hm⟩ := bnd hm
        refine ARun.callQ (r := .sl (r14.flatMap (ci .u32)) r14.length false) (by decide) (by try simp only [go_sem, Nat.reduceBEq]; try rfl) fb20 (fun H => (.cons (td (by try simp only [go_sem, Nat.reduceBEq]; try rfl) (.v _)) .nil)) (natOf_c h13) ?_
        refine pu rfl (by simp only [go_sem, Nat.reduceBEq]; try with_reducible rfl) ?_
        obtain ⟨⟨r16, r17⟩, h15, hm⟩ := bnd hm
        refine ARun.callQ (r := .tup [.sl (r16.flatMap (ci .u32)) r16.length false, .v (.int .i64 r17)]) (by decide) (by try simp only [go_sem, Nat.reduceBEq]; try rfl) fb25 (fun H => (.cons (td (by try simp only [go_sem, Nat.reduceBEq]; try rfl) ((CFi .u32).sl _ _ _)) (.cons (td (by try simp only [go_sem, Nat.reduceBEq]; try rfl) (.v _)) .nil))) (natPow_c h15) ?_
        iterate 5 refine pu rfl (by simp only [go_sem, Nat.reduceBEq]; try with_reducible rfl) ?_
        refine fs ?_
        refine AWp.seq' ?_
        refine sr (N' := 512) rfl ?_
        iterate 2 refine pu rfl (by simp only [go_sem, Nat.reduceBEq]; try with_reducible rfl) ?_
        refine fs ?_
        refine AWp.condM hm (by try simp only [go_sem, Nat.reduceBEq]; try rfl) (fun _ hm => ?_) (fun _ hm => ?_)
        · refine sr (N' := 576) rfl ?_
          refine pu rfl (by simp only [go_sem, Nat.reduceBEq]; try with_reducible rfl) ?_
          refine fs ?_
          refine AWp.ret ?_
          refine retSeq ?_
          cases hm
          exact ret1D (.inr rfl) Try.results15 (td (by try simp only [go_sem, Nat.reduceBEq]; try rfl) (.v _))
        · refine AWp.skip ?_
          refine normSeq ?_
          refine sr (N' := 576) rfl ?_
          iterate 2 refine pu rfl (by simp only [go_sem, Nat.reduceBEq]; try with_reducible rfl) ?_
          obtain ⟨⟨r19, r20⟩, h18, hm⟩ := bnd hm
          refine ARun.callQ (r := .tup [.sl (r19.flatMap (ci .u32)) r19.length false, .v (.int .i64 r20)]) (by decide) (by try simp only [go_sem, Nat.reduceBEq]; try rfl) fb19 (fun H => (.cons (td (by try simp only [go_sem, Nat.reduceBEq]; try rfl) ((CFi .u32).sl _ _ _)) (.cons (td (by try simp only [go_sem, Nat.reduceBEq]; try rfl) ((CFi .u32).sl _ _ _)) .nil))) (natMul_c h18) ?_
          iterate 5 refine pu rfl (by simp only [go_sem, Nat.reduceBEq]; try with_reducible rfl) ?_
          refine fs ?_
          refine sr (N' := 640) rfl ?_
          iterate 5 (first | refine pu rfl (by simp only [go_sem, Nat.reduceBEq]; try with_reducible rfl) ?_ | refine pg rfl rfl (by simp only [go_sem, Nat.reduceBEq]; try with_reducible rfl) (by intro hb; simp only [go_sem, Nat.reduceBEq, hb, Bool.true_and]; try with_reducible rfl) ?_)
          obtain ⟨r22, h21, hm⟩ := bnd hm
          refine ARun.callQG (r := .v (.int .i64 r22)) (by decide) rfl (by simp only [go_sem, Nat.reduceBEq]; try with_reducible rfl) (by try simp only [go_sem, Nat.reduceBEq]; try rfl) fb29 (fun hb H => (.cons (td (by try simp only [go_sem, Nat.reduceBEq, hb, Bool.true_and]; try rfl) ((CFi .u32).sl _ _ _)) (.cons (td (by try simp only [go_sem, Nat.reduceBEq, hb, Bool.true_and]; try rfl) ((CFi .u32).sl _ _ _)) .nil))) (fun hb => natCmp_c (gopt_t h21 hb)) ?_
          iterate 3 (first | refine pu rfl (by simp only [go_sem, Nat.reduceBEq]; try with_reducible rfl) ?_ | refine pg rfl rfl (by simp only [go_sem, Nat.reduceBEq]; try with_reducible rfl) (by intro hb; simp only [go_sem, Nat.reduceBEq, hb, Bool.true_and]; try with_reducible rfl) ?_)
          refine fs ?_
          refine AWp.ret ?_
          cases hm
          exact ret1D (.inr rfl) Try.results15 (td (by try simp only [go_sem, Nat.reduceBEq]; try rfl) (.v _))
def plPlan_B2 (rec1 : Int → Int → Int → GConfig → Int → Option (GConfig × Int)) (rec2 : Int → Int → Int → GConfig → Int → Int → Option (GConfig × Int)) (n_0 : Int) (m_1 : Int) (k_2 : Int) (t6 : GConfig) (l_8 : Int) (r_9 : Int) : Option (GConfig × Int) :=
  (bif (decide (r_9 ≤ 8)) then
    ((plEnough_m n_0 m_1 k_2 l_8 r_9).bind fun r6 =>
    (bif r6 then
      some ((GConfig.mk n_0 l_8 r_9), 0)
    else
      rec2 n_0 m_1 k_2 t6 l_8 (IntKind.i64.wrap (r_9 + 1))))
  else
    rec1 n_0 m_1 k_2 t6 (IntKind.i64.wrap (l_8 + 1)))
def plPlan_L2 (rec1 : Int → Int → Int → GConfig → Int → Option (GConfig × Int)) : Nat → Int → Int → Int → GConfig → Int → Int → Option (GConfig × Int)
  | 0 => fun _ _ _ _ _ _ => none
  | n + 1 => plPlan_B2 rec1 (plPlan_L2 rec1 n)
def plPlan_B1 (rec1 : Int → Int → Int → GConfig → Int → Option (GConfig × Int)) (n_0 : Int) (m_1 : Int) (k_2 : Int) (t6 : GConfig) (l_8 : Int) : Option (GConfig × Int) :=
  (bif (decide (l_8 ≤ 16)) then
    plPlan_L2 rec1 FUEL n_0 m_1 k_2 t6 l_8 1
  else
    some ((GConfig.mk 0 0 0), 6))
def plPlan_L1 : Nat → Int → Int → Int → GConfig → Int → Option (GConfig × Int)
  | 0 => fun _ _ _ _ _ => none
  | n + 1 => plPlan_B1 (plPlan_L1 n)
def plPlan_m (n_0 : Int) (m_1 : Int) (k_2 : Int) : Option (GConfig × Int) :=
  ((plCounts_m n_0 m_1).bind fun r2 =>
  ((gopt ((!r2) == false) false (plBits_m k_2)).bind fun r4 =>
  (bif ((!r2) || (!r4)) then
    some ((GConfig.mk 0 0 0), 1)
  else
    plPlan_L1 FUEL n_0 m_1 k_2 (GConfig.mk 0 0 0) 1)))
theorem plPlan_c {n_0 : Int} {m_1 : Int} {k_2 : Int} {r : GConfig × Int} (hm : plPlan_m n_0 m_1 k_2 = some r) : PureC Try.prog 18 [.v (.int .i64 n_0), .v (.int .i64 m_1), .v (.int .i64 k_2)] (.tup [.agg [.v (.int .i64 r.1.N), .v (.int .i64 r.1.L), .v (.int .i64 r.1.R)], .v (.int .i64 r.2)]) := by
  refine PureC.of_body Try.func18 rfl ?_
  simp only [Try.ntmps18, List.length_cons, List.length_nil, Nat.reduceAdd, Nat.reduceSub, empty_eq]
  unfold plPlan_m at hm
  refine sr (N' := 64) rfl ?_
  refine hp (id := 0) rfl rfl (aheap_alloc' zc34 (by simp only [isFresh_upd, isFresh_no, Nat.reduceBEq, cond_true, cond_false])) ?_
  refine pu rfl (by simp only [go_sem, Nat.reduceBEq]; try with_reducible rfl) ?_
  refine fs ?_
  refine AWp.seq' ?_
  refine sr (N' := 128) rfl ?_
  iterate 2 refine pu rfl (by simp only [go_sem, Nat.reduceBEq]; try with_reducible rfl) ?_
  obtain ⟨r2, h1, hm⟩ := bnd hm
  refine ARun.callQ (r := .v (.bool r2)) (by decide) (by try simp only [go_sem, Nat.reduceBEq]; try rfl) fb22 (fun H => (.cons (td (by try simp only [go_sem, Nat.reduceBEq]; try rfl) (.v _)) (.cons (td (by try simp only [go_sem, Nat.reduceBEq]; try rfl) (.v _)) .nil))) (plCounts_c h1) ?_
  iterate 3 (first | refine pu rfl (by simp only [go_sem, Nat.reduceBEq]; try with_reducible rfl) ?_ | refine pg rfl rfl (by simp only [go_sem, Nat.reduceBEq]; try with_reducible rfl) (by intro hb; simp only [go_sem, Nat.reduceBEq, hb, Bool.true_and]; try with_reducible rfl) ?_)
  obtain ⟨r4, h3, hm⟩ := bnd hm
  refine ARun.callQG (r := .v (.bool r4)) (by decide) rfl (by simp only [go_sem, Nat.reduceBEq]; try with_reducible rfl) (by try simp only [go_sem, Nat.reduceBEq]; try rfl) fb28 (fun hb H => (.cons (td (by try simp only [go_sem, Nat.reduceBEq, hb, Bool.true_and]; try rfl) (.v _)) .nil)) (fun hb => plBits_c (gopt_t h3 hb)) ?_
  iterate 2 (first | refine pu rfl (by simp only [go_sem, Nat.reduceBEq]; try with_reducible rfl) ?_ | refine pg rfl rfl (by simp only [go_sem, Nat.reduceBEq]; try with_reducible rfl) (by intro hb; simp only [go_sem, Nat.reduceBEq, hb, Bool.true_and]; try with_reducible rfl) ?_)
  refine fs ?_
  refine AWp.condM hm (by try simp only [go_sem, Nat.reduceBEq]; try rfl) (fun _ hm => ?_) (fun _ hm => ?_)
  · refine sr (N' := 192) rfl ?_
    refine pu rfl (by simp only [go_sem, Nat.reduceBEq]; exact (by kernel_rfl : abuild Try.prog 34 [] = some (.agg [.v (.int .i64 0), .v (.int .i64 0), .v (.int .i64 0)]))) ?_
    refine ARun.heap0 (id := 129) rfl (ah_var (ys := [.v (.int .i64 0), .v (.int .i64 0), .v (.int .i64 0)]) sz34 (by try simp only [go_sem, Nat.reduceBEq]; try rfl) (by try simp only [go_sem, Nat.reduceBEq]; try rfl) (by simp only [upd_beq, Nat.reduceBEq, cond_true, cond_false]; try rfl) rfl (Nat.le_of_ble_eq_true rfl) (by first | rfl | (simp [AV.one]; done)) rfl) ?_
    refine pu rfl (by simp only [go_sem, Nat.reduceBEq]; try with_reducible rfl) ?_
    refine fs ?_
    refine AWp.ret ?_
    refine retSeq ?_
    cases hm
    exact retL (.inr rfl) (by rw [Try.results18]) (.cell (ap_ldv' (by try simp only [go_sem, Nat.reduceBEq]; try rfl) (by simp only [upd_beq, Nat.reduceBEq, cond_true, cond_false]; try rfl) (by simp only [go_sem, Nat.reduceBEq]; try with_reducible rfl)) (.tmp (by try simp only [go_sem, Nat.reduceBEq]; try rfl) .nil)) rfl (tdt (.cons (td rfl (.agg _ (CFGConfig.dat (GConfig.mk 0 0 0)))) (.cons (td rfl (.v _)) .nil)))
  · refine AWp.skip ?_
    refine normSeq ?_
    refine AWp.seq' ?_
    refine sr (N' := 192) rfl ?_
    refine pu rfl (by simp only [go_sem, Nat.reduceBEq]; try with_reducible rfl) ?_
    refine fs ?_
    refine AWp.block ?_
    refine AWp.loopM (fun m s => ∃ (n_0 : Int) (m_1 : Int) (k_2 : Int) (t6 : GConfig) (l_8 : Int), s = (⟨39, (fset (fset (fset (fset (fset (fun _ => AV.any) 0 (.v (.int .i64 n_0))) 1 (.v (.int .i64 m_1))) 2 (.v (.int .i64 k_2))) 6 (.adr 1 0)) 8 (.v (.int .i64 l_8))), ⟨(upd nofresh 1 (.cells 1 [.v (.int .i64 t6.N), .v (.int .i64 t6.L), .v (.int .i64 t6.R)] 0)), 64⟩⟩ : St) ∧ plPlan_L1 m n_0 m_1 k_2 t6 l_8 = some r) FUEL ?_ ?_ ?_
    · rintro s ⟨_, _, _, _, _, _, h⟩
      cases h
    · refine ⟨_, ?_, n_0, m_1, k_2, (GConfig.mk 0 0 0), 1, rfl, hm⟩
      exact le_canon (fun j => bif j == 1 then 0 else 0) (wk_fset _ _ (wk_data (by try simp only [go_sem, Nat.reduceBEq]; try rfl) (.v _)) (wk_fset _ _ (wk_adr (by try simp only [go_sem, Nat.reduceBEq]; try rfl) rfl (by simp [upd])) (wk_fset _ _ (wk_data (by try simp only [go_sem, Nat.reduceBEq]; try rfl) (.v _)) (wk_fset _ _ (wk_data (by try simp only [go_sem, Nat.reduceBEq]; try rfl) (.v _)) (wk_fset _ _ (wk_data (by try simp only [go_sem, Nat.reduceBEq]; try rfl) (.v _)) wk_none))))) (heapWk_of _ (entWk_upd (entWk_data (by simp only [upd_beq, Nat.reduceBEq, cond_true, cond_false]; try rfl) (Nat.le_refl _) (Nat.zero_le _) (CFGConfig.dat (GConfig.mk 0 0 0))) entWk_none) (by repeat' (first | exact inj_none | exact liv_none | refine inj_upd ?_ ?_ | refine liv_upd ?_ ?_ | exact .inl rfl | exact .inr (by decide))))
    · rintro n1 s ⟨n_0, m_1, k_2, t6, l_8, rfl, hm⟩
      replace hm : plPlan_B1 (plPlan_L1 n1) n_0 m_1 k_2 t6 l_8 = some r := hm
      unfold plPlan_B1 at hm
      refine AWp.seq' ?_
      refine sr (N' := 128) rfl ?_
      iterate 2 refine pu rfl (by simp only [go_sem, Nat.reduceBEq]; try with_reducible rfl) ?_
      refine fs ?_
      refine AWp.condM hm (by try simp only [go_sem, Nat.reduceBEq]; try rfl) (fun _ hm => ?_) (fun _ hm => ?_)
      · refine AWp.skip ?_
        refine normSeq ?_
        refine AWp.seq' ?_
        refine AWp.block ?_
        refine sr (N' := 192) rfl ?_
        refine pu rfl (by simp only [go_sem, Nat.reduceBEq]; try with_reducible rfl) ?_
        refine fs ?_
        refine AWp.block ?_
        refine AWp.loopM (fun m s => ∃ (n_0 : Int) (m_1 : Int) (k_2 : Int) (t6 : GConfig) (l_8 : Int) (r_9 : Int), s = (⟨39, (fset (fset (fset (fset (fset (fset (fun _ => AV.any) 0 (.v (.int .i64 n_0))) 1 (.v (.int .i64 m_1))) 2 (.v (.int .i64 k_2))) 6 (.adr 1 0)) 8 (.v (.int .i64 l_8))) 9 (.v (.int .i64 r_9))), ⟨(upd nofresh 1 (.cells 1 [.v (.int .i64 t6.N), .v (.int .i64 t6.L), .v (.int .i64 t6.R)] 0)), 64⟩⟩ : St) ∧ plPlan_L2 (plPlan_L1 n1) m n_0 m_1 k_2 t6 l_8 r_9 = some r) FUEL ?_ ?_ ?_
        · rintro s ⟨_, _, _, _, _, _, _, h⟩
          cases h
        · refine ⟨_, ?_, n_0, m_1, k_2, t6, l_8, 1, rfl, hm⟩
          exact le_canon (fun j => bif j == 1 then 1 else 0) (wk_fset _ _ (wk_data (by try simp only [go_sem, Nat.reduceBEq]; try rfl) (.v _)) (wk_fset _ _ (wk_data (by try simp only [go_sem, Nat.reduceBEq]; try rfl) (.v _)) (wk_fset _ _ (wk_adr (by try simp only [go_sem, Nat.reduceBEq]; try rfl) rfl (by simp [upd])) (wk_fset _ _ (wk_data (by try simp only [go_sem, Nat.reduceBEq]; try rfl) (.v _)) (wk_fset _ _ (wk_data (by try simp only [go_sem, Nat.reduceBEq]; try rfl) (.v _)) (wk_fset _ _ (wk_data (by try simp only [go_sem, Nat.reduceBEq]; try rfl) (.v _)) wk_none)))))) (heapWk_of _ (entWk_upd (entWk_data (by simp only [upd_beq, Nat.reduceBEq, cond_true, cond_false]; try rfl) (Nat.le_refl _) (Nat.zero_le _) (CFGConfig.dat t6)) entWk_none) (by repeat' (first | exact inj_none | exact liv_none | refine inj_upd ?_ ?_ | refine liv_upd ?_ ?_ | exact .inl rfl | exact .inr (by decide))))
        · rintro n2 s ⟨n_0, m_1, k_2, t6, l_8, r_9, rfl, hm⟩
          replace hm : plPlan_B2 (plPlan_L1 n1) (plPlan_L2 (plPlan_L1 n1) n2) n_0 m_1 k_2 t6 l_8 r_9 = some r := hm
          unfold plPlan_B2 at hm
          refine AWp.seq' ?_
          refine sr (N' := 128) rfl ?_
          iterate 2 refine pu rfl (by simp only [go_sem, Nat.reduceBEq]; try with_reducible rfl) ?_
          refine fs ?_
          refine AWp.condM hm (by try simp only [go_sem, Nat.reduceBEq]; try rfl) (fun _ hm => ?_) (fun _ hm => ?_)
          · refine AWp.skip ?_
            refine normSeq ?_
            refine AWp.seq' ?_
            refine AWp.block ?_
            refine sr (N' := 192) rfl ?_
            iterate 5 refine pu rfl (by simp only [go_sem, Nat.reduceBEq]; try with_reducible rfl) ?_
            obtain ⟨r6, h5, hm⟩ := bnd hm
            refine ARun.callQ (r := .v (.bool r6)) (by decide) (by try simp only [go_sem, Nat.reduceBEq]; try rfl) fb15 (fun H => (.cons (td (by try simp only [go_sem, Nat.reduceBEq]; try rfl) (.v _)) (.cons (td (by try simp only [go_sem, Nat.reduceBEq]; try rfl) (.v _)) (.cons (td (by try simp only [go_sem, Nat.reduceBEq]; try rfl) (.v _)) (.cons (td (by try simp only [go_sem, Nat.reduceBEq]; try rfl) (.v _)) (.cons (td (by try simp only [go_sem, Nat.reduceBEq]; try rfl) (.v _)) .nil)))))) (plEnough_c h5) ?_
            refine fs ?_
            refine AWp.condM hm (by try simp only [go_sem, Nat.reduceBEq]; try rfl) (fun _ hm => ?_) (fun _ hm => ?_)
            · refine sr (N' := 256) rfl ?_
              iterate 3 refine pu rfl (by simp only [go_sem, Nat.reduceBEq]; try with_reducible rfl) ?_
              refine pu rfl (by simp only [go_sem, Nat.reduceBEq]; exact (by kernel_rfl : abuild Try.prog 34 [(0, .v (.int .i64 n_0)), (1, .v (.int .i64 l_8)), (2, .v (.int .i64 r_9))] = some (.agg [.v (.int .i64 n_0), .v (.int .i64 l_8), .v (.int .i64 r_9)]))) ?_
              refine ARun.heap0 (id := 196) rfl (ah_var (ys := [.v (.int .i64 n_0), .v (.int .i64 l_8), .v (.int .i64 r_9)]) sz34 (by try simp only [go_sem, Nat.reduceBEq]; try rfl) (by try simp only [go_sem, Nat.reduceBEq]; try rfl) (by simp only [upd_beq, Nat.reduceBEq, cond_true, cond_false]; try rfl) rfl (Nat.le_of_ble_eq_true rfl) (by first | rfl | (simp [AV.one]; done)) rfl) ?_
              refine pu rfl (by simp only [go_sem, Nat.reduceBEq]; try with_reducible rfl) ?_
              refine fs ?_
              refine AWp.ret ?_
              refine retIn ?_
              refine retSeq ?_
              refine retThen ?_
              refine retIn ?_
              refine retIn ?_
              refine retSeq ?_
              refine retThen ?_
              refine retIn ?_
              refine retSeq ?_
              cases hm
              exact retL (.inr rfl) (by rw [Try.results18]) (.cell (ap_ldv' (by try simp only [go_sem, Nat.reduceBEq]; try rfl) (by simp only [upd_beq, Nat.reduceBEq, cond_true, cond_false]; try rfl) (by simp only [go_sem, Nat.reduceBEq]; try with_reducible rfl)) (.tmp (by try simp only [go_sem, Nat.reduceBEq]; try rfl) .nil)) rfl (tdt (.cons (td rfl (.agg _ (CFGConfig.dat (GConfig.mk n_0 l_8 r_9)))) (.cons (td rfl (.v _)) .nil)))
            · refine AWp.skip ?_
              refine normIn ?_
              refine normSeq ?_
              refine AWp.reg 64 (N' := 256) rfl ?_
              iterate 3 refine pu rfl (by simp only [go_sem, Nat.reduceBEq]; try with_reducible rfl) ?_
              refine ARun.fin ?_
              refine normThen ?_
              refine ⟨_, ?_, n_0, m_1, k_2, t6, l_8, (IntKind.i64.wrap (r_9 + 1)), rfl, hm⟩
              exact le_canon (fun j => bif j == 1 then 1 else 0) (wk_fset _ _ (wk_data (by try simp only [go_sem, Nat.reduceBEq]; try rfl) (.v _)) (wk_fset _ _ (wk_data (by try simp only [go_sem, Nat.reduceBEq]; try rfl) (.v _)) (wk_fset _ _ (wk_adr (by try simp only [go_sem, Nat.reduceBEq]; try rfl) rfl (by simp [upd])) (wk_fset _ _ (wk_data (by try simp only [go_sem, Nat.reduceBEq]; try rfl) (.v _)) (wk_fset _ _ (wk_data (by try simp only [go_sem, Nat.reduceBEq]; try rfl) (.v _)) (wk_fset _ _ (wk_data (by try simp only [go_sem, Nat.reduceBEq]; try rfl) (.v _)) wk_none)))))) (heapWk_of _ (entWk_upd (entWk_data (by simp only [upd_beq, Nat.reduceBEq, cond_true, cond_false]; try rfl) (Nat.le_refl _) (Nat.zero_le _) (CFGConfig.dat t6)) entWk_none) (by repeat' (first | exact inj_none | exact liv_none | refine inj_upd ?_ ?_ | refine liv_upd ?_ ?_ | exact .inl rfl | exact .inr (by decide))))
          · refine AWp.exit ?_
            refine exitSeq ?_
            refine exitThen ?_
            refine exitHere ?_
            refine normIn ?_
            refine normSeq ?_
            refine AWp.reg 64 (N' := 192) rfl ?_
            iterate 3 refine pu rfl (by simp only [go_sem, Nat.reduceBEq]; try with_reducible rfl) ?_
            refine ARun.fin ?_
            refine normThen ?_
            refine ⟨_, ?_, n_0, m_1, k_2, t6, (IntKind.i64.wrap (l_8 + 1)), rfl, hm⟩
            exact le_canon (fun j => bif j == 1 then 1 else 0) (wk_fset _ _ (wk_data (by try simp only [go_sem, Nat.reduceBEq]; try rfl) (.v _)) (wk_fset _ _ (wk_adr (by try simp only [go_sem, Nat.reduceBEq]; try rfl) rfl (by simp [upd])) (wk_fset _ _ (wk_data (by try simp only [go_sem, Nat.reduceBEq]; try rfl) (.v _)) (wk_fset _ _ (wk_data (by try simp only [go_sem, Nat.reduceBEq]; try rfl) (.v _)) (wk_fset _ _ (wk_data (by try simp only [go_sem, Nat.reduceBEq]; try rfl) (.v _)) wk_none))))) (heapWk_of _ (entWk_upd (entWk_data (by simp only [upd_beq, Nat.reduceBEq, cond_true, cond_false]; try rfl) (Nat.le_refl _) (Nat.zero_le _) (CFGConfig.dat t6)) entWk_none) (by repeat' (first | exact inj_none | exact liv_none | refine inj_upd ?_ ?_ | refine liv_upd ?_ ?_ | exact .inl rfl | exact .inr (by decide))))
      · refine AWp.exit ?_
        refine exitSeq ?_
        refine exitThen ?_
        refine exitHere ?_
        refine normSeq ?_
        refine sr (N' := 192) rfl ?_
        refine pu rfl (by simp only [go_sem, Nat.reduceBEq]; exact (by kernel_rfl : abuild Try.prog 34 [] = some (.agg [.v (.int .i64 0), .v (.int .i64 0), .v (.int .i64 0)]))) ?_
        refine ARun.heap0 (id := 129) rfl (ah_var (ys := [.v (.int .i64 0), .v (.int .i64 0), .v (.int .i64 0)]) sz34 (by try simp only [go_sem, Nat.reduceBEq]; try rfl) (by try simp only [go_sem, Nat.reduceBEq]; try rfl) (by simp only [upd_beq, Nat.reduceBEq, cond_true, cond_false]; try rfl) rfl (Nat.le_of_ble_eq_true rfl) (by first | rfl | (simp [AV.one]; done)) rfl) ?_
        refine pu rfl (by simp only [go_sem, Nat.reduceBEq]; try with_reducible rfl) ?_
        refine fs ?_
        refine AWp.ret ?_
        cases hm
        exact retL (.inr rfl) (by rw [Try.results18]) (.cell (ap_ldv' (by try simp only [go_sem, Nat.reduceBEq]; try rfl) (by simp only [upd_beq, Nat.reduceBEq, cond_true, cond_false]; try rfl) (by simp only [go_sem, Nat.reduceBEq]; try with_reducible rfl)) (.tmp (by try simp only [go_sem, Nat.reduceBEq]; try rfl) .nil)) rfl (tdt (.cons (td rfl (.agg _ (CFGConfig.dat (GConfig.mk 0 0 0)))) (.cons (td rfl (.v _)) .nil)))
def rpPower_B1 (rec1 : List Int → Int → List Int → Int → Option ((List Int))) (a_0 : List Int) (n_1 : Int) (out_5 : List Int) (i_6 : Int) : Option ((List Int)) :=
  (bif (decide (i_6 < n_1)) then
    ((refMul_m out_5 a_0).bind fun r2 =>
    rec1 a_0 n_1 r2 (IntKind.i64.wrap (i_6 + 1)))
  else
    some out_5)
def rpPower_L1 : Nat → List Int → Int → List Int → Int → Option ((List Int))
  | 0 => fun _ _ _ _ => none
  | n + 1 => rpPower_B1 (rpPower_L1 n)
def rpPower_m (a_0 : List Int) (n_1 : Int) : Option ((List Int)) :=
  rpPower_L1 FUEL a_0 n_1 [1] 0
theorem rpPower_c {a_0 : List Int} {n_1 : Int} {r : (List Int)} (hm : rpPower_m a_0 n_1 = some r) : PureC Try.prog 26 [.sl (a_0.flatMap (ci .u32)) a_0.length false, .v (.int .i64 n_1)] (.sl (r.flatMap (ci .u32)) r.length false) := by
  refine PureC.of_body Try.func26 rfl ?_
  simp only [Try.ntmps26, List.length_cons, List.length_nil, Nat.reduceAdd, Nat.reduceSub, empty_eq]
  unfold rpPower_m at hm
  refine sr (N' := 64) rfl ?_
  refine pu rfl (by simp only [go_sem, Nat.reduceBEq]; try with_reducible rfl) ?_
  refine fs ?_
  refine sr (N' := 128) rfl ?_
  refine hp (id := 64) rfl rfl (ah_list (CFi .u32) (l := [1]) Try.underlying24 sz44 zc44 (by simp only [isFresh_upd, isFresh_no, Nat.reduceBEq, cond_true, cond_false]) (by decide) (by decide) (by decide) (by simp only [go_sem, Nat.reduceBEq]; try rfl) (by kernel_rfl)) ?_
  refine pu rfl (by simp only [go_sem, Nat.reduceBEq]; try with_reducible rfl) ?_
  refine fs ?_
  refine AWp.seq' ?_
  refine sr (N' := 192) rfl ?_
  refine pu rfl (by simp only [go_sem, Nat.reduceBEq]; try with_reducible rfl) ?_
  refine fs ?_
  refine AWp.block ?_
  refine AWp.loopM (fun m s => ∃ (a_0 : List Int) (n_1 : Int) (out_5 : List Int) (i_6 : Int), s = (⟨17, (fset (fset (fset (fset (fun _ => AV.any) 0 (.sl (a_0.flatMap (ci .u32)) a_0.length false)) 1 (.v (.int .i64 n_1))) 5 (.sl (out_5.flatMap (ci .u32)) out_5.length false)) 6 (.v (.int .i64 i_6))), ⟨nofresh, 64⟩⟩ : St) ∧ rpPower_L1 m a_0 n_1 out_5 i_6 = some r) FUEL ?_ ?_ ?_
  · rintro s ⟨_, _, _, _, _, h⟩
    cases h
  · refine ⟨_, ?_, a_0, n_1, [1], 0, rfl, hm⟩
    refine St.Le.trans (le_lock (CFi .u32) 5 64 (by try simp only [go_sem, Nat.reduceBEq]; try rfl) (by simp only [upd_beq, Nat.reduceBEq, cond_true, cond_false]; try rfl) (by first | rfl | omega)) ?_
    exact le_canon id (wk_fset _ _ (wk_data (by try simp only [go_sem, Nat.reduceBEq]; try rfl) (.v _)) (wk_fset _ _ (wk_data (by try simp only [go_sem, Nat.reduceBEq]; try rfl) ((CFi .u32).sl _ _ _)) (wk_fset _ _ (wk_data (by try simp only [go_sem, Nat.reduceBEq]; try rfl) (.v _)) (wk_fset _ _ (wk_data (by try simp only [go_sem, Nat.reduceBEq]; try rfl) ((CFi .u32).sl _ _ _)) wk_none)))) heapWk0
  · rintro n1 s ⟨a_0, n_1, out_5, i_6, rfl, hm⟩
    replace hm : rpPower_B1 (rpPower_L1 n1) a_0 n_1 out_5 i_6 = some r := hm
    unfold rpPower_B1 at hm
    refine AWp.seq' ?_
    refine sr (N' := 128) rfl ?_
    iterate 3 refine pu rfl (by simp only [go_sem, Nat.reduceBEq]; try with_reducible rfl) ?_
    refine fs ?_
    refine AWp.condM hm (by try simp only [go_sem, Nat.reduceBEq]; try rfl) (fun _ hm => ?_) (fun _ hm => ?_)
    · refine AWp.skip ?_
      refine normSeq ?_
      refine AWp.seq' ?_
      refine AWp.block ?_
      refine AWp.reg 64 (N' := 192) rfl ?_
      iterate 2 refine pu rfl (by simp only [go_sem, Nat.reduceBEq]; try with_reducible rfl) ?_
      obtain ⟨r2, h1, hm⟩ := bnd hm
      refine ARun.callQ (r := .sl (r2.flatMap (ci .u32)) r2.length false) (by decide) (by try simp only [go_sem, Nat.reduceBEq]; try rfl) fb27 (fun H => (.cons (td (by try simp only [go_sem, Nat.reduceBEq]; try rfl) ((CFi .u32).sl _ _ _)) (.cons (td (by try simp only [go_sem, Nat.reduceBEq]; try rfl) ((CFi .u32).sl _ _ _)) .nil))) (refMul_c h1) ?_
      refine pu rfl (by simp only [go_sem, Nat.reduceBEq]; try with_reducible rfl) ?_
      refine ARun.fin ?_
      refine normIn ?_
      refine normSeq ?_
      refine AWp.reg 64 (N' := 256) rfl ?_
      iterate 3 refine pu rfl (by simp only [go_sem, Nat.reduceBEq]; try with_reducible rfl) ?_
      refine ARun.fin ?_
      refine normThen ?_
      refine ⟨_, ?_, a_0, n_1, r2, (IntKind.i64.wrap (i_6 + 1)), rfl, hm⟩
      exact le_canon id (wk_fset _ _ (wk_data (by try simp only [go_sem, Nat.reduceBEq]; try rfl) (.v _)) (wk_fset _ _ (wk_data (by try simp only [go_sem, Nat.reduceBEq]; try rfl) ((CFi .u32).sl _ _ _)) (wk_fset _ _ (wk_data (by try simp only [go_sem, Nat.reduceBEq]; try rfl) (.v _)) (wk_fset _ _ (wk_data (by try simp only [go_sem, Nat.reduceBEq]; try rfl) ((CFi .u32).sl _ _ _)) wk_none)))) heapWk0
    · refine AWp.exit ?_
      refine exitSeq ?_
      refine exitThen ?_
      refine exitHere ?_
      refine normSeq ?_
      refine sr (N' := 192) rfl ?_
      iterate 2 refine pu rfl (by simp only [go_sem, Nat.reduceBEq]; try with_reducible rfl) ?_
      refine fs ?_
      refine AWp.ret ?_
      cases hm
      exact ret1D (.inr rfl) Try.results26 (td (by try simp only [go_sem, Nat.reduceBEq]; try rfl) ((CFi .u32).sl _ _ _))
def rpOf_m (n_0 : Int) : Option ((List Int)) :=
  ((refAdd_m [(IntKind.u32.wrap n_0)] [0, (IntKind.u32.wrap (shr .u64 n_0 32))]).bind fun r2 =>
  some r2)
theorem rpOf_c {n_0 : Int} {r : (List Int)} (hm : rpOf_m n_0 = some r) : PureC Try.prog 31 [.v (.int .u64 n_0)] (.sl (r.flatMap (ci .u32)) r.length false) := by
  refine PureC.of_body Try.func31 rfl ?_
  simp only [Try.ntmps31, List.length_cons, List.length_nil, Nat.reduceAdd, Nat.reduceSub, empty_eq]
  unfold rpOf_m at hm
  refine sr (N' := 64) rfl ?_
  refine pu rfl (by simp only [go_sem, Nat.reduceBEq]; try with_reducible rfl) ?_
  refine fs ?_
  refine sr (N' := 128) rfl ?_
  iterate 2 refine pu rfl (by simp only [go_sem, Nat.reduceBEq]; try with_reducible rfl) ?_
  refine hp (id := 66) rfl rfl (ah_list (CFi .u32) (l := [(IntKind.u32.wrap n_0)]) Try.underlying24 sz44 zc44 (by simp only [isFresh_upd, isFresh_no, Nat.reduceBEq, cond_true, cond_false]) (by decide) (by decide) (by decide) (by simp only [go_sem, Nat.reduceBEq]; try rfl) (by kernel_rfl)) ?_
  iterate 3 refine pu rfl (by simp only [go_sem, Nat.reduceBEq, Int.reduceEq, Int.reduceLE]; try with_reducible rfl) ?_
  refine hp (id := 70) rfl rfl (ah_list (CFi .u32) (l := [0, (IntKind.u32.wrap (shr .u64 n_0 32))]) Try.underlying24 sz44 zc44 (by simp only [isFresh_upd, isFresh_no, Nat.reduceBEq, cond_true, cond_false]) (by decide) (by decide) (by decide) (by simp only [go_sem, Nat.reduceBEq]; try rfl) (by kernel_rfl)) ?_
  obtain ⟨r2, h1, hm⟩ := bnd hm
  refine ARun.callL2 (r := .sl (r2.flatMap (ci .u32)) r2.length false) (id := 66) (jd := 70) (by decide) (by try simp only [go_sem, Nat.reduceBEq]; try rfl) fb30 (by decide) (by simp only [upd_beq, Nat.reduceBEq, cond_true, cond_false]; try rfl) (by simp only [upd_beq, Nat.reduceBEq, cond_true, cond_false]; try rfl) (.cons (tdl (CFi .u32) (by try simp only [go_sem, Nat.reduceBEq]; try rfl) (by simp only [upd_beq, Nat.reduceBEq, cond_true, cond_false]; try rfl) (by simp) (by first | rfl | omega)) (.cons (tdl (CFi .u32) (by try simp only [go_sem, Nat.reduceBEq]; try rfl) (by simp only [upd_beq, Nat.reduceBEq, cond_true, cond_false]; try rfl) (by simp) (by first | rfl | omega)) .nil)) (refAdd_c h1) ?_
  refine pu rfl (by simp only [go_sem, Nat.reduceBEq]; try with_reducible rfl) ?_
  refine fs ?_
  refine AWp.ret ?_
  cases hm
  exact ret1D (.inr rfl) Try.results31 (td (by try simp only [go_sem, Nat.reduceBEq]; try rfl) ((CFi .u32).sl _ _ _))
def rpMay_m (n_0 : Int) (m_1 : Int) (l_2 : Int) (r_3 : Int) : Option (Bool) :=
  some ((((((((decide (1 ≤ n_0)) && (decide (n_0 ≤ 1024))) && (decide (0 ≤ m_1))) && (decide (m_1 ≤ 2147483647))) && (decide (1 ≤ l_2))) && (decide (l_2 ≤ 16))) && (decide (1 ≤ r_3))) && (decide (r_3 ≤ 8)))
theorem rpMay_c {n_0 : Int} {m_1 : Int} {l_2 : Int} {r_3 : Int} {r : Bool} (hm : rpMay_m n_0 m_1 l_2 r_3 = some r) : PureC Try.prog 9 [.v (.int .i64 n_0), .v (.int .i64 m_1), .v (.int .i64 l_2), .v (.int .i64 r_3)] (.v (.bool r)) := by
  refine PureC.of_body Try.func9 rfl ?_
  simp only [Try.ntmps9, List.length_cons, List.length_nil, Nat.reduceAdd, Nat.reduceSub, empty_eq]
  unfold rpMay_m at hm
  refine sr (N' := 64) rfl ?_
  refine pu rfl (by simp only [go_sem, Nat.reduceBEq]; try with_reducible rfl) ?_
  refine fs ?_
  refine sr (N' := 128) rfl ?_
  iterate 31 (first | refine pu rfl (by simp only [go_sem, Nat.reduceBEq]; try with_reducible rfl) ?_ | refine pg rfl rfl (by simp only [go_sem, Nat.reduceBEq]; try with_reducible rfl) (by intro hb; simp only [go_sem, Nat.reduceBEq, hb, Bool.true_and]; try with_reducible rfl) ?_)
  refine fs ?_
  refine AWp.ret ?_
  cases hm
  exact ret1D (.inr rfl) Try.results9 (td (by try simp only [go_sem, Nat.reduceBEq]; try rfl) (.v _))
def rpWeight_m (n_0 : Int) (m_1 : Int) (l_2 : Int) (r_3 : Int) : Option ((List Int)) :=
  ((rpPower_m [8] r_3).bind fun r2 =>
  ((rpPower_m [7] r_3).bind fun r4 =>
  ((refAdd_m r2 r4).bind fun r6 =>
  ((rpOf_m (IntKind.u64.wrap n_0)).bind fun r8 =>
  ((rpOf_m (IntKind.u64.wrap m_1)).bind fun r10 =>
  ((refMul_m r8 r10).bind fun r12 =>
  ((rpPower_m r6 l_2).bind fun r14 =>
  ((refMul_m r12 r14).bind fun r16 =>
  some r16))))))))
theorem rpWeight_c {n_0 : Int} {m_1 : Int} {l_2 : Int} {r_3 : Int} {r : (List Int)} (hm : rpWeight_m n_0 m_1 l_2 r_3 = some r) : PureC Try.prog 16 [.v (.int .i64 n_0), .v (.int .i64 m_1), .v (.int .i64 l_2), .v (.int .i64 r_3)] (.sl (r.flatMap (ci .u32)) r.length false) := by
  refine PureC.of_body Try.func16 rfl ?_
  simp only [Try.ntmps16, List.length_cons, List.length_nil, Nat.reduceAdd, Nat.reduceSub, empty_eq]
  unfold rpWeight_m at hm
  refine sr (N' := 64) rfl ?_
  refine pu rfl (by simp only [go_sem, Nat.reduceBEq]; try with_reducible rfl) ?_
  refine fs ?_
  refine sr (N' := 128) rfl ?_
  refine hp (id := 64) rfl rfl (ah_list (CFi .u32) (l := [8]) Try.underlying24 sz44 zc44 (by simp only [isFresh_upd, isFresh_no, Nat.reduceBEq, cond_true, cond_false]) (by decide) (by decide) (by decide) (by simp only [go_sem, Nat.reduceBEq]; try rfl) (by kernel_rfl)) ?_
  refine pu rfl (by simp only [go_sem, Nat.reduceBEq]; try with_reducible rfl) ?_
  obtain ⟨r2, h1, hm⟩ := bnd hm
  refine ARun.callL1 (r := .sl (r2.flatMap (ci .u32)) r2.length false) (id := 64) (by decide) (by try simp only [go_sem, Nat.reduceBEq]; try rfl) fb26 (by simp only [upd_beq, Nat.reduceBEq, cond_true, cond_false]; try rfl) (.cons (tdl (CFi .u32) (by try simp only [go_sem, Nat.reduceBEq]; try rfl) (by simp only [upd_beq, Nat.reduceBEq, cond_true, cond_false]; try rfl) (by simp) (by first | rfl | omega)) (.cons (td (by try simp only [go_sem, Nat.reduceBEq]; try rfl) (.v _)) .nil)) (rpPower_c h1) ?_
  refine hp (id := 67) rfl rfl (ah_list (CFi .u32) (l := [7]) Try.underlying24 sz44 zc44 (by simp only [isFresh_upd, isFresh_no, Nat.reduceBEq, cond_true, cond_false]) (by decide) (by decide) (by decide) (by simp only [go_sem, Nat.reduceBEq]; try rfl) (by kernel_rfl)) ?_
  refine pu rfl (by simp only [go_sem, Nat.reduceBEq]; try with_reducible rfl) ?_
  obtain ⟨r4, h3, hm⟩ := bnd hm
  refine ARun.callL1 (r := .sl (r4.flatMap (ci .u32)) r4.length false) (id := 67) (by decide) (by try simp only [go_sem, Nat.reduceBEq]; try rfl) fb26 (by simp only [upd_beq, Nat.reduceBEq, cond_true, cond_false]; try rfl) (.cons (tdl (CFi .u32) (by try simp only [go_sem, Nat.reduceBEq]; try rfl) (by simp only [upd_beq, Nat.reduceBEq, cond_true, cond_false]; try rfl) (by simp) (by first | rfl | omega)) (.cons (td (by try simp only [go_sem, Nat.reduceBEq]; try rfl) (.v _)) .nil)) (rpPower_c h3) ?_
  obtain ⟨r6, h5, hm⟩ := bnd hm
  refine ARun.callQ (r := .sl (r6.flatMap (ci .u32)) r6.length false) (by decide) (by try simp only [go_sem, Nat.reduceBEq]; try rfl) fb30 (fun H => (.cons (td (by try simp only [go_sem, Nat.reduceBEq]; try rfl) ((CFi .u32).sl _ _ _)) (.cons (td (by try simp only [go_sem, Nat.reduceBEq]; try rfl) ((CFi .u32).sl _ _ _)) .nil))) (refAdd_c h5) ?_
  refine pu rfl (by simp only [go_sem, Nat.reduceBEq]; try with_reducible rfl) ?_
  refine fs ?_
  refine sr (N' := 192) rfl ?_
  iterate 2 refine pu rfl (by simp only [go_sem, Nat.reduceBEq]; try with_reducible rfl) ?_
  obtain ⟨r8, h7, hm⟩ := bnd hm
  refine ARun.callQ (r := .sl (r8.flatMap (ci .u32)) r8.length false) (by decide) (by try simp only [go_sem, Nat.reduceBEq]; try rfl) fb31 (fun H => (.cons (td (by try simp only [go_sem, Nat.reduceBEq]; try rfl) (.v _)) .nil)) (rpOf_c h7) ?_
  iterate 2 refine pu rfl (by simp only [go_sem, Nat.reduceBEq]; try with_reducible rfl) ?_
  obtain ⟨r10, h9, hm⟩ := bnd hm
  refine ARun.callQ (r := .sl (r10.flatMap (ci .u32)) r10.length false) (by decide) (by try simp only [go_sem, Nat.reduceBEq]; try rfl) fb31 (fun H => (.cons (td (by try simp only [go_sem, Nat.reduceBEq]; try rfl) (.v _)) .nil)) (rpOf_c h9) ?_
  obtain ⟨r12, h11, hm⟩ := bnd hm
  refine ARun.callQ (r := .sl (r12.flatMap (ci .u32)) r12.length false) (by decide) (by try simp only [go_sem, Nat.reduceBEq]; try rfl) fb27 (fun H => (.cons (td (by try simp only [go_sem, Nat.reduceBEq]; try rfl) ((CFi .u32).sl _ _ _)) (.cons (td (by try simp only [go_sem, Nat.reduceBEq]; try rfl) ((CFi .u32).sl _ _ _)) .nil))) (refMul_c h11) ?_
  iterate 2 refine pu rfl (by simp only [go_sem, Nat.reduceBEq]; try with_reducible rfl) ?_
  obtain ⟨r14, h13, hm⟩ := bnd hm
  refine ARun.callQ (r := .sl (r14.flatMap (ci .u32)) r14.length false) (by decide) (by try simp only [go_sem, Nat.reduceBEq]; try rfl) fb26 (fun H => (.cons (td (by try simp only [go_sem, Nat.reduceBEq]; try rfl) ((CFi .u32).sl _ _ _)) (.cons (td (by try simp only [go_sem, Nat.reduceBEq]; try rfl) (.v _)) .nil))) (rpPower_c h13) ?_
  obtain ⟨r16, h15, hm⟩ := bnd hm
  refine ARun.callQ (r := .sl (r16.flatMap (ci .u32)) r16.length false) (by decide) (by try simp only [go_sem, Nat.reduceBEq]; try rfl) fb27 (fun H => (.cons (td (by try simp only [go_sem, Nat.reduceBEq]; try rfl) ((CFi .u32).sl _ _ _)) (.cons (td (by try simp only [go_sem, Nat.reduceBEq]; try rfl) ((CFi .u32).sl _ _ _)) .nil))) (refMul_c h15) ?_
  refine pu rfl (by simp only [go_sem, Nat.reduceBEq]; try with_reducible rfl) ?_
  refine fs ?_
  refine AWp.ret ?_
  cases hm
  exact ret1D (.inr rfl) Try.results16 (td (by try simp only [go_sem, Nat.reduceBEq]; try rfl) ((CFi .u32).sl _ _ _))
def rpWhole_m (l_0 : Int) (r_1 : Int) : Option ((List Int)) :=
  ((rpPower_m [8] r_1).bind fun r2 =>
  ((refMul_m [2] r2).bind fun r4 =>
  ((rpPower_m r4 l_0).bind fun r6 =>
  some r6)))
theorem rpWhole_c {l_0 : Int} {r_1 : Int} {r : (List Int)} (hm : rpWhole_m l_0 r_1 = some r) : PureC Try.prog 14 [.v (.int .i64 l_0), .v (.int .i64 r_1)] (.sl (r.flatMap (ci .u32)) r.length false) := by
  refine PureC.of_body Try.func14 rfl ?_
  simp only [Try.ntmps14, List.length_cons, List.length_nil, Nat.reduceAdd, Nat.reduceSub, empty_eq]
  unfold rpWhole_m at hm
  refine sr (N' := 64) rfl ?_
  refine pu rfl (by simp only [go_sem, Nat.reduceBEq]; try with_reducible rfl) ?_
  refine fs ?_
  refine sr (N' := 128) rfl ?_
  refine hp (id := 64) rfl rfl (ah_list (CFi .u32) (l := [2]) Try.underlying24 sz44 zc44 (by simp only [isFresh_upd, isFresh_no, Nat.reduceBEq, cond_true, cond_false]) (by decide) (by decide) (by decide) (by simp only [go_sem, Nat.reduceBEq]; try rfl) (by kernel_rfl)) ?_
  refine hp (id := 65) rfl rfl (ah_list (CFi .u32) (l := [8]) Try.underlying24 sz44 zc44 (by simp only [isFresh_upd, isFresh_no, Nat.reduceBEq, cond_true, cond_false]) (by decide) (by decide) (by decide) (by simp only [go_sem, Nat.reduceBEq]; try rfl) (by kernel_rfl)) ?_
  refine pu rfl (by simp only [go_sem, Nat.reduceBEq]; try with_reducible rfl) ?_
  obtain ⟨r2, h1, hm⟩ := bnd hm
  refine ARun.callL1 (r := .sl (r2.flatMap (ci .u32)) r2.length false) (id := 65) (by decide) (by try simp only [go_sem, Nat.reduceBEq]; try rfl) fb26 (by simp only [upd_beq, Nat.reduceBEq, cond_true, cond_false]; try rfl) (.cons (tdl (CFi .u32) (by try simp only [go_sem, Nat.reduceBEq]; try rfl) (by simp only [upd_beq, Nat.reduceBEq, cond_true, cond_false]; try rfl) (by simp) (by first | rfl | omega)) (.cons (td (by try simp only [go_sem, Nat.reduceBEq]; try rfl) (.v _)) .nil)) (rpPower_c h1) ?_
  obtain ⟨r4, h3, hm⟩ := bnd hm
  refine ARun.callL1 (r := .sl (r4.flatMap (ci .u32)) r4.length false) (id := 64) (by decide) (by try simp only [go_sem, Nat.reduceBEq]; try rfl) fb27 (by simp only [upd_beq, Nat.reduceBEq, cond_true, cond_false]; try rfl) (.cons (tdl (CFi .u32) (by try simp only [go_sem, Nat.reduceBEq]; try rfl) (by simp only [upd_beq, Nat.reduceBEq, cond_true, cond_false]; try rfl) (by simp) (by first | rfl | omega)) (.cons (td (by try simp only [go_sem, Nat.reduceBEq]; try rfl) ((CFi .u32).sl _ _ _)) .nil)) (refMul_c h3) ?_
  refine pu rfl (by simp only [go_sem, Nat.reduceBEq]; try with_reducible rfl) ?_
  obtain ⟨r6, h5, hm⟩ := bnd hm
  refine ARun.callQ (r := .sl (r6.flatMap (ci .u32)) r6.length false) (by decide) (by try simp only [go_sem, Nat.reduceBEq]; try rfl) fb26 (fun H => (.cons (td (by try simp only [go_sem, Nat.reduceBEq]; try rfl) ((CFi .u32).sl _ _ _)) (.cons (td (by try simp only [go_sem, Nat.reduceBEq]; try rfl) (.v _)) .nil))) (rpPower_c h5) ?_
  refine pu rfl (by simp only [go_sem, Nat.reduceBEq]; try with_reducible rfl) ?_
  refine fs ?_
  refine AWp.ret ?_
  cases hm
  exact ret1D (.inr rfl) Try.results14 (td (by try simp only [go_sem, Nat.reduceBEq]; try rfl) ((CFi .u32).sl _ _ _))
def rpEnough_m (n_0 : Int) (m_1 : Int) (k_2 : Int) (l_3 : Int) (r_4 : Int) : Option (Bool) :=
  ((rpMay_m n_0 m_1 l_3 r_4).bind fun r2 =>
  (bif (((!r2) || (decide (k_2 < 0))) || (decide (64 < k_2))) then
    some false
  else
    ((rpWeight_m n_0 m_1 l_3 r_4).bind fun r4 =>
    ((rpPower_m [2] k_2).bind fun r6 =>
    ((refMul_m r4 r6).bind fun r8 =>
    ((rpWhole_m l_3 r_4).bind fun r10 =>
    ((refCmp_m r8 r10).bind fun r12 =>
    some (decide (r12 ≤ 0)))))))))
theorem rpEnough_c {n_0 : Int} {m_1 : Int} {k_2 : Int} {l_3 : Int} {r_4 : Int} {r : Bool} (hm : rpEnough_m n_0 m_1 k_2 l_3 r_4 = some r) : PureC Try.prog 17 [.v (.int .i64 n_0), .v (.int .i64 m_1), .v (.int .i64 k_2), .v (.int .i64 l_3), .v (.int .i64 r_4)] (.v (.bool r)) := by
  refine PureC.of_body Try.func17 rfl ?_
  simp only [Try.ntmps17, List.length_cons, List.length_nil, Nat.reduceAdd, Nat.reduceSub, empty_eq]
  unfold rpEnough_m at hm
  refine sr (N' := 64) rfl ?_
  refine pu rfl (by simp only [go_sem, Nat.reduceBEq]; try with_reducible rfl) ?_
  refine fs ?_
  refine AWp.seq' ?_
  refine sr (N' := 128) rfl ?_
  iterate 4 refine pu rfl (by simp only [go_sem, Nat.reduceBEq]; try with_reducible rfl) ?_
  obtain ⟨r2, h1, hm⟩ := bnd hm
  refine ARun.callQ (r := .v (.bool r2)) (by decide) (by try simp only [go_sem, Nat.reduceBEq]; try rfl) fb9 (fun H => (.cons (td (by try simp only [go_sem, Nat.reduceBEq]; try rfl) (.v _)) (.cons (td (by try simp only [go_sem, Nat.reduceBEq]; try rfl) (.v _)) (.cons (td (by try simp only [go_sem, Nat.reduceBEq]; try rfl) (.v _)) (.cons (td (by try simp only [go_sem, Nat.reduceBEq]; try rfl) (.v _)) .nil))))) (rpMay_c h1) ?_
  iterate 9 (first | refine pu rfl (by simp only [go_sem, Nat.reduceBEq]; try with_reducible rfl) ?_ | refine pg rfl rfl (by simp only [go_sem, Nat.reduceBEq]; try with_reducible rfl) (by intro hb; simp only [go_sem, Nat.reduceBEq, hb, Bool.true_and]; try with_reducible rfl) ?_)
  refine fs ?_
  refine AWp.condM hm (by try simp only [go_sem, Nat.reduceBEq]; try rfl) (fun _ hm => ?_) (fun _ hm => ?_)
  · refine sr (N' := 192) rfl ?_
    refine pu rfl (by simp only [go_sem, Nat.reduceBEq]; try with_reducible rfl) ?_
    refine fs ?_
    refine AWp.ret ?_
    refine retSeq ?_
    cases hm
    exact ret1D (.inr rfl) Try.results17 (td (by try simp only [go_sem, Nat.reduceBEq]; try rfl) (.v _))
  · refine AWp.skip ?_
    refine normSeq ?_
    refine sr (N' := 192) rfl ?_
    iterate 4 refine pu rfl (by simp only [go_sem, Nat.reduceBEq]; try with_reducible rfl) ?_
    obtain ⟨r4, h3, hm⟩ := bnd hm
    refine ARun.callQ (r := .sl (r4.flatMap (ci .u32)) r4.length false) (by decide) (by try simp only [go_sem, Nat.reduceBEq]; try rfl) fb16 (fun H => (.cons (td (by try simp only [go_sem, Nat.reduceBEq]; try rfl) (.v _)) (.cons (td (by try simp only [go_sem, Nat.reduceBEq]; try rfl) (.v _)) (.cons (td (by try simp only [go_sem, Nat.reduceBEq]; try rfl) (.v _)) (.cons (td (by try simp only [go_sem, Nat.reduceBEq]; try rfl) (.v _)) .nil))))) (rpWeight_c h3) ?_
    refine hp (id := 133) rfl rfl (ah_list (CFi .u32) (l := [2]) Try.underlying24 sz44 zc44 (by simp only [isFresh_upd, isFresh_no, Nat.reduceBEq, cond_true, cond_false]) (by decide) (by decide) (by decide) (by simp only [go_sem, Nat.reduceBEq]; try rfl) (by kernel_rfl)) ?_
    refine pu rfl (by simp only [go_sem, Nat.reduceBEq]; try with_reducible rfl) ?_
    obtain ⟨r6, h5, hm⟩ := bnd hm
    refine ARun.callL1 (r := .sl (r6.flatMap (ci .u32)) r6.length false) (id := 133) (by decide) (by try simp only [go_sem, Nat.reduceBEq]; try rfl) fb26 (by simp only [upd_beq, Nat.reduceBEq, cond_true, cond_false]; try rfl) (.cons (tdl (CFi .u32) (by try simp only [go_sem, Nat.reduceBEq]; try rfl) (by simp only [upd_beq, Nat.reduceBEq, cond_true, cond_false]; try rfl) (by simp) (by first | rfl | omega)) (.cons (td (by try simp only [go_sem, Nat.reduceBEq]; try rfl) (.v _)) .nil)) (rpPower_c h5) ?_
    obtain ⟨r8, h7, hm⟩ := bnd hm
    refine ARun.callQ (r := .sl (r8.flatMap (ci .u32)) r8.length false) (by decide) (by try simp only [go_sem, Nat.reduceBEq]; try rfl) fb27 (fun H => (.cons (td (by try simp only [go_sem, Nat.reduceBEq]; try rfl) ((CFi .u32).sl _ _ _)) (.cons (td (by try simp only [go_sem, Nat.reduceBEq]; try rfl) ((CFi .u32).sl _ _ _)) .nil))) (refMul_c h7) ?_
    iterate 2 refine pu rfl (by simp only [go_sem, Nat.reduceBEq]; try with_reducible rfl) ?_
    obtain ⟨r10, h9, hm⟩ := bnd hm
    refine ARun.callQ (r := .sl (r10.flatMap (ci .u32)) r10.length false) (by decide) (by try simp only [go_sem, Nat.reduceBEq]; try rfl) fb14 (fun H => (.cons (td (by try simp only [go_sem, Nat.reduceBEq]; try rfl) (.v _)) (.cons (td (by try simp only [go_sem, Nat.reduceBEq]; try rfl) (.v _)) .nil))) (rpWhole_c h9) ?_
    obtain ⟨r12, h11, hm⟩ := bnd hm
    refine ARun.callQ (r := .v (.int .i64 r12)) (by decide) (by try simp only [go_sem, Nat.reduceBEq]; try rfl) fb32 (fun H => (.cons (td (by try simp only [go_sem, Nat.reduceBEq]; try rfl) ((CFi .u32).sl _ _ _)) (.cons (td (by try simp only [go_sem, Nat.reduceBEq]; try rfl) ((CFi .u32).sl _ _ _)) .nil))) (refCmp_c h11) ?_
    iterate 2 refine pu rfl (by simp only [go_sem, Nat.reduceBEq]; try with_reducible rfl) ?_
    refine fs ?_
    refine AWp.ret ?_
    cases hm
    exact ret1D (.inr rfl) Try.results17 (td (by try simp only [go_sem, Nat.reduceBEq]; try rfl) (.v _))
def plAwake_m : Option (Bool) :=
  ((plPlan_m 1 0 64).bind fun ⟨r2, r3⟩ =>
  ((plPlan_m 2 1 1).bind fun ⟨r5, r6⟩ =>
  ((plPlan_m 1024 1000000 64).bind fun ⟨r8, r9⟩ =>
  ((plWhole_m 2 1).bind fun ⟨r11, r12⟩ =>
  ((plWeight_m 0 1 1 1).bind fun ⟨r14, r15⟩ =>
  (bif (((((((r2.N == 1) && ((r2.L == 1) && (r2.R == 1))) && (r3 == 0)) && (r5.N == 2)) && (decide (2 ≤ r5.L))) && (r6 == 0)) && (r9 == 6)) then
    ((refSame_m r11 [256]).bind fun r18 =>
    some (bif ((r18 && (r12 == 0)) && (r15 == 1)) then true else false))
  else
    some false))))))
theorem plAwake_c {r : Bool} (hm : plAwake_m = some r) : PureC Try.prog 10 [] (.v (.bool r)) := by
  refine PureC.of_body Try.func10 rfl ?_
  simp only [Try.ntmps10, List.length_cons, List.length_nil, Nat.reduceAdd, Nat.reduceSub, empty_eq]
  unfold plAwake_m at hm
  refine sr (N' := 64) rfl ?_
  refine pu rfl (by simp only [go_sem, Nat.reduceBEq]; try with_reducible rfl) ?_
  refine fs ?_
  refine sr (N' := 128) rfl ?_
  obtain ⟨⟨r2, r3⟩, h1, hm⟩ := bnd hm
  refine ARun.callQ (r := .tup [.agg [.v (.int .i64 r2.N), .v (.int .i64 r2.L), .v (.int .i64 r2.R)], .v (.int .i64 r3)]) (by decide) (by try simp only [go_sem, Nat.reduceBEq]; try rfl) fb18 (fun H => (.cons (td (by try simp only [go_sem, Nat.reduceBEq]; try rfl) (.v _)) (.cons (td (by try simp only [go_sem, Nat.reduceBEq]; try rfl) (.v _)) (.cons (td (by try simp only [go_sem, Nat.reduceBEq]; try rfl) (.v _)) .nil)))) (plPlan_c h1) ?_
  iterate 3 refine pu rfl (by simp only [go_sem, Nat.reduceBEq]; try with_reducible rfl) ?_
  refine hp (id := 68) rfl rfl (aheap_alloc' zc34 (by simp only [isFresh_upd, isFresh_no, Nat.reduceBEq, cond_true, cond_false])) ?_
  refine ARun.heap0 (id := 69) rfl (ah_var (ys := [.v (.int .i64 r2.N), .v (.int .i64 r2.L), .v (.int .i64 r2.R)]) sz34 (by try simp only [go_sem, Nat.reduceBEq]; try rfl) (by try simp only [go_sem, Nat.reduceBEq]; try rfl) (by simp only [upd_beq, Nat.reduceBEq, cond_true, cond_false]; try rfl) rfl (Nat.le_of_ble_eq_true rfl) (by first | rfl | (simp [AV.one]; done)) rfl) ?_
  refine pu rfl (by simp only [go_sem, Nat.reduceBEq]; try with_reducible rfl) ?_
  refine fs ?_
  refine sr (N' := 192) rfl ?_
  obtain ⟨⟨r5, r6⟩, h4, hm⟩ := bnd hm
  refine ARun.callQ (r := .tup [.agg [.v (.int .i64 r5.N), .v (.int .i64 r5.L), .v (.int .i64 r5.R)], .v (.int .i64 r6)]) (by decide) (by try simp only [go_sem, Nat.reduceBEq]; try rfl) fb18 (fun H => (.cons (td (by try simp only [go_sem, Nat.reduceBEq]; try rfl) (.v _)) (.cons (td (by try simp only [go_sem, Nat.reduceBEq]; try rfl) (.v _)) (.cons (td (by try simp only [go_sem, Nat.reduceBEq]; try rfl) (.v _)) .nil)))) (plPlan_c h4) ?_
  iterate 3 refine pu rfl (by simp only [go_sem, Nat.reduceBEq]; try with_reducible rfl) ?_
  refine hp (id := 132) rfl rfl (aheap_alloc' zc34 (by simp only [isFresh_upd, isFresh_no, Nat.reduceBEq, cond_true, cond_false])) ?_
  refine ARun.heap0 (id := 133) rfl (ah_var (ys := [.v (.int .i64 r5.N), .v (.int .i64 r5.L), .v (.int .i64 r5.R)]) sz34 (by try simp only [go_sem, Nat.reduceBEq]; try rfl) (by try simp only [go_sem, Nat.reduceBEq]; try rfl) (by simp only [upd_beq, Nat.reduceBEq, cond_true, cond_false]; try rfl) rfl (Nat.le_of_ble_eq_true rfl) (by first | rfl | (simp [AV.one]; done)) rfl) ?_
  refine pu rfl (by simp only [go_sem, Nat.reduceBEq]; try with_reducible rfl) ?_
  refine fs ?_
  refine sr (N' := 256) rfl ?_
  obtain ⟨⟨r8, r9⟩, h7, hm⟩ := bnd hm
  refine ARun.callQ (r := .tup [.agg [.v (.int .i64 r8.N), .v (.int .i64 r8.L), .v (.int .i64 r8.R)], .v (.int .i64 r9)]) (by decide) (by try simp only [go_sem, Nat.reduceBEq]; try rfl) fb18 (fun H => (.cons (td (by try simp only [go_sem, Nat.reduceBEq]; try rfl) (.v _)) (.cons (td (by try simp only [go_sem, Nat.reduceBEq]; try rfl) (.v _)) (.cons (td (by try simp only [go_sem, Nat.reduceBEq]; try rfl) (.v _)) .nil)))) (plPlan_c h7) ?_
  iterate 3 refine pu rfl (by simp only [go_sem, Nat.reduceBEq]; try with_reducible rfl) ?_
  refine hp (id := 196) rfl rfl (aheap_alloc' zc34 (by simp only [isFresh_upd, isFresh_no, Nat.reduceBEq, cond_true, cond_false])) ?_
  refine ARun.heap0 (id := 197) rfl (ah_var (ys := [.v (.int .i64 r8.N), .v (.int .i64 r8.L), .v (.int .i64 r8.R)]) sz34 (by try simp only [go_sem, Nat.reduceBEq]; try rfl) (by try simp only [go_sem, Nat.reduceBEq]; try rfl) (by simp only [upd_beq, Nat.reduceBEq, cond_true, cond_false]; try rfl) rfl (Nat.le_of_ble_eq_true rfl) (by first | rfl | (simp [AV.one]; done)) rfl) ?_
  refine pu rfl (by simp only [go_sem, Nat.reduceBEq]; try with_reducible rfl) ?_
  refine fs ?_
  refine sr (N' := 320) rfl ?_
  obtain ⟨⟨r11, r12⟩, h10, hm⟩ := bnd hm
  refine ARun.callQ (r := .tup [.sl (r11.flatMap (ci .u32)) r11.length false, .v (.int .i64 r12)]) (by decide) (by try simp only [go_sem, Nat.reduceBEq]; try rfl) fb12 (fun H => (.cons (td (by try simp only [go_sem, Nat.reduceBEq]; try rfl) (.v _)) (.cons (td (by try simp only [go_sem, Nat.reduceBEq]; try rfl) (.v _)) .nil))) (plWhole_c h10) ?_
  iterate 5 refine pu rfl (by simp only [go_sem, Nat.reduceBEq]; try with_reducible rfl) ?_
  refine fs ?_
  refine sr (N' := 384) rfl ?_
  obtain ⟨⟨r14, r15⟩, h13, hm⟩ := bnd hm
  refine ARun.callQ (r := .tup [.sl (r14.flatMap (ci .u32)) r14.length false, .v (.int .i64 r15)]) (by decide) (by try simp only [go_sem, Nat.reduceBEq]; try rfl) fb11 (fun H => (.cons (td (by try simp only [go_sem, Nat.reduceBEq]; try rfl) (.v _)) (.cons (td (by try simp only [go_sem, Nat.reduceBEq]; try rfl) (.v _)) (.cons (td (by try simp only [go_sem, Nat.reduceBEq]; try rfl) (.v _)) (.cons (td (by try simp only [go_sem, Nat.reduceBEq]; try rfl) (.v _)) .nil))))) (plWeight_c h13) ?_
  iterate 5 refine pu rfl (by simp only [go_sem, Nat.reduceBEq]; try with_reducible rfl) ?_
  refine fs ?_
  refine sr (N' := 448) rfl ?_
  refine pu rfl (ap_ldv (by try simp only [go_sem, Nat.reduceBEq]; try rfl) (by simp only [upd_beq, Nat.reduceBEq, cond_true, cond_false]; try rfl) (by simp only [go_sem, Nat.reduceBEq]; try with_reducible rfl)) ?_
  refine pu rfl (by simp only [go_sem, Nat.reduceBEq]; exact (by kernel_rfl : abuild Try.prog 34 [(0, .v (.int .i64 1)), (1, .v (.int .i64 1)), (2, .v (.int .i64 1))] = some (.agg [.v (.int .i64 1), .v (.int .i64 1), .v (.int .i64 1)]))) ?_
  iterate 7 (first | refine pu rfl (by simp only [go_sem, Nat.reduceBEq]; try with_reducible rfl) ?_ | refine pg rfl rfl (by simp only [go_sem, Nat.reduceBEq]; try with_reducible rfl) (by intro hb; simp only [go_sem, Nat.reduceBEq, hb, Bool.true_and]; try with_reducible rfl) ?_)
  refine pg rfl rfl (by simp only [go_sem, Nat.reduceBEq]; try with_reducible rfl) (fun hb => (ap_ldv (by try simp only [go_sem, Nat.reduceBEq, hb, Bool.true_and]; try rfl) (by simp only [upd_beq, Nat.reduceBEq, cond_true, cond_false]; try rfl) (by simp only [go_sem, Nat.reduceBEq, Nat.reduceAdd]; try with_reducible rfl))) ?_
  iterate 4 (first | refine pu rfl (by simp only [go_sem, Nat.reduceBEq]; try with_reducible rfl) ?_ | refine pg rfl rfl (by simp only [go_sem, Nat.reduceBEq]; try with_reducible rfl) (by intro hb; simp only [go_sem, Nat.reduceBEq, hb, Bool.true_and]; try with_reducible rfl) ?_)
  refine pg rfl rfl (by simp only [go_sem, Nat.reduceBEq]; try with_reducible rfl) (fun hb => (ap_ldv (by try simp only [go_sem, Nat.reduceBEq, hb, Bool.true_and]; try rfl) (by simp only [upd_beq, Nat.reduceBEq, cond_true, cond_false]; try rfl) (by simp only [go_sem, Nat.reduceBEq, Nat.reduceAdd]; try with_reducible rfl))) ?_
  iterate 12 (first | refine pu rfl (by simp only [go_sem, Nat.reduceBEq]; try with_reducible rfl) ?_ | refine pg rfl rfl (by simp only [go_sem, Nat.reduceBEq]; try with_reducible rfl) (by intro hb; simp only [go_sem, Nat.reduceBEq, hb, Bool.true_and]; try with_reducible rfl) ?_)
  refine split_m hm (fun h16 hm => ?_) (fun h16 hm => ?_)
  · refine ARun.heapG (by decide) rfl (by simp only [go_sem, Nat.reduceBEq, h16]; try with_reducible rfl) (id := 411) rfl (ah_list (CFi .u32) (l := [256]) Try.underlying24 sz44 zc44 (by simp only [isFresh_upd, isFresh_no, Nat.reduceBEq, cond_true, cond_false]) (by decide) (by decide) (by decide) (by simp only [go_sem, Nat.reduceBEq, h16]; try rfl) (by kernel_rfl)) ?_
    obtain ⟨r18, h17, hm⟩ := bnd hm
    refine ARun.callBG (r := .v (.bool r18)) (by decide) rfl (by simp only [go_sem, Nat.reduceBEq, h16]; try with_reducible rfl) (by try simp only [go_sem, Nat.reduceBEq, h16]; try rfl) fb13 (fun hb => (.cons (ltd fun H => (td (by try simp only [go_sem, Nat.reduceBEq, h16]; try rfl) ((CFi .u32).sl _ _ _))) (.cons (lto (CFi .u32) (by try simp only [go_sem, Nat.reduceBEq, h16]; try rfl) (by simp only [upd_beq, Nat.reduceBEq, cond_true, cond_false]; try rfl) (by first | rfl | omega)) Lent.nil))) scal1 (fun hb => refSame_c h17) ?_
    iterate 12 (first | refine pu rfl (by simp only [go_sem, Nat.reduceBEq, h16]; try with_reducible rfl) ?_ | refine pg rfl rfl (by simp only [go_sem, Nat.reduceBEq, h16]; try with_reducible rfl) (by intro hb; simp only [go_sem, Nat.reduceBEq, h16, hb, Bool.true_and]; try with_reducible rfl) ?_)
    refine fs ?_
    refine AWp.ret ?_
    cases hm
    exact ret1D (.inr rfl) Try.results10 (td (by try simp only [go_sem, Nat.reduceBEq]; try rfl) (.v _))
  · refine ARun.skipG (by decide) rfl (by simp only [go_sem, Nat.reduceBEq, h16]; try with_reducible rfl) ?_
    refine ARun.skipG (by decide) rfl (by simp only [go_sem, Nat.reduceBEq, h16]; try with_reducible rfl) ?_
    iterate 2 refine pu rfl (by simp only [go_sem, Nat.reduceBEq, h16]; try with_reducible rfl) ?_
    refine ARun.skipG (by decide) rfl (by simp only [go_sem, Nat.reduceBEq, h16]; try with_reducible rfl) ?_
    refine ARun.skipG (by decide) rfl (by simp only [go_sem, Nat.reduceBEq, h16]; try with_reducible rfl) ?_
    iterate 2 refine pu rfl (by simp only [go_sem, Nat.reduceBEq, h16]; try with_reducible rfl) ?_
    refine ARun.skipG (by decide) rfl (by simp only [go_sem, Nat.reduceBEq, h16]; try with_reducible rfl) ?_
    refine ARun.skipG (by decide) rfl (by simp only [go_sem, Nat.reduceBEq, h16]; try with_reducible rfl) ?_
    iterate 4 refine pu rfl (by simp only [go_sem, Nat.reduceBEq, h16]; try with_reducible rfl) ?_
    refine fs ?_
    refine AWp.ret ?_
    cases hm
    exact ret1D (.inr rfl) Try.results10 (td (by try simp only [go_sem, Nat.reduceBEq]; try rfl) (.v _))
def PlanTells_m (n_0 : Int) (m_1 : Int) (k_2 : Int) (l_3 : Int) (r_4 : Int) : Option (Bool) :=
  ((gopt ((decide (16 < (IntKind.i64.wrap (l_3 * r_4)))) == true) false (rpMay_m n_0 m_1 l_3 r_4)).bind fun r2 =>
  (bif ((decide (16 < (IntKind.i64.wrap (l_3 * r_4)))) && r2) then
    ((plAwake_m ).bind fun r4 =>
    some r4)
  else
    ((plWeight_m n_0 m_1 l_3 r_4).bind fun ⟨r6, r7⟩ =>
    ((plWhole_m l_3 r_4).bind fun ⟨r9, r10⟩ =>
    ((rpMay_m 1 0 l_3 r_4).bind fun r12 =>
    ((gopt ((((!(r12 == (r10 == 0))) || ((r10 != 0) && (((r9.length : Int) != 0) || (r10 != 1)))) == false) && ((r10 == 0) == true)) [] (rpWhole_m l_3 r_4)).bind fun r14 =>
    ((gopt ((((!(r12 == (r10 == 0))) || ((r10 != 0) && (((r9.length : Int) != 0) || (r10 != 1)))) == false) && ((r10 == 0) == true)) false (refSame_m r9 r14)).bind fun r16 =>
    (bif (((!(r12 == (r10 == 0))) || ((r10 != 0) && (((r9.length : Int) != 0) || (r10 != 1)))) || ((r10 == 0) && (!r16))) then
      some false
    else
      ((rpMay_m n_0 m_1 l_3 r_4).bind fun r18 =>
      (bif (!r18) then
        ((gopt ((((r6.length : Int) == 0) && (r7 == 1)) == true) false (plEnough_m n_0 m_1 k_2 l_3 r_4)).bind fun r20 =>
        ((gopt (((((r6.length : Int) == 0) && (r7 == 1)) && (!r20)) == true) false (plAwake_m )).bind fun r22 =>
        some (((((r6.length : Int) == 0) && (r7 == 1)) && (!r20)) && r22)))
      else
        ((gopt ((r7 == 0) == true) [] (rpWeight_m n_0 m_1 l_3 r_4)).bind fun r24 =>
        ((gopt ((r7 == 0) == true) false (refSame_m r6 r24)).bind fun r26 =>
        ((gopt (((r7 == 0) && r26) == true) false (plEnough_m n_0 m_1 k_2 l_3 r_4)).bind fun r28 =>
        ((gopt (((r7 == 0) && r26) == true) false (rpEnough_m n_0 m_1 k_2 l_3 r_4)).bind fun r30 =>
        ((gopt ((((r7 == 0) && r26) && (r28 == r30)) == true) false (plAwake_m )).bind fun r32 =>
        some ((((r7 == 0) && r26) && (r28 == r30)) && r32))))))))))))))))
theorem PlanTells_c {n_0 : Int} {m_1 : Int} {k_2 : Int} {l_3 : Int} {r_4 : Int} {r : Bool} (hm : PlanTells_m n_0 m_1 k_2 l_3 r_4 = some r) : PureC Try.prog 3 [.v (.int .i64 n_0), .v (.int .i64 m_1), .v (.int .i64 k_2), .v (.int .i64 l_3), .v (.int .i64 r_4)] (.v (.bool r)) := by
  refine PureC.of_body Try.func3 rfl ?_
  simp only [Try.ntmps3, List.length_cons, List.length_nil, Nat.reduceAdd, Nat.reduceSub, empty_eq]
  unfold PlanTells_m at hm
  refine sr (N' := 64) rfl ?_
  refine pu rfl (by simp only [go_sem, Nat.reduceBEq]; try with_reducible rfl) ?_
  refine fs ?_
  refine AWp.seq' ?_
  refine sr (N' := 128) rfl ?_
  iterate 9 (first | refine pu rfl (by simp only [go_sem, Nat.reduceBEq]; try with_reducible rfl) ?_ | refine pg rfl rfl (by simp only [go_sem, Nat.reduceBEq]; try with_reducible rfl) (by intro hb; simp only [go_sem, Nat.reduceBEq, hb, Bool.true_and]; try with_reducible rfl) ?_)
  obtain ⟨r2, h1, hm⟩ := bnd hm
  refine ARun.callQG (r := .v (.bool r2)) (by decide) rfl (by simp only [go_sem, Nat.reduceBEq]; try with_reducible rfl) (by try simp only [go_sem, Nat.reduceBEq]; try rfl) fb9 (fun hb H => (.cons (td (by try simp only [go_sem, Nat.reduceBEq, hb, Bool.true_and]; try rfl) (.v _)) (.cons (td (by try simp only [go_sem, Nat.reduceBEq, hb, Bool.true_and]; try rfl) (.v _)) (.cons (td (by try simp only [go_sem, Nat.reduceBEq, hb, Bool.true_and]; try rfl) (.v _)) (.cons (td (by try simp only [go_sem, Nat.reduceBEq, hb, Bool.true_and]; try rfl) (.v _)) .nil))))) (fun hb => rpMay_c (gopt_t h1 hb)) ?_
  refine pu rfl (by simp only [go_sem, Nat.reduceBEq]; try with_reducible rfl) ?_
  refine fs ?_
  refine AWp.condM hm (by try simp only [go_sem, Nat.reduceBEq]; try rfl) (fun _ hm => ?_) (fun _ hm => ?_)
  · refine sr (N' := 192) rfl ?_
    obtain ⟨r4, h3, hm⟩ := bnd hm
    refine ARun.callQ (r := .v (.bool r4)) (by decide) (by try simp only [go_sem, Nat.reduceBEq]; try rfl) fb10 (fun H => .nil) (plAwake_c h3) ?_
    refine pu rfl (by simp only [go_sem, Nat.reduceBEq]; try with_reducible rfl) ?_
    refine fs ?_
    refine AWp.ret ?_
    refine retSeq ?_
    cases hm
    exact ret1D (.inr rfl) Try.results3 (td (by try simp only [go_sem, Nat.reduceBEq]; try rfl) (.v _))
  · refine AWp.skip ?_
    refine normSeq ?_
    refine sr (N' := 192) rfl ?_
    iterate 4 refine pu rfl (by simp only [go_sem, Nat.reduceBEq]; try with_reducible rfl) ?_
    obtain ⟨⟨r6, r7⟩, h5, hm⟩ := bnd hm
    refine ARun.callQ (r := .tup [.sl (r6.flatMap (ci .u32)) r6.length false, .v (.int .i64 r7)]) (by decide) (by try simp only [go_sem, Nat.reduceBEq]; try rfl) fb11 (fun H => (.cons (td (by try simp only [go_sem, Nat.reduceBEq]; try rfl) (.v _)) (.cons (td (by try simp only [go_sem, Nat.reduceBEq]; try rfl) (.v _)) (.cons (td (by try simp only [go_sem, Nat.reduceBEq]; try rfl) (.v _)) (.cons (td (by try simp only [go_sem, Nat.reduceBEq]; try rfl) (.v _)) .nil))))) (plWeight_c h5) ?_
    iterate 5 refine pu rfl (by simp only [go_sem, Nat.reduceBEq]; try with_reducible rfl) ?_
    refine fs ?_
    refine sr (N' := 256) rfl ?_
    iterate 2 refine pu rfl (by simp only [go_sem, Nat.reduceBEq]; try with_reducible rfl) ?_
    obtain ⟨⟨r9, r10⟩, h8, hm⟩ := bnd hm
    refine ARun.callQ (r := .tup [.sl (r9.flatMap (ci .u32)) r9.length false, .v (.int .i64 r10)]) (by decide) (by try simp only [go_sem, Nat.reduceBEq]; try rfl) fb12 (fun H => (.cons (td (by try simp only [go_sem, Nat.reduceBEq]; try rfl) (.v _)) (.cons (td (by try simp only [go_sem, Nat.reduceBEq]; try rfl) (.v _)) .nil))) (plWhole_c h8) ?_
    iterate 5 refine pu rfl (by simp only [go_sem, Nat.reduceBEq]; try with_reducible rfl) ?_
    refine fs ?_
    refine AWp.seq' ?_
    refine sr (N' := 320) rfl ?_
    iterate 2 refine pu rfl (by simp only [go_sem, Nat.reduceBEq]; try with_reducible rfl) ?_
    obtain ⟨r12, h11, hm⟩ := bnd hm
    refine ARun.callQ (r := .v (.bool r12)) (by decide) (by try simp only [go_sem, Nat.reduceBEq]; try rfl) fb9 (fun H => (.cons (td (by try simp only [go_sem, Nat.reduceBEq]; try rfl) (.v _)) (.cons (td (by try simp only [go_sem, Nat.reduceBEq]; try rfl) (.v _)) (.cons (td (by try simp only [go_sem, Nat.reduceBEq]; try rfl) (.v _)) (.cons (td (by try simp only [go_sem, Nat.reduceBEq]; try rfl) (.v _)) .nil))))) (rpMay_c h11) ?_
    iterate 23 (first | refine pu rfl (by simp only [go_sem, Nat.reduceBEq]; try with_reducible rfl) ?_ | refine pg rfl rfl (by simp only [go_sem, Nat.reduceBEq]; try with_reducible rfl) (by intro hb; simp only [go_sem, Nat.reduceBEq, hb, Bool.true_and]; try with_reducible rfl) ?_)
    obtain ⟨r14, h13, hm⟩ := bnd hm
    refine ARun.callQG (r := .sl (r14.flatMap (ci .u32)) r14.length false) (by decide) rfl (by simp only [go_sem, Nat.reduceBEq]; try with_reducible rfl) (by try simp only [go_sem, Nat.reduceBEq]; try rfl) fb14 (fun hb H => (.cons (td (by try simp only [go_sem, Nat.reduceBEq, hb, Bool.true_and]; try rfl) (.v _)) (.cons (td (by try simp only [go_sem, Nat.reduceBEq, hb, Bool.true_and]; try rfl) (.v _)) .nil))) (fun hb => rpWhole_c (gopt_t h13 hb)) ?_
    obtain ⟨r16, h15, hm⟩ := bnd hm
    refine ARun.callQG (r := .v (.bool r16)) (by decide) rfl (by simp only [go_sem, Nat.reduceBEq]; try with_reducible rfl) (by try simp only [go_sem, Nat.reduceBEq]; try rfl) fb13 (fun hb H => (.cons (td (by try simp only [go_sem, Nat.reduceBEq, hb, Bool.true_and]; try rfl) ((CFi .u32).sl _ _ _)) (.cons (td (by try simp only [go_sem, Nat.reduceBEq, hb, Bool.true_and]; try rfl) ((CFi .u32).sl _ _ _)) .nil))) (fun hb => refSame_c (gopt_t h15 hb)) ?_
    iterate 3 (first | refine pu rfl (by simp only [go_sem, Nat.reduceBEq]; try with_reducible rfl) ?_ | refine pg rfl rfl (by simp only [go_sem, Nat.reduceBEq]; try with_reducible rfl) (by intro hb; simp only [go_sem, Nat.reduceBEq, hb, Bool.true_and]; try with_reducible rfl) ?_)
    refine fs ?_
    refine AWp.condM hm (by try simp only [go_sem, Nat.reduceBEq]; try rfl) (fun _ hm => ?_) (fun _ hm => ?_)
    · refine sr (N' := 384) rfl ?_
      refine pu rfl (by simp only [go_sem, Nat.reduceBEq]; try with_reducible rfl) ?_
      refine fs ?_
      refine AWp.ret ?_
      refine retSeq ?_
      cases hm
      exact ret1D (.inr rfl) Try.results3 (td (by try simp only [go_sem, Nat.reduceBEq]; try rfl) (.v _))
    · refine AWp.skip ?_
      refine normSeq ?_
      refine AWp.seq' ?_
      refine sr (N' := 384) rfl ?_
      iterate 4 refine pu rfl (by simp only [go_sem, Nat.reduceBEq]; try with_reducible rfl) ?_
      obtain ⟨r18, h17, hm⟩ := bnd hm
      refine ARun.callQ (r := .v (.bool r18)) (by decide) (by try simp only [go_sem, Nat.reduceBEq]; try rfl) fb9 (fun H => (.cons (td (by try simp only [go_sem, Nat.reduceBEq]; try rfl) (.v _)) (.cons (td (by try simp only [go_sem, Nat.reduceBEq]; try rfl) (.v _)) (.cons (td (by try simp only [go_sem, Nat.reduceBEq]; try rfl) (.v _)) (.cons (td (by try simp only [go_sem, Nat.reduceBEq]; try rfl) (.v _)) .nil))))) (rpMay_c h17) ?_
      refine pu rfl (by simp only [go_sem, Nat.reduceBEq]; try with_reducible rfl) ?_
      refine fs ?_
      refine AWp.condM hm (by try simp only [go_sem, Nat.reduceBEq]; try rfl) (fun _ hm => ?_) (fun _ hm => ?_)
      · refine sr (N' := 448) rfl ?_
        iterate 13 (first | refine pu rfl (by simp only [go_sem, Nat.reduceBEq]; try with_reducible rfl) ?_ | refine pg rfl rfl (by simp only [go_sem, Nat.reduceBEq]; try with_reducible rfl) (by intro hb; simp only [go_sem, Nat.reduceBEq, hb, Bool.true_and]; try with_reducible rfl) ?_)
        obtain ⟨r20, h19, hm⟩ := bnd hm
        refine ARun.callQG (r := .v (.bool r20)) (by decide) rfl (by simp only [go_sem, Nat.reduceBEq]; try with_reducible rfl) (by try simp only [go_sem, Nat.reduceBEq]; try rfl) fb15 (fun hb H => (.cons (td (by try simp only [go_sem, Nat.reduceBEq, hb, Bool.true_and]; try rfl) (.v _)) (.cons (td (by try simp only [go_sem, Nat.reduceBEq, hb, Bool.true_and]; try rfl) (.v _)) (.cons (td (by try simp only [go_sem, Nat.reduceBEq, hb, Bool.true_and]; try rfl) (.v _)) (.cons (td (by try simp only [go_sem, Nat.reduceBEq, hb, Bool.true_and]; try rfl) (.v _)) (.cons (td (by try simp only [go_sem, Nat.reduceBEq, hb, Bool.true_and]; try rfl) (.v _)) .nil)))))) (fun hb => plEnough_c (gopt_t h19 hb)) ?_
        iterate 3 (first | refine pu rfl (by simp only [go_sem, Nat.reduceBEq]; try with_reducible rfl) ?_ | refine pg rfl rfl (by simp only [go_sem, Nat.reduceBEq]; try with_reducible rfl) (by intro hb; simp only [go_sem, Nat.reduceBEq, hb, Bool.true_and]; try with_reducible rfl) ?_)
        obtain ⟨r22, h21, hm⟩ := bnd hm
        refine ARun.callQG (r := .v (.bool r22)) (by decide) rfl (by simp only [go_sem, Nat.reduceBEq]; try with_reducible rfl) (by try simp only [go_sem, Nat.reduceBEq]; try rfl) fb10 (fun hb H => .nil) (fun hb => plAwake_c (gopt_t h21 hb)) ?_
        iterate 2 refine pu rfl (by simp only [go_sem, Nat.reduceBEq]; try with_reducible rfl) ?_
        refine fs ?_
        refine AWp.ret ?_
        refine retSeq ?_
        cases hm
        exact ret1D (.inr rfl) Try.results3 (td (by try simp only [go_sem, Nat.reduceBEq]; try rfl) (.v _))
      · refine AWp.skip ?_
        refine normSeq ?_
        refine sr (N' := 448) rfl ?_
        iterate 8 (first | refine pu rfl (by simp only [go_sem, Nat.reduceBEq]; try with_reducible rfl) ?_ | refine pg rfl rfl (by simp only [go_sem, Nat.reduceBEq]; try with_reducible rfl) (by intro hb; simp only [go_sem, Nat.reduceBEq, hb, Bool.true_and]; try with_reducible rfl) ?_)
        obtain ⟨r24, h23, hm⟩ := bnd hm
        refine ARun.callQG (r := .sl (r24.flatMap (ci .u32)) r24.length false) (by decide) rfl (by simp only [go_sem, Nat.reduceBEq]; try with_reducible rfl) (by try simp only [go_sem, Nat.reduceBEq]; try rfl) fb16 (fun hb H => (.cons (td (by try simp only [go_sem, Nat.reduceBEq, hb, Bool.true_and]; try rfl) (.v _)) (.cons (td (by try simp only [go_sem, Nat.reduceBEq, hb, Bool.true_and]; try rfl) (.v _)) (.cons (td (by try simp only [go_sem, Nat.reduceBEq, hb, Bool.true_and]; try rfl) (.v _)) (.cons (td (by try simp only [go_sem, Nat.reduceBEq, hb, Bool.true_and]; try rfl) (.v _)) .nil))))) (fun hb => rpWeight_c (gopt_t h23 hb)) ?_
        obtain ⟨r26, h25, hm⟩ := bnd hm
        refine ARun.callQG (r := .v (.bool r26)) (by decide) rfl (by simp only [go_sem, Nat.reduceBEq]; try with_reducible rfl) (by try simp only [go_sem, Nat.reduceBEq]; try rfl) fb13 (fun hb H => (.cons (td (by try simp only [go_sem, Nat.reduceBEq, hb, Bool.true_and]; try rfl) ((CFi .u32).sl _ _ _)) (.cons (td (by try simp only [go_sem, Nat.reduceBEq, hb, Bool.true_and]; try rfl) ((CFi .u32).sl _ _ _)) .nil))) (fun hb => refSame_c (gopt_t h25 hb)) ?_
        iterate 7 (first | refine pu rfl (by simp only [go_sem, Nat.reduceBEq]; try with_reducible rfl) ?_ | refine pg rfl rfl (by simp only [go_sem, Nat.reduceBEq]; try with_reducible rfl) (by intro hb; simp only [go_sem, Nat.reduceBEq, hb, Bool.true_and]; try with_reducible rfl) ?_)
        obtain ⟨r28, h27, hm⟩ := bnd hm
        refine ARun.callQG (r := .v (.bool r28)) (by decide) rfl (by simp only [go_sem, Nat.reduceBEq]; try with_reducible rfl) (by try simp only [go_sem, Nat.reduceBEq]; try rfl) fb15 (fun hb H => (.cons (td (by try simp only [go_sem, Nat.reduceBEq, hb, Bool.true_and]; try rfl) (.v _)) (.cons (td (by try simp only [go_sem, Nat.reduceBEq, hb, Bool.true_and]; try rfl) (.v _)) (.cons (td (by try simp only [go_sem, Nat.reduceBEq, hb, Bool.true_and]; try rfl) (.v _)) (.cons (td (by try simp only [go_sem, Nat.reduceBEq, hb, Bool.true_and]; try rfl) (.v _)) (.cons (td (by try simp only [go_sem, Nat.reduceBEq, hb, Bool.true_and]; try rfl) (.v _)) .nil)))))) (fun hb => plEnough_c (gopt_t h27 hb)) ?_
        iterate 5 refine pg rfl rfl (by simp only [go_sem, Nat.reduceBEq]; try with_reducible rfl) (by intro hb; simp only [go_sem, Nat.reduceBEq, hb, Bool.true_and]; try with_reducible rfl) ?_
        obtain ⟨r30, h29, hm⟩ := bnd hm
        refine ARun.callQG (r := .v (.bool r30)) (by decide) rfl (by simp only [go_sem, Nat.reduceBEq]; try with_reducible rfl) (by try simp only [go_sem, Nat.reduceBEq]; try rfl) fb17 (fun hb H => (.cons (td (by try simp only [go_sem, Nat.reduceBEq, hb, Bool.true_and]; try rfl) (.v _)) (.cons (td (by try simp only [go_sem, Nat.reduceBEq, hb, Bool.true_and]; try rfl) (.v _)) (.cons (td (by try simp only [go_sem, Nat.reduceBEq, hb, Bool.true_and]; try rfl) (.v _)) (.cons (td (by try simp only [go_sem, Nat.reduceBEq, hb, Bool.true_and]; try rfl) (.v _)) (.cons (td (by try simp only [go_sem, Nat.reduceBEq, hb, Bool.true_and]; try rfl) (.v _)) .nil)))))) (fun hb => rpEnough_c (gopt_t h29 hb)) ?_
        iterate 3 (first | refine pu rfl (by simp only [go_sem, Nat.reduceBEq]; try with_reducible rfl) ?_ | refine pg rfl rfl (by simp only [go_sem, Nat.reduceBEq]; try with_reducible rfl) (by intro hb; simp only [go_sem, Nat.reduceBEq, hb, Bool.true_and]; try with_reducible rfl) ?_)
        obtain ⟨r32, h31, hm⟩ := bnd hm
        refine ARun.callQG (r := .v (.bool r32)) (by decide) rfl (by simp only [go_sem, Nat.reduceBEq]; try with_reducible rfl) (by try simp only [go_sem, Nat.reduceBEq]; try rfl) fb10 (fun hb H => .nil) (fun hb => plAwake_c (gopt_t h31 hb)) ?_
        iterate 2 refine pu rfl (by simp only [go_sem, Nat.reduceBEq]; try with_reducible rfl) ?_
        refine fs ?_
        refine AWp.ret ?_
        cases hm
        exact ret1D (.inr rfl) Try.results3 (td (by try simp only [go_sem, Nat.reduceBEq]; try rfl) (.v _))
def PlanLeast_B2 (rec1 : Int → Int → Int → GConfig → Int → Int → Option (Bool)) (rec2 : Int → Int → Int → GConfig → Int → Int → Int → Option (Bool)) (n_0 : Int) (m_1 : Int) (k_2 : Int) (c_7 : GConfig) (e_8 : Int) (l_9 : Int) (r_10 : Int) : Option (Bool) :=
  (bif (decide (r_10 ≤ 8)) then
    (bif (((e_8 == 0) && (l_9 == c_7.L)) && (r_10 == c_7.R)) then
      ((gopt ((c_7.N == n_0) == true) false (plEnough_m n_0 m_1 k_2 l_9 r_10)).bind fun r9 =>
      ((gopt (((c_7.N == n_0) && r9) == true) false (plAwake_m )).bind fun r11 =>
      some (((c_7.N == n_0) && r9) && r11)))
    else
      ((plEnough_m n_0 m_1 k_2 l_9 r_10).bind fun r13 =>
      (bif r13 then
        some false
      else
        rec2 n_0 m_1 k_2 c_7 e_8 l_9 (IntKind.i64.wrap (r_10 + 1)))))
  else
    rec1 n_0 m_1 k_2 c_7 e_8 (IntKind.i64.wrap (l_9 + 1)))
def PlanLeast_L2 (rec1 : Int → Int → Int → GConfig → Int → Int → Option (Bool)) : Nat → Int → Int → Int → GConfig → Int → Int → Int → Option (Bool)
  | 0 => fun _ _ _ _ _ _ _ => none
  | n + 1 => PlanLeast_B2 rec1 (PlanLeast_L2 rec1 n)
def PlanLeast_B1 (rec1 : Int → Int → Int → GConfig → Int → Int → Option (Bool)) (n_0 : Int) (m_1 : Int) (k_2 : Int) (c_7 : GConfig) (e_8 : Int) (l_9 : Int) : Option (Bool) :=
  (bif (decide (l_9 ≤ 16)) then
    PlanLeast_L2 rec1 FUEL n_0 m_1 k_2 c_7 e_8 l_9 1
  else
    ((gopt (((e_8 == 6) && ((c_7.N == 0) && ((c_7.L == 0) && (c_7.R == 0)))) == true) false (plAwake_m )).bind fun r15 =>
    some (((e_8 == 6) && ((c_7.N == 0) && ((c_7.L == 0) && (c_7.R == 0)))) && r15)))
def PlanLeast_L1 : Nat → Int → Int → Int → GConfig → Int → Int → Option (Bool)
  | 0 => fun _ _ _ _ _ _ => none
  | n + 1 => PlanLeast_B1 (PlanLeast_L1 n)
def PlanLeast_m (n_0 : Int) (m_1 : Int) (k_2 : Int) : Option (Bool) :=
  ((plPlan_m n_0 m_1 k_2).bind fun ⟨r2, r3⟩ =>
  ((rpMay_m n_0 m_1 1 1).bind fun r5 =>
  (bif (((!r5) || (decide (k_2 < 0))) || (decide (64 < k_2))) then
    ((gopt ((((r2.N == 0) && ((r2.L == 0) && (r2.R == 0))) && (r3 == 1)) == true) false (plAwake_m )).bind fun r7 =>
    some ((((r2.N == 0) && ((r2.L == 0) && (r2.R == 0))) && (r3 == 1)) && r7))
  else
    PlanLeast_L1 FUEL n_0 m_1 k_2 r2 r3 1)))
theorem PlanLeast_c {n_0 : Int} {m_1 : Int} {k_2 : Int} {r : Bool} (hm : PlanLeast_m n_0 m_1 k_2 = some r) : PureC Try.prog 4 [.v (.int .i64 n_0), .v (.int .i64 m_1), .v (.int .i64 k_2)] (.v (.bool r)) := by
  refine PureC.of_body Try.func4 rfl ?_
  simp only [Try.ntmps4, List.length_cons, List.length_nil, Nat.reduceAdd, Nat.reduceSub, empty_eq]
  unfold PlanLeast_m at hm
  refine sr (N' := 64) rfl ?_
  refine pu rfl (by simp only [go_sem, Nat.reduceBEq]; try with_reducible rfl) ?_
  refine fs ?_
  refine sr (N' := 128) rfl ?_
  iterate 3 refine pu rfl (by simp only [go_sem, Nat.reduceBEq]; try with_reducible rfl) ?_
  obtain ⟨⟨r2, r3⟩, h1, hm⟩ := bnd hm
  refine ARun.callQ (r := .tup [.agg [.v (.int .i64 r2.N), .v (.int .i64 r2.L), .v (.int .i64 r2.R)], .v (.int .i64 r3)]) (by decide) (by try simp only [go_sem, Nat.reduceBEq]; try rfl) fb18 (fun H => (.cons (td (by try simp only [go_sem, Nat.reduceBEq]; try rfl) (.v _)) (.cons (td (by try simp only [go_sem, Nat.reduceBEq]; try rfl) (.v _)) (.cons (td (by try simp only [go_sem, Nat.reduceBEq]; try rfl) (.v _)) .nil)))) (plPlan_c h1) ?_
  iterate 3 refine pu rfl (by simp only [go_sem, Nat.reduceBEq]; try with_reducible rfl) ?_
  refine hp (id := 71) rfl rfl (aheap_alloc' zc34 (by simp only [isFresh_upd, isFresh_no, Nat.reduceBEq, cond_true, cond_false])) ?_
  refine ARun.heap0 (id := 72) rfl (ah_var (ys := [.v (.int .i64 r2.N), .v (.int .i64 r2.L), .v (.int .i64 r2.R)]) sz34 (by try simp only [go_sem, Nat.reduceBEq]; try rfl) (by try simp only [go_sem, Nat.reduceBEq]; try rfl) (by simp only [upd_beq, Nat.reduceBEq, cond_true, cond_false]; try rfl) rfl (Nat.le_of_ble_eq_true rfl) (by first | rfl | (simp [AV.one]; done)) rfl) ?_
  refine pu rfl (by simp only [go_sem, Nat.reduceBEq]; try with_reducible rfl) ?_
  refine fs ?_
  refine AWp.seq' ?_
  refine sr (N' := 192) rfl ?_
  iterate 2 refine pu rfl (by simp only [go_sem, Nat.reduceBEq]; try with_reducible rfl) ?_
  obtain ⟨r5, h4, hm⟩ := bnd hm
  refine ARun.callQ (r := .v (.bool r5)) (by decide) (by try simp only [go_sem, Nat.reduceBEq]; try rfl) fb9 (fun H => (.cons (td (by try simp only [go_sem, Nat.reduceBEq]; try rfl) (.v _)) (.cons (td (by try simp only [go_sem, Nat.reduceBEq]; try rfl) (.v _)) (.cons (td (by try simp only [go_sem, Nat.reduceBEq]; try rfl) (.v _)) (.cons (td (by try simp only [go_sem, Nat.reduceBEq]; try rfl) (.v _)) .nil))))) (rpMay_c h4) ?_
  iterate 9 (first | refine pu rfl (by simp only [go_sem, Nat.reduceBEq]; try with_reducible rfl) ?_ | refine pg rfl rfl (by simp only [go_sem, Nat.reduceBEq]; try with_reducible rfl) (by intro hb; simp only [go_sem, Nat.reduceBEq, hb, Bool.true_and]; try with_reducible rfl) ?_)
  refine fs ?_
  refine AWp.condM hm (by try simp only [go_sem, Nat.reduceBEq]; try rfl) (fun _ hm => ?_) (fun _ hm => ?_)
  · refine sr (N' := 256) rfl ?_
    refine pu rfl (ap_ldv (by try simp only [go_sem, Nat.reduceBEq]; try rfl) (by simp only [upd_beq, Nat.reduceBEq, cond_true, cond_false]; try rfl) (by simp only [go_sem, Nat.reduceBEq]; try with_reducible rfl)) ?_
    refine pu rfl (by simp only [go_sem, Nat.reduceBEq]; exact (by kernel_rfl : abuild Try.prog 34 [] = some (.agg [.v (.int .i64 0), .v (.int .i64 0), .v (.int .i64 0)]))) ?_
    iterate 6 (first | refine pu rfl (by simp only [go_sem, Nat.reduceBEq]; try with_reducible rfl) ?_ | refine pg rfl rfl (by simp only [go_sem, Nat.reduceBEq]; try with_reducible rfl) (by intro hb; simp only [go_sem, Nat.reduceBEq, hb, Bool.true_and]; try with_reducible rfl) ?_)
    obtain ⟨r7, h6, hm⟩ := bnd hm
    refine ARun.callQG (r := .v (.bool r7)) (by decide) rfl (by simp only [go_sem, Nat.reduceBEq]; try with_reducible rfl) (by try simp only [go_sem, Nat.reduceBEq]; try rfl) fb10 (fun hb H => .nil) (fun hb => plAwake_c (gopt_t h6 hb)) ?_
    iterate 2 refine pu rfl (by simp only [go_sem, Nat.reduceBEq]; try with_reducible rfl) ?_
    refine fs ?_
    refine AWp.ret ?_
    refine retSeq ?_
    cases hm
    exact ret1D (.inr rfl) Try.results4 (td (by try simp only [go_sem, Nat.reduceBEq]; try rfl) (.v _))
  · refine AWp.skip ?_
    refine normSeq ?_
    refine AWp.seq' ?_
    refine sr (N' := 256) rfl ?_
    refine pu rfl (by simp only [go_sem, Nat.reduceBEq]; try with_reducible rfl) ?_
    refine fs ?_
    refine AWp.block ?_
    refine AWp.loopM (fun m s => ∃ (n_0 : Int) (m_1 : Int) (k_2 : Int) (c_7 : GConfig) (e_8 : Int) (l_9 : Int), s = (⟨93, (fset (fset (fset (fset (fset (fset (fun _ => AV.any) 0 (.v (.int .i64 n_0))) 1 (.v (.int .i64 m_1))) 2 (.v (.int .i64 k_2))) 7 (.adr 1 0)) 8 (.v (.int .i64 e_8))) 9 (.v (.int .i64 l_9))), ⟨(upd nofresh 1 (.cells 1 [.v (.int .i64 c_7.N), .v (.int .i64 c_7.L), .v (.int .i64 c_7.R)] 0)), 64⟩⟩ : St) ∧ PlanLeast_L1 m n_0 m_1 k_2 c_7 e_8 l_9 = some r) FUEL ?_ ?_ ?_
    · rintro s ⟨_, _, _, _, _, _, _, h⟩
      cases h
    · refine ⟨_, ?_, n_0, m_1, k_2, r2, r3, 1, rfl, hm⟩
      exact le_canon (fun j => bif j == 1 then 71 else 0) (wk_fset _ _ (wk_data (by try simp only [go_sem, Nat.reduceBEq]; try rfl) (.v _)) (wk_fset _ _ (wk_data (by try simp only [go_sem, Nat.reduceBEq]; try rfl) (.v _)) (wk_fset _ _ (wk_adr (by try simp only [go_sem, Nat.reduceBEq]; try rfl) rfl (by simp [upd])) (wk_fset _ _ (wk_data (by try simp only [go_sem, Nat.reduceBEq]; try rfl) (.v _)) (wk_fset _ _ (wk_data (by try simp only [go_sem, Nat.reduceBEq]; try rfl) (.v _)) (wk_fset _ _ (wk_data (by try simp only [go_sem, Nat.reduceBEq]; try rfl) (.v _)) wk_none)))))) (heapWk_of _ (entWk_upd (entWk_data (by simp only [upd_beq, Nat.reduceBEq, cond_true, cond_false]; try rfl) (Nat.le_refl _) (Nat.zero_le _) (CFGConfig.dat r2)) entWk_none) (by repeat' (first | exact inj_none | exact liv_none | refine inj_upd ?_ ?_ | refine liv_upd ?_ ?_ | exact .inl rfl | exact .inr (by decide))))
    · rintro n1 s ⟨n_0, m_1, k_2, c_7, e_8, l_9, rfl, hm⟩
      replace hm : PlanLeast_B1 (PlanLeast_L1 n1) n_0 m_1 k_2 c_7 e_8 l_9 = some r := hm
      unfold PlanLeast_B1 at hm
      refine AWp.seq' ?_
      refine sr (N' := 128) rfl ?_
      iterate 2 refine pu rfl (by simp only [go_sem, Nat.reduceBEq]; try with_reducible rfl) ?_
      refine fs ?_
      refine AWp.condM hm (by try simp only [go_sem, Nat.reduceBEq]; try rfl) (fun _ hm => ?_) (fun _ hm => ?_)
      · refine AWp.skip ?_
        refine normSeq ?_
        refine AWp.seq' ?_
        refine AWp.block ?_
        refine sr (N' := 192) rfl ?_
        refine pu rfl (by simp only [go_sem, Nat.reduceBEq]; try with_reducible rfl) ?_
        refine fs ?_
        refine AWp.block ?_
        refine AWp.loopM (fun m s => ∃ (n_0 : Int) (m_1 : Int) (k_2 : Int) (c_7 : GConfig) (e_8 : Int) (l_9 : Int) (r_10 : Int), s = (⟨93, (fset (fset (fset (fset (fset (fset (fset (fun _ => AV.any) 0 (.v (.int .i64 n_0))) 1 (.v (.int .i64 m_1))) 2 (.v (.int .i64 k_2))) 7 (.adr 1 0)) 8 (.v (.int .i64 e_8))) 9 (.v (.int .i64 l_9))) 10 (.v (.int .i64 r_10))), ⟨(upd nofresh 1 (.cells 1 [.v (.int .i64 c_7.N), .v (.int .i64 c_7.L), .v (.int .i64 c_7.R)] 0)), 64⟩⟩ : St) ∧ PlanLeast_L2 (PlanLeast_L1 n1) m n_0 m_1 k_2 c_7 e_8 l_9 r_10 = some r) FUEL ?_ ?_ ?_
        · rintro s ⟨_, _, _, _, _, _, _, _, h⟩
          cases h
        · refine ⟨_, ?_, n_0, m_1, k_2, c_7, e_8, l_9, 1, rfl, hm⟩
          exact le_canon (fun j => bif j == 1 then 1 else 0) (wk_fset _ _ (wk_data (by try simp only [go_sem, Nat.reduceBEq]; try rfl) (.v _)) (wk_fset _ _ (wk_data (by try simp only [go_sem, Nat.reduceBEq]; try rfl) (.v _)) (wk_fset _ _ (wk_data (by try simp only [go_sem, Nat.reduceBEq]; try rfl) (.v _)) (wk_fset _ _ (wk_adr (by try simp only [go_sem, Nat.reduceBEq]; try rfl) rfl (by simp [upd])) (wk_fset _ _ (wk_data (by try simp only [go_sem, Nat.reduceBEq]; try rfl) (.v _)) (wk_fset _ _ (wk_data (by try simp only [go_sem, Nat.reduceBEq]; try rfl) (.v _)) (wk_fset _ _ (wk_data (by try simp only [go_sem, Nat.reduceBEq]; try rfl) (.v _)) wk_none))))))) (heapWk_of _ (entWk_upd (entWk_data (by simp only [upd_beq, Nat.reduceBEq, cond_true, cond_false]; try rfl) (Nat.le_refl _) (Nat.zero_le _) (CFGConfig.dat c_7)) entWk_none) (by repeat' (first | exact inj_none | exact liv_none | refine inj_upd ?_ ?_ | refine liv_upd ?_ ?_ | exact .inl rfl | exact .inr (by decide))))
        · rintro n2 s ⟨n_0, m_1, k_2, c_7, e_8, l_9, r_10, rfl, hm⟩
          replace hm : PlanLeast_B2 (PlanLeast_L1 n1) (PlanLeast_L2 (PlanLeast_L1 n1) n2) n_0 m_1 k_2 c_7 e_8 l_9 r_10 = some r := hm
          unfold PlanLeast_B2 at hm
          refine AWp.seq' ?_
          refine sr (N' := 128) rfl ?_
          iterate 2 refine pu rfl (by simp only [go_sem, Nat.reduceBEq]; try with_reducible rfl) ?_
          refine fs ?_
          refine AWp.condM hm (by try simp only [go_sem, Nat.reduceBEq]; try rfl) (fun _ hm => ?_) (fun _ hm => ?_)
          · refine AWp.skip ?_
            refine normSeq ?_
            refine AWp.seq' ?_
            refine AWp.block ?_
            refine AWp.seq' ?_
            refine sr (N' := 192) rfl ?_
            iterate 5 (first | refine pu rfl (by simp only [go_sem, Nat.reduceBEq]; try with_reducible rfl) ?_ | refine pg rfl rfl (by simp only [go_sem, Nat.reduceBEq]; try with_reducible rfl) (by intro hb; simp only [go_sem, Nat.reduceBEq, hb, Bool.true_and]; try with_reducible rfl) ?_)
            refine pg rfl rfl (by simp only [go_sem, Nat.reduceBEq]; try with_reducible rfl) (fun hb => (ap_ldv (by try simp only [go_sem, Nat.reduceBEq, hb, Bool.true_and]; try rfl) (by simp only [upd_beq, Nat.reduceBEq, cond_true, cond_false]; try rfl) (by simp only [go_sem, Nat.reduceBEq, Nat.reduceAdd]; try with_reducible rfl))) ?_
            iterate 5 (first | refine pu rfl (by simp only [go_sem, Nat.reduceBEq]; try with_reducible rfl) ?_ | refine pg rfl rfl (by simp only [go_sem, Nat.reduceBEq]; try with_reducible rfl) (by intro hb; simp only [go_sem, Nat.reduceBEq, hb, Bool.true_and]; try with_reducible rfl) ?_)
            refine pg rfl rfl (by simp only [go_sem, Nat.reduceBEq]; try with_reducible rfl) (fun hb => (ap_ldv (by try simp only [go_sem, Nat.reduceBEq, hb, Bool.true_and]; try rfl) (by simp only [upd_beq, Nat.reduceBEq, cond_true, cond_false]; try rfl) (by simp only [go_sem, Nat.reduceBEq, Nat.reduceAdd]; try with_reducible rfl))) ?_
            iterate 2 (first | refine pu rfl (by simp only [go_sem, Nat.reduceBEq]; try with_reducible rfl) ?_ | refine pg rfl rfl (by simp only [go_sem, Nat.reduceBEq]; try with_reducible rfl) (by intro hb; simp only [go_sem, Nat.reduceBEq, hb, Bool.true_and]; try with_reducible rfl) ?_)
            refine fs ?_
            refine AWp.condM hm (by try simp only [go_sem, Nat.reduceBEq]; try rfl) (fun _ hm => ?_) (fun _ hm => ?_)
            · refine sr (N' := 256) rfl ?_
              refine pu rfl (by simp only [go_sem, Nat.reduceBEq]; try with_reducible rfl) ?_
              refine pu rfl (ap_ldv (by try simp only [go_sem, Nat.reduceBEq]; try rfl) (by simp only [upd_beq, Nat.reduceBEq, cond_true, cond_false]; try rfl) (by simp only [go_sem, Nat.reduceBEq, Nat.reduceAdd]; try with_reducible rfl)) ?_
              iterate 8 (first | refine pu rfl (by simp only [go_sem, Nat.reduceBEq]; try with_reducible rfl) ?_ | refine pg rfl rfl (by simp only [go_sem, Nat.reduceBEq]; try with_reducible rfl) (by intro hb; simp only [go_sem, Nat.reduceBEq, hb, Bool.true_and]; try with_reducible rfl) ?_)
              obtain ⟨r9, h8, hm⟩ := bnd hm
              refine ARun.callQG (r := .v (.bool r9)) (by decide) rfl (by simp only [go_sem, Nat.reduceBEq]; try with_reducible rfl) (by try simp only [go_sem, Nat.reduceBEq]; try rfl) fb15 (fun hb H => (.cons (td (by try simp only [go_sem, Nat.reduceBEq, hb, Bool.true_and]; try rfl) (.v _)) (.cons (td (by try simp only [go_sem, Nat.reduceBEq, hb, Bool.true_and]; try rfl) (.v _)) (.cons (td (by try simp only [go_sem, Nat.reduceBEq, hb, Bool.true_and]; try rfl) (.v _)) (.cons (td (by try simp only [go_sem, Nat.reduceBEq, hb, Bool.true_and]; try rfl) (.v _)) (.cons (td (by try simp only [go_sem, Nat.reduceBEq, hb, Bool.true_and]; try rfl) (.v _)) .nil)))))) (fun hb => plEnough_c (gopt_t h8 hb)) ?_
              iterate 2 refine pu rfl (by simp only [go_sem, Nat.reduceBEq]; try with_reducible rfl) ?_
              obtain ⟨r11, h10, hm⟩ := bnd hm
              refine ARun.callQG (r := .v (.bool r11)) (by decide) rfl (by simp only [go_sem, Nat.reduceBEq]; try with_reducible rfl) (by try simp only [go_sem, Nat.reduceBEq]; try rfl) fb10 (fun hb H => .nil) (fun hb => plAwake_c (gopt_t h10 hb)) ?_
              iterate 2 refine pu rfl (by simp only [go_sem, Nat.reduceBEq]; try with_reducible rfl) ?_
              refine fs ?_
              refine AWp.ret ?_
              refine retSeq ?_
              refine retIn ?_
              refine retSeq ?_
              refine retThen ?_
              refine retIn ?_
              refine retIn ?_
              refine retSeq ?_
              refine retThen ?_
              refine retIn ?_
              refine retSeq ?_
              cases hm
              exact ret1D (.inr rfl) Try.results4 (td (by try simp only [go_sem, Nat.reduceBEq]; try rfl) (.v _))
            · refine AWp.skip ?_
              refine normSeq ?_
              refine sr (N' := 256) rfl ?_
              iterate 5 refine pu rfl (by simp only [go_sem, Nat.reduceBEq]; try with_reducible rfl) ?_
              obtain ⟨r13, h12, hm⟩ := bnd hm
              refine ARun.callQ (r := .v (.bool r13)) (by decide) (by try simp only [go_sem, Nat.reduceBEq]; try rfl) fb15 (fun H => (.cons (td (by try simp only [go_sem, Nat.reduceBEq]; try rfl) (.v _)) (.cons (td (by try simp only [go_sem, Nat.reduceBEq]; try rfl) (.v _)) (.cons (td (by try simp only [go_sem, Nat.reduceBEq]; try rfl) (.v _)) (.cons (td (by try simp only [go_sem, Nat.reduceBEq]; try rfl) (.v _)) (.cons (td (by try simp only [go_sem, Nat.reduceBEq]; try rfl) (.v _)) .nil)))))) (plEnough_c h12) ?_
              refine fs ?_
              refine AWp.condM hm (by try simp only [go_sem, Nat.reduceBEq]; try rfl) (fun _ hm => ?_) (fun _ hm => ?_)
              · refine sr (N' := 320) rfl ?_
                refine pu rfl (by simp only [go_sem, Nat.reduceBEq]; try with_reducible rfl) ?_
                refine fs ?_
                refine AWp.ret ?_
                refine retIn ?_
                refine retSeq ?_
                refine retThen ?_
                refine retIn ?_
                refine retIn ?_
                refine retSeq ?_
                refine retThen ?_
                refine retIn ?_
                refine retSeq ?_
                cases hm
                exact ret1D (.inr rfl) Try.results4 (td (by try simp only [go_sem, Nat.reduceBEq]; try rfl) (.v _))
              · refine AWp.skip ?_
                refine normIn ?_
                refine normSeq ?_
                refine AWp.reg 64 (N' := 320) rfl ?_
                iterate 3 refine pu rfl (by simp only [go_sem, Nat.reduceBEq]; try with_reducible rfl) ?_
                refine ARun.fin ?_
                refine normThen ?_
                refine ⟨_, ?_, n_0, m_1, k_2, c_7, e_8, l_9, (IntKind.i64.wrap (r_10 + 1)), rfl, hm⟩
                exact le_canon (fun j => bif j == 1 then 1 else 0) (wk_fset _ _ (wk_data (by try simp only [go_sem, Nat.reduceBEq]; try rfl) (.v _)) (wk_fset _ _ (wk_data (by try simp only [go_sem, Nat.reduceBEq]; try rfl) (.v _)) (wk_fset _ _ (wk_data (by try simp only [go_sem, Nat.reduceBEq]; try rfl) (.v _)) (wk_fset _ _ (wk_adr (by try simp only [go_sem, Nat.reduceBEq]; try rfl) rfl (by simp [upd])) (wk_fset _ _ (wk_data (by try simp only [go_sem, Nat.reduceBEq]; try rfl) (.v _)) (wk_fset _ _ (wk_data (by try simp only [go_sem, Nat.reduceBEq]; try rfl) (.v _)) (wk_fset _ _ (wk_data (by try simp only [go_sem, Nat.reduceBEq]; try rfl) (.v _)) wk_none))))))) (heapWk_of _ (entWk_upd (entWk_data (by simp only [upd_beq, Nat.reduceBEq, cond_true, cond_false]; try rfl) (Nat.le_refl _) (Nat.zero_le _) (CFGConfig.dat c_7)) entWk_none) (by repeat' (first | exact inj_none | exact liv_none | refine inj_upd ?_ ?_ | refine liv_upd ?_ ?_ | exact .inl rfl | exact .inr (by decide))))
          · refine AWp.exit ?_
            refine exitSeq ?_
            refine exitThen ?_
            refine exitHere ?_
            refine normIn ?_
            refine normSeq ?_
            refine AWp.reg 64 (N' := 192) rfl ?_
            iterate 3 refine pu rfl (by simp only [go_sem, Nat.reduceBEq]; try with_reducible rfl) ?_
            refine ARun.fin ?_
            refine normThen ?_
            refine ⟨_, ?_, n_0, m_1, k_2, c_7, e_8, (IntKind.i64.wrap (l_9 + 1)), rfl, hm⟩
            exact le_canon (fun j => bif j == 1 then 1 else 0) (wk_fset _ _ (wk_data (by try simp only [go_sem, Nat.reduceBEq]; try rfl) (.v _)) (wk_fset _ _ (wk_data (by try simp only [go_sem, Nat.reduceBEq]; try rfl) (.v _)) (wk_fset _ _ (wk_adr (by try simp only [go_sem, Nat.reduceBEq]; try rfl) rfl (by simp [upd])) (wk_fset _ _ (wk_data (by try simp only [go_sem, Nat.reduceBEq]; try rfl) (.v _)) (wk_fset _ _ (wk_data (by try simp only [go_sem, Nat.reduceBEq]; try rfl) (.v _)) (wk_fset _ _ (wk_data (by try simp only [go_sem, Nat.reduceBEq]; try rfl) (.v _)) wk_none)))))) (heapWk_of _ (entWk_upd (entWk_data (by simp only [upd_beq, Nat.reduceBEq, cond_true, cond_false]; try rfl) (Nat.le_refl _) (Nat.zero_le _) (CFGConfig.dat c_7)) entWk_none) (by repeat' (first | exact inj_none | exact liv_none | refine inj_upd ?_ ?_ | refine liv_upd ?_ ?_ | exact .inl rfl | exact .inr (by decide))))
      · refine AWp.exit ?_
        refine exitSeq ?_
        refine exitThen ?_
        refine exitHere ?_
        refine normSeq ?_
        refine sr (N' := 192) rfl ?_
        iterate 3 refine pu rfl (by simp only [go_sem, Nat.reduceBEq]; try with_reducible rfl) ?_
        refine pg rfl rfl (by simp only [go_sem, Nat.reduceBEq]; try with_reducible rfl) (fun hb => (ap_ldv (by try simp only [go_sem, Nat.reduceBEq, hb, Bool.true_and]; try rfl) (by simp only [upd_beq, Nat.reduceBEq, cond_true, cond_false]; try rfl) (by simp only [go_sem, Nat.reduceBEq]; try with_reducible rfl))) ?_
        refine pg rfl rfl (by simp only [go_sem, Nat.reduceBEq]; try with_reducible rfl) (fun hb => (by simp only [go_sem, Nat.reduceBEq, hb, Bool.true_and]; exact (by kernel_rfl : abuild Try.prog 34 [] = some (.agg [.v (.int .i64 0), .v (.int .i64 0), .v (.int .i64 0)])))) ?_
        iterate 3 (first | refine pu rfl (by simp only [go_sem, Nat.reduceBEq]; try with_reducible rfl) ?_ | refine pg rfl rfl (by simp only [go_sem, Nat.reduceBEq]; try with_reducible rfl) (by intro hb; simp only [go_sem, Nat.reduceBEq, hb, Bool.true_and]; try with_reducible rfl) ?_)
        obtain ⟨r15, h14, hm⟩ := bnd hm
        refine ARun.callQG (r := .v (.bool r15)) (by decide) rfl (by simp only [go_sem, Nat.reduceBEq]; try with_reducible rfl) (by try simp only [go_sem, Nat.reduceBEq]; try rfl) fb10 (fun hb H => .nil) (fun hb => plAwake_c (gopt_t h14 hb)) ?_
        iterate 2 refine pu rfl (by simp only [go_sem, Nat.reduceBEq]; try with_reducible rfl) ?_
        refine fs ?_
        refine AWp.ret ?_
        cases hm
        exact ret1D (.inr rfl) Try.results4 (td (by try simp only [go_sem, Nat.reduceBEq]; try rfl) (.v _))
def PlanMore_m (n_0 : Int) (m_1 : Int) (k_2 : Int) (l_3 : Int) (r_4 : Int) : Option (Bool) :=
  ((plEnough_m n_0 m_1 k_2 l_3 r_4).bind fun r2 =>
  (bif (!r2) then
    ((plAwake_m ).bind fun r4 =>
    some r4)
  else
    ((gopt ((decide (l_3 < 16)) == true) false (plEnough_m n_0 m_1 k_2 (IntKind.i64.wrap (l_3 + 1)) r_4)).bind fun r6 =>
    ((gopt ((((decide (l_3 < 16)) && (!r6)) == false) && ((decide (r_4 < 8)) == true)) false (plEnough_m n_0 m_1 k_2 l_3 (IntKind.i64.wrap (r_4 + 1)))).bind fun r8 =>
    (bif (((decide (l_3 < 16)) && (!r6)) || ((decide (r_4 < 8)) && (!r8))) then
      some false
    else
      ((plEnough_m n_0 m_1 (IntKind.i64.wrap (Int.tdiv k_2 2)) l_3 r_4).bind fun r10 =>
      ((gopt (r10 == true) false (plEnough_m n_0 (IntKind.i64.wrap (Int.tdiv m_1 2)) k_2 l_3 r_4)).bind fun r12 =>
      ((gopt ((r10 && r12) == true) false (plEnough_m (IntKind.i64.wrap (Int.tdiv (IntKind.i64.wrap (n_0 + 1)) 2)) m_1 k_2 l_3 r_4)).bind fun r14 =>
      ((gopt (((r10 && r12) && r14) == true) false (plAwake_m )).bind fun r16 =>
      some (((r10 && r12) && r14) && r16))))))))))
theorem PlanMore_c {n_0 : Int} {m_1 : Int} {k_2 : Int} {l_3 : Int} {r_4 : Int} {r : Bool} (hm : PlanMore_m n_0 m_1 k_2 l_3 r_4 = some r) : PureC Try.prog 5 [.v (.int .i64 n_0), .v (.int .i64 m_1), .v (.int .i64 k_2), .v (.int .i64 l_3), .v (.int .i64 r_4)] (.v (.bool r)) := by
  refine PureC.of_body Try.func5 rfl ?_
  simp only [Try.ntmps5, List.length_cons, List.length_nil, Nat.reduceAdd, Nat.reduceSub, empty_eq]
  unfold PlanMore_m at hm
  refine sr (N' := 64) rfl ?_
  refine pu rfl (by simp only [go_sem, Nat.reduceBEq]; try with_reducible rfl) ?_
  refine fs ?_
  refine AWp.seq' ?_
  refine sr (N' := 128) rfl ?_
  iterate 5 refine pu rfl (by simp only [go_sem, Nat.reduceBEq]; try with_reducible rfl) ?_
  obtain ⟨r2, h1, hm⟩ := bnd hm
  refine ARun.callQ (r := .v (.bool r2)) (by decide) (by try simp only [go_sem, Nat.reduceBEq]; try rfl) fb15 (fun H => (.cons (td (by try simp only [go_sem, Nat.reduceBEq]; try rfl) (.v _)) (.cons (td (by try simp only [go_sem, Nat.reduceBEq]; try rfl) (.v _)) (.cons (td (by try simp only [go_sem, Nat.reduceBEq]; try rfl) (.v _)) (.cons (td (by try simp only [go_sem, Nat.reduceBEq]; try rfl) (.v _)) (.cons (td (by try simp only [go_sem, Nat.reduceBEq]; try rfl) (.v _)) .nil)))))) (plEnough_c h1) ?_
  refine pu rfl (by simp only [go_sem, Nat.reduceBEq]; try with_reducible rfl) ?_
  refine fs ?_
  refine AWp.condM hm (by try simp only [go_sem, Nat.reduceBEq]; try rfl) (fun _ hm => ?_) (fun _ hm => ?_)
  · refine sr (N' := 192) rfl ?_
    obtain ⟨r4, h3, hm⟩ := bnd hm
    refine ARun.callQ (r := .v (.bool r4)) (by decide) (by try simp only [go_sem, Nat.reduceBEq]; try rfl) fb10 (fun H => .nil) (plAwake_c h3) ?_
    refine pu rfl (by simp only [go_sem, Nat.reduceBEq]; try with_reducible rfl) ?_
    refine fs ?_
    refine AWp.ret ?_
    refine retSeq ?_
    cases hm
    exact ret1D (.inr rfl) Try.results5 (td (by try simp only [go_sem, Nat.reduceBEq]; try rfl) (.v _))
  · refine AWp.skip ?_
    refine normSeq ?_
    refine AWp.seq' ?_
    refine sr (N' := 192) rfl ?_
    iterate 9 (first | refine pu rfl (by simp only [go_sem, Nat.reduceBEq]; try with_reducible rfl) ?_ | refine pg rfl rfl (by simp only [go_sem, Nat.reduceBEq]; try with_reducible rfl) (by intro hb; simp only [go_sem, Nat.reduceBEq, hb, Bool.true_and]; try with_reducible rfl) ?_)
    obtain ⟨r6, h5, hm⟩ := bnd hm
    refine ARun.callQG (r := .v (.bool r6)) (by decide) rfl (by simp only [go_sem, Nat.reduceBEq]; try with_reducible rfl) (by try simp only [go_sem, Nat.reduceBEq]; try rfl) fb15 (fun hb H => (.cons (td (by try simp only [go_sem, Nat.reduceBEq, hb, Bool.true_and]; try rfl) (.v _)) (.cons (td (by try simp only [go_sem, Nat.reduceBEq, hb, Bool.true_and]; try rfl) (.v _)) (.cons (td (by try simp only [go_sem, Nat.reduceBEq, hb, Bool.true_and]; try rfl) (.v _)) (.cons (td (by try simp only [go_sem, Nat.reduceBEq, hb, Bool.true_and]; try rfl) (.v _)) (.cons (td (by try simp only [go_sem, Nat.reduceBEq, hb, Bool.true_and]; try rfl) (.v _)) .nil)))))) (fun hb => plEnough_c (gopt_t h5 hb)) ?_
    iterate 12 (first | refine pu rfl (by simp only [go_sem, Nat.reduceBEq]; try with_reducible rfl) ?_ | refine pg rfl rfl (by simp only [go_sem, Nat.reduceBEq]; try with_reducible rfl) (by intro hb; simp only [go_sem, Nat.reduceBEq, hb, Bool.true_and]; try with_reducible rfl) ?_)
    obtain ⟨r8, h7, hm⟩ := bnd hm
    refine ARun.callQG (r := .v (.bool r8)) (by decide) rfl (by simp only [go_sem, Nat.reduceBEq]; try with_reducible rfl) (by try simp only [go_sem, Nat.reduceBEq]; try rfl) fb15 (fun hb H => (.cons (td (by try simp only [go_sem, Nat.reduceBEq, hb, Bool.true_and]; try rfl) (.v _)) (.cons (td (by try simp only [go_sem, Nat.reduceBEq, hb, Bool.true_and]; try rfl) (.v _)) (.cons (td (by try simp only [go_sem, Nat.reduceBEq, hb, Bool.true_and]; try rfl) (.v _)) (.cons (td (by try simp only [go_sem, Nat.reduceBEq, hb, Bool.true_and]; try rfl) (.v _)) (.cons (td (by try simp only [go_sem, Nat.reduceBEq, hb, Bool.true_and]; try rfl) (.v _)) .nil)))))) (fun hb => plEnough_c (gopt_t h7 hb)) ?_
    iterate 3 (first | refine pu rfl (by simp only [go_sem, Nat.reduceBEq]; try with_reducible rfl) ?_ | refine pg rfl rfl (by simp only [go_sem, Nat.reduceBEq]; try with_reducible rfl) (by intro hb; simp only [go_sem, Nat.reduceBEq, hb, Bool.true_and]; try with_reducible rfl) ?_)
    refine fs ?_
    refine AWp.condM hm (by try simp only [go_sem, Nat.reduceBEq]; try rfl) (fun _ hm => ?_) (fun _ hm => ?_)
    · refine sr (N' := 256) rfl ?_
      refine pu rfl (by simp only [go_sem, Nat.reduceBEq]; try with_reducible rfl) ?_
      refine fs ?_
      refine AWp.ret ?_
      refine retSeq ?_
      cases hm
      exact ret1D (.inr rfl) Try.results5 (td (by try simp only [go_sem, Nat.reduceBEq]; try rfl) (.v _))
    · refine AWp.skip ?_
      refine normSeq ?_
      refine sr (N' := 256) rfl ?_
      iterate 6 refine pu rfl (by simp only [go_sem, Nat.reduceBEq, Int.reduceEq, Int.reduceLE]; try with_reducible rfl) ?_
      obtain ⟨r10, h9, hm⟩ := bnd hm
      refine ARun.callQ (r := .v (.bool r10)) (by decide) (by try simp only [go_sem, Nat.reduceBEq]; try rfl) fb15 (fun H => (.cons (td (by try simp only [go_sem, Nat.reduceBEq]; try rfl) (.v _)) (.cons (td (by try simp only [go_sem, Nat.reduceBEq]; try rfl) (.v _)) (.cons (td (by try simp only [go_sem, Nat.reduceBEq]; try rfl) (.v _)) (.cons (td (by try simp only [go_sem, Nat.reduceBEq]; try rfl) (.v _)) (.cons (td (by try simp only [go_sem, Nat.reduceBEq]; try rfl) (.v _)) .nil)))))) (plEnough_c h9) ?_
      iterate 7 (first | refine pu rfl (by simp only [go_sem, Nat.reduceBEq, Int.reduceEq, Int.reduceLE]; try with_reducible rfl) ?_ | refine pg rfl rfl (by simp only [go_sem, Nat.reduceBEq, Int.reduceEq, Int.reduceLE]; try with_reducible rfl) (by intro hb; simp only [go_sem, Nat.reduceBEq, Int.reduceEq, Int.reduceLE, hb, Bool.true_and]; try with_reducible rfl) ?_)
      obtain ⟨r12, h11, hm⟩ := bnd hm
      refine ARun.callQG (r := .v (.bool r12)) (by decide) rfl (by simp only [go_sem, Nat.reduceBEq]; try with_reducible rfl) (by try simp only [go_sem, Nat.reduceBEq]; try rfl) fb15 (fun hb H => (.cons (td (by try simp only [go_sem, Nat.reduceBEq, hb, Bool.true_and]; try rfl) (.v _)) (.cons (td (by try simp only [go_sem, Nat.reduceBEq, hb, Bool.true_and]; try rfl) (.v _)) (.cons (td (by try simp only [go_sem, Nat.reduceBEq, hb, Bool.true_and]; try rfl) (.v _)) (.cons (td (by try simp only [go_sem, Nat.reduceBEq, hb, Bool.true_and]; try rfl) (.v _)) (.cons (td (by try simp only [go_sem, Nat.reduceBEq, hb, Bool.true_and]; try rfl) (.v _)) .nil)))))) (fun hb => plEnough_c (gopt_t h11 hb)) ?_
      iterate 9 (first | refine pu rfl (by simp only [go_sem, Nat.reduceBEq, Int.reduceEq, Int.reduceLE]; try with_reducible rfl) ?_ | refine pg rfl rfl (by simp only [go_sem, Nat.reduceBEq, Int.reduceEq, Int.reduceLE]; try with_reducible rfl) (by intro hb; simp only [go_sem, Nat.reduceBEq, Int.reduceEq, Int.reduceLE, hb, Bool.true_and]; try with_reducible rfl) ?_)
      obtain ⟨r14, h13, hm⟩ := bnd hm
      refine ARun.callQG (r := .v (.bool r14)) (by decide) rfl (by simp only [go_sem, Nat.reduceBEq]; try with_reducible rfl) (by try simp only [go_sem, Nat.reduceBEq]; try rfl) fb15 (fun hb H => (.cons (td (by try simp only [go_sem, Nat.reduceBEq, hb, Bool.true_and]; try rfl) (.v _)) (.cons (td (by try simp only [go_sem, Nat.reduceBEq, hb, Bool.true_and]; try rfl) (.v _)) (.cons (td (by try simp only [go_sem, Nat.reduceBEq, hb, Bool.true_and]; try rfl) (.v _)) (.cons (td (by try simp only [go_sem, Nat.reduceBEq, hb, Bool.true_and]; try rfl) (.v _)) (.cons (td (by try simp only [go_sem, Nat.reduceBEq, hb, Bool.true_and]; try rfl) (.v _)) .nil)))))) (fun hb => plEnough_c (gopt_t h13 hb)) ?_
      iterate 2 refine pu rfl (by simp only [go_sem, Nat.reduceBEq]; try with_reducible rfl) ?_
      obtain ⟨r16, h15, hm⟩ := bnd hm
      refine ARun.callQG (r := .v (.bool r16)) (by decide) rfl (by simp only [go_sem, Nat.reduceBEq]; try with_reducible rfl) (by try simp only [go_sem, Nat.reduceBEq]; try rfl) fb10 (fun hb H => .nil) (fun hb => plAwake_c (gopt_t h15 hb)) ?_
      iterate 2 refine pu rfl (by simp only [go_sem, Nat.reduceBEq]; try with_reducible rfl) ?_
      refine fs ?_
      refine AWp.ret ?_
      cases hm
      exact ret1D (.inr rfl) Try.results5 (td (by try simp only [go_sem, Nat.reduceBEq]; try rfl) (.v _))
def PlanSteps_B1 (rec1 : Int → Int → Int → Int → List Int → Int → List Int → Int → List Int → Int → List Int → Int → Int → Int → Int → Int → Option (Bool)) (a_9 : Int) (b_10 : Int) (i_11 : Int) (k_12 : Int) (w_13 : List Int) (e_14 : Int) (x_15 : List Int) (f_16 : Int) (y_17 : List Int) (g_18 : Int) (z_19 : List Int) (h_20 : Int) (row_21 : Int) (seven_22 : Int) (t78 : Int) (t79 : Int) : Option (Bool) :=
  (bif (decide (t79 < t78)) then
    rec1 a_9 b_10 i_11 k_12 w_13 e_14 x_15 f_16 y_17 g_18 z_19 h_20 (IntKind.u64.wrap (8 * row_21)) (IntKind.u64.wrap (7 * seven_22)) t78 (IntKind.i64.wrap (t79 + 1))
  else
    ((natOf_m (IntKind.u64.wrap (row_21 + seven_22))).bind fun r14 =>
    ((natMul_m w_13 r14).bind fun ⟨r16, r17⟩ =>
    ((natOf_m (IntKind.u64.wrap (2 * row_21))).bind fun r19 =>
    ((natMul_m y_17 r19).bind fun ⟨r21, r22⟩ =>
    ((plWeight_m 1 b_10 i_11 k_12).bind fun ⟨r24, r25⟩ =>
    ((plWeight_m (IntKind.i64.wrap (a_9 + 1)) b_10 i_11 k_12).bind fun ⟨r27, r28⟩ =>
    ((natAdd_m w_13 r24).bind fun ⟨r30, r31⟩ =>
    ((gopt ((((((e_14 == 0) && (f_16 == 0)) && (g_18 == 0)) && (h_20 == 0)) && (r28 == 0)) == true) false (refSame_m x_15 r16)).bind fun r33 =>
    ((gopt (((((((e_14 == 0) && (f_16 == 0)) && (g_18 == 0)) && (h_20 == 0)) && (r28 == 0)) && r33) == true) false (refSame_m z_19 r21)).bind fun r35 =>
    ((gopt ((((((((e_14 == 0) && (f_16 == 0)) && (g_18 == 0)) && (h_20 == 0)) && (r28 == 0)) && r33) && r35) == true) false (refSame_m r27 r30)).bind fun r37 =>
    ((gopt (((((((((e_14 == 0) && (f_16 == 0)) && (g_18 == 0)) && (h_20 == 0)) && (r28 == 0)) && r33) && r35) && r37) == true) false (plAwake_m )).bind fun r39 =>
    some (((((((((e_14 == 0) && (f_16 == 0)) && (g_18 == 0)) && (h_20 == 0)) && (r28 == 0)) && r33) && r35) && r37) && r39)))))))))))))
def PlanSteps_L1 : Nat → Int → Int → Int → Int → List Int → Int → List Int → Int → List Int → Int → List Int → Int → Int → Int → Int → Int → Option (Bool)
  | 0 => fun _ _ _ _ _ _ _ _ _ _ _ _ _ _ _ _ => none
  | n + 1 => PlanSteps_B1 (PlanSteps_L1 n)
def PlanSteps_m (n_0 : Int) (m_1 : Int) (l_2 : Int) (r_3 : Int) : Option (Bool) :=
  ((plWeight_m (IntKind.i64.wrap (1 + (IntKind.i64.wrap (Int.tmod n_0 1000)))) (IntKind.i64.wrap (Int.tmod m_1 60000)) (IntKind.i64.wrap (1 + (IntKind.i64.wrap (Int.tmod l_2 15)))) (IntKind.i64.wrap (1 + (IntKind.i64.wrap (Int.tmod r_3 8))))).bind fun ⟨r2, r3⟩ =>
  ((plWeight_m (IntKind.i64.wrap (1 + (IntKind.i64.wrap (Int.tmod n_0 1000)))) (IntKind.i64.wrap (Int.tmod m_1 60000)) (IntKind.i64.wrap ((IntKind.i64.wrap (1 + (IntKind.i64.wrap (Int.tmod l_2 15)))) + 1)) (IntKind.i64.wrap (1 + (IntKind.i64.wrap (Int.tmod r_3 8))))).bind fun ⟨r5, r6⟩ =>
  ((plWhole_m (IntKind.i64.wrap (1 + (IntKind.i64.wrap (Int.tmod l_2 15)))) (IntKind.i64.wrap (1 + (IntKind.i64.wrap (Int.tmod r_3 8))))).bind fun ⟨r8, r9⟩ =>
  ((plWhole_m (IntKind.i64.wrap ((IntKind.i64.wrap (1 + (IntKind.i64.wrap (Int.tmod l_2 15)))) + 1)) (IntKind.i64.wrap (1 + (IntKind.i64.wrap (Int.tmod r_3 8))))).bind fun ⟨r11, r12⟩ =>
  PlanSteps_L1 FUEL (IntKind.i64.wrap (1 + (IntKind.i64.wrap (Int.tmod n_0 1000)))) (IntKind.i64.wrap (Int.tmod m_1 60000)) (IntKind.i64.wrap (1 + (IntKind.i64.wrap (Int.tmod l_2 15)))) (IntKind.i64.wrap (1 + (IntKind.i64.wrap (Int.tmod r_3 8)))) r2 r3 r5 r6 r8 r9 r11 r12 1 1 (IntKind.i64.wrap (1 + (IntKind.i64.wrap (Int.tmod r_3 8)))) 0))))
theorem PlanSteps_c {n_0 : Int} {m_1 : Int} {l_2 : Int} {r_3 : Int} {r : Bool} (hm : PlanSteps_m n_0 m_1 l_2 r_3 = some r) : PureC Try.prog 6 [.v (.int .u16 n_0), .v (.int .u16 m_1), .v (.int .u8 l_2), .v (.int .u8 r_3)] (.v (.bool r)) := by
  refine PureC.of_body Try.func6 rfl ?_
  simp only [Try.ntmps6, List.length_cons, List.length_nil, Nat.reduceAdd, Nat.reduceSub, empty_eq]
  unfold PlanSteps_m at hm
  refine sr (N' := 64) rfl ?_
  refine pu rfl (by simp only [go_sem, Nat.reduceBEq]; try with_reducible rfl) ?_
  refine fs ?_
  refine sr (N' := 128) rfl ?_
  iterate 19 refine pu rfl (by simp only [go_sem, Nat.reduceBEq, Int.reduceEq, Int.reduceLE]; try with_reducible rfl) ?_
  refine fs ?_
  refine sr (N' := 192) rfl ?_
  iterate 4 refine pu rfl (by simp only [go_sem, Nat.reduceBEq]; try with_reducible rfl) ?_
  obtain ⟨⟨r2, r3⟩, h1, hm⟩ := bnd hm
  refine ARun.callQ (r := .tup [.sl (r2.flatMap (ci .u32)) r2.length false, .v (.int .i64 r3)]) (by decide) (by try simp only [go_sem, Nat.reduceBEq]; try rfl) fb11 (fun H => (.cons (td (by try simp only [go_sem, Nat.reduceBEq]; try rfl) (.v _)) (.cons (td (by try simp only [go_sem, Nat.reduceBEq]; try rfl) (.v _)) (.cons (td (by try simp only [go_sem, Nat.reduceBEq]; try rfl) (.v _)) (.cons (td (by try simp only [go_sem, Nat.reduceBEq]; try rfl) (.v _)) .nil))))) (plWeight_c h1) ?_
  iterate 5 refine pu rfl (by simp only [go_sem, Nat.reduceBEq]; try with_reducible rfl) ?_
  refine fs ?_
  refine sr (N' := 256) rfl ?_
  iterate 5 refine pu rfl (by simp only [go_sem, Nat.reduceBEq]; try with_reducible rfl) ?_
  obtain ⟨⟨r5, r6⟩, h4, hm⟩ := bnd hm
  refine ARun.callQ (r := .tup [.sl (r5.flatMap (ci .u32)) r5.length false, .v (.int .i64 r6)]) (by decide) (by try simp only [go_sem, Nat.reduceBEq]; try rfl) fb11 (fun H => (.cons (td (by try simp only [go_sem, Nat.reduceBEq]; try rfl) (.v _)) (.cons (td (by try simp only [go_sem, Nat.reduceBEq]; try rfl) (.v _)) (.cons (td (by try simp only [go_sem, Nat.reduceBEq]; try rfl) (.v _)) (.cons (td (by try simp only [go_sem, Nat.reduceBEq]; try rfl) (.v _)) .nil))))) (plWeight_c h4) ?_
  iterate 5 refine pu rfl (by simp only [go_sem, Nat.reduceBEq]; try with_reducible rfl) ?_
  refine fs ?_
  refine sr (N' := 320) rfl ?_
  iterate 2 refine pu rfl (by simp only [go_sem, Nat.reduceBEq]; try with_reducible rfl) ?_
  obtain ⟨⟨r8, r9⟩, h7, hm⟩ := bnd hm
  refine ARun.callQ (r := .tup [.sl (r8.flatMap (ci .u32)) r8.length false, .v (.int .i64 r9)]) (by decide) (by try simp only [go_sem, Nat.reduceBEq]; try rfl) fb12 (fun H => (.cons (td (by try simp only [go_sem, Nat.reduceBEq]; try rfl) (.v _)) (.cons (td (by try simp only [go_sem, Nat.reduceBEq]; try rfl) (.v _)) .nil))) (plWhole_c h7) ?_
  iterate 5 refine pu rfl (by simp only [go_sem, Nat.reduceBEq]; try with_reducible rfl) ?_
  refine fs ?_
  refine sr (N' := 384) rfl ?_
  iterate 3 refine pu rfl (by simp only [go_sem, Nat.reduceBEq]; try with_reducible rfl) ?_
  obtain ⟨⟨r11, r12⟩, h10, hm⟩ := bnd hm
  refine ARun.callQ (r := .tup [.sl (r11.flatMap (ci .u32)) r11.length false, .v (.int .i64 r12)]) (by decide) (by try simp only [go_sem, Nat.reduceBEq]; try rfl) fb12 (fun H => (.cons (td (by try simp only [go_sem, Nat.reduceBEq]; try rfl) (.v _)) (.cons (td (by try simp only [go_sem, Nat.reduceBEq]; try rfl) (.v _)) .nil))) (plWhole_c h10) ?_
  iterate 5 refine pu rfl (by simp only [go_sem, Nat.reduceBEq]; try with_reducible rfl) ?_
  refine fs ?_
  refine sr (N' := 448) rfl ?_
  refine pu rfl (by simp only [go_sem, Nat.reduceBEq]; try with_reducible rfl) ?_
  refine fs ?_
  refine sr (N' := 512) rfl ?_
  refine pu rfl (by simp only [go_sem, Nat.reduceBEq]; try with_reducible rfl) ?_
  refine fs ?_
  refine AWp.seq' ?_
  refine sr (N' := 576) rfl ?_
  iterate 2 refine pu rfl (by simp only [go_sem, Nat.reduceBEq]; try with_reducible rfl) ?_
  refine fs ?_
  refine AWp.block ?_
  refine AWp.loopM (fun m s => ∃ (a_9 : Int) (b_10 : Int) (i_11 : Int) (k_12 : Int) (w_13 : List Int) (e_14 : Int) (x_15 : List Int) (f_16 : Int) (y_17 : List Int) (g_18 : Int) (z_19 : List Int) (h_20 : Int) (row_21 : Int) (seven_22 : Int) (t78 : Int) (t79 : Int), s = (⟨161, (fset (fset (fset (fset (fset (fset (fset (fset (fset (fset (fset (fset (fset (fset (fset (fset (fun _ => AV.any) 9 (.v (.int .i64 a_9))) 10 (.v (.int .i64 b_10))) 11 (.v (.int .i64 i_11))) 12 (.v (.int .i64 k_12))) 13 (.sl (w_13.flatMap (ci .u32)) w_13.length false)) 14 (.v (.int .i64 e_14))) 15 (.sl (x_15.flatMap (ci .u32)) x_15.length false)) 16 (.v (.int .i64 f_16))) 17 (.sl (y_17.flatMap (ci .u32)) y_17.length false)) 18 (.v (.int .i64 g_18))) 19 (.sl (z_19.flatMap (ci .u32)) z_19.length false)) 20 (.v (.int .i64 h_20))) 21 (.v (.int .u64 row_21))) 22 (.v (.int .u64 seven_22))) 78 (.v (.int .i64 t78))) 79 (.v (.int .i64 t79))), ⟨nofresh, 64⟩⟩ : St) ∧ PlanSteps_L1 m a_9 b_10 i_11 k_12 w_13 e_14 x_15 f_16 y_17 g_18 z_19 h_20 row_21 seven_22 t78 t79 = some r) FUEL ?_ ?_ ?_
  · rintro s ⟨_, _, _, _, _, _, _, _, _, _, _, _, _, _, _, _, _, h⟩
    cases h
  · refine ⟨_, ?_, (IntKind.i64.wrap (1 + (IntKind.i64.wrap (Int.tmod n_0 1000)))), (IntKind.i64.wrap (Int.tmod m_1 60000)), (IntKind.i64.wrap (1 + (IntKind.i64.wrap (Int.tmod l_2 15)))), (IntKind.i64.wrap (1 + (IntKind.i64.wrap (Int.tmod r_3 8)))), r2, r3, r5, r6, r8, r9, r11, r12, 1, 1, (IntKind.i64.wrap (1 + (IntKind.i64.wrap (Int.tmod r_3 8)))), 0, rfl, hm⟩
    exact le_canon id (wk_fset _ _ (wk_data (by try simp only [go_sem, Nat.reduceBEq]; try rfl) (.v _)) (wk_fset _ _ (wk_data (by try simp only [go_sem, Nat.reduceBEq]; try rfl) (.v _)) (wk_fset _ _ (wk_data (by try simp only [go_sem, Nat.reduceBEq]; try rfl) (.v _)) (wk_fset _ _ (wk_data (by try simp only [go_sem, Nat.reduceBEq]; try rfl) (.v _)) (wk_fset _ _ (wk_data (by try simp only [go_sem, Nat.reduceBEq]; try rfl) (.v _)) (wk_fset _ _ (wk_data (by try simp only [go_sem, Nat.reduceBEq]; try rfl) ((CFi .u32).sl _ _ _)) (wk_fset _ _ (wk_data (by try simp only [go_sem, Nat.reduceBEq]; try rfl) (.v _)) (wk_fset _ _ (wk_data (by try simp only [go_sem, Nat.reduceBEq]; try rfl) ((CFi .u32).sl _ _ _)) (wk_fset _ _ (wk_data (by try simp only [go_sem, Nat.reduceBEq]; try rfl) (.v _)) (wk_fset _ _ (wk_data (by try simp only [go_sem, Nat.reduceBEq]; try rfl) ((CFi .u32).sl _ _ _)) (wk_fset _ _ (wk_data (by try simp only [go_sem, Nat.reduceBEq]; try rfl) (.v _)) (wk_fset _ _ (wk_data (by try simp only [go_sem, Nat.reduceBEq]; try rfl) ((CFi .u32).sl _ _ _)) (wk_fset _ _ (wk_data (by try simp only [go_sem, Nat.reduceBEq]; try rfl) (.v _)) (wk_fset _ _ (wk_data (by try simp only [go_sem, Nat.reduceBEq]; try rfl) (.v _)) (wk_fset _ _ (wk_data (by try simp only [go_sem, Nat.reduceBEq]; try rfl) (.v _)) (wk_fset _ _ (wk_data (by try simp only [go_sem, Nat.reduceBEq]; try rfl) (.v _)) wk_none)))))))))))))))) heapWk0
  · rintro n1 s ⟨a_9, b_10, i_11, k_12, w_13, e_14, x_15, f_16, y_17, g_18, z_19, h_20, row_21, seven_22, t78, t79, rfl, hm⟩
    replace hm : PlanSteps_B1 (PlanSteps_L1 n1) a_9 b_10 i_11 k_12 w_13 e_14 x_15 f_16 y_17 g_18 z_19 h_20 row_21 seven_22 t78 t79 = some r := hm
    unfold PlanSteps_B1 at hm
    refine sr (N' := 128) rfl ?_
    refine pu rfl (by simp only [go_sem, Nat.reduceBEq]; try with_reducible rfl) ?_
    refine fs ?_
    refine AWp.seq' ?_
    refine AWp.condM hm (by try simp only [go_sem, Nat.reduceBEq]; try rfl) (fun _ hm => ?_) (fun _ hm => ?_)
    · refine AWp.skip ?_
      refine normSeq ?_
      refine AWp.seq' ?_
      refine AWp.block ?_
      refine AWp.reg 64 (N' := 192) rfl ?_
      iterate 6 refine pu rfl (by simp only [go_sem, Nat.reduceBEq]; try with_reducible rfl) ?_
      refine ARun.fin ?_
      refine normIn ?_
      refine normSeq ?_
      refine AWp.reg 64 (N' := 256) rfl ?_
      iterate 2 refine pu rfl (by simp only [go_sem, Nat.reduceBEq]; try with_reducible rfl) ?_
      refine ARun.fin ?_
      refine normThen ?_
      refine ⟨_, ?_, a_9, b_10, i_11, k_12, w_13, e_14, x_15, f_16, y_17, g_18, z_19, h_20, (IntKind.u64.wrap (8 * row_21)), (IntKind.u64.wrap (7 * seven_22)), t78, (IntKind.i64.wrap (t79 + 1)), rfl, hm⟩
      exact le_canon id (wk_fset _ _ (wk_data (by try simp only [go_sem, Nat.reduceBEq]; try rfl) (.v _)) (wk_fset _ _ (wk_data (by try simp only [go_sem, Nat.reduceBEq]; try rfl) (.v _)) (wk_fset _ _ (wk_data (by try simp only [go_sem, Nat.reduceBEq]; try rfl) (.v _)) (wk_fset _ _ (wk_data (by try simp only [go_sem, Nat.reduceBEq]; try rfl) (.v _)) (wk_fset _ _ (wk_data (by try simp only [go_sem, Nat.reduceBEq]; try rfl) (.v _)) (wk_fset _ _ (wk_data (by try simp only [go_sem, Nat.reduceBEq]; try rfl) ((CFi .u32).sl _ _ _)) (wk_fset _ _ (wk_data (by try simp only [go_sem, Nat.reduceBEq]; try rfl) (.v _)) (wk_fset _ _ (wk_data (by try simp only [go_sem, Nat.reduceBEq]; try rfl) ((CFi .u32).sl _ _ _)) (wk_fset _ _ (wk_data (by try simp only [go_sem, Nat.reduceBEq]; try rfl) (.v _)) (wk_fset _ _ (wk_data (by try simp only [go_sem, Nat.reduceBEq]; try rfl) ((CFi .u32).sl _ _ _)) (wk_fset _ _ (wk_data (by try simp only [go_sem, Nat.reduceBEq]; try rfl) (.v _)) (wk_fset _ _ (wk_data (by try simp only [go_sem, Nat.reduceBEq]; try rfl) ((CFi .u32).sl _ _ _)) (wk_fset _ _ (wk_data (by try simp only [go_sem, Nat.reduceBEq]; try rfl) (.v _)) (wk_fset _ _ (wk_data (by try simp only [go_sem, Nat.reduceBEq]; try rfl) (.v _)) (wk_fset _ _ (wk_data (by try simp only [go_sem, Nat.reduceBEq]; try rfl) (.v _)) (wk_fset _ _ (wk_data (by try simp only [go_sem, Nat.reduceBEq]; try rfl) (.v _)) wk_none)))))))))))))))) heapWk0
    · refine AWp.exit ?_
      refine exitSeq ?_
      refine exitThen ?_
      refine exitHere ?_
      refine normSeq ?_
      refine sr (N' := 192) rfl ?_
      iterate 4 refine pu rfl (by simp only [go_sem, Nat.reduceBEq]; try with_reducible rfl) ?_
      obtain ⟨r14, h13, hm⟩ := bnd hm
      refine ARun.callQ (r := .sl (r14.flatMap (ci .u32)) r14.length false) (by decide) (by try simp only [go_sem, Nat.reduceBEq]; try rfl) fb20 (fun H => (.cons (td (by try simp only [go_sem, Nat.reduceBEq]; try rfl) (.v _)) .nil)) (natOf_c h13) ?_
      obtain ⟨⟨r16, r17⟩, h15, hm⟩ := bnd hm
      refine ARun.callQ (r := .tup [.sl (r16.flatMap (ci .u32)) r16.length false, .v (.int .i64 r17)]) (by decide) (by try simp only [go_sem, Nat.reduceBEq]; try rfl) fb19 (fun H => (.cons (td (by try simp only [go_sem, Nat.reduceBEq]; try rfl) ((CFi .u32).sl _ _ _)) (.cons (td (by try simp only [go_sem, Nat.reduceBEq]; try rfl) ((CFi .u32).sl _ _ _)) .nil))) (natMul_c h15) ?_
      iterate 5 refine pu rfl (by simp only [go_sem, Nat.reduceBEq]; try with_reducible rfl) ?_
      refine fs ?_
      refine sr (N' := 256) rfl ?_
      iterate 3 refine pu rfl (by simp only [go_sem, Nat.reduceBEq]; try with_reducible rfl) ?_
      obtain ⟨r19, h18, hm⟩ := bnd hm
      refine ARun.callQ (r := .sl (r19.flatMap (ci .u32)) r19.length false) (by decide) (by try simp only [go_sem, Nat.reduceBEq]; try rfl) fb20 (fun H => (.cons (td (by try simp only [go_sem, Nat.reduceBEq]; try rfl) (.v _)) .nil)) (natOf_c h18) ?_
      obtain ⟨⟨r21, r22⟩, h20, hm⟩ := bnd hm
      refine ARun.callQ (r := .tup [.sl (r21.flatMap (ci .u32)) r21.length false, .v (.int .i64 r22)]) (by decide) (by try simp only [go_sem, Nat.reduceBEq]; try rfl) fb19 (fun H => (.cons (td (by try simp only [go_sem, Nat.reduceBEq]; try rfl) ((CFi .u32).sl _ _ _)) (.cons (td (by try simp only [go_sem, Nat.reduceBEq]; try rfl) ((CFi .u32).sl _ _ _)) .nil))) (natMul_c h20) ?_
      iterate 5 refine pu rfl (by simp only [go_sem, Nat.reduceBEq]; try with_reducible rfl) ?_
      refine fs ?_
      refine sr (N' := 320) rfl ?_
      iterate 3 refine pu rfl (by simp only [go_sem, Nat.reduceBEq]; try with_reducible rfl) ?_
      obtain ⟨⟨r24, r25⟩, h23, hm⟩ := bnd hm
      refine ARun.callQ (r := .tup [.sl (r24.flatMap (ci .u32)) r24.length false, .v (.int .i64 r25)]) (by decide) (by try simp only [go_sem, Nat.reduceBEq]; try rfl) fb11 (fun H => (.cons (td (by try simp only [go_sem, Nat.reduceBEq]; try rfl) (.v _)) (.cons (td (by try simp only [go_sem, Nat.reduceBEq]; try rfl) (.v _)) (.cons (td (by try simp only [go_sem, Nat.reduceBEq]; try rfl) (.v _)) (.cons (td (by try simp only [go_sem, Nat.reduceBEq]; try rfl) (.v _)) .nil))))) (plWeight_c h23) ?_
      iterate 5 refine pu rfl (by simp only [go_sem, Nat.reduceBEq]; try with_reducible rfl) ?_
      refine fs ?_
      refine sr (N' := 384) rfl ?_
      iterate 5 refine pu rfl (by simp only [go_sem, Nat.reduceBEq]; try with_reducible rfl) ?_
      obtain ⟨⟨r27, r28⟩, h26, hm⟩ := bnd hm
      refine ARun.callQ (r := .tup [.sl (r27.flatMap (ci .u32)) r27.length false, .v (.int .i64 r28)]) (by decide) (by try simp only [go_sem, Nat.reduceBEq]; try rfl) fb11 (fun H => (.cons (td (by try simp only [go_sem, Nat.reduceBEq]; try rfl) (.v _)) (.cons (td (by try simp only [go_sem, Nat.reduceBEq]; try rfl) (.v _)) (.cons (td (by try simp only [go_sem, Nat.reduceBEq]; try rfl) (.v _)) (.cons (td (by try simp only [go_sem, Nat.reduceBEq]; try rfl) (.v _)) .nil))))) (plWeight_c h26) ?_
      iterate 5 refine pu rfl (by simp only [go_sem, Nat.reduceBEq]; try with_reducible rfl) ?_
      refine fs ?_
      refine sr (N' := 448) rfl ?_
      iterate 2 refine pu rfl (by simp only [go_sem, Nat.reduceBEq]; try with_reducible rfl) ?_
      obtain ⟨⟨r30, r31⟩, h29, hm⟩ := bnd hm
      refine ARun.callQ (r := .tup [.sl (r30.flatMap (ci .u32)) r30.length false, .v (.int .i64 r31)]) (by decide) (by try simp only [go_sem, Nat.reduceBEq]; try rfl) fb21 (fun H => (.cons (td (by try simp only [go_sem, Nat.reduceBEq]; try rfl) ((CFi .u32).sl _ _ _)) (.cons (td (by try simp only [go_sem, Nat.reduceBEq]; try rfl) ((CFi .u32).sl _ _ _)) .nil))) (natAdd_c h29) ?_
      iterate 5 refine pu rfl (by simp only [go_sem, Nat.reduceBEq]; try with_reducible rfl) ?_
      refine fs ?_
      refine sr (N' := 512) rfl ?_
      iterate 21 (first | refine pu rfl (by simp only [go_sem, Nat.reduceBEq]; try with_reducible rfl) ?_ | refine pg rfl rfl (by simp only [go_sem, Nat.reduceBEq]; try with_reducible rfl) (by intro hb; simp only [go_sem, Nat.reduceBEq, hb, Bool.true_and]; try with_reducible rfl) ?_)
      obtain ⟨r33, h32, hm⟩ := bnd hm
      refine ARun.callQG (r := .v (.bool r33)) (by decide) rfl (by simp only [go_sem, Nat.reduceBEq]; try with_reducible rfl) (by try simp only [go_sem, Nat.reduceBEq]; try rfl) fb13 (fun hb H => (.cons (td (by try simp only [go_sem, Nat.reduceBEq, hb, Bool.true_and]; try rfl) ((CFi .u32).sl _ _ _)) (.cons (td (by try simp only [go_sem, Nat.reduceBEq, hb, Bool.true_and]; try rfl) ((CFi .u32).sl _ _ _)) .nil))) (fun hb => refSame_c (gopt_t h32 hb)) ?_
      iterate 4 (first | refine pu rfl (by simp only [go_sem, Nat.reduceBEq]; try with_reducible rfl) ?_ | refine pg rfl rfl (by simp only [go_sem, Nat.reduceBEq]; try with_reducible rfl) (by intro hb; simp only [go_sem, Nat.reduceBEq, hb, Bool.true_and]; try with_reducible rfl) ?_)
      obtain ⟨r35, h34, hm⟩ := bnd hm
      refine ARun.callQG (r := .v (.bool r35)) (by decide) rfl (by simp only [go_sem, Nat.reduceBEq]; try with_reducible rfl) (by try simp only [go_sem, Nat.reduceBEq]; try rfl) fb13 (fun hb H => (.cons (td (by try simp only [go_sem, Nat.reduceBEq, hb, Bool.true_and]; try rfl) ((CFi .u32).sl _ _ _)) (.cons (td (by try simp only [go_sem, Nat.reduceBEq, hb, Bool.true_and]; try rfl) ((CFi .u32).sl _ _ _)) .nil))) (fun hb => refSame_c (gopt_t h34 hb)) ?_
      iterate 4 (first | refine pu rfl (by simp only [go_sem, Nat.reduceBEq]; try with_reducible rfl) ?_ | refine pg rfl rfl (by simp only [go_sem, Nat.reduceBEq]; try with_reducible rfl) (by intro hb; simp only [go_sem, Nat.reduceBEq, hb, Bool.true_and]; try with_reducible rfl) ?_)
      obtain ⟨r37, h36, hm⟩ := bnd hm
      refine ARun.callQG (r := .v (.bool r37)) (by decide) rfl (by simp only [go_sem, Nat.reduceBEq]; try with_reducible rfl) (by try simp only [go_sem, Nat.reduceBEq]; try rfl) fb13 (fun hb H => (.cons (td (by try simp only [go_sem, Nat.reduceBEq, hb, Bool.true_and]; try rfl) ((CFi .u32).sl _ _ _)) (.cons (td (by try simp only [go_sem, Nat.reduceBEq, hb, Bool.true_and]; try rfl) ((CFi .u32).sl _ _ _)) .nil))) (fun hb => refSame_c (gopt_t h36 hb)) ?_
      iterate 2 refine pu rfl (by simp only [go_sem, Nat.reduceBEq]; try with_reducible rfl) ?_
      obtain ⟨r39, h38, hm⟩ := bnd hm
      refine ARun.callQG (r := .v (.bool r39)) (by decide) rfl (by simp only [go_sem, Nat.reduceBEq]; try with_reducible rfl) (by try simp only [go_sem, Nat.reduceBEq]; try rfl) fb10 (fun hb H => .nil) (fun hb => plAwake_c (gopt_t h38 hb)) ?_
      iterate 2 refine pu rfl (by simp only [go_sem, Nat.reduceBEq]; try with_reducible rfl) ?_
      refine fs ?_
      refine AWp.ret ?_
      cases hm
      exact ret1D (.inr rfl) Try.results6 (td (by try simp only [go_sem, Nat.reduceBEq]; try rfl) (.v _))
def PlanNone_m (n_0 : Int) (m_1 : Int) (k_2 : Int) (l_3 : Int) (r_4 : Int) : Option (Bool) :=
  ((plPlan_m (IntKind.i64.wrap (1 + (IntKind.i64.wrap (Int.tmod n_0 1024)))) 0 (IntKind.i64.wrap (Int.tmod k_2 65))).bind fun ⟨r2, r3⟩ =>
  ((gopt (((r3 != 0) || (!((r2.N == (IntKind.i64.wrap (1 + (IntKind.i64.wrap (Int.tmod n_0 1024))))) && ((r2.L == 1) && (r2.R == 1))))) == false) false (plEnough_m (IntKind.i64.wrap (1 + (IntKind.i64.wrap (Int.tmod n_0 1024)))) 0 (IntKind.i64.wrap (Int.tmod k_2 65)) (IntKind.i64.wrap (1 + (IntKind.i64.wrap (Int.tmod l_3 16)))) (IntKind.i64.wrap (1 + (IntKind.i64.wrap (Int.tmod r_4 8)))))).bind fun r5 =>
  (bif (((r3 != 0) || (!((r2.N == (IntKind.i64.wrap (1 + (IntKind.i64.wrap (Int.tmod n_0 1024))))) && ((r2.L == 1) && (r2.R == 1))))) || (!r5)) then
    some false
  else
    ((plEnough_m 1 1 (IntKind.i64.wrap (Int.tmod k_2 65)) (IntKind.i64.wrap (1 + (IntKind.i64.wrap (Int.tmod l_3 16)))) (IntKind.i64.wrap (1 + (IntKind.i64.wrap (Int.tmod r_4 8))))).bind fun r7 =>
    ((gopt (r7 == false) false (plEnough_m (IntKind.i64.wrap (1 + (IntKind.i64.wrap (Int.tmod n_0 1024)))) (IntKind.i64.wrap (1 + (IntKind.i64.wrap m_1))) (IntKind.i64.wrap (Int.tmod k_2 65)) (IntKind.i64.wrap (1 + (IntKind.i64.wrap (Int.tmod l_3 16)))) (IntKind.i64.wrap (1 + (IntKind.i64.wrap (Int.tmod r_4 8)))))).bind fun r9 =>
    ((gopt ((r7 || (!r9)) == true) false (plAwake_m )).bind fun r11 =>
    some ((r7 || (!r9)) && r11)))))))
theorem PlanNone_c {n_0 : Int} {m_1 : Int} {k_2 : Int} {l_3 : Int} {r_4 : Int} {r : Bool} (hm : PlanNone_m n_0 m_1 k_2 l_3 r_4 = some r) : PureC Try.prog 7 [.v (.int .u16 n_0), .v (.int .u16 m_1), .v (.int .u8 k_2), .v (.int .u8 l_3), .v (.int .u8 r_4)] (.v (.bool r)) := by
  refine PureC.of_body Try.func7 rfl ?_
  simp only [Try.ntmps7, List.length_cons, List.length_nil, Nat.reduceAdd, Nat.reduceSub, empty_eq]
  unfold PlanNone_m at hm
  refine sr (N' := 64) rfl ?_
  refine pu rfl (by simp only [go_sem, Nat.reduceBEq]; try with_reducible rfl) ?_
  refine fs ?_
  refine sr (N' := 128) rfl ?_
  iterate 23 refine pu rfl (by simp only [go_sem, Nat.reduceBEq, Int.reduceEq, Int.reduceLE]; try with_reducible rfl) ?_
  refine fs ?_
  refine sr (N' := 192) rfl ?_
  iterate 2 refine pu rfl (by simp only [go_sem, Nat.reduceBEq]; try with_reducible rfl) ?_
  obtain ⟨⟨r2, r3⟩, h1, hm⟩ := bnd hm
  refine ARun.callQ (r := .tup [.agg [.v (.int .i64 r2.N), .v (.int .i64 r2.L), .v (.int .i64 r2.R)], .v (.int .i64 r3)]) (by decide) (by try simp only [go_sem, Nat.reduceBEq]; try rfl) fb18 (fun H => (.cons (td (by try simp only [go_sem, Nat.reduceBEq]; try rfl) (.v _)) (.cons (td (by try simp only [go_sem, Nat.reduceBEq]; try rfl) (.v _)) (.cons (td (by try simp only [go_sem, Nat.reduceBEq]; try rfl) (.v _)) .nil)))) (plPlan_c h1) ?_
  iterate 3 refine pu rfl (by simp only [go_sem, Nat.reduceBEq]; try with_reducible rfl) ?_
  refine hp (id := 134) rfl rfl (aheap_alloc' zc34 (by simp only [isFresh_upd, isFresh_no, Nat.reduceBEq, cond_true, cond_false])) ?_
  refine ARun.heap0 (id := 135) rfl (ah_var (ys := [.v (.int .i64 r2.N), .v (.int .i64 r2.L), .v (.int .i64 r2.R)]) sz34 (by try simp only [go_sem, Nat.reduceBEq]; try rfl) (by try simp only [go_sem, Nat.reduceBEq]; try rfl) (by simp only [upd_beq, Nat.reduceBEq, cond_true, cond_false]; try rfl) rfl (Nat.le_of_ble_eq_true rfl) (by first | rfl | (simp [AV.one]; done)) rfl) ?_
  refine pu rfl (by simp only [go_sem, Nat.reduceBEq]; try with_reducible rfl) ?_
  refine fs ?_
  refine AWp.seq' ?_
  refine sr (N' := 256) rfl ?_
  iterate 3 refine pu rfl (by simp only [go_sem, Nat.reduceBEq]; try with_reducible rfl) ?_
  refine pg rfl rfl (by simp only [go_sem, Nat.reduceBEq]; try with_reducible rfl) (fun hb => (ap_ldv (by try simp only [go_sem, Nat.reduceBEq, hb, Bool.true_and]; try rfl) (by simp only [upd_beq, Nat.reduceBEq, cond_true, cond_false]; try rfl) (by simp only [go_sem, Nat.reduceBEq]; try with_reducible rfl))) ?_
  refine pg rfl rfl (by simp only [go_sem, Nat.reduceBEq]; try with_reducible rfl) (by intro hb; simp only [go_sem, Nat.reduceBEq, hb, Bool.true_and]; try with_reducible rfl) ?_
  refine pg rfl rfl (by simp only [go_sem, Nat.reduceBEq]; try with_reducible rfl) (fun hb => (by simp only [go_sem, Nat.reduceBEq, hb, Bool.true_and]; exact (by kernel_rfl : abuild Try.prog 34 [(0, .v (.int .i64 (IntKind.i64.wrap (1 + (IntKind.i64.wrap (Int.tmod n_0 1024)))))), (1, .v (.int .i64 1)), (2, .v (.int .i64 1))] = some (.agg [.v (.int .i64 (IntKind.i64.wrap (1 + (IntKind.i64.wrap (Int.tmod n_0 1024))))), .v (.int .i64 1), .v (.int .i64 1)])))) ?_
  iterate 7 (first | refine pu rfl (by simp only [go_sem, Nat.reduceBEq]; try with_reducible rfl) ?_ | refine pg rfl rfl (by simp only [go_sem, Nat.reduceBEq]; try with_reducible rfl) (by intro hb; simp only [go_sem, Nat.reduceBEq, hb, Bool.true_and]; try with_reducible rfl) ?_)
  obtain ⟨r5, h4, hm⟩ := bnd hm
  refine ARun.callQG (r := .v (.bool r5)) (by decide) rfl (by simp only [go_sem, Nat.reduceBEq]; try with_reducible rfl) (by try simp only [go_sem, Nat.reduceBEq]; try rfl) fb15 (fun hb H => (.cons (td (by try simp only [go_sem, Nat.reduceBEq, hb, Bool.true_and]; try rfl) (.v _)) (.cons (td (by try simp only [go_sem, Nat.reduceBEq, hb, Bool.true_and]; try rfl) (.v _)) (.cons (td (by try simp only [go_sem, Nat.reduceBEq, hb, Bool.true_and]; try rfl) (.v _)) (.cons (td (by try simp only [go_sem, Nat.reduceBEq, hb, Bool.true_and]; try rfl) (.v _)) (.cons (td (by try simp only [go_sem, Nat.reduceBEq, hb, Bool.true_and]; try rfl) (.v _)) .nil)))))) (fun hb => plEnough_c (gopt_t h4 hb)) ?_
  iterate 2 (first | refine pu rfl (by simp only [go_sem, Nat.reduceBEq]; try with_reducible rfl) ?_ | refine pg rfl rfl (by simp only [go_sem, Nat.reduceBEq]; try with_reducible rfl) (by intro hb; simp only [go_sem, Nat.reduceBEq, hb, Bool.true_and]; try with_reducible rfl) ?_)
  refine fs ?_
  refine AWp.condM hm (by try simp only [go_sem, Nat.reduceBEq]; try rfl) (fun _ hm => ?_) (fun _ hm => ?_)
  · refine sr (N' := 320) rfl ?_
    refine pu rfl (by simp only [go_sem, Nat.reduceBEq]; try with_reducible rfl) ?_
    refine fs ?_
    refine AWp.ret ?_
    refine retSeq ?_
    cases hm
    exact ret1D (.inr rfl) Try.results7 (td (by try simp only [go_sem, Nat.reduceBEq]; try rfl) (.v _))
  · refine AWp.skip ?_
    refine normSeq ?_
    refine sr (N' := 320) rfl ?_
    iterate 3 refine pu rfl (by simp only [go_sem, Nat.reduceBEq]; try with_reducible rfl) ?_
    obtain ⟨r7, h6, hm⟩ := bnd hm
    refine ARun.callQ (r := .v (.bool r7)) (by decide) (by try simp only [go_sem, Nat.reduceBEq]; try rfl) fb15 (fun H => (.cons (td (by try simp only [go_sem, Nat.reduceBEq]; try rfl) (.v _)) (.cons (td (by try simp only [go_sem, Nat.reduceBEq]; try rfl) (.v _)) (.cons (td (by try simp only [go_sem, Nat.reduceBEq]; try rfl) (.v _)) (.cons (td (by try simp only [go_sem, Nat.reduceBEq]; try rfl) (.v _)) (.cons (td (by try simp only [go_sem, Nat.reduceBEq]; try rfl) (.v _)) .nil)))))) (plEnough_c h6) ?_
    iterate 6 (first | refine pu rfl (by simp only [go_sem, Nat.reduceBEq]; try with_reducible rfl) ?_ | refine pg rfl rfl (by simp only [go_sem, Nat.reduceBEq]; try with_reducible rfl) (by intro hb; simp only [go_sem, Nat.reduceBEq, hb, Bool.true_and]; try with_reducible rfl) ?_)
    obtain ⟨r9, h8, hm⟩ := bnd hm
    refine ARun.callQG (r := .v (.bool r9)) (by decide) rfl (by simp only [go_sem, Nat.reduceBEq]; try with_reducible rfl) (by try simp only [go_sem, Nat.reduceBEq]; try rfl) fb15 (fun hb H => (.cons (td (by try simp only [go_sem, Nat.reduceBEq, hb, Bool.true_and]; try rfl) (.v _)) (.cons (td (by try simp only [go_sem, Nat.reduceBEq, hb, Bool.true_and]; try rfl) (.v _)) (.cons (td (by try simp only [go_sem, Nat.reduceBEq, hb, Bool.true_and]; try rfl) (.v _)) (.cons (td (by try simp only [go_sem, Nat.reduceBEq, hb, Bool.true_and]; try rfl) (.v _)) (.cons (td (by try simp only [go_sem, Nat.reduceBEq, hb, Bool.true_and]; try rfl) (.v _)) .nil)))))) (fun hb => plEnough_c (gopt_t h8 hb)) ?_
    iterate 3 (first | refine pu rfl (by simp only [go_sem, Nat.reduceBEq]; try with_reducible rfl) ?_ | refine pg rfl rfl (by simp only [go_sem, Nat.reduceBEq]; try with_reducible rfl) (by intro hb; simp only [go_sem, Nat.reduceBEq, hb, Bool.true_and]; try with_reducible rfl) ?_)
    obtain ⟨r11, h10, hm⟩ := bnd hm
    refine ARun.callQG (r := .v (.bool r11)) (by decide) rfl (by simp only [go_sem, Nat.reduceBEq]; try with_reducible rfl) (by try simp only [go_sem, Nat.reduceBEq]; try rfl) fb10 (fun hb H => .nil) (fun hb => plAwake_c (gopt_t h10 hb)) ?_
    iterate 2 refine pu rfl (by simp only [go_sem, Nat.reduceBEq]; try with_reducible rfl) ?_
    refine fs ?_
    refine AWp.ret ?_
    cases hm
    exact ret1D (.inr rfl) Try.results7 (td (by try simp only [go_sem, Nat.reduceBEq]; try rfl) (.v _))
def PlanFits_m (n_0 : Int) (m_1 : Int) (k_2 : Int) : Option (Bool) :=
  ((plPlan_m n_0 m_1 k_2).bind fun ⟨r2, r3⟩ =>
  (bif (r3 != 0) then
    ((gopt ((((r2.N == 0) && ((r2.L == 0) && (r2.R == 0))) && ((r3 == 1) || (r3 == 6))) == true) false (plAwake_m )).bind fun r5 =>
    some ((((r2.N == 0) && ((r2.L == 0) && (r2.R == 0))) && ((r3 == 1) || (r3 == 6))) && r5))
  else
    ((plPlan_m n_0 m_1 (IntKind.i64.wrap (Int.tdiv k_2 2))).bind fun ⟨r7, r8⟩ =>
    ((plPlan_m (IntKind.i64.wrap (1 + (IntKind.i64.wrap (Int.tdiv (IntKind.i64.wrap (n_0 - 1)) 2)))) (IntKind.i64.wrap (Int.tdiv m_1 2)) k_2).bind fun ⟨r10, r11⟩ =>
    ((gopt ((((((((((r8 == 0) && (r11 == 0)) && (r2.N == n_0)) && (decide (1 ≤ r2.L))) && (decide (r2.L ≤ 16))) && (decide (1 ≤ r2.R))) && (decide (r2.R ≤ 8))) && (decide (r7.L ≤ r2.L))) && (decide (r10.L ≤ r2.L))) == true) false (plAwake_m )).bind fun r13 =>
    some ((((((((((r8 == 0) && (r11 == 0)) && (r2.N == n_0)) && (decide (1 ≤ r2.L))) && (decide (r2.L ≤ 16))) && (decide (1 ≤ r2.R))) && (decide (r2.R ≤ 8))) && (decide (r7.L ≤ r2.L))) && (decide (r10.L ≤ r2.L))) && r13))))))
theorem PlanFits_c {n_0 : Int} {m_1 : Int} {k_2 : Int} {r : Bool} (hm : PlanFits_m n_0 m_1 k_2 = some r) : PureC Try.prog 8 [.v (.int .i64 n_0), .v (.int .i64 m_1), .v (.int .i64 k_2)] (.v (.bool r)) := by
  refine PureC.of_body Try.func8 rfl ?_
  simp only [Try.ntmps8, List.length_cons, List.length_nil, Nat.reduceAdd, Nat.reduceSub, empty_eq]
  unfold PlanFits_m at hm
  refine sr (N' := 64) rfl ?_
  refine pu rfl (by simp only [go_sem, Nat.reduceBEq]; try with_reducible rfl) ?_
  refine fs ?_
  refine sr (N' := 128) rfl ?_
  iterate 3 refine pu rfl (by simp only [go_sem, Nat.reduceBEq]; try with_reducible rfl) ?_
  obtain ⟨⟨r2, r3⟩, h1, hm⟩ := bnd hm
  refine ARun.callQ (r := .tup [.agg [.v (.int .i64 r2.N), .v (.int .i64 r2.L), .v (.int .i64 r2.R)], .v (.int .i64 r3)]) (by decide) (by try simp only [go_sem, Nat.reduceBEq]; try rfl) fb18 (fun H => (.cons (td (by try simp only [go_sem, Nat.reduceBEq]; try rfl) (.v _)) (.cons (td (by try simp only [go_sem, Nat.reduceBEq]; try rfl) (.v _)) (.cons (td (by try simp only [go_sem, Nat.reduceBEq]; try rfl) (.v _)) .nil)))) (plPlan_c h1) ?_
  iterate 3 refine pu rfl (by simp only [go_sem, Nat.reduceBEq]; try with_reducible rfl) ?_
  refine hp (id := 71) rfl rfl (aheap_alloc' zc34 (by simp only [isFresh_upd, isFresh_no, Nat.reduceBEq, cond_true, cond_false])) ?_
  refine ARun.heap0 (id := 72) rfl (ah_var (ys := [.v (.int .i64 r2.N), .v (.int .i64 r2.L), .v (.int .i64 r2.R)]) sz34 (by try simp only [go_sem, Nat.reduceBEq]; try rfl) (by try simp only [go_sem, Nat.reduceBEq]; try rfl) (by simp only [upd_beq, Nat.reduceBEq, cond_true, cond_false]; try rfl) rfl (Nat.le_of_ble_eq_true rfl) (by first | rfl | (simp [AV.one]; done)) rfl) ?_
  refine pu rfl (by simp only [go_sem, Nat.reduceBEq]; try with_reducible rfl) ?_
  refine fs ?_
  refine AWp.seq' ?_
  refine sr (N' := 192) rfl ?_
  iterate 2 refine pu rfl (by simp only [go_sem, Nat.reduceBEq]; try with_reducible rfl) ?_
  refine fs ?_
  refine AWp.condM hm (by try simp only [go_sem, Nat.reduceBEq]; try rfl) (fun _ hm => ?_) (fun _ hm => ?_)
  · refine sr (N' := 256) rfl ?_
    refine pu rfl (ap_ldv (by try simp only [go_sem, Nat.reduceBEq]; try rfl) (by simp only [upd_beq, Nat.reduceBEq, cond_true, cond_false]; try rfl) (by simp only [go_sem, Nat.reduceBEq]; try with_reducible rfl)) ?_
    refine pu rfl (by simp only [go_sem, Nat.reduceBEq]; exact (by kernel_rfl : abuild Try.prog 34 [] = some (.agg [.v (.int .i64 0), .v (.int .i64 0), .v (.int .i64 0)]))) ?_
    iterate 10 (first | refine pu rfl (by simp only [go_sem, Nat.reduceBEq]; try with_reducible rfl) ?_ | refine pg rfl rfl (by simp only [go_sem, Nat.reduceBEq]; try with_reducible rfl) (by intro hb; simp only [go_sem, Nat.reduceBEq, hb, Bool.true_and]; try with_reducible rfl) ?_)
    obtain ⟨r5, h4, hm⟩ := bnd hm
    refine ARun.callQG (r := .v (.bool r5)) (by decide) rfl (by simp only [go_sem, Nat.reduceBEq]; try with_reducible rfl) (by try simp only [go_sem, Nat.reduceBEq]; try rfl) fb10 (fun hb H => .nil) (fun hb => plAwake_c (gopt_t h4 hb)) ?_
    iterate 2 refine pu rfl (by simp only [go_sem, Nat.reduceBEq]; try with_reducible rfl) ?_
    refine fs ?_
    refine AWp.ret ?_
    refine retSeq ?_
    cases hm
    exact ret1D (.inr rfl) Try.results8 (td (by try simp only [go_sem, Nat.reduceBEq]; try rfl) (.v _))
  · refine AWp.skip ?_
    refine normSeq ?_
    refine sr (N' := 256) rfl ?_
    iterate 4 refine pu rfl (by simp only [go_sem, Nat.reduceBEq, Int.reduceEq, Int.reduceLE]; try with_reducible rfl) ?_
    obtain ⟨⟨r7, r8⟩, h6, hm⟩ := bnd hm
    refine ARun.callQ (r := .tup [.agg [.v (.int .i64 r7.N), .v (.int .i64 r7.L), .v (.int .i64 r7.R)], .v (.int .i64 r8)]) (by decide) (by try simp only [go_sem, Nat.reduceBEq]; try rfl) fb18 (fun H => (.cons (td (by try simp only [go_sem, Nat.reduceBEq]; try rfl) (.v _)) (.cons (td (by try simp only [go_sem, Nat.reduceBEq]; try rfl) (.v _)) (.cons (td (by try simp only [go_sem, Nat.reduceBEq]; try rfl) (.v _)) .nil)))) (plPlan_c h6) ?_
    iterate 3 refine pu rfl (by simp only [go_sem, Nat.reduceBEq]; try with_reducible rfl) ?_
    refine hp (id := 200) rfl rfl (aheap_alloc' zc34 (by simp only [isFresh_upd, isFresh_no, Nat.reduceBEq, cond_true, cond_false])) ?_
    refine ARun.heap0 (id := 201) rfl (ah_var (ys := [.v (.int .i64 r7.N), .v (.int .i64 r7.L), .v (.int .i64 r7.R)]) sz34 (by try simp only [go_sem, Nat.reduceBEq]; try rfl) (by try simp only [go_sem, Nat.reduceBEq]; try rfl) (by simp only [upd_beq, Nat.reduceBEq, cond_true, cond_false]; try rfl) rfl (Nat.le_of_ble_eq_true rfl) (by first | rfl | (simp [AV.one]; done)) rfl) ?_
    refine pu rfl (by simp only [go_sem, Nat.reduceBEq]; try with_reducible rfl) ?_
    refine fs ?_
    refine sr (N' := 320) rfl ?_
    iterate 7 refine pu rfl (by simp only [go_sem, Nat.reduceBEq, Int.reduceEq, Int.reduceLE]; try with_reducible rfl) ?_
    obtain ⟨⟨r10, r11⟩, h9, hm⟩ := bnd hm
    refine ARun.callQ (r := .tup [.agg [.v (.int .i64 r10.N), .v (.int .i64 r10.L), .v (.int .i64 r10.R)], .v (.int .i64 r11)]) (by decide) (by try simp only [go_sem, Nat.reduceBEq]; try rfl) fb18 (fun H => (.cons (td (by try simp only [go_sem, Nat.reduceBEq]; try rfl) (.v _)) (.cons (td (by try simp only [go_sem, Nat.reduceBEq]; try rfl) (.v _)) (.cons (td (by try simp only [go_sem, Nat.reduceBEq]; try rfl) (.v _)) .nil)))) (plPlan_c h9) ?_
    iterate 3 refine pu rfl (by simp only [go_sem, Nat.reduceBEq]; try with_reducible rfl) ?_
    refine hp (id := 267) rfl rfl (aheap_alloc' zc34 (by simp only [isFresh_upd, isFresh_no, Nat.reduceBEq, cond_true, cond_false])) ?_
    refine ARun.heap0 (id := 268) rfl (ah_var (ys := [.v (.int .i64 r10.N), .v (.int .i64 r10.L), .v (.int .i64 r10.R)]) sz34 (by try simp only [go_sem, Nat.reduceBEq]; try rfl) (by try simp only [go_sem, Nat.reduceBEq]; try rfl) (by simp only [upd_beq, Nat.reduceBEq, cond_true, cond_false]; try rfl) rfl (Nat.le_of_ble_eq_true rfl) (by first | rfl | (simp [AV.one]; done)) rfl) ?_
    refine pu rfl (by simp only [go_sem, Nat.reduceBEq]; try with_reducible rfl) ?_
    refine fs ?_
    refine sr (N' := 384) rfl ?_
    iterate 8 (first | refine pu rfl (by simp only [go_sem, Nat.reduceBEq]; try with_reducible rfl) ?_ | refine pg rfl rfl (by simp only [go_sem, Nat.reduceBEq]; try with_reducible rfl) (by intro hb; simp only [go_sem, Nat.reduceBEq, hb, Bool.true_and]; try with_reducible rfl) ?_)
    refine pg rfl rfl (by simp only [go_sem, Nat.reduceBEq]; try with_reducible rfl) (fun hb => (ap_ldv (by try simp only [go_sem, Nat.reduceBEq, hb, Bool.true_and]; try rfl) (by simp only [upd_beq, Nat.reduceBEq, cond_true, cond_false]; try rfl) (by simp only [go_sem, Nat.reduceBEq, Nat.reduceAdd]; try with_reducible rfl))) ?_
    iterate 5 (first | refine pu rfl (by simp only [go_sem, Nat.reduceBEq]; try with_reducible rfl) ?_ | refine pg rfl rfl (by simp only [go_sem, Nat.reduceBEq]; try with_reducible rfl) (by intro hb; simp only [go_sem, Nat.reduceBEq, hb, Bool.true_and]; try with_reducible rfl) ?_)
    refine pg rfl rfl (by simp only [go_sem, Nat.reduceBEq]; try with_reducible rfl) (fun hb => (ap_ldv (by try simp only [go_sem, Nat.reduceBEq, hb, Bool.true_and]; try rfl) (by simp only [upd_beq, Nat.reduceBEq, cond_true, cond_false]; try rfl) (by simp only [go_sem, Nat.reduceBEq, Nat.reduceAdd]; try with_reducible rfl))) ?_
    iterate 4 (first | refine pu rfl (by simp only [go_sem, Nat.reduceBEq]; try with_reducible rfl) ?_ | refine pg rfl rfl (by simp only [go_sem, Nat.reduceBEq]; try with_reducible rfl) (by intro hb; simp only [go_sem, Nat.reduceBEq, hb, Bool.true_and]; try with_reducible rfl) ?_)
    refine pg rfl rfl (by simp only [go_sem, Nat.reduceBEq]; try with_reducible rfl) (fun hb => (ap_ldv (by try simp only [go_sem, Nat.reduceBEq, hb, Bool.true_and]; try rfl) (by simp only [upd_beq, Nat.reduceBEq, cond_true, cond_false]; try rfl) (by simp only [go_sem, Nat.reduceBEq, Nat.reduceAdd]; try with_reducible rfl))) ?_
    iterate 4 (first | refine pu rfl (by simp only [go_sem, Nat.reduceBEq]; try with_reducible rfl) ?_ | refine pg rfl rfl (by simp only [go_sem, Nat.reduceBEq]; try with_reducible rfl) (by intro hb; simp only [go_sem, Nat.reduceBEq, hb, Bool.true_and]; try with_reducible rfl) ?_)
    refine pg rfl rfl (by simp only [go_sem, Nat.reduceBEq]; try with_reducible rfl) (fun hb => (ap_ldv (by try simp only [go_sem, Nat.reduceBEq, hb, Bool.true_and]; try rfl) (by simp only [upd_beq, Nat.reduceBEq, cond_true, cond_false]; try rfl) (by simp only [go_sem, Nat.reduceBEq, Nat.reduceAdd]; try with_reducible rfl))) ?_
    iterate 4 (first | refine pu rfl (by simp only [go_sem, Nat.reduceBEq]; try with_reducible rfl) ?_ | refine pg rfl rfl (by simp only [go_sem, Nat.reduceBEq]; try with_reducible rfl) (by intro hb; simp only [go_sem, Nat.reduceBEq, hb, Bool.true_and]; try with_reducible rfl) ?_)
    refine pg rfl rfl (by simp only [go_sem, Nat.reduceBEq]; try with_reducible rfl) (fun hb => (ap_ldv (by try simp only [go_sem, Nat.reduceBEq, hb, Bool.true_and]; try rfl) (by simp only [upd_beq, Nat.reduceBEq, cond_true, cond_false]; try rfl) (by simp only [go_sem, Nat.reduceBEq, Nat.reduceAdd]; try with_reducible rfl))) ?_
    iterate 4 (first | refine pu rfl (by simp only [go_sem, Nat.reduceBEq]; try with_reducible rfl) ?_ | refine pg rfl rfl (by simp only [go_sem, Nat.reduceBEq]; try with_reducible rfl) (by intro hb; simp only [go_sem, Nat.reduceBEq, hb, Bool.true_and]; try with_reducible rfl) ?_)
    refine pg rfl rfl (by simp only [go_sem, Nat.reduceBEq]; try with_reducible rfl) (fun hb => (ap_ldv (by try simp only [go_sem, Nat.reduceBEq, hb, Bool.true_and]; try rfl) (by simp only [upd_beq, Nat.reduceBEq, cond_true, cond_false]; try rfl) (by simp only [go_sem, Nat.reduceBEq, Nat.reduceAdd]; try with_reducible rfl))) ?_
    refine pg rfl rfl (by simp only [go_sem, Nat.reduceBEq]; try with_reducible rfl) (by intro hb; simp only [go_sem, Nat.reduceBEq, hb, Bool.true_and]; try with_reducible rfl) ?_
    refine pg rfl rfl (by simp only [go_sem, Nat.reduceBEq]; try with_reducible rfl) (fun hb => (ap_ldv (by try simp only [go_sem, Nat.reduceBEq, hb, Bool.true_and]; try rfl) (by simp only [upd_beq, Nat.reduceBEq, cond_true, cond_false]; try rfl) (by simp only [go_sem, Nat.reduceBEq, Nat.reduceAdd]; try with_reducible rfl))) ?_
    iterate 4 (first | refine pu rfl (by simp only [go_sem, Nat.reduceBEq]; try with_reducible rfl) ?_ | refine pg rfl rfl (by simp only [go_sem, Nat.reduceBEq]; try with_reducible rfl) (by intro hb; simp only [go_sem, Nat.reduceBEq, hb, Bool.true_and]; try with_reducible rfl) ?_)
    refine pg rfl rfl (by simp only [go_sem, Nat.reduceBEq]; try with_reducible rfl) (fun hb => (ap_ldv (by try simp only [go_sem, Nat.reduceBEq, hb, Bool.true_and]; try rfl) (by simp only [upd_beq, Nat.reduceBEq, cond_true, cond_false]; try rfl) (by simp only [go_sem, Nat.reduceBEq, Nat.reduceAdd]; try with_reducible rfl))) ?_
    refine pg rfl rfl (by simp only [go_sem, Nat.reduceBEq]; try with_reducible rfl) (by intro hb; simp only [go_sem, Nat.reduceBEq, hb, Bool.true_and]; try with_reducible rfl) ?_
    refine pg rfl rfl (by simp only [go_sem, Nat.reduceBEq]; try with_reducible rfl) (fun hb => (ap_ldv (by try simp only [go_sem, Nat.reduceBEq, hb, Bool.true_and]; try rfl) (by simp only [upd_beq, Nat.reduceBEq, cond_true, cond_false]; try rfl) (by simp only [go_sem, Nat.reduceBEq, Nat.reduceAdd]; try with_reducible rfl))) ?_
    iterate 3 (first | refine pu rfl (by simp only [go_sem, Nat.reduceBEq]; try with_reducible rfl) ?_ | refine pg rfl rfl (by simp only [go_sem, Nat.reduceBEq]; try with_reducible rfl) (by intro hb; simp only [go_sem, Nat.reduceBEq, hb, Bool.true_and]; try with_reducible rfl) ?_)
    obtain ⟨r13, h12, hm⟩ := bnd hm
    refine ARun.callQG (r := .v (.bool r13)) (by decide) rfl (by simp only [go_sem, Nat.reduceBEq]; try with_reducible rfl) (by try simp only [go_sem, Nat.reduceBEq]; try rfl) fb10 (fun hb H => .nil) (fun hb => plAwake_c (gopt_t h12 hb)) ?_
    iterate 2 refine pu rfl (by simp only [go_sem, Nat.reduceBEq]; try with_reducible rfl) ?_
    refine fs ?_
    refine AWp.ret ?_
    cases hm
    exact ret1D (.inr rfl) Try.results8 (td (by try simp only [go_sem, Nat.reduceBEq]; try rfl) (.v _))
end Go.Proofs.Ytkkhgcllbbffaaa
