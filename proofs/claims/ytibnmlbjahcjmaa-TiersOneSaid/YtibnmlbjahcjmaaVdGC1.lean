/- Facts that the statement's proof is made of. No condition. -/
import Derived.Test.YtibnmlbjahcjmaaVdLds
import Derived.Test.YtibnmlbjahcjmaaVdAmF
set_option linter.unusedVariables false
set_option linter.unusedSimpArgs false
set_option maxRecDepth 20000
set_option maxHeartbeats 4000000
namespace Go.Proofs.Ytibnmlbjahcjmaa
open Go Go.AM
structure GRulesLone where
 Tier : Int
 V : Int
deriving DecidableEq
def cGRulesLone (e : GRulesLone) : List AV := [.v (.int .i64 e.Tier), .v (.int .i64 e.V)]
theorem cGRulesLone_app (e : GRulesLone) (r : List AV) : cGRulesLone e ++ r = .v (.int .i64 e.Tier) :: .v (.int .i64 e.V) :: r := rfl
attribute [go_sem] cGRulesLone_app
structure GRaftsmanref16Lone where
 Tier : Int
 V : Int
deriving DecidableEq
def cGRaftsmanref16Lone (e : GRaftsmanref16Lone) : List AV := [.v (.int .i64 e.Tier), .v (.int .i64 e.V)]
theorem cGRaftsmanref16Lone_app (e : GRaftsmanref16Lone) (r : List AV) : cGRaftsmanref16Lone e ++ r = .v (.int .i64 e.Tier) :: .v (.int .i64 e.V) :: r := rfl
attribute [go_sem] cGRaftsmanref16Lone_app
structure GRaftsmanlaw15Act where
 Gone : Bool
 U : Int
 V : Int
deriving DecidableEq
def cGRaftsmanlaw15Act (e : GRaftsmanlaw15Act) : List AV := [.v (.bool e.Gone), .v (.int .i64 e.U), .v (.int .i64 e.V)]
theorem cGRaftsmanlaw15Act_app (e : GRaftsmanlaw15Act) (r : List AV) : cGRaftsmanlaw15Act e ++ r = .v (.bool e.Gone) :: .v (.int .i64 e.U) :: .v (.int .i64 e.V) :: r := rfl
attribute [go_sem] cGRaftsmanlaw15Act_app
theorem eqs107GC1 (x0 y0 x1 y1 : Int) : abin Try.prog .eql 107 (.agg [.v (.int .i64 x0), .v (.int .i64 x1)]) (.agg [.v (.int .i64 y0), .v (.int .i64 y1)]) = some (.v (.bool ((x0 == y0) && (x1 == y1)))) :=
 (by kernel_rfl : abin Try.prog .eql 107 (.agg [.v (.int .i64 x0), .v (.int .i64 x1)]) (.agg [.v (.int .i64 y0), .v (.int .i64 y1)]) = some (.v (.bool ((x0 == y0) && ((x1 == y1) && true))))).trans (by rw [Bool.and_true])
theorem nqs107GC1 (x0 y0 x1 y1 : Int) : abin Try.prog .neq 107 (.agg [.v (.int .i64 x0), .v (.int .i64 x1)]) (.agg [.v (.int .i64 y0), .v (.int .i64 y1)]) = some (.v (.bool (!((x0 == y0) && (x1 == y1))))) :=
 (by kernel_rfl : abin Try.prog .neq 107 (.agg [.v (.int .i64 x0), .v (.int .i64 x1)]) (.agg [.v (.int .i64 y0), .v (.int .i64 y1)]) = some (.v (.bool (!((x0 == y0) && ((x1 == y1) && true)))))).trans (by rw [Bool.and_true])
attribute [go_sem] eqs107GC1 nqs107GC1
theorem eqs38GC1 (x0 y0 x1 y1 x2 y2 : Int) : abin Try.prog .eql 38 (.agg [.v (.int .i64 x0), .v (.int .i64 x1), .v (.int .i64 x2)]) (.agg [.v (.int .i64 y0), .v (.int .i64 y1), .v (.int .i64 y2)]) = some (.v (.bool ((x0 == y0) && ((x1 == y1) && (x2 == y2))))) :=
 (by kernel_rfl : abin Try.prog .eql 38 (.agg [.v (.int .i64 x0), .v (.int .i64 x1), .v (.int .i64 x2)]) (.agg [.v (.int .i64 y0), .v (.int .i64 y1), .v (.int .i64 y2)]) = some (.v (.bool ((x0 == y0) && ((x1 == y1) && ((x2 == y2) && true)))))).trans (by rw [Bool.and_true])
theorem nqs38GC1 (x0 y0 x1 y1 x2 y2 : Int) : abin Try.prog .neq 38 (.agg [.v (.int .i64 x0), .v (.int .i64 x1), .v (.int .i64 x2)]) (.agg [.v (.int .i64 y0), .v (.int .i64 y1), .v (.int .i64 y2)]) = some (.v (.bool (!((x0 == y0) && ((x1 == y1) && (x2 == y2)))))) :=
 (by kernel_rfl : abin Try.prog .neq 38 (.agg [.v (.int .i64 x0), .v (.int .i64 x1), .v (.int .i64 x2)]) (.agg [.v (.int .i64 y0), .v (.int .i64 y1), .v (.int .i64 y2)]) = some (.v (.bool (!((x0 == y0) && ((x1 == y1) && ((x2 == y2) && true))))))).trans (by rw [Bool.and_true])
attribute [go_sem] eqs38GC1 nqs38GC1
theorem eqs68GC1 (x0 y0 x1 y1 : Int) : abin Try.prog .eql 68 (.agg [.v (.int .i64 x0), .v (.int .i64 x1)]) (.agg [.v (.int .i64 y0), .v (.int .i64 y1)]) = some (.v (.bool ((x0 == y0) && (x1 == y1)))) :=
 (by kernel_rfl : abin Try.prog .eql 68 (.agg [.v (.int .i64 x0), .v (.int .i64 x1)]) (.agg [.v (.int .i64 y0), .v (.int .i64 y1)]) = some (.v (.bool ((x0 == y0) && ((x1 == y1) && true))))).trans (by rw [Bool.and_true])
theorem nqs68GC1 (x0 y0 x1 y1 : Int) : abin Try.prog .neq 68 (.agg [.v (.int .i64 x0), .v (.int .i64 x1)]) (.agg [.v (.int .i64 y0), .v (.int .i64 y1)]) = some (.v (.bool (!((x0 == y0) && (x1 == y1))))) :=
 (by kernel_rfl : abin Try.prog .neq 68 (.agg [.v (.int .i64 x0), .v (.int .i64 x1)]) (.agg [.v (.int .i64 y0), .v (.int .i64 y1)]) = some (.v (.bool (!((x0 == y0) && ((x1 == y1) && true)))))).trans (by rw [Bool.and_true])
attribute [go_sem] eqs68GC1 nqs68GC1
theorem fo23_0GC1 (i o : Nat) : afieldAddr Try.prog 23 (.adr i o) 0 = some (.adr i (o + 0)) := by kernel_rfl
attribute [go_sem] fo23_0GC1
theorem fo23_1GC1 (i o : Nat) : afieldAddr Try.prog 23 (.adr i o) 1 = some (.adr i (o + 1)) := by kernel_rfl
attribute [go_sem] fo23_1GC1
theorem fo23_2GC1 (i o : Nat) : afieldAddr Try.prog 23 (.adr i o) 2 = some (.adr i (o + 2)) := by kernel_rfl
attribute [go_sem] fo23_2GC1
theorem fo27_0GC1 (i o : Nat) : afieldAddr Try.prog 27 (.adr i o) 0 = some (.adr i (o + 0)) := by kernel_rfl
attribute [go_sem] fo27_0GC1
theorem fo27_2GC1 (i o : Nat) : afieldAddr Try.prog 27 (.adr i o) 2 = some (.adr i (o + 4)) := by kernel_rfl
attribute [go_sem] fo27_2GC1
theorem fo38_0GC1 (i o : Nat) : afieldAddr Try.prog 38 (.adr i o) 0 = some (.adr i (o + 0)) := by kernel_rfl
attribute [go_sem] fo38_0GC1
theorem fo38_1GC1 (i o : Nat) : afieldAddr Try.prog 38 (.adr i o) 1 = some (.adr i (o + 1)) := by kernel_rfl
attribute [go_sem] fo38_1GC1
theorem fo38_2GC1 (i o : Nat) : afieldAddr Try.prog 38 (.adr i o) 2 = some (.adr i (o + 2)) := by kernel_rfl
attribute [go_sem] fo38_2GC1
theorem fo68_0GC1 (i o : Nat) : afieldAddr Try.prog 68 (.adr i o) 0 = some (.adr i (o + 0)) := by kernel_rfl
attribute [go_sem] fo68_0GC1
theorem fo68_1GC1 (i o : Nat) : afieldAddr Try.prog 68 (.adr i o) 1 = some (.adr i (o + 1)) := by kernel_rfl
attribute [go_sem] fo68_1GC1
theorem ld107GC1 (H : Heap) (x0 x1 : AV) (xs : List AV) : aload Try.prog H 107 (.ptr (x0 :: x1 :: xs)) = some (.agg [x0, x1]) := by kernel_rfl
attribute [go_sem] ld107GC1
theorem ld23GC1 (H : Heap) (x0 x1 x2 : AV) (xs : List AV) : aload Try.prog H 23 (.ptr (x0 :: x1 :: x2 :: xs)) = some (.agg [x0, x1, x2]) := by kernel_rfl
attribute [go_sem] ld23GC1
theorem ld25GC1 (H : Heap) (x : AV) (xs : List AV) : aload Try.prog H 25 (.ptr (x :: xs)) = some x := by kernel_rfl
attribute [go_sem] ld25GC1
theorem ld27GC1 (H : Heap) (x0 x1 x2 x3 x4 : AV) (xs : List AV) : aload Try.prog H 27 (.ptr (x0 :: x1 :: x2 :: x3 :: x4 :: xs)) = some (.agg [x0, x1, x2, x3, x4]) := by kernel_rfl
attribute [go_sem] ld27GC1
theorem ld3GC1 (H : Heap) (x : AV) (xs : List AV) : aload Try.prog H 3 (.ptr (x :: xs)) = some x := by kernel_rfl
attribute [go_sem] ld3GC1
theorem ld38GC1 (H : Heap) (x0 x1 x2 : AV) (xs : List AV) : aload Try.prog H 38 (.ptr (x0 :: x1 :: x2 :: xs)) = some (.agg [x0, x1, x2]) := by kernel_rfl
attribute [go_sem] ld38GC1
theorem ld68GC1 (H : Heap) (x0 x1 : AV) (xs : List AV) : aload Try.prog H 68 (.ptr (x0 :: x1 :: xs)) = some (.agg [x0, x1]) := by kernel_rfl
attribute [go_sem] ld68GC1
def tiersFits_m (g_0 : GGraph) (u_1 : Int) (v_2 : Int) : Option (Bool) :=
 ((searchRight_m g_0).bind fun r2 =>
 some ((((r2 && (decide (0 ≤ u_1))) && (decide (u_1 < g_0.Config.N))) && (decide (0 ≤ v_2))) && (decide (v_2 < g_0.Config.N))))
theorem tiersFits_c {g_0 : GGraph} {u_1 : Int} {v_2 : Int} {r : Bool} (hm : tiersFits_m g_0 u_1 v_2 = some r) : PureC Try.prog 100 [.agg [.v (.int .i64 g_0.Config.N), .v (.int .i64 g_0.Config.L), .v (.int .i64 g_0.Config.R), .sl (g_0.Hashes.flatMap cGHash) g_0.Hashes.length false, .sl (g_0.Edges.flatMap cGEdge) g_0.Edges.length false], .v (.int .i64 u_1), .v (.int .i64 v_2)] (.v (.bool r)) := by
 refine PureC.of_body Try.func100 rfl ?_
 simp only [Try.ntmps100, List.length_cons, List.length_nil, Nat.reduceAdd, Nat.reduceSub, empty_eq]
 unfold tiersFits_m at hm
 refine sr (N' := 64) rfl ?_
 refine hp (id := 0) rfl rfl (aheap_box Z1 Z5) ?_
 refine pA ?_
 refine fs ?_
 refine sr (N' := 128) rfl ?_
 iterate 2 refine pA ?_
 refine pu rfl (ap_ldv Z1 Z3 Z4) ?_
 refine pA ?_
 refine fs ?_
 refine sr (N' := 192) rfl ?_
 refine pu rfl (ap_ldv Z1 Z3 Z2) ?_
 obtain ⟨r2, h1, hm⟩ := bnd hm
 refine ARun.callQ (r := .v (.bool r2)) Zd Z1 fb45 (fun H => (cD (.agg _ (CFGGraph.dat _)) .nil)) (searchRight_c h1) ?_
 iterate 19 first | refine pA ?_ | refine pB ?_
 refine fs ?_
 refine AWp.ret ?_
 cases hm
 exact ret1D (.inr rfl) Try.results100 (td Z1 (.v _))
def groveVertex_m (n_0 : Int) (v_1 : Int) : Option (Bool) :=
 some ((decide (0 ≤ v_1)) && (decide (v_1 < n_0)))
theorem groveVertex_c {n_0 : Int} {v_1 : Int} {r : Bool} (hm : groveVertex_m n_0 v_1 = some r) : PureC Try.prog 143 [.v (.int .i64 n_0), .v (.int .i64 v_1)] (.v (.bool r)) := by
 refine PureC.of_body Try.func143 rfl ?_
 simp only [Try.ntmps143, List.length_cons, List.length_nil, Nat.reduceAdd, Nat.reduceSub, empty_eq]
 unfold groveVertex_m at hm
 refine sr (N' := 64) rfl ?_
 refine pA ?_
 refine fs ?_
 refine sr (N' := 128) rfl ?_
 iterate 8 first | refine pA ?_ | refine pB ?_
 refine fs ?_
 refine AWp.ret ?_
 cases hm
 exact ret1D (.inr rfl) Try.results143 (td Z1 (.v _))
def grovePath_B1 (rec1 : List GEdge → Int → List Int → List GEdge → Int → Option ((List GEdge) × Int)) (l_1 : List GEdge) (v_3 : Int) (lead_10 : List Int) (path_11 : List GEdge) (x_12 : Int) : Option ((List GEdge) × Int) :=
 (bif (x_12 != v_3) then
  ((idx lead_10 x_12).bind fun x10 =>
  (bif (decide (x10 < 0)) then
   some ([], 3)
  else
   ((idx lead_10 x_12).bind fun x12 =>
   ((idx l_1 x12).bind fun x14 =>
   ((app path_11 [x14]).bind fun l16 =>
   ((groveOther_m x14 x_12).bind fun r18 =>
   rec1 l_1 v_3 lead_10 l16 r18))))))
 else
  some (path_11, 0))
def grovePath_L1 : Nat → List GEdge → Int → List Int → List GEdge → Int → Option ((List GEdge) × Int)
 | 0 => fun _ _ _ _ _ => none
 | n + 1 => grovePath_B1 (grovePath_L1 n)
def grovePath_m (n_0 : Int) (l_1 : List GEdge) (u_2 : Int) (v_3 : Int) : Option ((List GEdge) × Int) :=
 ((groveRight_m n_0 l_1).bind fun r2 =>
 ((gopt ((!r2) == false) false (groveVertex_m n_0 u_2)).bind fun r4 =>
 ((gopt (((!r2) || (!r4)) == false) false (groveVertex_m n_0 v_3)).bind fun r6 =>
 (bif (((!r2) || (!r4)) || (!r6)) then
  some ([], 1)
 else
  ((groveLeads_m n_0 l_1 v_3).bind fun r8 =>
  grovePath_L1 FUEL l_1 v_3 r8 [] u_2)))))
theorem grovePath_c {n_0 : Int} {l_1 : List GEdge} {u_2 : Int} {v_3 : Int} {r : (List GEdge) × Int} (hm : grovePath_m n_0 l_1 u_2 v_3 = some r) : PureC Try.prog 134 [.v (.int .i64 n_0), .sl (l_1.flatMap cGEdge) l_1.length false, .v (.int .i64 u_2), .v (.int .i64 v_3)] (.tup [.sl (r.1.flatMap cGEdge) r.1.length false, .v (.int .i64 r.2)]) := by
 refine PureC.of_body Try.func134 rfl ?_
 simp only [Try.ntmps134, List.length_cons, List.length_nil, Nat.reduceAdd, Nat.reduceSub, empty_eq]
 unfold grovePath_m at hm
 refine sr (N' := 64) rfl ?_
 iterate 2 refine pA ?_
 refine fs ?_
 refine AWp.seq' ?_
 refine sr (N' := 128) rfl ?_
 iterate 2 refine pA ?_
 obtain ⟨r2, h1, hm⟩ := bnd hm
 refine ARun.callQ (r := .v (.bool r2)) Zd Z1 fb91 (fun H => (cV (cD (CFGEdge.sl _ _ _) .nil))) (groveRight_c h1) ?_
 iterate 4 first | refine pA ?_ | refine pB ?_
 obtain ⟨r4, h3, hm⟩ := bnd hm
 refine ARun.callQG (r := .v (.bool r4)) Zd rfl Z2 Z1 fb143 (fun hb H => (.cons (td (Zh hb) (.v _)) (.cons (td (Zh hb) (.v _)) .nil))) (fun hb => groveVertex_c (gopt_t h3 hb)) ?_
 iterate 5 first | refine pA ?_ | refine pB ?_
 obtain ⟨r6, h5, hm⟩ := bnd hm
 refine ARun.callQG (r := .v (.bool r6)) Zd rfl Z2 Z1 fb143 (fun hb H => (.cons (td (Zh hb) (.v _)) (.cons (td (Zh hb) (.v _)) .nil))) (fun hb => groveVertex_c (gopt_t h5 hb)) ?_
 iterate 2 first | refine pA ?_ | refine pB ?_
 refine fs ?_
 refine AWp.condM hm Z1 (fun _ hm => ?_) (fun _ hm => ?_)
 ·
  refine sr (N' := 192) rfl ?_
  iterate 2 refine pA ?_
  refine fs ?_
  refine AWp.ret ?_
  refine retSeq ?_
  cases hm
  exact ret2D (.inr rfl) Try.results134 (tdn Z1) (td Z1 (.v _))
 ·
  refine AWp.skip ?_
  refine normSeq ?_
  refine sr (N' := 192) rfl ?_
  iterate 3 refine pA ?_
  obtain ⟨r8, h7, hm⟩ := bnd hm
  refine ARun.callQ (r := .sl (r8.flatMap (ci .i64)) r8.length false) Zd Z1 fb144 (fun H => (cV (cD (CFGEdge.sl _ _ _) (cV .nil)))) (groveLeads_c h7) ?_
  refine pA ?_
  refine fs ?_
  refine sr (N' := 256) rfl ?_
  refine pA ?_
  refine fs ?_
  refine AWp.seq' ?_
  refine sr (N' := 320) rfl ?_
  iterate 2 refine pA ?_
  refine fs ?_
  refine AWp.block ?_
  refine AWp.loopM (fun m s => ∃ (l_1 : List GEdge) (v_3 : Int) (lead_10 : List Int) (path_11 : List GEdge) (x_12 : Int), s = (⟨58, (fset (fset (fset (fset (fset (fun _ => AV.any) 1 (.sl (l_1.flatMap cGEdge) l_1.length false)) 3 (.v (.int .i64 v_3))) 10 (.sl (lead_10.flatMap (ci .i64)) lead_10.length false)) 11 (.own 1 0 path_11.length)) 12 (.v (.int .i64 x_12))), ⟨(upd nofresh 1 (.cells 3 (path_11.flatMap cGEdge) 0)), 64⟩⟩ : St) ∧ grovePath_L1 m l_1 v_3 lead_10 path_11 x_12 = some r) FUEL ?_ ?_ ?_
  ·
   rintro s ⟨_, _, _, _, _, _, h⟩
   cases h
  ·
   refine ⟨_, ?_, l_1, v_3, r8, [], u_2, rfl, hm⟩
   refine St.Le.trans (le_nil 11 900011 3 Z1 Z5) ?_
   exact le_canon (fun j => bif j == 1 then 900011 else 0) (wV (wO (wD ((CFi .i64).sl _ _ _) (wV (wD (CFGEdge.sl _ _ _) wk_none))))) (hW (eU CFGEdge entWk_none))
  ·
   rintro n1 s ⟨l_1, v_3, lead_10, path_11, x_12, rfl, hm⟩
   replace hm : grovePath_B1 (grovePath_L1 n1) l_1 v_3 lead_10 path_11 x_12 = some r := hm
   unfold grovePath_B1 at hm
   refine AWp.seq' ?_
   refine sr (N' := 128) rfl ?_
   iterate 3 refine pA ?_
   refine fs ?_
   refine AWp.condM hm Z1 (fun _ hm => ?_) (fun _ hm => ?_)
   ·
    refine AWp.skip ?_
    refine normSeq ?_
    refine AWp.block ?_
    refine AWp.seq' ?_
    refine sr (N' := 192) rfl ?_
    iterate 2 refine pA ?_
    obtain ⟨x10, h9, hm⟩ := bnd hm
    refine pu rfl (ap_idx (CFi .i64) Zd Try.underlying30 sz3 Z1 rfl Z1 h9) ?_
    iterate 2 refine pA ?_
    refine fs ?_
    refine AWp.condM hm Z1 (fun _ hm => ?_) (fun _ hm => ?_)
    ·
     refine sr (N' := 256) rfl ?_
     iterate 2 refine pA ?_
     refine fs ?_
     refine AWp.ret ?_
     refine retSeq ?_
     refine retIn ?_
     refine retThen ?_
     refine retIn ?_
     refine retSeq ?_
     cases hm
     exact ret2D (.inr rfl) Try.results134 (tdn Z1) (td Z1 (.v _))
    ·
     refine AWp.skip ?_
     refine normSeq ?_
     refine sr (N' := 256) rfl ?_
     iterate 3 refine pA ?_
     obtain ⟨x12, h11, hm⟩ := bnd hm
     refine pu rfl (ap_idx (CFi .i64) Zd Try.underlying30 sz3 Z1 rfl Z1 h11) ?_
     refine pA ?_
     obtain ⟨x14, h13, hm⟩ := bnd hm
     refine pu rfl (ap_idx CFGEdge Zd Try.underlying25 sz38 Z1 rfl Z1 h13) ?_
     refine pA ?_
     refine hp (id := 199) rfl rfl (aheap_alloc' zc38 Z5) ?_
     refine ARun.heap0 (id := 200) rfl (ah_var (ys := [.v (.int .i64 x14.U), .v (.int .i64 x14.V), .v (.int .i64 x14.Tier)]) sz38 Z1 Z1 Z3 rfl (Nat.le_of_ble_eq_true rfl) Z9 rfl) ?_
     refine fs ?_
     refine sr (N' := 320) rfl ?_
     refine pA ?_
     refine pu rfl (ap_ldv Z1 Z3 Z2) ?_
     refine hp (id := 258) rfl rfl (ah_list CFGEdge (l := [x14]) Try.underlying25 sz38 zc38 Z5 Zd Zd Zd (by simp only [go_sem, Nat.reduceBEq]; try rfl) (by kernel_rfl)) ?_
     obtain ⟨l16, h15, hm⟩ := bnd hm
     refine hp (id := 259) rfl rfl (ah_app CFGEdge Try.underlying25 Try.underlying25 rfl in38 ts38 (by rw [tb38]; decide) (by rw [tb38]; decide) tz38 Zd Zd Z1 Z3 Z6 (as_own CFGEdge Z1 Z3 Z6) rfl Z5 h15) ?_
     refine pA ?_
     refine fs ?_
     refine AWp.reg 64 (N' := 384) rfl ?_
     refine pu rfl (ap_ldv Z1 Z3 Z2) ?_
     refine pA ?_
     obtain ⟨r18, h17, hm⟩ := bnd hm
     refine ARun.callQ (r := .v (.int .i64 r18)) Zd Z1 fb145 (fun H => (cD (.agg _ (CFGEdge.dat _)) (cV .nil))) (groveOther_c h17) ?_
     refine pA ?_
     refine ARun.fin ?_
     refine normIn ?_
     refine normThen ?_
     refine ⟨_, ?_, l_1, v_3, lead_10, l16, r18, rfl, hm⟩
     exact le_canon (fun j => bif j == 1 then 259 else 0) (wV (wO (wD ((CFi .i64).sl _ _ _) (wV (wD (CFGEdge.sl _ _ _) wk_none))))) (hW (eU CFGEdge entWk_none))
   ·
    refine AWp.exit ?_
    refine exitSeq ?_
    refine exitThen ?_
    refine exitHere ?_
    refine normSeq ?_
    refine sr (N' := 192) rfl ?_
    iterate 3 refine pA ?_
    refine fs ?_
    refine AWp.ret ?_
    cases hm
    exact ret2D (.inr rfl) Try.results134 (tdo CFGEdge Z1 Z3 Z6) (td Z1 (.v _))
def groveGreatest_J1 (rec1 : GEdge → GEdge → List GEdge → Int → Int → Option (GEdge × Bool)) (t2 : GEdge) (greatest_4 : GEdge) (t15 : List GEdge) (t16 : Int) (t17 : Int) : Option (GEdge × Bool) :=
 rec1 t2 greatest_4 t15 t16 (IntKind.i64.wrap (t17 + 1))
def groveGreatest_B1 (rec1 : GEdge → GEdge → List GEdge → Int → Int → Option (GEdge × Bool)) (t2 : GEdge) (greatest_4 : GEdge) (t15 : List GEdge) (t16 : Int) (t17 : Int) : Option (GEdge × Bool) :=
 (bif (decide (t17 < t16)) then
  ((idx t15 t17).bind fun x6 =>
  ((gopt (((decide (greatest_4.Tier < x6.Tier)) == false) && ((x6.Tier == greatest_4.Tier) == true)) false (nameLess_m greatest_4 x6)).bind fun r8 =>
  (bif ((decide (greatest_4.Tier < x6.Tier)) || ((x6.Tier == greatest_4.Tier) && r8)) then
   groveGreatest_J1 rec1 t2 x6 t15 t16 t17
  else
   groveGreatest_J1 rec1 t2 greatest_4 t15 t16 t17)))
 else
  some (greatest_4, true))
def groveGreatest_L1 : Nat → GEdge → GEdge → List GEdge → Int → Int → Option (GEdge × Bool)
 | 0 => fun _ _ _ _ _ => none
 | n + 1 => groveGreatest_B1 (groveGreatest_L1 n)
def groveGreatest_m (l_0 : List GEdge) : Option (GEdge × Bool) :=
 (bif ((l_0.length : Int) == 0) then
  some ((GEdge.mk 0 0 0), false)
 else
  ((idx l_0 0).bind fun x2 =>
  ((slc l_0 1 (l_0.length : Int)).bind fun l4 =>
  groveGreatest_L1 FUEL (GEdge.mk 0 0 0) x2 l4 (l4.length : Int) 0)))
theorem groveGreatest_c {l_0 : List GEdge} {r : GEdge × Bool} (hm : groveGreatest_m l_0 = some r) : PureC Try.prog 135 [.sl (l_0.flatMap cGEdge) l_0.length false] (.tup [.agg [.v (.int .i64 r.1.U), .v (.int .i64 r.1.V), .v (.int .i64 r.1.Tier)], .v (.bool r.2)]) := by
 refine PureC.of_body Try.func135 rfl ?_
 simp only [Try.ntmps135, List.length_cons, List.length_nil, Nat.reduceAdd, Nat.reduceSub, empty_eq]
 unfold groveGreatest_m at hm
 refine sr (N' := 64) rfl ?_
 refine hp (id := 0) rfl rfl (aheap_alloc' zc38 Z5) ?_
 refine pA ?_
 refine fs ?_
 refine AWp.seq' ?_
 refine sr (N' := 128) rfl ?_
 iterate 3 refine pA ?_
 refine fs ?_
 refine AWp.condM hm Z1 (fun _ hm => ?_) (fun _ hm => ?_)
 ·
  refine sr (N' := 192) rfl ?_
  refine pu rfl (by simp only [go_sem, Nat.reduceBEq]; exact (by kernel_rfl : abuild Try.prog 38 [] = some (.agg [.v (.int .i64 0), .v (.int .i64 0), .v (.int .i64 0)]))) ?_
  refine ARun.heap0 (id := 129) rfl (ah_var (ys := [.v (.int .i64 0), .v (.int .i64 0), .v (.int .i64 0)]) sz38 Z1 Z1 Z3 rfl (Nat.le_of_ble_eq_true rfl) Z9 rfl) ?_
  refine pA ?_
  refine fs ?_
  refine AWp.ret ?_
  refine retSeq ?_
  cases hm
  exact retL (.inr rfl) (by rw [Try.results135]) (.cell (ap_ldv' Z1 Z3 Z2) (.tmp Z1 .nil)) rfl (tdt (.cons (td rfl (.agg _ (CFGEdge.dat (GEdge.mk 0 0 0)))) (.cons (td rfl (.v _)) .nil)))
 ·
  refine AWp.skip ?_
  refine normSeq ?_
  refine sr (N' := 192) rfl ?_
  refine pA ?_
  obtain ⟨x2, h1, hm⟩ := bnd hm
  refine pu rfl (ap_idx CFGEdge Zd Try.underlying25 sz38 Z1 rfl Z1 h1) ?_
  refine pA ?_
  refine hp (id := 131) rfl rfl (aheap_alloc' zc38 Z5) ?_
  refine ARun.heap0 (id := 132) rfl (ah_var (ys := [.v (.int .i64 x2.U), .v (.int .i64 x2.V), .v (.int .i64 x2.Tier)]) sz38 Z1 Z1 Z3 rfl (Nat.le_of_ble_eq_true rfl) Z9 rfl) ?_
  refine fs ?_
  refine AWp.seq' ?_
  refine sr (N' := 256) rfl ?_
  refine pA ?_
  obtain ⟨l4, h3, hm⟩ := bnd hm
  refine pu rfl (ap_slc CFGEdge Try.underlying25 sz38 Z1 rfl (ab_some Z1 (slc_0 h3).1) (ab_none _) h3) ?_
  iterate 2 refine pA ?_
  refine fs ?_
  refine AWp.block ?_
  refine AWp.loopM (fun m s => ∃ (t2 : GEdge) (greatest_4 : GEdge) (t15 : List GEdge) (t16 : Int) (t17 : Int), s = (⟨41, (fset (fset (fset (fset (fset (fun _ => AV.any) 2 (.adr 1 0)) 4 (.adr 2 0)) 15 (.sl (t15.flatMap cGEdge) t15.length false)) 16 (.v (.int .i64 t16))) 17 (.v (.int .i64 t17))), ⟨(upd (upd nofresh 1 (.cells 1 [.v (.int .i64 t2.U), .v (.int .i64 t2.V), .v (.int .i64 t2.Tier)] 0)) 2 (.cells 1 [.v (.int .i64 greatest_4.U), .v (.int .i64 greatest_4.V), .v (.int .i64 greatest_4.Tier)] 0)), 64⟩⟩ : St) ∧ groveGreatest_L1 m t2 greatest_4 t15 t16 t17 = some r) FUEL ?_ ?_ ?_
  ·
   rintro s ⟨_, _, _, _, _, _, h⟩
   cases h
  ·
   refine ⟨_, ?_, (GEdge.mk 0 0 0), x2, l4, (l4.length : Int), 0, rfl, hm⟩
   refine St.Le.trans (le_tod 15 (.sl (l4.flatMap cGEdge) l4.length false) (fun H => (tdf Z1 (CFGEdge.sl _ _ _)))) ?_
   exact le_canon (fun j => bif j == 1 then 0 else bif j == 2 then 131 else 0) (wV (wV (wD (CFGEdge.sl _ _ _) (wk_fset _ _ (wk_adr Z1 rfl Z7) (wk_fset _ _ (wk_adr Z1 rfl Z7) wk_none))))) (heapWk_of _ (entWk_upd (entWk_data Z3 (Nat.le_refl _) (Nat.zero_le _) (CFGEdge.dat x2)) (entWk_upd (entWk_data Z3 (Nat.le_refl _) (Nat.zero_le _) (CFGEdge.dat (GEdge.mk 0 0 0))) entWk_none)) Z8)
  ·
   rintro n1 s ⟨t2, greatest_4, t15, t16, t17, rfl, hm⟩
   replace hm : groveGreatest_B1 (groveGreatest_L1 n1) t2 greatest_4 t15 t16 t17 = some r := hm
   unfold groveGreatest_B1 at hm
   refine sr (N' := 128) rfl ?_
   refine pA ?_
   refine fs ?_
   refine AWp.seq' ?_
   refine AWp.condM hm Z1 (fun _ hm => ?_) (fun _ hm => ?_)
   ·
    refine AWp.skip ?_
    refine normSeq ?_
    refine AWp.seqJ (fun s => ∃ (t2 : GEdge) (greatest_4 : GEdge) (t15 : List GEdge) (t16 : Int) (t17 : Int), s = (⟨41, (fset (fset (fset (fset (fset (fun _ => AV.any) 2 (.adr 1 0)) 4 (.adr 2 0)) 15 (.sl (t15.flatMap cGEdge) t15.length false)) 16 (.v (.int .i64 t16))) 17 (.v (.int .i64 t17))), ⟨(upd (upd nofresh 1 (.cells 1 [.v (.int .i64 t2.U), .v (.int .i64 t2.V), .v (.int .i64 t2.Tier)] 0)) 2 (.cells 1 [.v (.int .i64 greatest_4.U), .v (.int .i64 greatest_4.V), .v (.int .i64 greatest_4.Tier)] 0)), 64⟩⟩ : St) ∧ groveGreatest_J1 (groveGreatest_L1 n1) t2 greatest_4 t15 t16 t17 = some r) ?_ ?_
    ·
     refine AWp.block ?_
     refine sr (N' := 192) rfl ?_
     obtain ⟨x6, h5, hm⟩ := bnd hm
     refine pu rfl (ap_idx CFGEdge Zd Try.underlying25 sz38 Z1 rfl Z1 h5) ?_
     refine pA ?_
     refine hp (id := 130) rfl rfl (aheap_alloc' zc38 Z5) ?_
     refine ARun.heap0 (id := 131) rfl (ah_var (ys := [.v (.int .i64 x6.U), .v (.int .i64 x6.V), .v (.int .i64 x6.Tier)]) sz38 Z1 Z1 Z3 rfl (Nat.le_of_ble_eq_true rfl) Z9 rfl) ?_
     refine fs ?_
     refine sr (N' := 256) rfl ?_
     refine pA ?_
     refine pu rfl (ap_ldv Z1 Z3 Z4) ?_
     refine pA ?_
     refine pu rfl (ap_ldv Z1 Z3 Z4) ?_
     iterate 3 first | refine pA ?_ | refine pB ?_
     refine pg rfl rfl Z2 (fun hb => (ap_ldv (Zh hb) Z3 Z4)) ?_
     refine pB ?_
     refine pg rfl rfl Z2 (fun hb => (ap_ldv (Zh hb) Z3 Z4)) ?_
     iterate 2 refine pB ?_
     refine pg rfl rfl Z2 (fun hb => (ap_ldv (Zh hb) Z3 Z2)) ?_
     refine pg rfl rfl Z2 (fun hb => (ap_ldv (Zh hb) Z3 Z2)) ?_
     obtain ⟨r8, h7, hm⟩ := bnd hm
     refine ARun.callQG (r := .v (.bool r8)) Zd rfl Z2 Z1 fb118 (fun hb H => (.cons (td (Zh hb) (.agg _ (CFGEdge.dat _))) (.cons (td (Zh hb) (.agg _ (CFGEdge.dat _))) .nil))) (fun hb => nameLess_c (gopt_t h7 hb)) ?_
     iterate 2 first | refine pA ?_ | refine pB ?_
     refine fs ?_
     refine AWp.condM hm Z1 (fun _ hm => ?_) (fun _ hm => ?_)
     ·
      refine AWp.reg 64 (N' := 320) rfl ?_
      refine pu rfl (ap_ldv Z1 Z3 Z2) ?_
      refine ARun.heap0 (id := 257) rfl (ah_var (ys := [.v (.int .i64 x6.U), .v (.int .i64 x6.V), .v (.int .i64 x6.Tier)]) sz38 Z1 Z1 Z3 rfl (Nat.le_of_ble_eq_true rfl) Z9 rfl) ?_
      refine ARun.fin ?_
      refine normIn ?_
      refine normJ ?_
      refine ⟨_, ?_, t2, x6, t15, t16, t17, rfl, hm⟩
      exact le_canon (fun j => bif j == 1 then 1 else bif j == 2 then 2 else 0) (wV (wV (wD (CFGEdge.sl _ _ _) (wk_fset _ _ (wk_adr Z1 rfl Z7) (wk_fset _ _ (wk_adr Z1 rfl Z7) wk_none))))) (hW (entWk_upd (entWk_data Z3 (Nat.le_refl _) (Nat.zero_le _) (CFGEdge.dat x6)) (entWk_upd (entWk_data Z3 (Nat.le_refl _) (Nat.zero_le _) (CFGEdge.dat t2)) entWk_none)))
     ·
      refine AWp.skip ?_
      refine normIn ?_
      refine normJ ?_
      refine ⟨_, ?_, t2, greatest_4, t15, t16, t17, rfl, hm⟩
      exact le_canon (fun j => bif j == 1 then 1 else bif j == 2 then 2 else 0) (wV (wV (wD (CFGEdge.sl _ _ _) (wk_fset _ _ (wk_adr Z1 rfl Z7) (wk_fset _ _ (wk_adr Z1 rfl Z7) wk_none))))) (hW (entWk_upd (entWk_data Z3 (Nat.le_refl _) (Nat.zero_le _) (CFGEdge.dat greatest_4)) (entWk_upd (entWk_data Z3 (Nat.le_refl _) (Nat.zero_le _) (CFGEdge.dat t2)) entWk_none)))
    ·
     rintro s ⟨t2, greatest_4, t15, t16, t17, rfl, hm⟩
     unfold groveGreatest_J1 at hm
     refine AWp.reg 64 (N' := 128) rfl ?_
     iterate 2 refine pA ?_
     refine ARun.fin ?_
     refine normThen ?_
     refine ⟨_, ?_, t2, greatest_4, t15, t16, (IntKind.i64.wrap (t17 + 1)), rfl, hm⟩
     exact le_canon (fun j => bif j == 1 then 1 else bif j == 2 then 2 else 0) (wV (wV (wD (CFGEdge.sl _ _ _) (wk_fset _ _ (wk_adr Z1 rfl Z7) (wk_fset _ _ (wk_adr Z1 rfl Z7) wk_none))))) (hW (entWk_upd (entWk_data Z3 (Nat.le_refl _) (Nat.zero_le _) (CFGEdge.dat greatest_4)) (entWk_upd (entWk_data Z3 (Nat.le_refl _) (Nat.zero_le _) (CFGEdge.dat t2)) entWk_none)))
   ·
    refine AWp.exit ?_
    refine exitSeq ?_
    refine exitThen ?_
    refine exitHere ?_
    refine normSeq ?_
    refine sr (N' := 192) rfl ?_
    refine pu rfl (ap_ldv Z1 Z3 Z2) ?_
    refine ARun.heap0 (id := 129) rfl (ah_var (ys := [.v (.int .i64 greatest_4.U), .v (.int .i64 greatest_4.V), .v (.int .i64 greatest_4.Tier)]) sz38 Z1 Z1 Z3 rfl (Nat.le_of_ble_eq_true rfl) Z9 rfl) ?_
    refine pA ?_
    refine fs ?_
    refine AWp.ret ?_
    cases hm
    exact retL (.inr rfl) (by rw [Try.results135]) (.cell (ap_ldv' Z1 Z3 Z2) (.tmp Z1 .nil)) rfl (tdt (.cons (td rfl (.agg _ (CFGEdge.dat _))) (.cons (td rfl (.v _)) .nil)))
def tableVertex_m (n_0 : Int) (v_1 : Int) : Option (Bool) :=
 some ((decide (0 ≤ v_1)) && (decide (v_1 < n_0)))
theorem tableVertex_c {n_0 : Int} {v_1 : Int} {r : Bool} (hm : tableVertex_m n_0 v_1 = some r) : PureC Try.prog 122 [.v (.int .i64 n_0), .v (.int .i64 v_1)] (.v (.bool r)) := by
 refine PureC.of_body Try.func122 rfl ?_
 simp only [Try.ntmps122, List.length_cons, List.length_nil, Nat.reduceAdd, Nat.reduceSub, empty_eq]
 unfold tableVertex_m at hm
 refine sr (N' := 64) rfl ?_
 refine pA ?_
 refine fs ?_
 refine sr (N' := 128) rfl ?_
 iterate 8 first | refine pA ?_ | refine pB ?_
 refine fs ?_
 refine AWp.ret ?_
 cases hm
 exact ret1D (.inr rfl) Try.results122 (td Z1 (.v _))
def slicesCloneEdge_m (l : List GEdge) : Option (List GEdge) := app [] l
theorem slicesCloneEdge_fA {r : List GEdge} (hm : some [] = some r) : FreshC Try.prog 146 [.v (.slice none 0 0)] 3 (r.flatMap cGEdge) r.length := by
 refine FreshC.of_body Try.func146 rfl (CFGEdge.fmdat r) ?_
 simp only [Try.ntmps146, List.length_cons, List.length_nil, Nat.reduceAdd, Nat.reduceSub, empty_eq]
 refine sr (N' := 64) rfl ?_
 refine pA ?_
 refine fs ?_
 refine AWp.seq' ?_
 refine sr (N' := 128) rfl ?_
 refine pA ?_
 refine pu rfl (ap_eqn Z1 Z1 (abin_nil Try.underlying25)) ?_
 refine fs ?_
 refine AWp.condT Z1 ?_
 refine sr (N' := 192) rfl ?_
 refine pA ?_
 refine fs ?_
 refine AWp.weaken (le_nil 2 900002 3 Z1 Z5) ?_
 refine AWp.ret ?_
 refine retSeq ?_
 cases hm
 exact retF (.inr rfl) Try.results146 Z1 Z3 Z6
theorem slicesCloneEdge_fB {a : Addr} {c : Nat} {r : List GEdge} (hm : ((app [] []).bind fun l2 =>
some l2) = some r) : FreshC Try.prog 146 [.v (.slice (some a) 0 c)] 3 (r.flatMap cGEdge) r.length := by
 refine FreshC.of_body Try.func146 rfl (CFGEdge.fmdat r) ?_
 simp only [Try.ntmps146, List.length_cons, List.length_nil, Nat.reduceAdd, Nat.reduceSub, empty_eq]
 refine sr (N' := 64) rfl ?_
 refine pA ?_
 refine fs ?_
 refine AWp.seq' ?_
 refine sr (N' := 128) rfl ?_
 refine pA ?_
 refine pu rfl (ap_eqn Z1 Z1 (abin_xnil Try.underlying25)) ?_
 refine fs ?_
 refine AWp.condF Z1 ?_
 refine AWp.skip ?_
 refine normSeq ?_
 refine sr (N' := 192) rfl ?_
 refine hp (id := 128) rfl rfl (ah_list CFGEdge (l := []) Try.underlying25 sz38 zc38 Z5 Zd Zd Zd (by simp only [go_sem, Nat.reduceBEq]; try rfl) (by kernel_rfl)) ?_
 refine pA ?_
 obtain ⟨l2, h1, hm⟩ := bnd hm
 refine hp (id := 130) rfl rfl (ah_app CFGEdge Try.underlying25 Try.underlying25 rfl in38 ts38 (by rw [tb38]; decide) (by rw [tb38]; decide) tz38 Zd Zd Z1 Z3 Z6 (as_xnil Z1) rfl Z5 h1) ?_
 refine pA ?_
 refine fs ?_
 refine AWp.ret ?_
 cases hm
 exact retF (.inr rfl) Try.results146 Z1 Z3 Z6
theorem slicesCloneEdge_fC {x0 : GEdge} {l0 : List GEdge} {r : List GEdge} (hm : ((app [] (x0 :: l0)).bind fun l2 =>
some l2) = some r) : FreshC Try.prog 146 [.sl ((x0 :: l0).flatMap cGEdge) (x0 :: l0).length false] 3 (r.flatMap cGEdge) r.length := by
 refine FreshC.of_body Try.func146 rfl (CFGEdge.fmdat r) ?_
 simp only [Try.ntmps146, List.length_cons, List.length_nil, Nat.reduceAdd, Nat.reduceSub, empty_eq]
 refine sr (N' := 64) rfl ?_
 refine pA ?_
 refine fs ?_
 refine AWp.seq' ?_
 refine sr (N' := 128) rfl ?_
 refine pA ?_
 refine pu rfl (ap_eqn Z1 Z1 (abin_nnil Try.underlying25 (by simp))) ?_
 refine fs ?_
 refine AWp.condF Z1 ?_
 refine AWp.skip ?_
 refine normSeq ?_
 refine sr (N' := 192) rfl ?_
 refine hp (id := 128) rfl rfl (ah_list CFGEdge (l := []) Try.underlying25 sz38 zc38 Z5 Zd Zd Zd (by simp only [go_sem, Nat.reduceBEq]; try rfl) (by kernel_rfl)) ?_
 refine pA ?_
 obtain ⟨l2, h1, hm⟩ := bnd hm
 refine hp (id := 130) rfl rfl (ah_app CFGEdge Try.underlying25 Try.underlying25 rfl in38 ts38 (by rw [tb38]; decide) (by rw [tb38]; decide) tz38 Zd Zd Z1 Z3 Z6 (as_sl CFGEdge Z1 rfl) rfl Z5 h1) ?_
 refine pA ?_
 refine fs ?_
 refine AWp.ret ?_
 cases hm
 exact retF (.inr rfl) Try.results146 Z1 Z3 Z6
theorem slicesCloneEdge_f {l r : List GEdge} (hm : slicesCloneEdge_m l = some r) : FreshC Try.prog 146 [.sl (l.flatMap cGEdge) l.length false] 3 (r.flatMap cGEdge) r.length := by
 cases l with
 | nil =>
  have hr : r = [] := by unfold slicesCloneEdge_m app at hm; simpa using hm.symm
  subst hr
  exact FreshC.nil_arg (slicesCloneEdge_fA (r := []) rfl) (fun a c => slicesCloneEdge_fB (r := []) rfl)
 | cons x0 l0 =>
  refine slicesCloneEdge_fC ?_
  show (app [] (x0 :: l0)).bind _ = _
  unfold slicesCloneEdge_m at hm
  rw [hm]; rfl
def tableSet_m (n_0 : Int) (l_1 : List GEdge) (u_2 : Int) (v_3 : Int) (tier_4 : Int) : Option ((List GEdge) × Int) :=
 ((tableRight_m n_0 l_1).bind fun r2 =>
 ((gopt ((!r2) == false) false (tableVertex_m n_0 u_2)).bind fun r4 =>
 ((gopt (((!r2) || (!r4)) == false) false (tableVertex_m n_0 v_3)).bind fun r6 =>
 ((gopt ((((!r2) || (!r4)) || (!r6)) == false) false (tableTiered_m tier_4)).bind fun r8 =>
 (bif ((((!r2) || (!r4)) || (!r6)) || (!r8)) then
  some (l_1, 1)
 else
  ((nameFind_m l_1 u_2 v_3).bind fun ⟨r10, r11⟩ =>
  (bif (!r11) then
   some (l_1, 9)
  else
   ((slicesCloneEdge_m l_1).bind fun r13 =>
   ((idx r13 r10).bind fun x15 =>
   ((stt r13 r10 (GEdge.mk x15.U x15.V tier_4)).bind fun l17 =>
   some (l17, 0)))))))))))
theorem tableSet_c {n_0 : Int} {l_1 : List GEdge} {u_2 : Int} {v_3 : Int} {tier_4 : Int} {r : (List GEdge) × Int} (hm : tableSet_m n_0 l_1 u_2 v_3 tier_4 = some r) : PureC Try.prog 136 [.v (.int .i64 n_0), .sl (l_1.flatMap cGEdge) l_1.length false, .v (.int .i64 u_2), .v (.int .i64 v_3), .v (.int .i64 tier_4)] (.tup [.sl (r.1.flatMap cGEdge) r.1.length false, .v (.int .i64 r.2)]) := by
 refine PureC.of_body Try.func136 rfl ?_
 simp only [Try.ntmps136, List.length_cons, List.length_nil, Nat.reduceAdd, Nat.reduceSub, empty_eq]
 unfold tableSet_m at hm
 refine sr (N' := 64) rfl ?_
 iterate 2 refine pA ?_
 refine fs ?_
 refine AWp.seq' ?_
 refine sr (N' := 128) rfl ?_
 iterate 2 refine pA ?_
 obtain ⟨r2, h1, hm⟩ := bnd hm
 refine ARun.callQ (r := .v (.bool r2)) Zd Z1 fb90 (fun H => (cV (cD (CFGEdge.sl _ _ _) .nil))) (tableRight_c h1) ?_
 iterate 4 first | refine pA ?_ | refine pB ?_
 obtain ⟨r4, h3, hm⟩ := bnd hm
 refine ARun.callQG (r := .v (.bool r4)) Zd rfl Z2 Z1 fb122 (fun hb H => (.cons (td (Zh hb) (.v _)) (.cons (td (Zh hb) (.v _)) .nil))) (fun hb => tableVertex_c (gopt_t h3 hb)) ?_
 iterate 5 first | refine pA ?_ | refine pB ?_
 obtain ⟨r6, h5, hm⟩ := bnd hm
 refine ARun.callQG (r := .v (.bool r6)) Zd rfl Z2 Z1 fb122 (fun hb H => (.cons (td (Zh hb) (.v _)) (.cons (td (Zh hb) (.v _)) .nil))) (fun hb => tableVertex_c (gopt_t h5 hb)) ?_
 iterate 4 first | refine pA ?_ | refine pB ?_
 obtain ⟨r8, h7, hm⟩ := bnd hm
 refine ARun.callQG (r := .v (.bool r8)) Zd rfl Z2 Z1 fb117 (fun hb H => (.cons (td (Zh hb) (.v _)) .nil)) (fun hb => tableTiered_c (gopt_t h7 hb)) ?_
 iterate 2 first | refine pA ?_ | refine pB ?_
 refine fs ?_
 refine AWp.condM hm Z1 (fun _ hm => ?_) (fun _ hm => ?_)
 ·
  refine sr (N' := 192) rfl ?_
  iterate 3 refine pA ?_
  refine fs ?_
  refine AWp.ret ?_
  refine retSeq ?_
  cases hm
  exact ret2D (.inr rfl) Try.results136 (td Z1 (CFGEdge.sl _ _ _)) (td Z1 (.v _))
 ·
  refine AWp.skip ?_
  refine normSeq ?_
  refine sr (N' := 192) rfl ?_
  iterate 3 refine pA ?_
  obtain ⟨⟨r10, r11⟩, h9, hm⟩ := bnd hm
  refine ARun.callQ (r := .tup [.v (.int .i64 r10), .v (.bool r11)]) Zd Z1 fb89 (fun H => (cD (CFGEdge.sl _ _ _) (cV (cV .nil)))) (nameFind_c h9) ?_
  iterate 5 refine pA ?_
  refine fs ?_
  refine AWp.seq' ?_
  refine sr (N' := 256) rfl ?_
  iterate 2 refine pA ?_
  refine fs ?_
  refine AWp.condM hm Z1 (fun _ hm => ?_) (fun _ hm => ?_)
  ·
   refine sr (N' := 320) rfl ?_
   iterate 3 refine pA ?_
   refine fs ?_
   refine AWp.ret ?_
   refine retSeq ?_
   cases hm
   exact ret2D (.inr rfl) Try.results136 (td Z1 (CFGEdge.sl _ _ _)) (td Z1 (.v _))
  ·
   refine AWp.skip ?_
   refine normSeq ?_
   refine sr (N' := 320) rfl ?_
   refine pA ?_
   obtain ⟨r13, h12, hm⟩ := bnd hm
   refine ARun.callF (id := 257) Zd Z1 fb146 (fun H => (cD (CFGEdge.sl _ _ _) .nil)) CFGEdge Z5 (slicesCloneEdge_f h12) ?_
   refine pA ?_
   refine fs ?_
   refine sr (N' := 384) rfl ?_
   iterate 3 refine pA ?_
   obtain ⟨x15, h14, hm⟩ := bnd hm
   refine pu rfl (ap_idxo Try.underlying25 sz38 Z1 Z3 Z6 Z1 h14) ?_
   refine pA ?_
   obtain ⟨l17, h16, hm⟩ := bnd hm
   have qh16 := stt_len h16
   refine ARun.heap0 (id := 325) rfl (ah_sttf CFGEdge (off := 2) (y := x15) (y' := (GEdge.mk x15.U x15.V tier_4)) (cs := [.v (.int .i64 tier_4)]) sz3 Z1 Z1 Z3 rfl h14 rfl Zd Z9 rfl h16) ?_
   refine fs ?_
   refine sr (N' := 448) rfl ?_
   iterate 3 refine pA ?_
   refine fs ?_
   refine AWp.ret ?_
   cases hm
   exact ret2D (.inr rfl) Try.results136 (tdo CFGEdge Z1 Z3 Z6) (td Z1 (.v _))
def tiersRaised_J1 (tier_1 : Int) (g_3 : GGraph) (t6 : GGraph) (e_7 : GEdge) (n_9 : Int) : Option (GGraph) :=
 ((tableSet_m n_9 g_3.Edges e_7.U e_7.V (IntKind.i64.wrap (tier_1 + 1))).bind fun ⟨r9, r10⟩ =>
 some (GGraph.mk g_3.Config g_3.Hashes r9))
def tiersRaised_m (g_0 : GGraph) (tier_1 : Int) (v_2 : Int) : Option (GGraph) :=
 ((searchTree_m g_0 tier_1 v_2).bind fun r2 =>
 ((searchTree_m g_0 (IntKind.i64.wrap (tier_1 + 1)) v_2).bind fun r4 =>
 (bif ((r2.length : Int) != (r4.length : Int)) then
  some g_0
 else
  ((searchSearch_m g_0 tier_1 v_2).bind fun ⟨r6, r7⟩ =>
  (bif (!r7) then
   some g_0
  else
   (bif (r6.Tier == 0) then
    ((tableForest_m g_0.Config.N g_0.Edges g_0.Config.L).bind fun r12 =>
    ((grovePath_m g_0.Config.N r12 r6.U r6.V).bind fun ⟨r14, r15⟩ =>
    ((groveGreatest_m r14).bind fun ⟨r17, r18⟩ =>
    (bif (r18 && (r15 == 0)) then
     ((tableSet_m g_0.Config.N g_0.Edges r17.U r17.V 0).bind fun ⟨r20, r21⟩ =>
     tiersRaised_J1 tier_1 (GGraph.mk g_0.Config g_0.Hashes r20) (GGraph.mk (GConfig.mk 0 0 0) [] []) r6 g_0.Config.N)
    else
     tiersRaised_J1 tier_1 g_0 (GGraph.mk (GConfig.mk 0 0 0) [] []) r6 g_0.Config.N))))
   else
    tiersRaised_J1 tier_1 g_0 (GGraph.mk (GConfig.mk 0 0 0) [] []) r6 g_0.Config.N))))))
theorem tiersRaised_c {g_0 : GGraph} {tier_1 : Int} {v_2 : Int} {r : GGraph} (hm : tiersRaised_m g_0 tier_1 v_2 = some r) : PureC Try.prog 121 [.agg [.v (.int .i64 g_0.Config.N), .v (.int .i64 g_0.Config.L), .v (.int .i64 g_0.Config.R), .sl (g_0.Hashes.flatMap cGHash) g_0.Hashes.length false, .sl (g_0.Edges.flatMap cGEdge) g_0.Edges.length false], .v (.int .i64 tier_1), .v (.int .i64 v_2)] (.agg [.v (.int .i64 r.Config.N), .v (.int .i64 r.Config.L), .v (.int .i64 r.Config.R), .sl (r.Hashes.flatMap cGHash) r.Hashes.length false, .sl (r.Edges.flatMap cGEdge) r.Edges.length false]) := by
 refine PureC.of_body Try.func121 rfl ?_
 simp only [Try.ntmps121, List.length_cons, List.length_nil, Nat.reduceAdd, Nat.reduceSub, empty_eq]
 unfold tiersRaised_m at hm
 refine sr (N' := 64) rfl ?_
 refine hp (id := 0) rfl rfl (aheap_box Z1 Z5) ?_
 refine hp (id := 1) rfl rfl (aheap_alloc' zc27 Z5) ?_
 refine fs ?_
 refine AWp.seq' ?_
 refine sd mix (by kernel_rfl) (N' := 128) rfl ?_
 refine pu rfl (ap_ldv Z1 Z3 Z2) ?_
 iterate 2 refine pA ?_
 obtain ⟨r2, h1, hm⟩ := bnd hm
 refine ARun.callQ (r := .sl (r2.flatMap (ci .i64)) r2.length false) Zd Z1 fb42 (fun H => (cD (.agg _ (CFGGraph.dat _)) (cV (cV .nil)))) (searchTree_c h1) ?_
 refine pA ?_
 refine pu rfl (ap_ldv Z1 Z3 Z2) ?_
 iterate 3 refine pA ?_
 obtain ⟨r4, h3, hm⟩ := bnd hm
 refine ARun.callQ (r := .sl (r4.flatMap (ci .i64)) r4.length false) Zd Z1 fb42 (fun H => (cD (.agg _ (CFGGraph.dat _)) (cV (cV .nil)))) (searchTree_c h3) ?_
 iterate 2 refine pA ?_
 refine fs ?_
 refine AWp.condM hm Z1 (fun _ hm => ?_) (fun _ hm => ?_)
 ·
  refine sr (N' := 192) rfl ?_
  refine pu rfl (ap_ldv Z1 Z3 Z2) ?_
  refine ARun.heap0 (id := 129) rfl (ah_var (ys := [.v (.int .i64 g_0.Config.N), .v (.int .i64 g_0.Config.L), .v (.int .i64 g_0.Config.R), .sl (g_0.Hashes.flatMap cGHash) g_0.Hashes.length false, .sl (g_0.Edges.flatMap cGEdge) g_0.Edges.length false]) sz27 Z1 Z1 Z3 rfl (Nat.le_of_ble_eq_true rfl) Z9 rfl) ?_
  refine fs ?_
  refine AWp.ret ?_
  refine retSeq ?_
  cases hm
  exact retL (.inr rfl) (by rw [Try.results121]) (.cell (ap_ldv' Z1 Z3 Z2) .nil) rfl (td rfl (.agg _ (CFGGraph.dat _)))
 ·
  refine AWp.skip ?_
  refine normSeq ?_
  refine sr (N' := 192) rfl ?_
  refine pu rfl (ap_ldv Z1 Z3 Z2) ?_
  iterate 2 refine pA ?_
  obtain ⟨⟨r6, r7⟩, h5, hm⟩ := bnd hm
  refine ARun.callQ (r := .tup [.agg [.v (.int .i64 r6.U), .v (.int .i64 r6.V), .v (.int .i64 r6.Tier)], .v (.bool r7)]) Zd Z1 fb44 (fun H => (cD (.agg _ (CFGGraph.dat _)) (cV (cV .nil)))) (searchSearch_c h5) ?_
  iterate 3 refine pA ?_
  refine hp (id := 135) rfl rfl (aheap_alloc' zc38 Z5) ?_
  refine ARun.heap0 (id := 136) rfl (ah_var (ys := [.v (.int .i64 r6.U), .v (.int .i64 r6.V), .v (.int .i64 r6.Tier)]) sz38 Z1 Z1 Z3 rfl (Nat.le_of_ble_eq_true rfl) Z9 rfl) ?_
  refine pA ?_
  refine fs ?_
  refine AWp.seq' ?_
  refine sr (N' := 256) rfl ?_
  iterate 2 refine pA ?_
  refine fs ?_
  refine AWp.condM hm Z1 (fun _ hm => ?_) (fun _ hm => ?_)
  ·
   refine sr (N' := 320) rfl ?_
   refine pu rfl (ap_ldv Z1 Z3 Z2) ?_
   refine ARun.heap0 (id := 257) rfl (ah_var (ys := [.v (.int .i64 g_0.Config.N), .v (.int .i64 g_0.Config.L), .v (.int .i64 g_0.Config.R), .sl (g_0.Hashes.flatMap cGHash) g_0.Hashes.length false, .sl (g_0.Edges.flatMap cGEdge) g_0.Edges.length false]) sz27 Z1 Z1 Z3 rfl (Nat.le_of_ble_eq_true rfl) Z9 rfl) ?_
   refine fs ?_
   refine AWp.ret ?_
   refine retSeq ?_
   cases hm
   exact retL (.inr rfl) (by rw [Try.results121]) (.cell (ap_ldv' Z1 Z3 Z2) .nil) rfl (td rfl (.agg _ (CFGGraph.dat _)))
  ·
   refine AWp.skip ?_
   refine normSeq ?_
   refine sr (N' := 320) rfl ?_
   iterate 2 refine pA ?_
   refine pu rfl (ap_ldv Z1 Z3 Z4) ?_
   refine pA ?_
   refine fs ?_
   refine AWp.seqJ (fun s => ∃ (tier_1 : Int) (g_3 : GGraph) (t6 : GGraph) (e_7 : GEdge) (n_9 : Int), s = (⟨98, (fset (fset (fset (fset (fset (fun _ => AV.any) 1 (.v (.int .i64 tier_1))) 3 (.adr 1 0)) 6 (.adr 2 0)) 7 (.adr 3 0)) 9 (.v (.int .i64 n_9))), ⟨(upd (upd (upd nofresh 1 (.cells 1 [.v (.int .i64 g_3.Config.N), .v (.int .i64 g_3.Config.L), .v (.int .i64 g_3.Config.R), .sl (g_3.Hashes.flatMap cGHash) g_3.Hashes.length false, .sl (g_3.Edges.flatMap cGEdge) g_3.Edges.length false] 0)) 2 (.cells 1 [.v (.int .i64 t6.Config.N), .v (.int .i64 t6.Config.L), .v (.int .i64 t6.Config.R), .sl (t6.Hashes.flatMap cGHash) t6.Hashes.length false, .sl (t6.Edges.flatMap cGEdge) t6.Edges.length false] 0)) 3 (.cells 1 [.v (.int .i64 e_7.U), .v (.int .i64 e_7.V), .v (.int .i64 e_7.Tier)] 0)), 64⟩⟩ : St) ∧ tiersRaised_J1 tier_1 g_3 t6 e_7 n_9 = some r) ?_ ?_
   ·
    refine sr (N' := 384) rfl ?_
    refine pA ?_
    refine pu rfl (ap_ldv Z1 Z3 Z4) ?_
    refine pA ?_
    refine fs ?_
    refine AWp.condM hm Z1 (fun _ hm => ?_) (fun _ hm => ?_)
    ·
     refine sr (N' := 448) rfl ?_
     iterate 2 refine pA ?_
     refine pu rfl (ap_ldv Z1 Z3 Z4) ?_
     iterate 2 refine pA ?_
     refine pu rfl (ap_ldv Z1 Z3 Z4) ?_
     obtain ⟨r12, h11, hm⟩ := bnd hm
     refine ARun.callQ (r := .sl (r12.flatMap cGEdge) r12.length false) Zd Z1 fb81 (fun H => (cV (cD (CFGEdge.sl _ _ _) (cV .nil)))) (tableForest_c h11) ?_
     refine pA ?_
     refine fs ?_
     refine sr (N' := 512) rfl ?_
     iterate 3 refine pA ?_
     refine pu rfl (ap_ldv Z1 Z3 Z4) ?_
     refine pA ?_
     refine pu rfl (ap_ldv Z1 Z3 Z4) ?_
     obtain ⟨⟨r14, r15⟩, h13, hm⟩ := bnd hm
     refine ARun.callQ (r := .tup [.sl (r14.flatMap cGEdge) r14.length false, .v (.int .i64 r15)]) Zd Z1 fb134 (fun H => (cV (cD (CFGEdge.sl _ _ _) (cV (cV .nil))))) (grovePath_c h13) ?_
     iterate 5 refine pA ?_
     refine fs ?_
     refine sr (N' := 576) rfl ?_
     refine pA ?_
     obtain ⟨⟨r17, r18⟩, h16, hm⟩ := bnd hm
     refine ARun.callQ (r := .tup [.agg [.v (.int .i64 r17.U), .v (.int .i64 r17.V), .v (.int .i64 r17.Tier)], .v (.bool r18)]) Zd Z1 fb135 (fun H => (cD (CFGEdge.sl _ _ _) .nil)) (groveGreatest_c h16) ?_
     iterate 3 refine pA ?_
     refine hp (id := 517) rfl rfl (aheap_alloc' zc38 Z5) ?_
     refine ARun.heap0 (id := 518) rfl (ah_var (ys := [.v (.int .i64 r17.U), .v (.int .i64 r17.V), .v (.int .i64 r17.Tier)]) sz38 Z1 Z1 Z3 rfl (Nat.le_of_ble_eq_true rfl) Z9 rfl) ?_
     refine pA ?_
     refine fs ?_
     refine sr (N' := 640) rfl ?_
     iterate 5 first | refine pA ?_ | refine pB ?_
     refine fs ?_
     refine AWp.condM hm Z1 (fun _ hm => ?_) (fun _ hm => ?_)
     ·
      refine AWp.reg 64 (N' := 704) rfl ?_
      iterate 2 refine pA ?_
      refine pu rfl (ap_ldv Z1 Z3 Z4) ?_
      refine pA ?_
      refine pu rfl (ap_ldv Z1 Z3 Z4) ?_
      refine pA ?_
      refine pu rfl (ap_ldv Z1 Z3 Z4) ?_
      obtain ⟨⟨r20, r21⟩, h19, hm⟩ := bnd hm
      refine ARun.callQ (r := .tup [.sl (r20.flatMap cGEdge) r20.length false, .v (.int .i64 r21)]) Zd Z1 fb136 (fun H => (cV (cD (CFGEdge.sl _ _ _) (cV (cV (cV .nil)))))) (tableSet_c h19) ?_
      iterate 4 refine pA ?_
      refine ARun.heap0 (id := 652) rfl (ah_var (ys := [.v (.int .i64 g_0.Config.N), .v (.int .i64 g_0.Config.L), .v (.int .i64 g_0.Config.R), .sl (g_0.Hashes.flatMap cGHash) g_0.Hashes.length false, .sl (r20.flatMap cGEdge) r20.length false]) sz25 Z1 Z1 Z3 rfl (Nat.le_of_ble_eq_true rfl) Z9 rfl) ?_
      refine ARun.fin ?_
      refine normJ ?_
      refine ⟨_, ?_, tier_1, (GGraph.mk g_0.Config g_0.Hashes r20), (GGraph.mk (GConfig.mk 0 0 0) [] []), r6, g_0.Config.N, rfl, hm⟩
      refine St.Le.trans (le_cells 1 (ys := [.v (.int .i64 (((GGraph.mk (GConfig.mk 0 0 0) [] []).Config).N)), .v (.int .i64 (((GGraph.mk (GConfig.mk 0 0 0) [] []).Config).L)), .v (.int .i64 (((GGraph.mk (GConfig.mk 0 0 0) [] []).Config).R)), .sl (((GGraph.mk (GConfig.mk 0 0 0) [] []).Hashes).flatMap cGHash) ((GGraph.mk (GConfig.mk 0 0 0) [] []).Hashes).length false, .sl (((GGraph.mk (GConfig.mk 0 0 0) [] []).Edges).flatMap cGEdge) ((GGraph.mk (GConfig.mk 0 0 0) [] []).Edges).length false]) Z3 (.cons (.data _ (.v _)) (.cons (.data _ (.v _)) (.cons (.data _ (.v _)) (.cons (.nil false) (.cons (.nil false) .nil)))))) ?_
      exact le_canon (fun j => bif j == 1 then 0 else bif j == 2 then 1 else bif j == 3 then 135 else 0) (wV (wk_fset _ _ (wk_adr Z1 rfl Z7) (wk_fset _ _ (wk_adr Z1 rfl Z7) (wk_fset _ _ (wk_adr Z1 rfl Z7) (wV wk_none))))) (heapWk_of _ (entWk_upd (entWk_data Z3 (Nat.le_refl _) (Nat.zero_le _) (CFGEdge.dat r6)) (entWk_upd (entWk_data Z3 (Nat.le_refl _) (Nat.zero_le _) (CFGGraph.dat (GGraph.mk (GConfig.mk 0 0 0) [] []))) (entWk_upd (entWk_data Z3 (Nat.le_refl _) (Nat.zero_le _) (CFGGraph.dat (GGraph.mk g_0.Config g_0.Hashes r20))) entWk_none))) Z8)
     ·
      refine AWp.skip ?_
      refine normJ ?_
      refine ⟨_, ?_, tier_1, g_0, (GGraph.mk (GConfig.mk 0 0 0) [] []), r6, g_0.Config.N, rfl, hm⟩
      refine St.Le.trans (le_cells 1 (ys := [.v (.int .i64 (((GGraph.mk (GConfig.mk 0 0 0) [] []).Config).N)), .v (.int .i64 (((GGraph.mk (GConfig.mk 0 0 0) [] []).Config).L)), .v (.int .i64 (((GGraph.mk (GConfig.mk 0 0 0) [] []).Config).R)), .sl (((GGraph.mk (GConfig.mk 0 0 0) [] []).Hashes).flatMap cGHash) ((GGraph.mk (GConfig.mk 0 0 0) [] []).Hashes).length false, .sl (((GGraph.mk (GConfig.mk 0 0 0) [] []).Edges).flatMap cGEdge) ((GGraph.mk (GConfig.mk 0 0 0) [] []).Edges).length false]) Z3 (.cons (.data _ (.v _)) (.cons (.data _ (.v _)) (.cons (.data _ (.v _)) (.cons (.nil false) (.cons (.nil false) .nil)))))) ?_
      exact le_canon (fun j => bif j == 1 then 0 else bif j == 2 then 1 else bif j == 3 then 135 else 0) (wV (wk_fset _ _ (wk_adr Z1 rfl Z7) (wk_fset _ _ (wk_adr Z1 rfl Z7) (wk_fset _ _ (wk_adr Z1 rfl Z7) (wV wk_none))))) (heapWk_of _ (entWk_upd (entWk_data Z3 (Nat.le_refl _) (Nat.zero_le _) (CFGEdge.dat r6)) (entWk_upd (entWk_data Z3 (Nat.le_refl _) (Nat.zero_le _) (CFGGraph.dat (GGraph.mk (GConfig.mk 0 0 0) [] []))) (entWk_upd (entWk_data Z3 (Nat.le_refl _) (Nat.zero_le _) (CFGGraph.dat g_0)) entWk_none))) Z8)
    ·
     refine AWp.skip ?_
     refine normJ ?_
     refine ⟨_, ?_, tier_1, g_0, (GGraph.mk (GConfig.mk 0 0 0) [] []), r6, g_0.Config.N, rfl, hm⟩
     refine St.Le.trans (le_cells 1 (ys := [.v (.int .i64 (((GGraph.mk (GConfig.mk 0 0 0) [] []).Config).N)), .v (.int .i64 (((GGraph.mk (GConfig.mk 0 0 0) [] []).Config).L)), .v (.int .i64 (((GGraph.mk (GConfig.mk 0 0 0) [] []).Config).R)), .sl (((GGraph.mk (GConfig.mk 0 0 0) [] []).Hashes).flatMap cGHash) ((GGraph.mk (GConfig.mk 0 0 0) [] []).Hashes).length false, .sl (((GGraph.mk (GConfig.mk 0 0 0) [] []).Edges).flatMap cGEdge) ((GGraph.mk (GConfig.mk 0 0 0) [] []).Edges).length false]) Z3 (.cons (.data _ (.v _)) (.cons (.data _ (.v _)) (.cons (.data _ (.v _)) (.cons (.nil false) (.cons (.nil false) .nil)))))) ?_
     exact le_canon (fun j => bif j == 1 then 0 else bif j == 2 then 1 else bif j == 3 then 135 else 0) (wV (wk_fset _ _ (wk_adr Z1 rfl Z7) (wk_fset _ _ (wk_adr Z1 rfl Z7) (wk_fset _ _ (wk_adr Z1 rfl Z7) (wV wk_none))))) (heapWk_of _ (entWk_upd (entWk_data Z3 (Nat.le_refl _) (Nat.zero_le _) (CFGEdge.dat r6)) (entWk_upd (entWk_data Z3 (Nat.le_refl _) (Nat.zero_le _) (CFGGraph.dat (GGraph.mk (GConfig.mk 0 0 0) [] []))) (entWk_upd (entWk_data Z3 (Nat.le_refl _) (Nat.zero_le _) (CFGGraph.dat g_0)) entWk_none))) Z8)
   ·
    rintro s ⟨tier_1, g_3, t6, e_7, n_9, rfl, hm⟩
    unfold tiersRaised_J1 at hm
    refine sr (N' := 128) rfl ?_
    iterate 2 refine pA ?_
    refine pu rfl (ap_ldv Z1 Z3 Z4) ?_
    refine pA ?_
    refine pu rfl (ap_ldv Z1 Z3 Z4) ?_
    refine pA ?_
    refine pu rfl (ap_ldv Z1 Z3 Z4) ?_
    iterate 2 refine pA ?_
    obtain ⟨⟨r9, r10⟩, h8, hm⟩ := bnd hm
    refine ARun.callQ (r := .tup [.sl (r9.flatMap cGEdge) r9.length false, .v (.int .i64 r10)]) Zd Z1 fb136 (fun H => (cV (cD (CFGEdge.sl _ _ _) (cV (cV (cV .nil)))))) (tableSet_c h8) ?_
    iterate 4 refine pA ?_
    refine ARun.heap0 (id := 78) rfl (ah_var (ys := [.v (.int .i64 g_3.Config.N), .v (.int .i64 g_3.Config.L), .v (.int .i64 g_3.Config.R), .sl (g_3.Hashes.flatMap cGHash) g_3.Hashes.length false, .sl (r9.flatMap cGEdge) r9.length false]) sz25 Z1 Z1 Z3 rfl (Nat.le_of_ble_eq_true rfl) Z9 rfl) ?_
    refine fs ?_
    refine sr (N' := 192) rfl ?_
    refine pu rfl (ap_ldv Z1 Z3 Z2) ?_
    refine ARun.heap0 (id := 129) rfl (ah_var (ys := [.v (.int .i64 g_3.Config.N), .v (.int .i64 g_3.Config.L), .v (.int .i64 g_3.Config.R), .sl (g_3.Hashes.flatMap cGHash) g_3.Hashes.length false, .sl (r9.flatMap cGEdge) r9.length false]) sz27 Z1 Z1 Z3 rfl (Nat.le_of_ble_eq_true rfl) Z9 rfl) ?_
    refine fs ?_
    refine AWp.ret ?_
    cases hm
    exact retL (.inr rfl) (by rw [Try.results121]) (.cell (ap_ldv' Z1 Z3 Z2) .nil) rfl (td rfl (.agg _ (CFGGraph.dat (GGraph.mk g_3.Config g_3.Hashes r9))))
def tiersMended_B1 (rec1 : Int → Int → GGraph → GGraph → Int → Int → Option (GGraph)) (u_1 : Int) (v_2 : Int) (g_3 : GGraph) (t6 : GGraph) (t10 : Int) (t11 : Int) : Option (GGraph) :=
 (bif (decide (t11 < t10)) then
  ((tiersRaised_m g_3 t11 u_1).bind fun r2 =>
  ((tiersRaised_m r2 t11 v_2).bind fun r4 =>
  rec1 u_1 v_2 r4 t6 t10 (IntKind.i64.wrap (t11 + 1))))
 else
  some g_3)
def tiersMended_L1 : Nat → Int → Int → GGraph → GGraph → Int → Int → Option (GGraph)
 | 0 => fun _ _ _ _ _ _ => none
 | n + 1 => tiersMended_B1 (tiersMended_L1 n)
def tiersMended_m (g_0 : GGraph) (u_1 : Int) (v_2 : Int) : Option (GGraph) :=
 tiersMended_L1 FUEL u_1 v_2 g_0 (GGraph.mk (GConfig.mk 0 0 0) [] []) g_0.Config.L 0
theorem tiersMended_c {g_0 : GGraph} {u_1 : Int} {v_2 : Int} {r : GGraph} (hm : tiersMended_m g_0 u_1 v_2 = some r) : PureC Try.prog 101 [.agg [.v (.int .i64 g_0.Config.N), .v (.int .i64 g_0.Config.L), .v (.int .i64 g_0.Config.R), .sl (g_0.Hashes.flatMap cGHash) g_0.Hashes.length false, .sl (g_0.Edges.flatMap cGEdge) g_0.Edges.length false], .v (.int .i64 u_1), .v (.int .i64 v_2)] (.agg [.v (.int .i64 r.Config.N), .v (.int .i64 r.Config.L), .v (.int .i64 r.Config.R), .sl (r.Hashes.flatMap cGHash) r.Hashes.length false, .sl (r.Edges.flatMap cGEdge) r.Edges.length false]) := by
 refine PureC.of_body Try.func101 rfl ?_
 simp only [Try.ntmps101, List.length_cons, List.length_nil, Nat.reduceAdd, Nat.reduceSub, empty_eq]
 unfold tiersMended_m at hm
 refine sr (N' := 64) rfl ?_
 refine hp (id := 0) rfl rfl (aheap_box Z1 Z5) ?_
 refine hp (id := 1) rfl rfl (aheap_alloc' zc27 Z5) ?_
 refine fs ?_
 refine AWp.seq' ?_
 refine sr (N' := 128) rfl ?_
 iterate 2 refine pA ?_
 refine pu rfl (ap_ldv Z1 Z3 Z4) ?_
 refine pA ?_
 refine fs ?_
 refine AWp.block ?_
 refine AWp.loopM (fun m s => ∃ (u_1 : Int) (v_2 : Int) (g_3 : GGraph) (t6 : GGraph) (t10 : Int) (t11 : Int), s = (⟨24, (fset (fset (fset (fset (fset (fset (fun _ => AV.any) 1 (.v (.int .i64 u_1))) 2 (.v (.int .i64 v_2))) 3 (.adr 1 0)) 6 (.adr 2 0)) 10 (.v (.int .i64 t10))) 11 (.v (.int .i64 t11))), ⟨(upd (upd nofresh 1 (.cells 1 [.v (.int .i64 g_3.Config.N), .v (.int .i64 g_3.Config.L), .v (.int .i64 g_3.Config.R), .sl (g_3.Hashes.flatMap cGHash) g_3.Hashes.length false, .sl (g_3.Edges.flatMap cGEdge) g_3.Edges.length false] 0)) 2 (.cells 1 [.v (.int .i64 t6.Config.N), .v (.int .i64 t6.Config.L), .v (.int .i64 t6.Config.R), .sl (t6.Hashes.flatMap cGHash) t6.Hashes.length false, .sl (t6.Edges.flatMap cGEdge) t6.Edges.length false] 0)), 64⟩⟩ : St) ∧ tiersMended_L1 m u_1 v_2 g_3 t6 t10 t11 = some r) FUEL ?_ ?_ ?_
 ·
  rintro s ⟨_, _, _, _, _, _, _, h⟩
  cases h
 ·
  refine ⟨_, ?_, u_1, v_2, g_0, (GGraph.mk (GConfig.mk 0 0 0) [] []), g_0.Config.L, 0, rfl, hm⟩
  refine St.Le.trans (le_cells 1 (ys := [.v (.int .i64 (((GGraph.mk (GConfig.mk 0 0 0) [] []).Config).N)), .v (.int .i64 (((GGraph.mk (GConfig.mk 0 0 0) [] []).Config).L)), .v (.int .i64 (((GGraph.mk (GConfig.mk 0 0 0) [] []).Config).R)), .sl (((GGraph.mk (GConfig.mk 0 0 0) [] []).Hashes).flatMap cGHash) ((GGraph.mk (GConfig.mk 0 0 0) [] []).Hashes).length false, .sl (((GGraph.mk (GConfig.mk 0 0 0) [] []).Edges).flatMap cGEdge) ((GGraph.mk (GConfig.mk 0 0 0) [] []).Edges).length false]) Z3 (.cons (.data _ (.v _)) (.cons (.data _ (.v _)) (.cons (.data _ (.v _)) (.cons (.nil false) (.cons (.nil false) .nil)))))) ?_
  exact le_canon (fun j => bif j == 1 then 0 else bif j == 2 then 1 else 0) (wV (wV (wk_fset _ _ (wk_adr Z1 rfl Z7) (wk_fset _ _ (wk_adr Z1 rfl Z7) (wV (wV wk_none)))))) (heapWk_of _ (entWk_upd (entWk_data Z3 (Nat.le_refl _) (Nat.zero_le _) (CFGGraph.dat (GGraph.mk (GConfig.mk 0 0 0) [] []))) (entWk_upd (entWk_data Z3 (Nat.le_refl _) (Nat.zero_le _) (CFGGraph.dat g_0)) entWk_none)) Z8)
 ·
  rintro n1 s ⟨u_1, v_2, g_3, t6, t10, t11, rfl, hm⟩
  replace hm : tiersMended_B1 (tiersMended_L1 n1) u_1 v_2 g_3 t6 t10 t11 = some r := hm
  unfold tiersMended_B1 at hm
  refine sr (N' := 128) rfl ?_
  refine pA ?_
  refine fs ?_
  refine AWp.seq' ?_
  refine AWp.condM hm Z1 (fun _ hm => ?_) (fun _ hm => ?_)
  ·
   refine AWp.skip ?_
   refine normSeq ?_
   refine AWp.seq' ?_
   refine AWp.block ?_
   refine sr (N' := 192) rfl ?_
   iterate 2 refine pA ?_
   refine fs ?_
   refine sr (N' := 256) rfl ?_
   refine pu rfl (ap_ldv Z1 Z3 Z2) ?_
   iterate 2 refine pA ?_
   obtain ⟨r2, h1, hm⟩ := bnd hm
   refine ARun.callQ (r := .agg [.v (.int .i64 r2.Config.N), .v (.int .i64 r2.Config.L), .v (.int .i64 r2.Config.R), .sl (r2.Hashes.flatMap cGHash) r2.Hashes.length false, .sl (r2.Edges.flatMap cGEdge) r2.Edges.length false]) Zd Z1 fb121 (fun H => (cD (.agg _ (CFGGraph.dat _)) (cV (cV .nil)))) (tiersRaised_c h1) ?_
   refine ARun.heap0 (id := 196) rfl (ah_var (ys := [.v (.int .i64 r2.Config.N), .v (.int .i64 r2.Config.L), .v (.int .i64 r2.Config.R), .sl (r2.Hashes.flatMap cGHash) r2.Hashes.length false, .sl (r2.Edges.flatMap cGEdge) r2.Edges.length false]) sz27 Z1 Z1 Z3 rfl (Nat.le_of_ble_eq_true rfl) Z9 rfl) ?_
   refine fs ?_
   refine AWp.reg 64 (N' := 320) rfl ?_
   refine pu rfl (ap_ldv Z1 Z3 Z2) ?_
   iterate 2 refine pA ?_
   obtain ⟨r4, h3, hm⟩ := bnd hm
   refine ARun.callQ (r := .agg [.v (.int .i64 r4.Config.N), .v (.int .i64 r4.Config.L), .v (.int .i64 r4.Config.R), .sl (r4.Hashes.flatMap cGHash) r4.Hashes.length false, .sl (r4.Edges.flatMap cGEdge) r4.Edges.length false]) Zd Z1 fb121 (fun H => (cD (.agg _ (CFGGraph.dat _)) (cV (cV .nil)))) (tiersRaised_c h3) ?_
   refine ARun.heap0 (id := 260) rfl (ah_var (ys := [.v (.int .i64 r4.Config.N), .v (.int .i64 r4.Config.L), .v (.int .i64 r4.Config.R), .sl (r4.Hashes.flatMap cGHash) r4.Hashes.length false, .sl (r4.Edges.flatMap cGEdge) r4.Edges.length false]) sz27 Z1 Z1 Z3 rfl (Nat.le_of_ble_eq_true rfl) Z9 rfl) ?_
   refine ARun.fin ?_
   refine normIn ?_
   refine normSeq ?_
   refine AWp.reg 64 (N' := 384) rfl ?_
   iterate 2 refine pA ?_
   refine ARun.fin ?_
   refine normThen ?_
   refine ⟨_, ?_, u_1, v_2, r4, t6, t10, (IntKind.i64.wrap (t11 + 1)), rfl, hm⟩
   exact le_canon (fun j => bif j == 1 then 1 else bif j == 2 then 2 else 0) (wV (wV (wk_fset _ _ (wk_adr Z1 rfl Z7) (wk_fset _ _ (wk_adr Z1 rfl Z7) (wV (wV wk_none)))))) (hW (entWk_upd (entWk_data Z3 (Nat.le_refl _) (Nat.zero_le _) (CFGGraph.dat t6)) (entWk_upd (entWk_data Z3 (Nat.le_refl _) (Nat.zero_le _) (CFGGraph.dat r4)) entWk_none)))
  ·
   refine AWp.exit ?_
   refine exitSeq ?_
   refine exitThen ?_
   refine exitHere ?_
   refine normSeq ?_
   refine sr (N' := 192) rfl ?_
   refine pu rfl (ap_ldv Z1 Z3 Z2) ?_
   refine ARun.heap0 (id := 129) rfl (ah_var (ys := [.v (.int .i64 g_3.Config.N), .v (.int .i64 g_3.Config.L), .v (.int .i64 g_3.Config.R), .sl (g_3.Hashes.flatMap cGHash) g_3.Hashes.length false, .sl (g_3.Edges.flatMap cGEdge) g_3.Edges.length false]) sz27 Z1 Z1 Z3 rfl (Nat.le_of_ble_eq_true rfl) Z9 rfl) ?_
   refine fs ?_
   refine AWp.ret ?_
   cases hm
   exact retL (.inr rfl) (by rw [Try.results101]) (.cell (ap_ldv' Z1 Z3 Z2) .nil) rfl (td rfl (.agg _ (CFGGraph.dat _)))
def law15Few_m (c_0 : GConfig) (acts_1 : List GRaftsmanlaw15Act) : Option (Int) :=
 (bif ((((((decide (c_0.N < 1)) || (decide (c_0.L < 1))) || (decide (c_0.R < 1))) || (decide (12 < c_0.N))) || (decide (4 < c_0.L))) || (decide (3 < c_0.R))) then
  some (-1)
 else
  some (if 30 < (acts_1.length : Int) then 30 else (acts_1.length : Int)))
theorem law15Few_c {c_0 : GConfig} {acts_1 : List GRaftsmanlaw15Act} {r : Int} (hm : law15Few_m c_0 acts_1 = some r) : PureC Try.prog 65 [.agg [.v (.int .i64 c_0.N), .v (.int .i64 c_0.L), .v (.int .i64 c_0.R)], .sl (acts_1.flatMap cGRaftsmanlaw15Act) acts_1.length false] (.v (.int .i64 r)) := by
 refine PureC.of_body Try.func65 rfl ?_
 simp only [Try.ntmps65, List.length_cons, List.length_nil, Nat.reduceAdd, Nat.reduceSub, empty_eq]
 unfold law15Few_m at hm
 refine sr (N' := 64) rfl ?_
 refine hp (id := 0) rfl rfl (aheap_box Z1 Z5) ?_
 refine pA ?_
 refine fs ?_
 refine AWp.seq' ?_
 refine sr (N' := 128) rfl ?_
 refine pA ?_
 refine pu rfl (ap_ldv Z1 Z3 Z4) ?_
 iterate 3 first | refine pA ?_ | refine pB ?_
 refine pg rfl rfl Z2 (fun hb => (ap_ldv (Zh hb) Z3 Z4)) ?_
 iterate 4 first | refine pA ?_ | refine pB ?_
 refine pg rfl rfl Z2 (fun hb => (ap_ldv (Zh hb) Z3 Z4)) ?_
 iterate 4 first | refine pA ?_ | refine pB ?_
 refine pg rfl rfl Z2 (fun hb => (ap_ldv (Zh hb) Z3 Z4)) ?_
 iterate 4 first | refine pA ?_ | refine pB ?_
 refine pg rfl rfl Z2 (fun hb => (ap_ldv (Zh hb) Z3 Z4)) ?_
 iterate 4 first | refine pA ?_ | refine pB ?_
 refine pg rfl rfl Z2 (fun hb => (ap_ldv (Zh hb) Z3 Z4)) ?_
 iterate 2 first | refine pA ?_ | refine pB ?_
 refine fs ?_
 refine AWp.condM hm Z1 (fun _ hm => ?_) (fun _ hm => ?_)
 ·
  refine sr (N' := 192) rfl ?_
  refine pA ?_
  refine fs ?_
  refine AWp.ret ?_
  refine retSeq ?_
  cases hm
  exact ret1D (.inr rfl) Try.results65 (td Z1 (.v _))
 ·
  refine AWp.skip ?_
  refine normSeq ?_
  refine sr (N' := 192) rfl ?_
  iterate 4 refine pA ?_
  refine fs ?_
  refine AWp.ret ?_
  cases hm
  exact ret1D (.inr rfl) Try.results65 (td Z1 (.v _))
def tiersNew_m (c_0 : GConfig) (hashes_1 : List GHash) : Option (GGraph × Int) :=
 ((slicesCloneHash_m hashes_1).bind fun r2 =>
 ((searchRight_m (GGraph.mk c_0 r2 [])).bind fun r4 =>
 (bif (!r4) then
  some ((GGraph.mk (GConfig.mk 0 0 0) [] []), 1)
 else
  some ((GGraph.mk c_0 r2 []), 0))))
theorem tiersNew_c {c_0 : GConfig} {hashes_1 : List GHash} {r : GGraph × Int} (hm : tiersNew_m c_0 hashes_1 = some r) : PureC Try.prog 66 [.agg [.v (.int .i64 c_0.N), .v (.int .i64 c_0.L), .v (.int .i64 c_0.R)], .sl (hashes_1.flatMap cGHash) hashes_1.length false] (.tup [.agg [.v (.int .i64 r.1.Config.N), .v (.int .i64 r.1.Config.L), .v (.int .i64 r.1.Config.R), .sl (r.1.Hashes.flatMap cGHash) r.1.Hashes.length false, .sl (r.1.Edges.flatMap cGEdge) r.1.Edges.length false], .v (.int .i64 r.2)]) := by
 refine PureC.of_body Try.func66 rfl ?_
 simp only [Try.ntmps66, List.length_cons, List.length_nil, Nat.reduceAdd, Nat.reduceSub, empty_eq]
 unfold tiersNew_m at hm
 refine sr (N' := 64) rfl ?_
 refine hp (id := 0) rfl rfl (aheap_box Z1 Z5) ?_
 refine hp (id := 1) rfl rfl (aheap_alloc' zc27 Z5) ?_
 refine pA ?_
 refine fs ?_
 refine sd mix (by kernel_rfl) (N' := 128) rfl ?_
 refine pu rfl (ap_ldv Z1 Z3 Z2) ?_
 refine pA ?_
 obtain ⟨r2, h1, hm⟩ := bnd hm
 refine ARun.callQ (r := .sl (r2.flatMap cGHash) r2.length false) Zd Z1 fb102 (fun H => (cD (CFGHash.sl _ _ _) .nil)) (slicesCloneHash_c h1) ?_
 refine pu rfl (by simp only [go_sem, Nat.reduceBEq]; exact (by kernel_rfl : abuild Try.prog 27 [(0, .agg [.v (.int .i64 c_0.N), .v (.int .i64 c_0.L), .v (.int .i64 c_0.R)]), (1, .sl (r2.flatMap cGHash) r2.length false)] = some (.agg [.v (.int .i64 c_0.N), .v (.int .i64 c_0.L), .v (.int .i64 c_0.R), .sl (r2.flatMap cGHash) r2.length false, .v (.slice none 0 0)]))) ?_
 refine hp (id := 68) rfl rfl (aheap_alloc' zc27 Z5) ?_
 refine ARun.heap0 (id := 69) rfl (ah_var (ys := [.v (.int .i64 c_0.N), .v (.int .i64 c_0.L), .v (.int .i64 c_0.R), .sl (r2.flatMap cGHash) r2.length false, .v (.slice none 0 0)]) sz27 Z1 Z1 Z3 rfl (Nat.le_of_ble_eq_true rfl) Z9 rfl) ?_
 refine fs ?_
 refine AWp.seq' ?_
 refine sr (N' := 192) rfl ?_
 refine pu rfl (ap_ldv Z1 Z3 Z2) ?_
 obtain ⟨r4, h3, hm⟩ := bnd hm
 refine ARun.callQ (r := .v (.bool r4)) Zd Z1 fb45 (fun H => (.cons (tda Z1 (.cons (.data _ (.v _)) (.cons (.data _ (.v _)) (.cons (.data _ (.v _)) (.cons (.data _ (CFGHash.sl _ _ _)) (.cons (.nil false) .nil)))))) .nil)) (searchRight_c h3) ?_
 refine pA ?_
 refine fs ?_
 refine AWp.condM hm Z1 (fun _ hm => ?_) (fun _ hm => ?_)
 ·
  refine sr (N' := 256) rfl ?_
  refine pu rfl (by simp only [go_sem, Nat.reduceBEq]; exact (by kernel_rfl : abuild Try.prog 27 [] = some (.agg [.v (.int .i64 0), .v (.int .i64 0), .v (.int .i64 0), .v (.slice none 0 0), .v (.slice none 0 0)]))) ?_
  refine ARun.heap0 (id := 193) rfl (ah_var (ys := [.v (.int .i64 0), .v (.int .i64 0), .v (.int .i64 0), .v (.slice none 0 0), .v (.slice none 0 0)]) sz27 Z1 Z1 Z3 rfl (Nat.le_of_ble_eq_true rfl) Z9 rfl) ?_
  refine pA ?_
  refine fs ?_
  refine AWp.ret ?_
  refine retSeq ?_
  cases hm
  exact retL (.inr rfl) (by rw [Try.results66]) (.cell (ap_ldv' Z1 Z3 Z2) (.tmp Z1 .nil)) rfl (tdt (.cons (tda rfl (.cons (.data _ (.v _)) (.cons (.data _ (.v _)) (.cons (.data _ (.v _)) (.cons (.nil false) (.cons (.nil false) .nil)))))) (.cons (td rfl (.v _)) .nil)))
 ·
  refine AWp.skip ?_
  refine normSeq ?_
  refine sr (N' := 256) rfl ?_
  refine pu rfl (ap_ldv Z1 Z3 Z2) ?_
  refine ARun.heap0 (id := 193) rfl (ah_var (ys := [.v (.int .i64 c_0.N), .v (.int .i64 c_0.L), .v (.int .i64 c_0.R), .sl (r2.flatMap cGHash) r2.length false, .v (.slice none 0 0)]) sz27 Z1 Z1 Z3 rfl (Nat.le_of_ble_eq_true rfl) Z9 rfl) ?_
  refine pA ?_
  refine fs ?_
  refine AWp.ret ?_
  cases hm
  exact retL (.inr rfl) (by rw [Try.results66]) (.cell (ap_ldv' Z1 Z3 Z2) (.tmp Z1 .nil)) rfl (tdt (.cons (tda rfl (.cons (.data _ (.v _)) (.cons (.data _ (.v _)) (.cons (.data _ (.v _)) (.cons (.data _ (CFGHash.sl _ _ _)) (.cons (.nil false) .nil)))))) (.cons (td rfl (.v _)) .nil)))
end Go.Proofs.Ytibnmlbjahcjmaa
