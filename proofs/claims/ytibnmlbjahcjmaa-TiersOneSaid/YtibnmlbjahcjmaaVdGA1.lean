/- Facts that the statement's proof is made of. No condition. -/
import Derived.Test.YtibnmlbjahcjmaaVdOf
set_option linter.unusedVariables false
set_option linter.unusedSimpArgs false
set_option maxRecDepth 20000
set_option maxHeartbeats 4000000
namespace Go.Proofs.Ytibnmlbjahcjmaa
open Go Go.AM
structure GConfig where
 N : Int
 L : Int
 R : Int
deriving DecidableEq
def cGConfig (e : GConfig) : List AV := [.v (.int .i64 e.N), .v (.int .i64 e.L), .v (.int .i64 e.R)]
theorem CFGConfig : CF cGConfig 3 := ⟨fun _ => rfl, fun a x hx => by
 simp only [cGConfig, List.mem_cons, List.not_mem_nil, or_false] at hx
 rcases hx with rfl | rfl | rfl
 ·
  exact (.v _)
 ·
  exact (.v _)
 ·
  exact (.v _), fun _ => rfl⟩
theorem cGConfig_app (e : GConfig) (r : List AV) : cGConfig e ++ r = .v (.int .i64 e.N) :: .v (.int .i64 e.L) :: .v (.int .i64 e.R) :: r := rfl
attribute [go_sem] cGConfig_app
structure GHash where
 A : Int
 B : Int
deriving DecidableEq
def cGHash (e : GHash) : List AV := [.v (.int .u64 e.A), .v (.int .u64 e.B)]
theorem CFGHash : CF cGHash 2 := ⟨fun _ => rfl, fun a x hx => by
 simp only [cGHash, List.mem_cons, List.not_mem_nil, or_false] at hx
 rcases hx with rfl | rfl
 ·
  exact (.v _)
 ·
  exact (.v _), fun _ => rfl⟩
theorem cGHash_app (e : GHash) (r : List AV) : cGHash e ++ r = .v (.int .u64 e.A) :: .v (.int .u64 e.B) :: r := rfl
attribute [go_sem] cGHash_app
structure GGraph where
 Config : GConfig
 Hashes : List GHash
 Edges : List GEdge
deriving DecidableEq
def cGGraph (e : GGraph) : List AV := [.v (.int .i64 e.Config.N), .v (.int .i64 e.Config.L), .v (.int .i64 e.Config.R), .sl (e.Hashes.flatMap cGHash) e.Hashes.length false, .sl (e.Edges.flatMap cGEdge) e.Edges.length false]
theorem CFGGraph : CF cGGraph 5 := ⟨fun _ => rfl, fun a x hx => by
 simp only [cGGraph, List.mem_cons, List.not_mem_nil, or_false] at hx
 rcases hx with rfl | rfl | rfl | rfl | rfl
 ·
  exact (.v _)
 ·
  exact (.v _)
 ·
  exact (.v _)
 ·
  exact (CFGHash.sl _ _ _)
 ·
  exact (CFGEdge.sl _ _ _), fun _ => rfl⟩
theorem cGGraph_app (e : GGraph) (r : List AV) : cGGraph e ++ r = .v (.int .i64 e.Config.N) :: .v (.int .i64 e.Config.L) :: .v (.int .i64 e.Config.R) :: .sl (e.Hashes.flatMap cGHash) e.Hashes.length false :: .sl (e.Edges.flatMap cGEdge) e.Edges.length false :: r := rfl
attribute [go_sem] cGGraph_app
theorem eqs38GA1 (x0 y0 x1 y1 x2 y2 : Int) : abin Try.prog .eql 38 (.agg [.v (.int .i64 x0), .v (.int .i64 x1), .v (.int .i64 x2)]) (.agg [.v (.int .i64 y0), .v (.int .i64 y1), .v (.int .i64 y2)]) = some (.v (.bool ((x0 == y0) && ((x1 == y1) && (x2 == y2))))) :=
 (by kernel_rfl : abin Try.prog .eql 38 (.agg [.v (.int .i64 x0), .v (.int .i64 x1), .v (.int .i64 x2)]) (.agg [.v (.int .i64 y0), .v (.int .i64 y1), .v (.int .i64 y2)]) = some (.v (.bool ((x0 == y0) && ((x1 == y1) && ((x2 == y2) && true)))))).trans (by rw [Bool.and_true])
theorem nqs38GA1 (x0 y0 x1 y1 x2 y2 : Int) : abin Try.prog .neq 38 (.agg [.v (.int .i64 x0), .v (.int .i64 x1), .v (.int .i64 x2)]) (.agg [.v (.int .i64 y0), .v (.int .i64 y1), .v (.int .i64 y2)]) = some (.v (.bool (!((x0 == y0) && ((x1 == y1) && (x2 == y2)))))) :=
 (by kernel_rfl : abin Try.prog .neq 38 (.agg [.v (.int .i64 x0), .v (.int .i64 x1), .v (.int .i64 x2)]) (.agg [.v (.int .i64 y0), .v (.int .i64 y1), .v (.int .i64 y2)]) = some (.v (.bool (!((x0 == y0) && ((x1 == y1) && ((x2 == y2) && true))))))).trans (by rw [Bool.and_true])
attribute [go_sem] eqs38GA1 nqs38GA1
theorem fa38_0GA1 (xs : List AV) : afieldAddr Try.prog 38 (.ptr (xs)) 0 = some (.ptr xs) := by kernel_rfl
attribute [go_sem] fa38_0GA1
theorem fa38_1GA1 (x0 : AV) (xs : List AV) : afieldAddr Try.prog 38 (.ptr (x0 :: xs)) 1 = some (.ptr xs) := by kernel_rfl
attribute [go_sem] fa38_1GA1
theorem fa38_2GA1 (x0 : AV) (x1 : AV) (xs : List AV) : afieldAddr Try.prog 38 (.ptr (x0 :: x1 :: xs)) 2 = some (.ptr xs) := by kernel_rfl
attribute [go_sem] fa38_2GA1
theorem fa53_0GA1 (xs : List AV) : afieldAddr Try.prog 53 (.ptr (xs)) 0 = some (.ptr xs) := by kernel_rfl
attribute [go_sem] fa53_0GA1
theorem fa53_1GA1 (x0 : AV) (xs : List AV) : afieldAddr Try.prog 53 (.ptr (x0 :: xs)) 1 = some (.ptr xs) := by kernel_rfl
attribute [go_sem] fa53_1GA1
theorem fo23_0GA1 (i o : Nat) : afieldAddr Try.prog 23 (.adr i o) 0 = some (.adr i (o + 0)) := by kernel_rfl
attribute [go_sem] fo23_0GA1
theorem fo23_1GA1 (i o : Nat) : afieldAddr Try.prog 23 (.adr i o) 1 = some (.adr i (o + 1)) := by kernel_rfl
attribute [go_sem] fo23_1GA1
theorem fo23_2GA1 (i o : Nat) : afieldAddr Try.prog 23 (.adr i o) 2 = some (.adr i (o + 2)) := by kernel_rfl
attribute [go_sem] fo23_2GA1
theorem fo27_0GA1 (i o : Nat) : afieldAddr Try.prog 27 (.adr i o) 0 = some (.adr i (o + 0)) := by kernel_rfl
attribute [go_sem] fo27_0GA1
theorem fo27_1GA1 (i o : Nat) : afieldAddr Try.prog 27 (.adr i o) 1 = some (.adr i (o + 3)) := by kernel_rfl
attribute [go_sem] fo27_1GA1
theorem fo27_2GA1 (i o : Nat) : afieldAddr Try.prog 27 (.adr i o) 2 = some (.adr i (o + 4)) := by kernel_rfl
attribute [go_sem] fo27_2GA1
theorem fo38_0GA1 (i o : Nat) : afieldAddr Try.prog 38 (.adr i o) 0 = some (.adr i (o + 0)) := by kernel_rfl
attribute [go_sem] fo38_0GA1
theorem fo38_1GA1 (i o : Nat) : afieldAddr Try.prog 38 (.adr i o) 1 = some (.adr i (o + 1)) := by kernel_rfl
attribute [go_sem] fo38_1GA1
theorem fo38_2GA1 (i o : Nat) : afieldAddr Try.prog 38 (.adr i o) 2 = some (.adr i (o + 2)) := by kernel_rfl
attribute [go_sem] fo38_2GA1
theorem fo53_0GA1 (i o : Nat) : afieldAddr Try.prog 53 (.adr i o) 0 = some (.adr i (o + 0)) := by kernel_rfl
attribute [go_sem] fo53_0GA1
theorem fo53_1GA1 (i o : Nat) : afieldAddr Try.prog 53 (.adr i o) 1 = some (.adr i (o + 1)) := by kernel_rfl
attribute [go_sem] fo53_1GA1
theorem ld23GA1 (H : Heap) (x0 x1 x2 : AV) (xs : List AV) : aload Try.prog H 23 (.ptr (x0 :: x1 :: x2 :: xs)) = some (.agg [x0, x1, x2]) := by kernel_rfl
attribute [go_sem] ld23GA1
theorem ld24GA1 (H : Heap) (x : AV) (xs : List AV) : aload Try.prog H 24 (.ptr (x :: xs)) = some x := by kernel_rfl
attribute [go_sem] ld24GA1
theorem ld25GA1 (H : Heap) (x : AV) (xs : List AV) : aload Try.prog H 25 (.ptr (x :: xs)) = some x := by kernel_rfl
attribute [go_sem] ld25GA1
theorem ld27GA1 (H : Heap) (x0 x1 x2 x3 x4 : AV) (xs : List AV) : aload Try.prog H 27 (.ptr (x0 :: x1 :: x2 :: x3 :: x4 :: xs)) = some (.agg [x0, x1, x2, x3, x4]) := by kernel_rfl
attribute [go_sem] ld27GA1
theorem ld3GA1 (H : Heap) (x : AV) (xs : List AV) : aload Try.prog H 3 (.ptr (x :: xs)) = some x := by kernel_rfl
attribute [go_sem] ld3GA1
theorem ld38GA1 (H : Heap) (x0 x1 x2 : AV) (xs : List AV) : aload Try.prog H 38 (.ptr (x0 :: x1 :: x2 :: xs)) = some (.agg [x0, x1, x2]) := by kernel_rfl
attribute [go_sem] ld38GA1
theorem ld51GA1 (H : Heap) (x : AV) (xs : List AV) : aload Try.prog H 51 (.ptr (x :: xs)) = some x := by kernel_rfl
attribute [go_sem] ld51GA1
theorem ld53GA1 (H : Heap) (x0 x1 : AV) (xs : List AV) : aload Try.prog H 53 (.ptr (x0 :: x1 :: xs)) = some (.agg [x0, x1]) := by kernel_rfl
attribute [go_sem] ld53GA1
def tableTiered_m (tier_0 : Int) : Option (Bool) :=
 some ((decide (0 ≤ tier_0)) && (decide (tier_0 ≤ 16)))
theorem tableTiered_c {tier_0 : Int} {r : Bool} (hm : tableTiered_m tier_0 = some r) : PureC Try.prog 117 [.v (.int .i64 tier_0)] (.v (.bool r)) := by
 refine PureC.of_body Try.func117 rfl ?_
 simp only [Try.ntmps117, List.length_cons, List.length_nil, Nat.reduceAdd, Nat.reduceSub, empty_eq]
 unfold tableTiered_m at hm
 refine sr (N' := 64) rfl ?_
 refine pA ?_
 refine fs ?_
 refine sr (N' := 128) rfl ?_
 iterate 7 first | refine pA ?_ | refine pB ?_
 refine fs ?_
 refine AWp.ret ?_
 cases hm
 exact ret1D (.inr rfl) Try.results117 (td Z1 (.v _))
def nameLess_m (a_0 : GEdge) (b_1 : GEdge) : Option (Bool) :=
 some ((decide (a_0.U < b_1.U)) || ((a_0.U == b_1.U) && (decide (a_0.V < b_1.V))))
theorem nameLess_c {a_0 : GEdge} {b_1 : GEdge} {r : Bool} (hm : nameLess_m a_0 b_1 = some r) : PureC Try.prog 118 [.agg [.v (.int .i64 a_0.U), .v (.int .i64 a_0.V), .v (.int .i64 a_0.Tier)], .agg [.v (.int .i64 b_1.U), .v (.int .i64 b_1.V), .v (.int .i64 b_1.Tier)]] (.v (.bool r)) := by
 refine PureC.of_body Try.func118 rfl ?_
 simp only [Try.ntmps118, List.length_cons, List.length_nil, Nat.reduceAdd, Nat.reduceSub, empty_eq]
 unfold nameLess_m at hm
 refine sr (N' := 64) rfl ?_
 refine hp (id := 0) rfl rfl (aheap_box Z1 Z5) ?_
 refine hp (id := 1) rfl rfl (aheap_box Z1 Z5) ?_
 refine pA ?_
 refine fs ?_
 refine sr (N' := 128) rfl ?_
 refine pA ?_
 refine pu rfl (ap_ldv Z1 Z3 Z4) ?_
 refine pA ?_
 refine pu rfl (ap_ldv Z1 Z3 Z4) ?_
 iterate 3 first | refine pA ?_ | refine pB ?_
 refine pg rfl rfl Z2 (fun hb => (ap_ldv (Zh hb) Z3 Z4)) ?_
 refine pB ?_
 refine pg rfl rfl Z2 (fun hb => (ap_ldv (Zh hb) Z3 Z4)) ?_
 iterate 3 refine pB ?_
 refine pg rfl rfl Z2 (fun hb => (ap_ldv (Zh hb) Z3 Z4)) ?_
 refine pB ?_
 refine pg rfl rfl Z2 (fun hb => (ap_ldv (Zh hb) Z3 Z4)) ?_
 iterate 4 first | refine pA ?_ | refine pB ?_
 refine fs ?_
 refine AWp.ret ?_
 cases hm
 exact ret1D (.inr rfl) Try.results118 (td Z1 (.v _))
def tableRight_B1 (rec1 : Int → List GEdge → List GEdge → Int → Int → Option (Bool)) (n_0 : Int) (l_1 : List GEdge) (t13 : List GEdge) (t14 : Int) (t15 : Int) : Option (Bool) :=
 (bif (decide (t15 < t14)) then
  ((idx t13 t15).bind fun x2 =>
  ((gopt ((((decide (x2.U < 0)) || (decide (x2.V ≤ x2.U))) || (decide (n_0 ≤ x2.V))) == false) false (tableTiered_m x2.Tier)).bind fun r4 =>
  (bif ((((decide (x2.U < 0)) || (decide (x2.V ≤ x2.U))) || (decide (n_0 ≤ x2.V))) || (!r4)) then
   some false
  else
   ((gopt ((decide (0 < t15)) == true) (GEdge.mk 0 0 0) (idx l_1 (IntKind.i64.wrap (t15 - 1)))).bind fun x6 =>
   ((gopt ((decide (0 < t15)) == true) false (nameLess_m x6 x2)).bind fun r8 =>
   (bif ((decide (0 < t15)) && (!r8)) then
    some false
   else
    rec1 n_0 l_1 t13 t14 (IntKind.i64.wrap (t15 + 1))))))))
 else
  some true)
def tableRight_L1 : Nat → Int → List GEdge → List GEdge → Int → Int → Option (Bool)
 | 0 => fun _ _ _ _ _ => none
 | n + 1 => tableRight_B1 (tableRight_L1 n)
def tableRight_m (n_0 : Int) (l_1 : List GEdge) : Option (Bool) :=
 (bif ((decide (n_0 < 0)) || (decide (1024 < n_0))) then
  some false
 else
  tableRight_L1 FUEL n_0 l_1 l_1 (l_1.length : Int) 0)
theorem tableRight_c {n_0 : Int} {l_1 : List GEdge} {r : Bool} (hm : tableRight_m n_0 l_1 = some r) : PureC Try.prog 90 [.v (.int .i64 n_0), .sl (l_1.flatMap cGEdge) l_1.length false] (.v (.bool r)) := by
 refine PureC.of_body Try.func90 rfl ?_
 simp only [Try.ntmps90, List.length_cons, List.length_nil, Nat.reduceAdd, Nat.reduceSub, empty_eq]
 unfold tableRight_m at hm
 refine sr (N' := 64) rfl ?_
 refine pA ?_
 refine fs ?_
 refine AWp.seq' ?_
 refine sr (N' := 128) rfl ?_
 iterate 6 first | refine pA ?_ | refine pB ?_
 refine fs ?_
 refine AWp.condM hm Z1 (fun _ hm => ?_) (fun _ hm => ?_)
 ·
  refine sr (N' := 192) rfl ?_
  refine pA ?_
  refine fs ?_
  refine AWp.ret ?_
  refine retSeq ?_
  cases hm
  exact ret1D (.inr rfl) Try.results90 (td Z1 (.v _))
 ·
  refine AWp.skip ?_
  refine normSeq ?_
  refine AWp.seq' ?_
  refine sr (N' := 192) rfl ?_
  iterate 3 refine pA ?_
  refine fs ?_
  refine AWp.block ?_
  refine AWp.loopM (fun m s => ∃ (n_0 : Int) (l_1 : List GEdge) (t13 : List GEdge) (t14 : Int) (t15 : Int), s = (⟨55, (fset (fset (fset (fset (fset (fun _ => AV.any) 0 (.v (.int .i64 n_0))) 1 (.sl (l_1.flatMap cGEdge) l_1.length false)) 13 (.sl (t13.flatMap cGEdge) t13.length false)) 14 (.v (.int .i64 t14))) 15 (.v (.int .i64 t15))), ⟨nofresh, 64⟩⟩ : St) ∧ tableRight_L1 m n_0 l_1 t13 t14 t15 = some r) FUEL ?_ ?_ ?_
  ·
   rintro s ⟨_, _, _, _, _, _, h⟩
   cases h
  ·
   refine ⟨_, ?_, n_0, l_1, l_1, (l_1.length : Int), 0, rfl, hm⟩
   exact le_canon id (wV (wV (wD (CFGEdge.sl _ _ _) (wD (CFGEdge.sl _ _ _) (wV wk_none))))) heapWk0
  ·
   rintro n1 s ⟨n_0, l_1, t13, t14, t15, rfl, hm⟩
   replace hm : tableRight_B1 (tableRight_L1 n1) n_0 l_1 t13 t14 t15 = some r := hm
   unfold tableRight_B1 at hm
   refine sr (N' := 128) rfl ?_
   refine pA ?_
   refine fs ?_
   refine AWp.seq' ?_
   refine AWp.condM hm Z1 (fun _ hm => ?_) (fun _ hm => ?_)
   ·
    refine AWp.skip ?_
    refine normSeq ?_
    refine AWp.seq' ?_
    refine AWp.block ?_
    refine sr (N' := 192) rfl ?_
    refine pA ?_
    obtain ⟨x2, h1, hm⟩ := bnd hm
    refine pu rfl (ap_idx CFGEdge Zd Try.underlying25 sz38 Z1 rfl Z1 h1) ?_
    refine pA ?_
    refine hp (id := 131) rfl rfl (aheap_alloc' zc38 Z5) ?_
    refine pA ?_
    refine ARun.heap0 (id := 133) rfl (ah_var (ys := [.v (.int .i64 x2.U), .v (.int .i64 x2.V), .v (.int .i64 x2.Tier)]) sz38 Z1 Z1 Z3 rfl (Nat.le_of_ble_eq_true rfl) Z9 rfl) ?_
    refine fs ?_
    refine AWp.seq' ?_
    refine sr (N' := 256) rfl ?_
    refine pA ?_
    refine pu rfl (ap_ldv Z1 Z3 Z4) ?_
    iterate 3 first | refine pA ?_ | refine pB ?_
    refine pg rfl rfl Z2 (fun hb => (ap_ldv (Zh hb) Z3 Z4)) ?_
    refine pB ?_
    refine pg rfl rfl Z2 (fun hb => (ap_ldv (Zh hb) Z3 Z4)) ?_
    iterate 4 first | refine pA ?_ | refine pB ?_
    refine pg rfl rfl Z2 (fun hb => (ap_ldv (Zh hb) Z3 Z4)) ?_
    iterate 5 first | refine pA ?_ | refine pB ?_
    refine pg rfl rfl Z2 (fun hb => (ap_ldv (Zh hb) Z3 Z4)) ?_
    obtain ⟨r4, h3, hm⟩ := bnd hm
    refine ARun.callQG (r := .v (.bool r4)) Zd rfl Z2 Z1 fb117 (fun hb H => (.cons (td (Zh hb) (.v _)) .nil)) (fun hb => tableTiered_c (gopt_t h3 hb)) ?_
    iterate 2 first | refine pA ?_ | refine pB ?_
    refine fs ?_
    refine AWp.condM hm Z1 (fun _ hm => ?_) (fun _ hm => ?_)
    ·
     refine sr (N' := 320) rfl ?_
     refine pA ?_
     refine fs ?_
     refine AWp.ret ?_
     refine retSeq ?_
     refine retIn ?_
     refine retSeq ?_
     refine retThen ?_
     refine retIn ?_
     refine retSeq ?_
     cases hm
     exact ret1D (.inr rfl) Try.results90 (td Z1 (.v _))
    ·
     refine AWp.skip ?_
     refine normSeq ?_
     refine sd mix (by kernel_rfl) (N' := 320) rfl ?_
     iterate 6 first | refine pA ?_ | refine pB ?_
     obtain ⟨x6, h5, hm⟩ := bnd hm
     refine pg rfl rfl Z2 (fun hb => (ap_idx CFGEdge Zd Try.underlying25 sz38 (Zh hb) rfl (Zh hb) (gopt_t h5 hb))) ?_
     refine pB ?_
     refine pg rfl rfl Z2 (fun hb => (ap_ldv (Zh hb) Z3 Z2)) ?_
     obtain ⟨r8, h7, hm⟩ := bnd hm
     refine ARun.callQG (r := .v (.bool r8)) Zd rfl Z2 Z1 fb118 (fun hb H => (.cons (td (Zh hb) (.agg _ (CFGEdge.dat _))) (.cons (td (Zh hb) (.agg _ (CFGEdge.dat _))) .nil))) (fun hb => nameLess_c (gopt_t h7 hb)) ?_
     iterate 2 first | refine pA ?_ | refine pB ?_
     refine fs ?_
     refine AWp.condM hm Z1 (fun _ hm => ?_) (fun _ hm => ?_)
     ·
      refine sr (N' := 384) rfl ?_
      refine pA ?_
      refine fs ?_
      refine AWp.ret ?_
      refine retIn ?_
      refine retSeq ?_
      refine retThen ?_
      refine retIn ?_
      refine retSeq ?_
      cases hm
      exact ret1D (.inr rfl) Try.results90 (td Z1 (.v _))
     ·
      refine AWp.skip ?_
      refine normIn ?_
      refine normSeq ?_
      refine AWp.reg 64 (N' := 384) rfl ?_
      iterate 2 refine pA ?_
      refine ARun.fin ?_
      refine normThen ?_
      refine ⟨_, ?_, n_0, l_1, t13, t14, (IntKind.i64.wrap (t15 + 1)), rfl, hm⟩
      exact le_canon id (wV (wV (wD (CFGEdge.sl _ _ _) (wD (CFGEdge.sl _ _ _) (wV wk_none))))) heapWk0
   ·
    refine AWp.exit ?_
    refine exitSeq ?_
    refine exitThen ?_
    refine exitHere ?_
    refine normSeq ?_
    refine sr (N' := 192) rfl ?_
    refine pA ?_
    refine fs ?_
    refine AWp.ret ?_
    cases hm
    exact ret1D (.inr rfl) Try.results90 (td Z1 (.v _))
def tableForest_J1 (rec1 : Int → List GEdge → List GEdge → Int → Int → Option ((List GEdge))) (tier_2 : Int) (forest_7 : List GEdge) (t14 : List GEdge) (t15 : Int) (t16 : Int) : Option ((List GEdge)) :=
 rec1 tier_2 forest_7 t14 t15 (IntKind.i64.wrap (t16 + 1))
def tableForest_B1 (rec1 : Int → List GEdge → List GEdge → Int → Int → Option ((List GEdge))) (tier_2 : Int) (forest_7 : List GEdge) (t14 : List GEdge) (t15 : Int) (t16 : Int) : Option ((List GEdge)) :=
 (bif (decide (t16 < t15)) then
  ((idx t14 t16).bind fun x4 =>
  (bif ((decide (1 ≤ x4.Tier)) && (decide (x4.Tier ≤ tier_2))) then
   ((app forest_7 [x4]).bind fun l6 =>
   tableForest_J1 rec1 tier_2 l6 t14 t15 t16)
  else
   tableForest_J1 rec1 tier_2 forest_7 t14 t15 t16))
 else
  some forest_7)
def tableForest_L1 : Nat → Int → List GEdge → List GEdge → Int → Int → Option ((List GEdge))
 | 0 => fun _ _ _ _ _ => none
 | n + 1 => tableForest_B1 (tableForest_L1 n)
def tableForest_m (n_0 : Int) (l_1 : List GEdge) (tier_2 : Int) : Option ((List GEdge)) :=
 ((tableRight_m n_0 l_1).bind fun r2 =>
 (bif (!r2) then
  some []
 else
  tableForest_L1 FUEL tier_2 [] l_1 (l_1.length : Int) 0))
theorem tableForest_c {n_0 : Int} {l_1 : List GEdge} {tier_2 : Int} {r : (List GEdge)} (hm : tableForest_m n_0 l_1 tier_2 = some r) : PureC Try.prog 81 [.v (.int .i64 n_0), .sl (l_1.flatMap cGEdge) l_1.length false, .v (.int .i64 tier_2)] (.sl (r.flatMap cGEdge) r.length false) := by
 refine PureC.of_body Try.func81 rfl ?_
 simp only [Try.ntmps81, List.length_cons, List.length_nil, Nat.reduceAdd, Nat.reduceSub, empty_eq]
 unfold tableForest_m at hm
 refine sr (N' := 64) rfl ?_
 refine pA ?_
 refine fs ?_
 refine AWp.seq' ?_
 refine sr (N' := 128) rfl ?_
 iterate 2 refine pA ?_
 obtain ⟨r2, h1, hm⟩ := bnd hm
 refine ARun.callQ (r := .v (.bool r2)) Zd Z1 fb90 (fun H => (cV (cD (CFGEdge.sl _ _ _) .nil))) (tableRight_c h1) ?_
 refine pA ?_
 refine fs ?_
 refine AWp.condM hm Z1 (fun _ hm => ?_) (fun _ hm => ?_)
 ·
  refine sr (N' := 192) rfl ?_
  refine pA ?_
  refine fs ?_
  refine AWp.ret ?_
  refine retSeq ?_
  cases hm
  exact ret1D (.inr rfl) Try.results81 (tdn Z1)
 ·
  refine AWp.skip ?_
  refine normSeq ?_
  refine sr (N' := 192) rfl ?_
  refine pA ?_
  refine fs ?_
  refine AWp.seq' ?_
  refine sr (N' := 256) rfl ?_
  iterate 3 refine pA ?_
  refine fs ?_
  refine AWp.block ?_
  refine AWp.loopM (fun m s => ∃ (tier_2 : Int) (forest_7 : List GEdge) (t14 : List GEdge) (t15 : Int) (t16 : Int), s = (⟨35, (fset (fset (fset (fset (fset (fun _ => AV.any) 2 (.v (.int .i64 tier_2))) 7 (.own 1 0 forest_7.length)) 14 (.sl (t14.flatMap cGEdge) t14.length false)) 15 (.v (.int .i64 t15))) 16 (.v (.int .i64 t16))), ⟨(upd nofresh 1 (.cells 3 (forest_7.flatMap cGEdge) 0)), 64⟩⟩ : St) ∧ tableForest_L1 m tier_2 forest_7 t14 t15 t16 = some r) FUEL ?_ ?_ ?_
  ·
   rintro s ⟨_, _, _, _, _, _, h⟩
   cases h
  ·
   refine ⟨_, ?_, tier_2, [], l_1, (l_1.length : Int), 0, rfl, hm⟩
   refine St.Le.trans (le_nil 7 900007 3 Z1 Z5) ?_
   exact le_canon (fun j => bif j == 1 then 900007 else 0) (wV (wV (wD (CFGEdge.sl _ _ _) (wO (wV wk_none))))) (hW (eU CFGEdge entWk_none))
  ·
   rintro n1 s ⟨tier_2, forest_7, t14, t15, t16, rfl, hm⟩
   replace hm : tableForest_B1 (tableForest_L1 n1) tier_2 forest_7 t14 t15 t16 = some r := hm
   unfold tableForest_B1 at hm
   refine sr (N' := 128) rfl ?_
   refine pA ?_
   refine fs ?_
   refine AWp.seq' ?_
   refine AWp.condM hm Z1 (fun _ hm => ?_) (fun _ hm => ?_)
   ·
    refine AWp.skip ?_
    refine normSeq ?_
    refine AWp.seqJ (fun s => ∃ (tier_2 : Int) (forest_7 : List GEdge) (t14 : List GEdge) (t15 : Int) (t16 : Int), s = (⟨35, (fset (fset (fset (fset (fset (fun _ => AV.any) 2 (.v (.int .i64 tier_2))) 7 (.own 1 0 forest_7.length)) 14 (.sl (t14.flatMap cGEdge) t14.length false)) 15 (.v (.int .i64 t15))) 16 (.v (.int .i64 t16))), ⟨(upd nofresh 1 (.cells 3 (forest_7.flatMap cGEdge) 0)), 64⟩⟩ : St) ∧ tableForest_J1 (tableForest_L1 n1) tier_2 forest_7 t14 t15 t16 = some r) ?_ ?_
    ·
     refine AWp.block ?_
     refine sr (N' := 192) rfl ?_
     obtain ⟨x4, h3, hm⟩ := bnd hm
     refine pu rfl (ap_idx CFGEdge Zd Try.underlying25 sz38 Z1 rfl Z1 h3) ?_
     refine pA ?_
     refine hp (id := 130) rfl rfl (aheap_alloc' zc38 Z5) ?_
     refine ARun.heap0 (id := 131) rfl (ah_var (ys := [.v (.int .i64 x4.U), .v (.int .i64 x4.V), .v (.int .i64 x4.Tier)]) sz38 Z1 Z1 Z3 rfl (Nat.le_of_ble_eq_true rfl) Z9 rfl) ?_
     refine fs ?_
     refine sr (N' := 256) rfl ?_
     refine pA ?_
     refine pu rfl (ap_ldv Z1 Z3 Z4) ?_
     iterate 3 first | refine pA ?_ | refine pB ?_
     refine pg rfl rfl Z2 (fun hb => (ap_ldv (Zh hb) Z3 Z4)) ?_
     iterate 3 first | refine pA ?_ | refine pB ?_
     refine fs ?_
     refine AWp.condM hm Z1 (fun _ hm => ?_) (fun _ hm => ?_)
     ·
      refine AWp.reg 64 (N' := 320) rfl ?_
      refine pA ?_
      refine pu rfl (ap_ldv Z1 Z3 Z2) ?_
      refine hp (id := 258) rfl rfl (ah_list CFGEdge (l := [x4]) Try.underlying25 sz38 zc38 Z5 Zd Zd Zd (by simp only [go_sem, Nat.reduceBEq]; try rfl) (by kernel_rfl)) ?_
      obtain ⟨l6, h5, hm⟩ := bnd hm
      refine hp (id := 259) rfl rfl (ah_app CFGEdge Try.underlying25 Try.underlying25 rfl in38 ts38 (by rw [tb38]; decide) (by rw [tb38]; decide) tz38 Zd Zd Z1 Z3 Z6 (as_own CFGEdge Z1 Z3 Z6) rfl Z5 h5) ?_
      refine pA ?_
      refine ARun.fin ?_
      refine normIn ?_
      refine normJ ?_
      refine ⟨_, ?_, tier_2, l6, t14, t15, t16, rfl, hm⟩
      exact le_canon (fun j => bif j == 1 then 259 else 0) (wV (wV (wD (CFGEdge.sl _ _ _) (wO (wV wk_none))))) (hW (eU CFGEdge entWk_none))
     ·
      refine AWp.skip ?_
      refine normIn ?_
      refine normJ ?_
      refine ⟨_, ?_, tier_2, forest_7, t14, t15, t16, rfl, hm⟩
      exact le_canon (fun j => bif j == 1 then 1 else 0) (wV (wV (wD (CFGEdge.sl _ _ _) (wO (wV wk_none))))) (hW (eU CFGEdge entWk_none))
    ·
     rintro s ⟨tier_2, forest_7, t14, t15, t16, rfl, hm⟩
     unfold tableForest_J1 at hm
     refine AWp.reg 64 (N' := 128) rfl ?_
     iterate 2 refine pA ?_
     refine ARun.fin ?_
     refine normThen ?_
     refine ⟨_, ?_, tier_2, forest_7, t14, t15, (IntKind.i64.wrap (t16 + 1)), rfl, hm⟩
     exact le_canon (fun j => bif j == 1 then 1 else 0) (wV (wV (wD (CFGEdge.sl _ _ _) (wO (wV wk_none))))) (hW (eU CFGEdge entWk_none))
   ·
    refine AWp.exit ?_
    refine exitSeq ?_
    refine exitThen ?_
    refine exitHere ?_
    refine normSeq ?_
    refine sr (N' := 192) rfl ?_
    iterate 2 refine pA ?_
    refine fs ?_
    refine AWp.ret ?_
    cases hm
    exact ret1D (.inr rfl) Try.results81 (tdo CFGEdge Z1 Z3 Z6)
def partRight_B1 (rec1 : List Int → List Int → Int → Int → Option (Bool)) (p_0 : List Int) (t5 : List Int) (t6 : Int) (t7 : Int) : Option (Bool) :=
 (bif (decide (t7 < t6)) then
  ((idx t5 t7).bind fun x2 =>
  ((partPlace_m (p_0.length : Int) x2).bind fun r4 =>
  ((gopt (((!r4) || (decide (t7 < x2))) == false) 0 (idx p_0 x2)).bind fun x6 =>
  (bif (((!r4) || (decide (t7 < x2))) || (x6 != x2)) then
   some false
  else
   rec1 p_0 t5 t6 (IntKind.i64.wrap (t7 + 1))))))
 else
  some true)
def partRight_L1 : Nat → List Int → List Int → Int → Int → Option (Bool)
 | 0 => fun _ _ _ _ => none
 | n + 1 => partRight_B1 (partRight_L1 n)
def partRight_m (p_0 : List Int) : Option (Bool) :=
 partRight_L1 FUEL p_0 p_0 (p_0.length : Int) 0
theorem partRight_c {p_0 : List Int} {r : Bool} (hm : partRight_m p_0 = some r) : PureC Try.prog 80 [.sl (p_0.flatMap (ci .i64)) p_0.length false] (.v (.bool r)) := by
 refine PureC.of_body Try.func80 rfl ?_
 simp only [Try.ntmps80, List.length_cons, List.length_nil, Nat.reduceAdd, Nat.reduceSub, empty_eq]
 unfold partRight_m at hm
 refine sr (N' := 64) rfl ?_
 refine pA ?_
 refine fs ?_
 refine AWp.seq' ?_
 refine sr (N' := 128) rfl ?_
 iterate 3 refine pA ?_
 refine fs ?_
 refine AWp.block ?_
 refine AWp.loopM (fun m s => ∃ (p_0 : List Int) (t5 : List Int) (t6 : Int) (t7 : Int), s = (⟨31, (fset (fset (fset (fset (fun _ => AV.any) 0 (.sl (p_0.flatMap (ci .i64)) p_0.length false)) 5 (.sl (t5.flatMap (ci .i64)) t5.length false)) 6 (.v (.int .i64 t6))) 7 (.v (.int .i64 t7))), ⟨nofresh, 64⟩⟩ : St) ∧ partRight_L1 m p_0 t5 t6 t7 = some r) FUEL ?_ ?_ ?_
 ·
  rintro s ⟨_, _, _, _, _, h⟩
  cases h
 ·
  refine ⟨_, ?_, p_0, p_0, (p_0.length : Int), 0, rfl, hm⟩
  exact le_canon id (wV (wV (wD ((CFi .i64).sl _ _ _) (wD ((CFi .i64).sl _ _ _) wk_none)))) heapWk0
 ·
  rintro n1 s ⟨p_0, t5, t6, t7, rfl, hm⟩
  replace hm : partRight_B1 (partRight_L1 n1) p_0 t5 t6 t7 = some r := hm
  unfold partRight_B1 at hm
  refine sr (N' := 128) rfl ?_
  refine pA ?_
  refine fs ?_
  refine AWp.seq' ?_
  refine AWp.condM hm Z1 (fun _ hm => ?_) (fun _ hm => ?_)
  ·
   refine AWp.skip ?_
   refine normSeq ?_
   refine AWp.seq' ?_
   refine AWp.block ?_
   refine sr (N' := 192) rfl ?_
   refine pA ?_
   obtain ⟨x2, h1, hm⟩ := bnd hm
   refine pu rfl (ap_idx (CFi .i64) Zd Try.underlying30 sz3 Z1 rfl Z1 h1) ?_
   iterate 3 refine pA ?_
   refine fs ?_
   refine sr (N' := 256) rfl ?_
   iterate 3 refine pA ?_
   obtain ⟨r4, h3, hm⟩ := bnd hm
   refine ARun.callQ (r := .v (.bool r4)) Zd Z1 fb108 (fun H => (cV (cV .nil))) (partPlace_c h3) ?_
   iterate 9 first | refine pA ?_ | refine pB ?_
   obtain ⟨x6, h5, hm⟩ := bnd hm
   refine pg rfl rfl Z2 (fun hb => (ap_idx (CFi .i64) Zd Try.underlying30 sz3 (Zh hb) rfl (Zh hb) (gopt_t h5 hb))) ?_
   iterate 4 first | refine pA ?_ | refine pB ?_
   refine fs ?_
   refine AWp.condM hm Z1 (fun _ hm => ?_) (fun _ hm => ?_)
   ·
    refine sr (N' := 320) rfl ?_
    refine pA ?_
    refine fs ?_
    refine AWp.ret ?_
    refine retIn ?_
    refine retSeq ?_
    refine retThen ?_
    refine retIn ?_
    refine retSeq ?_
    cases hm
    exact ret1D (.inr rfl) Try.results80 (td Z1 (.v _))
   ·
    refine AWp.skip ?_
    refine normIn ?_
    refine normSeq ?_
    refine AWp.reg 64 (N' := 320) rfl ?_
    iterate 2 refine pA ?_
    refine ARun.fin ?_
    refine normThen ?_
    refine ⟨_, ?_, p_0, t5, t6, (IntKind.i64.wrap (t7 + 1)), rfl, hm⟩
    exact le_canon id (wV (wV (wD ((CFi .i64).sl _ _ _) (wD ((CFi .i64).sl _ _ _) wk_none)))) heapWk0
  ·
   refine AWp.exit ?_
   refine exitSeq ?_
   refine exitThen ?_
   refine exitHere ?_
   refine normSeq ?_
   refine sr (N' := 192) rfl ?_
   refine pA ?_
   refine fs ?_
   refine AWp.ret ?_
   cases hm
   exact ret1D (.inr rfl) Try.results80 (td Z1 (.v _))
def partMany_J1 (rec1 : Int → List Int → Int → Int → Option (Int)) (many_3 : Int) (t9 : List Int) (t10 : Int) (t11 : Int) : Option (Int) :=
 rec1 many_3 t9 t10 (IntKind.i64.wrap (t11 + 1))
def partMany_B1 (rec1 : Int → List Int → Int → Int → Option (Int)) (many_3 : Int) (t9 : List Int) (t10 : Int) (t11 : Int) : Option (Int) :=
 (bif (decide (t11 < t10)) then
  ((idx t9 t11).bind fun x4 =>
  (bif (t11 == x4) then
   partMany_J1 rec1 (IntKind.i64.wrap (many_3 + 1)) t9 t10 t11
  else
   partMany_J1 rec1 many_3 t9 t10 t11))
 else
  some many_3)
def partMany_L1 : Nat → Int → List Int → Int → Int → Option (Int)
 | 0 => fun _ _ _ _ => none
 | n + 1 => partMany_B1 (partMany_L1 n)
def partMany_m (p_0 : List Int) : Option (Int) :=
 ((partRight_m p_0).bind fun r2 =>
 (bif (!r2) then
  some 0
 else
  partMany_L1 FUEL 0 p_0 (p_0.length : Int) 0))
theorem partMany_c {p_0 : List Int} {r : Int} (hm : partMany_m p_0 = some r) : PureC Try.prog 79 [.sl (p_0.flatMap (ci .i64)) p_0.length false] (.v (.int .i64 r)) := by
 refine PureC.of_body Try.func79 rfl ?_
 simp only [Try.ntmps79, List.length_cons, List.length_nil, Nat.reduceAdd, Nat.reduceSub, empty_eq]
 unfold partMany_m at hm
 refine sr (N' := 64) rfl ?_
 refine pA ?_
 refine fs ?_
 refine AWp.seq' ?_
 refine sr (N' := 128) rfl ?_
 refine pA ?_
 obtain ⟨r2, h1, hm⟩ := bnd hm
 refine ARun.callQ (r := .v (.bool r2)) Zd Z1 fb80 (fun H => (cD ((CFi .i64).sl _ _ _) .nil)) (partRight_c h1) ?_
 refine pA ?_
 refine fs ?_
 refine AWp.condM hm Z1 (fun _ hm => ?_) (fun _ hm => ?_)
 ·
  refine sr (N' := 192) rfl ?_
  refine pA ?_
  refine fs ?_
  refine AWp.ret ?_
  refine retSeq ?_
  cases hm
  exact ret1D (.inr rfl) Try.results79 (td Z1 (.v _))
 ·
  refine AWp.skip ?_
  refine normSeq ?_
  refine sr (N' := 192) rfl ?_
  refine pA ?_
  refine fs ?_
  refine AWp.seq' ?_
  refine sr (N' := 256) rfl ?_
  iterate 3 refine pA ?_
  refine fs ?_
  refine AWp.block ?_
  refine AWp.loopM (fun m s => ∃ (many_3 : Int) (t9 : List Int) (t10 : Int) (t11 : Int), s = (⟨23, (fset (fset (fset (fset (fun _ => AV.any) 3 (.v (.int .i64 many_3))) 9 (.sl (t9.flatMap (ci .i64)) t9.length false)) 10 (.v (.int .i64 t10))) 11 (.v (.int .i64 t11))), ⟨nofresh, 64⟩⟩ : St) ∧ partMany_L1 m many_3 t9 t10 t11 = some r) FUEL ?_ ?_ ?_
  ·
   rintro s ⟨_, _, _, _, _, h⟩
   cases h
  ·
   refine ⟨_, ?_, 0, p_0, (p_0.length : Int), 0, rfl, hm⟩
   exact le_canon id (wV (wV (wD ((CFi .i64).sl _ _ _) (wV wk_none)))) heapWk0
  ·
   rintro n1 s ⟨many_3, t9, t10, t11, rfl, hm⟩
   replace hm : partMany_B1 (partMany_L1 n1) many_3 t9 t10 t11 = some r := hm
   unfold partMany_B1 at hm
   refine sr (N' := 128) rfl ?_
   refine pA ?_
   refine fs ?_
   refine AWp.seq' ?_
   refine AWp.condM hm Z1 (fun _ hm => ?_) (fun _ hm => ?_)
   ·
    refine AWp.skip ?_
    refine normSeq ?_
    refine AWp.seqJ (fun s => ∃ (many_3 : Int) (t9 : List Int) (t10 : Int) (t11 : Int), s = (⟨23, (fset (fset (fset (fset (fun _ => AV.any) 3 (.v (.int .i64 many_3))) 9 (.sl (t9.flatMap (ci .i64)) t9.length false)) 10 (.v (.int .i64 t10))) 11 (.v (.int .i64 t11))), ⟨nofresh, 64⟩⟩ : St) ∧ partMany_J1 (partMany_L1 n1) many_3 t9 t10 t11 = some r) ?_ ?_
    ·
     refine AWp.block ?_
     refine sr (N' := 192) rfl ?_
     refine pA ?_
     obtain ⟨x4, h3, hm⟩ := bnd hm
     refine pu rfl (ap_idx (CFi .i64) Zd Try.underlying30 sz3 Z1 rfl Z1 h3) ?_
     iterate 3 refine pA ?_
     refine fs ?_
     refine sr (N' := 256) rfl ?_
     iterate 3 refine pA ?_
     refine fs ?_
     refine AWp.condM hm Z1 (fun _ hm => ?_) (fun _ hm => ?_)
     ·
      refine AWp.reg 64 (N' := 320) rfl ?_
      iterate 3 refine pA ?_
      refine ARun.fin ?_
      refine normIn ?_
      refine normJ ?_
      refine ⟨_, ?_, (IntKind.i64.wrap (many_3 + 1)), t9, t10, t11, rfl, hm⟩
      exact le_canon id (wV (wV (wD ((CFi .i64).sl _ _ _) (wV wk_none)))) heapWk0
     ·
      refine AWp.skip ?_
      refine normIn ?_
      refine normJ ?_
      refine ⟨_, ?_, many_3, t9, t10, t11, rfl, hm⟩
      exact le_canon id (wV (wV (wD ((CFi .i64).sl _ _ _) (wV wk_none)))) heapWk0
    ·
     rintro s ⟨many_3, t9, t10, t11, rfl, hm⟩
     unfold partMany_J1 at hm
     refine AWp.reg 64 (N' := 128) rfl ?_
     iterate 2 refine pA ?_
     refine ARun.fin ?_
     refine normThen ?_
     refine ⟨_, ?_, many_3, t9, t10, (IntKind.i64.wrap (t11 + 1)), rfl, hm⟩
     exact le_canon id (wV (wV (wD ((CFi .i64).sl _ _ _) (wV wk_none)))) heapWk0
   ·
    refine AWp.exit ?_
    refine exitSeq ?_
    refine exitThen ?_
    refine exitHere ?_
    refine normSeq ?_
    refine sr (N' := 192) rfl ?_
    iterate 2 refine pA ?_
    refine fs ?_
    refine AWp.ret ?_
    cases hm
    exact ret1D (.inr rfl) Try.results79 (td Z1 (.v _))
def groveRight_m (n_0 : Int) (l_1 : List GEdge) : Option (Bool) :=
 ((partOf_m n_0 l_1).bind fun ⟨r2, r3⟩ =>
 ((gopt ((r3 == 0) == true) 0 (partMany_m r2)).bind fun r5 =>
 some ((r3 == 0) && (r5 == (IntKind.i64.wrap (n_0 - (l_1.length : Int)))))))
theorem groveRight_c {n_0 : Int} {l_1 : List GEdge} {r : Bool} (hm : groveRight_m n_0 l_1 = some r) : PureC Try.prog 91 [.v (.int .i64 n_0), .sl (l_1.flatMap cGEdge) l_1.length false] (.v (.bool r)) := by
 refine PureC.of_body Try.func91 rfl ?_
 simp only [Try.ntmps91, List.length_cons, List.length_nil, Nat.reduceAdd, Nat.reduceSub, empty_eq]
 unfold groveRight_m at hm
 refine sr (N' := 64) rfl ?_
 refine pA ?_
 refine fs ?_
 refine sr (N' := 128) rfl ?_
 iterate 2 refine pA ?_
 obtain ⟨⟨r2, r3⟩, h1, hm⟩ := bnd hm
 refine ARun.callQ (r := .tup [.sl (r2.flatMap (ci .i64)) r2.length false, .v (.int .i64 r3)]) Zd Z1 fb75 (fun H => (cV (cD (CFGEdge.sl _ _ _) .nil))) (partOf_c h1) ?_
 iterate 5 refine pA ?_
 refine fs ?_
 refine sr (N' := 192) rfl ?_
 iterate 4 first | refine pA ?_ | refine pB ?_
 obtain ⟨r5, h4, hm⟩ := bnd hm
 refine ARun.callQG (r := .v (.int .i64 r5)) Zd rfl Z2 Z1 fb79 (fun hb H => (.cons (td (Zh hb) ((CFi .i64).sl _ _ _)) .nil)) (fun hb => partMany_c (gopt_t h4 hb)) ?_
 iterate 7 first | refine pA ?_ | refine pB ?_
 refine fs ?_
 refine AWp.ret ?_
 cases hm
 exact ret1D (.inr rfl) Try.results91 (td Z1 (.v _))
def searchRight_B2 (rec2 : GGraph → GConfig → List GEdge → Int → Int → Option (Bool)) (g_1 : GGraph) (c_3 : GConfig) (t70 : List GEdge) (t71 : Int) (t72 : Int) : Option (Bool) :=
 (bif (decide (t72 < t71)) then
  ((idx t70 t72).bind fun x6 =>
  (bif (decide (c_3.L < x6.Tier)) then
   some false
  else
   rec2 g_1 c_3 t70 t71 (IntKind.i64.wrap (t72 + 1))))
 else
  ((tableForest_m c_3.N g_1.Edges c_3.L).bind fun r8 =>
  ((groveRight_m c_3.N r8).bind fun r10 =>
  some r10)))
def searchRight_L2 : Nat → GGraph → GConfig → List GEdge → Int → Int → Option (Bool)
 | 0 => fun _ _ _ _ _ => none
 | n + 1 => searchRight_B2 (searchRight_L2 n)
def searchRight_B1 (rec1 : GGraph → GConfig → List GHash → Int → Int → Option (Bool)) (g_1 : GGraph) (c_3 : GConfig) (t48 : List GHash) (t49 : Int) (t50 : Int) : Option (Bool) :=
 (bif (decide (t50 < t49)) then
  ((idx t48 t50).bind fun x2 =>
  (bif ((decide (2305843009213693951 ≤ x2.A)) || (decide (2305843009213693951 ≤ x2.B))) then
   some false
  else
   rec1 g_1 c_3 t48 t49 (IntKind.i64.wrap (t50 + 1))))
 else
  ((tableRight_m c_3.N g_1.Edges).bind fun r4 =>
  (bif (!r4) then
   some false
  else
   searchRight_L2 FUEL g_1 c_3 g_1.Edges (g_1.Edges.length : Int) 0)))
def searchRight_L1 : Nat → GGraph → GConfig → List GHash → Int → Int → Option (Bool)
 | 0 => fun _ _ _ _ _ => none
 | n + 1 => searchRight_B1 (searchRight_L1 n)
def searchRight_m (g_0 : GGraph) : Option (Bool) :=
 (bif ((((((decide (g_0.Config.N < 1)) || (decide (1024 < g_0.Config.N))) || (decide (g_0.Config.L < 1))) || (decide (16 < g_0.Config.L))) || (decide (g_0.Config.R < 1))) || (decide (8 < g_0.Config.R))) then
  some false
 else
  (bif ((g_0.Hashes.length : Int) != (IntKind.i64.wrap (g_0.Config.L * g_0.Config.R))) then
   some false
  else
   searchRight_L1 FUEL g_0 g_0.Config g_0.Hashes (g_0.Hashes.length : Int) 0))
theorem searchRight_c {g_0 : GGraph} {r : Bool} (hm : searchRight_m g_0 = some r) : PureC Try.prog 45 [.agg [.v (.int .i64 g_0.Config.N), .v (.int .i64 g_0.Config.L), .v (.int .i64 g_0.Config.R), .sl (g_0.Hashes.flatMap cGHash) g_0.Hashes.length false, .sl (g_0.Edges.flatMap cGEdge) g_0.Edges.length false]] (.v (.bool r)) := by
 refine PureC.of_body Try.func45 rfl ?_
 simp only [Try.ntmps45, List.length_cons, List.length_nil, Nat.reduceAdd, Nat.reduceSub, empty_eq]
 unfold searchRight_m at hm
 refine sr (N' := 64) rfl ?_
 refine hp (id := 0) rfl rfl (aheap_box Z1 Z5) ?_
 refine pA ?_
 refine fs ?_
 refine sr (N' := 128) rfl ?_
 refine pA ?_
 refine pu rfl (ap_ldv Z1 Z3 Z4) ?_
 refine hp (id := 66) rfl rfl (aheap_alloc' zc23 Z5) ?_
 refine ARun.heap0 (id := 67) rfl (ah_var (ys := [.v (.int .i64 g_0.Config.N), .v (.int .i64 g_0.Config.L), .v (.int .i64 g_0.Config.R)]) sz23 Z1 Z1 Z3 rfl (Nat.le_of_ble_eq_true rfl) Z9 rfl) ?_
 refine fs ?_
 refine AWp.seq' ?_
 refine sr (N' := 192) rfl ?_
 refine pA ?_
 refine pu rfl (ap_ldv Z1 Z3 Z4) ?_
 iterate 3 first | refine pA ?_ | refine pB ?_
 refine pg rfl rfl Z2 (fun hb => (ap_ldv (Zh hb) Z3 Z4)) ?_
 iterate 4 first | refine pA ?_ | refine pB ?_
 refine pg rfl rfl Z2 (fun hb => (ap_ldv (Zh hb) Z3 Z4)) ?_
 iterate 4 first | refine pA ?_ | refine pB ?_
 refine pg rfl rfl Z2 (fun hb => (ap_ldv (Zh hb) Z3 Z4)) ?_
 iterate 4 first | refine pA ?_ | refine pB ?_
 refine pg rfl rfl Z2 (fun hb => (ap_ldv (Zh hb) Z3 Z4)) ?_
 iterate 4 first | refine pA ?_ | refine pB ?_
 refine pg rfl rfl Z2 (fun hb => (ap_ldv (Zh hb) Z3 Z4)) ?_
 iterate 2 first | refine pA ?_ | refine pB ?_
 refine fs ?_
 refine AWp.condM hm Z1 (fun _ hm => ?_) (fun _ hm => ?_)
 ·
  refine sr (N' := 256) rfl ?_
  refine pA ?_
  refine fs ?_
  refine AWp.ret ?_
  refine retSeq ?_
  cases hm
  exact ret1D (.inr rfl) Try.results45 (td Z1 (.v _))
 ·
  refine AWp.skip ?_
  refine normSeq ?_
  refine AWp.seq' ?_
  refine sr (N' := 256) rfl ?_
  refine pA ?_
  refine pu rfl (ap_ldv Z1 Z3 Z4) ?_
  iterate 2 refine pA ?_
  refine pu rfl (ap_ldv Z1 Z3 Z4) ?_
  refine pA ?_
  refine pu rfl (ap_ldv Z1 Z3 Z4) ?_
  iterate 2 refine pA ?_
  refine fs ?_
  refine AWp.condM hm Z1 (fun _ hm => ?_) (fun _ hm => ?_)
  ·
   refine sr (N' := 320) rfl ?_
   refine pA ?_
   refine fs ?_
   refine AWp.ret ?_
   refine retSeq ?_
   cases hm
   exact ret1D (.inr rfl) Try.results45 (td Z1 (.v _))
  ·
   refine AWp.skip ?_
   refine normSeq ?_
   refine AWp.seq' ?_
   refine sr (N' := 320) rfl ?_
   refine pA ?_
   refine pu rfl (ap_ldv Z1 Z3 Z4) ?_
   iterate 2 refine pA ?_
   refine fs ?_
   refine AWp.block ?_
   refine AWp.loopM (fun m s => ∃ (g_1 : GGraph) (c_3 : GConfig) (t48 : List GHash) (t49 : Int) (t50 : Int), s = (⟨92, (fset (fset (fset (fset (fset (fun _ => AV.any) 1 (.adr 1 0)) 3 (.adr 2 0)) 48 (.sl (t48.flatMap cGHash) t48.length false)) 49 (.v (.int .i64 t49))) 50 (.v (.int .i64 t50))), ⟨(upd (upd nofresh 1 (.cells 1 [.v (.int .i64 g_1.Config.N), .v (.int .i64 g_1.Config.L), .v (.int .i64 g_1.Config.R), .sl (g_1.Hashes.flatMap cGHash) g_1.Hashes.length false, .sl (g_1.Edges.flatMap cGEdge) g_1.Edges.length false] 0)) 2 (.cells 1 [.v (.int .i64 c_3.N), .v (.int .i64 c_3.L), .v (.int .i64 c_3.R)] 0)), 64⟩⟩ : St) ∧ searchRight_L1 m g_1 c_3 t48 t49 t50 = some r) FUEL ?_ ?_ ?_
   ·
    rintro s ⟨_, _, _, _, _, _, h⟩
    cases h
   ·
    refine ⟨_, ?_, g_0, g_0.Config, g_0.Hashes, (g_0.Hashes.length : Int), 0, rfl, hm⟩
    exact le_canon (fun j => bif j == 1 then 0 else bif j == 2 then 66 else 0) (wV (wV (wD (CFGHash.sl _ _ _) (wk_fset _ _ (wk_adr Z1 rfl Z7) (wk_fset _ _ (wk_adr Z1 rfl Z7) wk_none))))) (hW (entWk_upd (entWk_data Z3 (Nat.le_refl _) (Nat.zero_le _) (CFGConfig.dat g_0.Config)) (entWk_upd (entWk_data Z3 (Nat.le_refl _) (Nat.zero_le _) (CFGGraph.dat g_0)) entWk_none)))
   ·
    rintro n1 s ⟨g_1, c_3, t48, t49, t50, rfl, hm⟩
    replace hm : searchRight_B1 (searchRight_L1 n1) g_1 c_3 t48 t49 t50 = some r := hm
    unfold searchRight_B1 at hm
    refine sr (N' := 128) rfl ?_
    refine pA ?_
    refine fs ?_
    refine AWp.seq' ?_
    refine AWp.condM hm Z1 (fun _ hm => ?_) (fun _ hm => ?_)
    ·
     refine AWp.skip ?_
     refine normSeq ?_
     refine AWp.seq' ?_
     refine AWp.block ?_
     refine sr (N' := 192) rfl ?_
     obtain ⟨x2, h1, hm⟩ := bnd hm
     refine pu rfl (ap_idx CFGHash Zd Try.underlying24 sz53 Z1 rfl Z1 h1) ?_
     refine pA ?_
     refine hp (id := 130) rfl rfl (aheap_alloc' zc53 Z5) ?_
     refine ARun.heap0 (id := 131) rfl (ah_var (ys := [.v (.int .u64 x2.A), .v (.int .u64 x2.B)]) sz53 Z1 Z1 Z3 rfl (Nat.le_of_ble_eq_true rfl) Z9 rfl) ?_
     refine fs ?_
     refine sr (N' := 256) rfl ?_
     refine pA ?_
     refine pu rfl (ap_ldv Z1 Z3 Z4) ?_
     iterate 3 first | refine pA ?_ | refine pB ?_
     refine pg rfl rfl Z2 (fun hb => (ap_ldv (Zh hb) Z3 Z4)) ?_
     iterate 2 first | refine pA ?_ | refine pB ?_
     refine fs ?_
     refine AWp.condM hm Z1 (fun _ hm => ?_) (fun _ hm => ?_)
     ·
      refine sr (N' := 320) rfl ?_
      refine pA ?_
      refine fs ?_
      refine AWp.ret ?_
      refine retIn ?_
      refine retSeq ?_
      refine retThen ?_
      refine retIn ?_
      refine retSeq ?_
      cases hm
      exact ret1D (.inr rfl) Try.results45 (td Z1 (.v _))
     ·
      refine AWp.skip ?_
      refine normIn ?_
      refine normSeq ?_
      refine AWp.reg 64 (N' := 320) rfl ?_
      iterate 2 refine pA ?_
      refine ARun.fin ?_
      refine normThen ?_
      refine ⟨_, ?_, g_1, c_3, t48, t49, (IntKind.i64.wrap (t50 + 1)), rfl, hm⟩
      exact le_canon (fun j => bif j == 1 then 1 else bif j == 2 then 2 else 0) (wV (wV (wD (CFGHash.sl _ _ _) (wk_fset _ _ (wk_adr Z1 rfl Z7) (wk_fset _ _ (wk_adr Z1 rfl Z7) wk_none))))) (hW (entWk_upd (entWk_data Z3 (Nat.le_refl _) (Nat.zero_le _) (CFGConfig.dat c_3)) (entWk_upd (entWk_data Z3 (Nat.le_refl _) (Nat.zero_le _) (CFGGraph.dat g_1)) entWk_none)))
    ·
     refine AWp.exit ?_
     refine exitSeq ?_
     refine exitThen ?_
     refine exitHere ?_
     refine normSeq ?_
     refine AWp.seq' ?_
     refine sr (N' := 192) rfl ?_
     refine pA ?_
     refine pu rfl (ap_ldv Z1 Z3 Z4) ?_
     refine pA ?_
     refine pu rfl (ap_ldv Z1 Z3 Z4) ?_
     obtain ⟨r4, h3, hm⟩ := bnd hm
     refine ARun.callQ (r := .v (.bool r4)) Zd Z1 fb90 (fun H => (cV (cD (CFGEdge.sl _ _ _) .nil))) (tableRight_c h3) ?_
     refine pA ?_
     refine fs ?_
     refine AWp.condM hm Z1 (fun _ hm => ?_) (fun _ hm => ?_)
     ·
      refine sr (N' := 256) rfl ?_
      refine pA ?_
      refine fs ?_
      refine AWp.ret ?_
      refine retSeq ?_
      cases hm
      exact ret1D (.inr rfl) Try.results45 (td Z1 (.v _))
     ·
      refine AWp.skip ?_
      refine normSeq ?_
      refine AWp.seq' ?_
      refine sr (N' := 256) rfl ?_
      refine pA ?_
      refine pu rfl (ap_ldv Z1 Z3 Z4) ?_
      iterate 2 refine pA ?_
      refine fs ?_
      refine AWp.block ?_
      refine AWp.loopM (fun m s => ∃ (g_1 : GGraph) (c_3 : GConfig) (t70 : List GEdge) (t71 : Int) (t72 : Int), s = (⟨92, (fset (fset (fset (fset (fset (fun _ => AV.any) 1 (.adr 1 0)) 3 (.adr 2 0)) 70 (.sl (t70.flatMap cGEdge) t70.length false)) 71 (.v (.int .i64 t71))) 72 (.v (.int .i64 t72))), ⟨(upd (upd nofresh 1 (.cells 1 [.v (.int .i64 g_1.Config.N), .v (.int .i64 g_1.Config.L), .v (.int .i64 g_1.Config.R), .sl (g_1.Hashes.flatMap cGHash) g_1.Hashes.length false, .sl (g_1.Edges.flatMap cGEdge) g_1.Edges.length false] 0)) 2 (.cells 1 [.v (.int .i64 c_3.N), .v (.int .i64 c_3.L), .v (.int .i64 c_3.R)] 0)), 64⟩⟩ : St) ∧ searchRight_L2 m g_1 c_3 t70 t71 t72 = some r) FUEL ?_ ?_ ?_
      ·
       rintro s ⟨_, _, _, _, _, _, h⟩
       cases h
      ·
       refine ⟨_, ?_, g_1, c_3, g_1.Edges, (g_1.Edges.length : Int), 0, rfl, hm⟩
       exact le_canon (fun j => bif j == 1 then 1 else bif j == 2 then 2 else 0) (wV (wV (wD (CFGEdge.sl _ _ _) (wk_fset _ _ (wk_adr Z1 rfl Z7) (wk_fset _ _ (wk_adr Z1 rfl Z7) wk_none))))) (hW (entWk_upd (entWk_data Z3 (Nat.le_refl _) (Nat.zero_le _) (CFGConfig.dat c_3)) (entWk_upd (entWk_data Z3 (Nat.le_refl _) (Nat.zero_le _) (CFGGraph.dat g_1)) entWk_none)))
      ·
       rintro n2 s ⟨g_1, c_3, t70, t71, t72, rfl, hm⟩
       replace hm : searchRight_B2 (searchRight_L2 n2) g_1 c_3 t70 t71 t72 = some r := hm
       unfold searchRight_B2 at hm
       refine sr (N' := 128) rfl ?_
       refine pA ?_
       refine fs ?_
       refine AWp.seq' ?_
       refine AWp.condM hm Z1 (fun _ hm => ?_) (fun _ hm => ?_)
       ·
        refine AWp.skip ?_
        refine normSeq ?_
        refine AWp.seq' ?_
        refine AWp.block ?_
        refine sr (N' := 192) rfl ?_
        obtain ⟨x6, h5, hm⟩ := bnd hm
        refine pu rfl (ap_idx CFGEdge Zd Try.underlying25 sz38 Z1 rfl Z1 h5) ?_
        refine pA ?_
        refine hp (id := 130) rfl rfl (aheap_alloc' zc38 Z5) ?_
        refine ARun.heap0 (id := 131) rfl (ah_var (ys := [.v (.int .i64 x6.U), .v (.int .i64 x6.V), .v (.int .i64 x6.Tier)]) sz38 Z1 Z1 Z3 rfl (Nat.le_of_ble_eq_true rfl) Z9 rfl) ?_
        refine fs ?_
        refine sr (N' := 256) rfl ?_
        refine pA ?_
        refine pu rfl (ap_ldv Z1 Z3 Z4) ?_
        refine pA ?_
        refine pu rfl (ap_ldv Z1 Z3 Z4) ?_
        refine pA ?_
        refine fs ?_
        refine AWp.condM hm Z1 (fun _ hm => ?_) (fun _ hm => ?_)
        ·
         refine sr (N' := 320) rfl ?_
         refine pA ?_
         refine fs ?_
         refine AWp.ret ?_
         refine retIn ?_
         refine retSeq ?_
         refine retThen ?_
         refine retIn ?_
         refine retSeq ?_
         cases hm
         exact ret1D (.inr rfl) Try.results45 (td Z1 (.v _))
        ·
         refine AWp.skip ?_
         refine normIn ?_
         refine normSeq ?_
         refine AWp.reg 64 (N' := 320) rfl ?_
         iterate 2 refine pA ?_
         refine ARun.fin ?_
         refine normThen ?_
         refine ⟨_, ?_, g_1, c_3, t70, t71, (IntKind.i64.wrap (t72 + 1)), rfl, hm⟩
         exact le_canon (fun j => bif j == 1 then 1 else bif j == 2 then 2 else 0) (wV (wV (wD (CFGEdge.sl _ _ _) (wk_fset _ _ (wk_adr Z1 rfl Z7) (wk_fset _ _ (wk_adr Z1 rfl Z7) wk_none))))) (hW (entWk_upd (entWk_data Z3 (Nat.le_refl _) (Nat.zero_le _) (CFGConfig.dat c_3)) (entWk_upd (entWk_data Z3 (Nat.le_refl _) (Nat.zero_le _) (CFGGraph.dat g_1)) entWk_none)))
       ·
        refine AWp.exit ?_
        refine exitSeq ?_
        refine exitThen ?_
        refine exitHere ?_
        refine normSeq ?_
        refine sd mix (by kernel_rfl) (N' := 192) rfl ?_
        refine pA ?_
        refine pu rfl (ap_ldv Z1 Z3 Z4) ?_
        refine pA ?_
        refine pu rfl (ap_ldv Z1 Z3 Z4) ?_
        refine pA ?_
        refine pu rfl (ap_ldv Z1 Z3 Z4) ?_
        refine pA ?_
        refine pu rfl (ap_ldv Z1 Z3 Z4) ?_
        obtain ⟨r8, h7, hm⟩ := bnd hm
        refine ARun.callQ (r := .sl (r8.flatMap cGEdge) r8.length false) Zd Z1 fb81 (fun H => (cV (cD (CFGEdge.sl _ _ _) (cV .nil)))) (tableForest_c h7) ?_
        obtain ⟨r10, h9, hm⟩ := bnd hm
        refine ARun.callQ (r := .v (.bool r10)) Zd Z1 fb91 (fun H => (cV (cD (CFGEdge.sl _ _ _) .nil))) (groveRight_c h9) ?_
        refine pA ?_
        refine fs ?_
        refine AWp.ret ?_
        cases hm
        exact ret1D (.inr rfl) Try.results45 (td Z1 (.v _))
def tiersKept_m (g_0 : GGraph) : Option ((List Int)) :=
 ((searchRight_m g_0).bind fun r2 =>
 (bif (!r2) then
  some []
 else
  ((tableForest_m g_0.Config.N g_0.Edges g_0.Config.L).bind fun r4 =>
  ((partOf_m g_0.Config.N r4).bind fun ⟨r6, r7⟩ =>
  some r6))))
theorem tiersKept_c {g_0 : GGraph} {r : (List Int)} (hm : tiersKept_m g_0 = some r) : PureC Try.prog 39 [.agg [.v (.int .i64 g_0.Config.N), .v (.int .i64 g_0.Config.L), .v (.int .i64 g_0.Config.R), .sl (g_0.Hashes.flatMap cGHash) g_0.Hashes.length false, .sl (g_0.Edges.flatMap cGEdge) g_0.Edges.length false]] (.sl (r.flatMap (ci .i64)) r.length false) := by
 refine PureC.of_body Try.func39 rfl ?_
 simp only [Try.ntmps39, List.length_cons, List.length_nil, Nat.reduceAdd, Nat.reduceSub, empty_eq]
 unfold tiersKept_m at hm
 refine sr (N' := 64) rfl ?_
 refine hp (id := 0) rfl rfl (aheap_box Z1 Z5) ?_
 refine pA ?_
 refine fs ?_
 refine AWp.seq' ?_
 refine sr (N' := 128) rfl ?_
 refine pu rfl (ap_ldv Z1 Z3 Z2) ?_
 obtain ⟨r2, h1, hm⟩ := bnd hm
 refine ARun.callQ (r := .v (.bool r2)) Zd Z1 fb45 (fun H => (cD (.agg _ (CFGGraph.dat _)) .nil)) (searchRight_c h1) ?_
 refine pA ?_
 refine fs ?_
 refine AWp.condM hm Z1 (fun _ hm => ?_) (fun _ hm => ?_)
 ·
  refine sr (N' := 192) rfl ?_
  refine pA ?_
  refine fs ?_
  refine AWp.ret ?_
  refine retSeq ?_
  cases hm
  exact ret1D (.inr rfl) Try.results39 (tdn Z1)
 ·
  refine AWp.skip ?_
  refine normSeq ?_
  refine sd mix (by kernel_rfl) (N' := 192) rfl ?_
  iterate 2 refine pA ?_
  refine pu rfl (ap_ldv Z1 Z3 Z4) ?_
  iterate 2 refine pA ?_
  refine pu rfl (ap_ldv Z1 Z3 Z4) ?_
  refine pA ?_
  refine pu rfl (ap_ldv Z1 Z3 Z4) ?_
  iterate 2 refine pA ?_
  refine pu rfl (ap_ldv Z1 Z3 Z4) ?_
  obtain ⟨r4, h3, hm⟩ := bnd hm
  refine ARun.callQ (r := .sl (r4.flatMap cGEdge) r4.length false) Zd Z1 fb81 (fun H => (cV (cD (CFGEdge.sl _ _ _) (cV .nil)))) (tableForest_c h3) ?_
  obtain ⟨⟨r6, r7⟩, h5, hm⟩ := bnd hm
  refine ARun.callQ (r := .tup [.sl (r6.flatMap (ci .i64)) r6.length false, .v (.int .i64 r7)]) Zd Z1 fb75 (fun H => (cV (cD (CFGEdge.sl _ _ _) .nil))) (partOf_c h5) ?_
  iterate 5 refine pA ?_
  refine fs ?_
  refine sr (N' := 256) rfl ?_
  iterate 2 refine pA ?_
  refine fs ?_
  refine AWp.ret ?_
  cases hm
  exact ret1D (.inr rfl) Try.results39 (td Z1 ((CFi .i64).sl _ _ _))
def ref06Same_B1 (rec1 : List Int → List Int → Int → Option (Bool)) (a_0 : List Int) (b_1 : List Int) (i_5 : Int) : Option (Bool) :=
 (bif (decide (i_5 < (a_0.length : Int))) then
  ((idx a_0 i_5).bind fun x2 =>
  ((idx b_1 i_5).bind fun x4 =>
  (bif (x2 != x4) then
   some false
  else
   rec1 a_0 b_1 (IntKind.i64.wrap (i_5 + 1)))))
 else
  some true)
def ref06Same_L1 : Nat → List Int → List Int → Int → Option (Bool)
 | 0 => fun _ _ _ => none
 | n + 1 => ref06Same_B1 (ref06Same_L1 n)
def ref06Same_m (a_0 : List Int) (b_1 : List Int) : Option (Bool) :=
 (bif ((a_0.length : Int) != (b_1.length : Int)) then
  some false
 else
  ref06Same_L1 FUEL a_0 b_1 0)
theorem ref06Same_c {a_0 : List Int} {b_1 : List Int} {r : Bool} (hm : ref06Same_m a_0 b_1 = some r) : PureC Try.prog 34 [.sl (a_0.flatMap (ci .i64)) a_0.length false, .sl (b_1.flatMap (ci .i64)) b_1.length false] (.v (.bool r)) := by
 refine PureC.of_body Try.func34 rfl ?_
 simp only [Try.ntmps34, List.length_cons, List.length_nil, Nat.reduceAdd, Nat.reduceSub, empty_eq]
 unfold ref06Same_m at hm
 refine sr (N' := 64) rfl ?_
 refine pA ?_
 refine fs ?_
 refine AWp.seq' ?_
 refine sr (N' := 128) rfl ?_
 iterate 5 refine pA ?_
 refine fs ?_
 refine AWp.condM hm Z1 (fun _ hm => ?_) (fun _ hm => ?_)
 ·
  refine sr (N' := 192) rfl ?_
  refine pA ?_
  refine fs ?_
  refine AWp.ret ?_
  refine retSeq ?_
  cases hm
  exact ret1D (.inr rfl) Try.results34 (td Z1 (.v _))
 ·
  refine AWp.skip ?_
  refine normSeq ?_
  refine AWp.seq' ?_
  refine sr (N' := 192) rfl ?_
  refine pA ?_
  refine fs ?_
  refine AWp.block ?_
  refine AWp.loopM (fun m s => ∃ (a_0 : List Int) (b_1 : List Int) (i_5 : Int), s = (⟨26, (fset (fset (fset (fun _ => AV.any) 0 (.sl (a_0.flatMap (ci .i64)) a_0.length false)) 1 (.sl (b_1.flatMap (ci .i64)) b_1.length false)) 5 (.v (.int .i64 i_5))), ⟨nofresh, 64⟩⟩ : St) ∧ ref06Same_L1 m a_0 b_1 i_5 = some r) FUEL ?_ ?_ ?_
  ·
   rintro s ⟨_, _, _, _, h⟩
   cases h
  ·
   refine ⟨_, ?_, a_0, b_1, 0, rfl, hm⟩
   exact le_canon id (wV (wD ((CFi .i64).sl _ _ _) (wD ((CFi .i64).sl _ _ _) wk_none))) heapWk0
  ·
   rintro n1 s ⟨a_0, b_1, i_5, rfl, hm⟩
   replace hm : ref06Same_B1 (ref06Same_L1 n1) a_0 b_1 i_5 = some r := hm
   unfold ref06Same_B1 at hm
   refine AWp.seq' ?_
   refine sr (N' := 128) rfl ?_
   iterate 4 refine pA ?_
   refine fs ?_
   refine AWp.condM hm Z1 (fun _ hm => ?_) (fun _ hm => ?_)
   ·
    refine AWp.skip ?_
    refine normSeq ?_
    refine AWp.seq' ?_
    refine AWp.block ?_
    refine sd mix (by kernel_rfl) (N' := 192) rfl ?_
    iterate 2 refine pA ?_
    obtain ⟨x2, h1, hm⟩ := bnd hm
    refine pu rfl (ap_idx (CFi .i64) Zd Try.underlying30 sz3 Z1 rfl Z1 h1) ?_
    iterate 3 refine pA ?_
    obtain ⟨x4, h3, hm⟩ := bnd hm
    refine pu rfl (ap_idx (CFi .i64) Zd Try.underlying30 sz3 Z1 rfl Z1 h3) ?_
    iterate 2 refine pA ?_
    refine fs ?_
    refine AWp.condM hm Z1 (fun _ hm => ?_) (fun _ hm => ?_)
    ·
     refine sr (N' := 256) rfl ?_
     refine pA ?_
     refine fs ?_
     refine AWp.ret ?_
     refine retIn ?_
     refine retSeq ?_
     refine retThen ?_
     refine retIn ?_
     refine retSeq ?_
     cases hm
     exact ret1D (.inr rfl) Try.results34 (td Z1 (.v _))
    ·
     refine AWp.skip ?_
     refine normIn ?_
     refine normSeq ?_
     refine AWp.reg 64 (N' := 256) rfl ?_
     iterate 3 refine pA ?_
     refine ARun.fin ?_
     refine normThen ?_
     refine ⟨_, ?_, a_0, b_1, (IntKind.i64.wrap (i_5 + 1)), rfl, hm⟩
     exact le_canon id (wV (wD ((CFi .i64).sl _ _ _) (wD ((CFi .i64).sl _ _ _) wk_none))) heapWk0
   ·
    refine AWp.exit ?_
    refine exitSeq ?_
    refine exitThen ?_
    refine exitHere ?_
    refine normSeq ?_
    refine sr (N' := 192) rfl ?_
    refine pA ?_
    refine fs ?_
    refine AWp.ret ?_
    cases hm
    exact ret1D (.inr rfl) Try.results34 (td Z1 (.v _))
def ref09Of_J1 (rec2 : List GEdge → List Int → Bool → Option ((List Int))) (rec3 : List GEdge → List Int → Bool → Int → Option ((List Int))) (l_1 : List GEdge) (p_5 : List Int) (again_7 : Bool) (i_8 : Int) : Option ((List Int)) :=
 rec3 l_1 p_5 again_7 (IntKind.i64.wrap (i_8 + 1))
def ref09Of_J2 (rec2 : List GEdge → List Int → Bool → Option ((List Int))) (rec3 : List GEdge → List Int → Bool → Int → Option ((List Int))) (l_1 : List GEdge) (p_5 : List Int) (again_7 : Bool) (i_8 : Int) (a_9 : Int) (b_10 : Int) : Option ((List Int)) :=
 (bif (decide (b_10 < a_9)) then
  ((idx l_1 i_8).bind fun x12 =>
  ((idx p_5 x12.U).bind fun x14 =>
  ((stt p_5 x12.U b_10).bind fun l16 =>
  ref09Of_J1 rec2 rec3 l_1 l16 true i_8)))
 else
  ref09Of_J1 rec2 rec3 l_1 p_5 again_7 i_8)
def ref09Of_B3 (rec2 : List GEdge → List Int → Bool → Option ((List Int))) (rec3 : List GEdge → List Int → Bool → Int → Option ((List Int))) (l_1 : List GEdge) (p_5 : List Int) (again_7 : Bool) (i_8 : Int) : Option ((List Int)) :=
 (bif (decide (i_8 < (l_1.length : Int))) then
  ((idx l_1 i_8).bind fun x4 =>
  ((idx p_5 x4.U).bind fun x6 =>
  ((idx l_1 i_8).bind fun x8 =>
  ((idx p_5 x8.V).bind fun x10 =>
  (bif (decide (x6 < x10)) then
   ((idx l_1 i_8).bind fun x18 =>
   ((idx p_5 x18.V).bind fun x20 =>
   ((stt p_5 x18.V x6).bind fun l22 =>
   ref09Of_J2 rec2 rec3 l_1 l22 true i_8 x6 x10)))
  else
   ref09Of_J2 rec2 rec3 l_1 p_5 again_7 i_8 x6 x10)))))
 else
  rec2 l_1 p_5 again_7)
def ref09Of_L3 (rec2 : List GEdge → List Int → Bool → Option ((List Int))) : Nat → List GEdge → List Int → Bool → Int → Option ((List Int))
 | 0 => fun _ _ _ _ => none
 | n + 1 => ref09Of_B3 rec2 (ref09Of_L3 rec2 n)
def ref09Of_B2 (rec2 : List GEdge → List Int → Bool → Option ((List Int))) (l_1 : List GEdge) (p_5 : List Int) (again_7 : Bool) : Option ((List Int)) :=
 (bif again_7 then
  ref09Of_L3 rec2 FUEL l_1 p_5 false 0
 else
  some p_5)
def ref09Of_L2 : Nat → List GEdge → List Int → Bool → Option ((List Int))
 | 0 => fun _ _ _ => none
 | n + 1 => ref09Of_B2 (ref09Of_L2 n)
def ref09Of_B1 (rec1 : Int → List GEdge → List Int → Int → Option ((List Int))) (n_0 : Int) (l_1 : List GEdge) (p_5 : List Int) (i_6 : Int) : Option ((List Int)) :=
 (bif (decide (i_6 < n_0)) then
  ((app p_5 [i_6]).bind fun l2 =>
  rec1 n_0 l_1 l2 (IntKind.i64.wrap (i_6 + 1)))
 else
  ref09Of_L2 FUEL l_1 p_5 true)
def ref09Of_L1 : Nat → Int → List GEdge → List Int → Int → Option ((List Int))
 | 0 => fun _ _ _ _ => none
 | n + 1 => ref09Of_B1 (ref09Of_L1 n)
def ref09Of_m (n_0 : Int) (l_1 : List GEdge) : Option ((List Int)) :=
 ref09Of_L1 FUEL n_0 l_1 [] 0
theorem ref09Of_c {n_0 : Int} {l_1 : List GEdge} {r : (List Int)} (hm : ref09Of_m n_0 l_1 = some r) : PureC Try.prog 71 [.v (.int .i64 n_0), .sl (l_1.flatMap cGEdge) l_1.length false] (.sl (r.flatMap (ci .i64)) r.length false) := by
 refine PureC.of_body Try.func71 rfl ?_
 simp only [Try.ntmps71, List.length_cons, List.length_nil, Nat.reduceAdd, Nat.reduceSub, empty_eq]
 unfold ref09Of_m at hm
 refine sr (N' := 64) rfl ?_
 refine pA ?_
 refine fs ?_
 refine sr (N' := 128) rfl ?_
 refine pA ?_
 refine fs ?_
 refine AWp.seq' ?_
 refine sr (N' := 192) rfl ?_
 refine pA ?_
 refine fs ?_
 refine AWp.block ?_
 refine AWp.loopM (fun m s => ∃ (n_0 : Int) (l_1 : List GEdge) (p_5 : List Int) (i_6 : Int), s = (⟨66, (fset (fset (fset (fset (fun _ => AV.any) 0 (.v (.int .i64 n_0))) 1 (.sl (l_1.flatMap cGEdge) l_1.length false)) 5 (.own 1 0 p_5.length)) 6 (.v (.int .i64 i_6))), ⟨(upd nofresh 1 (.cells 1 (p_5.flatMap (ci .i64)) 0)), 64⟩⟩ : St) ∧ ref09Of_L1 m n_0 l_1 p_5 i_6 = some r) FUEL ?_ ?_ ?_
 ·
  rintro s ⟨_, _, _, _, _, h⟩
  cases h
 ·
  refine ⟨_, ?_, n_0, l_1, [], 0, rfl, hm⟩
  refine St.Le.trans (le_nil 5 900005 1 Z1 Z5) ?_
  exact le_canon (fun j => bif j == 1 then 900005 else 0) (wV (wO (wD (CFGEdge.sl _ _ _) (wV wk_none)))) (hW (eU (CFi .i64) entWk_none))
 ·
  rintro n1 s ⟨n_0, l_1, p_5, i_6, rfl, hm⟩
  replace hm : ref09Of_B1 (ref09Of_L1 n1) n_0 l_1 p_5 i_6 = some r := hm
  unfold ref09Of_B1 at hm
  refine AWp.seq' ?_
  refine sr (N' := 128) rfl ?_
  iterate 3 refine pA ?_
  refine fs ?_
  refine AWp.condM hm Z1 (fun _ hm => ?_) (fun _ hm => ?_)
  ·
   refine AWp.skip ?_
   refine normSeq ?_
   refine AWp.seq' ?_
   refine AWp.block ?_
   refine AWp.reg 64 (N' := 192) rfl ?_
   iterate 2 refine pA ?_
   refine hp (id := 130) rfl rfl (ah_list (CFi .i64) (l := [i_6]) Try.underlying30 sz3 zc3 Z5 Zd Zd Zd (by simp only [go_sem, Nat.reduceBEq]; try rfl) (by kernel_rfl)) ?_
   obtain ⟨l2, h1, hm⟩ := bnd hm
   refine hp (id := 131) rfl rfl (ah_app (CFi .i64) Try.underlying30 Try.underlying30 rfl in3 ts3 (by rw [tb3]; decide) (by rw [tb3]; decide) tz3 Zd Zd Z1 Z3 Z6 (as_own (CFi .i64) Z1 Z3 Z6) rfl Z5 h1) ?_
   refine pA ?_
   refine ARun.fin ?_
   refine normIn ?_
   refine normSeq ?_
   refine AWp.reg 64 (N' := 256) rfl ?_
   iterate 3 refine pA ?_
   refine ARun.fin ?_
   refine normThen ?_
   refine ⟨_, ?_, n_0, l_1, l2, (IntKind.i64.wrap (i_6 + 1)), rfl, hm⟩
   exact le_canon (fun j => bif j == 1 then 131 else 0) (wV (wO (wD (CFGEdge.sl _ _ _) (wV wk_none)))) (hW (eU (CFi .i64) entWk_none))
  ·
   refine AWp.exit ?_
   refine exitSeq ?_
   refine exitThen ?_
   refine exitHere ?_
   refine normSeq ?_
   refine AWp.seq' ?_
   refine sr (N' := 192) rfl ?_
   refine pA ?_
   refine fs ?_
   refine AWp.block ?_
   refine AWp.loopM (fun m s => ∃ (l_1 : List GEdge) (p_5 : List Int) (again_7 : Bool), s = (⟨66, (fset (fset (fset (fun _ => AV.any) 1 (.sl (l_1.flatMap cGEdge) l_1.length false)) 5 (.own 1 0 p_5.length)) 7 (.v (.bool again_7))), ⟨(upd nofresh 1 (.cells 1 (p_5.flatMap (ci .i64)) 0)), 64⟩⟩ : St) ∧ ref09Of_L2 m l_1 p_5 again_7 = some r) FUEL ?_ ?_ ?_
   ·
    rintro s ⟨_, _, _, _, h⟩
    cases h
   ·
    refine ⟨_, ?_, l_1, p_5, true, rfl, hm⟩
    exact le_canon (fun j => bif j == 1 then 1 else 0) (wV (wO (wD (CFGEdge.sl _ _ _) wk_none))) (hW (eU (CFi .i64) entWk_none))
   ·
    rintro n2 s ⟨l_1, p_5, again_7, rfl, hm⟩
    replace hm : ref09Of_B2 (ref09Of_L2 n2) l_1 p_5 again_7 = some r := hm
    unfold ref09Of_B2 at hm
    refine AWp.seq' ?_
    refine sr (N' := 128) rfl ?_
    refine pA ?_
    refine fs ?_
    refine AWp.condM hm Z1 (fun _ hm => ?_) (fun _ hm => ?_)
    ·
     refine AWp.skip ?_
     refine normSeq ?_
     refine AWp.block ?_
     refine sr (N' := 192) rfl ?_
     refine pA ?_
     refine fs ?_
     refine sr (N' := 256) rfl ?_
     refine pA ?_
     refine fs ?_
     refine AWp.block ?_
     refine AWp.loopM (fun m s => ∃ (l_1 : List GEdge) (p_5 : List Int) (again_7 : Bool) (i_8 : Int), s = (⟨66, (fset (fset (fset (fset (fun _ => AV.any) 1 (.sl (l_1.flatMap cGEdge) l_1.length false)) 5 (.own 1 0 p_5.length)) 7 (.v (.bool again_7))) 8 (.v (.int .i64 i_8))), ⟨(upd nofresh 1 (.cells 1 (p_5.flatMap (ci .i64)) 0)), 64⟩⟩ : St) ∧ ref09Of_L3 (ref09Of_L2 n2) m l_1 p_5 again_7 i_8 = some r) FUEL ?_ ?_ ?_
     ·
      rintro s ⟨_, _, _, _, _, h⟩
      cases h
     ·
      refine ⟨_, ?_, l_1, p_5, false, 0, rfl, hm⟩
      exact le_canon (fun j => bif j == 1 then 1 else 0) (wV (wV (wO (wD (CFGEdge.sl _ _ _) wk_none)))) (hW (eU (CFi .i64) entWk_none))
     ·
      rintro n3 s ⟨l_1, p_5, again_7, i_8, rfl, hm⟩
      replace hm : ref09Of_B3 (ref09Of_L2 n2) (ref09Of_L3 (ref09Of_L2 n2) n3) l_1 p_5 again_7 i_8 = some r := hm
      unfold ref09Of_B3 at hm
      refine AWp.seq' ?_
      refine sr (N' := 128) rfl ?_
      iterate 4 refine pA ?_
      refine fs ?_
      refine AWp.condM hm Z1 (fun _ hm => ?_) (fun _ hm => ?_)
      ·
       refine AWp.skip ?_
       refine normSeq ?_
       refine AWp.seqJ (fun s => ∃ (l_1 : List GEdge) (p_5 : List Int) (again_7 : Bool) (i_8 : Int), s = (⟨66, (fset (fset (fset (fset (fun _ => AV.any) 1 (.sl (l_1.flatMap cGEdge) l_1.length false)) 5 (.own 1 0 p_5.length)) 7 (.v (.bool again_7))) 8 (.v (.int .i64 i_8))), ⟨(upd nofresh 1 (.cells 1 (p_5.flatMap (ci .i64)) 0)), 64⟩⟩ : St) ∧ ref09Of_J1 (ref09Of_L2 n2) (ref09Of_L3 (ref09Of_L2 n2) n3) l_1 p_5 again_7 i_8 = some r) ?_ ?_
       ·
        refine AWp.block ?_
        refine sd mix (by kernel_rfl) (N' := 192) rfl ?_
        iterate 3 refine pA ?_
        obtain ⟨x4, h3, hm⟩ := bnd hm
        refine pu rfl (ap_idx CFGEdge Zd Try.underlying25 sz38 Z1 rfl Z1 h3) ?_
        iterate 2 refine pA ?_
        obtain ⟨x6, h5, hm⟩ := bnd hm
        refine pu rfl (ap_idxo Try.underlying30 sz3 Z1 Z3 Z6 Z1 h5) ?_
        refine pu rfl (ap_ldo (CFi .i64) Z1 Z3 h5 (fun _ => by simp only [go_sem, Nat.reduceBEq]; try with_reducible rfl)) ?_
        iterate 3 refine pA ?_
        obtain ⟨x8, h7, hm⟩ := bnd hm
        refine pu rfl (ap_idx CFGEdge Zd Try.underlying25 sz38 Z1 rfl Z1 h7) ?_
        iterate 2 refine pA ?_
        obtain ⟨x10, h9, hm⟩ := bnd hm
        refine pu rfl (ap_idxo Try.underlying30 sz3 Z1 Z3 Z6 Z1 h9) ?_
        refine pu rfl (ap_ldo (CFi .i64) Z1 Z3 h9 (fun _ => by simp only [go_sem, Nat.reduceBEq]; try with_reducible rfl)) ?_
        iterate 2 refine pA ?_
        refine fs ?_
        refine AWp.seqJ (fun s => ∃ (l_1 : List GEdge) (p_5 : List Int) (again_7 : Bool) (i_8 : Int) (a_9 : Int) (b_10 : Int), s = (⟨66, (fset (fset (fset (fset (fset (fset (fun _ => AV.any) 1 (.sl (l_1.flatMap cGEdge) l_1.length false)) 5 (.own 1 0 p_5.length)) 7 (.v (.bool again_7))) 8 (.v (.int .i64 i_8))) 9 (.v (.int .i64 a_9))) 10 (.v (.int .i64 b_10))), ⟨(upd nofresh 1 (.cells 1 (p_5.flatMap (ci .i64)) 0)), 64⟩⟩ : St) ∧ ref09Of_J2 (ref09Of_L2 n2) (ref09Of_L3 (ref09Of_L2 n2) n3) l_1 p_5 again_7 i_8 a_9 b_10 = some r) ?_ ?_
        ·
         refine sr (N' := 256) rfl ?_
         iterate 3 refine pA ?_
         refine fs ?_
         refine AWp.condM hm Z1 (fun _ hm => ?_) (fun _ hm => ?_)
         ·
          refine sr (N' := 320) rfl ?_
          iterate 3 refine pA ?_
          obtain ⟨x18, h17, hm⟩ := bnd hm
          refine pu rfl (ap_idx CFGEdge Zd Try.underlying25 sz38 Z1 rfl Z1 h17) ?_
          iterate 3 refine pA ?_
          obtain ⟨x20, h19, hm⟩ := bnd hm
          refine pu rfl (ap_idxo Try.underlying30 sz3 Z1 Z3 Z6 Z1 h19) ?_
          obtain ⟨l22, h21, hm⟩ := bnd hm
          have qh21 := stt_len h21
          refine ARun.heap0 (id := 264) rfl (ah_stt (CFi .i64) sz3 Z1 Z1 Z3 rfl h21) ?_
          refine fs ?_
          refine AWp.reg 64 (N' := 384) rfl ?_
          refine pA ?_
          refine ARun.fin ?_
          refine normJ ?_
          refine ⟨_, ?_, l_1, l22, true, i_8, x6, x10, rfl, hm⟩
          exact le_canon (fun j => bif j == 1 then 1 else 0) (wV (wV (wV (wV (wO (wD (CFGEdge.sl _ _ _) wk_none)))))) (hW (eU (CFi .i64) entWk_none))
         ·
          refine AWp.skip ?_
          refine normJ ?_
          refine ⟨_, ?_, l_1, p_5, again_7, i_8, x6, x10, rfl, hm⟩
          exact le_canon (fun j => bif j == 1 then 1 else 0) (wV (wV (wV (wV (wO (wD (CFGEdge.sl _ _ _) wk_none)))))) (hW (eU (CFi .i64) entWk_none))
        ·
         rintro s ⟨l_1, p_5, again_7, i_8, a_9, b_10, rfl, hm⟩
         unfold ref09Of_J2 at hm
         refine sr (N' := 128) rfl ?_
         iterate 3 refine pA ?_
         refine fs ?_
         refine AWp.condM hm Z1 (fun _ hm => ?_) (fun _ hm => ?_)
         ·
          refine sr (N' := 192) rfl ?_
          iterate 3 refine pA ?_
          obtain ⟨x12, h11, hm⟩ := bnd hm
          refine pu rfl (ap_idx CFGEdge Zd Try.underlying25 sz38 Z1 rfl Z1 h11) ?_
          iterate 3 refine pA ?_
          obtain ⟨x14, h13, hm⟩ := bnd hm
          refine pu rfl (ap_idxo Try.underlying30 sz3 Z1 Z3 Z6 Z1 h13) ?_
          obtain ⟨l16, h15, hm⟩ := bnd hm
          have qh15 := stt_len h15
          refine ARun.heap0 (id := 136) rfl (ah_stt (CFi .i64) sz3 Z1 Z1 Z3 rfl h15) ?_
          refine fs ?_
          refine AWp.reg 64 (N' := 256) rfl ?_
          refine pA ?_
          refine ARun.fin ?_
          refine normIn ?_
          refine normJ ?_
          refine ⟨_, ?_, l_1, l16, true, i_8, rfl, hm⟩
          exact le_canon (fun j => bif j == 1 then 1 else 0) (wV (wV (wO (wD (CFGEdge.sl _ _ _) wk_none)))) (hW (eU (CFi .i64) entWk_none))
         ·
          refine AWp.skip ?_
          refine normIn ?_
          refine normJ ?_
          refine ⟨_, ?_, l_1, p_5, again_7, i_8, rfl, hm⟩
          exact le_canon (fun j => bif j == 1 then 1 else 0) (wV (wV (wO (wD (CFGEdge.sl _ _ _) wk_none)))) (hW (eU (CFi .i64) entWk_none))
       ·
        rintro s ⟨l_1, p_5, again_7, i_8, rfl, hm⟩
        unfold ref09Of_J1 at hm
        refine AWp.reg 64 (N' := 128) rfl ?_
        iterate 3 refine pA ?_
        refine ARun.fin ?_
        refine normThen ?_
        refine ⟨_, ?_, l_1, p_5, again_7, (IntKind.i64.wrap (i_8 + 1)), rfl, hm⟩
        exact le_canon (fun j => bif j == 1 then 1 else 0) (wV (wV (wO (wD (CFGEdge.sl _ _ _) wk_none)))) (hW (eU (CFi .i64) entWk_none))
      ·
       refine AWp.exit ?_
       refine exitSeq ?_
       refine exitThen ?_
       refine exitHere ?_
       refine normIn ?_
       refine normThen ?_
       refine ⟨_, ?_, l_1, p_5, again_7, rfl, hm⟩
       exact le_canon (fun j => bif j == 1 then 1 else 0) (wV (wO (wD (CFGEdge.sl _ _ _) wk_none))) (hW (eU (CFi .i64) entWk_none))
    ·
     refine AWp.exit ?_
     refine exitSeq ?_
     refine exitThen ?_
     refine exitHere ?_
     refine normSeq ?_
     refine sr (N' := 192) rfl ?_
     iterate 2 refine pA ?_
     refine fs ?_
     refine AWp.ret ?_
     cases hm
     exact ret1D (.inr rfl) Try.results71 (tdo (CFi .i64) Z1 Z3 Z6)
def ref03Same_B1 (rec1 : List GEdge → List GEdge → Int → Option (Bool)) (a_0 : List GEdge) (b_1 : List GEdge) (i_5 : Int) : Option (Bool) :=
 (bif (decide (i_5 < (a_0.length : Int))) then
  ((idx a_0 i_5).bind fun x2 =>
  ((idx b_1 i_5).bind fun x4 =>
  (bif (!((x2.U == x4.U) && ((x2.V == x4.V) && (x2.Tier == x4.Tier)))) then
   some false
  else
   rec1 a_0 b_1 (IntKind.i64.wrap (i_5 + 1)))))
 else
  some true)
def ref03Same_L1 : Nat → List GEdge → List GEdge → Int → Option (Bool)
 | 0 => fun _ _ _ => none
 | n + 1 => ref03Same_B1 (ref03Same_L1 n)
def ref03Same_m (a_0 : List GEdge) (b_1 : List GEdge) : Option (Bool) :=
 (bif ((a_0.length : Int) != (b_1.length : Int)) then
  some false
 else
  ref03Same_L1 FUEL a_0 b_1 0)
theorem ref03Same_c {a_0 : List GEdge} {b_1 : List GEdge} {r : Bool} (hm : ref03Same_m a_0 b_1 = some r) : PureC Try.prog 36 [.sl (a_0.flatMap cGEdge) a_0.length false, .sl (b_1.flatMap cGEdge) b_1.length false] (.v (.bool r)) := by
 refine PureC.of_body Try.func36 rfl ?_
 simp only [Try.ntmps36, List.length_cons, List.length_nil, Nat.reduceAdd, Nat.reduceSub, empty_eq]
 unfold ref03Same_m at hm
 refine sr (N' := 64) rfl ?_
 refine pA ?_
 refine fs ?_
 refine AWp.seq' ?_
 refine sr (N' := 128) rfl ?_
 iterate 5 refine pA ?_
 refine fs ?_
 refine AWp.condM hm Z1 (fun _ hm => ?_) (fun _ hm => ?_)
 ·
  refine sr (N' := 192) rfl ?_
  refine pA ?_
  refine fs ?_
  refine AWp.ret ?_
  refine retSeq ?_
  cases hm
  exact ret1D (.inr rfl) Try.results36 (td Z1 (.v _))
 ·
  refine AWp.skip ?_
  refine normSeq ?_
  refine AWp.seq' ?_
  refine sr (N' := 192) rfl ?_
  refine pA ?_
  refine fs ?_
  refine AWp.block ?_
  refine AWp.loopM (fun m s => ∃ (a_0 : List GEdge) (b_1 : List GEdge) (i_5 : Int), s = (⟨26, (fset (fset (fset (fun _ => AV.any) 0 (.sl (a_0.flatMap cGEdge) a_0.length false)) 1 (.sl (b_1.flatMap cGEdge) b_1.length false)) 5 (.v (.int .i64 i_5))), ⟨nofresh, 64⟩⟩ : St) ∧ ref03Same_L1 m a_0 b_1 i_5 = some r) FUEL ?_ ?_ ?_
  ·
   rintro s ⟨_, _, _, _, h⟩
   cases h
  ·
   refine ⟨_, ?_, a_0, b_1, 0, rfl, hm⟩
   exact le_canon id (wV (wD (CFGEdge.sl _ _ _) (wD (CFGEdge.sl _ _ _) wk_none))) heapWk0
  ·
   rintro n1 s ⟨a_0, b_1, i_5, rfl, hm⟩
   replace hm : ref03Same_B1 (ref03Same_L1 n1) a_0 b_1 i_5 = some r := hm
   unfold ref03Same_B1 at hm
   refine AWp.seq' ?_
   refine sr (N' := 128) rfl ?_
   iterate 4 refine pA ?_
   refine fs ?_
   refine AWp.condM hm Z1 (fun _ hm => ?_) (fun _ hm => ?_)
   ·
    refine AWp.skip ?_
    refine normSeq ?_
    refine AWp.seq' ?_
    refine AWp.block ?_
    refine sd mix (by kernel_rfl) (N' := 192) rfl ?_
    iterate 2 refine pA ?_
    obtain ⟨x2, h1, hm⟩ := bnd hm
    refine pu rfl (ap_idx CFGEdge Zd Try.underlying25 sz38 Z1 rfl Z1 h1) ?_
    iterate 3 refine pA ?_
    obtain ⟨x4, h3, hm⟩ := bnd hm
    refine pu rfl (ap_idx CFGEdge Zd Try.underlying25 sz38 Z1 rfl Z1 h3) ?_
    iterate 2 refine pA ?_
    refine fs ?_
    refine AWp.condM hm Z1 (fun _ hm => ?_) (fun _ hm => ?_)
    ·
     refine sr (N' := 256) rfl ?_
     refine pA ?_
     refine fs ?_
     refine AWp.ret ?_
     refine retIn ?_
     refine retSeq ?_
     refine retThen ?_
     refine retIn ?_
     refine retSeq ?_
     cases hm
     exact ret1D (.inr rfl) Try.results36 (td Z1 (.v _))
    ·
     refine AWp.skip ?_
     refine normIn ?_
     refine normSeq ?_
     refine AWp.reg 64 (N' := 256) rfl ?_
     iterate 3 refine pA ?_
     refine ARun.fin ?_
     refine normThen ?_
     refine ⟨_, ?_, a_0, b_1, (IntKind.i64.wrap (i_5 + 1)), rfl, hm⟩
     exact le_canon id (wV (wD (CFGEdge.sl _ _ _) (wD (CFGEdge.sl _ _ _) wk_none))) heapWk0
   ·
    refine AWp.exit ?_
    refine exitSeq ?_
    refine exitThen ?_
    refine exitHere ?_
    refine normSeq ?_
    refine sr (N' := 192) rfl ?_
    refine pA ?_
    refine fs ?_
    refine AWp.ret ?_
    cases hm
    exact ret1D (.inr rfl) Try.results36 (td Z1 (.v _))
end Go.Proofs.Ytibnmlbjahcjmaa
