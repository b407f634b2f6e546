/- Facts that the statement's proof is made of. No condition. -/
import Derived.Test.YtibnmlbjahcjmaaGreatZaOf
import Derived.Test.YtibnmlbjahcjmaaGreatZaAmF
set_option linter.unusedVariables false
set_option linter.unusedSimpArgs false
set_option maxRecDepth 20000
set_option maxHeartbeats 4000000
namespace Go.Proofs.YtibnmlbjahcjmaaGreat
open Go Go.AM
structure GConfig where
 N : Int
 L : Int
 R : Int
deriving DecidableEq
def cGConfig (e : GConfig) : List AV := [.v (.int .i64 e.N), .v (.int .i64 e.L), .v (.int .i64 e.R)]
theorem CFGConfig : CF cGConfig 3 := ⟨fun _ => rfl, fun a x hx => by
 simp only [cGConfig, List.mem_cons, List.not_mem_nil, or_false] at hx
 rcases hx with rfl | rfl | rfl
 ·
  exact (.v _)
 ·
  exact (.v _)
 ·
  exact (.v _), fun _ => rfl⟩
theorem cGConfig_app (e : GConfig) (r : List AV) : cGConfig e ++ r = .v (.int .i64 e.N) :: .v (.int .i64 e.L) :: .v (.int .i64 e.R) :: r := rfl
attribute [go_sem] cGConfig_app
structure GHash where
 A : Int
 B : Int
deriving DecidableEq
def cGHash (e : GHash) : List AV := [.v (.int .u64 e.A), .v (.int .u64 e.B)]
theorem CFGHash : CF cGHash 2 := ⟨fun _ => rfl, fun a x hx => by
 simp only [cGHash, List.mem_cons, List.not_mem_nil, or_false] at hx
 rcases hx with rfl | rfl
 ·
  exact (.v _)
 ·
  exact (.v _), fun _ => rfl⟩
theorem cGHash_app (e : GHash) (r : List AV) : cGHash e ++ r = .v (.int .u64 e.A) :: .v (.int .u64 e.B) :: r := rfl
attribute [go_sem] cGHash_app
structure GGraph where
 Config : GConfig
 Hashes : List GHash
 Edges : List GEdge
deriving DecidableEq
def cGGraph (e : GGraph) : List AV := [.v (.int .i64 e.Config.N), .v (.int .i64 e.Config.L), .v (.int .i64 e.Config.R), .sl (e.Hashes.flatMap cGHash) e.Hashes.length false, .sl (e.Edges.flatMap cGEdge) e.Edges.length false]
theorem CFGGraph : CF cGGraph 5 := ⟨fun _ => rfl, fun a x hx => by
 simp only [cGGraph, List.mem_cons, List.not_mem_nil, or_false] at hx
 rcases hx with rfl | rfl | rfl | rfl | rfl
 ·
  exact (.v _)
 ·
  exact (.v _)
 ·
  exact (.v _)
 ·
  exact (CFGHash.sl _ _ _)
 ·
  exact (CFGEdge.sl _ _ _), fun _ => rfl⟩
theorem cGGraph_app (e : GGraph) (r : List AV) : cGGraph e ++ r = .v (.int .i64 e.Config.N) :: .v (.int .i64 e.Config.L) :: .v (.int .i64 e.Config.R) :: .sl (e.Hashes.flatMap cGHash) e.Hashes.length false :: .sl (e.Edges.flatMap cGEdge) e.Edges.length false :: r := rfl
attribute [go_sem] cGGraph_app
theorem eqs23GA1 (x0 y0 x1 y1 x2 y2 : Int) : abin Tryz.prog .eql 23 (.agg [.v (.int .i64 x0), .v (.int .i64 x1), .v (.int .i64 x2)]) (.agg [.v (.int .i64 y0), .v (.int .i64 y1), .v (.int .i64 y2)]) = some (.v (.bool ((x0 == y0) && ((x1 == y1) && (x2 == y2))))) :=
 (by kernel_rfl : abin Tryz.prog .eql 23 (.agg [.v (.int .i64 x0), .v (.int .i64 x1), .v (.int .i64 x2)]) (.agg [.v (.int .i64 y0), .v (.int .i64 y1), .v (.int .i64 y2)]) = some (.v (.bool ((x0 == y0) && ((x1 == y1) && ((x2 == y2) && true)))))).trans (by rw [Bool.and_true])
theorem nqs23GA1 (x0 y0 x1 y1 x2 y2 : Int) : abin Tryz.prog .neq 23 (.agg [.v (.int .i64 x0), .v (.int .i64 x1), .v (.int .i64 x2)]) (.agg [.v (.int .i64 y0), .v (.int .i64 y1), .v (.int .i64 y2)]) = some (.v (.bool (!((x0 == y0) && ((x1 == y1) && (x2 == y2)))))) :=
 (by kernel_rfl : abin Tryz.prog .neq 23 (.agg [.v (.int .i64 x0), .v (.int .i64 x1), .v (.int .i64 x2)]) (.agg [.v (.int .i64 y0), .v (.int .i64 y1), .v (.int .i64 y2)]) = some (.v (.bool (!((x0 == y0) && ((x1 == y1) && ((x2 == y2) && true))))))).trans (by rw [Bool.and_true])
attribute [go_sem] eqs23GA1 nqs23GA1
theorem eqs44GA1 (x0 y0 x1 y1 : Int) : abin Tryz.prog .eql 44 (.agg [.v (.int .u64 x0), .v (.int .u64 x1)]) (.agg [.v (.int .u64 y0), .v (.int .u64 y1)]) = some (.v (.bool ((x0 == y0) && (x1 == y1)))) :=
 (by kernel_rfl : abin Tryz.prog .eql 44 (.agg [.v (.int .u64 x0), .v (.int .u64 x1)]) (.agg [.v (.int .u64 y0), .v (.int .u64 y1)]) = some (.v (.bool ((x0 == y0) && ((x1 == y1) && true))))).trans (by rw [Bool.and_true])
theorem nqs44GA1 (x0 y0 x1 y1 : Int) : abin Tryz.prog .neq 44 (.agg [.v (.int .u64 x0), .v (.int .u64 x1)]) (.agg [.v (.int .u64 y0), .v (.int .u64 y1)]) = some (.v (.bool (!((x0 == y0) && (x1 == y1))))) :=
 (by kernel_rfl : abin Tryz.prog .neq 44 (.agg [.v (.int .u64 x0), .v (.int .u64 x1)]) (.agg [.v (.int .u64 y0), .v (.int .u64 y1)]) = some (.v (.bool (!((x0 == y0) && ((x1 == y1) && true)))))).trans (by rw [Bool.and_true])
attribute [go_sem] eqs44GA1 nqs44GA1
theorem eqs47GA1 (x0 y0 x1 y1 x2 y2 : Int) : abin Tryz.prog .eql 47 (.agg [.v (.int .i64 x0), .v (.int .i64 x1), .v (.int .i64 x2)]) (.agg [.v (.int .i64 y0), .v (.int .i64 y1), .v (.int .i64 y2)]) = some (.v (.bool ((x0 == y0) && ((x1 == y1) && (x2 == y2))))) :=
 (by kernel_rfl : abin Tryz.prog .eql 47 (.agg [.v (.int .i64 x0), .v (.int .i64 x1), .v (.int .i64 x2)]) (.agg [.v (.int .i64 y0), .v (.int .i64 y1), .v (.int .i64 y2)]) = some (.v (.bool ((x0 == y0) && ((x1 == y1) && ((x2 == y2) && true)))))).trans (by rw [Bool.and_true])
theorem nqs47GA1 (x0 y0 x1 y1 x2 y2 : Int) : abin Tryz.prog .neq 47 (.agg [.v (.int .i64 x0), .v (.int .i64 x1), .v (.int .i64 x2)]) (.agg [.v (.int .i64 y0), .v (.int .i64 y1), .v (.int .i64 y2)]) = some (.v (.bool (!((x0 == y0) && ((x1 == y1) && (x2 == y2)))))) :=
 (by kernel_rfl : abin Tryz.prog .neq 47 (.agg [.v (.int .i64 x0), .v (.int .i64 x1), .v (.int .i64 x2)]) (.agg [.v (.int .i64 y0), .v (.int .i64 y1), .v (.int .i64 y2)]) = some (.v (.bool (!((x0 == y0) && ((x1 == y1) && ((x2 == y2) && true))))))).trans (by rw [Bool.and_true])
attribute [go_sem] eqs47GA1 nqs47GA1
theorem fa44_0GA1 (xs : List AV) : afieldAddr Tryz.prog 44 (.ptr (xs)) 0 = some (.ptr xs) := by kernel_rfl
attribute [go_sem] fa44_0GA1
theorem fa44_1GA1 (x0 : AV) (xs : List AV) : afieldAddr Tryz.prog 44 (.ptr (x0 :: xs)) 1 = some (.ptr xs) := by kernel_rfl
attribute [go_sem] fa44_1GA1
theorem fa47_0GA1 (xs : List AV) : afieldAddr Tryz.prog 47 (.ptr (xs)) 0 = some (.ptr xs) := by kernel_rfl
attribute [go_sem] fa47_0GA1
theorem fa47_1GA1 (x0 : AV) (xs : List AV) : afieldAddr Tryz.prog 47 (.ptr (x0 :: xs)) 1 = some (.ptr xs) := by kernel_rfl
attribute [go_sem] fa47_1GA1
theorem fa47_2GA1 (x0 : AV) (x1 : AV) (xs : List AV) : afieldAddr Tryz.prog 47 (.ptr (x0 :: x1 :: xs)) 2 = some (.ptr xs) := by kernel_rfl
attribute [go_sem] fa47_2GA1
theorem fo23_0GA1 (i o : Nat) : afieldAddr Tryz.prog 23 (.adr i o) 0 = some (.adr i (o + 0)) := by kernel_rfl
attribute [go_sem] fo23_0GA1
theorem fo23_1GA1 (i o : Nat) : afieldAddr Tryz.prog 23 (.adr i o) 1 = some (.adr i (o + 1)) := by kernel_rfl
attribute [go_sem] fo23_1GA1
theorem fo23_2GA1 (i o : Nat) : afieldAddr Tryz.prog 23 (.adr i o) 2 = some (.adr i (o + 2)) := by kernel_rfl
attribute [go_sem] fo23_2GA1
theorem fo27_0GA1 (i o : Nat) : afieldAddr Tryz.prog 27 (.adr i o) 0 = some (.adr i (o + 0)) := by kernel_rfl
attribute [go_sem] fo27_0GA1
theorem fo27_1GA1 (i o : Nat) : afieldAddr Tryz.prog 27 (.adr i o) 1 = some (.adr i (o + 3)) := by kernel_rfl
attribute [go_sem] fo27_1GA1
theorem fo27_2GA1 (i o : Nat) : afieldAddr Tryz.prog 27 (.adr i o) 2 = some (.adr i (o + 4)) := by kernel_rfl
attribute [go_sem] fo27_2GA1
theorem fo44_0GA1 (i o : Nat) : afieldAddr Tryz.prog 44 (.adr i o) 0 = some (.adr i (o + 0)) := by kernel_rfl
attribute [go_sem] fo44_0GA1
theorem fo44_1GA1 (i o : Nat) : afieldAddr Tryz.prog 44 (.adr i o) 1 = some (.adr i (o + 1)) := by kernel_rfl
attribute [go_sem] fo44_1GA1
theorem fo47_0GA1 (i o : Nat) : afieldAddr Tryz.prog 47 (.adr i o) 0 = some (.adr i (o + 0)) := by kernel_rfl
attribute [go_sem] fo47_0GA1
theorem fo47_1GA1 (i o : Nat) : afieldAddr Tryz.prog 47 (.adr i o) 1 = some (.adr i (o + 1)) := by kernel_rfl
attribute [go_sem] fo47_1GA1
theorem fo47_2GA1 (i o : Nat) : afieldAddr Tryz.prog 47 (.adr i o) 2 = some (.adr i (o + 2)) := by kernel_rfl
attribute [go_sem] fo47_2GA1
theorem ld23GA1 (H : Heap) (x0 x1 x2 : AV) (xs : List AV) : aload Tryz.prog H 23 (.ptr (x0 :: x1 :: x2 :: xs)) = some (.agg [x0, x1, x2]) := by kernel_rfl
attribute [go_sem] ld23GA1
theorem ld24GA1 (H : Heap) (x : AV) (xs : List AV) : aload Tryz.prog H 24 (.ptr (x :: xs)) = some x := by kernel_rfl
attribute [go_sem] ld24GA1
theorem ld25GA1 (H : Heap) (x : AV) (xs : List AV) : aload Tryz.prog H 25 (.ptr (x :: xs)) = some x := by kernel_rfl
attribute [go_sem] ld25GA1
theorem ld27GA1 (H : Heap) (x0 x1 x2 x3 x4 : AV) (xs : List AV) : aload Tryz.prog H 27 (.ptr (x0 :: x1 :: x2 :: x3 :: x4 :: xs)) = some (.agg [x0, x1, x2, x3, x4]) := by kernel_rfl
attribute [go_sem] ld27GA1
theorem ld3GA1 (H : Heap) (x : AV) (xs : List AV) : aload Tryz.prog H 3 (.ptr (x :: xs)) = some x := by kernel_rfl
attribute [go_sem] ld3GA1
theorem ld42GA1 (H : Heap) (x : AV) (xs : List AV) : aload Tryz.prog H 42 (.ptr (x :: xs)) = some x := by kernel_rfl
attribute [go_sem] ld42GA1
theorem ld44GA1 (H : Heap) (x0 x1 : AV) (xs : List AV) : aload Tryz.prog H 44 (.ptr (x0 :: x1 :: xs)) = some (.agg [x0, x1]) := by kernel_rfl
attribute [go_sem] ld44GA1
theorem ld47GA1 (H : Heap) (x0 x1 x2 : AV) (xs : List AV) : aload Tryz.prog H 47 (.ptr (x0 :: x1 :: x2 :: xs)) = some (.agg [x0, x1, x2]) := by kernel_rfl
attribute [go_sem] ld47GA1
theorem cv3_42GA1 (H : Heap) (k : IntKind) (n : Int) : aconv Tryz.prog H 3 42 (.v (.int k n)) = some (.v (.int .u64 (IntKind.u64.wrap n))) := aconv_int Tryz.underlying3 Tryz.underlying42
attribute [go_sem] cv3_42GA1
theorem cv3_107GA1 (H : Heap) (k : IntKind) (n : Int) : aconv Tryz.prog H 3 107 (.v (.int k n)) = some (.v (.int .u64 (IntKind.u64.wrap n))) := aconv_int Tryz.underlying3 Tryz.underlying107
attribute [go_sem] cv3_107GA1
def ref14Small_m (g_0 : GGraph) : Option (Bool) :=
 some (((((decide (g_0.Config.N ≤ 16)) && (decide (g_0.Config.L ≤ 5))) && (decide (g_0.Config.R ≤ 3))) && (decide ((g_0.Edges.length : Int) ≤ 40))) && (decide ((g_0.Hashes.length : Int) ≤ 20)))
theorem ref14Small_c {g_0 : GGraph} {r : Bool} (hm : ref14Small_m g_0 = some r) : PureC Tryz.prog 4 [.agg [.v (.int .i64 g_0.Config.N), .v (.int .i64 g_0.Config.L), .v (.int .i64 g_0.Config.R), .sl (g_0.Hashes.flatMap cGHash) g_0.Hashes.length false, .sl (g_0.Edges.flatMap cGEdge) g_0.Edges.length false]] (.v (.bool r)) := by
 refine PureC.of_body Tryz.func4 rfl ?_
 simp only [Tryz.ntmps4, List.length_cons, List.length_nil, Nat.reduceAdd, Nat.reduceSub, empty_eq]
 unfold ref14Small_m at hm
 refine sr (N' := 64) rfl ?_
 refine hp (id := 0) rfl rfl (aheap_box Z1 Z5) ?_
 refine pA ?_
 refine fs ?_
 refine sr (N' := 128) rfl ?_
 iterate 2 refine pA ?_
 refine pu rfl (ap_ldv Z1 Z3 Z4) ?_
 iterate 4 first | refine pA ?_ | refine pB ?_
 refine pg rfl rfl Z2 (fun hb => (ap_ldv (Zh hb) Z3 Z4)) ?_
 iterate 5 first | refine pA ?_ | refine pB ?_
 refine pg rfl rfl Z2 (fun hb => (ap_ldv (Zh hb) Z3 Z4)) ?_
 iterate 4 first | refine pA ?_ | refine pB ?_
 refine pg rfl rfl Z2 (fun hb => (ap_ldv (Zh hb) Z3 Z4)) ?_
 iterate 5 first | refine pA ?_ | refine pB ?_
 refine pg rfl rfl Z2 (fun hb => (ap_ldv (Zh hb) Z3 Z4)) ?_
 iterate 4 first | refine pA ?_ | refine pB ?_
 refine fs ?_
 refine AWp.ret ?_
 cases hm
 exact ret1D (.inr rfl) Tryz.results4 (td Z1 (.v _))
def ref03Less_m (a_0 : GEdge) (b_1 : GEdge) : Option (Bool) :=
 (bif (a_0.U != b_1.U) then
  some (decide (a_0.U < b_1.U))
 else
  some (decide (a_0.V < b_1.V)))
theorem ref03Less_c {a_0 : GEdge} {b_1 : GEdge} {r : Bool} (hm : ref03Less_m a_0 b_1 = some r) : PureC Tryz.prog 43 [.agg [.v (.int .i64 a_0.U), .v (.int .i64 a_0.V), .v (.int .i64 a_0.Tier)], .agg [.v (.int .i64 b_1.U), .v (.int .i64 b_1.V), .v (.int .i64 b_1.Tier)]] (.v (.bool r)) := by
 refine PureC.of_body Tryz.func43 rfl ?_
 simp only [Tryz.ntmps43, List.length_cons, List.length_nil, Nat.reduceAdd, Nat.reduceSub, empty_eq]
 unfold ref03Less_m at hm
 refine sr (N' := 64) rfl ?_
 refine hp (id := 0) rfl rfl (aheap_box Z1 Z5) ?_
 refine hp (id := 1) rfl rfl (aheap_box Z1 Z5) ?_
 refine pA ?_
 refine fs ?_
 refine AWp.seq' ?_
 refine sr (N' := 128) rfl ?_
 refine pA ?_
 refine pu rfl (ap_ldv Z1 Z3 Z4) ?_
 refine pA ?_
 refine pu rfl (ap_ldv Z1 Z3 Z4) ?_
 refine pA ?_
 refine fs ?_
 refine AWp.condM hm Z1 (fun _ hm => ?_) (fun _ hm => ?_)
 ·
  refine sr (N' := 192) rfl ?_
  refine pA ?_
  refine pu rfl (ap_ldv Z1 Z3 Z4) ?_
  refine pA ?_
  refine pu rfl (ap_ldv Z1 Z3 Z4) ?_
  iterate 2 refine pA ?_
  refine fs ?_
  refine AWp.ret ?_
  refine retSeq ?_
  cases hm
  exact ret1D (.inr rfl) Tryz.results43 (td Z1 (.v _))
 ·
  refine AWp.skip ?_
  refine normSeq ?_
  refine sr (N' := 192) rfl ?_
  refine pA ?_
  refine pu rfl (ap_ldv Z1 Z3 Z4) ?_
  refine pA ?_
  refine pu rfl (ap_ldv Z1 Z3 Z4) ?_
  iterate 2 refine pA ?_
  refine fs ?_
  refine AWp.ret ?_
  cases hm
  exact ret1D (.inr rfl) Tryz.results43 (td Z1 (.v _))
def ref12Right_B1 (rec1 : Int → List GEdge → Int → Option (Bool)) (n_0 : Int) (l_1 : List GEdge) (i_5 : Int) : Option (Bool) :=
 (bif (decide (i_5 < (l_1.length : Int))) then
  ((idx l_1 i_5).bind fun x2 =>
  ((gopt ((decide (x2.U < 0)) == false) (GEdge.mk 0 0 0) (idx l_1 i_5)).bind fun x4 =>
  ((gopt ((decide (x2.U < 0)) == false) (GEdge.mk 0 0 0) (idx l_1 i_5)).bind fun x6 =>
  ((gopt (((decide (x2.U < 0)) || (decide (x6.V ≤ x4.U))) == false) (GEdge.mk 0 0 0) (idx l_1 i_5)).bind fun x8 =>
  ((gopt ((((decide (x2.U < 0)) || (decide (x6.V ≤ x4.U))) || (decide (n_0 ≤ x8.V))) == false) (GEdge.mk 0 0 0) (idx l_1 i_5)).bind fun x10 =>
  ((gopt (((((decide (x2.U < 0)) || (decide (x6.V ≤ x4.U))) || (decide (n_0 ≤ x8.V))) || (decide (x10.Tier < 0))) == false) (GEdge.mk 0 0 0) (idx l_1 i_5)).bind fun x12 =>
  (bif (((((decide (x2.U < 0)) || (decide (x6.V ≤ x4.U))) || (decide (n_0 ≤ x8.V))) || (decide (x10.Tier < 0))) || (decide (16 < x12.Tier))) then
   some false
  else
   ((gopt ((decide (0 < i_5)) == true) (GEdge.mk 0 0 0) (idx l_1 (IntKind.i64.wrap (i_5 - 1)))).bind fun x14 =>
   ((gopt ((decide (0 < i_5)) == true) (GEdge.mk 0 0 0) (idx l_1 i_5)).bind fun x16 =>
   ((gopt ((decide (0 < i_5)) == true) false (ref03Less_m x14 x16)).bind fun r18 =>
   (bif ((decide (0 < i_5)) && (!r18)) then
    some false
   else
    rec1 n_0 l_1 (IntKind.i64.wrap (i_5 + 1)))))))))))))
 else
  some true)
def ref12Right_L1 : Nat → Int → List GEdge → Int → Option (Bool)
 | 0 => fun _ _ _ => none
 | n + 1 => ref12Right_B1 (ref12Right_L1 n)
def ref12Right_m (n_0 : Int) (l_1 : List GEdge) : Option (Bool) :=
 (bif ((decide (n_0 < 0)) || (decide (1024 < n_0))) then
  some false
 else
  ref12Right_L1 FUEL n_0 l_1 0)
theorem ref12Right_c {n_0 : Int} {l_1 : List GEdge} {r : Bool} (hm : ref12Right_m n_0 l_1 = some r) : PureC Tryz.prog 30 [.v (.int .i64 n_0), .sl (l_1.flatMap cGEdge) l_1.length false] (.v (.bool r)) := by
 refine PureC.of_body Tryz.func30 rfl ?_
 simp only [Tryz.ntmps30, List.length_cons, List.length_nil, Nat.reduceAdd, Nat.reduceSub, empty_eq]
 unfold ref12Right_m at hm
 refine sr (N' := 64) rfl ?_
 refine pA ?_
 refine fs ?_
 refine AWp.seq' ?_
 refine sr (N' := 128) rfl ?_
 iterate 6 first | refine pA ?_ | refine pB ?_
 refine fs ?_
 refine AWp.condM hm Z1 (fun _ hm => ?_) (fun _ hm => ?_)
 ·
  refine sr (N' := 192) rfl ?_
  refine pA ?_
  refine fs ?_
  refine AWp.ret ?_
  refine retSeq ?_
  cases hm
  exact ret1D (.inr rfl) Tryz.results30 (td Z1 (.v _))
 ·
  refine AWp.skip ?_
  refine normSeq ?_
  refine AWp.seq' ?_
  refine sr (N' := 192) rfl ?_
  refine pA ?_
  refine fs ?_
  refine AWp.block ?_
  refine AWp.loopM (fun m s => ∃ (n_0 : Int) (l_1 : List GEdge) (i_5 : Int), s = (⟨77, (fset (fset (fset (fun _ => AV.any) 0 (.v (.int .i64 n_0))) 1 (.sl (l_1.flatMap cGEdge) l_1.length false)) 5 (.v (.int .i64 i_5))), ⟨nofresh, 64⟩⟩ : St) ∧ ref12Right_L1 m n_0 l_1 i_5 = some r) FUEL ?_ ?_ ?_
  ·
   rintro s ⟨_, _, _, _, h⟩
   cases h
  ·
   refine ⟨_, ?_, n_0, l_1, 0, rfl, hm⟩
   exact le_canon id (wV (wD (CFGEdge.sl _ _ _) (wV wk_none))) heapWk0
  ·
   rintro n1 s ⟨n_0, l_1, i_5, rfl, hm⟩
   replace hm : ref12Right_B1 (ref12Right_L1 n1) n_0 l_1 i_5 = some r := hm
   unfold ref12Right_B1 at hm
   refine AWp.seq' ?_
   refine sr (N' := 128) rfl ?_
   iterate 4 refine pA ?_
   refine fs ?_
   refine AWp.condM hm Z1 (fun _ hm => ?_) (fun _ hm => ?_)
   ·
    refine AWp.skip ?_
    refine normSeq ?_
    refine AWp.seq' ?_
    refine AWp.block ?_
    refine AWp.seq' ?_
    refine sd mix (by kernel_rfl) (N' := 192) rfl ?_
    iterate 2 refine pA ?_
    obtain ⟨x2, h1, hm⟩ := bnd hm
    refine pu rfl (ap_idx CFGEdge Zd Tryz.underlying25 sz47 Z1 rfl Z1 h1) ?_
    iterate 6 first | refine pA ?_ | refine pB ?_
    obtain ⟨x4, h3, hm⟩ := bnd hm
    refine pg rfl rfl Z2 (fun hb => (ap_idx CFGEdge Zd Tryz.underlying25 sz47 (Zh hb) rfl (Zh hb) (gopt_t h3 hb))) ?_
    iterate 4 refine pB ?_
    obtain ⟨x6, h5, hm⟩ := bnd hm
    refine pg rfl rfl Z2 (fun hb => (ap_idx CFGEdge Zd Tryz.underlying25 sz47 (Zh hb) rfl (Zh hb) (gopt_t h5 hb))) ?_
    iterate 7 first | refine pA ?_ | refine pB ?_
    obtain ⟨x8, h7, hm⟩ := bnd hm
    refine pg rfl rfl Z2 (fun hb => (ap_idx CFGEdge Zd Tryz.underlying25 sz47 (Zh hb) rfl (Zh hb) (gopt_t h7 hb))) ?_
    iterate 8 first | refine pA ?_ | refine pB ?_
    obtain ⟨x10, h9, hm⟩ := bnd hm
    refine pg rfl rfl Z2 (fun hb => (ap_idx CFGEdge Zd Tryz.underlying25 sz47 (Zh hb) rfl (Zh hb) (gopt_t h9 hb))) ?_
    iterate 7 first | refine pA ?_ | refine pB ?_
    obtain ⟨x12, h11, hm⟩ := bnd hm
    refine pg rfl rfl Z2 (fun hb => (ap_idx CFGEdge Zd Tryz.underlying25 sz47 (Zh hb) rfl (Zh hb) (gopt_t h11 hb))) ?_
    iterate 4 first | refine pA ?_ | refine pB ?_
    refine fs ?_
    refine AWp.condM hm Z1 (fun _ hm => ?_) (fun _ hm => ?_)
    ·
     refine sr (N' := 256) rfl ?_
     refine pA ?_
     refine fs ?_
     refine AWp.ret ?_
     refine retSeq ?_
     refine retIn ?_
     refine retSeq ?_
     refine retThen ?_
     refine retIn ?_
     refine retSeq ?_
     cases hm
     exact ret1D (.inr rfl) Tryz.results30 (td Z1 (.v _))
    ·
     refine AWp.skip ?_
     refine normSeq ?_
     refine sd mix (by kernel_rfl) (N' := 256) rfl ?_
     iterate 6 first | refine pA ?_ | refine pB ?_
     obtain ⟨x14, h13, hm⟩ := bnd hm
     refine pg rfl rfl Z2 (fun hb => (ap_idx CFGEdge Zd Tryz.underlying25 sz47 (Zh hb) rfl (Zh hb) (gopt_t h13 hb))) ?_
     iterate 3 refine pB ?_
     obtain ⟨x16, h15, hm⟩ := bnd hm
     refine pg rfl rfl Z2 (fun hb => (ap_idx CFGEdge Zd Tryz.underlying25 sz47 (Zh hb) rfl (Zh hb) (gopt_t h15 hb))) ?_
     refine pB ?_
     obtain ⟨r18, h17, hm⟩ := bnd hm
     refine ARun.callQG (r := .v (.bool r18)) Zd rfl Z2 Z1 fb43 (fun hb H => (.cons (td (Zh hb) (.agg _ (CFGEdge.dat _))) (.cons (td (Zh hb) (.agg _ (CFGEdge.dat _))) .nil))) (fun hb => ref03Less_c (gopt_t h17 hb)) ?_
     iterate 2 first | refine pA ?_ | refine pB ?_
     refine fs ?_
     refine AWp.condM hm Z1 (fun _ hm => ?_) (fun _ hm => ?_)
     ·
      refine sr (N' := 320) rfl ?_
      refine pA ?_
      refine fs ?_
      refine AWp.ret ?_
      refine retIn ?_
      refine retSeq ?_
      refine retThen ?_
      refine retIn ?_
      refine retSeq ?_
      cases hm
      exact ret1D (.inr rfl) Tryz.results30 (td Z1 (.v _))
     ·
      refine AWp.skip ?_
      refine normIn ?_
      refine normSeq ?_
      refine AWp.reg 64 (N' := 320) rfl ?_
      iterate 3 refine pA ?_
      refine ARun.fin ?_
      refine normThen ?_
      refine ⟨_, ?_, n_0, l_1, (IntKind.i64.wrap (i_5 + 1)), rfl, hm⟩
      exact le_canon id (wV (wD (CFGEdge.sl _ _ _) (wV wk_none))) heapWk0
   ·
    refine AWp.exit ?_
    refine exitSeq ?_
    refine exitThen ?_
    refine exitHere ?_
    refine normSeq ?_
    refine sr (N' := 192) rfl ?_
    refine pA ?_
    refine fs ?_
    refine AWp.ret ?_
    cases hm
    exact ret1D (.inr rfl) Tryz.results30 (td Z1 (.v _))
def ref12Forest_J1 (rec1 : List GEdge → Int → List GEdge → Int → Option ((List GEdge))) (l_0 : List GEdge) (tier_1 : Int) (out_5 : List GEdge) (i_6 : Int) : Option ((List GEdge)) :=
 rec1 l_0 tier_1 out_5 (IntKind.i64.wrap (i_6 + 1))
def ref12Forest_B1 (rec1 : List GEdge → Int → List GEdge → Int → Option ((List GEdge))) (l_0 : List GEdge) (tier_1 : Int) (out_5 : List GEdge) (i_6 : Int) : Option ((List GEdge)) :=
 (bif (decide (i_6 < (l_0.length : Int))) then
  ((idx l_0 i_6).bind fun x2 =>
  ((gopt ((decide (0 < x2.Tier)) == true) (GEdge.mk 0 0 0) (idx l_0 i_6)).bind fun x4 =>
  (bif ((decide (0 < x2.Tier)) && (decide (x4.Tier ≤ tier_1))) then
   ((idx l_0 i_6).bind fun x6 =>
   ((app out_5 [x6]).bind fun l8 =>
   ref12Forest_J1 rec1 l_0 tier_1 l8 i_6))
  else
   ref12Forest_J1 rec1 l_0 tier_1 out_5 i_6)))
 else
  some out_5)
def ref12Forest_L1 : Nat → List GEdge → Int → List GEdge → Int → Option ((List GEdge))
 | 0 => fun _ _ _ _ => none
 | n + 1 => ref12Forest_B1 (ref12Forest_L1 n)
def ref12Forest_m (l_0 : List GEdge) (tier_1 : Int) : Option ((List GEdge)) :=
 ref12Forest_L1 FUEL l_0 tier_1 [] 0
theorem ref12Forest_c {l_0 : List GEdge} {tier_1 : Int} {r : (List GEdge)} (hm : ref12Forest_m l_0 tier_1 = some r) : PureC Tryz.prog 31 [.sl (l_0.flatMap cGEdge) l_0.length false, .v (.int .i64 tier_1)] (.sl (r.flatMap cGEdge) r.length false) := by
 refine PureC.of_body Tryz.func31 rfl ?_
 simp only [Tryz.ntmps31, List.length_cons, List.length_nil, Nat.reduceAdd, Nat.reduceSub, empty_eq]
 unfold ref12Forest_m at hm
 refine sr (N' := 64) rfl ?_
 refine pA ?_
 refine fs ?_
 refine sr (N' := 128) rfl ?_
 refine pA ?_
 refine fs ?_
 refine AWp.seq' ?_
 refine sr (N' := 192) rfl ?_
 refine pA ?_
 refine fs ?_
 refine AWp.block ?_
 refine AWp.loopM (fun m s => ∃ (l_0 : List GEdge) (tier_1 : Int) (out_5 : List GEdge) (i_6 : Int), s = (⟨36, (fset (fset (fset (fset (fun _ => AV.any) 0 (.sl (l_0.flatMap cGEdge) l_0.length false)) 1 (.v (.int .i64 tier_1))) 5 (.own 1 0 out_5.length)) 6 (.v (.int .i64 i_6))), ⟨(upd nofresh 1 (.cells 3 (out_5.flatMap cGEdge) 0)), 64⟩⟩ : St) ∧ ref12Forest_L1 m l_0 tier_1 out_5 i_6 = some r) FUEL ?_ ?_ ?_
 ·
  rintro s ⟨_, _, _, _, _, h⟩
  cases h
 ·
  refine ⟨_, ?_, l_0, tier_1, [], 0, rfl, hm⟩
  refine St.Le.trans (le_nil 5 900005 3 Z1 Z5) ?_
  exact le_canon (fun j => bif j == 1 then 900005 else 0) (wV (wO (wV (wD (CFGEdge.sl _ _ _) wk_none)))) (hW (eU CFGEdge entWk_none))
 ·
  rintro n1 s ⟨l_0, tier_1, out_5, i_6, rfl, hm⟩
  replace hm : ref12Forest_B1 (ref12Forest_L1 n1) l_0 tier_1 out_5 i_6 = some r := hm
  unfold ref12Forest_B1 at hm
  refine AWp.seq' ?_
  refine sr (N' := 128) rfl ?_
  iterate 4 refine pA ?_
  refine fs ?_
  refine AWp.condM hm Z1 (fun _ hm => ?_) (fun _ hm => ?_)
  ·
   refine AWp.skip ?_
   refine normSeq ?_
   refine AWp.seqJ (fun s => ∃ (l_0 : List GEdge) (tier_1 : Int) (out_5 : List GEdge) (i_6 : Int), s = (⟨36, (fset (fset (fset (fset (fun _ => AV.any) 0 (.sl (l_0.flatMap cGEdge) l_0.length false)) 1 (.v (.int .i64 tier_1))) 5 (.own 1 0 out_5.length)) 6 (.v (.int .i64 i_6))), ⟨(upd nofresh 1 (.cells 3 (out_5.flatMap cGEdge) 0)), 64⟩⟩ : St) ∧ ref12Forest_J1 (ref12Forest_L1 n1) l_0 tier_1 out_5 i_6 = some r) ?_ ?_
   ·
    refine AWp.block ?_
    refine sr (N' := 192) rfl ?_
    iterate 2 refine pA ?_
    obtain ⟨x2, h1, hm⟩ := bnd hm
    refine pu rfl (ap_idx CFGEdge Zd Tryz.underlying25 sz47 Z1 rfl Z1 h1) ?_
    iterate 6 first | refine pA ?_ | refine pB ?_
    obtain ⟨x4, h3, hm⟩ := bnd hm
    refine pg rfl rfl Z2 (fun hb => (ap_idx CFGEdge Zd Tryz.underlying25 sz47 (Zh hb) rfl (Zh hb) (gopt_t h3 hb))) ?_
    iterate 5 first | refine pA ?_ | refine pB ?_
    refine fs ?_
    refine AWp.condM hm Z1 (fun _ hm => ?_) (fun _ hm => ?_)
    ·
     refine AWp.reg 64 (N' := 256) rfl ?_
     iterate 3 refine pA ?_
     obtain ⟨x6, h5, hm⟩ := bnd hm
     refine pu rfl (ap_idx CFGEdge Zd Tryz.underlying25 sz47 Z1 rfl Z1 h5) ?_
     refine pA ?_
     refine hp (id := 197) rfl rfl (ah_list CFGEdge (l := [x6]) Tryz.underlying25 sz47 zc47 Z5 Zd Zd Zd (by simp only [go_sem, Nat.reduceBEq]; try rfl) (by kernel_rfl)) ?_
     obtain ⟨l8, h7, hm⟩ := bnd hm
     refine hp (id := 198) rfl rfl (ah_app CFGEdge Tryz.underlying25 Tryz.underlying25 rfl in47 ts47 (by rw [tb47]; decide) (by rw [tb47]; decide) tz47 Zd Zd Z1 Z3 Z6 (as_own CFGEdge Z1 Z3 Z6) rfl Z5 h7) ?_
     refine pA ?_
     refine ARun.fin ?_
     refine normIn ?_
     refine normJ ?_
     refine ⟨_, ?_, l_0, tier_1, l8, i_6, rfl, hm⟩
     exact le_canon (fun j => bif j == 1 then 198 else 0) (wV (wO (wV (wD (CFGEdge.sl _ _ _) wk_none)))) (hW (eU CFGEdge entWk_none))
    ·
     refine AWp.skip ?_
     refine normIn ?_
     refine normJ ?_
     refine ⟨_, ?_, l_0, tier_1, out_5, i_6, rfl, hm⟩
     exact le_canon (fun j => bif j == 1 then 1 else 0) (wV (wO (wV (wD (CFGEdge.sl _ _ _) wk_none)))) (hW (eU CFGEdge entWk_none))
   ·
    rintro s ⟨l_0, tier_1, out_5, i_6, rfl, hm⟩
    unfold ref12Forest_J1 at hm
    refine AWp.reg 64 (N' := 128) rfl ?_
    iterate 3 refine pA ?_
    refine ARun.fin ?_
    refine normThen ?_
    refine ⟨_, ?_, l_0, tier_1, out_5, (IntKind.i64.wrap (i_6 + 1)), rfl, hm⟩
    exact le_canon (fun j => bif j == 1 then 1 else 0) (wV (wO (wV (wD (CFGEdge.sl _ _ _) wk_none)))) (hW (eU CFGEdge entWk_none))
  ·
   refine AWp.exit ?_
   refine exitSeq ?_
   refine exitThen ?_
   refine exitHere ?_
   refine normSeq ?_
   refine sr (N' := 192) rfl ?_
   iterate 2 refine pA ?_
   refine fs ?_
   refine AWp.ret ?_
   cases hm
   exact ret1D (.inr rfl) Tryz.results31 (tdo CFGEdge Z1 Z3 Z6)
def ref09Of_J1 (rec2 : List GEdge → List Int → Bool → Option ((List Int))) (rec3 : List GEdge → List Int → Bool → Int → Option ((List Int))) (l_1 : List GEdge) (p_5 : List Int) (again_7 : Bool) (i_8 : Int) : Option ((List Int)) :=
 rec3 l_1 p_5 again_7 (IntKind.i64.wrap (i_8 + 1))
def ref09Of_J2 (rec2 : List GEdge → List Int → Bool → Option ((List Int))) (rec3 : List GEdge → List Int → Bool → Int → Option ((List Int))) (l_1 : List GEdge) (p_5 : List Int) (again_7 : Bool) (i_8 : Int) (a_9 : Int) (b_10 : Int) : Option ((List Int)) :=
 (bif (decide (b_10 < a_9)) then
  ((idx l_1 i_8).bind fun x12 =>
  ((idx p_5 x12.U).bind fun x14 =>
  ((stt p_5 x12.U b_10).bind fun l16 =>
  ref09Of_J1 rec2 rec3 l_1 l16 true i_8)))
 else
  ref09Of_J1 rec2 rec3 l_1 p_5 again_7 i_8)
def ref09Of_B3 (rec2 : List GEdge → List Int → Bool → Option ((List Int))) (rec3 : List GEdge → List Int → Bool → Int → Option ((List Int))) (l_1 : List GEdge) (p_5 : List Int) (again_7 : Bool) (i_8 : Int) : Option ((List Int)) :=
 (bif (decide (i_8 < (l_1.length : Int))) then
  ((idx l_1 i_8).bind fun x4 =>
  ((idx p_5 x4.U).bind fun x6 =>
  ((idx l_1 i_8).bind fun x8 =>
  ((idx p_5 x8.V).bind fun x10 =>
  (bif (decide (x6 < x10)) then
   ((idx l_1 i_8).bind fun x18 =>
   ((idx p_5 x18.V).bind fun x20 =>
   ((stt p_5 x18.V x6).bind fun l22 =>
   ref09Of_J2 rec2 rec3 l_1 l22 true i_8 x6 x10)))
  else
   ref09Of_J2 rec2 rec3 l_1 p_5 again_7 i_8 x6 x10)))))
 else
  rec2 l_1 p_5 again_7)
def ref09Of_L3 (rec2 : List GEdge → List Int → Bool → Option ((List Int))) : Nat → List GEdge → List Int → Bool → Int → Option ((List Int))
 | 0 => fun _ _ _ _ => none
 | n + 1 => ref09Of_B3 rec2 (ref09Of_L3 rec2 n)
def ref09Of_B2 (rec2 : List GEdge → List Int → Bool → Option ((List Int))) (l_1 : List GEdge) (p_5 : List Int) (again_7 : Bool) : Option ((List Int)) :=
 (bif again_7 then
  ref09Of_L3 rec2 FUEL l_1 p_5 false 0
 else
  some p_5)
def ref09Of_L2 : Nat → List GEdge → List Int → Bool → Option ((List Int))
 | 0 => fun _ _ _ => none
 | n + 1 => ref09Of_B2 (ref09Of_L2 n)
def ref09Of_B1 (rec1 : Int → List GEdge → List Int → Int → Option ((List Int))) (n_0 : Int) (l_1 : List GEdge) (p_5 : List Int) (i_6 : Int) : Option ((List Int)) :=
 (bif (decide (i_6 < n_0)) then
  ((app p_5 [i_6]).bind fun l2 =>
  rec1 n_0 l_1 l2 (IntKind.i64.wrap (i_6 + 1)))
 else
  ref09Of_L2 FUEL l_1 p_5 true)
def ref09Of_L1 : Nat → Int → List GEdge → List Int → Int → Option ((List Int))
 | 0 => fun _ _ _ _ => none
 | n + 1 => ref09Of_B1 (ref09Of_L1 n)
def ref09Of_m (n_0 : Int) (l_1 : List GEdge) : Option ((List Int)) :=
 ref09Of_L1 FUEL n_0 l_1 [] 0
theorem ref09Of_c {n_0 : Int} {l_1 : List GEdge} {r : (List Int)} (hm : ref09Of_m n_0 l_1 = some r) : PureC Tryz.prog 33 [.v (.int .i64 n_0), .sl (l_1.flatMap cGEdge) l_1.length false] (.sl (r.flatMap (ci .i64)) r.length false) := by
 refine PureC.of_body Tryz.func33 rfl ?_
 simp only [Tryz.ntmps33, List.length_cons, List.length_nil, Nat.reduceAdd, Nat.reduceSub, empty_eq]
 unfold ref09Of_m at hm
 refine sr (N' := 64) rfl ?_
 refine pA ?_
 refine fs ?_
 refine sr (N' := 128) rfl ?_
 refine pA ?_
 refine fs ?_
 refine AWp.seq' ?_
 refine sr (N' := 192) rfl ?_
 refine pA ?_
 refine fs ?_
 refine AWp.block ?_
 refine AWp.loopM (fun m s => ∃ (n_0 : Int) (l_1 : List GEdge) (p_5 : List Int) (i_6 : Int), s = (⟨66, (fset (fset (fset (fset (fun _ => AV.any) 0 (.v (.int .i64 n_0))) 1 (.sl (l_1.flatMap cGEdge) l_1.length false)) 5 (.own 1 0 p_5.length)) 6 (.v (.int .i64 i_6))), ⟨(upd nofresh 1 (.cells 1 (p_5.flatMap (ci .i64)) 0)), 64⟩⟩ : St) ∧ ref09Of_L1 m n_0 l_1 p_5 i_6 = some r) FUEL ?_ ?_ ?_
 ·
  rintro s ⟨_, _, _, _, _, h⟩
  cases h
 ·
  refine ⟨_, ?_, n_0, l_1, [], 0, rfl, hm⟩
  refine St.Le.trans (le_nil 5 900005 1 Z1 Z5) ?_
  exact le_canon (fun j => bif j == 1 then 900005 else 0) (wV (wO (wD (CFGEdge.sl _ _ _) (wV wk_none)))) (hW (eU (CFi .i64) entWk_none))
 ·
  rintro n1 s ⟨n_0, l_1, p_5, i_6, rfl, hm⟩
  replace hm : ref09Of_B1 (ref09Of_L1 n1) n_0 l_1 p_5 i_6 = some r := hm
  unfold ref09Of_B1 at hm
  refine AWp.seq' ?_
  refine sr (N' := 128) rfl ?_
  iterate 3 refine pA ?_
  refine fs ?_
  refine AWp.condM hm Z1 (fun _ hm => ?_) (fun _ hm => ?_)
  ·
   refine AWp.skip ?_
   refine normSeq ?_
   refine AWp.seq' ?_
   refine AWp.block ?_
   refine AWp.reg 64 (N' := 192) rfl ?_
   iterate 2 refine pA ?_
   refine hp (id := 130) rfl rfl (ah_list (CFi .i64) (l := [i_6]) Tryz.underlying36 sz3 zc3 Z5 Zd Zd Zd (by simp only [go_sem, Nat.reduceBEq]; try rfl) (by kernel_rfl)) ?_
   obtain ⟨l2, h1, hm⟩ := bnd hm
   refine hp (id := 131) rfl rfl (ah_app (CFi .i64) Tryz.underlying36 Tryz.underlying36 rfl in3 ts3 (by rw [tb3]; decide) (by rw [tb3]; decide) tz3 Zd Zd Z1 Z3 Z6 (as_own (CFi .i64) Z1 Z3 Z6) rfl Z5 h1) ?_
   refine pA ?_
   refine ARun.fin ?_
   refine normIn ?_
   refine normSeq ?_
   refine AWp.reg 64 (N' := 256) rfl ?_
   iterate 3 refine pA ?_
   refine ARun.fin ?_
   refine normThen ?_
   refine ⟨_, ?_, n_0, l_1, l2, (IntKind.i64.wrap (i_6 + 1)), rfl, hm⟩
   exact le_canon (fun j => bif j == 1 then 131 else 0) (wV (wO (wD (CFGEdge.sl _ _ _) (wV wk_none)))) (hW (eU (CFi .i64) entWk_none))
  ·
   refine AWp.exit ?_
   refine exitSeq ?_
   refine exitThen ?_
   refine exitHere ?_
   refine normSeq ?_
   refine AWp.seq' ?_
   refine sr (N' := 192) rfl ?_
   refine pA ?_
   refine fs ?_
   refine AWp.block ?_
   refine AWp.loopM (fun m s => ∃ (l_1 : List GEdge) (p_5 : List Int) (again_7 : Bool), s = (⟨66, (fset (fset (fset (fun _ => AV.any) 1 (.sl (l_1.flatMap cGEdge) l_1.length false)) 5 (.own 1 0 p_5.length)) 7 (.v (.bool again_7))), ⟨(upd nofresh 1 (.cells 1 (p_5.flatMap (ci .i64)) 0)), 64⟩⟩ : St) ∧ ref09Of_L2 m l_1 p_5 again_7 = some r) FUEL ?_ ?_ ?_
   ·
    rintro s ⟨_, _, _, _, h⟩
    cases h
   ·
    refine ⟨_, ?_, l_1, p_5, true, rfl, hm⟩
    exact le_canon (fun j => bif j == 1 then 1 else 0) (wV (wO (wD (CFGEdge.sl _ _ _) wk_none))) (hW (eU (CFi .i64) entWk_none))
   ·
    rintro n2 s ⟨l_1, p_5, again_7, rfl, hm⟩
    replace hm : ref09Of_B2 (ref09Of_L2 n2) l_1 p_5 again_7 = some r := hm
    unfold ref09Of_B2 at hm
    refine AWp.seq' ?_
    refine sr (N' := 128) rfl ?_
    refine pA ?_
    refine fs ?_
    refine AWp.condM hm Z1 (fun _ hm => ?_) (fun _ hm => ?_)
    ·
     refine AWp.skip ?_
     refine normSeq ?_
     refine AWp.block ?_
     refine sr (N' := 192) rfl ?_
     refine pA ?_
     refine fs ?_
     refine sr (N' := 256) rfl ?_
     refine pA ?_
     refine fs ?_
     refine AWp.block ?_
     refine AWp.loopM (fun m s => ∃ (l_1 : List GEdge) (p_5 : List Int) (again_7 : Bool) (i_8 : Int), s = (⟨66, (fset (fset (fset (fset (fun _ => AV.any) 1 (.sl (l_1.flatMap cGEdge) l_1.length false)) 5 (.own 1 0 p_5.length)) 7 (.v (.bool again_7))) 8 (.v (.int .i64 i_8))), ⟨(upd nofresh 1 (.cells 1 (p_5.flatMap (ci .i64)) 0)), 64⟩⟩ : St) ∧ ref09Of_L3 (ref09Of_L2 n2) m l_1 p_5 again_7 i_8 = some r) FUEL ?_ ?_ ?_
     ·
      rintro s ⟨_, _, _, _, _, h⟩
      cases h
     ·
      refine ⟨_, ?_, l_1, p_5, false, 0, rfl, hm⟩
      exact le_canon (fun j => bif j == 1 then 1 else 0) (wV (wV (wO (wD (CFGEdge.sl _ _ _) wk_none)))) (hW (eU (CFi .i64) entWk_none))
     ·
      rintro n3 s ⟨l_1, p_5, again_7, i_8, rfl, hm⟩
      replace hm : ref09Of_B3 (ref09Of_L2 n2) (ref09Of_L3 (ref09Of_L2 n2) n3) l_1 p_5 again_7 i_8 = some r := hm
      unfold ref09Of_B3 at hm
      refine AWp.seq' ?_
      refine sr (N' := 128) rfl ?_
      iterate 4 refine pA ?_
      refine fs ?_
      refine AWp.condM hm Z1 (fun _ hm => ?_) (fun _ hm => ?_)
      ·
       refine AWp.skip ?_
       refine normSeq ?_
       refine AWp.seqJ (fun s => ∃ (l_1 : List GEdge) (p_5 : List Int) (again_7 : Bool) (i_8 : Int), s = (⟨66, (fset (fset (fset (fset (fun _ => AV.any) 1 (.sl (l_1.flatMap cGEdge) l_1.length false)) 5 (.own 1 0 p_5.length)) 7 (.v (.bool again_7))) 8 (.v (.int .i64 i_8))), ⟨(upd nofresh 1 (.cells 1 (p_5.flatMap (ci .i64)) 0)), 64⟩⟩ : St) ∧ ref09Of_J1 (ref09Of_L2 n2) (ref09Of_L3 (ref09Of_L2 n2) n3) l_1 p_5 again_7 i_8 = some r) ?_ ?_
       ·
        refine AWp.block ?_
        refine sd mix (by kernel_rfl) (N' := 192) rfl ?_
        iterate 3 refine pA ?_
        obtain ⟨x4, h3, hm⟩ := bnd hm
        refine pu rfl (ap_idx CFGEdge Zd Tryz.underlying25 sz47 Z1 rfl Z1 h3) ?_
        iterate 2 refine pA ?_
        obtain ⟨x6, h5, hm⟩ := bnd hm
        refine pu rfl (ap_idxo Tryz.underlying36 sz3 Z1 Z3 Z6 Z1 h5) ?_
        refine pu rfl (ap_ldo (CFi .i64) Z1 Z3 h5 (fun _ => by simp only [go_sem, Nat.reduceBEq]; try with_reducible rfl)) ?_
        iterate 3 refine pA ?_
        obtain ⟨x8, h7, hm⟩ := bnd hm
        refine pu rfl (ap_idx CFGEdge Zd Tryz.underlying25 sz47 Z1 rfl Z1 h7) ?_
        iterate 2 refine pA ?_
        obtain ⟨x10, h9, hm⟩ := bnd hm
        refine pu rfl (ap_idxo Tryz.underlying36 sz3 Z1 Z3 Z6 Z1 h9) ?_
        refine pu rfl (ap_ldo (CFi .i64) Z1 Z3 h9 (fun _ => by simp only [go_sem, Nat.reduceBEq]; try with_reducible rfl)) ?_
        iterate 2 refine pA ?_
        refine fs ?_
        refine AWp.seqJ (fun s => ∃ (l_1 : List GEdge) (p_5 : List Int) (again_7 : Bool) (i_8 : Int) (a_9 : Int) (b_10 : Int), s = (⟨66, (fset (fset (fset (fset (fset (fset (fun _ => AV.any) 1 (.sl (l_1.flatMap cGEdge) l_1.length false)) 5 (.own 1 0 p_5.length)) 7 (.v (.bool again_7))) 8 (.v (.int .i64 i_8))) 9 (.v (.int .i64 a_9))) 10 (.v (.int .i64 b_10))), ⟨(upd nofresh 1 (.cells 1 (p_5.flatMap (ci .i64)) 0)), 64⟩⟩ : St) ∧ ref09Of_J2 (ref09Of_L2 n2) (ref09Of_L3 (ref09Of_L2 n2) n3) l_1 p_5 again_7 i_8 a_9 b_10 = some r) ?_ ?_
        ·
         refine sr (N' := 256) rfl ?_
         iterate 3 refine pA ?_
         refine fs ?_
         refine AWp.condM hm Z1 (fun _ hm => ?_) (fun _ hm => ?_)
         ·
          refine sr (N' := 320) rfl ?_
          iterate 3 refine pA ?_
          obtain ⟨x18, h17, hm⟩ := bnd hm
          refine pu rfl (ap_idx CFGEdge Zd Tryz.underlying25 sz47 Z1 rfl Z1 h17) ?_
          iterate 3 refine pA ?_
          obtain ⟨x20, h19, hm⟩ := bnd hm
          refine pu rfl (ap_idxo Tryz.underlying36 sz3 Z1 Z3 Z6 Z1 h19) ?_
          obtain ⟨l22, h21, hm⟩ := bnd hm
          have qh21 := stt_len h21
          refine ARun.heap0 (id := 264) rfl (ah_stt (CFi .i64) sz3 Z1 Z1 Z3 rfl h21) ?_
          refine fs ?_
          refine AWp.reg 64 (N' := 384) rfl ?_
          refine pA ?_
          refine ARun.fin ?_
          refine normJ ?_
          refine ⟨_, ?_, l_1, l22, true, i_8, x6, x10, rfl, hm⟩
          exact le_canon (fun j => bif j == 1 then 1 else 0) (wV (wV (wV (wV (wO (wD (CFGEdge.sl _ _ _) wk_none)))))) (hW (eU (CFi .i64) entWk_none))
         ·
          refine AWp.skip ?_
          refine normJ ?_
          refine ⟨_, ?_, l_1, p_5, again_7, i_8, x6, x10, rfl, hm⟩
          exact le_canon (fun j => bif j == 1 then 1 else 0) (wV (wV (wV (wV (wO (wD (CFGEdge.sl _ _ _) wk_none)))))) (hW (eU (CFi .i64) entWk_none))
        ·
         rintro s ⟨l_1, p_5, again_7, i_8, a_9, b_10, rfl, hm⟩
         unfold ref09Of_J2 at hm
         refine sr (N' := 128) rfl ?_
         iterate 3 refine pA ?_
         refine fs ?_
         refine AWp.condM hm Z1 (fun _ hm => ?_) (fun _ hm => ?_)
         ·
          refine sr (N' := 192) rfl ?_
          iterate 3 refine pA ?_
          obtain ⟨x12, h11, hm⟩ := bnd hm
          refine pu rfl (ap_idx CFGEdge Zd Tryz.underlying25 sz47 Z1 rfl Z1 h11) ?_
          iterate 3 refine pA ?_
          obtain ⟨x14, h13, hm⟩ := bnd hm
          refine pu rfl (ap_idxo Tryz.underlying36 sz3 Z1 Z3 Z6 Z1 h13) ?_
          obtain ⟨l16, h15, hm⟩ := bnd hm
          have qh15 := stt_len h15
          refine ARun.heap0 (id := 136) rfl (ah_stt (CFi .i64) sz3 Z1 Z1 Z3 rfl h15) ?_
          refine fs ?_
          refine AWp.reg 64 (N' := 256) rfl ?_
          refine pA ?_
          refine ARun.fin ?_
          refine normIn ?_
          refine normJ ?_
          refine ⟨_, ?_, l_1, l16, true, i_8, rfl, hm⟩
          exact le_canon (fun j => bif j == 1 then 1 else 0) (wV (wV (wO (wD (CFGEdge.sl _ _ _) wk_none)))) (hW (eU (CFi .i64) entWk_none))
         ·
          refine AWp.skip ?_
          refine normIn ?_
          refine normJ ?_
          refine ⟨_, ?_, l_1, p_5, again_7, i_8, rfl, hm⟩
          exact le_canon (fun j => bif j == 1 then 1 else 0) (wV (wV (wO (wD (CFGEdge.sl _ _ _) wk_none)))) (hW (eU (CFi .i64) entWk_none))
       ·
        rintro s ⟨l_1, p_5, again_7, i_8, rfl, hm⟩
        unfold ref09Of_J1 at hm
        refine AWp.reg 64 (N' := 128) rfl ?_
        iterate 3 refine pA ?_
        refine ARun.fin ?_
        refine normThen ?_
        refine ⟨_, ?_, l_1, p_5, again_7, (IntKind.i64.wrap (i_8 + 1)), rfl, hm⟩
        exact le_canon (fun j => bif j == 1 then 1 else 0) (wV (wV (wO (wD (CFGEdge.sl _ _ _) wk_none)))) (hW (eU (CFi .i64) entWk_none))
      ·
       refine AWp.exit ?_
       refine exitSeq ?_
       refine exitThen ?_
       refine exitHere ?_
       refine normIn ?_
       refine normThen ?_
       refine ⟨_, ?_, l_1, p_5, again_7, rfl, hm⟩
       exact le_canon (fun j => bif j == 1 then 1 else 0) (wV (wO (wD (CFGEdge.sl _ _ _) wk_none))) (hW (eU (CFi .i64) entWk_none))
    ·
     refine AWp.exit ?_
     refine exitSeq ?_
     refine exitThen ?_
     refine exitHere ?_
     refine normSeq ?_
     refine sr (N' := 192) rfl ?_
     iterate 2 refine pA ?_
     refine fs ?_
     refine AWp.ret ?_
     cases hm
     exact ret1D (.inr rfl) Tryz.results33 (tdo (CFi .i64) Z1 Z3 Z6)
def ref10Spanning_J1 (rec1 : Int → List GEdge → List GEdge → Int → Option ((List GEdge))) (n_0 : Int) (l_1 : List GEdge) (out_5 : List GEdge) (i_6 : Int) : Option ((List GEdge)) :=
 rec1 n_0 l_1 out_5 (IntKind.i64.wrap (i_6 + 1))
def ref10Spanning_B1 (rec1 : Int → List GEdge → List GEdge → Int → Option ((List GEdge))) (n_0 : Int) (l_1 : List GEdge) (out_5 : List GEdge) (i_6 : Int) : Option ((List GEdge)) :=
 (bif (decide (i_6 < (l_1.length : Int))) then
  ((slc l_1 0 i_6).bind fun l2 =>
  ((ref09Of_m n_0 l2).bind fun r4 =>
  ((idx l_1 i_6).bind fun x6 =>
  ((idx r4 x6.U).bind fun x8 =>
  ((idx l_1 i_6).bind fun x10 =>
  ((idx r4 x10.V).bind fun x12 =>
  (bif (x8 != x12) then
   ((idx l_1 i_6).bind fun x14 =>
   ((app out_5 [x14]).bind fun l16 =>
   ref10Spanning_J1 rec1 n_0 l_1 l16 i_6))
  else
   ref10Spanning_J1 rec1 n_0 l_1 out_5 i_6)))))))
 else
  some out_5)
def ref10Spanning_L1 : Nat → Int → List GEdge → List GEdge → Int → Option ((List GEdge))
 | 0 => fun _ _ _ _ => none
 | n + 1 => ref10Spanning_B1 (ref10Spanning_L1 n)
def ref10Spanning_m (n_0 : Int) (l_1 : List GEdge) : Option ((List GEdge)) :=
 ref10Spanning_L1 FUEL n_0 l_1 [] 0
theorem ref10Spanning_c {n_0 : Int} {l_1 : List GEdge} {r : (List GEdge)} (hm : ref10Spanning_m n_0 l_1 = some r) : PureC Tryz.prog 32 [.v (.int .i64 n_0), .sl (l_1.flatMap cGEdge) l_1.length false] (.sl (r.flatMap cGEdge) r.length false) := by
 refine PureC.of_body Tryz.func32 rfl ?_
 simp only [Tryz.ntmps32, List.length_cons, List.length_nil, Nat.reduceAdd, Nat.reduceSub, empty_eq]
 unfold ref10Spanning_m at hm
 refine sr (N' := 64) rfl ?_
 refine pA ?_
 refine fs ?_
 refine sr (N' := 128) rfl ?_
 refine pA ?_
 refine fs ?_
 refine AWp.seq' ?_
 refine sr (N' := 192) rfl ?_
 refine pA ?_
 refine fs ?_
 refine AWp.block ?_
 refine AWp.loopM (fun m s => ∃ (n_0 : Int) (l_1 : List GEdge) (out_5 : List GEdge) (i_6 : Int), s = (⟨44, (fset (fset (fset (fset (fun _ => AV.any) 0 (.v (.int .i64 n_0))) 1 (.sl (l_1.flatMap cGEdge) l_1.length false)) 5 (.own 1 0 out_5.length)) 6 (.v (.int .i64 i_6))), ⟨(upd nofresh 1 (.cells 3 (out_5.flatMap cGEdge) 0)), 64⟩⟩ : St) ∧ ref10Spanning_L1 m n_0 l_1 out_5 i_6 = some r) FUEL ?_ ?_ ?_
 ·
  rintro s ⟨_, _, _, _, _, h⟩
  cases h
 ·
  refine ⟨_, ?_, n_0, l_1, [], 0, rfl, hm⟩
  refine St.Le.trans (le_nil 5 900005 3 Z1 Z5) ?_
  exact le_canon (fun j => bif j == 1 then 900005 else 0) (wV (wO (wD (CFGEdge.sl _ _ _) (wV wk_none)))) (hW (eU CFGEdge entWk_none))
 ·
  rintro n1 s ⟨n_0, l_1, out_5, i_6, rfl, hm⟩
  replace hm : ref10Spanning_B1 (ref10Spanning_L1 n1) n_0 l_1 out_5 i_6 = some r := hm
  unfold ref10Spanning_B1 at hm
  refine AWp.seq' ?_
  refine sr (N' := 128) rfl ?_
  iterate 4 refine pA ?_
  refine fs ?_
  refine AWp.condM hm Z1 (fun _ hm => ?_) (fun _ hm => ?_)
  ·
   refine AWp.skip ?_
   refine normSeq ?_
   refine AWp.seqJ (fun s => ∃ (n_0 : Int) (l_1 : List GEdge) (out_5 : List GEdge) (i_6 : Int), s = (⟨44, (fset (fset (fset (fset (fun _ => AV.any) 0 (.v (.int .i64 n_0))) 1 (.sl (l_1.flatMap cGEdge) l_1.length false)) 5 (.own 1 0 out_5.length)) 6 (.v (.int .i64 i_6))), ⟨(upd nofresh 1 (.cells 3 (out_5.flatMap cGEdge) 0)), 64⟩⟩ : St) ∧ ref10Spanning_J1 (ref10Spanning_L1 n1) n_0 l_1 out_5 i_6 = some r) ?_ ?_
   ·
    refine AWp.block ?_
    refine sr (N' := 192) rfl ?_
    iterate 3 refine pA ?_
    obtain ⟨l2, h1, hm⟩ := bnd hm
    refine pu rfl (ap_slc CFGEdge Tryz.underlying25 sz47 Z1 rfl ab_none0 (ab_some Z1 (slc_0 h1).2) h1) ?_
    obtain ⟨r4, h3, hm⟩ := bnd hm
    refine ARun.callQ (r := .sl (r4.flatMap (ci .i64)) r4.length false) Zd Z1 fb33 (fun H => (cV (.cons (tdf Z1 (CFGEdge.sl _ _ _)) .nil))) (ref09Of_c h3) ?_
    refine pA ?_
    refine fs ?_
    refine sd mix (by kernel_rfl) (N' := 256) rfl ?_
    iterate 3 refine pA ?_
    obtain ⟨x6, h5, hm⟩ := bnd hm
    refine pu rfl (ap_idx CFGEdge Zd Tryz.underlying25 sz47 Z1 rfl Z1 h5) ?_
    iterate 2 refine pA ?_
    obtain ⟨x8, h7, hm⟩ := bnd hm
    refine pu rfl (ap_idx (CFi .i64) Zd Tryz.underlying36 sz3 Z1 rfl Z1 h7) ?_
    iterate 4 refine pA ?_
    obtain ⟨x10, h9, hm⟩ := bnd hm
    refine pu rfl (ap_idx CFGEdge Zd Tryz.underlying25 sz47 Z1 rfl Z1 h9) ?_
    iterate 2 refine pA ?_
    obtain ⟨x12, h11, hm⟩ := bnd hm
    refine pu rfl (ap_idx (CFi .i64) Zd Tryz.underlying36 sz3 Z1 rfl Z1 h11) ?_
    iterate 2 refine pA ?_
    refine fs ?_
    refine AWp.condM hm Z1 (fun _ hm => ?_) (fun _ hm => ?_)
    ·
     refine AWp.reg 64 (N' := 320) rfl ?_
     iterate 3 refine pA ?_
     obtain ⟨x14, h13, hm⟩ := bnd hm
     refine pu rfl (ap_idx CFGEdge Zd Tryz.underlying25 sz47 Z1 rfl Z1 h13) ?_
     refine pA ?_
     refine hp (id := 261) rfl rfl (ah_list CFGEdge (l := [x14]) Tryz.underlying25 sz47 zc47 Z5 Zd Zd Zd (by simp only [go_sem, Nat.reduceBEq]; try rfl) (by kernel_rfl)) ?_
     obtain ⟨l16, h15, hm⟩ := bnd hm
     refine hp (id := 262) rfl rfl (ah_app CFGEdge Tryz.underlying25 Tryz.underlying25 rfl in47 ts47 (by rw [tb47]; decide) (by rw [tb47]; decide) tz47 Zd Zd Z1 Z3 Z6 (as_own CFGEdge Z1 Z3 Z6) rfl Z5 h15) ?_
     refine pA ?_
     refine ARun.fin ?_
     refine normIn ?_
     refine normJ ?_
     refine ⟨_, ?_, n_0, l_1, l16, i_6, rfl, hm⟩
     exact le_canon (fun j => bif j == 1 then 262 else 0) (wV (wO (wD (CFGEdge.sl _ _ _) (wV wk_none)))) (hW (eU CFGEdge entWk_none))
    ·
     refine AWp.skip ?_
     refine normIn ?_
     refine normJ ?_
     refine ⟨_, ?_, n_0, l_1, out_5, i_6, rfl, hm⟩
     exact le_canon (fun j => bif j == 1 then 1 else 0) (wV (wO (wD (CFGEdge.sl _ _ _) (wV wk_none)))) (hW (eU CFGEdge entWk_none))
   ·
    rintro s ⟨n_0, l_1, out_5, i_6, rfl, hm⟩
    unfold ref10Spanning_J1 at hm
    refine AWp.reg 64 (N' := 128) rfl ?_
    iterate 3 refine pA ?_
    refine ARun.fin ?_
    refine normThen ?_
    refine ⟨_, ?_, n_0, l_1, out_5, (IntKind.i64.wrap (i_6 + 1)), rfl, hm⟩
    exact le_canon (fun j => bif j == 1 then 1 else 0) (wV (wO (wD (CFGEdge.sl _ _ _) (wV wk_none)))) (hW (eU CFGEdge entWk_none))
  ·
   refine AWp.exit ?_
   refine exitSeq ?_
   refine exitThen ?_
   refine exitHere ?_
   refine normSeq ?_
   refine sr (N' := 192) rfl ?_
   iterate 2 refine pA ?_
   refine fs ?_
   refine AWp.ret ?_
   cases hm
   exact ret1D (.inr rfl) Tryz.results32 (tdo CFGEdge Z1 Z3 Z6)
def ref14Right_B2 (rec2 : GGraph → GConfig → Int → Option (Bool)) (g_1 : GGraph) (c_3 : GConfig) (i_6 : Int) : Option (Bool) :=
 (bif (decide (i_6 < (g_1.Edges.length : Int))) then
  ((idx g_1.Edges i_6).bind fun x8 =>
  (bif (decide (c_3.L < x8.Tier)) then
   some false
  else
   rec2 g_1 c_3 (IntKind.i64.wrap (i_6 + 1))))
 else
  ((ref12Forest_m g_1.Edges c_3.L).bind fun r10 =>
  ((ref10Spanning_m c_3.N r10).bind fun r12 =>
  some ((r12.length : Int) == (r10.length : Int)))))
def ref14Right_L2 : Nat → GGraph → GConfig → Int → Option (Bool)
 | 0 => fun _ _ _ => none
 | n + 1 => ref14Right_B2 (ref14Right_L2 n)
def ref14Right_B1 (rec1 : GGraph → GConfig → Int → Option (Bool)) (g_1 : GGraph) (c_3 : GConfig) (i_4 : Int) : Option (Bool) :=
 (bif (decide (i_4 < (g_1.Hashes.length : Int))) then
  ((idx g_1.Hashes i_4).bind fun x2 =>
  ((gopt ((decide (2305843009213693951 ≤ x2.A)) == false) (GHash.mk 0 0) (idx g_1.Hashes i_4)).bind fun x4 =>
  (bif ((decide (2305843009213693951 ≤ x2.A)) || (decide (2305843009213693951 ≤ x4.B))) then
   some false
  else
   rec1 g_1 c_3 (IntKind.i64.wrap (i_4 + 1)))))
 else
  ((ref12Right_m c_3.N g_1.Edges).bind fun r6 =>
  (bif (!r6) then
   some false
  else
   ref14Right_L2 FUEL g_1 c_3 0)))
def ref14Right_L1 : Nat → GGraph → GConfig → Int → Option (Bool)
 | 0 => fun _ _ _ => none
 | n + 1 => ref14Right_B1 (ref14Right_L1 n)
def ref14Right_m (g_0 : GGraph) : Option (Bool) :=
 (bif (((((((decide (g_0.Config.N < 1)) || (decide (1024 < g_0.Config.N))) || (decide (g_0.Config.L < 1))) || (decide (16 < g_0.Config.L))) || (decide (g_0.Config.R < 1))) || (decide (8 < g_0.Config.R))) || ((g_0.Hashes.length : Int) != (IntKind.i64.wrap (g_0.Config.L * g_0.Config.R)))) then
  some false
 else
  ref14Right_L1 FUEL g_0 g_0.Config 0)
theorem ref14Right_c {g_0 : GGraph} {r : Bool} (hm : ref14Right_m g_0 = some r) : PureC Tryz.prog 13 [.agg [.v (.int .i64 g_0.Config.N), .v (.int .i64 g_0.Config.L), .v (.int .i64 g_0.Config.R), .sl (g_0.Hashes.flatMap cGHash) g_0.Hashes.length false, .sl (g_0.Edges.flatMap cGEdge) g_0.Edges.length false]] (.v (.bool r)) := by
 refine PureC.of_body Tryz.func13 rfl ?_
 simp only [Tryz.ntmps13, List.length_cons, List.length_nil, Nat.reduceAdd, Nat.reduceSub, empty_eq]
 unfold ref14Right_m at hm
 refine sr (N' := 64) rfl ?_
 refine hp (id := 0) rfl rfl (aheap_box Z1 Z5) ?_
 refine pA ?_
 refine fs ?_
 refine sr (N' := 128) rfl ?_
 refine pA ?_
 refine pu rfl (ap_ldv Z1 Z3 Z4) ?_
 refine hp (id := 66) rfl rfl (aheap_alloc' zc23 Z5) ?_
 refine ARun.heap0 (id := 67) rfl (ah_var (ys := [.v (.int .i64 g_0.Config.N), .v (.int .i64 g_0.Config.L), .v (.int .i64 g_0.Config.R)]) sz23 Z1 Z1 Z3 rfl (Nat.le_of_ble_eq_true rfl) Z9 rfl) ?_
 refine fs ?_
 refine AWp.seq' ?_
 refine sr (N' := 192) rfl ?_
 refine pA ?_
 refine pu rfl (ap_ldv Z1 Z3 Z4) ?_
 iterate 3 first | refine pA ?_ | refine pB ?_
 refine pg rfl rfl Z2 (fun hb => (ap_ldv (Zh hb) Z3 Z4)) ?_
 iterate 4 first | refine pA ?_ | refine pB ?_
 refine pg rfl rfl Z2 (fun hb => (ap_ldv (Zh hb) Z3 Z4)) ?_
 iterate 4 first | refine pA ?_ | refine pB ?_
 refine pg rfl rfl Z2 (fun hb => (ap_ldv (Zh hb) Z3 Z4)) ?_
 iterate 4 first | refine pA ?_ | refine pB ?_
 refine pg rfl rfl Z2 (fun hb => (ap_ldv (Zh hb) Z3 Z4)) ?_
 iterate 4 first | refine pA ?_ | refine pB ?_
 refine pg rfl rfl Z2 (fun hb => (ap_ldv (Zh hb) Z3 Z4)) ?_
 iterate 4 first | refine pA ?_ | refine pB ?_
 refine pg rfl rfl Z2 (fun hb => (ap_ldv (Zh hb) Z3 Z4)) ?_
 iterate 2 refine pB ?_
 refine pg rfl rfl Z2 (fun hb => (ap_ldv (Zh hb) Z3 Z4)) ?_
 refine pB ?_
 refine pg rfl rfl Z2 (fun hb => (ap_ldv (Zh hb) Z3 Z4)) ?_
 iterate 3 first | refine pA ?_ | refine pB ?_
 refine fs ?_
 refine AWp.condM hm Z1 (fun _ hm => ?_) (fun _ hm => ?_)
 ·
  refine sr (N' := 256) rfl ?_
  refine pA ?_
  refine fs ?_
  refine AWp.ret ?_
  refine retSeq ?_
  cases hm
  exact ret1D (.inr rfl) Tryz.results13 (td Z1 (.v _))
 ·
  refine AWp.skip ?_
  refine normSeq ?_
  refine AWp.seq' ?_
  refine sr (N' := 256) rfl ?_
  refine pA ?_
  refine fs ?_
  refine AWp.block ?_
  refine AWp.loopM (fun m s => ∃ (g_1 : GGraph) (c_3 : GConfig) (i_4 : Int), s = (⟨108, (fset (fset (fset (fun _ => AV.any) 1 (.adr 1 0)) 3 (.adr 2 0)) 4 (.v (.int .i64 i_4))), ⟨(upd (upd nofresh 1 (.cells 1 [.v (.int .i64 g_1.Config.N), .v (.int .i64 g_1.Config.L), .v (.int .i64 g_1.Config.R), .sl (g_1.Hashes.flatMap cGHash) g_1.Hashes.length false, .sl (g_1.Edges.flatMap cGEdge) g_1.Edges.length false] 0)) 2 (.cells 1 [.v (.int .i64 c_3.N), .v (.int .i64 c_3.L), .v (.int .i64 c_3.R)] 0)), 64⟩⟩ : St) ∧ ref14Right_L1 m g_1 c_3 i_4 = some r) FUEL ?_ ?_ ?_
  ·
   rintro s ⟨_, _, _, _, h⟩
   cases h
  ·
   refine ⟨_, ?_, g_0, g_0.Config, 0, rfl, hm⟩
   exact le_canon (fun j => bif j == 1 then 0 else bif j == 2 then 66 else 0) (wV (wk_fset _ _ (wk_adr Z1 rfl Z7) (wk_fset _ _ (wk_adr Z1 rfl Z7) wk_none))) (hW (entWk_upd (entWk_data Z3 (Nat.le_refl _) (Nat.zero_le _) (CFGConfig.dat g_0.Config)) (entWk_upd (entWk_data Z3 (Nat.le_refl _) (Nat.zero_le _) (CFGGraph.dat g_0)) entWk_none)))
  ·
   rintro n1 s ⟨g_1, c_3, i_4, rfl, hm⟩
   replace hm : ref14Right_B1 (ref14Right_L1 n1) g_1 c_3 i_4 = some r := hm
   unfold ref14Right_B1 at hm
   refine AWp.seq' ?_
   refine sr (N' := 128) rfl ?_
   iterate 2 refine pA ?_
   refine pu rfl (ap_ldv Z1 Z3 Z4) ?_
   iterate 2 refine pA ?_
   refine fs ?_
   refine AWp.condM hm Z1 (fun _ hm => ?_) (fun _ hm => ?_)
   ·
    refine AWp.skip ?_
    refine normSeq ?_
    refine AWp.seq' ?_
    refine AWp.block ?_
    refine sr (N' := 192) rfl ?_
    refine pA ?_
    refine pu rfl (ap_ldv Z1 Z3 Z4) ?_
    refine pA ?_
    obtain ⟨x2, h1, hm⟩ := bnd hm
    refine pu rfl (ap_idx CFGHash Zd Tryz.underlying24 sz44 Z1 rfl Z1 h1) ?_
    iterate 5 first | refine pA ?_ | refine pB ?_
    refine pg rfl rfl Z2 (fun hb => (ap_ldv (Zh hb) Z3 Z4)) ?_
    refine pB ?_
    obtain ⟨x4, h3, hm⟩ := bnd hm
    refine pg rfl rfl Z2 (fun hb => (ap_idx CFGHash Zd Tryz.underlying24 sz44 (Zh hb) rfl (Zh hb) (gopt_t h3 hb))) ?_
    iterate 4 first | refine pA ?_ | refine pB ?_
    refine fs ?_
    refine AWp.condM hm Z1 (fun _ hm => ?_) (fun _ hm => ?_)
    ·
     refine sr (N' := 256) rfl ?_
     refine pA ?_
     refine fs ?_
     refine AWp.ret ?_
     refine retIn ?_
     refine retSeq ?_
     refine retThen ?_
     refine retIn ?_
     refine retSeq ?_
     cases hm
     exact ret1D (.inr rfl) Tryz.results13 (td Z1 (.v _))
    ·
     refine AWp.skip ?_
     refine normIn ?_
     refine normSeq ?_
     refine AWp.reg 64 (N' := 256) rfl ?_
     iterate 3 refine pA ?_
     refine ARun.fin ?_
     refine normThen ?_
     refine ⟨_, ?_, g_1, c_3, (IntKind.i64.wrap (i_4 + 1)), rfl, hm⟩
     exact le_canon (fun j => bif j == 1 then 1 else bif j == 2 then 2 else 0) (wV (wk_fset _ _ (wk_adr Z1 rfl Z7) (wk_fset _ _ (wk_adr Z1 rfl Z7) wk_none))) (hW (entWk_upd (entWk_data Z3 (Nat.le_refl _) (Nat.zero_le _) (CFGConfig.dat c_3)) (entWk_upd (entWk_data Z3 (Nat.le_refl _) (Nat.zero_le _) (CFGGraph.dat g_1)) entWk_none)))
   ·
    refine AWp.exit ?_
    refine exitSeq ?_
    refine exitThen ?_
    refine exitHere ?_
    refine normSeq ?_
    refine sr (N' := 192) rfl ?_
    refine pA ?_
    refine pu rfl (ap_ldv Z1 Z3 Z4) ?_
    refine pA ?_
    refine pu rfl (ap_ldv Z1 Z3 Z4) ?_
    obtain ⟨r6, h5, hm⟩ := bnd hm
    refine ARun.callQ (r := .v (.bool r6)) Zd Z1 fb30 (fun H => (cV (cD (CFGEdge.sl _ _ _) .nil))) (ref12Right_c h5) ?_
    refine pA ?_
    refine fs ?_
    refine AWp.seq' ?_
    refine sr (N' := 256) rfl ?_
    iterate 2 refine pA ?_
    refine fs ?_
    refine AWp.condM hm Z1 (fun _ hm => ?_) (fun _ hm => ?_)
    ·
     refine sr (N' := 320) rfl ?_
     refine pA ?_
     refine fs ?_
     refine AWp.ret ?_
     refine retSeq ?_
     cases hm
     exact ret1D (.inr rfl) Tryz.results13 (td Z1 (.v _))
    ·
     refine AWp.skip ?_
     refine normSeq ?_
     refine AWp.seq' ?_
     refine sr (N' := 320) rfl ?_
     refine pA ?_
     refine fs ?_
     refine AWp.block ?_
     refine AWp.loopM (fun m s => ∃ (g_1 : GGraph) (c_3 : GConfig) (i_6 : Int), s = (⟨108, (fset (fset (fset (fun _ => AV.any) 1 (.adr 1 0)) 3 (.adr 2 0)) 6 (.v (.int .i64 i_6))), ⟨(upd (upd nofresh 1 (.cells 1 [.v (.int .i64 g_1.Config.N), .v (.int .i64 g_1.Config.L), .v (.int .i64 g_1.Config.R), .sl (g_1.Hashes.flatMap cGHash) g_1.Hashes.length false, .sl (g_1.Edges.flatMap cGEdge) g_1.Edges.length false] 0)) 2 (.cells 1 [.v (.int .i64 c_3.N), .v (.int .i64 c_3.L), .v (.int .i64 c_3.R)] 0)), 64⟩⟩ : St) ∧ ref14Right_L2 m g_1 c_3 i_6 = some r) FUEL ?_ ?_ ?_
     ·
      rintro s ⟨_, _, _, _, h⟩
      cases h
     ·
      refine ⟨_, ?_, g_1, c_3, 0, rfl, hm⟩
      exact le_canon (fun j => bif j == 1 then 1 else bif j == 2 then 2 else 0) (wV (wk_fset _ _ (wk_adr Z1 rfl Z7) (wk_fset _ _ (wk_adr Z1 rfl Z7) wk_none))) (hW (entWk_upd (entWk_data Z3 (Nat.le_refl _) (Nat.zero_le _) (CFGConfig.dat c_3)) (entWk_upd (entWk_data Z3 (Nat.le_refl _) (Nat.zero_le _) (CFGGraph.dat g_1)) entWk_none)))
     ·
      rintro n2 s ⟨g_1, c_3, i_6, rfl, hm⟩
      replace hm : ref14Right_B2 (ref14Right_L2 n2) g_1 c_3 i_6 = some r := hm
      unfold ref14Right_B2 at hm
      refine AWp.seq' ?_
      refine sr (N' := 128) rfl ?_
      iterate 2 refine pA ?_
      refine pu rfl (ap_ldv Z1 Z3 Z4) ?_
      iterate 2 refine pA ?_
      refine fs ?_
      refine AWp.condM hm Z1 (fun _ hm => ?_) (fun _ hm => ?_)
      ·
       refine AWp.skip ?_
       refine normSeq ?_
       refine AWp.seq' ?_
       refine AWp.block ?_
       refine sd mix (by kernel_rfl) (N' := 192) rfl ?_
       refine pA ?_
       refine pu rfl (ap_ldv Z1 Z3 Z4) ?_
       refine pA ?_
       obtain ⟨x8, h7, hm⟩ := bnd hm
       refine pu rfl (ap_idx CFGEdge Zd Tryz.underlying25 sz47 Z1 rfl Z1 h7) ?_
       iterate 3 refine pA ?_
       refine pu rfl (ap_ldv Z1 Z3 Z4) ?_
       refine pA ?_
       refine fs ?_
       refine AWp.condM hm Z1 (fun _ hm => ?_) (fun _ hm => ?_)
       ·
        refine sr (N' := 256) rfl ?_
        refine pA ?_
        refine fs ?_
        refine AWp.ret ?_
        refine retIn ?_
        refine retSeq ?_
        refine retThen ?_
        refine retIn ?_
        refine retSeq ?_
        cases hm
        exact ret1D (.inr rfl) Tryz.results13 (td Z1 (.v _))
       ·
        refine AWp.skip ?_
        refine normIn ?_
        refine normSeq ?_
        refine AWp.reg 64 (N' := 256) rfl ?_
        iterate 3 refine pA ?_
        refine ARun.fin ?_
        refine normThen ?_
        refine ⟨_, ?_, g_1, c_3, (IntKind.i64.wrap (i_6 + 1)), rfl, hm⟩
        exact le_canon (fun j => bif j == 1 then 1 else bif j == 2 then 2 else 0) (wV (wk_fset _ _ (wk_adr Z1 rfl Z7) (wk_fset _ _ (wk_adr Z1 rfl Z7) wk_none))) (hW (entWk_upd (entWk_data Z3 (Nat.le_refl _) (Nat.zero_le _) (CFGConfig.dat c_3)) (entWk_upd (entWk_data Z3 (Nat.le_refl _) (Nat.zero_le _) (CFGGraph.dat g_1)) entWk_none)))
      ·
       refine AWp.exit ?_
       refine exitSeq ?_
       refine exitThen ?_
       refine exitHere ?_
       refine normSeq ?_
       refine sr (N' := 192) rfl ?_
       refine pA ?_
       refine pu rfl (ap_ldv Z1 Z3 Z4) ?_
       refine pA ?_
       refine pu rfl (ap_ldv Z1 Z3 Z4) ?_
       obtain ⟨r10, h9, hm⟩ := bnd hm
       refine ARun.callQ (r := .sl (r10.flatMap cGEdge) r10.length false) Zd Z1 fb31 (fun H => (cD (CFGEdge.sl _ _ _) (cV .nil))) (ref12Forest_c h9) ?_
       refine pA ?_
       refine fs ?_
       refine sr (N' := 256) rfl ?_
       refine pA ?_
       refine pu rfl (ap_ldv Z1 Z3 Z4) ?_
       refine pA ?_
       obtain ⟨r12, h11, hm⟩ := bnd hm
       refine ARun.callQ (r := .sl (r12.flatMap cGEdge) r12.length false) Zd Z1 fb32 (fun H => (cV (cD (CFGEdge.sl _ _ _) .nil))) (ref10Spanning_c h11) ?_
       iterate 5 refine pA ?_
       refine fs ?_
       refine AWp.ret ?_
       cases hm
       exact ret1D (.inr rfl) Tryz.results13 (td Z1 (.v _))
def ref15In_m (g_0 : GGraph) (u_1 : Int) (v_2 : Int) : Option (Bool) :=
 some ((((decide (0 ≤ u_1)) && (decide (0 ≤ v_2))) && (decide (u_1 < g_0.Config.N))) && (decide (v_2 < g_0.Config.N)))
theorem ref15In_c {g_0 : GGraph} {u_1 : Int} {v_2 : Int} {r : Bool} (hm : ref15In_m g_0 u_1 v_2 = some r) : PureC Tryz.prog 21 [.agg [.v (.int .i64 g_0.Config.N), .v (.int .i64 g_0.Config.L), .v (.int .i64 g_0.Config.R), .sl (g_0.Hashes.flatMap cGHash) g_0.Hashes.length false, .sl (g_0.Edges.flatMap cGEdge) g_0.Edges.length false], .v (.int .i64 u_1), .v (.int .i64 v_2)] (.v (.bool r)) := by
 refine PureC.of_body Tryz.func21 rfl ?_
 simp only [Tryz.ntmps21, List.length_cons, List.length_nil, Nat.reduceAdd, Nat.reduceSub, empty_eq]
 unfold ref15In_m at hm
 refine sr (N' := 64) rfl ?_
 refine hp (id := 0) rfl rfl (aheap_box Z1 Z5) ?_
 refine pA ?_
 refine fs ?_
 refine sr (N' := 128) rfl ?_
 iterate 10 first | refine pA ?_ | refine pB ?_
 refine pg rfl rfl Z2 (fun hb => (ap_ldv (Zh hb) Z3 Z4)) ?_
 iterate 6 first | refine pA ?_ | refine pB ?_
 refine pg rfl rfl Z2 (fun hb => (ap_ldv (Zh hb) Z3 Z4)) ?_
 iterate 3 first | refine pA ?_ | refine pB ?_
 refine fs ?_
 refine AWp.ret ?_
 cases hm
 exact ret1D (.inr rfl) Tryz.results21 (td Z1 (.v _))
def ref12In_m (n_0 : Int) (v_1 : Int) : Option (Bool) :=
 some ((decide (0 ≤ v_1)) && (decide (v_1 < n_0)))
theorem ref12In_c {n_0 : Int} {v_1 : Int} {r : Bool} (hm : ref12In_m n_0 v_1 = some r) : PureC Tryz.prog 41 [.v (.int .i64 n_0), .v (.int .i64 v_1)] (.v (.bool r)) := by
 refine PureC.of_body Tryz.func41 rfl ?_
 simp only [Tryz.ntmps41, List.length_cons, List.length_nil, Nat.reduceAdd, Nat.reduceSub, empty_eq]
 unfold ref12In_m at hm
 refine sr (N' := 64) rfl ?_
 refine pA ?_
 refine fs ?_
 refine sr (N' := 128) rfl ?_
 iterate 8 first | refine pA ?_ | refine pB ?_
 refine fs ?_
 refine AWp.ret ?_
 cases hm
 exact ret1D (.inr rfl) Tryz.results41 (td Z1 (.v _))
def ref12Find_B1 (rec1 : List GEdge → Int → Int → Int → Option (Int)) (l_0 : List GEdge) (u_1 : Int) (v_2 : Int) (i_7 : Int) : Option (Int) :=
 (bif (decide (i_7 < (l_0.length : Int))) then
  ((idx l_0 i_7).bind fun x2 =>
  ((gopt ((x2.U == u_1) == true) (GEdge.mk 0 0 0) (idx l_0 i_7)).bind fun x4 =>
  ((gopt (((x2.U == u_1) && (x4.V == v_2)) == false) (GEdge.mk 0 0 0) (idx l_0 i_7)).bind fun x6 =>
  ((gopt ((((x2.U == u_1) && (x4.V == v_2)) == false) && ((x6.U == v_2) == true)) (GEdge.mk 0 0 0) (idx l_0 i_7)).bind fun x8 =>
  (bif (((x2.U == u_1) && (x4.V == v_2)) || ((x6.U == v_2) && (x8.V == u_1))) then
   some i_7
  else
   rec1 l_0 u_1 v_2 (IntKind.i64.wrap (i_7 + 1)))))))
 else
  some (-1))
def ref12Find_L1 : Nat → List GEdge → Int → Int → Int → Option (Int)
 | 0 => fun _ _ _ _ => none
 | n + 1 => ref12Find_B1 (ref12Find_L1 n)
def ref12Find_m (l_0 : List GEdge) (u_1 : Int) (v_2 : Int) : Option (Int) :=
 ref12Find_L1 FUEL l_0 u_1 v_2 0
theorem ref12Find_c {l_0 : List GEdge} {u_1 : Int} {v_2 : Int} {r : Int} (hm : ref12Find_m l_0 u_1 v_2 = some r) : PureC Tryz.prog 42 [.sl (l_0.flatMap cGEdge) l_0.length false, .v (.int .i64 u_1), .v (.int .i64 v_2)] (.v (.int .i64 r)) := by
 refine PureC.of_body Tryz.func42 rfl ?_
 simp only [Tryz.ntmps42, List.length_cons, List.length_nil, Nat.reduceAdd, Nat.reduceSub, empty_eq]
 unfold ref12Find_m at hm
 refine sr (N' := 64) rfl ?_
 refine pA ?_
 refine fs ?_
 refine AWp.seq' ?_
 refine sr (N' := 128) rfl ?_
 refine pA ?_
 refine fs ?_
 refine AWp.block ?_
 refine AWp.loopM (fun m s => ∃ (l_0 : List GEdge) (u_1 : Int) (v_2 : Int) (i_7 : Int), s = (⟨49, (fset (fset (fset (fset (fun _ => AV.any) 0 (.sl (l_0.flatMap cGEdge) l_0.length false)) 1 (.v (.int .i64 u_1))) 2 (.v (.int .i64 v_2))) 7 (.v (.int .i64 i_7))), ⟨nofresh, 64⟩⟩ : St) ∧ ref12Find_L1 m l_0 u_1 v_2 i_7 = some r) FUEL ?_ ?_ ?_
 ·
  rintro s ⟨_, _, _, _, _, h⟩
  cases h
 ·
  refine ⟨_, ?_, l_0, u_1, v_2, 0, rfl, hm⟩
  exact le_canon id (wV (wV (wV (wD (CFGEdge.sl _ _ _) wk_none)))) heapWk0
 ·
  rintro n1 s ⟨l_0, u_1, v_2, i_7, rfl, hm⟩
  replace hm : ref12Find_B1 (ref12Find_L1 n1) l_0 u_1 v_2 i_7 = some r := hm
  unfold ref12Find_B1 at hm
  refine AWp.seq' ?_
  refine sr (N' := 128) rfl ?_
  iterate 4 refine pA ?_
  refine fs ?_
  refine AWp.condM hm Z1 (fun _ hm => ?_) (fun _ hm => ?_)
  ·
   refine AWp.skip ?_
   refine normSeq ?_
   refine AWp.seq' ?_
   refine AWp.block ?_
   refine sr (N' := 192) rfl ?_
   iterate 2 refine pA ?_
   obtain ⟨x2, h1, hm⟩ := bnd hm
   refine pu rfl (ap_idx CFGEdge Zd Tryz.underlying25 sz47 Z1 rfl Z1 h1) ?_
   iterate 7 first | refine pA ?_ | refine pB ?_
   obtain ⟨x4, h3, hm⟩ := bnd hm
   refine pg rfl rfl Z2 (fun hb => (ap_idx CFGEdge Zd Tryz.underlying25 sz47 (Zh hb) rfl (Zh hb) (gopt_t h3 hb))) ?_
   iterate 8 first | refine pA ?_ | refine pB ?_
   obtain ⟨x6, h5, hm⟩ := bnd hm
   refine pg rfl rfl Z2 (fun hb => (ap_idx CFGEdge Zd Tryz.underlying25 sz47 (Zh hb) rfl (Zh hb) (gopt_t h5 hb))) ?_
   iterate 7 refine pB ?_
   obtain ⟨x8, h7, hm⟩ := bnd hm
   refine pg rfl rfl Z2 (fun hb => (ap_idx CFGEdge Zd Tryz.underlying25 sz47 (Zh hb) rfl (Zh hb) (gopt_t h7 hb))) ?_
   iterate 6 first | refine pA ?_ | refine pB ?_
   refine fs ?_
   refine AWp.condM hm Z1 (fun _ hm => ?_) (fun _ hm => ?_)
   ·
    refine sr (N' := 256) rfl ?_
    iterate 2 refine pA ?_
    refine fs ?_
    refine AWp.ret ?_
    refine retIn ?_
    refine retSeq ?_
    refine retThen ?_
    refine retIn ?_
    refine retSeq ?_
    cases hm
    exact ret1D (.inr rfl) Tryz.results42 (td Z1 (.v _))
   ·
    refine AWp.skip ?_
    refine normIn ?_
    refine normSeq ?_
    refine AWp.reg 64 (N' := 256) rfl ?_
    iterate 3 refine pA ?_
    refine ARun.fin ?_
    refine normThen ?_
    refine ⟨_, ?_, l_0, u_1, v_2, (IntKind.i64.wrap (i_7 + 1)), rfl, hm⟩
    exact le_canon id (wV (wV (wV (wD (CFGEdge.sl _ _ _) wk_none)))) heapWk0
  ·
   refine AWp.exit ?_
   refine exitSeq ?_
   refine exitThen ?_
   refine exitHere ?_
   refine normSeq ?_
   refine sr (N' := 192) rfl ?_
   refine pA ?_
   refine fs ?_
   refine AWp.ret ?_
   cases hm
   exact ret1D (.inr rfl) Tryz.results42 (td Z1 (.v _))
def ref12Add_B1 (rec1 : List GEdge → GEdge → List GEdge → Int → Option ((List GEdge) × Int)) (l_1 : List GEdge) (x_11 : GEdge) (out_12 : List GEdge) (i_13 : Int) : Option ((List GEdge) × Int) :=
 ((gopt ((decide (i_13 < (l_1.length : Int))) == true) (GEdge.mk 0 0 0) (idx l_1 i_13)).bind fun x10 =>
 ((gopt ((decide (i_13 < (l_1.length : Int))) == true) false (ref03Less_m x10 x_11)).bind fun r12 =>
 (bif ((decide (i_13 < (l_1.length : Int))) && r12) then
  ((idx l_1 i_13).bind fun x14 =>
  ((app out_12 [x14]).bind fun l16 =>
  rec1 l_1 x_11 l16 (IntKind.i64.wrap (i_13 + 1))))
 else
  ((app out_12 [x_11]).bind fun l18 =>
  ((slc l_1 i_13 (l_1.length : Int)).bind fun l20 =>
  ((app l18 l20).bind fun l22 =>
  some (l22, 0)))))))
def ref12Add_L1 : Nat → List GEdge → GEdge → List GEdge → Int → Option ((List GEdge) × Int)
 | 0 => fun _ _ _ _ => none
 | n + 1 => ref12Add_B1 (ref12Add_L1 n)
def ref12Add_J1 (l_1 : List GEdge) (u_2 : Int) (v_3 : Int) : Option ((List GEdge) × Int) :=
 ref12Add_L1 FUEL l_1 (GEdge.mk u_2 v_3 0) [] 0
def ref12Add_m (n_0 : Int) (l_1 : List GEdge) (u_2 : Int) (v_3 : Int) : Option ((List GEdge) × Int) :=
 ((ref12Right_m n_0 l_1).bind fun r2 =>
 ((gopt ((!r2) == false) false (ref12In_m n_0 u_2)).bind fun r4 =>
 ((gopt (((!r2) || (!r4)) == false) false (ref12In_m n_0 v_3)).bind fun r6 =>
 (bif (((!r2) || (!r4)) || (!r6)) then
  some (l_1, 1)
 else
  (bif (u_2 == v_3) then
   some (l_1, 8)
  else
   ((ref12Find_m l_1 u_2 v_3).bind fun r8 =>
   (bif (decide (0 ≤ r8)) then
    some (l_1, 4)
   else
    (bif (decide (v_3 < u_2)) then
     ref12Add_J1 l_1 v_3 u_2
    else
     ref12Add_J1 l_1 u_2 v_3))))))))
theorem ref12Add_c {n_0 : Int} {l_1 : List GEdge} {u_2 : Int} {v_3 : Int} {r : (List GEdge) × Int} (hm : ref12Add_m n_0 l_1 u_2 v_3 = some r) : PureC Tryz.prog 22 [.v (.int .i64 n_0), .sl (l_1.flatMap cGEdge) l_1.length false, .v (.int .i64 u_2), .v (.int .i64 v_3)] (.tup [.sl (r.1.flatMap cGEdge) r.1.length false, .v (.int .i64 r.2)]) := by
 refine PureC.of_body Tryz.func22 rfl ?_
 simp only [Tryz.ntmps22, List.length_cons, List.length_nil, Nat.reduceAdd, Nat.reduceSub, empty_eq]
 unfold ref12Add_m at hm
 refine sr (N' := 64) rfl ?_
 iterate 2 refine pA ?_
 refine fs ?_
 refine sr (N' := 128) rfl ?_
 iterate 2 refine pA ?_
 obtain ⟨r2, h1, hm⟩ := bnd hm
 refine ARun.callQ (r := .v (.bool r2)) Zd Z1 fb30 (fun H => (cV (cD (CFGEdge.sl _ _ _) .nil))) (ref12Right_c h1) ?_
 refine pA ?_
 refine fs ?_
 refine AWp.seq' ?_
 refine sr (N' := 192) rfl ?_
 iterate 5 first | refine pA ?_ | refine pB ?_
 obtain ⟨r4, h3, hm⟩ := bnd hm
 refine ARun.callQG (r := .v (.bool r4)) Zd rfl Z2 Z1 fb41 (fun hb H => (.cons (td (Zh hb) (.v _)) (.cons (td (Zh hb) (.v _)) .nil))) (fun hb => ref12In_c (gopt_t h3 hb)) ?_
 iterate 5 first | refine pA ?_ | refine pB ?_
 obtain ⟨r6, h5, hm⟩ := bnd hm
 refine ARun.callQG (r := .v (.bool r6)) Zd rfl Z2 Z1 fb41 (fun hb H => (.cons (td (Zh hb) (.v _)) (.cons (td (Zh hb) (.v _)) .nil))) (fun hb => ref12In_c (gopt_t h5 hb)) ?_
 iterate 2 first | refine pA ?_ | refine pB ?_
 refine fs ?_
 refine AWp.condM hm Z1 (fun _ hm => ?_) (fun _ hm => ?_)
 ·
  refine sr (N' := 256) rfl ?_
  iterate 3 refine pA ?_
  refine fs ?_
  refine AWp.ret ?_
  refine retSeq ?_
  cases hm
  exact ret2D (.inr rfl) Tryz.results22 (td Z1 (CFGEdge.sl _ _ _)) (td Z1 (.v _))
 ·
  refine AWp.skip ?_
  refine normSeq ?_
  refine AWp.seq' ?_
  refine sr (N' := 256) rfl ?_
  iterate 3 refine pA ?_
  refine fs ?_
  refine AWp.condM hm Z1 (fun _ hm => ?_) (fun _ hm => ?_)
  ·
   refine sr (N' := 320) rfl ?_
   iterate 3 refine pA ?_
   refine fs ?_
   refine AWp.ret ?_
   refine retSeq ?_
   cases hm
   exact ret2D (.inr rfl) Tryz.results22 (td Z1 (CFGEdge.sl _ _ _)) (td Z1 (.v _))
  ·
   refine AWp.skip ?_
   refine normSeq ?_
   refine AWp.seq' ?_
   refine sr (N' := 320) rfl ?_
   iterate 3 refine pA ?_
   obtain ⟨r8, h7, hm⟩ := bnd hm
   refine ARun.callQ (r := .v (.int .i64 r8)) Zd Z1 fb42 (fun H => (cD (CFGEdge.sl _ _ _) (cV (cV .nil)))) (ref12Find_c h7) ?_
   refine pA ?_
   refine fs ?_
   refine AWp.condM hm Z1 (fun _ hm => ?_) (fun _ hm => ?_)
   ·
    refine sr (N' := 384) rfl ?_
    iterate 3 refine pA ?_
    refine fs ?_
    refine AWp.ret ?_
    refine retSeq ?_
    cases hm
    exact ret2D (.inr rfl) Tryz.results22 (td Z1 (CFGEdge.sl _ _ _)) (td Z1 (.v _))
   ·
    refine AWp.skip ?_
    refine normSeq ?_
    refine AWp.seqJ (fun s => ∃ (l_1 : List GEdge) (u_2 : Int) (v_3 : Int), s = (⟨80, (fset (fset (fset (fun _ => AV.any) 1 (.sl (l_1.flatMap cGEdge) l_1.length false)) 2 (.v (.int .i64 u_2))) 3 (.v (.int .i64 v_3))), ⟨nofresh, 64⟩⟩ : St) ∧ ref12Add_J1 l_1 u_2 v_3 = some r) ?_ ?_
    ·
     refine sr (N' := 384) rfl ?_
     iterate 3 refine pA ?_
     refine fs ?_
     refine AWp.condM hm Z1 (fun _ hm => ?_) (fun _ hm => ?_)
     ·
      refine AWp.reg 64 (N' := 448) rfl ?_
      iterate 4 refine pA ?_
      refine ARun.fin ?_
      refine normJ ?_
      refine ⟨_, ?_, l_1, v_3, u_2, rfl, hm⟩
      exact le_canon id (wV (wV (wD (CFGEdge.sl _ _ _) wk_none))) heapWk0
     ·
      refine AWp.skip ?_
      refine normJ ?_
      refine ⟨_, ?_, l_1, u_2, v_3, rfl, hm⟩
      exact le_canon id (wV (wV (wD (CFGEdge.sl _ _ _) wk_none))) heapWk0
    ·
     rintro s ⟨l_1, u_2, v_3, rfl, hm⟩
     unfold ref12Add_J1 at hm
     refine sr (N' := 128) rfl ?_
     iterate 2 refine pA ?_
     refine pu rfl (by simp only [go_sem, Nat.reduceBEq]; exact (by kernel_rfl : abuild Tryz.prog 47 [(0, .v (.int .i64 u_2)), (1, .v (.int .i64 v_3))] = some (.agg [.v (.int .i64 u_2), .v (.int .i64 v_3), .v (.int .i64 0)]))) ?_
     refine hp (id := 67) rfl rfl (aheap_alloc' zc47 Z5) ?_
     refine ARun.heap0 (id := 68) rfl (ah_var (ys := [.v (.int .i64 u_2), .v (.int .i64 v_3), .v (.int .i64 0)]) sz47 Z1 Z1 Z3 rfl (Nat.le_of_ble_eq_true rfl) Z9 rfl) ?_
     refine fs ?_
     refine sr (N' := 192) rfl ?_
     refine pA ?_
     refine fs ?_
     refine sr (N' := 256) rfl ?_
     refine pA ?_
     refine fs ?_
     refine AWp.seq' ?_
     refine AWp.block ?_
     refine AWp.loopM (fun m s => ∃ (l_1 : List GEdge) (x_11 : GEdge) (out_12 : List GEdge) (i_13 : Int), s = (⟨80, (fset (fset (fset (fset (fun _ => AV.any) 1 (.sl (l_1.flatMap cGEdge) l_1.length false)) 11 (.adr 1 0)) 12 (.own 2 0 out_12.length)) 13 (.v (.int .i64 i_13))), ⟨(upd (upd nofresh 1 (.cells 1 [.v (.int .i64 x_11.U), .v (.int .i64 x_11.V), .v (.int .i64 x_11.Tier)] 0)) 2 (.cells 3 (out_12.flatMap cGEdge) 0)), 64⟩⟩ : St) ∧ ref12Add_L1 m l_1 x_11 out_12 i_13 = some r) FUEL ?_ ?_ ?_
     ·
      rintro s ⟨_, _, _, _, _, h⟩
      cases h
     ·
      refine ⟨_, ?_, l_1, (GEdge.mk u_2 v_3 0), [], 0, rfl, hm⟩
      refine St.Le.trans (le_nil 12 900012 3 Z1 Z5) ?_
      exact le_canon (fun j => bif j == 1 then 67 else bif j == 2 then 900012 else 0) (wV (wO (wk_fset _ _ (wk_adr Z1 rfl Z7) (wD (CFGEdge.sl _ _ _) wk_none)))) (heapWk_of _ (eU CFGEdge (entWk_upd (entWk_data Z3 (Nat.le_refl _) (Nat.zero_le _) (CFGEdge.dat (GEdge.mk u_2 v_3 0))) entWk_none)) Z8)
     ·
      rintro n1 s ⟨l_1, x_11, out_12, i_13, rfl, hm⟩
      replace hm : ref12Add_B1 (ref12Add_L1 n1) l_1 x_11 out_12 i_13 = some r := hm
      unfold ref12Add_B1 at hm
      refine AWp.seq' ?_
      refine sd mix (by kernel_rfl) (N' := 128) rfl ?_
      iterate 7 first | refine pA ?_ | refine pB ?_
      obtain ⟨x10, h9, hm⟩ := bnd hm
      refine pg rfl rfl Z2 (fun hb => (ap_idx CFGEdge Zd Tryz.underlying25 sz47 (Zh hb) rfl (Zh hb) (gopt_t h9 hb))) ?_
      refine pB ?_
      refine pg rfl rfl Z2 (fun hb => (ap_ldv (Zh hb) Z3 Z2)) ?_
      obtain ⟨r12, h11, hm⟩ := bnd hm
      refine ARun.callQG (r := .v (.bool r12)) Zd rfl Z2 Z1 fb43 (fun hb H => (.cons (td (Zh hb) (.agg _ (CFGEdge.dat _))) (.cons (td (Zh hb) (.agg _ (CFGEdge.dat _))) .nil))) (fun hb => ref03Less_c (gopt_t h11 hb)) ?_
      refine pA ?_
      refine fs ?_
      refine AWp.condM hm Z1 (fun _ hm => ?_) (fun _ hm => ?_)
      ·
       refine AWp.skip ?_
       refine normSeq ?_
       refine AWp.block ?_
       refine sr (N' := 192) rfl ?_
       iterate 3 refine pA ?_
       obtain ⟨x14, h13, hm⟩ := bnd hm
       refine pu rfl (ap_idx CFGEdge Zd Tryz.underlying25 sz47 Z1 rfl Z1 h13) ?_
       refine pA ?_
       refine hp (id := 133) rfl rfl (ah_list CFGEdge (l := [x14]) Tryz.underlying25 sz47 zc47 Z5 Zd Zd Zd (by simp only [go_sem, Nat.reduceBEq]; try rfl) (by kernel_rfl)) ?_
       obtain ⟨l16, h15, hm⟩ := bnd hm
       refine hp (id := 134) rfl rfl (ah_app CFGEdge Tryz.underlying25 Tryz.underlying25 rfl in47 ts47 (by rw [tb47]; decide) (by rw [tb47]; decide) tz47 Zd Zd Z1 Z3 Z6 (as_own CFGEdge Z1 Z3 Z6) rfl Z5 h15) ?_
       refine pA ?_
       refine fs ?_
       refine AWp.reg 64 (N' := 256) rfl ?_
       iterate 3 refine pA ?_
       refine ARun.fin ?_
       refine normIn ?_
       refine normThen ?_
       refine ⟨_, ?_, l_1, x_11, l16, (IntKind.i64.wrap (i_13 + 1)), rfl, hm⟩
       exact le_canon (fun j => bif j == 1 then 1 else bif j == 2 then 134 else 0) (wV (wO (wk_fset _ _ (wk_adr Z1 rfl Z7) (wD (CFGEdge.sl _ _ _) wk_none)))) (hW (eU CFGEdge (entWk_upd (entWk_data Z3 (Nat.le_refl _) (Nat.zero_le _) (CFGEdge.dat x_11)) entWk_none)))
      ·
       refine AWp.exit ?_
       refine exitSeq ?_
       refine exitThen ?_
       refine exitHere ?_
       refine normSeq ?_
       refine sr (N' := 192) rfl ?_
       refine pA ?_
       refine pu rfl (ap_ldv Z1 Z3 Z2) ?_
       refine hp (id := 130) rfl rfl (ah_list CFGEdge (l := [x_11]) Tryz.underlying25 sz47 zc47 Z5 Zd Zd Zd (by simp only [go_sem, Nat.reduceBEq]; try rfl) (by kernel_rfl)) ?_
       obtain ⟨l18, h17, hm⟩ := bnd hm
       refine hp (id := 131) rfl rfl (ah_app CFGEdge Tryz.underlying25 Tryz.underlying25 rfl in47 ts47 (by rw [tb47]; decide) (by rw [tb47]; decide) tz47 Zd Zd Z1 Z3 Z6 (as_own CFGEdge Z1 Z3 Z6) rfl Z5 h17) ?_
       refine pA ?_
       refine fs ?_
       refine sr (N' := 256) rfl ?_
       iterate 3 refine pA ?_
       obtain ⟨l20, h19, hm⟩ := bnd hm
       refine pu rfl (ap_slc CFGEdge Tryz.underlying25 sz47 Z1 rfl (ab_some Z1 (slc_0 h19).1) (ab_none _) h19) ?_
       obtain ⟨l22, h21, hm⟩ := bnd hm
       refine hp (id := 196) rfl rfl (ah_app CFGEdge Tryz.underlying25 Tryz.underlying25 rfl in47 ts47 (by rw [tb47]; decide) (by rw [tb47]; decide) tz47 Zd Zd Z1 Z3 Z6 (as_sl CFGEdge Z1 rfl) rfl Z5 h21) ?_
       iterate 2 refine pA ?_
       refine fs ?_
       refine AWp.ret ?_
       cases hm
       exact ret2D (.inr rfl) Tryz.results22 (tdo CFGEdge Z1 Z3 Z6) (td Z1 (.v _))
def ref12Remove_m (n_0 : Int) (l_1 : List GEdge) (u_2 : Int) (v_3 : Int) : Option ((List GEdge) × Int) :=
 ((ref12Right_m n_0 l_1).bind fun r2 =>
 ((gopt ((!r2) == false) false (ref12In_m n_0 u_2)).bind fun r4 =>
 ((gopt (((!r2) || (!r4)) == false) false (ref12In_m n_0 v_3)).bind fun r6 =>
 (bif (((!r2) || (!r4)) || (!r6)) then
  some (l_1, 1)
 else
  ((ref12Find_m l_1 u_2 v_3).bind fun r8 =>
  (bif (decide (r8 < 0)) then
   some (l_1, 9)
  else
   ((slc l_1 0 r8).bind fun l10 =>
   ((app [] l10).bind fun l12 =>
   ((slc l_1 (IntKind.i64.wrap (r8 + 1)) (l_1.length : Int)).bind fun l14 =>
   ((app l12 l14).bind fun l16 =>
   some (l16, 0)))))))))))
theorem ref12Remove_c {n_0 : Int} {l_1 : List GEdge} {u_2 : Int} {v_3 : Int} {r : (List GEdge) × Int} (hm : ref12Remove_m n_0 l_1 u_2 v_3 = some r) : PureC Tryz.prog 23 [.v (.int .i64 n_0), .sl (l_1.flatMap cGEdge) l_1.length false, .v (.int .i64 u_2), .v (.int .i64 v_3)] (.tup [.sl (r.1.flatMap cGEdge) r.1.length false, .v (.int .i64 r.2)]) := by
 refine PureC.of_body Tryz.func23 rfl ?_
 simp only [Tryz.ntmps23, List.length_cons, List.length_nil, Nat.reduceAdd, Nat.reduceSub, empty_eq]
 unfold ref12Remove_m at hm
 refine sr (N' := 64) rfl ?_
 iterate 2 refine pA ?_
 refine fs ?_
 refine sr (N' := 128) rfl ?_
 iterate 2 refine pA ?_
 obtain ⟨r2, h1, hm⟩ := bnd hm
 refine ARun.callQ (r := .v (.bool r2)) Zd Z1 fb30 (fun H => (cV (cD (CFGEdge.sl _ _ _) .nil))) (ref12Right_c h1) ?_
 refine pA ?_
 refine fs ?_
 refine AWp.seq' ?_
 refine sr (N' := 192) rfl ?_
 iterate 5 first | refine pA ?_ | refine pB ?_
 obtain ⟨r4, h3, hm⟩ := bnd hm
 refine ARun.callQG (r := .v (.bool r4)) Zd rfl Z2 Z1 fb41 (fun hb H => (.cons (td (Zh hb) (.v _)) (.cons (td (Zh hb) (.v _)) .nil))) (fun hb => ref12In_c (gopt_t h3 hb)) ?_
 iterate 5 first | refine pA ?_ | refine pB ?_
 obtain ⟨r6, h5, hm⟩ := bnd hm
 refine ARun.callQG (r := .v (.bool r6)) Zd rfl Z2 Z1 fb41 (fun hb H => (.cons (td (Zh hb) (.v _)) (.cons (td (Zh hb) (.v _)) .nil))) (fun hb => ref12In_c (gopt_t h5 hb)) ?_
 iterate 2 first | refine pA ?_ | refine pB ?_
 refine fs ?_
 refine AWp.condM hm Z1 (fun _ hm => ?_) (fun _ hm => ?_)
 ·
  refine sr (N' := 256) rfl ?_
  iterate 3 refine pA ?_
  refine fs ?_
  refine AWp.ret ?_
  refine retSeq ?_
  cases hm
  exact ret2D (.inr rfl) Tryz.results23 (td Z1 (CFGEdge.sl _ _ _)) (td Z1 (.v _))
 ·
  refine AWp.skip ?_
  refine normSeq ?_
  refine sr (N' := 256) rfl ?_
  iterate 3 refine pA ?_
  obtain ⟨r8, h7, hm⟩ := bnd hm
  refine ARun.callQ (r := .v (.int .i64 r8)) Zd Z1 fb42 (fun H => (cD (CFGEdge.sl _ _ _) (cV (cV .nil)))) (ref12Find_c h7) ?_
  refine pA ?_
  refine fs ?_
  refine AWp.seq' ?_
  refine sr (N' := 320) rfl ?_
  iterate 2 refine pA ?_
  refine fs ?_
  refine AWp.condM hm Z1 (fun _ hm => ?_) (fun _ hm => ?_)
  ·
   refine sr (N' := 384) rfl ?_
   iterate 3 refine pA ?_
   refine fs ?_
   refine AWp.ret ?_
   refine retSeq ?_
   cases hm
   exact ret2D (.inr rfl) Tryz.results23 (td Z1 (CFGEdge.sl _ _ _)) (td Z1 (.v _))
  ·
   refine AWp.skip ?_
   refine normSeq ?_
   refine sr (N' := 384) rfl ?_
   refine pA ?_
   refine fs ?_
   refine sr (N' := 448) rfl ?_
   iterate 3 refine pA ?_
   obtain ⟨l10, h9, hm⟩ := bnd hm
   refine pu rfl (ap_slc CFGEdge Tryz.underlying25 sz47 Z1 rfl ab_none0 (ab_some Z1 (slc_0 h9).2) h9) ?_
   obtain ⟨l12, h11, hm⟩ := bnd hm
   refine hp (id := 388) rfl rfl (ah_app0 CFGEdge Tryz.underlying25 Tryz.underlying25 rfl in47 ts47 (by rw [tb47]; decide) (by rw [tb47]; decide) tz47 Zd Zd Z1 (as_sl CFGEdge Z1 rfl) rfl Z5 h11) ?_
   refine pA ?_
   refine fs ?_
   refine sr (N' := 512) rfl ?_
   iterate 4 refine pA ?_
   obtain ⟨l14, h13, hm⟩ := bnd hm
   refine pu rfl (ap_slc CFGEdge Tryz.underlying25 sz47 Z1 rfl (ab_some Z1 (slc_0 h13).1) (ab_none _) h13) ?_
   obtain ⟨l16, h15, hm⟩ := bnd hm
   refine hp (id := 453) rfl rfl (ah_app CFGEdge Tryz.underlying25 Tryz.underlying25 rfl in47 ts47 (by rw [tb47]; decide) (by rw [tb47]; decide) tz47 Zd Zd Z1 Z3 Z6 (as_sl CFGEdge Z1 rfl) rfl Z5 h15) ?_
   iterate 2 refine pA ?_
   refine fs ?_
   refine AWp.ret ?_
   cases hm
   exact ret2D (.inr rfl) Tryz.results23 (tdo CFGEdge Z1 Z3 Z6) (td Z1 (.v _))
def ref09Class_J1 (rec1 : List Int → Int → List Int → Int → Option ((List Int))) (p_0 : List Int) (v_1 : Int) (out_5 : List Int) (i_6 : Int) : Option ((List Int)) :=
 rec1 p_0 v_1 out_5 (IntKind.i64.wrap (i_6 + 1))
def ref09Class_B1 (rec1 : List Int → Int → List Int → Int → Option ((List Int))) (p_0 : List Int) (v_1 : Int) (out_5 : List Int) (i_6 : Int) : Option ((List Int)) :=
 (bif (decide (i_6 < (p_0.length : Int))) then
  ((idx p_0 i_6).bind fun x2 =>
  ((idx p_0 v_1).bind fun x4 =>
  (bif (x2 == x4) then
   ((app out_5 [i_6]).bind fun l6 =>
   ref09Class_J1 rec1 p_0 v_1 l6 i_6)
  else
   ref09Class_J1 rec1 p_0 v_1 out_5 i_6)))
 else
  some out_5)
def ref09Class_L1 : Nat → List Int → Int → List Int → Int → Option ((List Int))
 | 0 => fun _ _ _ _ => none
 | n + 1 => ref09Class_B1 (ref09Class_L1 n)
def ref09Class_m (p_0 : List Int) (v_1 : Int) : Option ((List Int)) :=
 ref09Class_L1 FUEL p_0 v_1 [] 0
theorem ref09Class_c {p_0 : List Int} {v_1 : Int} {r : (List Int)} (hm : ref09Class_m p_0 v_1 = some r) : PureC Tryz.prog 61 [.sl (p_0.flatMap (ci .i64)) p_0.length false, .v (.int .i64 v_1)] (.sl (r.flatMap (ci .i64)) r.length false) := by
 refine PureC.of_body Tryz.func61 rfl ?_
 simp only [Tryz.ntmps61, List.length_cons, List.length_nil, Nat.reduceAdd, Nat.reduceSub, empty_eq]
 unfold ref09Class_m at hm
 refine sr (N' := 64) rfl ?_
 refine pA ?_
 refine fs ?_
 refine sr (N' := 128) rfl ?_
 refine pA ?_
 refine fs ?_
 refine AWp.seq' ?_
 refine sr (N' := 192) rfl ?_
 refine pA ?_
 refine fs ?_
 refine AWp.block ?_
 refine AWp.loopM (fun m s => ∃ (p_0 : List Int) (v_1 : Int) (out_5 : List Int) (i_6 : Int), s = (⟨27, (fset (fset (fset (fset (fun _ => AV.any) 0 (.sl (p_0.flatMap (ci .i64)) p_0.length false)) 1 (.v (.int .i64 v_1))) 5 (.own 1 0 out_5.length)) 6 (.v (.int .i64 i_6))), ⟨(upd nofresh 1 (.cells 1 (out_5.flatMap (ci .i64)) 0)), 64⟩⟩ : St) ∧ ref09Class_L1 m p_0 v_1 out_5 i_6 = some r) FUEL ?_ ?_ ?_
 ·
  rintro s ⟨_, _, _, _, _, h⟩
  cases h
 ·
  refine ⟨_, ?_, p_0, v_1, [], 0, rfl, hm⟩
  refine St.Le.trans (le_nil 5 900005 1 Z1 Z5) ?_
  exact le_canon (fun j => bif j == 1 then 900005 else 0) (wV (wO (wV (wD ((CFi .i64).sl _ _ _) wk_none)))) (hW (eU (CFi .i64) entWk_none))
 ·
  rintro n1 s ⟨p_0, v_1, out_5, i_6, rfl, hm⟩
  replace hm : ref09Class_B1 (ref09Class_L1 n1) p_0 v_1 out_5 i_6 = some r := hm
  unfold ref09Class_B1 at hm
  refine AWp.seq' ?_
  refine sr (N' := 128) rfl ?_
  iterate 4 refine pA ?_
  refine fs ?_
  refine AWp.condM hm Z1 (fun _ hm => ?_) (fun _ hm => ?_)
  ·
   refine AWp.skip ?_
   refine normSeq ?_
   refine AWp.seqJ (fun s => ∃ (p_0 : List Int) (v_1 : Int) (out_5 : List Int) (i_6 : Int), s = (⟨27, (fset (fset (fset (fset (fun _ => AV.any) 0 (.sl (p_0.flatMap (ci .i64)) p_0.length false)) 1 (.v (.int .i64 v_1))) 5 (.own 1 0 out_5.length)) 6 (.v (.int .i64 i_6))), ⟨(upd nofresh 1 (.cells 1 (out_5.flatMap (ci .i64)) 0)), 64⟩⟩ : St) ∧ ref09Class_J1 (ref09Class_L1 n1) p_0 v_1 out_5 i_6 = some r) ?_ ?_
   ·
    refine AWp.block ?_
    refine sd mix (by kernel_rfl) (N' := 192) rfl ?_
    iterate 2 refine pA ?_
    obtain ⟨x2, h1, hm⟩ := bnd hm
    refine pu rfl (ap_idx (CFi .i64) Zd Tryz.underlying36 sz3 Z1 rfl Z1 h1) ?_
    iterate 3 refine pA ?_
    obtain ⟨x4, h3, hm⟩ := bnd hm
    refine pu rfl (ap_idx (CFi .i64) Zd Tryz.underlying36 sz3 Z1 rfl Z1 h3) ?_
    iterate 2 refine pA ?_
    refine fs ?_
    refine AWp.condM hm Z1 (fun _ hm => ?_) (fun _ hm => ?_)
    ·
     refine AWp.reg 64 (N' := 256) rfl ?_
     iterate 2 refine pA ?_
     refine hp (id := 194) rfl rfl (ah_list (CFi .i64) (l := [i_6]) Tryz.underlying36 sz3 zc3 Z5 Zd Zd Zd (by simp only [go_sem, Nat.reduceBEq]; try rfl) (by kernel_rfl)) ?_
     obtain ⟨l6, h5, hm⟩ := bnd hm
     refine hp (id := 195) rfl rfl (ah_app (CFi .i64) Tryz.underlying36 Tryz.underlying36 rfl in3 ts3 (by rw [tb3]; decide) (by rw [tb3]; decide) tz3 Zd Zd Z1 Z3 Z6 (as_own (CFi .i64) Z1 Z3 Z6) rfl Z5 h5) ?_
     refine pA ?_
     refine ARun.fin ?_
     refine normIn ?_
     refine normJ ?_
     refine ⟨_, ?_, p_0, v_1, l6, i_6, rfl, hm⟩
     exact le_canon (fun j => bif j == 1 then 195 else 0) (wV (wO (wV (wD ((CFi .i64).sl _ _ _) wk_none)))) (hW (eU (CFi .i64) entWk_none))
    ·
     refine AWp.skip ?_
     refine normIn ?_
     refine normJ ?_
     refine ⟨_, ?_, p_0, v_1, out_5, i_6, rfl, hm⟩
     exact le_canon (fun j => bif j == 1 then 1 else 0) (wV (wO (wV (wD ((CFi .i64).sl _ _ _) wk_none)))) (hW (eU (CFi .i64) entWk_none))
   ·
    rintro s ⟨p_0, v_1, out_5, i_6, rfl, hm⟩
    unfold ref09Class_J1 at hm
    refine AWp.reg 64 (N' := 128) rfl ?_
    iterate 3 refine pA ?_
    refine ARun.fin ?_
    refine normThen ?_
    refine ⟨_, ?_, p_0, v_1, out_5, (IntKind.i64.wrap (i_6 + 1)), rfl, hm⟩
    exact le_canon (fun j => bif j == 1 then 1 else 0) (wV (wO (wV (wD ((CFi .i64).sl _ _ _) wk_none)))) (hW (eU (CFi .i64) entWk_none))
  ·
   refine AWp.exit ?_
   refine exitSeq ?_
   refine exitThen ?_
   refine exitHere ?_
   refine normSeq ?_
   refine sr (N' := 192) rfl ?_
   iterate 2 refine pA ?_
   refine fs ?_
   refine AWp.ret ?_
   cases hm
   exact ret1D (.inr rfl) Tryz.results61 (tdo (CFi .i64) Z1 Z3 Z6)
def ref14Tree_m (g_0 : GGraph) (tier_1 : Int) (v_2 : Int) : Option ((List Int)) :=
 ((ref12Forest_m g_0.Edges tier_1).bind fun r2 =>
 ((ref09Of_m g_0.Config.N r2).bind fun r4 =>
 ((ref09Class_m r4 v_2).bind fun r6 =>
 some r6)))
theorem ref14Tree_c {g_0 : GGraph} {tier_1 : Int} {v_2 : Int} {r : (List Int)} (hm : ref14Tree_m g_0 tier_1 v_2 = some r) : PureC Tryz.prog 48 [.agg [.v (.int .i64 g_0.Config.N), .v (.int .i64 g_0.Config.L), .v (.int .i64 g_0.Config.R), .sl (g_0.Hashes.flatMap cGHash) g_0.Hashes.length false, .sl (g_0.Edges.flatMap cGEdge) g_0.Edges.length false], .v (.int .i64 tier_1), .v (.int .i64 v_2)] (.sl (r.flatMap (ci .i64)) r.length false) := by
 refine PureC.of_body Tryz.func48 rfl ?_
 simp only [Tryz.ntmps48, List.length_cons, List.length_nil, Nat.reduceAdd, Nat.reduceSub, empty_eq]
 unfold ref14Tree_m at hm
 refine sr (N' := 64) rfl ?_
 refine hp (id := 0) rfl rfl (aheap_box Z1 Z5) ?_
 refine pA ?_
 refine fs ?_
 refine sd mix (by kernel_rfl) (N' := 128) rfl ?_
 iterate 2 refine pA ?_
 refine pu rfl (ap_ldv Z1 Z3 Z4) ?_
 refine pA ?_
 refine pu rfl (ap_ldv Z1 Z3 Z4) ?_
 refine pA ?_
 obtain ⟨r2, h1, hm⟩ := bnd hm
 refine ARun.callQ (r := .sl (r2.flatMap cGEdge) r2.length false) Zd Z1 fb31 (fun H => (cD (CFGEdge.sl _ _ _) (cV .nil))) (ref12Forest_c h1) ?_
 obtain ⟨r4, h3, hm⟩ := bnd hm
 refine ARun.callQ (r := .sl (r4.flatMap (ci .i64)) r4.length false) Zd Z1 fb33 (fun H => (cV (cD (CFGEdge.sl _ _ _) .nil))) (ref09Of_c h3) ?_
 refine pA ?_
 obtain ⟨r6, h5, hm⟩ := bnd hm
 refine ARun.callQ (r := .sl (r6.flatMap (ci .i64)) r6.length false) Zd Z1 fb61 (fun H => (cD ((CFi .i64).sl _ _ _) (cV .nil))) (ref09Class_c h5) ?_
 refine pA ?_
 refine fs ?_
 refine AWp.ret ?_
 cases hm
 exact ret1D (.inr rfl) Tryz.results48 (td Z1 ((CFi .i64).sl _ _ _))
def ref08First_B1 (rec1 : List Int → Int → Int → Option (Int)) (l_0 : List Int) (v_1 : Int) (i_5 : Int) : Option (Int) :=
 (bif (decide (i_5 < (l_0.length : Int))) then
  ((idx l_0 i_5).bind fun x2 =>
  (bif (x2 == v_1) then
   some i_5
  else
   rec1 l_0 v_1 (IntKind.i64.wrap (i_5 + 1))))
 else
  some (-1))
def ref08First_L1 : Nat → List Int → Int → Int → Option (Int)
 | 0 => fun _ _ _ => none
 | n + 1 => ref08First_B1 (ref08First_L1 n)
def ref08First_m (l_0 : List Int) (v_1 : Int) : Option (Int) :=
 ref08First_L1 FUEL l_0 v_1 0
theorem ref08First_c {l_0 : List Int} {v_1 : Int} {r : Int} (hm : ref08First_m l_0 v_1 = some r) : PureC Tryz.prog 78 [.sl (l_0.flatMap (ci .i64)) l_0.length false, .v (.int .i64 v_1)] (.v (.int .i64 r)) := by
 refine PureC.of_body Tryz.func78 rfl ?_
 simp only [Tryz.ntmps78, List.length_cons, List.length_nil, Nat.reduceAdd, Nat.reduceSub, empty_eq]
 unfold ref08First_m at hm
 refine sr (N' := 64) rfl ?_
 refine pA ?_
 refine fs ?_
 refine AWp.seq' ?_
 refine sr (N' := 128) rfl ?_
 refine pA ?_
 refine fs ?_
 refine AWp.block ?_
 refine AWp.loopM (fun m s => ∃ (l_0 : List Int) (v_1 : Int) (i_5 : Int), s = (⟨19, (fset (fset (fset (fun _ => AV.any) 0 (.sl (l_0.flatMap (ci .i64)) l_0.length false)) 1 (.v (.int .i64 v_1))) 5 (.v (.int .i64 i_5))), ⟨nofresh, 64⟩⟩ : St) ∧ ref08First_L1 m l_0 v_1 i_5 = some r) FUEL ?_ ?_ ?_
 ·
  rintro s ⟨_, _, _, _, h⟩
  cases h
 ·
  refine ⟨_, ?_, l_0, v_1, 0, rfl, hm⟩
  exact le_canon id (wV (wV (wD ((CFi .i64).sl _ _ _) wk_none))) heapWk0
 ·
  rintro n1 s ⟨l_0, v_1, i_5, rfl, hm⟩
  replace hm : ref08First_B1 (ref08First_L1 n1) l_0 v_1 i_5 = some r := hm
  unfold ref08First_B1 at hm
  refine AWp.seq' ?_
  refine sr (N' := 128) rfl ?_
  iterate 4 refine pA ?_
  refine fs ?_
  refine AWp.condM hm Z1 (fun _ hm => ?_) (fun _ hm => ?_)
  ·
   refine AWp.skip ?_
   refine normSeq ?_
   refine AWp.seq' ?_
   refine AWp.block ?_
   refine sr (N' := 192) rfl ?_
   iterate 2 refine pA ?_
   obtain ⟨x2, h1, hm⟩ := bnd hm
   refine pu rfl (ap_idx (CFi .i64) Zd Tryz.underlying36 sz3 Z1 rfl Z1 h1) ?_
   iterate 3 refine pA ?_
   refine fs ?_
   refine AWp.condM hm Z1 (fun _ hm => ?_) (fun _ hm => ?_)
   ·
    refine sr (N' := 256) rfl ?_
    iterate 2 refine pA ?_
    refine fs ?_
    refine AWp.ret ?_
    refine retIn ?_
    refine retSeq ?_
    refine retThen ?_
    refine retIn ?_
    refine retSeq ?_
    cases hm
    exact ret1D (.inr rfl) Tryz.results78 (td Z1 (.v _))
   ·
    refine AWp.skip ?_
    refine normIn ?_
    refine normSeq ?_
    refine AWp.reg 64 (N' := 256) rfl ?_
    iterate 3 refine pA ?_
    refine ARun.fin ?_
    refine normThen ?_
    refine ⟨_, ?_, l_0, v_1, (IntKind.i64.wrap (i_5 + 1)), rfl, hm⟩
    exact le_canon id (wV (wV (wD ((CFi .i64).sl _ _ _) wk_none))) heapWk0
  ·
   refine AWp.exit ?_
   refine exitSeq ?_
   refine exitThen ?_
   refine exitHere ?_
   refine normSeq ?_
   refine sr (N' := 192) rfl ?_
   refine pA ?_
   refine fs ?_
   refine AWp.ret ?_
   cases hm
   exact ret1D (.inr rfl) Tryz.results78 (td Z1 (.v _))
def ref13Cut_J1 (rec1 : List GEdge → List Int → List GEdge → Int → Option ((List GEdge))) (l_0 : List GEdge) (set_1 : List Int) (out_5 : List GEdge) (i_6 : Int) : Option ((List GEdge)) :=
 rec1 l_0 set_1 out_5 (IntKind.i64.wrap (i_6 + 1))
def ref13Cut_B1 (rec1 : List GEdge → List Int → List GEdge → Int → Option ((List GEdge))) (l_0 : List GEdge) (set_1 : List Int) (out_5 : List GEdge) (i_6 : Int) : Option ((List GEdge)) :=
 (bif (decide (i_6 < (l_0.length : Int))) then
  ((idx l_0 i_6).bind fun x2 =>
  ((ref08First_m set_1 x2.U).bind fun r4 =>
  ((idx l_0 i_6).bind fun x6 =>
  ((ref08First_m set_1 x6.V).bind fun r8 =>
  (bif (((decide (0 ≤ r4)) && (!(decide (0 ≤ r8)))) || ((decide (0 ≤ r8)) && (!(decide (0 ≤ r4))))) then
   ((idx l_0 i_6).bind fun x10 =>
   ((app out_5 [x10]).bind fun l12 =>
   ref13Cut_J1 rec1 l_0 set_1 l12 i_6))
  else
   ref13Cut_J1 rec1 l_0 set_1 out_5 i_6)))))
 else
  some out_5)
def ref13Cut_L1 : Nat → List GEdge → List Int → List GEdge → Int → Option ((List GEdge))
 | 0 => fun _ _ _ _ => none
 | n + 1 => ref13Cut_B1 (ref13Cut_L1 n)
def ref13Cut_m (l_0 : List GEdge) (set_1 : List Int) : Option ((List GEdge)) :=
 ref13Cut_L1 FUEL l_0 set_1 [] 0
theorem ref13Cut_c {l_0 : List GEdge} {set_1 : List Int} {r : (List GEdge)} (hm : ref13Cut_m l_0 set_1 = some r) : PureC Tryz.prog 62 [.sl (l_0.flatMap cGEdge) l_0.length false, .sl (set_1.flatMap (ci .i64)) set_1.length false] (.sl (r.flatMap cGEdge) r.length false) := by
 refine PureC.of_body Tryz.func62 rfl ?_
 simp only [Tryz.ntmps62, List.length_cons, List.length_nil, Nat.reduceAdd, Nat.reduceSub, empty_eq]
 unfold ref13Cut_m at hm
 refine sr (N' := 64) rfl ?_
 refine pA ?_
 refine fs ?_
 refine sr (N' := 128) rfl ?_
 refine pA ?_
 refine fs ?_
 refine AWp.seq' ?_
 refine sr (N' := 192) rfl ?_
 refine pA ?_
 refine fs ?_
 refine AWp.block ?_
 refine AWp.loopM (fun m s => ∃ (l_0 : List GEdge) (set_1 : List Int) (out_5 : List GEdge) (i_6 : Int), s = (⟨51, (fset (fset (fset (fset (fun _ => AV.any) 0 (.sl (l_0.flatMap cGEdge) l_0.length false)) 1 (.sl (set_1.flatMap (ci .i64)) set_1.length false)) 5 (.own 1 0 out_5.length)) 6 (.v (.int .i64 i_6))), ⟨(upd nofresh 1 (.cells 3 (out_5.flatMap cGEdge) 0)), 64⟩⟩ : St) ∧ ref13Cut_L1 m l_0 set_1 out_5 i_6 = some r) FUEL ?_ ?_ ?_
 ·
  rintro s ⟨_, _, _, _, _, h⟩
  cases h
 ·
  refine ⟨_, ?_, l_0, set_1, [], 0, rfl, hm⟩
  refine St.Le.trans (le_nil 5 900005 3 Z1 Z5) ?_
  exact le_canon (fun j => bif j == 1 then 900005 else 0) (wV (wO (wD ((CFi .i64).sl _ _ _) (wD (CFGEdge.sl _ _ _) wk_none)))) (hW (eU CFGEdge entWk_none))
 ·
  rintro n1 s ⟨l_0, set_1, out_5, i_6, rfl, hm⟩
  replace hm : ref13Cut_B1 (ref13Cut_L1 n1) l_0 set_1 out_5 i_6 = some r := hm
  unfold ref13Cut_B1 at hm
  refine AWp.seq' ?_
  refine sr (N' := 128) rfl ?_
  iterate 4 refine pA ?_
  refine fs ?_
  refine AWp.condM hm Z1 (fun _ hm => ?_) (fun _ hm => ?_)
  ·
   refine AWp.skip ?_
   refine normSeq ?_
   refine AWp.seqJ (fun s => ∃ (l_0 : List GEdge) (set_1 : List Int) (out_5 : List GEdge) (i_6 : Int), s = (⟨51, (fset (fset (fset (fset (fun _ => AV.any) 0 (.sl (l_0.flatMap cGEdge) l_0.length false)) 1 (.sl (set_1.flatMap (ci .i64)) set_1.length false)) 5 (.own 1 0 out_5.length)) 6 (.v (.int .i64 i_6))), ⟨(upd nofresh 1 (.cells 3 (out_5.flatMap cGEdge) 0)), 64⟩⟩ : St) ∧ ref13Cut_J1 (ref13Cut_L1 n1) l_0 set_1 out_5 i_6 = some r) ?_ ?_
   ·
    refine AWp.block ?_
    refine sd mix (by kernel_rfl) (N' := 192) rfl ?_
    iterate 3 refine pA ?_
    obtain ⟨x2, h1, hm⟩ := bnd hm
    refine pu rfl (ap_idx CFGEdge Zd Tryz.underlying25 sz47 Z1 rfl Z1 h1) ?_
    iterate 2 refine pA ?_
    obtain ⟨r4, h3, hm⟩ := bnd hm
    refine ARun.callQ (r := .v (.int .i64 r4)) Zd Z1 fb78 (fun H => (cD ((CFi .i64).sl _ _ _) (cV .nil))) (ref08First_c h3) ?_
    iterate 4 refine pA ?_
    obtain ⟨x6, h5, hm⟩ := bnd hm
    refine pu rfl (ap_idx CFGEdge Zd Tryz.underlying25 sz47 Z1 rfl Z1 h5) ?_
    iterate 2 refine pA ?_
    obtain ⟨r8, h7, hm⟩ := bnd hm
    refine ARun.callQ (r := .v (.int .i64 r8)) Zd Z1 fb78 (fun H => (cD ((CFi .i64).sl _ _ _) (cV .nil))) (ref08First_c h7) ?_
    iterate 3 refine pA ?_
    refine fs ?_
    refine sr (N' := 256) rfl ?_
    iterate 12 first | refine pA ?_ | refine pB ?_
    refine fs ?_
    refine AWp.condM hm Z1 (fun _ hm => ?_) (fun _ hm => ?_)
    ·
     refine AWp.reg 64 (N' := 320) rfl ?_
     iterate 3 refine pA ?_
     obtain ⟨x10, h9, hm⟩ := bnd hm
     refine pu rfl (ap_idx CFGEdge Zd Tryz.underlying25 sz47 Z1 rfl Z1 h9) ?_
     refine pA ?_
     refine hp (id := 261) rfl rfl (ah_list CFGEdge (l := [x10]) Tryz.underlying25 sz47 zc47 Z5 Zd Zd Zd (by simp only [go_sem, Nat.reduceBEq]; try rfl) (by kernel_rfl)) ?_
     obtain ⟨l12, h11, hm⟩ := bnd hm
     refine hp (id := 262) rfl rfl (ah_app CFGEdge Tryz.underlying25 Tryz.underlying25 rfl in47 ts47 (by rw [tb47]; decide) (by rw [tb47]; decide) tz47 Zd Zd Z1 Z3 Z6 (as_own CFGEdge Z1 Z3 Z6) rfl Z5 h11) ?_
     refine pA ?_
     refine ARun.fin ?_
     refine normIn ?_
     refine normJ ?_
     refine ⟨_, ?_, l_0, set_1, l12, i_6, rfl, hm⟩
     exact le_canon (fun j => bif j == 1 then 262 else 0) (wV (wO (wD ((CFi .i64).sl _ _ _) (wD (CFGEdge.sl _ _ _) wk_none)))) (hW (eU CFGEdge entWk_none))
    ·
     refine AWp.skip ?_
     refine normIn ?_
     refine normJ ?_
     refine ⟨_, ?_, l_0, set_1, out_5, i_6, rfl, hm⟩
     exact le_canon (fun j => bif j == 1 then 1 else 0) (wV (wO (wD ((CFi .i64).sl _ _ _) (wD (CFGEdge.sl _ _ _) wk_none)))) (hW (eU CFGEdge entWk_none))
   ·
    rintro s ⟨l_0, set_1, out_5, i_6, rfl, hm⟩
    unfold ref13Cut_J1 at hm
    refine AWp.reg 64 (N' := 128) rfl ?_
    iterate 3 refine pA ?_
    refine ARun.fin ?_
    refine normThen ?_
    refine ⟨_, ?_, l_0, set_1, out_5, (IntKind.i64.wrap (i_6 + 1)), rfl, hm⟩
    exact le_canon (fun j => bif j == 1 then 1 else 0) (wV (wO (wD ((CFi .i64).sl _ _ _) (wD (CFGEdge.sl _ _ _) wk_none)))) (hW (eU CFGEdge entWk_none))
  ·
   refine AWp.exit ?_
   refine exitSeq ?_
   refine exitThen ?_
   refine exitHere ?_
   refine normSeq ?_
   refine sr (N' := 192) rfl ?_
   iterate 2 refine pA ?_
   refine fs ?_
   refine AWp.ret ?_
   cases hm
   exact ret1D (.inr rfl) Tryz.results62 (tdo CFGEdge Z1 Z3 Z6)
def ref03Of_J1 (u_0 : Int) (v_1 : Int) : Option (Int × Int) :=
 some ((bor .u64 (shl .u64 (IntKind.u64.wrap u_0) 24) (IntKind.u64.wrap v_1)), 0)
def ref03Of_m (u_0 : Int) (v_1 : Int) : Option (Int × Int) :=
 (bif ((((decide (u_0 < 0)) || (decide (v_1 < 0))) || (decide (16777215 < u_0))) || (decide (16777215 < v_1))) then
  some (0, 1)
 else
  (bif (u_0 == v_1) then
   some (0, 8)
  else
   (bif (decide (v_1 < u_0)) then
    ref03Of_J1 v_1 u_0
   else
    ref03Of_J1 u_0 v_1)))
theorem ref03Of_c {u_0 : Int} {v_1 : Int} {r : Int × Int} (hm : ref03Of_m u_0 v_1 = some r) : PureC Tryz.prog 79 [.v (.int .i64 u_0), .v (.int .i64 v_1)] (.tup [.v (.int .u64 r.1), .v (.int .i64 r.2)]) := by
 refine PureC.of_body Tryz.func79 rfl ?_
 simp only [Tryz.ntmps79, List.length_cons, List.length_nil, Nat.reduceAdd, Nat.reduceSub, empty_eq]
 unfold ref03Of_m at hm
 refine sr (N' := 64) rfl ?_
 iterate 2 refine pA ?_
 refine fs ?_
 refine AWp.seq' ?_
 refine sr (N' := 128) rfl ?_
 iterate 14 first | refine pA ?_ | refine pB ?_
 refine fs ?_
 refine AWp.condM hm Z1 (fun _ hm => ?_) (fun _ hm => ?_)
 ·
  refine sr (N' := 192) rfl ?_
  iterate 2 refine pA ?_
  refine fs ?_
  refine AWp.ret ?_
  refine retSeq ?_
  cases hm
  exact ret2D (.inr rfl) Tryz.results79 (td Z1 (.v _)) (td Z1 (.v _))
 ·
  refine AWp.skip ?_
  refine normSeq ?_
  refine AWp.seq' ?_
  refine sr (N' := 192) rfl ?_
  iterate 3 refine pA ?_
  refine fs ?_
  refine AWp.condM hm Z1 (fun _ hm => ?_) (fun _ hm => ?_)
  ·
   refine sr (N' := 256) rfl ?_
   iterate 2 refine pA ?_
   refine fs ?_
   refine AWp.ret ?_
   refine retSeq ?_
   cases hm
   exact ret2D (.inr rfl) Tryz.results79 (td Z1 (.v _)) (td Z1 (.v _))
  ·
   refine AWp.skip ?_
   refine normSeq ?_
   refine AWp.seqJ (fun s => ∃ (u_0 : Int) (v_1 : Int), s = (⟨34, (fset (fset (fun _ => AV.any) 0 (.v (.int .i64 u_0))) 1 (.v (.int .i64 v_1))), ⟨nofresh, 64⟩⟩ : St) ∧ ref03Of_J1 u_0 v_1 = some r) ?_ ?_
   ·
    refine sr (N' := 256) rfl ?_
    iterate 3 refine pA ?_
    refine fs ?_
    refine AWp.condM hm Z1 (fun _ hm => ?_) (fun _ hm => ?_)
    ·
     refine AWp.reg 64 (N' := 320) rfl ?_
     iterate 4 refine pA ?_
     refine ARun.fin ?_
     refine normJ ?_
     refine ⟨_, ?_, v_1, u_0, rfl, hm⟩
     exact le_canon id (wV (wV wk_none)) heapWk0
    ·
     refine AWp.skip ?_
     refine normJ ?_
     refine ⟨_, ?_, u_0, v_1, rfl, hm⟩
     exact le_canon id (wV (wV wk_none)) heapWk0
   ·
    rintro s ⟨u_0, v_1, rfl, hm⟩
    unfold ref03Of_J1 at hm
    refine sr (N' := 128) rfl ?_
    iterate 8 refine pu rfl (by simp only [go_sem, Nat.reduceBEq, Int.reduceEq, Int.reduceLE]; try with_reducible rfl) ?_
    refine fs ?_
    refine AWp.ret ?_
    cases hm
    exact ret2D (.inr rfl) Tryz.results79 (td Z1 (.v _)) (td Z1 (.v _))
def ref13Names_B1 (rec1 : List GEdge → List Int → Int → Option ((List Int))) (l_0 : List GEdge) (out_3 : List Int) (i_4 : Int) : Option ((List Int)) :=
 (bif (decide (i_4 < (l_0.length : Int))) then
  ((idx l_0 i_4).bind fun x2 =>
  ((idx l_0 i_4).bind fun x4 =>
  ((ref03Of_m x2.U x4.V).bind fun ⟨r6, r7⟩ =>
  ((app out_3 [r6]).bind fun l9 =>
  rec1 l_0 l9 (IntKind.i64.wrap (i_4 + 1))))))
 else
  some out_3)
def ref13Names_L1 : Nat → List GEdge → List Int → Int → Option ((List Int))
 | 0 => fun _ _ _ => none
 | n + 1 => ref13Names_B1 (ref13Names_L1 n)
def ref13Names_m (l_0 : List GEdge) : Option ((List Int)) :=
 ref13Names_L1 FUEL l_0 [] 0
theorem ref13Names_c {l_0 : List GEdge} {r : (List Int)} (hm : ref13Names_m l_0 = some r) : PureC Tryz.prog 63 [.sl (l_0.flatMap cGEdge) l_0.length false] (.sl (r.flatMap (ci .u64)) r.length false) := by
 refine PureC.of_body Tryz.func63 rfl ?_
 simp only [Tryz.ntmps63, List.length_cons, List.length_nil, Nat.reduceAdd, Nat.reduceSub, empty_eq]
 unfold ref13Names_m at hm
 refine sr (N' := 64) rfl ?_
 refine pA ?_
 refine fs ?_
 refine sr (N' := 128) rfl ?_
 refine pA ?_
 refine fs ?_
 refine AWp.seq' ?_
 refine sr (N' := 192) rfl ?_
 refine pA ?_
 refine fs ?_
 refine AWp.block ?_
 refine AWp.loopM (fun m s => ∃ (l_0 : List GEdge) (out_3 : List Int) (i_4 : Int), s = (⟨32, (fset (fset (fset (fun _ => AV.any) 0 (.sl (l_0.flatMap cGEdge) l_0.length false)) 3 (.own 1 0 out_3.length)) 4 (.v (.int .i64 i_4))), ⟨(upd nofresh 1 (.cells 1 (out_3.flatMap (ci .u64)) 0)), 64⟩⟩ : St) ∧ ref13Names_L1 m l_0 out_3 i_4 = some r) FUEL ?_ ?_ ?_
 ·
  rintro s ⟨_, _, _, _, h⟩
  cases h
 ·
  refine ⟨_, ?_, l_0, [], 0, rfl, hm⟩
  refine St.Le.trans (le_nil 3 900003 1 Z1 Z5) ?_
  exact le_canon (fun j => bif j == 1 then 900003 else 0) (wV (wO (wD (CFGEdge.sl _ _ _) wk_none))) (hW (eU (CFi .u64) entWk_none))
 ·
  rintro n1 s ⟨l_0, out_3, i_4, rfl, hm⟩
  replace hm : ref13Names_B1 (ref13Names_L1 n1) l_0 out_3 i_4 = some r := hm
  unfold ref13Names_B1 at hm
  refine AWp.seq' ?_
  refine sr (N' := 128) rfl ?_
  iterate 4 refine pA ?_
  refine fs ?_
  refine AWp.condM hm Z1 (fun _ hm => ?_) (fun _ hm => ?_)
  ·
   refine AWp.skip ?_
   refine normSeq ?_
   refine AWp.seq' ?_
   refine AWp.block ?_
   refine sd mix (by kernel_rfl) (N' := 192) rfl ?_
   iterate 2 refine pA ?_
   obtain ⟨x2, h1, hm⟩ := bnd hm
   refine pu rfl (ap_idx CFGEdge Zd Tryz.underlying25 sz47 Z1 rfl Z1 h1) ?_
   iterate 4 refine pA ?_
   obtain ⟨x4, h3, hm⟩ := bnd hm
   refine pu rfl (ap_idx CFGEdge Zd Tryz.underlying25 sz47 Z1 rfl Z1 h3) ?_
   iterate 2 refine pA ?_
   obtain ⟨⟨r6, r7⟩, h5, hm⟩ := bnd hm
   refine ARun.callQ (r := .tup [.v (.int .u64 r6), .v (.int .i64 r7)]) Zd Z1 fb79 (fun H => (cV (cV .nil))) (ref03Of_c h5) ?_
   iterate 5 refine pA ?_
   refine fs ?_
   refine AWp.reg 64 (N' := 256) rfl ?_
   iterate 2 refine pA ?_
   refine hp (id := 194) rfl rfl (ah_list (CFi .u64) (l := [r6]) Tryz.underlying82 sz42 zc42 Z5 Zd Zd Zd (by simp only [go_sem, Nat.reduceBEq]; try rfl) (by kernel_rfl)) ?_
   obtain ⟨l9, h8, hm⟩ := bnd hm
   refine hp (id := 195) rfl rfl (ah_app (CFi .u64) Tryz.underlying82 Tryz.underlying82 rfl in42 ts42 (by rw [tb42]; decide) (by rw [tb42]; decide) tz42 Zd Zd Z1 Z3 Z6 (as_own (CFi .u64) Z1 Z3 Z6) rfl Z5 h8) ?_
   refine pA ?_
   refine ARun.fin ?_
   refine normIn ?_
   refine normSeq ?_
   refine AWp.reg 64 (N' := 320) rfl ?_
   iterate 3 refine pA ?_
   refine ARun.fin ?_
   refine normThen ?_
   refine ⟨_, ?_, l_0, l9, (IntKind.i64.wrap (i_4 + 1)), rfl, hm⟩
   exact le_canon (fun j => bif j == 1 then 195 else 0) (wV (wO (wD (CFGEdge.sl _ _ _) wk_none))) (hW (eU (CFi .u64) entWk_none))
  ·
   refine AWp.exit ?_
   refine exitSeq ?_
   refine exitThen ?_
   refine exitHere ?_
   refine normSeq ?_
   refine sr (N' := 192) rfl ?_
   iterate 2 refine pA ?_
   refine fs ?_
   refine AWp.ret ?_
   cases hm
   exact ret1D (.inr rfl) Tryz.results63 (tdo (CFi .u64) Z1 Z3 Z6)
def ref14Hashes_B1 (rec1 : Int → GGraph → List GHash → Int → Option ((List GHash))) (tier_1 : Int) (g_2 : GGraph) (out_5 : List GHash) (i_6 : Int) : Option ((List GHash)) :=
 (bif (decide (i_6 < g_2.Config.R)) then
  ((idx g_2.Hashes (IntKind.i64.wrap ((IntKind.i64.wrap (tier_1 * g_2.Config.R)) + i_6))).bind fun x2 =>
  ((app out_5 [x2]).bind fun l4 =>
  rec1 tier_1 g_2 l4 (IntKind.i64.wrap (i_6 + 1))))
 else
  some out_5)
def ref14Hashes_L1 : Nat → Int → GGraph → List GHash → Int → Option ((List GHash))
 | 0 => fun _ _ _ _ => none
 | n + 1 => ref14Hashes_B1 (ref14Hashes_L1 n)
def ref14Hashes_m (g_0 : GGraph) (tier_1 : Int) : Option ((List GHash)) :=
 ref14Hashes_L1 FUEL tier_1 g_0 [] 0
theorem ref14Hashes_c {g_0 : GGraph} {tier_1 : Int} {r : (List GHash)} (hm : ref14Hashes_m g_0 tier_1 = some r) : PureC Tryz.prog 81 [.agg [.v (.int .i64 g_0.Config.N), .v (.int .i64 g_0.Config.L), .v (.int .i64 g_0.Config.R), .sl (g_0.Hashes.flatMap cGHash) g_0.Hashes.length false, .sl (g_0.Edges.flatMap cGEdge) g_0.Edges.length false], .v (.int .i64 tier_1)] (.sl (r.flatMap cGHash) r.length false) := by
 refine PureC.of_body Tryz.func81 rfl ?_
 simp only [Tryz.ntmps81, List.length_cons, List.length_nil, Nat.reduceAdd, Nat.reduceSub, empty_eq]
 unfold ref14Hashes_m at hm
 refine sr (N' := 64) rfl ?_
 refine hp (id := 0) rfl rfl (aheap_box Z1 Z5) ?_
 refine pA ?_
 refine fs ?_
 refine sr (N' := 128) rfl ?_
 refine pA ?_
 refine fs ?_
 refine AWp.seq' ?_
 refine sr (N' := 192) rfl ?_
 refine pA ?_
 refine fs ?_
 refine AWp.block ?_
 refine AWp.loopM (fun m s => ∃ (tier_1 : Int) (g_2 : GGraph) (out_5 : List GHash) (i_6 : Int), s = (⟨29, (fset (fset (fset (fset (fun _ => AV.any) 1 (.v (.int .i64 tier_1))) 2 (.adr 1 0)) 5 (.own 2 0 out_5.length)) 6 (.v (.int .i64 i_6))), ⟨(upd (upd nofresh 1 (.cells 1 [.v (.int .i64 g_2.Config.N), .v (.int .i64 g_2.Config.L), .v (.int .i64 g_2.Config.R), .sl (g_2.Hashes.flatMap cGHash) g_2.Hashes.length false, .sl (g_2.Edges.flatMap cGEdge) g_2.Edges.length false] 0)) 2 (.cells 2 (out_5.flatMap cGHash) 0)), 64⟩⟩ : St) ∧ ref14Hashes_L1 m tier_1 g_2 out_5 i_6 = some r) FUEL ?_ ?_ ?_
 ·
  rintro s ⟨_, _, _, _, _, h⟩
  cases h
 ·
  refine ⟨_, ?_, tier_1, g_0, [], 0, rfl, hm⟩
  refine St.Le.trans (le_nil 5 900005 2 Z1 Z5) ?_
  exact le_canon (fun j => bif j == 1 then 0 else bif j == 2 then 900005 else 0) (wV (wO (wk_fset _ _ (wk_adr Z1 rfl Z7) (wV wk_none)))) (hW (eU CFGHash (entWk_upd (entWk_data Z3 (Nat.le_refl _) (Nat.zero_le _) (CFGGraph.dat g_0)) entWk_none)))
 ·
  rintro n1 s ⟨tier_1, g_2, out_5, i_6, rfl, hm⟩
  replace hm : ref14Hashes_B1 (ref14Hashes_L1 n1) tier_1 g_2 out_5 i_6 = some r := hm
  unfold ref14Hashes_B1 at hm
  refine AWp.seq' ?_
  refine sr (N' := 128) rfl ?_
  iterate 3 refine pA ?_
  refine pu rfl (ap_ldv Z1 Z3 Z4) ?_
  refine pA ?_
  refine fs ?_
  refine AWp.condM hm Z1 (fun _ hm => ?_) (fun _ hm => ?_)
  ·
   refine AWp.skip ?_
   refine normSeq ?_
   refine AWp.seq' ?_
   refine AWp.block ?_
   refine AWp.reg 64 (N' := 192) rfl ?_
   iterate 2 refine pA ?_
   refine pu rfl (ap_ldv Z1 Z3 Z4) ?_
   iterate 3 refine pA ?_
   refine pu rfl (ap_ldv Z1 Z3 Z4) ?_
   iterate 3 refine pA ?_
   obtain ⟨x2, h1, hm⟩ := bnd hm
   refine pu rfl (ap_idx CFGHash Zd Tryz.underlying24 sz44 Z1 rfl Z1 h1) ?_
   refine pA ?_
   refine hp (id := 140) rfl rfl (ah_list CFGHash (l := [x2]) Tryz.underlying24 sz44 zc44 Z5 Zd Zd Zd (by simp only [go_sem, Nat.reduceBEq]; try rfl) (by kernel_rfl)) ?_
   obtain ⟨l4, h3, hm⟩ := bnd hm
   refine hp (id := 141) rfl rfl (ah_app CFGHash Tryz.underlying24 Tryz.underlying24 rfl in44 ts44 (by rw [tb44]; decide) (by rw [tb44]; decide) tz44 Zd Zd Z1 Z3 Z6 (as_own CFGHash Z1 Z3 Z6) rfl Z5 h3) ?_
   refine pA ?_
   refine ARun.fin ?_
   refine normIn ?_
   refine normSeq ?_
   refine AWp.reg 64 (N' := 256) rfl ?_
   iterate 3 refine pA ?_
   refine ARun.fin ?_
   refine normThen ?_
   refine ⟨_, ?_, tier_1, g_2, l4, (IntKind.i64.wrap (i_6 + 1)), rfl, hm⟩
   exact le_canon (fun j => bif j == 1 then 1 else bif j == 2 then 141 else 0) (wV (wO (wk_fset _ _ (wk_adr Z1 rfl Z7) (wV wk_none)))) (hW (eU CFGHash (entWk_upd (entWk_data Z3 (Nat.le_refl _) (Nat.zero_le _) (CFGGraph.dat g_2)) entWk_none)))
  ·
   refine AWp.exit ?_
   refine exitSeq ?_
   refine exitThen ?_
   refine exitHere ?_
   refine normSeq ?_
   refine sr (N' := 192) rfl ?_
   iterate 2 refine pA ?_
   refine fs ?_
   refine AWp.ret ?_
   cases hm
   exact ret1D (.inr rfl) Tryz.results81 (tdo CFGHash Z1 Z3 Z6)
def ref04Levels_J1 (bits_3 : Int) : Option (Int) :=
 some (IntKind.i64.wrap ((IntKind.i64.wrap (2 * bits_3)) + 2))
def ref04Levels_B1 (rec1 : Int → Int → Int → Option (Int)) (n_0 : Int) (bits_3 : Int) (many_4 : Int) : Option (Int) :=
 (bif ((decide (many_4 < n_0)) && (decide (bits_3 < 62))) then
  rec1 n_0 (IntKind.i64.wrap (bits_3 + 1)) (IntKind.i64.wrap (2 * many_4))
 else
  (bif (decide (many_4 < n_0)) then
   ref04Levels_J1 63
  else
   ref04Levels_J1 bits_3))
def ref04Levels_L1 : Nat → Int → Int → Int → Option (Int)
 | 0 => fun _ _ _ => none
 | n + 1 => ref04Levels_B1 (ref04Levels_L1 n)
def ref04Levels_m (n_0 : Int) : Option (Int) :=
 (bif (decide (n_0 < 1)) then
  some 0
 else
  ref04Levels_L1 FUEL n_0 0 1)
theorem ref04Levels_c {n_0 : Int} {r : Int} (hm : ref04Levels_m n_0 = some r) : PureC Tryz.prog 82 [.v (.int .i64 n_0)] (.v (.int .i64 r)) := by
 refine PureC.of_body Tryz.func82 rfl ?_
 simp only [Tryz.ntmps82, List.length_cons, List.length_nil, Nat.reduceAdd, Nat.reduceSub, empty_eq]
 unfold ref04Levels_m at hm
 refine sr (N' := 64) rfl ?_
 refine pA ?_
 refine fs ?_
 refine AWp.seq' ?_
 refine sr (N' := 128) rfl ?_
 iterate 2 refine pA ?_
 refine fs ?_
 refine AWp.condM hm Z1 (fun _ hm => ?_) (fun _ hm => ?_)
 ·
  refine sr (N' := 192) rfl ?_
  refine pA ?_
  refine fs ?_
  refine AWp.ret ?_
  refine retSeq ?_
  cases hm
  exact ret1D (.inr rfl) Tryz.results82 (td Z1 (.v _))
 ·
  refine AWp.skip ?_
  refine normSeq ?_
  refine sr (N' := 192) rfl ?_
  iterate 2 refine pA ?_
  refine fs ?_
  refine AWp.seq' ?_
  refine AWp.block ?_
  refine AWp.loopM (fun m s => ∃ (n_0 : Int) (bits_3 : Int) (many_4 : Int), s = (⟨24, (fset (fset (fset (fun _ => AV.any) 0 (.v (.int .i64 n_0))) 3 (.v (.int .i64 bits_3))) 4 (.v (.int .i64 many_4))), ⟨nofresh, 64⟩⟩ : St) ∧ ref04Levels_L1 m n_0 bits_3 many_4 = some r) FUEL ?_ ?_ ?_
  ·
   rintro s ⟨_, _, _, _, h⟩
   cases h
  ·
   refine ⟨_, ?_, n_0, 0, 1, rfl, hm⟩
   exact le_canon id (wV (wV (wV wk_none))) heapWk0
  ·
   rintro n1 s ⟨n_0, bits_3, many_4, rfl, hm⟩
   replace hm : ref04Levels_B1 (ref04Levels_L1 n1) n_0 bits_3 many_4 = some r := hm
   unfold ref04Levels_B1 at hm
   refine AWp.seq' ?_
   refine sr (N' := 128) rfl ?_
   iterate 7 first | refine pA ?_ | refine pB ?_
   refine fs ?_
   refine AWp.condM hm Z1 (fun _ hm => ?_) (fun _ hm => ?_)
   ·
    refine AWp.skip ?_
    refine normSeq ?_
    refine AWp.block ?_
    refine sr (N' := 192) rfl ?_
    iterate 3 refine pA ?_
    refine fs ?_
    refine AWp.reg 64 (N' := 256) rfl ?_
    iterate 3 refine pA ?_
    refine ARun.fin ?_
    refine normIn ?_
    refine normThen ?_
    refine ⟨_, ?_, n_0, (IntKind.i64.wrap (bits_3 + 1)), (IntKind.i64.wrap (2 * many_4)), rfl, hm⟩
    exact le_canon id (wV (wV (wV wk_none))) heapWk0
   ·
    refine AWp.exit ?_
    refine exitSeq ?_
    refine exitThen ?_
    refine exitHere ?_
    refine normSeq ?_
    refine AWp.seqJ (fun s => ∃ (bits_3 : Int), s = (⟨24, (fset (fun _ => AV.any) 3 (.v (.int .i64 bits_3))), ⟨nofresh, 64⟩⟩ : St) ∧ ref04Levels_J1 bits_3 = some r) ?_ ?_
    ·
     refine sr (N' := 192) rfl ?_
     iterate 3 refine pA ?_
     refine fs ?_
     refine AWp.condM hm Z1 (fun _ hm => ?_) (fun _ hm => ?_)
     ·
      refine AWp.reg 64 (N' := 256) rfl ?_
      refine pA ?_
      refine ARun.fin ?_
      refine normJ ?_
      refine ⟨_, ?_, 63, rfl, hm⟩
      exact le_canon id (wV wk_none) heapWk0
     ·
      refine AWp.skip ?_
      refine normJ ?_
      refine ⟨_, ?_, bits_3, rfl, hm⟩
      exact le_canon id (wV wk_none) heapWk0
    ·
     rintro s ⟨bits_3, rfl, hm⟩
     unfold ref04Levels_J1 at hm
     refine sr (N' := 128) rfl ?_
     iterate 4 refine pA ?_
     refine fs ?_
     refine AWp.ret ?_
     cases hm
     exact ret1D (.inr rfl) Tryz.results82 (td Z1 (.v _))
def ref01Add_m (a_0 : Int) (b_1 : Int) : Option (Int) :=
 some (Int.tmod (IntKind.u64.wrap ((Int.tmod a_0 2305843009213693951) + (Int.tmod b_1 2305843009213693951))) 2305843009213693951)
theorem ref01Add_c {a_0 : Int} {b_1 : Int} {r : Int} (hm : ref01Add_m a_0 b_1 = some r) : PureC Tryz.prog 101 [.v (.int .u64 a_0), .v (.int .u64 b_1)] (.v (.int .u64 r)) := by
 refine PureC.of_body Tryz.func101 rfl ?_
 simp only [Tryz.ntmps101, List.length_cons, List.length_nil, Nat.reduceAdd, Nat.reduceSub, empty_eq]
 unfold ref01Add_m at hm
 refine sr (N' := 64) rfl ?_
 refine pA ?_
 refine fs ?_
 refine sr (N' := 128) rfl ?_
 iterate 7 refine pu rfl (by simp only [go_sem, Nat.reduceBEq, Int.reduceEq, Int.reduceLE]; try with_reducible rfl) ?_
 refine fs ?_
 refine AWp.ret ?_
 cases hm
 exact ret1D (.inr rfl) Tryz.results101 (td Z1 (.v _))
def ref01Mul_J1 (rec1 : Int → Int → Int → Int → Option (Int)) (a_0 : Int) (b_1 : Int) (out_5 : Int) (i_6 : Int) : Option (Int) :=
 rec1 a_0 b_1 out_5 (IntKind.i64.wrap (i_6 - 1))
def ref01Mul_B1 (rec1 : Int → Int → Int → Int → Option (Int)) (a_0 : Int) (b_1 : Int) (out_5 : Int) (i_6 : Int) : Option (Int) :=
 (bif (decide (0 ≤ i_6)) then
  ((ref01Add_m out_5 out_5).bind fun r2 =>
  ((chk (decide (0 ≤ (IntKind.u64.wrap i_6)))).bind fun _ =>
  (bif ((Int.tmod (shr .u64 b_1 (IntKind.u64.wrap i_6)) 2) == 1) then
   ((ref01Add_m r2 a_0).bind fun r5 =>
   ref01Mul_J1 rec1 a_0 b_1 r5 i_6)
  else
   ref01Mul_J1 rec1 a_0 b_1 r2 i_6)))
 else
  some out_5)
def ref01Mul_L1 : Nat → Int → Int → Int → Int → Option (Int)
 | 0 => fun _ _ _ _ => none
 | n + 1 => ref01Mul_B1 (ref01Mul_L1 n)
def ref01Mul_m (a_0 : Int) (b_1 : Int) : Option (Int) :=
 ref01Mul_L1 FUEL (Int.tmod a_0 2305843009213693951) (Int.tmod b_1 2305843009213693951) 0 60
theorem ref01Mul_c {a_0 : Int} {b_1 : Int} {r : Int} (hm : ref01Mul_m a_0 b_1 = some r) : PureC Tryz.prog 102 [.v (.int .u64 a_0), .v (.int .u64 b_1)] (.v (.int .u64 r)) := by
 refine PureC.of_body Tryz.func102 rfl ?_
 simp only [Tryz.ntmps102, List.length_cons, List.length_nil, Nat.reduceAdd, Nat.reduceSub, empty_eq]
 unfold ref01Mul_m at hm
 refine sr (N' := 64) rfl ?_
 refine pA ?_
 refine fs ?_
 refine sr (N' := 128) rfl ?_
 refine pA ?_
 refine fs ?_
 refine sr (N' := 192) rfl ?_
 iterate 3 refine pu rfl (by simp only [go_sem, Nat.reduceBEq, Int.reduceEq, Int.reduceLE]; try with_reducible rfl) ?_
 refine fs ?_
 refine sr (N' := 256) rfl ?_
 iterate 3 refine pu rfl (by simp only [go_sem, Nat.reduceBEq, Int.reduceEq, Int.reduceLE]; try with_reducible rfl) ?_
 refine fs ?_
 refine AWp.seq' ?_
 refine sr (N' := 320) rfl ?_
 refine pA ?_
 refine fs ?_
 refine AWp.block ?_
 refine AWp.loopM (fun m s => ∃ (a_0 : Int) (b_1 : Int) (out_5 : Int) (i_6 : Int), s = (⟨28, (fset (fset (fset (fset (fun _ => AV.any) 0 (.v (.int .u64 a_0))) 1 (.v (.int .u64 b_1))) 5 (.v (.int .u64 out_5))) 6 (.v (.int .i64 i_6))), ⟨nofresh, 64⟩⟩ : St) ∧ ref01Mul_L1 m a_0 b_1 out_5 i_6 = some r) FUEL ?_ ?_ ?_
 ·
  rintro s ⟨_, _, _, _, _, h⟩
  cases h
 ·
  refine ⟨_, ?_, (Int.tmod a_0 2305843009213693951), (Int.tmod b_1 2305843009213693951), 0, 60, rfl, hm⟩
  exact le_canon id (wV (wV (wV (wV wk_none)))) heapWk0
 ·
  rintro n1 s ⟨a_0, b_1, out_5, i_6, rfl, hm⟩
  replace hm : ref01Mul_B1 (ref01Mul_L1 n1) a_0 b_1 out_5 i_6 = some r := hm
  unfold ref01Mul_B1 at hm
  refine AWp.seq' ?_
  refine sr (N' := 128) rfl ?_
  iterate 2 refine pA ?_
  refine fs ?_
  refine AWp.condM hm Z1 (fun _ hm => ?_) (fun _ hm => ?_)
  ·
   refine AWp.skip ?_
   refine normSeq ?_
   refine AWp.seqJ (fun s => ∃ (a_0 : Int) (b_1 : Int) (out_5 : Int) (i_6 : Int), s = (⟨28, (fset (fset (fset (fset (fun _ => AV.any) 0 (.v (.int .u64 a_0))) 1 (.v (.int .u64 b_1))) 5 (.v (.int .u64 out_5))) 6 (.v (.int .i64 i_6))), ⟨nofresh, 64⟩⟩ : St) ∧ ref01Mul_J1 (ref01Mul_L1 n1) a_0 b_1 out_5 i_6 = some r) ?_ ?_
   ·
    refine AWp.block ?_
    refine sr (N' := 192) rfl ?_
    iterate 2 refine pA ?_
    obtain ⟨r2, h1, hm⟩ := bnd hm
    refine ARun.callQ (r := .v (.int .u64 r2)) Zd Z1 fb101 (fun H => (cV (cV .nil))) (ref01Add_c h1) ?_
    refine pA ?_
    refine fs ?_
    refine sr (N' := 256) rfl ?_
    iterate 3 refine pA ?_
    obtain ⟨_, h3, hm⟩ := bnd hm
    refine pu rfl (ap_shr Z1 Z1 (chk_t h3)) ?_
    iterate 2 refine pu rfl (by simp only [go_sem, Nat.reduceBEq, Int.reduceEq, Int.reduceLE]; try with_reducible rfl) ?_
    refine fs ?_
    refine AWp.condM hm Z1 (fun _ hm => ?_) (fun _ hm => ?_)
    ·
     refine AWp.reg 64 (N' := 320) rfl ?_
     iterate 2 refine pA ?_
     obtain ⟨r5, h4, hm⟩ := bnd hm
     refine ARun.callQ (r := .v (.int .u64 r5)) Zd Z1 fb101 (fun H => (cV (cV .nil))) (ref01Add_c h4) ?_
     refine pA ?_
     refine ARun.fin ?_
     refine normIn ?_
     refine normJ ?_
     refine ⟨_, ?_, a_0, b_1, r5, i_6, rfl, hm⟩
     exact le_canon id (wV (wV (wV (wV wk_none)))) heapWk0
    ·
     refine AWp.skip ?_
     refine normIn ?_
     refine normJ ?_
     refine ⟨_, ?_, a_0, b_1, r2, i_6, rfl, hm⟩
     exact le_canon id (wV (wV (wV (wV wk_none)))) heapWk0
   ·
    rintro s ⟨a_0, b_1, out_5, i_6, rfl, hm⟩
    unfold ref01Mul_J1 at hm
    refine AWp.reg 64 (N' := 128) rfl ?_
    iterate 3 refine pA ?_
    refine ARun.fin ?_
    refine normThen ?_
    refine ⟨_, ?_, a_0, b_1, out_5, (IntKind.i64.wrap (i_6 - 1)), rfl, hm⟩
    exact le_canon id (wV (wV (wV (wV wk_none)))) heapWk0
  ·
   refine AWp.exit ?_
   refine exitSeq ?_
   refine exitThen ?_
   refine exitHere ?_
   refine normSeq ?_
   refine sr (N' := 192) rfl ?_
   iterate 2 refine pA ?_
   refine fs ?_
   refine AWp.ret ?_
   cases hm
   exact ret1D (.inr rfl) Tryz.results102 (td Z1 (.v _))
def ref04Value_m (h_0 : GHash) (name_1 : Int) : Option (Int) :=
 ((ref01Mul_m h_0.A name_1).bind fun r2 =>
 ((ref01Add_m r2 h_0.B).bind fun r4 =>
 some r4))
theorem ref04Value_c {h_0 : GHash} {name_1 : Int} {r : Int} (hm : ref04Value_m h_0 name_1 = some r) : PureC Tryz.prog 91 [.agg [.v (.int .u64 h_0.A), .v (.int .u64 h_0.B)], .v (.int .u64 name_1)] (.v (.int .u64 r)) := by
 refine PureC.of_body Tryz.func91 rfl ?_
 simp only [Tryz.ntmps91, List.length_cons, List.length_nil, Nat.reduceAdd, Nat.reduceSub, empty_eq]
 unfold ref04Value_m at hm
 refine sr (N' := 64) rfl ?_
 refine hp (id := 0) rfl rfl (aheap_box Z1 Z5) ?_
 refine pA ?_
 refine fs ?_
 refine sd mix (by kernel_rfl) (N' := 128) rfl ?_
 refine pA ?_
 refine pu rfl (ap_ldv Z1 Z3 Z4) ?_
 refine pA ?_
 obtain ⟨r2, h1, hm⟩ := bnd hm
 refine ARun.callQ (r := .v (.int .u64 r2)) Zd Z1 fb102 (fun H => (cV (cV .nil))) (ref01Mul_c h1) ?_
 refine pA ?_
 refine pu rfl (ap_ldv Z1 Z3 Z4) ?_
 obtain ⟨r4, h3, hm⟩ := bnd hm
 refine ARun.callQ (r := .v (.int .u64 r4)) Zd Z1 fb101 (fun H => (cV (cV .nil))) (ref01Add_c h3) ?_
 refine pA ?_
 refine fs ?_
 refine AWp.ret ?_
 cases hm
 exact ret1D (.inr rfl) Tryz.results91 (td Z1 (.v _))
def ref04Bound_B1 (rec1 : Int → Int → Int → Option (Int)) (level_0 : Int) (n_3 : Int) (i_4 : Int) : Option (Int) :=
 (bif (decide (i_4 < level_0)) then
  rec1 level_0 (IntKind.u64.wrap (Int.tdiv n_3 2)) (IntKind.i64.wrap (i_4 + 1))
 else
  some n_3)
def ref04Bound_L1 : Nat → Int → Int → Int → Option (Int)
 | 0 => fun _ _ _ => none
 | n + 1 => ref04Bound_B1 (ref04Bound_L1 n)
def ref04Bound_m (level_0 : Int) : Option (Int) :=
 (bif ((decide (level_0 < 0)) || (decide (60 < level_0))) then
  some 0
 else
  ref04Bound_L1 FUEL level_0 2305843009213693951 0)
theorem ref04Bound_c {level_0 : Int} {r : Int} (hm : ref04Bound_m level_0 = some r) : PureC Tryz.prog 92 [.v (.int .i64 level_0)] (.v (.int .u64 r)) := by
 refine PureC.of_body Tryz.func92 rfl ?_
 simp only [Tryz.ntmps92, List.length_cons, List.length_nil, Nat.reduceAdd, Nat.reduceSub, empty_eq]
 unfold ref04Bound_m at hm
 refine sr (N' := 64) rfl ?_
 refine pA ?_
 refine fs ?_
 refine AWp.seq' ?_
 refine sr (N' := 128) rfl ?_
 iterate 6 first | refine pA ?_ | refine pB ?_
 refine fs ?_
 refine AWp.condM hm Z1 (fun _ hm => ?_) (fun _ hm => ?_)
 ·
  refine sr (N' := 192) rfl ?_
  refine pA ?_
  refine fs ?_
  refine AWp.ret ?_
  refine retSeq ?_
  cases hm
  exact ret1D (.inr rfl) Tryz.results92 (td Z1 (.v _))
 ·
  refine AWp.skip ?_
  refine normSeq ?_
  refine sr (N' := 192) rfl ?_
  refine pA ?_
  refine fs ?_
  refine AWp.seq' ?_
  refine sr (N' := 256) rfl ?_
  refine pA ?_
  refine fs ?_
  refine AWp.block ?_
  refine AWp.loopM (fun m s => ∃ (level_0 : Int) (n_3 : Int) (i_4 : Int), s = (⟨19, (fset (fset (fset (fun _ => AV.any) 0 (.v (.int .i64 level_0))) 3 (.v (.int .u64 n_3))) 4 (.v (.int .i64 i_4))), ⟨nofresh, 64⟩⟩ : St) ∧ ref04Bound_L1 m level_0 n_3 i_4 = some r) FUEL ?_ ?_ ?_
  ·
   rintro s ⟨_, _, _, _, h⟩
   cases h
  ·
   refine ⟨_, ?_, level_0, 2305843009213693951, 0, rfl, hm⟩
   exact le_canon id (wV (wV (wV wk_none))) heapWk0
  ·
   rintro n1 s ⟨level_0, n_3, i_4, rfl, hm⟩
   replace hm : ref04Bound_B1 (ref04Bound_L1 n1) level_0 n_3 i_4 = some r := hm
   unfold ref04Bound_B1 at hm
   refine AWp.seq' ?_
   refine sr (N' := 128) rfl ?_
   iterate 3 refine pA ?_
   refine fs ?_
   refine AWp.condM hm Z1 (fun _ hm => ?_) (fun _ hm => ?_)
   ·
    refine AWp.skip ?_
    refine normSeq ?_
    refine AWp.seq' ?_
    refine AWp.block ?_
    refine AWp.reg 64 (N' := 192) rfl ?_
    iterate 3 refine pu rfl (by simp only [go_sem, Nat.reduceBEq, Int.reduceEq, Int.reduceLE]; try with_reducible rfl) ?_
    refine ARun.fin ?_
    refine normIn ?_
    refine normSeq ?_
    refine AWp.reg 64 (N' := 256) rfl ?_
    iterate 3 refine pA ?_
    refine ARun.fin ?_
    refine normThen ?_
    refine ⟨_, ?_, level_0, (IntKind.u64.wrap (Int.tdiv n_3 2)), (IntKind.i64.wrap (i_4 + 1)), rfl, hm⟩
    exact le_canon id (wV (wV (wV wk_none))) heapWk0
   ·
    refine AWp.exit ?_
    refine exitSeq ?_
    refine exitThen ?_
    refine exitHere ?_
    refine normSeq ?_
    refine sr (N' := 192) rfl ?_
    iterate 2 refine pA ?_
    refine fs ?_
    refine AWp.ret ?_
    cases hm
    exact ret1D (.inr rfl) Tryz.results92 (td Z1 (.v _))
def ref05Words_J1 (rec1 : List GHash → Int → List Int → List Int → Int → Option ((List Int))) (rec2 : List GHash → Int → List Int → List Int → Int → Int → Option ((List Int))) (rec3 : List GHash → Int → List Int → List Int → Int → Int → Int → Int → Option ((List Int))) (l_0 : List GHash) (v_1 : Int) (names_2 : List Int) (out_7 : List Int) (r_8 : Int) (j_9 : Int) (w_10 : Int) (i_11 : Int) : Option ((List Int)) :=
 rec3 l_0 v_1 names_2 out_7 r_8 j_9 w_10 (IntKind.i64.wrap (i_11 + 1))
def ref05Words_B3 (rec1 : List GHash → Int → List Int → List Int → Int → Option ((List Int))) (rec2 : List GHash → Int → List Int → List Int → Int → Int → Option ((List Int))) (rec3 : List GHash → Int → List Int → List Int → Int → Int → Int → Int → Option ((List Int))) (l_0 : List GHash) (v_1 : Int) (names_2 : List Int) (out_7 : List Int) (r_8 : Int) (j_9 : Int) (w_10 : Int) (i_11 : Int) : Option ((List Int)) :=
 (bif (decide (i_11 < (names_2.length : Int))) then
  ((idx l_0 r_8).bind fun x2 =>
  ((idx names_2 i_11).bind fun x4 =>
  ((ref04Value_m x2 x4).bind fun r6 =>
  ((ref04Bound_m j_9).bind fun r8 =>
  (bif (decide (r6 < r8)) then
   ((idx names_2 i_11).bind fun x10 =>
   ref05Words_J1 rec1 rec2 rec3 l_0 v_1 names_2 out_7 r_8 j_9 (bxor .u64 w_10 x10) i_11)
  else
   ref05Words_J1 rec1 rec2 rec3 l_0 v_1 names_2 out_7 r_8 j_9 w_10 i_11)))))
 else
  ((app out_7 [w_10]).bind fun l12 =>
  rec2 l_0 v_1 names_2 l12 r_8 (IntKind.i64.wrap (j_9 + 1))))
def ref05Words_L3 (rec1 : List GHash → Int → List Int → List Int → Int → Option ((List Int))) (rec2 : List GHash → Int → List Int → List Int → Int → Int → Option ((List Int))) : Nat → List GHash → Int → List Int → List Int → Int → Int → Int → Int → Option ((List Int))
 | 0 => fun _ _ _ _ _ _ _ _ => none
 | n + 1 => ref05Words_B3 rec1 rec2 (ref05Words_L3 rec1 rec2 n)
def ref05Words_B2 (rec1 : List GHash → Int → List Int → List Int → Int → Option ((List Int))) (rec2 : List GHash → Int → List Int → List Int → Int → Int → Option ((List Int))) (l_0 : List GHash) (v_1 : Int) (names_2 : List Int) (out_7 : List Int) (r_8 : Int) (j_9 : Int) : Option ((List Int)) :=
 (bif (decide (j_9 < v_1)) then
  ref05Words_L3 rec1 rec2 FUEL l_0 v_1 names_2 out_7 r_8 j_9 0 0
 else
  rec1 l_0 v_1 names_2 out_7 (IntKind.i64.wrap (r_8 + 1)))
def ref05Words_L2 (rec1 : List GHash → Int → List Int → List Int → Int → Option ((List Int))) : Nat → List GHash → Int → List Int → List Int → Int → Int → Option ((List Int))
 | 0 => fun _ _ _ _ _ _ => none
 | n + 1 => ref05Words_B2 rec1 (ref05Words_L2 rec1 n)
def ref05Words_B1 (rec1 : List GHash → Int → List Int → List Int → Int → Option ((List Int))) (l_0 : List GHash) (v_1 : Int) (names_2 : List Int) (out_7 : List Int) (r_8 : Int) : Option ((List Int)) :=
 (bif (decide (r_8 < (l_0.length : Int))) then
  ref05Words_L2 rec1 FUEL l_0 v_1 names_2 out_7 r_8 0
 else
  some out_7)
def ref05Words_L1 : Nat → List GHash → Int → List Int → List Int → Int → Option ((List Int))
 | 0 => fun _ _ _ _ _ => none
 | n + 1 => ref05Words_B1 (ref05Words_L1 n)
def ref05Words_m (l_0 : List GHash) (v_1 : Int) (names_2 : List Int) : Option ((List Int)) :=
 ref05Words_L1 FUEL l_0 v_1 names_2 [] 0
theorem ref05Words_c {l_0 : List GHash} {v_1 : Int} {names_2 : List Int} {r : (List Int)} (hm : ref05Words_m l_0 v_1 names_2 = some r) : PureC Tryz.prog 80 [.sl (l_0.flatMap cGHash) l_0.length false, .v (.int .i64 v_1), .sl (names_2.flatMap (ci .u64)) names_2.length false] (.sl (r.flatMap (ci .u64)) r.length false) := by
 refine PureC.of_body Tryz.func80 rfl ?_
 simp only [Tryz.ntmps80, List.length_cons, List.length_nil, Nat.reduceAdd, Nat.reduceSub, empty_eq]
 unfold ref05Words_m at hm
 refine sr (N' := 64) rfl ?_
 refine pA ?_
 refine fs ?_
 refine sr (N' := 128) rfl ?_
 refine pA ?_
 refine fs ?_
 refine AWp.seq' ?_
 refine sr (N' := 192) rfl ?_
 refine pA ?_
 refine fs ?_
 refine AWp.block ?_
 refine AWp.loopM (fun m s => ∃ (l_0 : List GHash) (v_1 : Int) (names_2 : List Int) (out_7 : List Int) (r_8 : Int), s = (⟨52, (fset (fset (fset (fset (fset (fun _ => AV.any) 0 (.sl (l_0.flatMap cGHash) l_0.length false)) 1 (.v (.int .i64 v_1))) 2 (.sl (names_2.flatMap (ci .u64)) names_2.length false)) 7 (.own 1 0 out_7.length)) 8 (.v (.int .i64 r_8))), ⟨(upd nofresh 1 (.cells 1 (out_7.flatMap (ci .u64)) 0)), 64⟩⟩ : St) ∧ ref05Words_L1 m l_0 v_1 names_2 out_7 r_8 = some r) FUEL ?_ ?_ ?_
 ·
  rintro s ⟨_, _, _, _, _, _, h⟩
  cases h
 ·
  refine ⟨_, ?_, l_0, v_1, names_2, [], 0, rfl, hm⟩
  refine St.Le.trans (le_nil 7 900007 1 Z1 Z5) ?_
  exact le_canon (fun j => bif j == 1 then 900007 else 0) (wV (wO (wD ((CFi .u64).sl _ _ _) (wV (wD (CFGHash.sl _ _ _) wk_none))))) (hW (eU (CFi .u64) entWk_none))
 ·
  rintro n1 s ⟨l_0, v_1, names_2, out_7, r_8, rfl, hm⟩
  replace hm : ref05Words_B1 (ref05Words_L1 n1) l_0 v_1 names_2 out_7 r_8 = some r := hm
  unfold ref05Words_B1 at hm
  refine AWp.seq' ?_
  refine sr (N' := 128) rfl ?_
  iterate 4 refine pA ?_
  refine fs ?_
  refine AWp.condM hm Z1 (fun _ hm => ?_) (fun _ hm => ?_)
  ·
   refine AWp.skip ?_
   refine normSeq ?_
   refine AWp.seq' ?_
   refine AWp.block ?_
   refine sr (N' := 192) rfl ?_
   refine pA ?_
   refine fs ?_
   refine AWp.block ?_
   refine AWp.loopM (fun m s => ∃ (l_0 : List GHash) (v_1 : Int) (names_2 : List Int) (out_7 : List Int) (r_8 : Int) (j_9 : Int), s = (⟨52, (fset (fset (fset (fset (fset (fset (fun _ => AV.any) 0 (.sl (l_0.flatMap cGHash) l_0.length false)) 1 (.v (.int .i64 v_1))) 2 (.sl (names_2.flatMap (ci .u64)) names_2.length false)) 7 (.own 1 0 out_7.length)) 8 (.v (.int .i64 r_8))) 9 (.v (.int .i64 j_9))), ⟨(upd nofresh 1 (.cells 1 (out_7.flatMap (ci .u64)) 0)), 64⟩⟩ : St) ∧ ref05Words_L2 (ref05Words_L1 n1) m l_0 v_1 names_2 out_7 r_8 j_9 = some r) FUEL ?_ ?_ ?_
   ·
    rintro s ⟨_, _, _, _, _, _, _, h⟩
    cases h
   ·
    refine ⟨_, ?_, l_0, v_1, names_2, out_7, r_8, 0, rfl, hm⟩
    exact le_canon (fun j => bif j == 1 then 1 else 0) (wV (wV (wO (wD ((CFi .u64).sl _ _ _) (wV (wD (CFGHash.sl _ _ _) wk_none)))))) (hW (eU (CFi .u64) entWk_none))
   ·
    rintro n2 s ⟨l_0, v_1, names_2, out_7, r_8, j_9, rfl, hm⟩
    replace hm : ref05Words_B2 (ref05Words_L1 n1) (ref05Words_L2 (ref05Words_L1 n1) n2) l_0 v_1 names_2 out_7 r_8 j_9 = some r := hm
    unfold ref05Words_B2 at hm
    refine AWp.seq' ?_
    refine sr (N' := 128) rfl ?_
    iterate 3 refine pA ?_
    refine fs ?_
    refine AWp.condM hm Z1 (fun _ hm => ?_) (fun _ hm => ?_)
    ·
     refine AWp.skip ?_
     refine normSeq ?_
     refine AWp.seq' ?_
     refine AWp.block ?_
     refine sr (N' := 192) rfl ?_
     refine pA ?_
     refine fs ?_
     refine AWp.seq' ?_
     refine sr (N' := 256) rfl ?_
     refine pA ?_
     refine fs ?_
     refine AWp.block ?_
     refine AWp.loopM (fun m s => ∃ (l_0 : List GHash) (v_1 : Int) (names_2 : List Int) (out_7 : List Int) (r_8 : Int) (j_9 : Int) (w_10 : Int) (i_11 : Int), s = (⟨52, (fset (fset (fset (fset (fset (fset (fset (fset (fun _ => AV.any) 0 (.sl (l_0.flatMap cGHash) l_0.length false)) 1 (.v (.int .i64 v_1))) 2 (.sl (names_2.flatMap (ci .u64)) names_2.length false)) 7 (.own 1 0 out_7.length)) 8 (.v (.int .i64 r_8))) 9 (.v (.int .i64 j_9))) 10 (.v (.int .u64 w_10))) 11 (.v (.int .i64 i_11))), ⟨(upd nofresh 1 (.cells 1 (out_7.flatMap (ci .u64)) 0)), 64⟩⟩ : St) ∧ ref05Words_L3 (ref05Words_L1 n1) (ref05Words_L2 (ref05Words_L1 n1) n2) m l_0 v_1 names_2 out_7 r_8 j_9 w_10 i_11 = some r) FUEL ?_ ?_ ?_
     ·
      rintro s ⟨_, _, _, _, _, _, _, _, _, h⟩
      cases h
     ·
      refine ⟨_, ?_, l_0, v_1, names_2, out_7, r_8, j_9, 0, 0, rfl, hm⟩
      exact le_canon (fun j => bif j == 1 then 1 else 0) (wV (wV (wV (wV (wO (wD ((CFi .u64).sl _ _ _) (wV (wD (CFGHash.sl _ _ _) wk_none)))))))) (hW (eU (CFi .u64) entWk_none))
     ·
      rintro n3 s ⟨l_0, v_1, names_2, out_7, r_8, j_9, w_10, i_11, rfl, hm⟩
      replace hm : ref05Words_B3 (ref05Words_L1 n1) (ref05Words_L2 (ref05Words_L1 n1) n2) (ref05Words_L3 (ref05Words_L1 n1) (ref05Words_L2 (ref05Words_L1 n1) n2) n3) l_0 v_1 names_2 out_7 r_8 j_9 w_10 i_11 = some r := hm
      unfold ref05Words_B3 at hm
      refine AWp.seq' ?_
      refine sr (N' := 128) rfl ?_
      iterate 4 refine pA ?_
      refine fs ?_
      refine AWp.condM hm Z1 (fun _ hm => ?_) (fun _ hm => ?_)
      ·
       refine AWp.skip ?_
       refine normSeq ?_
       refine AWp.seqJ (fun s => ∃ (l_0 : List GHash) (v_1 : Int) (names_2 : List Int) (out_7 : List Int) (r_8 : Int) (j_9 : Int) (w_10 : Int) (i_11 : Int), s = (⟨52, (fset (fset (fset (fset (fset (fset (fset (fset (fun _ => AV.any) 0 (.sl (l_0.flatMap cGHash) l_0.length false)) 1 (.v (.int .i64 v_1))) 2 (.sl (names_2.flatMap (ci .u64)) names_2.length false)) 7 (.own 1 0 out_7.length)) 8 (.v (.int .i64 r_8))) 9 (.v (.int .i64 j_9))) 10 (.v (.int .u64 w_10))) 11 (.v (.int .i64 i_11))), ⟨(upd nofresh 1 (.cells 1 (out_7.flatMap (ci .u64)) 0)), 64⟩⟩ : St) ∧ ref05Words_J1 (ref05Words_L1 n1) (ref05Words_L2 (ref05Words_L1 n1) n2) (ref05Words_L3 (ref05Words_L1 n1) (ref05Words_L2 (ref05Words_L1 n1) n2) n3) l_0 v_1 names_2 out_7 r_8 j_9 w_10 i_11 = some r) ?_ ?_
       ·
        refine AWp.block ?_
        refine sd mix (by kernel_rfl) (N' := 192) rfl ?_
        iterate 2 refine pA ?_
        obtain ⟨x2, h1, hm⟩ := bnd hm
        refine pu rfl (ap_idx CFGHash Zd Tryz.underlying24 sz44 Z1 rfl Z1 h1) ?_
        iterate 3 refine pA ?_
        obtain ⟨x4, h3, hm⟩ := bnd hm
        refine pu rfl (ap_idx (CFi .u64) Zd Tryz.underlying82 sz42 Z1 rfl Z1 h3) ?_
        refine pA ?_
        obtain ⟨r6, h5, hm⟩ := bnd hm
        refine ARun.callQ (r := .v (.int .u64 r6)) Zd Z1 fb91 (fun H => (cD (.agg _ (CFGHash.dat _)) (cV .nil))) (ref04Value_c h5) ?_
        refine pA ?_
        obtain ⟨r8, h7, hm⟩ := bnd hm
        refine ARun.callQ (r := .v (.int .u64 r8)) Zd Z1 fb92 (fun H => (cV .nil)) (ref04Bound_c h7) ?_
        refine pA ?_
        refine fs ?_
        refine AWp.condM hm Z1 (fun _ hm => ?_) (fun _ hm => ?_)
        ·
         refine AWp.reg 64 (N' := 256) rfl ?_
         iterate 3 refine pA ?_
         obtain ⟨x10, h9, hm⟩ := bnd hm
         refine pu rfl (ap_idx (CFi .u64) Zd Tryz.underlying82 sz42 Z1 rfl Z1 h9) ?_
         iterate 3 refine pA ?_
         refine ARun.fin ?_
         refine normIn ?_
         refine normJ ?_
         refine ⟨_, ?_, l_0, v_1, names_2, out_7, r_8, j_9, (bxor .u64 w_10 x10), i_11, rfl, hm⟩
         exact le_canon (fun j => bif j == 1 then 1 else 0) (wV (wV (wV (wV (wO (wD ((CFi .u64).sl _ _ _) (wV (wD (CFGHash.sl _ _ _) wk_none)))))))) (hW (eU (CFi .u64) entWk_none))
        ·
         refine AWp.skip ?_
         refine normIn ?_
         refine normJ ?_
         refine ⟨_, ?_, l_0, v_1, names_2, out_7, r_8, j_9, w_10, i_11, rfl, hm⟩
         exact le_canon (fun j => bif j == 1 then 1 else 0) (wV (wV (wV (wV (wO (wD ((CFi .u64).sl _ _ _) (wV (wD (CFGHash.sl _ _ _) wk_none)))))))) (hW (eU (CFi .u64) entWk_none))
       ·
        rintro s ⟨l_0, v_1, names_2, out_7, r_8, j_9, w_10, i_11, rfl, hm⟩
        unfold ref05Words_J1 at hm
        refine AWp.reg 64 (N' := 128) rfl ?_
        iterate 3 refine pA ?_
        refine ARun.fin ?_
        refine normThen ?_
        refine ⟨_, ?_, l_0, v_1, names_2, out_7, r_8, j_9, w_10, (IntKind.i64.wrap (i_11 + 1)), rfl, hm⟩
        exact le_canon (fun j => bif j == 1 then 1 else 0) (wV (wV (wV (wV (wO (wD ((CFi .u64).sl _ _ _) (wV (wD (CFGHash.sl _ _ _) wk_none)))))))) (hW (eU (CFi .u64) entWk_none))
      ·
       refine AWp.exit ?_
       refine exitSeq ?_
       refine exitThen ?_
       refine exitHere ?_
       refine normSeq ?_
       refine AWp.reg 64 (N' := 192) rfl ?_
       iterate 2 refine pA ?_
       refine hp (id := 130) rfl rfl (ah_list (CFi .u64) (l := [w_10]) Tryz.underlying82 sz42 zc42 Z5 Zd Zd Zd (by simp only [go_sem, Nat.reduceBEq]; try rfl) (by kernel_rfl)) ?_
       obtain ⟨l12, h11, hm⟩ := bnd hm
       refine hp (id := 131) rfl rfl (ah_app (CFi .u64) Tryz.underlying82 Tryz.underlying82 rfl in42 ts42 (by rw [tb42]; decide) (by rw [tb42]; decide) tz42 Zd Zd Z1 Z3 Z6 (as_own (CFi .u64) Z1 Z3 Z6) rfl Z5 h11) ?_
       refine pA ?_
       refine ARun.fin ?_
       refine normIn ?_
       refine normSeq ?_
       refine AWp.reg 64 (N' := 256) rfl ?_
       iterate 3 refine pA ?_
       refine ARun.fin ?_
       refine normThen ?_
       refine ⟨_, ?_, l_0, v_1, names_2, l12, r_8, (IntKind.i64.wrap (j_9 + 1)), rfl, hm⟩
       exact le_canon (fun j => bif j == 1 then 131 else 0) (wV (wV (wO (wD ((CFi .u64).sl _ _ _) (wV (wD (CFGHash.sl _ _ _) wk_none)))))) (hW (eU (CFi .u64) entWk_none))
    ·
     refine AWp.exit ?_
     refine exitSeq ?_
     refine exitThen ?_
     refine exitHere ?_
     refine normIn ?_
     refine normSeq ?_
     refine AWp.reg 64 (N' := 192) rfl ?_
     iterate 3 refine pA ?_
     refine ARun.fin ?_
     refine normThen ?_
     refine ⟨_, ?_, l_0, v_1, names_2, out_7, (IntKind.i64.wrap (r_8 + 1)), rfl, hm⟩
     exact le_canon (fun j => bif j == 1 then 1 else 0) (wV (wO (wD ((CFi .u64).sl _ _ _) (wV (wD (CFGHash.sl _ _ _) wk_none))))) (hW (eU (CFi .u64) entWk_none))
  ·
   refine AWp.exit ?_
   refine exitSeq ?_
   refine exitThen ?_
   refine exitHere ?_
   refine normSeq ?_
   refine sr (N' := 192) rfl ?_
   iterate 2 refine pA ?_
   refine fs ?_
   refine AWp.ret ?_
   cases hm
   exact ret1D (.inr rfl) Tryz.results80 (tdo (CFi .u64) Z1 Z3 Z6)
def ref14Words_m (g_0 : GGraph) (tier_1 : Int) (v_2 : Int) : Option ((List Int)) :=
 ((ref14Tree_m g_0 tier_1 v_2).bind fun r2 =>
 ((ref13Cut_m g_0.Edges r2).bind fun r4 =>
 ((ref14Hashes_m g_0 tier_1).bind fun r6 =>
 ((ref04Levels_m g_0.Config.N).bind fun r8 =>
 ((ref13Names_m r4).bind fun r10 =>
 ((ref05Words_m r6 r8 r10).bind fun r12 =>
 some r12))))))
theorem ref14Words_c {g_0 : GGraph} {tier_1 : Int} {v_2 : Int} {r : (List Int)} (hm : ref14Words_m g_0 tier_1 v_2 = some r) : PureC Tryz.prog 64 [.agg [.v (.int .i64 g_0.Config.N), .v (.int .i64 g_0.Config.L), .v (.int .i64 g_0.Config.R), .sl (g_0.Hashes.flatMap cGHash) g_0.Hashes.length false, .sl (g_0.Edges.flatMap cGEdge) g_0.Edges.length false], .v (.int .i64 tier_1), .v (.int .i64 v_2)] (.sl (r.flatMap (ci .u64)) r.length false) := by
 refine PureC.of_body Tryz.func64 rfl ?_
 simp only [Tryz.ntmps64, List.length_cons, List.length_nil, Nat.reduceAdd, Nat.reduceSub, empty_eq]
 unfold ref14Words_m at hm
 refine sr (N' := 64) rfl ?_
 refine hp (id := 0) rfl rfl (aheap_box Z1 Z5) ?_
 refine pA ?_
 refine fs ?_
 refine sd mix (by kernel_rfl) (N' := 128) rfl ?_
 refine pA ?_
 refine pu rfl (ap_ldv Z1 Z3 Z4) ?_
 refine pu rfl (ap_ldv Z1 Z3 Z2) ?_
 iterate 2 refine pA ?_
 obtain ⟨r2, h1, hm⟩ := bnd hm
 refine ARun.callQ (r := .sl (r2.flatMap (ci .i64)) r2.length false) Zd Z1 fb48 (fun H => (cD (.agg _ (CFGGraph.dat _)) (cV (cV .nil)))) (ref14Tree_c h1) ?_
 obtain ⟨r4, h3, hm⟩ := bnd hm
 refine ARun.callQ (r := .sl (r4.flatMap cGEdge) r4.length false) Zd Z1 fb62 (fun H => (cD (CFGEdge.sl _ _ _) (cD ((CFi .i64).sl _ _ _) .nil))) (ref13Cut_c h3) ?_
 refine pA ?_
 refine fs ?_
 refine sd mix (by kernel_rfl) (N' := 192) rfl ?_
 refine pu rfl (ap_ldv Z1 Z3 Z2) ?_
 refine pA ?_
 obtain ⟨r6, h5, hm⟩ := bnd hm
 refine ARun.callQ (r := .sl (r6.flatMap cGHash) r6.length false) Zd Z1 fb81 (fun H => (cD (.agg _ (CFGGraph.dat _)) (cV .nil))) (ref14Hashes_c h5) ?_
 iterate 2 refine pA ?_
 refine pu rfl (ap_ldv Z1 Z3 Z4) ?_
 obtain ⟨r8, h7, hm⟩ := bnd hm
 refine ARun.callQ (r := .v (.int .i64 r8)) Zd Z1 fb82 (fun H => (cV .nil)) (ref04Levels_c h7) ?_
 refine pA ?_
 obtain ⟨r10, h9, hm⟩ := bnd hm
 refine ARun.callQ (r := .sl (r10.flatMap (ci .u64)) r10.length false) Zd Z1 fb63 (fun H => (cD (CFGEdge.sl _ _ _) .nil)) (ref13Names_c h9) ?_
 obtain ⟨r12, h11, hm⟩ := bnd hm
 refine ARun.callQ (r := .sl (r12.flatMap (ci .u64)) r12.length false) Zd Z1 fb80 (fun H => (cD (CFGHash.sl _ _ _) (cV (cD ((CFi .u64).sl _ _ _) .nil)))) (ref05Words_c h11) ?_
 refine pA ?_
 refine fs ?_
 refine AWp.ret ?_
 cases hm
 exact ret1D (.inr rfl) Tryz.results64 (td Z1 ((CFi .u64).sl _ _ _))
def ref14Search_B2 (rec1 : GEdge → List GEdge → List Int → List Int → Int → Option (GEdge × Bool)) (rec2 : GEdge → List GEdge → List Int → List Int → Int → Int → Option (GEdge × Bool)) (t6 : GEdge) (c_8 : List GEdge) (names_9 : List Int) (w_10 : List Int) (i_11 : Int) (k_12 : Int) : Option (GEdge × Bool) :=
 (bif (decide (k_12 < (c_8.length : Int))) then
  ((idx w_10 i_11).bind fun x10 =>
  ((idx names_9 k_12).bind fun x12 =>
  (bif (x10 == x12) then
   ((idx c_8 k_12).bind fun x14 =>
   some (x14, true))
  else
   rec2 t6 c_8 names_9 w_10 i_11 (IntKind.i64.wrap (k_12 + 1)))))
 else
  rec1 t6 c_8 names_9 w_10 (IntKind.i64.wrap (i_11 + 1)))
def ref14Search_L2 (rec1 : GEdge → List GEdge → List Int → List Int → Int → Option (GEdge × Bool)) : Nat → GEdge → List GEdge → List Int → List Int → Int → Int → Option (GEdge × Bool)
 | 0 => fun _ _ _ _ _ _ => none
 | n + 1 => ref14Search_B2 rec1 (ref14Search_L2 rec1 n)
def ref14Search_B1 (rec1 : GEdge → List GEdge → List Int → List Int → Int → Option (GEdge × Bool)) (t6 : GEdge) (c_8 : List GEdge) (names_9 : List Int) (w_10 : List Int) (i_11 : Int) : Option (GEdge × Bool) :=
 (bif (decide (i_11 < (w_10.length : Int))) then
  ref14Search_L2 rec1 FUEL t6 c_8 names_9 w_10 i_11 0
 else
  some ((GEdge.mk 0 0 0), false))
def ref14Search_L1 : Nat → GEdge → List GEdge → List Int → List Int → Int → Option (GEdge × Bool)
 | 0 => fun _ _ _ _ _ => none
 | n + 1 => ref14Search_B1 (ref14Search_L1 n)
def ref14Search_m (g_0 : GGraph) (tier_1 : Int) (v_2 : Int) : Option (GEdge × Bool) :=
 ((ref14Tree_m g_0 tier_1 v_2).bind fun r2 =>
 ((ref13Cut_m g_0.Edges r2).bind fun r4 =>
 ((ref13Names_m r4).bind fun r6 =>
 ((ref14Words_m g_0 tier_1 v_2).bind fun r8 =>
 ref14Search_L1 FUEL (GEdge.mk 0 0 0) r4 r6 r8 0))))
theorem ref14Search_c {g_0 : GGraph} {tier_1 : Int} {v_2 : Int} {r : GEdge × Bool} (hm : ref14Search_m g_0 tier_1 v_2 = some r) : PureC Tryz.prog 49 [.agg [.v (.int .i64 g_0.Config.N), .v (.int .i64 g_0.Config.L), .v (.int .i64 g_0.Config.R), .sl (g_0.Hashes.flatMap cGHash) g_0.Hashes.length false, .sl (g_0.Edges.flatMap cGEdge) g_0.Edges.length false], .v (.int .i64 tier_1), .v (.int .i64 v_2)] (.tup [.agg [.v (.int .i64 r.1.U), .v (.int .i64 r.1.V), .v (.int .i64 r.1.Tier)], .v (.bool r.2)]) := by
 refine PureC.of_body Tryz.func49 rfl ?_
 simp only [Tryz.ntmps49, List.length_cons, List.length_nil, Nat.reduceAdd, Nat.reduceSub, empty_eq]
 unfold ref14Search_m at hm
 refine sr (N' := 64) rfl ?_
 refine hp (id := 0) rfl rfl (aheap_box Z1 Z5) ?_
 refine hp (id := 1) rfl rfl (aheap_alloc' zc47 Z5) ?_
 refine pA ?_
 refine fs ?_
 refine sd mix (by kernel_rfl) (N' := 128) rfl ?_
 refine pA ?_
 refine pu rfl (ap_ldv Z1 Z3 Z4) ?_
 refine pu rfl (ap_ldv Z1 Z3 Z2) ?_
 iterate 2 refine pA ?_
 obtain ⟨r2, h1, hm⟩ := bnd hm
 refine ARun.callQ (r := .sl (r2.flatMap (ci .i64)) r2.length false) Zd Z1 fb48 (fun H => (cD (.agg _ (CFGGraph.dat _)) (cV (cV .nil)))) (ref14Tree_c h1) ?_
 obtain ⟨r4, h3, hm⟩ := bnd hm
 refine ARun.callQ (r := .sl (r4.flatMap cGEdge) r4.length false) Zd Z1 fb62 (fun H => (cD (CFGEdge.sl _ _ _) (cD ((CFi .i64).sl _ _ _) .nil))) (ref13Cut_c h3) ?_
 refine pA ?_
 refine fs ?_
 refine sr (N' := 192) rfl ?_
 refine pA ?_
 obtain ⟨r6, h5, hm⟩ := bnd hm
 refine ARun.callQ (r := .sl (r6.flatMap (ci .u64)) r6.length false) Zd Z1 fb63 (fun H => (cD (CFGEdge.sl _ _ _) .nil)) (ref13Names_c h5) ?_
 refine pA ?_
 refine fs ?_
 refine sr (N' := 256) rfl ?_
 refine pu rfl (ap_ldv Z1 Z3 Z2) ?_
 iterate 2 refine pA ?_
 obtain ⟨r8, h7, hm⟩ := bnd hm
 refine ARun.callQ (r := .sl (r8.flatMap (ci .u64)) r8.length false) Zd Z1 fb64 (fun H => (cD (.agg _ (CFGGraph.dat _)) (cV (cV .nil)))) (ref14Words_c h7) ?_
 refine pA ?_
 refine fs ?_
 refine AWp.seq' ?_
 refine sr (N' := 320) rfl ?_
 refine pA ?_
 refine fs ?_
 refine AWp.block ?_
 refine AWp.loopM (fun m s => ∃ (t6 : GEdge) (c_8 : List GEdge) (names_9 : List Int) (w_10 : List Int) (i_11 : Int), s = (⟨52, (fset (fset (fset (fset (fset (fun _ => AV.any) 6 (.adr 1 0)) 8 (.sl (c_8.flatMap cGEdge) c_8.length false)) 9 (.sl (names_9.flatMap (ci .u64)) names_9.length false)) 10 (.sl (w_10.flatMap (ci .u64)) w_10.length false)) 11 (.v (.int .i64 i_11))), ⟨(upd nofresh 1 (.cells 1 [.v (.int .i64 t6.U), .v (.int .i64 t6.V), .v (.int .i64 t6.Tier)] 0)), 64⟩⟩ : St) ∧ ref14Search_L1 m t6 c_8 names_9 w_10 i_11 = some r) FUEL ?_ ?_ ?_
 ·
  rintro s ⟨_, _, _, _, _, _, h⟩
  cases h
 ·
  refine ⟨_, ?_, (GEdge.mk 0 0 0), r4, r6, r8, 0, rfl, hm⟩
  exact le_canon (fun j => bif j == 1 then 1 else 0) (wV (wD ((CFi .u64).sl _ _ _) (wD ((CFi .u64).sl _ _ _) (wD (CFGEdge.sl _ _ _) (wk_fset _ _ (wk_adr Z1 rfl Z7) wk_none))))) (hW (entWk_upd (entWk_data Z3 (Nat.le_refl _) (Nat.zero_le _) (CFGEdge.dat (GEdge.mk 0 0 0))) entWk_none))
 ·
  rintro n1 s ⟨t6, c_8, names_9, w_10, i_11, rfl, hm⟩
  replace hm : ref14Search_B1 (ref14Search_L1 n1) t6 c_8 names_9 w_10 i_11 = some r := hm
  unfold ref14Search_B1 at hm
  refine AWp.seq' ?_
  refine sr (N' := 128) rfl ?_
  iterate 4 refine pA ?_
  refine fs ?_
  refine AWp.condM hm Z1 (fun _ hm => ?_) (fun _ hm => ?_)
  ·
   refine AWp.skip ?_
   refine normSeq ?_
   refine AWp.seq' ?_
   refine AWp.block ?_
   refine sr (N' := 192) rfl ?_
   refine pA ?_
   refine fs ?_
   refine AWp.block ?_
   refine AWp.loopM (fun m s => ∃ (t6 : GEdge) (c_8 : List GEdge) (names_9 : List Int) (w_10 : List Int) (i_11 : Int) (k_12 : Int), s = (⟨52, (fset (fset (fset (fset (fset (fset (fun _ => AV.any) 6 (.adr 1 0)) 8 (.sl (c_8.flatMap cGEdge) c_8.length false)) 9 (.sl (names_9.flatMap (ci .u64)) names_9.length false)) 10 (.sl (w_10.flatMap (ci .u64)) w_10.length false)) 11 (.v (.int .i64 i_11))) 12 (.v (.int .i64 k_12))), ⟨(upd nofresh 1 (.cells 1 [.v (.int .i64 t6.U), .v (.int .i64 t6.V), .v (.int .i64 t6.Tier)] 0)), 64⟩⟩ : St) ∧ ref14Search_L2 (ref14Search_L1 n1) m t6 c_8 names_9 w_10 i_11 k_12 = some r) FUEL ?_ ?_ ?_
   ·
    rintro s ⟨_, _, _, _, _, _, _, h⟩
    cases h
   ·
    refine ⟨_, ?_, t6, c_8, names_9, w_10, i_11, 0, rfl, hm⟩
    exact le_canon (fun j => bif j == 1 then 1 else 0) (wV (wV (wD ((CFi .u64).sl _ _ _) (wD ((CFi .u64).sl _ _ _) (wD (CFGEdge.sl _ _ _) (wk_fset _ _ (wk_adr Z1 rfl Z7) wk_none)))))) (hW (entWk_upd (entWk_data Z3 (Nat.le_refl _) (Nat.zero_le _) (CFGEdge.dat t6)) entWk_none))
   ·
    rintro n2 s ⟨t6, c_8, names_9, w_10, i_11, k_12, rfl, hm⟩
    replace hm : ref14Search_B2 (ref14Search_L1 n1) (ref14Search_L2 (ref14Search_L1 n1) n2) t6 c_8 names_9 w_10 i_11 k_12 = some r := hm
    unfold ref14Search_B2 at hm
    refine AWp.seq' ?_
    refine sr (N' := 128) rfl ?_
    iterate 4 refine pA ?_
    refine fs ?_
    refine AWp.condM hm Z1 (fun _ hm => ?_) (fun _ hm => ?_)
    ·
     refine AWp.skip ?_
     refine normSeq ?_
     refine AWp.seq' ?_
     refine AWp.block ?_
     refine sd mix (by kernel_rfl) (N' := 192) rfl ?_
     iterate 2 refine pA ?_
     obtain ⟨x10, h9, hm⟩ := bnd hm
     refine pu rfl (ap_idx (CFi .u64) Zd Tryz.underlying82 sz42 Z1 rfl Z1 h9) ?_
     iterate 3 refine pA ?_
     obtain ⟨x12, h11, hm⟩ := bnd hm
     refine pu rfl (ap_idx (CFi .u64) Zd Tryz.underlying82 sz42 Z1 rfl Z1 h11) ?_
     iterate 2 refine pA ?_
     refine fs ?_
     refine AWp.condM hm Z1 (fun _ hm => ?_) (fun _ hm => ?_)
     ·
      refine sr (N' := 256) rfl ?_
      iterate 2 refine pA ?_
      obtain ⟨x14, h13, hm⟩ := bnd hm
      refine pu rfl (ap_idx CFGEdge Zd Tryz.underlying25 sz47 Z1 rfl Z1 h13) ?_
      refine pA ?_
      refine ARun.heap0 (id := 196) rfl (ah_var (ys := [.v (.int .i64 x14.U), .v (.int .i64 x14.V), .v (.int .i64 x14.Tier)]) sz47 Z1 Z1 Z3 rfl (Nat.le_of_ble_eq_true rfl) Z9 rfl) ?_
      refine pA ?_
      refine fs ?_
      refine AWp.ret ?_
      refine retIn ?_
      refine retSeq ?_
      refine retThen ?_
      refine retIn ?_
      refine retIn ?_
      refine retSeq ?_
      refine retThen ?_
      refine retIn ?_
      refine retSeq ?_
      cases hm
      exact retL (.inr rfl) (by rw [Tryz.results49]) (.cell (ap_ldv' Z1 Z3 Z2) (.tmp Z1 .nil)) rfl (tdt (.cons (td rfl (.agg _ (CFGEdge.dat _))) (.cons (td rfl (.v _)) .nil)))
     ·
      refine AWp.skip ?_
      refine normIn ?_
      refine normSeq ?_
      refine AWp.reg 64 (N' := 256) rfl ?_
      iterate 3 refine pA ?_
      refine ARun.fin ?_
      refine normThen ?_
      refine ⟨_, ?_, t6, c_8, names_9, w_10, i_11, (IntKind.i64.wrap (k_12 + 1)), rfl, hm⟩
      exact le_canon (fun j => bif j == 1 then 1 else 0) (wV (wV (wD ((CFi .u64).sl _ _ _) (wD ((CFi .u64).sl _ _ _) (wD (CFGEdge.sl _ _ _) (wk_fset _ _ (wk_adr Z1 rfl Z7) wk_none)))))) (hW (entWk_upd (entWk_data Z3 (Nat.le_refl _) (Nat.zero_le _) (CFGEdge.dat t6)) entWk_none))
    ·
     refine AWp.exit ?_
     refine exitSeq ?_
     refine exitThen ?_
     refine exitHere ?_
     refine normIn ?_
     refine normSeq ?_
     refine AWp.reg 64 (N' := 192) rfl ?_
     iterate 3 refine pA ?_
     refine ARun.fin ?_
     refine normThen ?_
     refine ⟨_, ?_, t6, c_8, names_9, w_10, (IntKind.i64.wrap (i_11 + 1)), rfl, hm⟩
     exact le_canon (fun j => bif j == 1 then 1 else 0) (wV (wD ((CFi .u64).sl _ _ _) (wD ((CFi .u64).sl _ _ _) (wD (CFGEdge.sl _ _ _) (wk_fset _ _ (wk_adr Z1 rfl Z7) wk_none))))) (hW (entWk_upd (entWk_data Z3 (Nat.le_refl _) (Nat.zero_le _) (CFGEdge.dat t6)) entWk_none))
  ·
   refine AWp.exit ?_
   refine exitSeq ?_
   refine exitThen ?_
   refine exitHere ?_
   refine normSeq ?_
   refine sr (N' := 192) rfl ?_
   refine pu rfl (by simp only [go_sem, Nat.reduceBEq]; exact (by kernel_rfl : abuild Tryz.prog 47 [] = some (.agg [.v (.int .i64 0), .v (.int .i64 0), .v (.int .i64 0)]))) ?_
   refine ARun.heap0 (id := 129) rfl (ah_var (ys := [.v (.int .i64 0), .v (.int .i64 0), .v (.int .i64 0)]) sz47 Z1 Z1 Z3 rfl (Nat.le_of_ble_eq_true rfl) Z9 rfl) ?_
   refine pA ?_
   refine fs ?_
   refine AWp.ret ?_
   cases hm
   exact retL (.inr rfl) (by rw [Tryz.results49]) (.cell (ap_ldv' Z1 Z3 Z2) (.tmp Z1 .nil)) rfl (tdt (.cons (td rfl (.agg _ (CFGEdge.dat (GEdge.mk 0 0 0)))) (.cons (td rfl (.v _)) .nil)))
def ref10Without_m (l_0 : List GEdge) (at_1 : Int) : Option ((List GEdge)) :=
 ((slc l_0 0 at_1).bind fun l2 =>
 ((app [] l2).bind fun l4 =>
 ((slc l_0 (IntKind.i64.wrap (at_1 + 1)) (l_0.length : Int)).bind fun l6 =>
 ((app l4 l6).bind fun l8 =>
 some l8))))
theorem ref10Without_c {l_0 : List GEdge} {at_1 : Int} {r : (List GEdge)} (hm : ref10Without_m l_0 at_1 = some r) : PureC Tryz.prog 65 [.sl (l_0.flatMap cGEdge) l_0.length false, .v (.int .i64 at_1)] (.sl (r.flatMap cGEdge) r.length false) := by
 refine PureC.of_body Tryz.func65 rfl ?_
 simp only [Tryz.ntmps65, List.length_cons, List.length_nil, Nat.reduceAdd, Nat.reduceSub, empty_eq]
 unfold ref10Without_m at hm
 refine sr (N' := 64) rfl ?_
 refine pA ?_
 refine fs ?_
 refine sr (N' := 128) rfl ?_
 refine pA ?_
 refine fs ?_
 refine sr (N' := 192) rfl ?_
 iterate 3 refine pA ?_
 obtain ⟨l2, h1, hm⟩ := bnd hm
 refine pu rfl (ap_slc CFGEdge Tryz.underlying25 sz47 Z1 rfl ab_none0 (ab_some Z1 (slc_0 h1).2) h1) ?_
 obtain ⟨l4, h3, hm⟩ := bnd hm
 refine hp (id := 132) rfl rfl (ah_app0 CFGEdge Tryz.underlying25 Tryz.underlying25 rfl in47 ts47 (by rw [tb47]; decide) (by rw [tb47]; decide) tz47 Zd Zd Z1 (as_sl CFGEdge Z1 rfl) rfl Z5 h3) ?_
 refine pA ?_
 refine fs ?_
 refine sr (N' := 256) rfl ?_
 iterate 4 refine pA ?_
 obtain ⟨l6, h5, hm⟩ := bnd hm
 refine pu rfl (ap_slc CFGEdge Tryz.underlying25 sz47 Z1 rfl (ab_some Z1 (slc_0 h5).1) (ab_none _) h5) ?_
 obtain ⟨l8, h7, hm⟩ := bnd hm
 refine hp (id := 197) rfl rfl (ah_app CFGEdge Tryz.underlying25 Tryz.underlying25 rfl in47 ts47 (by rw [tb47]; decide) (by rw [tb47]; decide) tz47 Zd Zd Z1 Z3 Z6 (as_sl CFGEdge Z1 rfl) rfl Z5 h7) ?_
 refine pA ?_
 refine fs ?_
 refine AWp.ret ?_
 cases hm
 exact ret1D (.inr rfl) Tryz.results65 (tdo CFGEdge Z1 Z3 Z6)
def ref10Path_J1 (rec1 : Int → List GEdge → Int → Int → List GEdge → Int → Option ((List GEdge) × Bool)) (n_0 : Int) (l_1 : List GEdge) (u_2 : Int) (v_3 : Int) (on_11 : List GEdge) (i_12 : Int) : Option ((List GEdge) × Bool) :=
 rec1 n_0 l_1 u_2 v_3 on_11 (IntKind.i64.wrap (i_12 + 1))
def ref10Path_B3 (rec2 : Int → Int → List GEdge → List GEdge → Option ((List GEdge) × Bool)) (rec3 : Int → Int → List GEdge → List GEdge → Int → Option ((List GEdge) × Bool)) (u_2 : Int) (v_3 : Int) (on_11 : List GEdge) (out_14 : List GEdge) (i_15 : Int) : Option ((List GEdge) × Bool) :=
 (bif (decide (i_15 < (on_11.length : Int))) then
  ((idx on_11 i_15).bind fun x20 =>
  ((gopt ((x20.U == u_2) == false) (GEdge.mk 0 0 0) (idx on_11 i_15)).bind fun x22 =>
  (bif ((x20.U == u_2) || (x22.V == u_2)) then
   ((idx on_11 i_15).bind fun x24 =>
   ((app out_14 [x24]).bind fun l26 =>
   ((idx on_11 i_15).bind fun x28 =>
   ((idx on_11 i_15).bind fun x30 =>
   ((ref10Without_m on_11 i_15).bind fun r32 =>
   rec2 (IntKind.i64.wrap ((IntKind.i64.wrap (x28.U + x30.V)) - u_2)) v_3 r32 l26)))))
  else
   rec3 u_2 v_3 on_11 out_14 (IntKind.i64.wrap (i_15 + 1)))))
 else
  rec2 u_2 v_3 on_11 out_14)
def ref10Path_L3 (rec2 : Int → Int → List GEdge → List GEdge → Option ((List GEdge) × Bool)) : Nat → Int → Int → List GEdge → List GEdge → Int → Option ((List GEdge) × Bool)
 | 0 => fun _ _ _ _ _ => none
 | n + 1 => ref10Path_B3 rec2 (ref10Path_L3 rec2 n)
def ref10Path_B2 (rec2 : Int → Int → List GEdge → List GEdge → Option ((List GEdge) × Bool)) (u_2 : Int) (v_3 : Int) (on_11 : List GEdge) (out_14 : List GEdge) : Option ((List GEdge) × Bool) :=
 (bif (u_2 != v_3) then
  ref10Path_L3 rec2 FUEL u_2 v_3 on_11 out_14 0
 else
  some (out_14, true))
def ref10Path_L2 : Nat → Int → Int → List GEdge → List GEdge → Option ((List GEdge) × Bool)
 | 0 => fun _ _ _ _ => none
 | n + 1 => ref10Path_B2 (ref10Path_L2 n)
def ref10Path_B1 (rec1 : Int → List GEdge → Int → Int → List GEdge → Int → Option ((List GEdge) × Bool)) (n_0 : Int) (l_1 : List GEdge) (u_2 : Int) (v_3 : Int) (on_11 : List GEdge) (i_12 : Int) : Option ((List GEdge) × Bool) :=
 (bif (decide (i_12 < (l_1.length : Int))) then
  ((ref10Without_m l_1 i_12).bind fun r8 =>
  ((ref09Of_m n_0 r8).bind fun r10 =>
  ((idx r10 u_2).bind fun x12 =>
  ((idx r10 v_3).bind fun x14 =>
  (bif (x12 != x14) then
   ((idx l_1 i_12).bind fun x16 =>
   ((app on_11 [x16]).bind fun l18 =>
   ref10Path_J1 rec1 n_0 l_1 u_2 v_3 l18 i_12))
  else
   ref10Path_J1 rec1 n_0 l_1 u_2 v_3 on_11 i_12)))))
 else
  ref10Path_L2 FUEL u_2 v_3 on_11 [])
def ref10Path_L1 : Nat → Int → List GEdge → Int → Int → List GEdge → Int → Option ((List GEdge) × Bool)
 | 0 => fun _ _ _ _ _ _ => none
 | n + 1 => ref10Path_B1 (ref10Path_L1 n)
def ref10Path_m (n_0 : Int) (l_1 : List GEdge) (u_2 : Int) (v_3 : Int) : Option ((List GEdge) × Bool) :=
 ((ref09Of_m n_0 l_1).bind fun r2 =>
 ((idx r2 u_2).bind fun x4 =>
 ((idx r2 v_3).bind fun x6 =>
 (bif (x4 != x6) then
  some ([], false)
 else
  ref10Path_L1 FUEL n_0 l_1 u_2 v_3 [] 0))))
theorem ref10Path_c {n_0 : Int} {l_1 : List GEdge} {u_2 : Int} {v_3 : Int} {r : (List GEdge) × Bool} (hm : ref10Path_m n_0 l_1 u_2 v_3 = some r) : PureC Tryz.prog 50 [.v (.int .i64 n_0), .sl (l_1.flatMap cGEdge) l_1.length false, .v (.int .i64 u_2), .v (.int .i64 v_3)] (.tup [.sl (r.1.flatMap cGEdge) r.1.length false, .v (.bool r.2)]) := by
 refine PureC.of_body Tryz.func50 rfl ?_
 simp only [Tryz.ntmps50, List.length_cons, List.length_nil, Nat.reduceAdd, Nat.reduceSub, empty_eq]
 unfold ref10Path_m at hm
 refine sr (N' := 64) rfl ?_
 iterate 2 refine pA ?_
 refine fs ?_
 refine sr (N' := 128) rfl ?_
 iterate 2 refine pA ?_
 obtain ⟨r2, h1, hm⟩ := bnd hm
 refine ARun.callQ (r := .sl (r2.flatMap (ci .i64)) r2.length false) Zd Z1 fb33 (fun H => (cV (cD (CFGEdge.sl _ _ _) .nil))) (ref09Of_c h1) ?_
 refine pA ?_
 refine fs ?_
 refine AWp.seq' ?_
 refine sd mix (by kernel_rfl) (N' := 192) rfl ?_
 iterate 2 refine pA ?_
 obtain ⟨x4, h3, hm⟩ := bnd hm
 refine pu rfl (ap_idx (CFi .i64) Zd Tryz.underlying36 sz3 Z1 rfl Z1 h3) ?_
 iterate 3 refine pA ?_
 obtain ⟨x6, h5, hm⟩ := bnd hm
 refine pu rfl (ap_idx (CFi .i64) Zd Tryz.underlying36 sz3 Z1 rfl Z1 h5) ?_
 iterate 2 refine pA ?_
 refine fs ?_
 refine AWp.condM hm Z1 (fun _ hm => ?_) (fun _ hm => ?_)
 ·
  refine sr (N' := 256) rfl ?_
  iterate 2 refine pA ?_
  refine fs ?_
  refine AWp.ret ?_
  refine retSeq ?_
  cases hm
  exact ret2D (.inr rfl) Tryz.results50 (tdn Z1) (td Z1 (.v _))
 ·
  refine AWp.skip ?_
  refine normSeq ?_
  refine sr (N' := 256) rfl ?_
  refine pA ?_
  refine fs ?_
  refine AWp.seq' ?_
  refine sr (N' := 320) rfl ?_
  refine pA ?_
  refine fs ?_
  refine AWp.block ?_
  refine AWp.loopM (fun m s => ∃ (n_0 : Int) (l_1 : List GEdge) (u_2 : Int) (v_3 : Int) (on_11 : List GEdge) (i_12 : Int), s = (⟨104, (fset (fset (fset (fset (fset (fset (fun _ => AV.any) 0 (.v (.int .i64 n_0))) 1 (.sl (l_1.flatMap cGEdge) l_1.length false)) 2 (.v (.int .i64 u_2))) 3 (.v (.int .i64 v_3))) 11 (.own 1 0 on_11.length)) 12 (.v (.int .i64 i_12))), ⟨(upd nofresh 1 (.cells 3 (on_11.flatMap cGEdge) 0)), 64⟩⟩ : St) ∧ ref10Path_L1 m n_0 l_1 u_2 v_3 on_11 i_12 = some r) FUEL ?_ ?_ ?_
  ·
   rintro s ⟨_, _, _, _, _, _, _, h⟩
   cases h
  ·
   refine ⟨_, ?_, n_0, l_1, u_2, v_3, [], 0, rfl, hm⟩
   refine St.Le.trans (le_nil 11 900011 3 Z1 Z5) ?_
   exact le_canon (fun j => bif j == 1 then 900011 else 0) (wV (wO (wV (wV (wD (CFGEdge.sl _ _ _) (wV wk_none)))))) (hW (eU CFGEdge entWk_none))
  ·
   rintro n1 s ⟨n_0, l_1, u_2, v_3, on_11, i_12, rfl, hm⟩
   replace hm : ref10Path_B1 (ref10Path_L1 n1) n_0 l_1 u_2 v_3 on_11 i_12 = some r := hm
   unfold ref10Path_B1 at hm
   refine AWp.seq' ?_
   refine sr (N' := 128) rfl ?_
   iterate 4 refine pA ?_
   refine fs ?_
   refine AWp.condM hm Z1 (fun _ hm => ?_) (fun _ hm => ?_)
   ·
    refine AWp.skip ?_
    refine normSeq ?_
    refine AWp.seqJ (fun s => ∃ (n_0 : Int) (l_1 : List GEdge) (u_2 : Int) (v_3 : Int) (on_11 : List GEdge) (i_12 : Int), s = (⟨104, (fset (fset (fset (fset (fset (fset (fun _ => AV.any) 0 (.v (.int .i64 n_0))) 1 (.sl (l_1.flatMap cGEdge) l_1.length false)) 2 (.v (.int .i64 u_2))) 3 (.v (.int .i64 v_3))) 11 (.own 1 0 on_11.length)) 12 (.v (.int .i64 i_12))), ⟨(upd nofresh 1 (.cells 3 (on_11.flatMap cGEdge) 0)), 64⟩⟩ : St) ∧ ref10Path_J1 (ref10Path_L1 n1) n_0 l_1 u_2 v_3 on_11 i_12 = some r) ?_ ?_
    ·
     refine AWp.block ?_
     refine sr (N' := 192) rfl ?_
     iterate 3 refine pA ?_
     obtain ⟨r8, h7, hm⟩ := bnd hm
     refine ARun.callQ (r := .sl (r8.flatMap cGEdge) r8.length false) Zd Z1 fb65 (fun H => (cD (CFGEdge.sl _ _ _) (cV .nil))) (ref10Without_c h7) ?_
     obtain ⟨r10, h9, hm⟩ := bnd hm
     refine ARun.callQ (r := .sl (r10.flatMap (ci .i64)) r10.length false) Zd Z1 fb33 (fun H => (cV (cD (CFGEdge.sl _ _ _) .nil))) (ref09Of_c h9) ?_
     refine pA ?_
     refine fs ?_
     refine sd mix (by kernel_rfl) (N' := 256) rfl ?_
     iterate 2 refine pA ?_
     obtain ⟨x12, h11, hm⟩ := bnd hm
     refine pu rfl (ap_idx (CFi .i64) Zd Tryz.underlying36 sz3 Z1 rfl Z1 h11) ?_
     iterate 3 refine pA ?_
     obtain ⟨x14, h13, hm⟩ := bnd hm
     refine pu rfl (ap_idx (CFi .i64) Zd Tryz.underlying36 sz3 Z1 rfl Z1 h13) ?_
     iterate 2 refine pA ?_
     refine fs ?_
     refine AWp.condM hm Z1 (fun _ hm => ?_) (fun _ hm => ?_)
     ·
      refine AWp.reg 64 (N' := 320) rfl ?_
      iterate 3 refine pA ?_
      obtain ⟨x16, h15, hm⟩ := bnd hm
      refine pu rfl (ap_idx CFGEdge Zd Tryz.underlying25 sz47 Z1 rfl Z1 h15) ?_
      refine pA ?_
      refine hp (id := 261) rfl rfl (ah_list CFGEdge (l := [x16]) Tryz.underlying25 sz47 zc47 Z5 Zd Zd Zd (by simp only [go_sem, Nat.reduceBEq]; try rfl) (by kernel_rfl)) ?_
      obtain ⟨l18, h17, hm⟩ := bnd hm
      refine hp (id := 262) rfl rfl (ah_app CFGEdge Tryz.underlying25 Tryz.underlying25 rfl in47 ts47 (by rw [tb47]; decide) (by rw [tb47]; decide) tz47 Zd Zd Z1 Z3 Z6 (as_own CFGEdge Z1 Z3 Z6) rfl Z5 h17) ?_
      refine pA ?_
      refine ARun.fin ?_
      refine normIn ?_
      refine normJ ?_
      refine ⟨_, ?_, n_0, l_1, u_2, v_3, l18, i_12, rfl, hm⟩
      exact le_canon (fun j => bif j == 1 then 262 else 0) (wV (wO (wV (wV (wD (CFGEdge.sl _ _ _) (wV wk_none)))))) (hW (eU CFGEdge entWk_none))
     ·
      refine AWp.skip ?_
      refine normIn ?_
      refine normJ ?_
      refine ⟨_, ?_, n_0, l_1, u_2, v_3, on_11, i_12, rfl, hm⟩
      exact le_canon (fun j => bif j == 1 then 1 else 0) (wV (wO (wV (wV (wD (CFGEdge.sl _ _ _) (wV wk_none)))))) (hW (eU CFGEdge entWk_none))
    ·
     rintro s ⟨n_0, l_1, u_2, v_3, on_11, i_12, rfl, hm⟩
     unfold ref10Path_J1 at hm
     refine AWp.reg 64 (N' := 128) rfl ?_
     iterate 3 refine pA ?_
     refine ARun.fin ?_
     refine normThen ?_
     refine ⟨_, ?_, n_0, l_1, u_2, v_3, on_11, (IntKind.i64.wrap (i_12 + 1)), rfl, hm⟩
     exact le_canon (fun j => bif j == 1 then 1 else 0) (wV (wO (wV (wV (wD (CFGEdge.sl _ _ _) (wV wk_none)))))) (hW (eU CFGEdge entWk_none))
   ·
    refine AWp.exit ?_
    refine exitSeq ?_
    refine exitThen ?_
    refine exitHere ?_
    refine normSeq ?_
    refine sr (N' := 192) rfl ?_
    refine pA ?_
    refine fs ?_
    refine AWp.seq' ?_
    refine AWp.block ?_
    refine AWp.loopM (fun m s => ∃ (u_2 : Int) (v_3 : Int) (on_11 : List GEdge) (out_14 : List GEdge), s = (⟨104, (fset (fset (fset (fset (fun _ => AV.any) 2 (.v (.int .i64 u_2))) 3 (.v (.int .i64 v_3))) 11 (.sl (on_11.flatMap cGEdge) on_11.length false)) 14 (.own 1 0 out_14.length)), ⟨(upd nofresh 1 (.cells 3 (out_14.flatMap cGEdge) 0)), 64⟩⟩ : St) ∧ ref10Path_L2 m u_2 v_3 on_11 out_14 = some r) FUEL ?_ ?_ ?_
    ·
     rintro s ⟨_, _, _, _, _, h⟩
     cases h
    ·
     refine ⟨_, ?_, u_2, v_3, on_11, [], rfl, hm⟩
     refine St.Le.trans (le_lock CFGEdge 11 1 Z1 Z3 Z6) ?_
     refine St.Le.trans (le_nil 14 900014 3 Z1 Z5) ?_
     exact le_canon (fun j => bif j == 1 then 900014 else 0) (wO (wD (CFGEdge.sl _ _ _) (wV (wV wk_none)))) (hW (eU CFGEdge entWk_none))
    ·
     rintro n2 s ⟨u_2, v_3, on_11, out_14, rfl, hm⟩
     replace hm : ref10Path_B2 (ref10Path_L2 n2) u_2 v_3 on_11 out_14 = some r := hm
     unfold ref10Path_B2 at hm
     refine AWp.seq' ?_
     refine sr (N' := 128) rfl ?_
     iterate 3 refine pA ?_
     refine fs ?_
     refine AWp.condM hm Z1 (fun _ hm => ?_) (fun _ hm => ?_)
     ·
      refine AWp.skip ?_
      refine normSeq ?_
      refine AWp.block ?_
      refine sr (N' := 192) rfl ?_
      refine pA ?_
      refine fs ?_
      refine AWp.block ?_
      refine AWp.loopM (fun m s => ∃ (u_2 : Int) (v_3 : Int) (on_11 : List GEdge) (out_14 : List GEdge) (i_15 : Int), s = (⟨104, (fset (fset (fset (fset (fset (fun _ => AV.any) 2 (.v (.int .i64 u_2))) 3 (.v (.int .i64 v_3))) 11 (.sl (on_11.flatMap cGEdge) on_11.length false)) 14 (.own 1 0 out_14.length)) 15 (.v (.int .i64 i_15))), ⟨(upd nofresh 1 (.cells 3 (out_14.flatMap cGEdge) 0)), 64⟩⟩ : St) ∧ ref10Path_L3 (ref10Path_L2 n2) m u_2 v_3 on_11 out_14 i_15 = some r) FUEL ?_ ?_ ?_
      ·
       rintro s ⟨_, _, _, _, _, _, h⟩
       cases h
      ·
       refine ⟨_, ?_, u_2, v_3, on_11, out_14, 0, rfl, hm⟩
       exact le_canon (fun j => bif j == 1 then 1 else 0) (wV (wO (wD (CFGEdge.sl _ _ _) (wV (wV wk_none))))) (hW (eU CFGEdge entWk_none))
      ·
       rintro n3 s ⟨u_2, v_3, on_11, out_14, i_15, rfl, hm⟩
       replace hm : ref10Path_B3 (ref10Path_L2 n2) (ref10Path_L3 (ref10Path_L2 n2) n3) u_2 v_3 on_11 out_14 i_15 = some r := hm
       unfold ref10Path_B3 at hm
       refine AWp.seq' ?_
       refine sr (N' := 128) rfl ?_
       iterate 4 refine pA ?_
       refine fs ?_
       refine AWp.condM hm Z1 (fun _ hm => ?_) (fun _ hm => ?_)
       ·
        refine AWp.skip ?_
        refine normSeq ?_
        refine AWp.seq' ?_
        refine AWp.block ?_
        refine sr (N' := 192) rfl ?_
        iterate 2 refine pA ?_
        obtain ⟨x20, h19, hm⟩ := bnd hm
        refine pu rfl (ap_idx CFGEdge Zd Tryz.underlying25 sz47 Z1 rfl Z1 h19) ?_
        iterate 7 first | refine pA ?_ | refine pB ?_
        obtain ⟨x22, h21, hm⟩ := bnd hm
        refine pg rfl rfl Z2 (fun hb => (ap_idx CFGEdge Zd Tryz.underlying25 sz47 (Zh hb) rfl (Zh hb) (gopt_t h21 hb))) ?_
        iterate 5 first | refine pA ?_ | refine pB ?_
        refine fs ?_
        refine AWp.condM hm Z1 (fun _ hm => ?_) (fun _ hm => ?_)
        ·
         refine sr (N' := 256) rfl ?_
         iterate 3 refine pA ?_
         obtain ⟨x24, h23, hm⟩ := bnd hm
         refine pu rfl (ap_idx CFGEdge Zd Tryz.underlying25 sz47 Z1 rfl Z1 h23) ?_
         refine pA ?_
         refine hp (id := 197) rfl rfl (ah_list CFGEdge (l := [x24]) Tryz.underlying25 sz47 zc47 Z5 Zd Zd Zd (by simp only [go_sem, Nat.reduceBEq]; try rfl) (by kernel_rfl)) ?_
         obtain ⟨l26, h25, hm⟩ := bnd hm
         refine hp (id := 198) rfl rfl (ah_app CFGEdge Tryz.underlying25 Tryz.underlying25 rfl in47 ts47 (by rw [tb47]; decide) (by rw [tb47]; decide) tz47 Zd Zd Z1 Z3 Z6 (as_own CFGEdge Z1 Z3 Z6) rfl Z5 h25) ?_
         refine pA ?_
         refine fs ?_
         refine sd mix (by kernel_rfl) (N' := 320) rfl ?_
         iterate 2 refine pA ?_
         obtain ⟨x28, h27, hm⟩ := bnd hm
         refine pu rfl (ap_idx CFGEdge Zd Tryz.underlying25 sz47 Z1 rfl Z1 h27) ?_
         iterate 4 refine pA ?_
         obtain ⟨x30, h29, hm⟩ := bnd hm
         refine pu rfl (ap_idx CFGEdge Zd Tryz.underlying25 sz47 Z1 rfl Z1 h29) ?_
         iterate 6 refine pA ?_
         refine fs ?_
         refine sr (N' := 384) rfl ?_
         iterate 2 refine pA ?_
         obtain ⟨r32, h31, hm⟩ := bnd hm
         refine ARun.callQ (r := .sl (r32.flatMap cGEdge) r32.length false) Zd Z1 fb65 (fun H => (cD (CFGEdge.sl _ _ _) (cV .nil))) (ref10Without_c h31) ?_
         refine pA ?_
         refine fs ?_
         refine AWp.exit ?_
         refine exitOther Zd ?_
         refine exitSeq ?_
         refine exitThen ?_
         refine exitHere ?_
         refine normIn ?_
         refine normThen ?_
         refine ⟨_, ?_, (IntKind.i64.wrap ((IntKind.i64.wrap (x28.U + x30.V)) - u_2)), v_3, r32, l26, rfl, hm⟩
         exact le_canon (fun j => bif j == 1 then 198 else 0) (wO (wD (CFGEdge.sl _ _ _) (wV (wV wk_none)))) (hW (eU CFGEdge entWk_none))
        ·
         refine AWp.skip ?_
         refine normIn ?_
         refine normSeq ?_
         refine AWp.reg 64 (N' := 256) rfl ?_
         iterate 3 refine pA ?_
         refine ARun.fin ?_
         refine normThen ?_
         refine ⟨_, ?_, u_2, v_3, on_11, out_14, (IntKind.i64.wrap (i_15 + 1)), rfl, hm⟩
         exact le_canon (fun j => bif j == 1 then 1 else 0) (wV (wO (wD (CFGEdge.sl _ _ _) (wV (wV wk_none))))) (hW (eU CFGEdge entWk_none))
       ·
        refine AWp.exit ?_
        refine exitSeq ?_
        refine exitThen ?_
        refine exitHere ?_
        refine normIn ?_
        refine normThen ?_
        refine ⟨_, ?_, u_2, v_3, on_11, out_14, rfl, hm⟩
        exact le_canon (fun j => bif j == 1 then 1 else 0) (wO (wD (CFGEdge.sl _ _ _) (wV (wV wk_none)))) (hW (eU CFGEdge entWk_none))
     ·
      refine AWp.exit ?_
      refine exitSeq ?_
      refine exitThen ?_
      refine exitHere ?_
      refine normSeq ?_
      refine sr (N' := 192) rfl ?_
      iterate 3 refine pA ?_
      refine fs ?_
      refine AWp.ret ?_
      cases hm
      exact ret2D (.inr rfl) Tryz.results50 (tdo CFGEdge Z1 Z3 Z6) (td Z1 (.v _))
def ref10Behind_m (a_0 : GEdge) (b_1 : GEdge) : Option (Bool) :=
 (bif (a_0.Tier != b_1.Tier) then
  some (decide (b_1.Tier < a_0.Tier))
 else
  ((ref03Less_m b_1 a_0).bind fun r2 =>
  some r2))
theorem ref10Behind_c {a_0 : GEdge} {b_1 : GEdge} {r : Bool} (hm : ref10Behind_m a_0 b_1 = some r) : PureC Tryz.prog 66 [.agg [.v (.int .i64 a_0.U), .v (.int .i64 a_0.V), .v (.int .i64 a_0.Tier)], .agg [.v (.int .i64 b_1.U), .v (.int .i64 b_1.V), .v (.int .i64 b_1.Tier)]] (.v (.bool r)) := by
 refine PureC.of_body Tryz.func66 rfl ?_
 simp only [Tryz.ntmps66, List.length_cons, List.length_nil, Nat.reduceAdd, Nat.reduceSub, empty_eq]
 unfold ref10Behind_m at hm
 refine sr (N' := 64) rfl ?_
 refine hp (id := 0) rfl rfl (aheap_box Z1 Z5) ?_
 refine hp (id := 1) rfl rfl (aheap_box Z1 Z5) ?_
 refine pA ?_
 refine fs ?_
 refine AWp.seq' ?_
 refine sr (N' := 128) rfl ?_
 refine pA ?_
 refine pu rfl (ap_ldv Z1 Z3 Z4) ?_
 refine pA ?_
 refine pu rfl (ap_ldv Z1 Z3 Z4) ?_
 refine pA ?_
 refine fs ?_
 refine AWp.condM hm Z1 (fun _ hm => ?_) (fun _ hm => ?_)
 ·
  refine sr (N' := 192) rfl ?_
  refine pA ?_
  refine pu rfl (ap_ldv Z1 Z3 Z4) ?_
  refine pA ?_
  refine pu rfl (ap_ldv Z1 Z3 Z4) ?_
  iterate 2 refine pA ?_
  refine fs ?_
  refine AWp.ret ?_
  refine retSeq ?_
  cases hm
  exact ret1D (.inr rfl) Tryz.results66 (td Z1 (.v _))
 ·
  refine AWp.skip ?_
  refine normSeq ?_
  refine sr (N' := 192) rfl ?_
  refine pu rfl (ap_ldv Z1 Z3 Z2) ?_
  refine pu rfl (ap_ldv Z1 Z3 Z2) ?_
  obtain ⟨r2, h1, hm⟩ := bnd hm
  refine ARun.callQ (r := .v (.bool r2)) Zd Z1 fb43 (fun H => (cD (.agg _ (CFGEdge.dat _)) (cD (.agg _ (CFGEdge.dat _)) .nil))) (ref03Less_c h1) ?_
  refine pA ?_
  refine fs ?_
  refine AWp.ret ?_
  cases hm
  exact ret1D (.inr rfl) Tryz.results66 (td Z1 (.v _))
def ref10Greatest_J1 (rec1 : List GEdge → GEdge → Int → Option (GEdge × Bool)) (rec2 : List GEdge → GEdge → Int → Bool → Int → Option (GEdge × Bool)) (l_0 : List GEdge) (t2 : GEdge) (i_4 : Int) (is_5 : Bool) (k_6 : Int) : Option (GEdge × Bool) :=
 rec2 l_0 t2 i_4 is_5 (IntKind.i64.wrap (k_6 + 1))
def ref10Greatest_B2 (rec1 : List GEdge → GEdge → Int → Option (GEdge × Bool)) (rec2 : List GEdge → GEdge → Int → Bool → Int → Option (GEdge × Bool)) (l_0 : List GEdge) (t2 : GEdge) (i_4 : Int) (is_5 : Bool) (k_6 : Int) : Option (GEdge × Bool) :=
 (bif (decide (k_6 < (l_0.length : Int))) then
  ((idx l_0 k_6).bind fun x2 =>
  ((idx l_0 i_4).bind fun x4 =>
  ((ref10Behind_m x2 x4).bind fun r6 =>
  (bif r6 then
   ref10Greatest_J1 rec1 rec2 l_0 t2 i_4 false k_6
  else
   ref10Greatest_J1 rec1 rec2 l_0 t2 i_4 is_5 k_6))))
 else
  (bif is_5 then
   ((idx l_0 i_4).bind fun x8 =>
   some (x8, true))
  else
   rec1 l_0 t2 (IntKind.i64.wrap (i_4 + 1))))
def ref10Greatest_L2 (rec1 : List GEdge → GEdge → Int → Option (GEdge × Bool)) : Nat → List GEdge → GEdge → Int → Bool → Int → Option (GEdge × Bool)
 | 0 => fun _ _ _ _ _ => none
 | n + 1 => ref10Greatest_B2 rec1 (ref10Greatest_L2 rec1 n)
def ref10Greatest_B1 (rec1 : List GEdge → GEdge → Int → Option (GEdge × Bool)) (l_0 : List GEdge) (t2 : GEdge) (i_4 : Int) : Option (GEdge × Bool) :=
 (bif (decide (i_4 < (l_0.length : Int))) then
  ref10Greatest_L2 rec1 FUEL l_0 t2 i_4 true 0
 else
  some ((GEdge.mk 0 0 0), false))
def ref10Greatest_L1 : Nat → List GEdge → GEdge → Int → Option (GEdge × Bool)
 | 0 => fun _ _ _ => none
 | n + 1 => ref10Greatest_B1 (ref10Greatest_L1 n)
def ref10Greatest_m (l_0 : List GEdge) : Option (GEdge × Bool) :=
 ref10Greatest_L1 FUEL l_0 (GEdge.mk 0 0 0) 0
theorem ref10Greatest_c {l_0 : List GEdge} {r : GEdge × Bool} (hm : ref10Greatest_m l_0 = some r) : PureC Tryz.prog 51 [.sl (l_0.flatMap cGEdge) l_0.length false] (.tup [.agg [.v (.int .i64 r.1.U), .v (.int .i64 r.1.V), .v (.int .i64 r.1.Tier)], .v (.bool r.2)]) := by
 refine PureC.of_body Tryz.func51 rfl ?_
 simp only [Tryz.ntmps51, List.length_cons, List.length_nil, Nat.reduceAdd, Nat.reduceSub, empty_eq]
 unfold ref10Greatest_m at hm
 refine sr (N' := 64) rfl ?_
 refine hp (id := 0) rfl rfl (aheap_alloc' zc47 Z5) ?_
 refine pA ?_
 refine fs ?_
 refine AWp.seq' ?_
 refine sr (N' := 128) rfl ?_
 refine pA ?_
 refine fs ?_
 refine AWp.block ?_
 refine AWp.loopM (fun m s => ∃ (l_0 : List GEdge) (t2 : GEdge) (i_4 : Int), s = (⟨34, (fset (fset (fset (fun _ => AV.any) 0 (.sl (l_0.flatMap cGEdge) l_0.length false)) 2 (.adr 1 0)) 4 (.v (.int .i64 i_4))), ⟨(upd nofresh 1 (.cells 1 [.v (.int .i64 t2.U), .v (.int .i64 t2.V), .v (.int .i64 t2.Tier)] 0)), 64⟩⟩ : St) ∧ ref10Greatest_L1 m l_0 t2 i_4 = some r) FUEL ?_ ?_ ?_
 ·
  rintro s ⟨_, _, _, _, h⟩
  cases h
 ·
  refine ⟨_, ?_, l_0, (GEdge.mk 0 0 0), 0, rfl, hm⟩
  exact le_canon (fun j => bif j == 1 then 0 else 0) (wV (wk_fset _ _ (wk_adr Z1 rfl Z7) (wD (CFGEdge.sl _ _ _) wk_none))) (hW (entWk_upd (entWk_data Z3 (Nat.le_refl _) (Nat.zero_le _) (CFGEdge.dat (GEdge.mk 0 0 0))) entWk_none))
 ·
  rintro n1 s ⟨l_0, t2, i_4, rfl, hm⟩
  replace hm : ref10Greatest_B1 (ref10Greatest_L1 n1) l_0 t2 i_4 = some r := hm
  unfold ref10Greatest_B1 at hm
  refine AWp.seq' ?_
  refine sr (N' := 128) rfl ?_
  iterate 4 refine pA ?_
  refine fs ?_
  refine AWp.condM hm Z1 (fun _ hm => ?_) (fun _ hm => ?_)
  ·
   refine AWp.skip ?_
   refine normSeq ?_
   refine AWp.seq' ?_
   refine AWp.block ?_
   refine sr (N' := 192) rfl ?_
   refine pA ?_
   refine fs ?_
   refine AWp.seq' ?_
   refine sr (N' := 256) rfl ?_
   refine pA ?_
   refine fs ?_
   refine AWp.block ?_
   refine AWp.loopM (fun m s => ∃ (l_0 : List GEdge) (t2 : GEdge) (i_4 : Int) (is_5 : Bool) (k_6 : Int), s = (⟨34, (fset (fset (fset (fset (fset (fun _ => AV.any) 0 (.sl (l_0.flatMap cGEdge) l_0.length false)) 2 (.adr 1 0)) 4 (.v (.int .i64 i_4))) 5 (.v (.bool is_5))) 6 (.v (.int .i64 k_6))), ⟨(upd nofresh 1 (.cells 1 [.v (.int .i64 t2.U), .v (.int .i64 t2.V), .v (.int .i64 t2.Tier)] 0)), 64⟩⟩ : St) ∧ ref10Greatest_L2 (ref10Greatest_L1 n1) m l_0 t2 i_4 is_5 k_6 = some r) FUEL ?_ ?_ ?_
   ·
    rintro s ⟨_, _, _, _, _, _, h⟩
    cases h
   ·
    refine ⟨_, ?_, l_0, t2, i_4, true, 0, rfl, hm⟩
    exact le_canon (fun j => bif j == 1 then 1 else 0) (wV (wV (wV (wk_fset _ _ (wk_adr Z1 rfl Z7) (wD (CFGEdge.sl _ _ _) wk_none))))) (hW (entWk_upd (entWk_data Z3 (Nat.le_refl _) (Nat.zero_le _) (CFGEdge.dat t2)) entWk_none))
   ·
    rintro n2 s ⟨l_0, t2, i_4, is_5, k_6, rfl, hm⟩
    replace hm : ref10Greatest_B2 (ref10Greatest_L1 n1) (ref10Greatest_L2 (ref10Greatest_L1 n1) n2) l_0 t2 i_4 is_5 k_6 = some r := hm
    unfold ref10Greatest_B2 at hm
    refine AWp.seq' ?_
    refine sr (N' := 128) rfl ?_
    iterate 4 refine pA ?_
    refine fs ?_
    refine AWp.condM hm Z1 (fun _ hm => ?_) (fun _ hm => ?_)
    ·
     refine AWp.skip ?_
     refine normSeq ?_
     refine AWp.seqJ (fun s => ∃ (l_0 : List GEdge) (t2 : GEdge) (i_4 : Int) (is_5 : Bool) (k_6 : Int), s = (⟨34, (fset (fset (fset (fset (fset (fun _ => AV.any) 0 (.sl (l_0.flatMap cGEdge) l_0.length false)) 2 (.adr 1 0)) 4 (.v (.int .i64 i_4))) 5 (.v (.bool is_5))) 6 (.v (.int .i64 k_6))), ⟨(upd nofresh 1 (.cells 1 [.v (.int .i64 t2.U), .v (.int .i64 t2.V), .v (.int .i64 t2.Tier)] 0)), 64⟩⟩ : St) ∧ ref10Greatest_J1 (ref10Greatest_L1 n1) (ref10Greatest_L2 (ref10Greatest_L1 n1) n2) l_0 t2 i_4 is_5 k_6 = some r) ?_ ?_
     ·
      refine AWp.block ?_
      refine sd mix (by kernel_rfl) (N' := 192) rfl ?_
      iterate 2 refine pA ?_
      obtain ⟨x2, h1, hm⟩ := bnd hm
      refine pu rfl (ap_idx CFGEdge Zd Tryz.underlying25 sz47 Z1 rfl Z1 h1) ?_
      iterate 3 refine pA ?_
      obtain ⟨x4, h3, hm⟩ := bnd hm
      refine pu rfl (ap_idx CFGEdge Zd Tryz.underlying25 sz47 Z1 rfl Z1 h3) ?_
      refine pA ?_
      obtain ⟨r6, h5, hm⟩ := bnd hm
      refine ARun.callQ (r := .v (.bool r6)) Zd Z1 fb66 (fun H => (cD (.agg _ (CFGEdge.dat _)) (cD (.agg _ (CFGEdge.dat _)) .nil))) (ref10Behind_c h5) ?_
      refine fs ?_
      refine AWp.condM hm Z1 (fun _ hm => ?_) (fun _ hm => ?_)
      ·
       refine AWp.reg 64 (N' := 256) rfl ?_
       refine pA ?_
       refine ARun.fin ?_
       refine normIn ?_
       refine normJ ?_
       refine ⟨_, ?_, l_0, t2, i_4, false, k_6, rfl, hm⟩
       exact le_canon (fun j => bif j == 1 then 1 else 0) (wV (wV (wV (wk_fset _ _ (wk_adr Z1 rfl Z7) (wD (CFGEdge.sl _ _ _) wk_none))))) (hW (entWk_upd (entWk_data Z3 (Nat.le_refl _) (Nat.zero_le _) (CFGEdge.dat t2)) entWk_none))
      ·
       refine AWp.skip ?_
       refine normIn ?_
       refine normJ ?_
       refine ⟨_, ?_, l_0, t2, i_4, is_5, k_6, rfl, hm⟩
       exact le_canon (fun j => bif j == 1 then 1 else 0) (wV (wV (wV (wk_fset _ _ (wk_adr Z1 rfl Z7) (wD (CFGEdge.sl _ _ _) wk_none))))) (hW (entWk_upd (entWk_data Z3 (Nat.le_refl _) (Nat.zero_le _) (CFGEdge.dat t2)) entWk_none))
     ·
      rintro s ⟨l_0, t2, i_4, is_5, k_6, rfl, hm⟩
      unfold ref10Greatest_J1 at hm
      refine AWp.reg 64 (N' := 128) rfl ?_
      iterate 3 refine pA ?_
      refine ARun.fin ?_
      refine normThen ?_
      refine ⟨_, ?_, l_0, t2, i_4, is_5, (IntKind.i64.wrap (k_6 + 1)), rfl, hm⟩
      exact le_canon (fun j => bif j == 1 then 1 else 0) (wV (wV (wV (wk_fset _ _ (wk_adr Z1 rfl Z7) (wD (CFGEdge.sl _ _ _) wk_none))))) (hW (entWk_upd (entWk_data Z3 (Nat.le_refl _) (Nat.zero_le _) (CFGEdge.dat t2)) entWk_none))
    ·
     refine AWp.exit ?_
     refine exitSeq ?_
     refine exitThen ?_
     refine exitHere ?_
     refine normSeq ?_
     refine sr (N' := 192) rfl ?_
     refine pA ?_
     refine fs ?_
     refine AWp.condM hm Z1 (fun _ hm => ?_) (fun _ hm => ?_)
     ·
      refine sr (N' := 256) rfl ?_
      iterate 2 refine pA ?_
      obtain ⟨x8, h7, hm⟩ := bnd hm
      refine pu rfl (ap_idx CFGEdge Zd Tryz.underlying25 sz47 Z1 rfl Z1 h7) ?_
      refine pA ?_
      refine ARun.heap0 (id := 196) rfl (ah_var (ys := [.v (.int .i64 x8.U), .v (.int .i64 x8.V), .v (.int .i64 x8.Tier)]) sz47 Z1 Z1 Z3 rfl (Nat.le_of_ble_eq_true rfl) Z9 rfl) ?_
      refine pA ?_
      refine fs ?_
      refine AWp.ret ?_
      refine retIn ?_
      refine retSeq ?_
      refine retThen ?_
      refine retIn ?_
      refine retSeq ?_
      cases hm
      exact retL (.inr rfl) (by rw [Tryz.results51]) (.cell (ap_ldv' Z1 Z3 Z2) (.tmp Z1 .nil)) rfl (tdt (.cons (td rfl (.agg _ (CFGEdge.dat _))) (.cons (td rfl (.v _)) .nil)))
     ·
      refine AWp.skip ?_
      refine normIn ?_
      refine normSeq ?_
      refine AWp.reg 64 (N' := 256) rfl ?_
      iterate 3 refine pA ?_
      refine ARun.fin ?_
      refine normThen ?_
      refine ⟨_, ?_, l_0, t2, (IntKind.i64.wrap (i_4 + 1)), rfl, hm⟩
      exact le_canon (fun j => bif j == 1 then 1 else 0) (wV (wk_fset _ _ (wk_adr Z1 rfl Z7) (wD (CFGEdge.sl _ _ _) wk_none))) (hW (entWk_upd (entWk_data Z3 (Nat.le_refl _) (Nat.zero_le _) (CFGEdge.dat t2)) entWk_none))
  ·
   refine AWp.exit ?_
   refine exitSeq ?_
   refine exitThen ?_
   refine exitHere ?_
   refine normSeq ?_
   refine sr (N' := 192) rfl ?_
   refine pu rfl (by simp only [go_sem, Nat.reduceBEq]; exact (by kernel_rfl : abuild Tryz.prog 47 [] = some (.agg [.v (.int .i64 0), .v (.int .i64 0), .v (.int .i64 0)]))) ?_
   refine ARun.heap0 (id := 129) rfl (ah_var (ys := [.v (.int .i64 0), .v (.int .i64 0), .v (.int .i64 0)]) sz47 Z1 Z1 Z3 rfl (Nat.le_of_ble_eq_true rfl) Z9 rfl) ?_
   refine pA ?_
   refine fs ?_
   refine AWp.ret ?_
   cases hm
   exact retL (.inr rfl) (by rw [Tryz.results51]) (.cell (ap_ldv' Z1 Z3 Z2) (.tmp Z1 .nil)) rfl (tdt (.cons (td rfl (.agg _ (CFGEdge.dat (GEdge.mk 0 0 0)))) (.cons (td rfl (.v _)) .nil)))
def ref12Set_m (n_0 : Int) (l_1 : List GEdge) (u_2 : Int) (v_3 : Int) (tier_4 : Int) : Option ((List GEdge) × Int) :=
 ((ref12Right_m n_0 l_1).bind fun r2 =>
 ((gopt ((!r2) == false) false (ref12In_m n_0 u_2)).bind fun r4 =>
 ((gopt (((!r2) || (!r4)) == false) false (ref12In_m n_0 v_3)).bind fun r6 =>
 (bif (((((!r2) || (!r4)) || (!r6)) || (decide (tier_4 < 0))) || (decide (16 < tier_4))) then
  some (l_1, 1)
 else
  ((ref12Find_m l_1 u_2 v_3).bind fun r8 =>
  (bif (decide (r8 < 0)) then
   some (l_1, 9)
  else
   ((app [] l_1).bind fun l10 =>
   ((idx l_1 r8).bind fun x12 =>
   ((idx l_1 r8).bind fun x14 =>
   ((idx l10 r8).bind fun x16 =>
   ((stt l10 r8 (GEdge.mk x12.U x14.V tier_4)).bind fun l18 =>
   some (l18, 0))))))))))))
theorem ref12Set_c {n_0 : Int} {l_1 : List GEdge} {u_2 : Int} {v_3 : Int} {tier_4 : Int} {r : (List GEdge) × Int} (hm : ref12Set_m n_0 l_1 u_2 v_3 tier_4 = some r) : PureC Tryz.prog 52 [.v (.int .i64 n_0), .sl (l_1.flatMap cGEdge) l_1.length false, .v (.int .i64 u_2), .v (.int .i64 v_3), .v (.int .i64 tier_4)] (.tup [.sl (r.1.flatMap cGEdge) r.1.length false, .v (.int .i64 r.2)]) := by
 refine PureC.of_body Tryz.func52 rfl ?_
 simp only [Tryz.ntmps52, List.length_cons, List.length_nil, Nat.reduceAdd, Nat.reduceSub, empty_eq]
 unfold ref12Set_m at hm
 refine sr (N' := 64) rfl ?_
 iterate 2 refine pA ?_
 refine fs ?_
 refine sr (N' := 128) rfl ?_
 iterate 2 refine pA ?_
 obtain ⟨r2, h1, hm⟩ := bnd hm
 refine ARun.callQ (r := .v (.bool r2)) Zd Z1 fb30 (fun H => (cV (cD (CFGEdge.sl _ _ _) .nil))) (ref12Right_c h1) ?_
 refine pA ?_
 refine fs ?_
 refine AWp.seq' ?_
 refine sr (N' := 192) rfl ?_
 iterate 5 first | refine pA ?_ | refine pB ?_
 obtain ⟨r4, h3, hm⟩ := bnd hm
 refine ARun.callQG (r := .v (.bool r4)) Zd rfl Z2 Z1 fb41 (fun hb H => (.cons (td (Zh hb) (.v _)) (.cons (td (Zh hb) (.v _)) .nil))) (fun hb => ref12In_c (gopt_t h3 hb)) ?_
 iterate 5 first | refine pA ?_ | refine pB ?_
 obtain ⟨r6, h5, hm⟩ := bnd hm
 refine ARun.callQG (r := .v (.bool r6)) Zd rfl Z2 Z1 fb41 (fun hb H => (.cons (td (Zh hb) (.v _)) (.cons (td (Zh hb) (.v _)) .nil))) (fun hb => ref12In_c (gopt_t h5 hb)) ?_
 iterate 10 first | refine pA ?_ | refine pB ?_
 refine fs ?_
 refine AWp.condM hm Z1 (fun _ hm => ?_) (fun _ hm => ?_)
 ·
  refine sr (N' := 256) rfl ?_
  iterate 3 refine pA ?_
  refine fs ?_
  refine AWp.ret ?_
  refine retSeq ?_
  cases hm
  exact ret2D (.inr rfl) Tryz.results52 (td Z1 (CFGEdge.sl _ _ _)) (td Z1 (.v _))
 ·
  refine AWp.skip ?_
  refine normSeq ?_
  refine sr (N' := 256) rfl ?_
  iterate 3 refine pA ?_
  obtain ⟨r8, h7, hm⟩ := bnd hm
  refine ARun.callQ (r := .v (.int .i64 r8)) Zd Z1 fb42 (fun H => (cD (CFGEdge.sl _ _ _) (cV (cV .nil)))) (ref12Find_c h7) ?_
  refine pA ?_
  refine fs ?_
  refine AWp.seq' ?_
  refine sr (N' := 320) rfl ?_
  iterate 2 refine pA ?_
  refine fs ?_
  refine AWp.condM hm Z1 (fun _ hm => ?_) (fun _ hm => ?_)
  ·
   refine sr (N' := 384) rfl ?_
   iterate 3 refine pA ?_
   refine fs ?_
   refine AWp.ret ?_
   refine retSeq ?_
   cases hm
   exact ret2D (.inr rfl) Tryz.results52 (td Z1 (CFGEdge.sl _ _ _)) (td Z1 (.v _))
  ·
   refine AWp.skip ?_
   refine normSeq ?_
   refine sr (N' := 384) rfl ?_
   refine pA ?_
   refine fs ?_
   refine sr (N' := 448) rfl ?_
   iterate 2 refine pA ?_
   obtain ⟨l10, h9, hm⟩ := bnd hm
   refine hp (id := 386) rfl rfl (ah_app0 CFGEdge Tryz.underlying25 Tryz.underlying25 rfl in47 ts47 (by rw [tb47]; decide) (by rw [tb47]; decide) tz47 Zd Zd Z1 (as_sl CFGEdge Z1 rfl) rfl Z5 h9) ?_
   refine pA ?_
   refine fs ?_
   refine sd mix (by kernel_rfl) (N' := 512) rfl ?_
   iterate 4 refine pA ?_
   obtain ⟨x12, h11, hm⟩ := bnd hm
   refine pu rfl (ap_idx CFGEdge Zd Tryz.underlying25 sz47 Z1 rfl Z1 h11) ?_
   iterate 4 refine pA ?_
   obtain ⟨x14, h13, hm⟩ := bnd hm
   refine pu rfl (ap_idx CFGEdge Zd Tryz.underlying25 sz47 Z1 rfl Z1 h13) ?_
   iterate 3 refine pA ?_
   refine pu rfl (by simp only [go_sem, Nat.reduceBEq]; exact (by kernel_rfl : abuild Tryz.prog 47 [(0, .v (.int .i64 x12.U)), (1, .v (.int .i64 x14.V)), (2, .v (.int .i64 tier_4))] = some (.agg [.v (.int .i64 x12.U), .v (.int .i64 x14.V), .v (.int .i64 tier_4)]))) ?_
   obtain ⟨x16, h15, hm⟩ := bnd hm
   refine pu rfl (ap_idxo Tryz.underlying25 sz47 Z1 Z3 Z6 Z1 h15) ?_
   obtain ⟨l18, h17, hm⟩ := bnd hm
   have qh17 := stt_len h17
   refine ARun.heap0 (id := 463) rfl (ah_stt CFGEdge sz47 Z1 Z1 Z3 rfl h17) ?_
   refine fs ?_
   refine sr (N' := 576) rfl ?_
   iterate 3 refine pA ?_
   refine fs ?_
   refine AWp.ret ?_
   cases hm
   exact ret2D (.inr rfl) Tryz.results52 (tdo CFGEdge Z1 Z3 Z6) (td Z1 (.v _))
def ref15Step_J1 (tier_1 : Int) (g_3 : GGraph) (t6 : GGraph) (e_9 : GEdge) (n_11 : Int) (l_12 : List GEdge) : Option (GGraph) :=
 ((ref12Set_m n_11 l_12 e_9.U e_9.V (IntKind.i64.wrap (tier_1 + 1))).bind fun ⟨r9, r10⟩ =>
 some (GGraph.mk g_3.Config g_3.Hashes r9))
def ref15Step_m (g_0 : GGraph) (tier_1 : Int) (w_2 : Int) : Option (GGraph) :=
 ((ref14Tree_m g_0 tier_1 w_2).bind fun r2 =>
 ((ref14Tree_m g_0 (IntKind.i64.wrap (tier_1 + 1)) w_2).bind fun r4 =>
 ((ref14Search_m g_0 tier_1 w_2).bind fun ⟨r6, r7⟩ =>
 (bif ((!r7) || ((r2.length : Int) != (r4.length : Int))) then
  some g_0
 else
  (bif (r6.Tier == 0) then
   ((ref12Forest_m g_0.Edges g_0.Config.L).bind fun r12 =>
   ((ref10Path_m g_0.Config.N r12 r6.U r6.V).bind fun ⟨r14, r15⟩ =>
   ((ref10Greatest_m r14).bind fun ⟨r17, r18⟩ =>
   (bif (r15 && r18) then
    ((ref12Set_m g_0.Config.N g_0.Edges r17.U r17.V 0).bind fun ⟨r20, r21⟩ =>
    ref15Step_J1 tier_1 g_0 (GGraph.mk (GConfig.mk 0 0 0) [] []) r6 g_0.Config.N r20)
   else
    ref15Step_J1 tier_1 g_0 (GGraph.mk (GConfig.mk 0 0 0) [] []) r6 g_0.Config.N g_0.Edges))))
  else
   ref15Step_J1 tier_1 g_0 (GGraph.mk (GConfig.mk 0 0 0) [] []) r6 g_0.Config.N g_0.Edges)))))
theorem ref15Step_c {g_0 : GGraph} {tier_1 : Int} {w_2 : Int} {r : GGraph} (hm : ref15Step_m g_0 tier_1 w_2 = some r) : PureC Tryz.prog 34 [.agg [.v (.int .i64 g_0.Config.N), .v (.int .i64 g_0.Config.L), .v (.int .i64 g_0.Config.R), .sl (g_0.Hashes.flatMap cGHash) g_0.Hashes.length false, .sl (g_0.Edges.flatMap cGEdge) g_0.Edges.length false], .v (.int .i64 tier_1), .v (.int .i64 w_2)] (.agg [.v (.int .i64 r.Config.N), .v (.int .i64 r.Config.L), .v (.int .i64 r.Config.R), .sl (r.Hashes.flatMap cGHash) r.Hashes.length false, .sl (r.Edges.flatMap cGEdge) r.Edges.length false]) := by
 refine PureC.of_body Tryz.func34 rfl ?_
 simp only [Tryz.ntmps34, List.length_cons, List.length_nil, Nat.reduceAdd, Nat.reduceSub, empty_eq]
 unfold ref15Step_m at hm
 refine sr (N' := 64) rfl ?_
 refine hp (id := 0) rfl rfl (aheap_box Z1 Z5) ?_
 refine hp (id := 1) rfl rfl (aheap_alloc' zc27 Z5) ?_
 refine fs ?_
 refine sd mix (by kernel_rfl) (N' := 128) rfl ?_
 refine pu rfl (ap_ldv Z1 Z3 Z2) ?_
 iterate 2 refine pA ?_
 obtain ⟨r2, h1, hm⟩ := bnd hm
 refine ARun.callQ (r := .sl (r2.flatMap (ci .i64)) r2.length false) Zd Z1 fb48 (fun H => (cD (.agg _ (CFGGraph.dat _)) (cV (cV .nil)))) (ref14Tree_c h1) ?_
 refine pu rfl (ap_ldv Z1 Z3 Z2) ?_
 iterate 3 refine pA ?_
 obtain ⟨r4, h3, hm⟩ := bnd hm
 refine ARun.callQ (r := .sl (r4.flatMap (ci .i64)) r4.length false) Zd Z1 fb48 (fun H => (cD (.agg _ (CFGGraph.dat _)) (cV (cV .nil)))) (ref14Tree_c h3) ?_
 iterate 2 refine pA ?_
 refine fs ?_
 refine sr (N' := 192) rfl ?_
 refine pu rfl (ap_ldv Z1 Z3 Z2) ?_
 iterate 2 refine pA ?_
 obtain ⟨⟨r6, r7⟩, h5, hm⟩ := bnd hm
 refine ARun.callQ (r := .tup [.agg [.v (.int .i64 r6.U), .v (.int .i64 r6.V), .v (.int .i64 r6.Tier)], .v (.bool r7)]) Zd Z1 fb49 (fun H => (cD (.agg _ (CFGGraph.dat _)) (cV (cV .nil)))) (ref14Search_c h5) ?_
 iterate 3 refine pA ?_
 refine hp (id := 135) rfl rfl (aheap_alloc' zc47 Z5) ?_
 refine ARun.heap0 (id := 136) rfl (ah_var (ys := [.v (.int .i64 r6.U), .v (.int .i64 r6.V), .v (.int .i64 r6.Tier)]) sz47 Z1 Z1 Z3 rfl (Nat.le_of_ble_eq_true rfl) Z9 rfl) ?_
 refine pA ?_
 refine fs ?_
 refine AWp.seq' ?_
 refine sr (N' := 256) rfl ?_
 iterate 9 first | refine pA ?_ | refine pB ?_
 refine fs ?_
 refine AWp.condM hm Z1 (fun _ hm => ?_) (fun _ hm => ?_)
 ·
  refine sr (N' := 320) rfl ?_
  refine pu rfl (ap_ldv Z1 Z3 Z2) ?_
  refine ARun.heap0 (id := 257) rfl (ah_var (ys := [.v (.int .i64 g_0.Config.N), .v (.int .i64 g_0.Config.L), .v (.int .i64 g_0.Config.R), .sl (g_0.Hashes.flatMap cGHash) g_0.Hashes.length false, .sl (g_0.Edges.flatMap cGEdge) g_0.Edges.length false]) sz27 Z1 Z1 Z3 rfl (Nat.le_of_ble_eq_true rfl) Z9 rfl) ?_
  refine fs ?_
  refine AWp.ret ?_
  refine retSeq ?_
  cases hm
  exact retL (.inr rfl) (by rw [Tryz.results34]) (.cell (ap_ldv' Z1 Z3 Z2) .nil) rfl (td rfl (.agg _ (CFGGraph.dat _)))
 ·
  refine AWp.skip ?_
  refine normSeq ?_
  refine sr (N' := 320) rfl ?_
  iterate 2 refine pA ?_
  refine pu rfl (ap_ldv Z1 Z3 Z4) ?_
  refine pA ?_
  refine fs ?_
  refine sr (N' := 384) rfl ?_
  refine pA ?_
  refine pu rfl (ap_ldv Z1 Z3 Z4) ?_
  refine pA ?_
  refine fs ?_
  refine AWp.seqJ (fun s => ∃ (tier_1 : Int) (g_3 : GGraph) (t6 : GGraph) (e_9 : GEdge) (n_11 : Int) (l_12 : List GEdge), s = (⟨104, (fset (fset (fset (fset (fset (fset (fun _ => AV.any) 1 (.v (.int .i64 tier_1))) 3 (.adr 1 0)) 6 (.adr 2 0)) 9 (.adr 3 0)) 11 (.v (.int .i64 n_11))) 12 (.sl (l_12.flatMap cGEdge) l_12.length false)), ⟨(upd (upd (upd nofresh 1 (.cells 1 [.v (.int .i64 g_3.Config.N), .v (.int .i64 g_3.Config.L), .v (.int .i64 g_3.Config.R), .sl (g_3.Hashes.flatMap cGHash) g_3.Hashes.length false, .sl (g_3.Edges.flatMap cGEdge) g_3.Edges.length false] 0)) 2 (.cells 1 [.v (.int .i64 t6.Config.N), .v (.int .i64 t6.Config.L), .v (.int .i64 t6.Config.R), .sl (t6.Hashes.flatMap cGHash) t6.Hashes.length false, .sl (t6.Edges.flatMap cGEdge) t6.Edges.length false] 0)) 3 (.cells 1 [.v (.int .i64 e_9.U), .v (.int .i64 e_9.V), .v (.int .i64 e_9.Tier)] 0)), 64⟩⟩ : St) ∧ ref15Step_J1 tier_1 g_3 t6 e_9 n_11 l_12 = some r) ?_ ?_
  ·
   refine sr (N' := 448) rfl ?_
   refine pA ?_
   refine pu rfl (ap_ldv Z1 Z3 Z4) ?_
   refine pA ?_
   refine fs ?_
   refine AWp.condM hm Z1 (fun _ hm => ?_) (fun _ hm => ?_)
   ·
    refine sr (N' := 512) rfl ?_
    iterate 3 refine pA ?_
    refine pu rfl (ap_ldv Z1 Z3 Z4) ?_
    obtain ⟨r12, h11, hm⟩ := bnd hm
    refine ARun.callQ (r := .sl (r12.flatMap cGEdge) r12.length false) Zd Z1 fb31 (fun H => (cD (CFGEdge.sl _ _ _) (cV .nil))) (ref12Forest_c h11) ?_
    refine pA ?_
    refine fs ?_
    refine sr (N' := 576) rfl ?_
    iterate 3 refine pA ?_
    refine pu rfl (ap_ldv Z1 Z3 Z4) ?_
    refine pA ?_
    refine pu rfl (ap_ldv Z1 Z3 Z4) ?_
    obtain ⟨⟨r14, r15⟩, h13, hm⟩ := bnd hm
    refine ARun.callQ (r := .tup [.sl (r14.flatMap cGEdge) r14.length false, .v (.bool r15)]) Zd Z1 fb50 (fun H => (cV (cD (CFGEdge.sl _ _ _) (cV (cV .nil))))) (ref10Path_c h13) ?_
    iterate 5 refine pA ?_
    refine fs ?_
    refine sr (N' := 640) rfl ?_
    refine pA ?_
    obtain ⟨⟨r17, r18⟩, h16, hm⟩ := bnd hm
    refine ARun.callQ (r := .tup [.agg [.v (.int .i64 r17.U), .v (.int .i64 r17.V), .v (.int .i64 r17.Tier)], .v (.bool r18)]) Zd Z1 fb51 (fun H => (cD (CFGEdge.sl _ _ _) .nil)) (ref10Greatest_c h16) ?_
    iterate 3 refine pA ?_
    refine hp (id := 581) rfl rfl (aheap_alloc' zc47 Z5) ?_
    refine ARun.heap0 (id := 582) rfl (ah_var (ys := [.v (.int .i64 r17.U), .v (.int .i64 r17.V), .v (.int .i64 r17.Tier)]) sz47 Z1 Z1 Z3 rfl (Nat.le_of_ble_eq_true rfl) Z9 rfl) ?_
    refine pA ?_
    refine fs ?_
    refine sr (N' := 704) rfl ?_
    iterate 4 first | refine pA ?_ | refine pB ?_
    refine fs ?_
    refine AWp.condM hm Z1 (fun _ hm => ?_) (fun _ hm => ?_)
    ·
     refine AWp.reg 64 (N' := 768) rfl ?_
     iterate 3 refine pA ?_
     refine pu rfl (ap_ldv Z1 Z3 Z4) ?_
     refine pA ?_
     refine pu rfl (ap_ldv Z1 Z3 Z4) ?_
     obtain ⟨⟨r20, r21⟩, h19, hm⟩ := bnd hm
     refine ARun.callQ (r := .tup [.sl (r20.flatMap cGEdge) r20.length false, .v (.int .i64 r21)]) Zd Z1 fb52 (fun H => (cV (cD (CFGEdge.sl _ _ _) (cV (cV (cV .nil)))))) (ref12Set_c h19) ?_
     iterate 4 refine pA ?_
     refine ARun.fin ?_
     refine normJ ?_
     refine ⟨_, ?_, tier_1, g_0, (GGraph.mk (GConfig.mk 0 0 0) [] []), r6, g_0.Config.N, r20, rfl, hm⟩
     refine St.Le.trans (le_cells 1 (ys := [.v (.int .i64 (((GGraph.mk (GConfig.mk 0 0 0) [] []).Config).N)), .v (.int .i64 (((GGraph.mk (GConfig.mk 0 0 0) [] []).Config).L)), .v (.int .i64 (((GGraph.mk (GConfig.mk 0 0 0) [] []).Config).R)), .sl (((GGraph.mk (GConfig.mk 0 0 0) [] []).Hashes).flatMap cGHash) ((GGraph.mk (GConfig.mk 0 0 0) [] []).Hashes).length false, .sl (((GGraph.mk (GConfig.mk 0 0 0) [] []).Edges).flatMap cGEdge) ((GGraph.mk (GConfig.mk 0 0 0) [] []).Edges).length false]) Z3 (.cons (.data _ (.v _)) (.cons (.data _ (.v _)) (.cons (.data _ (.v _)) (.cons (.nil false) (.cons (.nil false) .nil)))))) ?_
     exact le_canon (fun j => bif j == 1 then 0 else bif j == 2 then 1 else bif j == 3 then 135 else 0) (wD (CFGEdge.sl _ _ _) (wV (wk_fset _ _ (wk_adr Z1 rfl Z7) (wk_fset _ _ (wk_adr Z1 rfl Z7) (wk_fset _ _ (wk_adr Z1 rfl Z7) (wV wk_none)))))) (heapWk_of _ (entWk_upd (entWk_data Z3 (Nat.le_refl _) (Nat.zero_le _) (CFGEdge.dat r6)) (entWk_upd (entWk_data Z3 (Nat.le_refl _) (Nat.zero_le _) (CFGGraph.dat (GGraph.mk (GConfig.mk 0 0 0) [] []))) (entWk_upd (entWk_data Z3 (Nat.le_refl _) (Nat.zero_le _) (CFGGraph.dat g_0)) entWk_none))) Z8)
    ·
     refine AWp.skip ?_
     refine normJ ?_
     refine ⟨_, ?_, tier_1, g_0, (GGraph.mk (GConfig.mk 0 0 0) [] []), r6, g_0.Config.N, g_0.Edges, rfl, hm⟩
     refine St.Le.trans (le_cells 1 (ys := [.v (.int .i64 (((GGraph.mk (GConfig.mk 0 0 0) [] []).Config).N)), .v (.int .i64 (((GGraph.mk (GConfig.mk 0 0 0) [] []).Config).L)), .v (.int .i64 (((GGraph.mk (GConfig.mk 0 0 0) [] []).Config).R)), .sl (((GGraph.mk (GConfig.mk 0 0 0) [] []).Hashes).flatMap cGHash) ((GGraph.mk (GConfig.mk 0 0 0) [] []).Hashes).length false, .sl (((GGraph.mk (GConfig.mk 0 0 0) [] []).Edges).flatMap cGEdge) ((GGraph.mk (GConfig.mk 0 0 0) [] []).Edges).length false]) Z3 (.cons (.data _ (.v _)) (.cons (.data _ (.v _)) (.cons (.data _ (.v _)) (.cons (.nil false) (.cons (.nil false) .nil)))))) ?_
     exact le_canon (fun j => bif j == 1 then 0 else bif j == 2 then 1 else bif j == 3 then 135 else 0) (wD (CFGEdge.sl _ _ _) (wV (wk_fset _ _ (wk_adr Z1 rfl Z7) (wk_fset _ _ (wk_adr Z1 rfl Z7) (wk_fset _ _ (wk_adr Z1 rfl Z7) (wV wk_none)))))) (heapWk_of _ (entWk_upd (entWk_data Z3 (Nat.le_refl _) (Nat.zero_le _) (CFGEdge.dat r6)) (entWk_upd (entWk_data Z3 (Nat.le_refl _) (Nat.zero_le _) (CFGGraph.dat (GGraph.mk (GConfig.mk 0 0 0) [] []))) (entWk_upd (entWk_data Z3 (Nat.le_refl _) (Nat.zero_le _) (CFGGraph.dat g_0)) entWk_none))) Z8)
   ·
    refine AWp.skip ?_
    refine normJ ?_
    refine ⟨_, ?_, tier_1, g_0, (GGraph.mk (GConfig.mk 0 0 0) [] []), r6, g_0.Config.N, g_0.Edges, rfl, hm⟩
    refine St.Le.trans (le_cells 1 (ys := [.v (.int .i64 (((GGraph.mk (GConfig.mk 0 0 0) [] []).Config).N)), .v (.int .i64 (((GGraph.mk (GConfig.mk 0 0 0) [] []).Config).L)), .v (.int .i64 (((GGraph.mk (GConfig.mk 0 0 0) [] []).Config).R)), .sl (((GGraph.mk (GConfig.mk 0 0 0) [] []).Hashes).flatMap cGHash) ((GGraph.mk (GConfig.mk 0 0 0) [] []).Hashes).length false, .sl (((GGraph.mk (GConfig.mk 0 0 0) [] []).Edges).flatMap cGEdge) ((GGraph.mk (GConfig.mk 0 0 0) [] []).Edges).length false]) Z3 (.cons (.data _ (.v _)) (.cons (.data _ (.v _)) (.cons (.data _ (.v _)) (.cons (.nil false) (.cons (.nil false) .nil)))))) ?_
    exact le_canon (fun j => bif j == 1 then 0 else bif j == 2 then 1 else bif j == 3 then 135 else 0) (wD (CFGEdge.sl _ _ _) (wV (wk_fset _ _ (wk_adr Z1 rfl Z7) (wk_fset _ _ (wk_adr Z1 rfl Z7) (wk_fset _ _ (wk_adr Z1 rfl Z7) (wV wk_none)))))) (heapWk_of _ (entWk_upd (entWk_data Z3 (Nat.le_refl _) (Nat.zero_le _) (CFGEdge.dat r6)) (entWk_upd (entWk_data Z3 (Nat.le_refl _) (Nat.zero_le _) (CFGGraph.dat (GGraph.mk (GConfig.mk 0 0 0) [] []))) (entWk_upd (entWk_data Z3 (Nat.le_refl _) (Nat.zero_le _) (CFGGraph.dat g_0)) entWk_none))) Z8)
  ·
   rintro s ⟨tier_1, g_3, t6, e_9, n_11, l_12, rfl, hm⟩
   unfold ref15Step_J1 at hm
   refine sr (N' := 128) rfl ?_
   iterate 3 refine pA ?_
   refine pu rfl (ap_ldv Z1 Z3 Z4) ?_
   refine pA ?_
   refine pu rfl (ap_ldv Z1 Z3 Z4) ?_
   iterate 2 refine pA ?_
   obtain ⟨⟨r9, r10⟩, h8, hm⟩ := bnd hm
   refine ARun.callQ (r := .tup [.sl (r9.flatMap cGEdge) r9.length false, .v (.int .i64 r10)]) Zd Z1 fb52 (fun H => (cV (cD (CFGEdge.sl _ _ _) (cV (cV (cV .nil)))))) (ref12Set_c h8) ?_
   iterate 4 refine pA ?_
   refine fs ?_
   refine sr (N' := 192) rfl ?_
   refine pA ?_
   refine pu rfl (ap_ldv Z1 Z3 Z4) ?_
   refine pA ?_
   refine pu rfl (ap_ldv Z1 Z3 Z4) ?_
   refine pA ?_
   refine pu rfl (by simp only [go_sem, Nat.reduceBEq]; exact (by kernel_rfl : abuild Tryz.prog 27 [(0, .agg [.v (.int .i64 g_3.Config.N), .v (.int .i64 g_3.Config.L), .v (.int .i64 g_3.Config.R)]), (1, .sl (g_3.Hashes.flatMap cGHash) g_3.Hashes.length false), (2, .sl (r9.flatMap cGEdge) r9.length false)] = some (.agg [.v (.int .i64 g_3.Config.N), .v (.int .i64 g_3.Config.L), .v (.int .i64 g_3.Config.R), .sl (g_3.Hashes.flatMap cGHash) g_3.Hashes.length false, .sl (r9.flatMap cGEdge) r9.length false]))) ?_
   refine ARun.heap0 (id := 134) rfl (ah_var (ys := [.v (.int .i64 g_3.Config.N), .v (.int .i64 g_3.Config.L), .v (.int .i64 g_3.Config.R), .sl (g_3.Hashes.flatMap cGHash) g_3.Hashes.length false, .sl (r9.flatMap cGEdge) r9.length false]) sz27 Z1 Z1 Z3 rfl (Nat.le_of_ble_eq_true rfl) Z9 rfl) ?_
   refine fs ?_
   refine AWp.ret ?_
   cases hm
   exact retL (.inr rfl) (by rw [Tryz.results34]) (.cell (ap_ldv' Z1 Z3 Z2) .nil) rfl (td rfl (.agg _ (CFGGraph.dat (GGraph.mk g_3.Config g_3.Hashes r9))))
def ref15Mend_B1 (rec1 : Int → Int → GGraph → GGraph → Int → Option (GGraph)) (u_1 : Int) (v_2 : Int) (g_3 : GGraph) (t6 : GGraph) (tier_7 : Int) : Option (GGraph) :=
 (bif (decide (tier_7 < g_3.Config.L)) then
  ((ref15Step_m g_3 tier_7 u_1).bind fun r2 =>
  ((ref15Step_m r2 tier_7 v_2).bind fun r4 =>
  rec1 u_1 v_2 r4 t6 (IntKind.i64.wrap (tier_7 + 1))))
 else
  some g_3)
def ref15Mend_L1 : Nat → Int → Int → GGraph → GGraph → Int → Option (GGraph)
 | 0 => fun _ _ _ _ _ => none
 | n + 1 => ref15Mend_B1 (ref15Mend_L1 n)
def ref15Mend_m (g_0 : GGraph) (u_1 : Int) (v_2 : Int) : Option (GGraph) :=
 ref15Mend_L1 FUEL u_1 v_2 g_0 (GGraph.mk (GConfig.mk 0 0 0) [] []) 0
theorem ref15Mend_c {g_0 : GGraph} {u_1 : Int} {v_2 : Int} {r : GGraph} (hm : ref15Mend_m g_0 u_1 v_2 = some r) : PureC Tryz.prog 16 [.agg [.v (.int .i64 g_0.Config.N), .v (.int .i64 g_0.Config.L), .v (.int .i64 g_0.Config.R), .sl (g_0.Hashes.flatMap cGHash) g_0.Hashes.length false, .sl (g_0.Edges.flatMap cGEdge) g_0.Edges.length false], .v (.int .i64 u_1), .v (.int .i64 v_2)] (.agg [.v (.int .i64 r.Config.N), .v (.int .i64 r.Config.L), .v (.int .i64 r.Config.R), .sl (r.Hashes.flatMap cGHash) r.Hashes.length false, .sl (r.Edges.flatMap cGEdge) r.Edges.length false]) := by
 refine PureC.of_body Tryz.func16 rfl ?_
 simp only [Tryz.ntmps16, List.length_cons, List.length_nil, Nat.reduceAdd, Nat.reduceSub, empty_eq]
 unfold ref15Mend_m at hm
 refine sr (N' := 64) rfl ?_
 refine hp (id := 0) rfl rfl (aheap_box Z1 Z5) ?_
 refine hp (id := 1) rfl rfl (aheap_alloc' zc27 Z5) ?_
 refine fs ?_
 refine AWp.seq' ?_
 refine sr (N' := 128) rfl ?_
 refine pA ?_
 refine fs ?_
 refine AWp.block ?_
 refine AWp.loopM (fun m s => ∃ (u_1 : Int) (v_2 : Int) (g_3 : GGraph) (t6 : GGraph) (tier_7 : Int), s = (⟨23, (fset (fset (fset (fset (fset (fun _ => AV.any) 1 (.v (.int .i64 u_1))) 2 (.v (.int .i64 v_2))) 3 (.adr 1 0)) 6 (.adr 2 0)) 7 (.v (.int .i64 tier_7))), ⟨(upd (upd nofresh 1 (.cells 1 [.v (.int .i64 g_3.Config.N), .v (.int .i64 g_3.Config.L), .v (.int .i64 g_3.Config.R), .sl (g_3.Hashes.flatMap cGHash) g_3.Hashes.length false, .sl (g_3.Edges.flatMap cGEdge) g_3.Edges.length false] 0)) 2 (.cells 1 [.v (.int .i64 t6.Config.N), .v (.int .i64 t6.Config.L), .v (.int .i64 t6.Config.R), .sl (t6.Hashes.flatMap cGHash) t6.Hashes.length false, .sl (t6.Edges.flatMap cGEdge) t6.Edges.length false] 0)), 64⟩⟩ : St) ∧ ref15Mend_L1 m u_1 v_2 g_3 t6 tier_7 = some r) FUEL ?_ ?_ ?_
 ·
  rintro s ⟨_, _, _, _, _, _, h⟩
  cases h
 ·
  refine ⟨_, ?_, u_1, v_2, g_0, (GGraph.mk (GConfig.mk 0 0 0) [] []), 0, rfl, hm⟩
  refine St.Le.trans (le_cells 1 (ys := [.v (.int .i64 (((GGraph.mk (GConfig.mk 0 0 0) [] []).Config).N)), .v (.int .i64 (((GGraph.mk (GConfig.mk 0 0 0) [] []).Config).L)), .v (.int .i64 (((GGraph.mk (GConfig.mk 0 0 0) [] []).Config).R)), .sl (((GGraph.mk (GConfig.mk 0 0 0) [] []).Hashes).flatMap cGHash) ((GGraph.mk (GConfig.mk 0 0 0) [] []).Hashes).length false, .sl (((GGraph.mk (GConfig.mk 0 0 0) [] []).Edges).flatMap cGEdge) ((GGraph.mk (GConfig.mk 0 0 0) [] []).Edges).length false]) Z3 (.cons (.data _ (.v _)) (.cons (.data _ (.v _)) (.cons (.data _ (.v _)) (.cons (.nil false) (.cons (.nil false) .nil)))))) ?_
  exact le_canon (fun j => bif j == 1 then 0 else bif j == 2 then 1 else 0) (wV (wk_fset _ _ (wk_adr Z1 rfl Z7) (wk_fset _ _ (wk_adr Z1 rfl Z7) (wV (wV wk_none))))) (heapWk_of _ (entWk_upd (entWk_data Z3 (Nat.le_refl _) (Nat.zero_le _) (CFGGraph.dat (GGraph.mk (GConfig.mk 0 0 0) [] []))) (entWk_upd (entWk_data Z3 (Nat.le_refl _) (Nat.zero_le _) (CFGGraph.dat g_0)) entWk_none)) Z8)
 ·
  rintro n1 s ⟨u_1, v_2, g_3, t6, tier_7, rfl, hm⟩
  replace hm : ref15Mend_B1 (ref15Mend_L1 n1) u_1 v_2 g_3 t6 tier_7 = some r := hm
  unfold ref15Mend_B1 at hm
  refine AWp.seq' ?_
  refine sr (N' := 128) rfl ?_
  iterate 3 refine pA ?_
  refine pu rfl (ap_ldv Z1 Z3 Z4) ?_
  refine pA ?_
  refine fs ?_
  refine AWp.condM hm Z1 (fun _ hm => ?_) (fun _ hm => ?_)
  ·
   refine AWp.skip ?_
   refine normSeq ?_
   refine AWp.seq' ?_
   refine AWp.block ?_
   refine AWp.reg 64 (N' := 192) rfl ?_
   refine pu rfl (ap_ldv Z1 Z3 Z2) ?_
   iterate 2 refine pA ?_
   obtain ⟨r2, h1, hm⟩ := bnd hm
   refine ARun.callQ (r := .agg [.v (.int .i64 r2.Config.N), .v (.int .i64 r2.Config.L), .v (.int .i64 r2.Config.R), .sl (r2.Hashes.flatMap cGHash) r2.Hashes.length false, .sl (r2.Edges.flatMap cGEdge) r2.Edges.length false]) Zd Z1 fb34 (fun H => (cD (.agg _ (CFGGraph.dat _)) (cV (cV .nil)))) (ref15Step_c h1) ?_
   iterate 2 refine pA ?_
   obtain ⟨r4, h3, hm⟩ := bnd hm
   refine ARun.callQ (r := .agg [.v (.int .i64 r4.Config.N), .v (.int .i64 r4.Config.L), .v (.int .i64 r4.Config.R), .sl (r4.Hashes.flatMap cGHash) r4.Hashes.length false, .sl (r4.Edges.flatMap cGEdge) r4.Edges.length false]) Zd Z1 fb34 (fun H => (cD (.agg _ (CFGGraph.dat _)) (cV (cV .nil)))) (ref15Step_c h3) ?_
   refine ARun.heap0 (id := 135) rfl (ah_var (ys := [.v (.int .i64 r4.Config.N), .v (.int .i64 r4.Config.L), .v (.int .i64 r4.Config.R), .sl (r4.Hashes.flatMap cGHash) r4.Hashes.length false, .sl (r4.Edges.flatMap cGEdge) r4.Edges.length false]) sz27 Z1 Z1 Z3 rfl (Nat.le_of_ble_eq_true rfl) Z9 rfl) ?_
   refine ARun.fin ?_
   refine normIn ?_
   refine normSeq ?_
   refine AWp.reg 64 (N' := 256) rfl ?_
   iterate 3 refine pA ?_
   refine ARun.fin ?_
   refine normThen ?_
   refine ⟨_, ?_, u_1, v_2, r4, t6, (IntKind.i64.wrap (tier_7 + 1)), rfl, hm⟩
   exact le_canon (fun j => bif j == 1 then 1 else bif j == 2 then 2 else 0) (wV (wk_fset _ _ (wk_adr Z1 rfl Z7) (wk_fset _ _ (wk_adr Z1 rfl Z7) (wV (wV wk_none))))) (hW (entWk_upd (entWk_data Z3 (Nat.le_refl _) (Nat.zero_le _) (CFGGraph.dat t6)) (entWk_upd (entWk_data Z3 (Nat.le_refl _) (Nat.zero_le _) (CFGGraph.dat r4)) entWk_none)))
  ·
   refine AWp.exit ?_
   refine exitSeq ?_
   refine exitThen ?_
   refine exitHere ?_
   refine normSeq ?_
   refine sr (N' := 192) rfl ?_
   refine pu rfl (ap_ldv Z1 Z3 Z2) ?_
   refine ARun.heap0 (id := 129) rfl (ah_var (ys := [.v (.int .i64 g_3.Config.N), .v (.int .i64 g_3.Config.L), .v (.int .i64 g_3.Config.R), .sl (g_3.Hashes.flatMap cGHash) g_3.Hashes.length false, .sl (g_3.Edges.flatMap cGEdge) g_3.Edges.length false]) sz27 Z1 Z1 Z3 rfl (Nat.le_of_ble_eq_true rfl) Z9 rfl) ?_
   refine fs ?_
   refine AWp.ret ?_
   cases hm
   exact retL (.inr rfl) (by rw [Tryz.results16]) (.cell (ap_ldv' Z1 Z3 Z2) .nil) rfl (td rfl (.agg _ (CFGGraph.dat _)))
def ref15Change_J1 (u_1 : Int) (v_2 : Int) (g_4 : GGraph) (t8 : GGraph) (l_11 : List GEdge) (e_12 : Int) : Option (GGraph × Int) :=
 (bif (e_12 != 0) then
  some (g_4, e_12)
 else
  ((ref15Mend_m (GGraph.mk g_4.Config g_4.Hashes l_11) u_1 v_2).bind fun r9 =>
  some (r9, 0)))
def ref15Change_m (g_0 : GGraph) (u_1 : Int) (v_2 : Int) (gone_3 : Bool) : Option (GGraph × Int) :=
 ((ref14Right_m g_0).bind fun r2 =>
 ((gopt ((!r2) == false) false (ref15In_m g_0 u_1 v_2)).bind fun r4 =>
 (bif ((!r2) || (!r4)) then
  some (g_0, 1)
 else
  ((ref12Add_m g_0.Config.N g_0.Edges u_1 v_2).bind fun ⟨r6, r7⟩ =>
  (bif gone_3 then
   ((ref12Remove_m g_0.Config.N g_0.Edges u_1 v_2).bind fun ⟨r11, r12⟩ =>
   ref15Change_J1 u_1 v_2 g_0 (GGraph.mk (GConfig.mk 0 0 0) [] []) r11 r12)
  else
   ref15Change_J1 u_1 v_2 g_0 (GGraph.mk (GConfig.mk 0 0 0) [] []) r6 r7)))))
theorem ref15Change_c {g_0 : GGraph} {u_1 : Int} {v_2 : Int} {gone_3 : Bool} {r : GGraph × Int} (hm : ref15Change_m g_0 u_1 v_2 gone_3 = some r) : PureC Tryz.prog 7 [.agg [.v (.int .i64 g_0.Config.N), .v (.int .i64 g_0.Config.L), .v (.int .i64 g_0.Config.R), .sl (g_0.Hashes.flatMap cGHash) g_0.Hashes.length false, .sl (g_0.Edges.flatMap cGEdge) g_0.Edges.length false], .v (.int .i64 u_1), .v (.int .i64 v_2), .v (.bool gone_3)] (.tup [.agg [.v (.int .i64 r.1.Config.N), .v (.int .i64 r.1.Config.L), .v (.int .i64 r.1.Config.R), .sl (r.1.Hashes.flatMap cGHash) r.1.Hashes.length false, .sl (r.1.Edges.flatMap cGEdge) r.1.Edges.length false], .v (.int .i64 r.2)]) := by
 refine PureC.of_body Tryz.func7 rfl ?_
 simp only [Tryz.ntmps7, List.length_cons, List.length_nil, Nat.reduceAdd, Nat.reduceSub, empty_eq]
 unfold ref15Change_m at hm
 refine sr (N' := 64) rfl ?_
 refine hp (id := 0) rfl rfl (aheap_box Z1 Z5) ?_
 refine hp (id := 1) rfl rfl (aheap_alloc' zc27 Z5) ?_
 refine pA ?_
 refine fs ?_
 refine sr (N' := 128) rfl ?_
 refine pu rfl (ap_ldv Z1 Z3 Z2) ?_
 obtain ⟨r2, h1, hm⟩ := bnd hm
 refine ARun.callQ (r := .v (.bool r2)) Zd Z1 fb13 (fun H => (cD (.agg _ (CFGGraph.dat _)) .nil)) (ref14Right_c h1) ?_
 refine pA ?_
 refine fs ?_
 refine AWp.seq' ?_
 refine sr (N' := 192) rfl ?_
 iterate 3 refine pA ?_
 refine pg rfl rfl Z2 (fun hb => (ap_ldv (Zh hb) Z3 Z2)) ?_
 iterate 2 refine pB ?_
 obtain ⟨r4, h3, hm⟩ := bnd hm
 refine ARun.callQG (r := .v (.bool r4)) Zd rfl Z2 Z1 fb21 (fun hb H => (.cons (td (Zh hb) (.agg _ (CFGGraph.dat _))) (.cons (td (Zh hb) (.v _)) (.cons (td (Zh hb) (.v _)) .nil)))) (fun hb => ref15In_c (gopt_t h3 hb)) ?_
 iterate 2 first | refine pA ?_ | refine pB ?_
 refine fs ?_
 refine AWp.condM hm Z1 (fun _ hm => ?_) (fun _ hm => ?_)
 ·
  refine sr (N' := 256) rfl ?_
  refine pu rfl (ap_ldv Z1 Z3 Z2) ?_
  refine ARun.heap0 (id := 193) rfl (ah_var (ys := [.v (.int .i64 g_0.Config.N), .v (.int .i64 g_0.Config.L), .v (.int .i64 g_0.Config.R), .sl (g_0.Hashes.flatMap cGHash) g_0.Hashes.length false, .sl (g_0.Edges.flatMap cGEdge) g_0.Edges.length false]) sz27 Z1 Z1 Z3 rfl (Nat.le_of_ble_eq_true rfl) Z9 rfl) ?_
  refine pA ?_
  refine fs ?_
  refine AWp.ret ?_
  refine retSeq ?_
  cases hm
  exact retL (.inr rfl) (by rw [Tryz.results7]) (.cell (ap_ldv' Z1 Z3 Z2) (.tmp Z1 .nil)) rfl (tdt (.cons (td rfl (.agg _ (CFGGraph.dat _))) (.cons (td rfl (.v _)) .nil)))
 ·
  refine AWp.skip ?_
  refine normSeq ?_
  refine sr (N' := 256) rfl ?_
  iterate 2 refine pA ?_
  refine pu rfl (ap_ldv Z1 Z3 Z4) ?_
  refine pA ?_
  refine pu rfl (ap_ldv Z1 Z3 Z4) ?_
  iterate 2 refine pA ?_
  obtain ⟨⟨r6, r7⟩, h5, hm⟩ := bnd hm
  refine ARun.callQ (r := .tup [.sl (r6.flatMap cGEdge) r6.length false, .v (.int .i64 r7)]) Zd Z1 fb22 (fun H => (cV (cD (CFGEdge.sl _ _ _) (cV (cV .nil))))) (ref12Add_c h5) ?_
  iterate 5 refine pA ?_
  refine fs ?_
  refine AWp.seqJ (fun s => ∃ (u_1 : Int) (v_2 : Int) (g_4 : GGraph) (t8 : GGraph) (l_11 : List GEdge) (e_12 : Int), s = (⟨61, (fset (fset (fset (fset (fset (fset (fun _ => AV.any) 1 (.v (.int .i64 u_1))) 2 (.v (.int .i64 v_2))) 4 (.adr 1 0)) 8 (.adr 2 0)) 11 (.sl (l_11.flatMap cGEdge) l_11.length false)) 12 (.v (.int .i64 e_12))), ⟨(upd (upd nofresh 1 (.cells 1 [.v (.int .i64 g_4.Config.N), .v (.int .i64 g_4.Config.L), .v (.int .i64 g_4.Config.R), .sl (g_4.Hashes.flatMap cGHash) g_4.Hashes.length false, .sl (g_4.Edges.flatMap cGEdge) g_4.Edges.length false] 0)) 2 (.cells 1 [.v (.int .i64 t8.Config.N), .v (.int .i64 t8.Config.L), .v (.int .i64 t8.Config.R), .sl (t8.Hashes.flatMap cGHash) t8.Hashes.length false, .sl (t8.Edges.flatMap cGEdge) t8.Edges.length false] 0)), 64⟩⟩ : St) ∧ ref15Change_J1 u_1 v_2 g_4 t8 l_11 e_12 = some r) ?_ ?_
  ·
   refine sr (N' := 320) rfl ?_
   refine pA ?_
   refine fs ?_
   refine AWp.condM hm Z1 (fun _ hm => ?_) (fun _ hm => ?_)
   ·
    refine AWp.reg 64 (N' := 384) rfl ?_
    iterate 2 refine pA ?_
    refine pu rfl (ap_ldv Z1 Z3 Z4) ?_
    refine pA ?_
    refine pu rfl (ap_ldv Z1 Z3 Z4) ?_
    iterate 2 refine pA ?_
    obtain ⟨⟨r11, r12⟩, h10, hm⟩ := bnd hm
    refine ARun.callQ (r := .tup [.sl (r11.flatMap cGEdge) r11.length false, .v (.int .i64 r12)]) Zd Z1 fb23 (fun H => (cV (cD (CFGEdge.sl _ _ _) (cV (cV .nil))))) (ref12Remove_c h10) ?_
    iterate 5 refine pA ?_
    refine ARun.fin ?_
    refine normJ ?_
    refine ⟨_, ?_, u_1, v_2, g_0, (GGraph.mk (GConfig.mk 0 0 0) [] []), r11, r12, rfl, hm⟩
    refine St.Le.trans (le_cells 1 (ys := [.v (.int .i64 (((GGraph.mk (GConfig.mk 0 0 0) [] []).Config).N)), .v (.int .i64 (((GGraph.mk (GConfig.mk 0 0 0) [] []).Config).L)), .v (.int .i64 (((GGraph.mk (GConfig.mk 0 0 0) [] []).Config).R)), .sl (((GGraph.mk (GConfig.mk 0 0 0) [] []).Hashes).flatMap cGHash) ((GGraph.mk (GConfig.mk 0 0 0) [] []).Hashes).length false, .sl (((GGraph.mk (GConfig.mk 0 0 0) [] []).Edges).flatMap cGEdge) ((GGraph.mk (GConfig.mk 0 0 0) [] []).Edges).length false]) Z3 (.cons (.data _ (.v _)) (.cons (.data _ (.v _)) (.cons (.data _ (.v _)) (.cons (.nil false) (.cons (.nil false) .nil)))))) ?_
    exact le_canon (fun j => bif j == 1 then 0 else bif j == 2 then 1 else 0) (wV (wD (CFGEdge.sl _ _ _) (wk_fset _ _ (wk_adr Z1 rfl Z7) (wk_fset _ _ (wk_adr Z1 rfl Z7) (wV (wV wk_none)))))) (heapWk_of _ (entWk_upd (entWk_data Z3 (Nat.le_refl _) (Nat.zero_le _) (CFGGraph.dat (GGraph.mk (GConfig.mk 0 0 0) [] []))) (entWk_upd (entWk_data Z3 (Nat.le_refl _) (Nat.zero_le _) (CFGGraph.dat g_0)) entWk_none)) Z8)
   ·
    refine AWp.skip ?_
    refine normJ ?_
    refine ⟨_, ?_, u_1, v_2, g_0, (GGraph.mk (GConfig.mk 0 0 0) [] []), r6, r7, rfl, hm⟩
    refine St.Le.trans (le_cells 1 (ys := [.v (.int .i64 (((GGraph.mk (GConfig.mk 0 0 0) [] []).Config).N)), .v (.int .i64 (((GGraph.mk (GConfig.mk 0 0 0) [] []).Config).L)), .v (.int .i64 (((GGraph.mk (GConfig.mk 0 0 0) [] []).Config).R)), .sl (((GGraph.mk (GConfig.mk 0 0 0) [] []).Hashes).flatMap cGHash) ((GGraph.mk (GConfig.mk 0 0 0) [] []).Hashes).length false, .sl (((GGraph.mk (GConfig.mk 0 0 0) [] []).Edges).flatMap cGEdge) ((GGraph.mk (GConfig.mk 0 0 0) [] []).Edges).length false]) Z3 (.cons (.data _ (.v _)) (.cons (.data _ (.v _)) (.cons (.data _ (.v _)) (.cons (.nil false) (.cons (.nil false) .nil)))))) ?_
    exact le_canon (fun j => bif j == 1 then 0 else bif j == 2 then 1 else 0) (wV (wD (CFGEdge.sl _ _ _) (wk_fset _ _ (wk_adr Z1 rfl Z7) (wk_fset _ _ (wk_adr Z1 rfl Z7) (wV (wV wk_none)))))) (heapWk_of _ (entWk_upd (entWk_data Z3 (Nat.le_refl _) (Nat.zero_le _) (CFGGraph.dat (GGraph.mk (GConfig.mk 0 0 0) [] []))) (entWk_upd (entWk_data Z3 (Nat.le_refl _) (Nat.zero_le _) (CFGGraph.dat g_0)) entWk_none)) Z8)
  ·
   rintro s ⟨u_1, v_2, g_4, t8, l_11, e_12, rfl, hm⟩
   unfold ref15Change_J1 at hm
   refine AWp.seq' ?_
   refine sr (N' := 128) rfl ?_
   iterate 2 refine pA ?_
   refine fs ?_
   refine AWp.condM hm Z1 (fun _ hm => ?_) (fun _ hm => ?_)
   ·
    refine sr (N' := 192) rfl ?_
    refine pu rfl (ap_ldv Z1 Z3 Z2) ?_
    refine pA ?_
    refine ARun.heap0 (id := 130) rfl (ah_var (ys := [.v (.int .i64 g_4.Config.N), .v (.int .i64 g_4.Config.L), .v (.int .i64 g_4.Config.R), .sl (g_4.Hashes.flatMap cGHash) g_4.Hashes.length false, .sl (g_4.Edges.flatMap cGEdge) g_4.Edges.length false]) sz27 Z1 Z1 Z3 rfl (Nat.le_of_ble_eq_true rfl) Z9 rfl) ?_
    refine pA ?_
    refine fs ?_
    refine AWp.ret ?_
    refine retSeq ?_
    cases hm
    exact retL (.inr rfl) (by rw [Tryz.results7]) (.cell (ap_ldv' Z1 Z3 Z2) (.tmp Z1 .nil)) rfl (tdt (.cons (td rfl (.agg _ (CFGGraph.dat _))) (.cons (td rfl (.v _)) .nil)))
   ·
    refine AWp.skip ?_
    refine normSeq ?_
    refine sr (N' := 192) rfl ?_
    refine pA ?_
    refine pu rfl (ap_ldv Z1 Z3 Z4) ?_
    refine pA ?_
    refine pu rfl (ap_ldv Z1 Z3 Z4) ?_
    refine pA ?_
    refine pu rfl (by simp only [go_sem, Nat.reduceBEq]; exact (by kernel_rfl : abuild Tryz.prog 27 [(0, .agg [.v (.int .i64 g_4.Config.N), .v (.int .i64 g_4.Config.L), .v (.int .i64 g_4.Config.R)]), (1, .sl (g_4.Hashes.flatMap cGHash) g_4.Hashes.length false), (2, .sl (l_11.flatMap cGEdge) l_11.length false)] = some (.agg [.v (.int .i64 g_4.Config.N), .v (.int .i64 g_4.Config.L), .v (.int .i64 g_4.Config.R), .sl (g_4.Hashes.flatMap cGHash) g_4.Hashes.length false, .sl (l_11.flatMap cGEdge) l_11.length false]))) ?_
    iterate 2 refine pA ?_
    obtain ⟨r9, h8, hm⟩ := bnd hm
    refine ARun.callQ (r := .agg [.v (.int .i64 r9.Config.N), .v (.int .i64 r9.Config.L), .v (.int .i64 r9.Config.R), .sl (r9.Hashes.flatMap cGHash) r9.Hashes.length false, .sl (r9.Edges.flatMap cGEdge) r9.Edges.length false]) Zd Z1 fb16 (fun H => (.cons (td Z1 (.agg _ (CFGGraph.dat (GGraph.mk g_4.Config g_4.Hashes l_11)))) (cV (cV .nil)))) (ref15Mend_c h8) ?_
    refine ARun.heap0 (id := 137) rfl (ah_var (ys := [.v (.int .i64 r9.Config.N), .v (.int .i64 r9.Config.L), .v (.int .i64 r9.Config.R), .sl (r9.Hashes.flatMap cGHash) r9.Hashes.length false, .sl (r9.Edges.flatMap cGEdge) r9.Edges.length false]) sz27 Z1 Z1 Z3 rfl (Nat.le_of_ble_eq_true rfl) Z9 rfl) ?_
    refine pA ?_
    refine fs ?_
    refine AWp.ret ?_
    cases hm
    exact retL (.inr rfl) (by rw [Tryz.results7]) (.cell (ap_ldv' Z1 Z3 Z2) (.tmp Z1 .nil)) rfl (tdt (.cons (td rfl (.agg _ (CFGGraph.dat _))) (.cons (td rfl (.v _)) .nil)))
def ref14Same_B1 (rec1 : List GHash → List GHash → Int → Option (Bool)) (a_0 : List GHash) (b_1 : List GHash) (i_5 : Int) : Option (Bool) :=
 (bif (decide (i_5 < (a_0.length : Int))) then
  ((idx a_0 i_5).bind fun x2 =>
  ((idx b_1 i_5).bind fun x4 =>
  (bif (!((x2.A == x4.A) && (x2.B == x4.B))) then
   some false
  else
   rec1 a_0 b_1 (IntKind.i64.wrap (i_5 + 1)))))
 else
  some true)
def ref14Same_L1 : Nat → List GHash → List GHash → Int → Option (Bool)
 | 0 => fun _ _ _ => none
 | n + 1 => ref14Same_B1 (ref14Same_L1 n)
def ref14Same_m (a_0 : List GHash) (b_1 : List GHash) : Option (Bool) :=
 (bif ((a_0.length : Int) != (b_1.length : Int)) then
  some false
 else
  ref14Same_L1 FUEL a_0 b_1 0)
theorem ref14Same_c {a_0 : List GHash} {b_1 : List GHash} {r : Bool} (hm : ref14Same_m a_0 b_1 = some r) : PureC Tryz.prog 25 [.sl (a_0.flatMap cGHash) a_0.length false, .sl (b_1.flatMap cGHash) b_1.length false] (.v (.bool r)) := by
 refine PureC.of_body Tryz.func25 rfl ?_
 simp only [Tryz.ntmps25, List.length_cons, List.length_nil, Nat.reduceAdd, Nat.reduceSub, empty_eq]
 unfold ref14Same_m at hm
 refine sr (N' := 64) rfl ?_
 refine pA ?_
 refine fs ?_
 refine AWp.seq' ?_
 refine sr (N' := 128) rfl ?_
 iterate 5 refine pA ?_
 refine fs ?_
 refine AWp.condM hm Z1 (fun _ hm => ?_) (fun _ hm => ?_)
 ·
  refine sr (N' := 192) rfl ?_
  refine pA ?_
  refine fs ?_
  refine AWp.ret ?_
  refine retSeq ?_
  cases hm
  exact ret1D (.inr rfl) Tryz.results25 (td Z1 (.v _))
 ·
  refine AWp.skip ?_
  refine normSeq ?_
  refine AWp.seq' ?_
  refine sr (N' := 192) rfl ?_
  refine pA ?_
  refine fs ?_
  refine AWp.block ?_
  refine AWp.loopM (fun m s => ∃ (a_0 : List GHash) (b_1 : List GHash) (i_5 : Int), s = (⟨26, (fset (fset (fset (fun _ => AV.any) 0 (.sl (a_0.flatMap cGHash) a_0.length false)) 1 (.sl (b_1.flatMap cGHash) b_1.length false)) 5 (.v (.int .i64 i_5))), ⟨nofresh, 64⟩⟩ : St) ∧ ref14Same_L1 m a_0 b_1 i_5 = some r) FUEL ?_ ?_ ?_
  ·
   rintro s ⟨_, _, _, _, h⟩
   cases h
  ·
   refine ⟨_, ?_, a_0, b_1, 0, rfl, hm⟩
   exact le_canon id (wV (wD (CFGHash.sl _ _ _) (wD (CFGHash.sl _ _ _) wk_none))) heapWk0
  ·
   rintro n1 s ⟨a_0, b_1, i_5, rfl, hm⟩
   replace hm : ref14Same_B1 (ref14Same_L1 n1) a_0 b_1 i_5 = some r := hm
   unfold ref14Same_B1 at hm
   refine AWp.seq' ?_
   refine sr (N' := 128) rfl ?_
   iterate 4 refine pA ?_
   refine fs ?_
   refine AWp.condM hm Z1 (fun _ hm => ?_) (fun _ hm => ?_)
   ·
    refine AWp.skip ?_
    refine normSeq ?_
    refine AWp.seq' ?_
    refine AWp.block ?_
    refine sd mix (by kernel_rfl) (N' := 192) rfl ?_
    iterate 2 refine pA ?_
    obtain ⟨x2, h1, hm⟩ := bnd hm
    refine pu rfl (ap_idx CFGHash Zd Tryz.underlying24 sz44 Z1 rfl Z1 h1) ?_
    iterate 3 refine pA ?_
    obtain ⟨x4, h3, hm⟩ := bnd hm
    refine pu rfl (ap_idx CFGHash Zd Tryz.underlying24 sz44 Z1 rfl Z1 h3) ?_
    iterate 2 refine pA ?_
    refine fs ?_
    refine AWp.condM hm Z1 (fun _ hm => ?_) (fun _ hm => ?_)
    ·
     refine sr (N' := 256) rfl ?_
     refine pA ?_
     refine fs ?_
     refine AWp.ret ?_
     refine retIn ?_
     refine retSeq ?_
     refine retThen ?_
     refine retIn ?_
     refine retSeq ?_
     cases hm
     exact ret1D (.inr rfl) Tryz.results25 (td Z1 (.v _))
    ·
     refine AWp.skip ?_
     refine normIn ?_
     refine normSeq ?_
     refine AWp.reg 64 (N' := 256) rfl ?_
     iterate 3 refine pA ?_
     refine ARun.fin ?_
     refine normThen ?_
     refine ⟨_, ?_, a_0, b_1, (IntKind.i64.wrap (i_5 + 1)), rfl, hm⟩
     exact le_canon id (wV (wD (CFGHash.sl _ _ _) (wD (CFGHash.sl _ _ _) wk_none))) heapWk0
   ·
    refine AWp.exit ?_
    refine exitSeq ?_
    refine exitThen ?_
    refine exitHere ?_
    refine normSeq ?_
    refine sr (N' := 192) rfl ?_
    refine pA ?_
    refine fs ?_
    refine AWp.ret ?_
    cases hm
    exact ret1D (.inr rfl) Tryz.results25 (td Z1 (.v _))
def ref03Same_B1 (rec1 : List GEdge → List GEdge → Int → Option (Bool)) (a_0 : List GEdge) (b_1 : List GEdge) (i_5 : Int) : Option (Bool) :=
 (bif (decide (i_5 < (a_0.length : Int))) then
  ((idx a_0 i_5).bind fun x2 =>
  ((idx b_1 i_5).bind fun x4 =>
  (bif (!((x2.U == x4.U) && ((x2.V == x4.V) && (x2.Tier == x4.Tier)))) then
   some false
  else
   rec1 a_0 b_1 (IntKind.i64.wrap (i_5 + 1)))))
 else
  some true)
def ref03Same_L1 : Nat → List GEdge → List GEdge → Int → Option (Bool)
 | 0 => fun _ _ _ => none
 | n + 1 => ref03Same_B1 (ref03Same_L1 n)
def ref03Same_m (a_0 : List GEdge) (b_1 : List GEdge) : Option (Bool) :=
 (bif ((a_0.length : Int) != (b_1.length : Int)) then
  some false
 else
  ref03Same_L1 FUEL a_0 b_1 0)
theorem ref03Same_c {a_0 : List GEdge} {b_1 : List GEdge} {r : Bool} (hm : ref03Same_m a_0 b_1 = some r) : PureC Tryz.prog 17 [.sl (a_0.flatMap cGEdge) a_0.length false, .sl (b_1.flatMap cGEdge) b_1.length false] (.v (.bool r)) := by
 refine PureC.of_body Tryz.func17 rfl ?_
 simp only [Tryz.ntmps17, List.length_cons, List.length_nil, Nat.reduceAdd, Nat.reduceSub, empty_eq]
 unfold ref03Same_m at hm
 refine sr (N' := 64) rfl ?_
 refine pA ?_
 refine fs ?_
 refine AWp.seq' ?_
 refine sr (N' := 128) rfl ?_
 iterate 5 refine pA ?_
 refine fs ?_
 refine AWp.condM hm Z1 (fun _ hm => ?_) (fun _ hm => ?_)
 ·
  refine sr (N' := 192) rfl ?_
  refine pA ?_
  refine fs ?_
  refine AWp.ret ?_
  refine retSeq ?_
  cases hm
  exact ret1D (.inr rfl) Tryz.results17 (td Z1 (.v _))
 ·
  refine AWp.skip ?_
  refine normSeq ?_
  refine AWp.seq' ?_
  refine sr (N' := 192) rfl ?_
  refine pA ?_
  refine fs ?_
  refine AWp.block ?_
  refine AWp.loopM (fun m s => ∃ (a_0 : List GEdge) (b_1 : List GEdge) (i_5 : Int), s = (⟨26, (fset (fset (fset (fun _ => AV.any) 0 (.sl (a_0.flatMap cGEdge) a_0.length false)) 1 (.sl (b_1.flatMap cGEdge) b_1.length false)) 5 (.v (.int .i64 i_5))), ⟨nofresh, 64⟩⟩ : St) ∧ ref03Same_L1 m a_0 b_1 i_5 = some r) FUEL ?_ ?_ ?_
  ·
   rintro s ⟨_, _, _, _, h⟩
   cases h
  ·
   refine ⟨_, ?_, a_0, b_1, 0, rfl, hm⟩
   exact le_canon id (wV (wD (CFGEdge.sl _ _ _) (wD (CFGEdge.sl _ _ _) wk_none))) heapWk0
  ·
   rintro n1 s ⟨a_0, b_1, i_5, rfl, hm⟩
   replace hm : ref03Same_B1 (ref03Same_L1 n1) a_0 b_1 i_5 = some r := hm
   unfold ref03Same_B1 at hm
   refine AWp.seq' ?_
   refine sr (N' := 128) rfl ?_
   iterate 4 refine pA ?_
   refine fs ?_
   refine AWp.condM hm Z1 (fun _ hm => ?_) (fun _ hm => ?_)
   ·
    refine AWp.skip ?_
    refine normSeq ?_
    refine AWp.seq' ?_
    refine AWp.block ?_
    refine sd mix (by kernel_rfl) (N' := 192) rfl ?_
    iterate 2 refine pA ?_
    obtain ⟨x2, h1, hm⟩ := bnd hm
    refine pu rfl (ap_idx CFGEdge Zd Tryz.underlying25 sz47 Z1 rfl Z1 h1) ?_
    iterate 3 refine pA ?_
    obtain ⟨x4, h3, hm⟩ := bnd hm
    refine pu rfl (ap_idx CFGEdge Zd Tryz.underlying25 sz47 Z1 rfl Z1 h3) ?_
    iterate 2 refine pA ?_
    refine fs ?_
    refine AWp.condM hm Z1 (fun _ hm => ?_) (fun _ hm => ?_)
    ·
     refine sr (N' := 256) rfl ?_
     refine pA ?_
     refine fs ?_
     refine AWp.ret ?_
     refine retIn ?_
     refine retSeq ?_
     refine retThen ?_
     refine retIn ?_
     refine retSeq ?_
     cases hm
     exact ret1D (.inr rfl) Tryz.results17 (td Z1 (.v _))
    ·
     refine AWp.skip ?_
     refine normIn ?_
     refine normSeq ?_
     refine AWp.reg 64 (N' := 256) rfl ?_
     iterate 3 refine pA ?_
     refine ARun.fin ?_
     refine normThen ?_
     refine ⟨_, ?_, a_0, b_1, (IntKind.i64.wrap (i_5 + 1)), rfl, hm⟩
     exact le_canon id (wV (wD (CFGEdge.sl _ _ _) (wD (CFGEdge.sl _ _ _) wk_none))) heapWk0
   ·
    refine AWp.exit ?_
    refine exitSeq ?_
    refine exitThen ?_
    refine exitHere ?_
    refine normSeq ?_
    refine sr (N' := 192) rfl ?_
    refine pA ?_
    refine fs ?_
    refine AWp.ret ?_
    cases hm
    exact ret1D (.inr rfl) Tryz.results17 (td Z1 (.v _))
def ref15Same_m (a_0 : GGraph) (b_1 : GGraph) : Option (Bool) :=
 ((gopt (((a_0.Config.N == b_1.Config.N) && ((a_0.Config.L == b_1.Config.L) && (a_0.Config.R == b_1.Config.R))) == true) false (ref14Same_m a_0.Hashes b_1.Hashes)).bind fun r2 =>
 ((gopt ((((a_0.Config.N == b_1.Config.N) && ((a_0.Config.L == b_1.Config.L) && (a_0.Config.R == b_1.Config.R))) && r2) == true) false (ref03Same_m a_0.Edges b_1.Edges)).bind fun r4 =>
 some ((((a_0.Config.N == b_1.Config.N) && ((a_0.Config.L == b_1.Config.L) && (a_0.Config.R == b_1.Config.R))) && r2) && r4)))
theorem ref15Same_c {a_0 : GGraph} {b_1 : GGraph} {r : Bool} (hm : ref15Same_m a_0 b_1 = some r) : PureC Tryz.prog 9 [.agg [.v (.int .i64 a_0.Config.N), .v (.int .i64 a_0.Config.L), .v (.int .i64 a_0.Config.R), .sl (a_0.Hashes.flatMap cGHash) a_0.Hashes.length false, .sl (a_0.Edges.flatMap cGEdge) a_0.Edges.length false], .agg [.v (.int .i64 b_1.Config.N), .v (.int .i64 b_1.Config.L), .v (.int .i64 b_1.Config.R), .sl (b_1.Hashes.flatMap cGHash) b_1.Hashes.length false, .sl (b_1.Edges.flatMap cGEdge) b_1.Edges.length false]] (.v (.bool r)) := by
 refine PureC.of_body Tryz.func9 rfl ?_
 simp only [Tryz.ntmps9, List.length_cons, List.length_nil, Nat.reduceAdd, Nat.reduceSub, empty_eq]
 unfold ref15Same_m at hm
 refine sr (N' := 64) rfl ?_
 refine hp (id := 0) rfl rfl (aheap_box Z1 Z5) ?_
 refine hp (id := 1) rfl rfl (aheap_box Z1 Z5) ?_
 refine pA ?_
 refine fs ?_
 refine sr (N' := 128) rfl ?_
 refine pA ?_
 refine pu rfl (ap_ldv Z1 Z3 Z4) ?_
 refine pA ?_
 refine pu rfl (ap_ldv Z1 Z3 Z4) ?_
 iterate 3 first | refine pA ?_ | refine pB ?_
 refine pg rfl rfl Z2 (fun hb => (ap_ldv (Zh hb) Z3 Z4)) ?_
 refine pB ?_
 refine pg rfl rfl Z2 (fun hb => (ap_ldv (Zh hb) Z3 Z4)) ?_
 obtain ⟨r2, h1, hm⟩ := bnd hm
 refine ARun.callQG (r := .v (.bool r2)) Zd rfl Z2 Z1 fb25 (fun hb H => (.cons (td (Zh hb) (CFGHash.sl _ _ _)) (.cons (td (Zh hb) (CFGHash.sl _ _ _)) .nil))) (fun hb => ref14Same_c (gopt_t h1 hb)) ?_
 iterate 3 first | refine pA ?_ | refine pB ?_
 refine pg rfl rfl Z2 (fun hb => (ap_ldv (Zh hb) Z3 Z4)) ?_
 refine pB ?_
 refine pg rfl rfl Z2 (fun hb => (ap_ldv (Zh hb) Z3 Z4)) ?_
 obtain ⟨r4, h3, hm⟩ := bnd hm
 refine ARun.callQG (r := .v (.bool r4)) Zd rfl Z2 Z1 fb17 (fun hb H => (.cons (td (Zh hb) (CFGEdge.sl _ _ _)) (.cons (td (Zh hb) (CFGEdge.sl _ _ _)) .nil))) (fun hb => ref03Same_c (gopt_t h3 hb)) ?_
 iterate 2 refine pA ?_
 refine fs ?_
 refine AWp.ret ?_
 cases hm
 exact ret1D (.inr rfl) Tryz.results9 (td Z1 (.v _))
def tableTiered_m (tier_0 : Int) : Option (Bool) :=
 some ((decide (0 ≤ tier_0)) && (decide (tier_0 ≤ 16)))
theorem tableTiered_c {tier_0 : Int} {r : Bool} (hm : tableTiered_m tier_0 = some r) : PureC Tryz.prog 53 [.v (.int .i64 tier_0)] (.v (.bool r)) := by
 refine PureC.of_body Tryz.func53 rfl ?_
 simp only [Tryz.ntmps53, List.length_cons, List.length_nil, Nat.reduceAdd, Nat.reduceSub, empty_eq]
 unfold tableTiered_m at hm
 refine sr (N' := 64) rfl ?_
 refine pA ?_
 refine fs ?_
 refine sr (N' := 128) rfl ?_
 iterate 7 first | refine pA ?_ | refine pB ?_
 refine fs ?_
 refine AWp.ret ?_
 cases hm
 exact ret1D (.inr rfl) Tryz.results53 (td Z1 (.v _))
def nameLess_m (a_0 : GEdge) (b_1 : GEdge) : Option (Bool) :=
 some ((decide (a_0.U < b_1.U)) || ((a_0.U == b_1.U) && (decide (a_0.V < b_1.V))))
theorem nameLess_c {a_0 : GEdge} {b_1 : GEdge} {r : Bool} (hm : nameLess_m a_0 b_1 = some r) : PureC Tryz.prog 38 [.agg [.v (.int .i64 a_0.U), .v (.int .i64 a_0.V), .v (.int .i64 a_0.Tier)], .agg [.v (.int .i64 b_1.U), .v (.int .i64 b_1.V), .v (.int .i64 b_1.Tier)]] (.v (.bool r)) := by
 refine PureC.of_body Tryz.func38 rfl ?_
 simp only [Tryz.ntmps38, List.length_cons, List.length_nil, Nat.reduceAdd, Nat.reduceSub, empty_eq]
 unfold nameLess_m at hm
 refine sr (N' := 64) rfl ?_
 refine hp (id := 0) rfl rfl (aheap_box Z1 Z5) ?_
 refine hp (id := 1) rfl rfl (aheap_box Z1 Z5) ?_
 refine pA ?_
 refine fs ?_
 refine sr (N' := 128) rfl ?_
 refine pA ?_
 refine pu rfl (ap_ldv Z1 Z3 Z4) ?_
 refine pA ?_
 refine pu rfl (ap_ldv Z1 Z3 Z4) ?_
 iterate 3 first | refine pA ?_ | refine pB ?_
 refine pg rfl rfl Z2 (fun hb => (ap_ldv (Zh hb) Z3 Z4)) ?_
 refine pB ?_
 refine pg rfl rfl Z2 (fun hb => (ap_ldv (Zh hb) Z3 Z4)) ?_
 iterate 3 refine pB ?_
 refine pg rfl rfl Z2 (fun hb => (ap_ldv (Zh hb) Z3 Z4)) ?_
 refine pB ?_
 refine pg rfl rfl Z2 (fun hb => (ap_ldv (Zh hb) Z3 Z4)) ?_
 iterate 4 first | refine pA ?_ | refine pB ?_
 refine fs ?_
 refine AWp.ret ?_
 cases hm
 exact ret1D (.inr rfl) Tryz.results38 (td Z1 (.v _))
end Go.Proofs.YtibnmlbjahcjmaaGreat
