/- Facts that the statement's proof is made of. No condition. -/
import Derived.Test.YtkdohhmacfoolaaGreatNaOf
import Derived.Test.YtkdohhmacfoolaaGreatNaAmF
set_option linter.unusedVariables false
set_option linter.unusedSimpArgs false
set_option maxRecDepth 20000
set_option maxHeartbeats 4000000
namespace Go.Proofs.YtkdohhmacfoolaaGreat
open Go Go.AM
def cst0_GA1 : ByteArray := ⟨#[0, 1, 2, 2, 3, 3, 3, 3, 4, 4, 4, 4, 4, 4, 4, 4, 5, 5, 5, 5, 5, 5, 5, 5, 5, 5, 5, 5, 5, 5, 5, 5, 6, 6, 6, 6, 6, 6, 6, 6, 6, 6, 6, 6, 6, 6, 6, 6, 6, 6, 6, 6, 6, 6, 6, 6, 6, 6, 6, 6, 6, 6, 6, 6, 7, 7, 7, 7, 7, 7, 7, 7, 7, 7, 7, 7, 7, 7, 7, 7, 7, 7, 7, 7, 7, 7, 7, 7, 7, 7, 7, 7, 7, 7, 7, 7, 7, 7, 7, 7, 7, 7, 7, 7, 7, 7, 7, 7, 7, 7, 7, 7, 7, 7, 7, 7, 7, 7, 7, 7, 7, 7, 7, 7, 7, 7, 7, 7, 8, 8, 8, 8, 8, 8, 8, 8, 8, 8, 8, 8, 8, 8, 8, 8, 8, 8, 8, 8, 8, 8, 8, 8, 8, 8, 8, 8, 8, 8, 8, 8, 8, 8, 8, 8, 8, 8, 8, 8, 8, 8, 8, 8, 8, 8, 8, 8, 8, 8, 8, 8, 8, 8, 8, 8, 8, 8, 8, 8, 8, 8, 8, 8, 8, 8, 8, 8, 8, 8, 8, 8, 8, 8, 8, 8, 8, 8, 8, 8, 8, 8, 8, 8, 8, 8, 8, 8, 8, 8, 8, 8, 8, 8, 8, 8, 8, 8, 8, 8, 8, 8, 8, 8, 8, 8, 8, 8, 8, 8, 8, 8, 8, 8, 8, 8, 8, 8, 8, 8, 8, 8, 8, 8, 8, 8, 8, 8]⟩
structure GHash where
 A : Int
 B : Int
deriving DecidableEq
def cGHash (e : GHash) : List AV := [.v (.int .u64 e.A), .v (.int .u64 e.B)]
theorem CFGHash : CF cGHash 2 := ⟨fun _ => rfl, fun a x hx => by
 simp only [cGHash, List.mem_cons, List.not_mem_nil, or_false] at hx
 rcases hx with rfl | rfl
 ·
  exact (.v _)
 ·
  exact (.v _), fun _ => rfl⟩
theorem cGHash_app (e : GHash) (r : List AV) : cGHash e ++ r = .v (.int .u64 e.A) :: .v (.int .u64 e.B) :: r := rfl
attribute [go_sem] cGHash_app
structure GConfig where
 N : Int
 L : Int
 R : Int
deriving DecidableEq
def cGConfig (e : GConfig) : List AV := [.v (.int .i64 e.N), .v (.int .i64 e.L), .v (.int .i64 e.R)]
theorem CFGConfig : CF cGConfig 3 := ⟨fun _ => rfl, fun a x hx => by
 simp only [cGConfig, List.mem_cons, List.not_mem_nil, or_false] at hx
 rcases hx with rfl | rfl | rfl
 ·
  exact (.v _)
 ·
  exact (.v _)
 ·
  exact (.v _), fun _ => rfl⟩
theorem cGConfig_app (e : GConfig) (r : List AV) : cGConfig e ++ r = .v (.int .i64 e.N) :: .v (.int .i64 e.L) :: .v (.int .i64 e.R) :: r := rfl
attribute [go_sem] cGConfig_app
structure GGraph where
 Config : GConfig
 Hashes : List GHash
 Edges : List GEdge
deriving DecidableEq
def cGGraph (e : GGraph) : List AV := [.v (.int .i64 e.Config.N), .v (.int .i64 e.Config.L), .v (.int .i64 e.Config.R), .sl (e.Hashes.flatMap cGHash) e.Hashes.length false, .sl (e.Edges.flatMap cGEdge) e.Edges.length false]
theorem CFGGraph : CF cGGraph 5 := ⟨fun _ => rfl, fun a x hx => by
 simp only [cGGraph, List.mem_cons, List.not_mem_nil, or_false] at hx
 rcases hx with rfl | rfl | rfl | rfl | rfl
 ·
  exact (.v _)
 ·
  exact (.v _)
 ·
  exact (.v _)
 ·
  exact (CFGHash.sl _ _ _)
 ·
  exact (CFGEdge.sl _ _ _), fun _ => rfl⟩
theorem cGGraph_app (e : GGraph) (r : List AV) : cGGraph e ++ r = .v (.int .i64 e.Config.N) :: .v (.int .i64 e.Config.L) :: .v (.int .i64 e.Config.R) :: .sl (e.Hashes.flatMap cGHash) e.Hashes.length false :: .sl (e.Edges.flatMap cGEdge) e.Edges.length false :: r := rfl
attribute [go_sem] cGGraph_app
theorem eqs102GA1 (x0 y0 x1 y1 x2 y2 : Int) : abin Tryz.prog .eql 102 (.agg [.v (.int .i64 x0), .v (.int .i64 x1), .v (.int .i64 x2)]) (.agg [.v (.int .i64 y0), .v (.int .i64 y1), .v (.int .i64 y2)]) = some (.v (.bool ((x0 == y0) && ((x1 == y1) && (x2 == y2))))) :=
 (by kernel_rfl : abin Tryz.prog .eql 102 (.agg [.v (.int .i64 x0), .v (.int .i64 x1), .v (.int .i64 x2)]) (.agg [.v (.int .i64 y0), .v (.int .i64 y1), .v (.int .i64 y2)]) = some (.v (.bool ((x0 == y0) && ((x1 == y1) && ((x2 == y2) && true)))))).trans (by rw [Bool.and_true])
theorem nqs102GA1 (x0 y0 x1 y1 x2 y2 : Int) : abin Tryz.prog .neq 102 (.agg [.v (.int .i64 x0), .v (.int .i64 x1), .v (.int .i64 x2)]) (.agg [.v (.int .i64 y0), .v (.int .i64 y1), .v (.int .i64 y2)]) = some (.v (.bool (!((x0 == y0) && ((x1 == y1) && (x2 == y2)))))) :=
 (by kernel_rfl : abin Tryz.prog .neq 102 (.agg [.v (.int .i64 x0), .v (.int .i64 x1), .v (.int .i64 x2)]) (.agg [.v (.int .i64 y0), .v (.int .i64 y1), .v (.int .i64 y2)]) = some (.v (.bool (!((x0 == y0) && ((x1 == y1) && ((x2 == y2) && true))))))).trans (by rw [Bool.and_true])
attribute [go_sem] eqs102GA1 nqs102GA1
theorem eqs120GA1 (x0 y0 x1 y1 : Int) : abin Tryz.prog .eql 120 (.agg [.v (.int .u64 x0), .v (.int .u64 x1)]) (.agg [.v (.int .u64 y0), .v (.int .u64 y1)]) = some (.v (.bool ((x0 == y0) && (x1 == y1)))) :=
 (by kernel_rfl : abin Tryz.prog .eql 120 (.agg [.v (.int .u64 x0), .v (.int .u64 x1)]) (.agg [.v (.int .u64 y0), .v (.int .u64 y1)]) = some (.v (.bool ((x0 == y0) && ((x1 == y1) && true))))).trans (by rw [Bool.and_true])
theorem nqs120GA1 (x0 y0 x1 y1 : Int) : abin Tryz.prog .neq 120 (.agg [.v (.int .u64 x0), .v (.int .u64 x1)]) (.agg [.v (.int .u64 y0), .v (.int .u64 y1)]) = some (.v (.bool (!((x0 == y0) && (x1 == y1))))) :=
 (by kernel_rfl : abin Tryz.prog .neq 120 (.agg [.v (.int .u64 x0), .v (.int .u64 x1)]) (.agg [.v (.int .u64 y0), .v (.int .u64 y1)]) = some (.v (.bool (!((x0 == y0) && ((x1 == y1) && true)))))).trans (by rw [Bool.and_true])
attribute [go_sem] eqs120GA1 nqs120GA1
theorem eqs23GA1 (x0 y0 x1 y1 x2 y2 : Int) : abin Tryz.prog .eql 23 (.agg [.v (.int .i64 x0), .v (.int .i64 x1), .v (.int .i64 x2)]) (.agg [.v (.int .i64 y0), .v (.int .i64 y1), .v (.int .i64 y2)]) = some (.v (.bool ((x0 == y0) && ((x1 == y1) && (x2 == y2))))) :=
 (by kernel_rfl : abin Tryz.prog .eql 23 (.agg [.v (.int .i64 x0), .v (.int .i64 x1), .v (.int .i64 x2)]) (.agg [.v (.int .i64 y0), .v (.int .i64 y1), .v (.int .i64 y2)]) = some (.v (.bool ((x0 == y0) && ((x1 == y1) && ((x2 == y2) && true)))))).trans (by rw [Bool.and_true])
theorem nqs23GA1 (x0 y0 x1 y1 x2 y2 : Int) : abin Tryz.prog .neq 23 (.agg [.v (.int .i64 x0), .v (.int .i64 x1), .v (.int .i64 x2)]) (.agg [.v (.int .i64 y0), .v (.int .i64 y1), .v (.int .i64 y2)]) = some (.v (.bool (!((x0 == y0) && ((x1 == y1) && (x2 == y2)))))) :=
 (by kernel_rfl : abin Tryz.prog .neq 23 (.agg [.v (.int .i64 x0), .v (.int .i64 x1), .v (.int .i64 x2)]) (.agg [.v (.int .i64 y0), .v (.int .i64 y1), .v (.int .i64 y2)]) = some (.v (.bool (!((x0 == y0) && ((x1 == y1) && ((x2 == y2) && true))))))).trans (by rw [Bool.and_true])
attribute [go_sem] eqs23GA1 nqs23GA1
theorem fa102_0GA1 (xs : List AV) : afieldAddr Tryz.prog 102 (.ptr (xs)) 0 = some (.ptr xs) := by kernel_rfl
attribute [go_sem] fa102_0GA1
theorem fa102_1GA1 (x0 : AV) (xs : List AV) : afieldAddr Tryz.prog 102 (.ptr (x0 :: xs)) 1 = some (.ptr xs) := by kernel_rfl
attribute [go_sem] fa102_1GA1
theorem fa102_2GA1 (x0 : AV) (x1 : AV) (xs : List AV) : afieldAddr Tryz.prog 102 (.ptr (x0 :: x1 :: xs)) 2 = some (.ptr xs) := by kernel_rfl
attribute [go_sem] fa102_2GA1
theorem fo102_0GA1 (i o : Nat) : afieldAddr Tryz.prog 102 (.adr i o) 0 = some (.adr i (o + 0)) := by kernel_rfl
attribute [go_sem] fo102_0GA1
theorem fo102_1GA1 (i o : Nat) : afieldAddr Tryz.prog 102 (.adr i o) 1 = some (.adr i (o + 1)) := by kernel_rfl
attribute [go_sem] fo102_1GA1
theorem fo102_2GA1 (i o : Nat) : afieldAddr Tryz.prog 102 (.adr i o) 2 = some (.adr i (o + 2)) := by kernel_rfl
attribute [go_sem] fo102_2GA1
theorem fo120_0GA1 (i o : Nat) : afieldAddr Tryz.prog 120 (.adr i o) 0 = some (.adr i (o + 0)) := by kernel_rfl
attribute [go_sem] fo120_0GA1
theorem fo120_1GA1 (i o : Nat) : afieldAddr Tryz.prog 120 (.adr i o) 1 = some (.adr i (o + 1)) := by kernel_rfl
attribute [go_sem] fo120_1GA1
theorem fo23_0GA1 (i o : Nat) : afieldAddr Tryz.prog 23 (.adr i o) 0 = some (.adr i (o + 0)) := by kernel_rfl
attribute [go_sem] fo23_0GA1
theorem fo23_1GA1 (i o : Nat) : afieldAddr Tryz.prog 23 (.adr i o) 1 = some (.adr i (o + 1)) := by kernel_rfl
attribute [go_sem] fo23_1GA1
theorem fo23_2GA1 (i o : Nat) : afieldAddr Tryz.prog 23 (.adr i o) 2 = some (.adr i (o + 2)) := by kernel_rfl
attribute [go_sem] fo23_2GA1
theorem fo30_0GA1 (i o : Nat) : afieldAddr Tryz.prog 30 (.adr i o) 0 = some (.adr i (o + 0)) := by kernel_rfl
attribute [go_sem] fo30_0GA1
theorem fo30_1GA1 (i o : Nat) : afieldAddr Tryz.prog 30 (.adr i o) 1 = some (.adr i (o + 3)) := by kernel_rfl
attribute [go_sem] fo30_1GA1
theorem fo30_2GA1 (i o : Nat) : afieldAddr Tryz.prog 30 (.adr i o) 2 = some (.adr i (o + 4)) := by kernel_rfl
attribute [go_sem] fo30_2GA1
theorem ld102GA1 (H : Heap) (x0 x1 x2 : AV) (xs : List AV) : aload Tryz.prog H 102 (.ptr (x0 :: x1 :: x2 :: xs)) = some (.agg [x0, x1, x2]) := by kernel_rfl
attribute [go_sem] ld102GA1
theorem ld120GA1 (H : Heap) (x0 x1 : AV) (xs : List AV) : aload Tryz.prog H 120 (.ptr (x0 :: x1 :: xs)) = some (.agg [x0, x1]) := by kernel_rfl
attribute [go_sem] ld120GA1
theorem ld23GA1 (H : Heap) (x0 x1 x2 : AV) (xs : List AV) : aload Tryz.prog H 23 (.ptr (x0 :: x1 :: x2 :: xs)) = some (.agg [x0, x1, x2]) := by kernel_rfl
attribute [go_sem] ld23GA1
theorem ld27GA1 (H : Heap) (x : AV) (xs : List AV) : aload Tryz.prog H 27 (.ptr (x :: xs)) = some x := by kernel_rfl
attribute [go_sem] ld27GA1
theorem ld28GA1 (H : Heap) (x : AV) (xs : List AV) : aload Tryz.prog H 28 (.ptr (x :: xs)) = some x := by kernel_rfl
attribute [go_sem] ld28GA1
theorem ld3GA1 (H : Heap) (x : AV) (xs : List AV) : aload Tryz.prog H 3 (.ptr (x :: xs)) = some x := by kernel_rfl
attribute [go_sem] ld3GA1
theorem ld30GA1 (H : Heap) (x0 x1 x2 x3 x4 : AV) (xs : List AV) : aload Tryz.prog H 30 (.ptr (x0 :: x1 :: x2 :: x3 :: x4 :: xs)) = some (.agg [x0, x1, x2, x3, x4]) := by kernel_rfl
attribute [go_sem] ld30GA1
theorem ld43GA1 (H : Heap) (x : AV) (xs : List AV) : aload Tryz.prog H 43 (.ptr (x :: xs)) = some x := by kernel_rfl
attribute [go_sem] ld43GA1
theorem cv3_198GA1 (H : Heap) (k : IntKind) (n : Int) : aconv Tryz.prog H 3 198 (.v (.int k n)) = some (.v (.int .u64 (IntKind.u64.wrap n))) := aconv_int Tryz.underlying3 Tryz.underlying198
attribute [go_sem] cv3_198GA1
theorem cv5_3GA1 (H : Heap) (k : IntKind) (n : Int) : aconv Tryz.prog H 5 3 (.v (.int k n)) = some (.v (.int .i64 (IntKind.i64.wrap n))) := aconv_int Tryz.underlying5 Tryz.underlying3
attribute [go_sem] cv5_3GA1
theorem cv43_5GA1 (H : Heap) (k : IntKind) (n : Int) : aconv Tryz.prog H 43 5 (.v (.int k n)) = some (.v (.int .u8 (IntKind.u8.wrap n))) := aconv_int Tryz.underlying43 Tryz.underlying5
attribute [go_sem] cv43_5GA1
def ref05Same_B1 (rec1 : List Int → List Int → Int → Option (Bool)) (a_0 : List Int) (b_1 : List Int) (i_5 : Int) : Option (Bool) :=
 (bif (decide (i_5 < (a_0.length : Int))) then
  ((idx a_0 i_5).bind fun x2 =>
  ((idx b_1 i_5).bind fun x4 =>
  (bif (x2 != x4) then
   some false
  else
   rec1 a_0 b_1 (IntKind.i64.wrap (i_5 + 1)))))
 else
  some true)
def ref05Same_L1 : Nat → List Int → List Int → Int → Option (Bool)
 | 0 => fun _ _ _ => none
 | n + 1 => ref05Same_B1 (ref05Same_L1 n)
def ref05Same_m (a_0 : List Int) (b_1 : List Int) : Option (Bool) :=
 (bif ((a_0.length : Int) != (b_1.length : Int)) then
  some false
 else
  ref05Same_L1 FUEL a_0 b_1 0)
theorem ref05Same_c {a_0 : List Int} {b_1 : List Int} {r : Bool} (hm : ref05Same_m a_0 b_1 = some r) : PureC Tryz.prog 33 [.sl (a_0.flatMap (ci .u64)) a_0.length false, .sl (b_1.flatMap (ci .u64)) b_1.length false] (.v (.bool r)) := by
 refine PureC.of_body Tryz.func33 rfl ?_
 simp only [Tryz.ntmps33, List.length_cons, List.length_nil, Nat.reduceAdd, Nat.reduceSub, empty_eq]
 unfold ref05Same_m at hm
 refine sr (N' := 64) rfl ?_
 refine pA ?_
 refine fs ?_
 refine AWp.seq' ?_
 refine sr (N' := 128) rfl ?_
 iterate 5 refine pA ?_
 refine fs ?_
 refine AWp.condM hm Z1 (fun _ hm => ?_) (fun _ hm => ?_)
 ·
  refine sr (N' := 192) rfl ?_
  refine pA ?_
  refine fs ?_
  refine AWp.ret ?_
  refine retSeq ?_
  cases hm
  exact ret1D (.inr rfl) Tryz.results33 (td Z1 (.v _))
 ·
  refine AWp.skip ?_
  refine normSeq ?_
  refine AWp.seq' ?_
  refine sr (N' := 192) rfl ?_
  refine pA ?_
  refine fs ?_
  refine AWp.block ?_
  refine AWp.loopM (fun m s => ∃ (a_0 : List Int) (b_1 : List Int) (i_5 : Int), s = (⟨26, (fset (fset (fset (fun _ => AV.any) 0 (.sl (a_0.flatMap (ci .u64)) a_0.length false)) 1 (.sl (b_1.flatMap (ci .u64)) b_1.length false)) 5 (.v (.int .i64 i_5))), ⟨nofresh, 64⟩⟩ : St) ∧ ref05Same_L1 m a_0 b_1 i_5 = some r) FUEL ?_ ?_ ?_
  ·
   rintro s ⟨_, _, _, _, h⟩
   cases h
  ·
   refine ⟨_, ?_, a_0, b_1, 0, rfl, hm⟩
   exact le_canon id (wV (wD ((CFi .u64).sl _ _ _) (wD ((CFi .u64).sl _ _ _) wk_none))) heapWk0
  ·
   rintro n1 s ⟨a_0, b_1, i_5, rfl, hm⟩
   replace hm : ref05Same_B1 (ref05Same_L1 n1) a_0 b_1 i_5 = some r := hm
   unfold ref05Same_B1 at hm
   refine AWp.seq' ?_
   refine sr (N' := 128) rfl ?_
   iterate 4 refine pA ?_
   refine fs ?_
   refine AWp.condM hm Z1 (fun _ hm => ?_) (fun _ hm => ?_)
   ·
    refine AWp.skip ?_
    refine normSeq ?_
    refine AWp.seq' ?_
    refine AWp.block ?_
    refine sd mix (by kernel_rfl) (N' := 192) rfl ?_
    iterate 2 refine pA ?_
    obtain ⟨x2, h1, hm⟩ := bnd hm
    refine pu rfl (ap_idx (CFi .u64) Zd Tryz.underlying24 sz43 Z1 rfl Z1 h1) ?_
    iterate 3 refine pA ?_
    obtain ⟨x4, h3, hm⟩ := bnd hm
    refine pu rfl (ap_idx (CFi .u64) Zd Tryz.underlying24 sz43 Z1 rfl Z1 h3) ?_
    iterate 2 refine pA ?_
    refine fs ?_
    refine AWp.condM hm Z1 (fun _ hm => ?_) (fun _ hm => ?_)
    ·
     refine sr (N' := 256) rfl ?_
     refine pA ?_
     refine fs ?_
     refine AWp.ret ?_
     refine retIn ?_
     refine retSeq ?_
     refine retThen ?_
     refine retIn ?_
     refine retSeq ?_
     cases hm
     exact ret1D (.inr rfl) Tryz.results33 (td Z1 (.v _))
    ·
     refine AWp.skip ?_
     refine normIn ?_
     refine normSeq ?_
     refine AWp.reg 64 (N' := 256) rfl ?_
     iterate 3 refine pA ?_
     refine ARun.fin ?_
     refine normThen ?_
     refine ⟨_, ?_, a_0, b_1, (IntKind.i64.wrap (i_5 + 1)), rfl, hm⟩
     exact le_canon id (wV (wD ((CFi .u64).sl _ _ _) (wD ((CFi .u64).sl _ _ _) wk_none))) heapWk0
   ·
    refine AWp.exit ?_
    refine exitSeq ?_
    refine exitThen ?_
    refine exitHere ?_
    refine normSeq ?_
    refine sr (N' := 192) rfl ?_
    refine pA ?_
    refine fs ?_
    refine AWp.ret ?_
    cases hm
    exact ret1D (.inr rfl) Tryz.results33 (td Z1 (.v _))
def slicesCloneHash_m (l : List GHash) : Option (List GHash) := appB 16 [] l
theorem slicesCloneHash_fA {r : List GHash} (hm : some [] = some r) : FreshC Tryz.prog 69 [.v (.slice none 0 0)] 2 (r.flatMap cGHash) r.length := by
 refine FreshC.of_body Tryz.func69 rfl (CFGHash.fmdat r) ?_
 simp only [Tryz.ntmps69, List.length_cons, List.length_nil, Nat.reduceAdd, Nat.reduceSub, empty_eq]
 refine sr (N' := 64) rfl ?_
 refine pA ?_
 refine fs ?_
 refine AWp.seq' ?_
 refine sr (N' := 128) rfl ?_
 refine pA ?_
 refine pu rfl (ap_eqn Z1 Z1 (abin_nil Tryz.underlying27)) ?_
 refine fs ?_
 refine AWp.condT Z1 ?_
 refine sr (N' := 192) rfl ?_
 refine pA ?_
 refine fs ?_
 refine AWp.weaken (le_nil 2 900002 2 Z1 Z5) ?_
 refine AWp.ret ?_
 refine retSeq ?_
 cases hm
 exact retF (.inr rfl) Tryz.results69 Z1 Z3 Z6
theorem slicesCloneHash_fB {a : Addr} {c : Nat} {r : List GHash} (hm : ((appB 16 [] []).bind fun l2 =>
some l2) = some r) : FreshC Tryz.prog 69 [.v (.slice (some a) 0 c)] 2 (r.flatMap cGHash) r.length := by
 refine FreshC.of_body Tryz.func69 rfl (CFGHash.fmdat r) ?_
 simp only [Tryz.ntmps69, List.length_cons, List.length_nil, Nat.reduceAdd, Nat.reduceSub, empty_eq]
 refine sr (N' := 64) rfl ?_
 refine pA ?_
 refine fs ?_
 refine AWp.seq' ?_
 refine sr (N' := 128) rfl ?_
 refine pA ?_
 refine pu rfl (ap_eqn Z1 Z1 (abin_xnil Tryz.underlying27)) ?_
 refine fs ?_
 refine AWp.condF Z1 ?_
 refine AWp.skip ?_
 refine normSeq ?_
 refine sr (N' := 192) rfl ?_
 refine hp (id := 128) rfl rfl (ah_list CFGHash (l := []) Tryz.underlying27 sz120 zc120 Z5 Zd Zd Zd (by simp only [go_sem, Nat.reduceBEq]; try rfl) (by kernel_rfl)) ?_
 refine pA ?_
 obtain ⟨l2, h1, hm⟩ := bnd hm
 refine hp (id := 130) rfl rfl (ah_appB CFGHash Tryz.underlying27 Tryz.underlying27 rfl in120 ts120 tb120 (by rw [tb120]; decide) tz120 Zd Zd Z1 Z3 Z6 (as_xnil Z1) rfl Z5 h1) ?_
 refine pA ?_
 refine fs ?_
 refine AWp.ret ?_
 cases hm
 exact retF (.inr rfl) Tryz.results69 Z1 Z3 Z6
theorem slicesCloneHash_fC {x0 : GHash} {l0 : List GHash} {r : List GHash} (hm : ((appB 16 [] (x0 :: l0)).bind fun l2 =>
some l2) = some r) : FreshC Tryz.prog 69 [.sl ((x0 :: l0).flatMap cGHash) (x0 :: l0).length false] 2 (r.flatMap cGHash) r.length := by
 refine FreshC.of_body Tryz.func69 rfl (CFGHash.fmdat r) ?_
 simp only [Tryz.ntmps69, List.length_cons, List.length_nil, Nat.reduceAdd, Nat.reduceSub, empty_eq]
 refine sr (N' := 64) rfl ?_
 refine pA ?_
 refine fs ?_
 refine AWp.seq' ?_
 refine sr (N' := 128) rfl ?_
 refine pA ?_
 refine pu rfl (ap_eqn Z1 Z1 (abin_nnil Tryz.underlying27 (by simp))) ?_
 refine fs ?_
 refine AWp.condF Z1 ?_
 refine AWp.skip ?_
 refine normSeq ?_
 refine sr (N' := 192) rfl ?_
 refine hp (id := 128) rfl rfl (ah_list CFGHash (l := []) Tryz.underlying27 sz120 zc120 Z5 Zd Zd Zd (by simp only [go_sem, Nat.reduceBEq]; try rfl) (by kernel_rfl)) ?_
 refine pA ?_
 obtain ⟨l2, h1, hm⟩ := bnd hm
 refine hp (id := 130) rfl rfl (ah_appB CFGHash Tryz.underlying27 Tryz.underlying27 rfl in120 ts120 tb120 (by rw [tb120]; decide) tz120 Zd Zd Z1 Z3 Z6 (as_sl CFGHash Z1 rfl) rfl Z5 h1) ?_
 refine pA ?_
 refine fs ?_
 refine AWp.ret ?_
 cases hm
 exact retF (.inr rfl) Tryz.results69 Z1 Z3 Z6
theorem slicesCloneHash_f {l r : List GHash} (hm : slicesCloneHash_m l = some r) : FreshC Tryz.prog 69 [.sl (l.flatMap cGHash) l.length false] 2 (r.flatMap cGHash) r.length := by
 cases l with
 | nil =>
  have hr : r = [] := by unfold slicesCloneHash_m appB at hm; simpa using hm.symm
  subst hr
  exact FreshC.nil_arg (slicesCloneHash_fA (r := []) rfl) (fun a c => slicesCloneHash_fB (r := []) rfl)
 | cons x0 l0 =>
  refine slicesCloneHash_fC ?_
  show (appB 16 [] (x0 :: l0)).bind _ = _
  unfold slicesCloneHash_m at hm
  rw [hm]; rfl
theorem slicesCloneHash_c {l r : List GHash} (hm : slicesCloneHash_m l = some r) : PureC Tryz.prog 69 [.sl (l.flatMap cGHash) l.length false] (.sl (r.flatMap cGHash) r.length false) := PureC.of_fresh CFGHash (slicesCloneHash_f hm)
def tableTiered_m (tier_0 : Int) : Option (Bool) :=
 some ((decide (0 ≤ tier_0)) && (decide (tier_0 ≤ 16)))
theorem tableTiered_c {tier_0 : Int} {r : Bool} (hm : tableTiered_m tier_0 = some r) : PureC Tryz.prog 120 [.v (.int .i64 tier_0)] (.v (.bool r)) := by
 refine PureC.of_body Tryz.func120 rfl ?_
 simp only [Tryz.ntmps120, List.length_cons, List.length_nil, Nat.reduceAdd, Nat.reduceSub, empty_eq]
 unfold tableTiered_m at hm
 refine sr (N' := 64) rfl ?_
 refine pA ?_
 refine fs ?_
 refine sr (N' := 128) rfl ?_
 iterate 7 first | refine pA ?_ | refine pB ?_
 refine fs ?_
 refine AWp.ret ?_
 cases hm
 exact ret1D (.inr rfl) Tryz.results120 (td Z1 (.v _))
def nameLess_m (a_0 : GEdge) (b_1 : GEdge) : Option (Bool) :=
 some ((decide (a_0.U < b_1.U)) || ((a_0.U == b_1.U) && (decide (a_0.V < b_1.V))))
theorem nameLess_c {a_0 : GEdge} {b_1 : GEdge} {r : Bool} (hm : nameLess_m a_0 b_1 = some r) : PureC Tryz.prog 121 [.agg [.v (.int .i64 a_0.U), .v (.int .i64 a_0.V), .v (.int .i64 a_0.Tier)], .agg [.v (.int .i64 b_1.U), .v (.int .i64 b_1.V), .v (.int .i64 b_1.Tier)]] (.v (.bool r)) := by
 refine PureC.of_body Tryz.func121 rfl ?_
 simp only [Tryz.ntmps121, List.length_cons, List.length_nil, Nat.reduceAdd, Nat.reduceSub, empty_eq]
 unfold nameLess_m at hm
 refine sr (N' := 64) rfl ?_
 refine hp (id := 0) rfl rfl (aheap_box Z1 Z5) ?_
 refine hp (id := 1) rfl rfl (aheap_box Z1 Z5) ?_
 refine pA ?_
 refine fs ?_
 refine sr (N' := 128) rfl ?_
 refine pA ?_
 refine pu rfl (ap_ldv Z1 Z3 Z4) ?_
 refine pA ?_
 refine pu rfl (ap_ldv Z1 Z3 Z4) ?_
 iterate 3 first | refine pA ?_ | refine pB ?_
 refine pg rfl rfl Z2 (fun hb => (ap_ldv (Zh hb) Z3 Z4)) ?_
 refine pB ?_
 refine pg rfl rfl Z2 (fun hb => (ap_ldv (Zh hb) Z3 Z4)) ?_
 iterate 3 refine pB ?_
 refine pg rfl rfl Z2 (fun hb => (ap_ldv (Zh hb) Z3 Z4)) ?_
 refine pB ?_
 refine pg rfl rfl Z2 (fun hb => (ap_ldv (Zh hb) Z3 Z4)) ?_
 iterate 4 first | refine pA ?_ | refine pB ?_
 refine fs ?_
 refine AWp.ret ?_
 cases hm
 exact ret1D (.inr rfl) Tryz.results121 (td Z1 (.v _))
def tableRight_B1 (rec1 : Int → List GEdge → List GEdge → Int → Int → Option (Bool)) (n_0 : Int) (l_1 : List GEdge) (t13 : List GEdge) (t14 : Int) (t15 : Int) : Option (Bool) :=
 (bif (decide (t15 < t14)) then
  ((idx t13 t15).bind fun x2 =>
  ((gopt ((((decide (x2.U < 0)) || (decide (x2.V ≤ x2.U))) || (decide (n_0 ≤ x2.V))) == false) false (tableTiered_m x2.Tier)).bind fun r4 =>
  (bif ((((decide (x2.U < 0)) || (decide (x2.V ≤ x2.U))) || (decide (n_0 ≤ x2.V))) || (!r4)) then
   some false
  else
   ((gopt ((decide (0 < t15)) == true) (GEdge.mk 0 0 0) (idx l_1 (IntKind.i64.wrap (t15 - 1)))).bind fun x6 =>
   ((gopt ((decide (0 < t15)) == true) false (nameLess_m x6 x2)).bind fun r8 =>
   (bif ((decide (0 < t15)) && (!r8)) then
    some false
   else
    rec1 n_0 l_1 t13 t14 (IntKind.i64.wrap (t15 + 1))))))))
 else
  some true)
def tableRight_L1 : Nat → Int → List GEdge → List GEdge → Int → Int → Option (Bool)
 | 0 => fun _ _ _ _ _ => none
 | n + 1 => tableRight_B1 (tableRight_L1 n)
def tableRight_m (n_0 : Int) (l_1 : List GEdge) : Option (Bool) :=
 (bif ((decide (n_0 < 0)) || (decide (1024 < n_0))) then
  some false
 else
  tableRight_L1 FUEL n_0 l_1 l_1 (l_1.length : Int) 0)
theorem tableRight_c {n_0 : Int} {l_1 : List GEdge} {r : Bool} (hm : tableRight_m n_0 l_1 = some r) : PureC Tryz.prog 89 [.v (.int .i64 n_0), .sl (l_1.flatMap cGEdge) l_1.length false] (.v (.bool r)) := by
 refine PureC.of_body Tryz.func89 rfl ?_
 simp only [Tryz.ntmps89, List.length_cons, List.length_nil, Nat.reduceAdd, Nat.reduceSub, empty_eq]
 unfold tableRight_m at hm
 refine sr (N' := 64) rfl ?_
 refine pA ?_
 refine fs ?_
 refine AWp.seq' ?_
 refine sr (N' := 128) rfl ?_
 iterate 6 first | refine pA ?_ | refine pB ?_
 refine fs ?_
 refine AWp.condM hm Z1 (fun _ hm => ?_) (fun _ hm => ?_)
 ·
  refine sr (N' := 192) rfl ?_
  refine pA ?_
  refine fs ?_
  refine AWp.ret ?_
  refine retSeq ?_
  cases hm
  exact ret1D (.inr rfl) Tryz.results89 (td Z1 (.v _))
 ·
  refine AWp.skip ?_
  refine normSeq ?_
  refine AWp.seq' ?_
  refine sr (N' := 192) rfl ?_
  iterate 3 refine pA ?_
  refine fs ?_
  refine AWp.block ?_
  refine AWp.loopM (fun m s => ∃ (n_0 : Int) (l_1 : List GEdge) (t13 : List GEdge) (t14 : Int) (t15 : Int), s = (⟨55, (fset (fset (fset (fset (fset (fun _ => AV.any) 0 (.v (.int .i64 n_0))) 1 (.sl (l_1.flatMap cGEdge) l_1.length false)) 13 (.sl (t13.flatMap cGEdge) t13.length false)) 14 (.v (.int .i64 t14))) 15 (.v (.int .i64 t15))), ⟨nofresh, 64⟩⟩ : St) ∧ tableRight_L1 m n_0 l_1 t13 t14 t15 = some r) FUEL ?_ ?_ ?_
  ·
   rintro s ⟨_, _, _, _, _, _, h⟩
   cases h
  ·
   refine ⟨_, ?_, n_0, l_1, l_1, (l_1.length : Int), 0, rfl, hm⟩
   exact le_canon id (wV (wV (wD (CFGEdge.sl _ _ _) (wD (CFGEdge.sl _ _ _) (wV wk_none))))) heapWk0
  ·
   rintro n1 s ⟨n_0, l_1, t13, t14, t15, rfl, hm⟩
   replace hm : tableRight_B1 (tableRight_L1 n1) n_0 l_1 t13 t14 t15 = some r := hm
   unfold tableRight_B1 at hm
   refine sr (N' := 128) rfl ?_
   refine pA ?_
   refine fs ?_
   refine AWp.seq' ?_
   refine AWp.condM hm Z1 (fun _ hm => ?_) (fun _ hm => ?_)
   ·
    refine AWp.skip ?_
    refine normSeq ?_
    refine AWp.seq' ?_
    refine AWp.block ?_
    refine sr (N' := 192) rfl ?_
    refine pA ?_
    obtain ⟨x2, h1, hm⟩ := bnd hm
    refine pu rfl (ap_idx CFGEdge Zd Tryz.underlying28 sz102 Z1 rfl Z1 h1) ?_
    refine pA ?_
    refine hp (id := 131) rfl rfl (aheap_alloc' zc102 Z5) ?_
    refine pA ?_
    refine ARun.heap0 (id := 133) rfl (ah_var (ys := [.v (.int .i64 x2.U), .v (.int .i64 x2.V), .v (.int .i64 x2.Tier)]) sz102 Z1 Z1 Z3 rfl (Nat.le_of_ble_eq_true rfl) Z9 rfl) ?_
    refine fs ?_
    refine AWp.seq' ?_
    refine sr (N' := 256) rfl ?_
    refine pA ?_
    refine pu rfl (ap_ldv Z1 Z3 Z4) ?_
    iterate 3 first | refine pA ?_ | refine pB ?_
    refine pg rfl rfl Z2 (fun hb => (ap_ldv (Zh hb) Z3 Z4)) ?_
    refine pB ?_
    refine pg rfl rfl Z2 (fun hb => (ap_ldv (Zh hb) Z3 Z4)) ?_
    iterate 4 first | refine pA ?_ | refine pB ?_
    refine pg rfl rfl Z2 (fun hb => (ap_ldv (Zh hb) Z3 Z4)) ?_
    iterate 5 first | refine pA ?_ | refine pB ?_
    refine pg rfl rfl Z2 (fun hb => (ap_ldv (Zh hb) Z3 Z4)) ?_
    obtain ⟨r4, h3, hm⟩ := bnd hm
    refine ARun.callQG (r := .v (.bool r4)) Zd rfl Z2 Z1 fb120 (fun hb H => (.cons (td (Zh hb) (.v _)) .nil)) (fun hb => tableTiered_c (gopt_t h3 hb)) ?_
    iterate 2 first | refine pA ?_ | refine pB ?_
    refine fs ?_
    refine AWp.condM hm Z1 (fun _ hm => ?_) (fun _ hm => ?_)
    ·
     refine sr (N' := 320) rfl ?_
     refine pA ?_
     refine fs ?_
     refine AWp.ret ?_
     refine retSeq ?_
     refine retIn ?_
     refine retSeq ?_
     refine retThen ?_
     refine retIn ?_
     refine retSeq ?_
     cases hm
     exact ret1D (.inr rfl) Tryz.results89 (td Z1 (.v _))
    ·
     refine AWp.skip ?_
     refine normSeq ?_
     refine sd mix (by kernel_rfl) (N' := 320) rfl ?_
     iterate 6 first | refine pA ?_ | refine pB ?_
     obtain ⟨x6, h5, hm⟩ := bnd hm
     refine pg rfl rfl Z2 (fun hb => (ap_idx CFGEdge Zd Tryz.underlying28 sz102 (Zh hb) rfl (Zh hb) (gopt_t h5 hb))) ?_
     refine pB ?_
     refine pg rfl rfl Z2 (fun hb => (ap_ldv (Zh hb) Z3 Z2)) ?_
     obtain ⟨r8, h7, hm⟩ := bnd hm
     refine ARun.callQG (r := .v (.bool r8)) Zd rfl Z2 Z1 fb121 (fun hb H => (.cons (td (Zh hb) (.agg _ (CFGEdge.dat _))) (.cons (td (Zh hb) (.agg _ (CFGEdge.dat _))) .nil))) (fun hb => nameLess_c (gopt_t h7 hb)) ?_
     iterate 2 first | refine pA ?_ | refine pB ?_
     refine fs ?_
     refine AWp.condM hm Z1 (fun _ hm => ?_) (fun _ hm => ?_)
     ·
      refine sr (N' := 384) rfl ?_
      refine pA ?_
      refine fs ?_
      refine AWp.ret ?_
      refine retIn ?_
      refine retSeq ?_
      refine retThen ?_
      refine retIn ?_
      refine retSeq ?_
      cases hm
      exact ret1D (.inr rfl) Tryz.results89 (td Z1 (.v _))
     ·
      refine AWp.skip ?_
      refine normIn ?_
      refine normSeq ?_
      refine AWp.reg 64 (N' := 384) rfl ?_
      iterate 2 refine pA ?_
      refine ARun.fin ?_
      refine normThen ?_
      refine ⟨_, ?_, n_0, l_1, t13, t14, (IntKind.i64.wrap (t15 + 1)), rfl, hm⟩
      exact le_canon id (wV (wV (wD (CFGEdge.sl _ _ _) (wD (CFGEdge.sl _ _ _) (wV wk_none))))) heapWk0
   ·
    refine AWp.exit ?_
    refine exitSeq ?_
    refine exitThen ?_
    refine exitHere ?_
    refine normSeq ?_
    refine sr (N' := 192) rfl ?_
    refine pA ?_
    refine fs ?_
    refine AWp.ret ?_
    cases hm
    exact ret1D (.inr rfl) Tryz.results89 (td Z1 (.v _))
def tableForest_J1 (rec1 : Int → List GEdge → List GEdge → Int → Int → Option ((List GEdge))) (tier_2 : Int) (forest_7 : List GEdge) (t14 : List GEdge) (t15 : Int) (t16 : Int) : Option ((List GEdge)) :=
 rec1 tier_2 forest_7 t14 t15 (IntKind.i64.wrap (t16 + 1))
def tableForest_B1 (rec1 : Int → List GEdge → List GEdge → Int → Int → Option ((List GEdge))) (tier_2 : Int) (forest_7 : List GEdge) (t14 : List GEdge) (t15 : Int) (t16 : Int) : Option ((List GEdge)) :=
 (bif (decide (t16 < t15)) then
  ((idx t14 t16).bind fun x4 =>
  (bif ((decide (1 ≤ x4.Tier)) && (decide (x4.Tier ≤ tier_2))) then
   ((app forest_7 [x4]).bind fun l6 =>
   tableForest_J1 rec1 tier_2 l6 t14 t15 t16)
  else
   tableForest_J1 rec1 tier_2 forest_7 t14 t15 t16))
 else
  some forest_7)
def tableForest_L1 : Nat → Int → List GEdge → List GEdge → Int → Int → Option ((List GEdge))
 | 0 => fun _ _ _ _ _ => none
 | n + 1 => tableForest_B1 (tableForest_L1 n)
def tableForest_m (n_0 : Int) (l_1 : List GEdge) (tier_2 : Int) : Option ((List GEdge)) :=
 ((tableRight_m n_0 l_1).bind fun r2 =>
 (bif (!r2) then
  some []
 else
  tableForest_L1 FUEL tier_2 [] l_1 (l_1.length : Int) 0))
theorem tableForest_c {n_0 : Int} {l_1 : List GEdge} {tier_2 : Int} {r : (List GEdge)} (hm : tableForest_m n_0 l_1 tier_2 = some r) : PureC Tryz.prog 91 [.v (.int .i64 n_0), .sl (l_1.flatMap cGEdge) l_1.length false, .v (.int .i64 tier_2)] (.sl (r.flatMap cGEdge) r.length false) := by
 refine PureC.of_body Tryz.func91 rfl ?_
 simp only [Tryz.ntmps91, List.length_cons, List.length_nil, Nat.reduceAdd, Nat.reduceSub, empty_eq]
 unfold tableForest_m at hm
 refine sr (N' := 64) rfl ?_
 refine pA ?_
 refine fs ?_
 refine AWp.seq' ?_
 refine sr (N' := 128) rfl ?_
 iterate 2 refine pA ?_
 obtain ⟨r2, h1, hm⟩ := bnd hm
 refine ARun.callQ (r := .v (.bool r2)) Zd Z1 fb89 (fun H => (cV (cD (CFGEdge.sl _ _ _) .nil))) (tableRight_c h1) ?_
 refine pA ?_
 refine fs ?_
 refine AWp.condM hm Z1 (fun _ hm => ?_) (fun _ hm => ?_)
 ·
  refine sr (N' := 192) rfl ?_
  refine pA ?_
  refine fs ?_
  refine AWp.ret ?_
  refine retSeq ?_
  cases hm
  exact ret1D (.inr rfl) Tryz.results91 (tdn Z1)
 ·
  refine AWp.skip ?_
  refine normSeq ?_
  refine sr (N' := 192) rfl ?_
  refine pA ?_
  refine fs ?_
  refine AWp.seq' ?_
  refine sr (N' := 256) rfl ?_
  iterate 3 refine pA ?_
  refine fs ?_
  refine AWp.block ?_
  refine AWp.loopM (fun m s => ∃ (tier_2 : Int) (forest_7 : List GEdge) (t14 : List GEdge) (t15 : Int) (t16 : Int), s = (⟨35, (fset (fset (fset (fset (fset (fun _ => AV.any) 2 (.v (.int .i64 tier_2))) 7 (.own 1 0 forest_7.length)) 14 (.sl (t14.flatMap cGEdge) t14.length false)) 15 (.v (.int .i64 t15))) 16 (.v (.int .i64 t16))), ⟨(upd nofresh 1 (.cells 3 (forest_7.flatMap cGEdge) 0)), 64⟩⟩ : St) ∧ tableForest_L1 m tier_2 forest_7 t14 t15 t16 = some r) FUEL ?_ ?_ ?_
  ·
   rintro s ⟨_, _, _, _, _, _, h⟩
   cases h
  ·
   refine ⟨_, ?_, tier_2, [], l_1, (l_1.length : Int), 0, rfl, hm⟩
   refine St.Le.trans (le_nil 7 900007 3 Z1 Z5) ?_
   exact le_canon (fun j => bif j == 1 then 900007 else 0) (wV (wV (wD (CFGEdge.sl _ _ _) (wO (wV wk_none))))) (hW (eU CFGEdge entWk_none))
  ·
   rintro n1 s ⟨tier_2, forest_7, t14, t15, t16, rfl, hm⟩
   replace hm : tableForest_B1 (tableForest_L1 n1) tier_2 forest_7 t14 t15 t16 = some r := hm
   unfold tableForest_B1 at hm
   refine sr (N' := 128) rfl ?_
   refine pA ?_
   refine fs ?_
   refine AWp.seq' ?_
   refine AWp.condM hm Z1 (fun _ hm => ?_) (fun _ hm => ?_)
   ·
    refine AWp.skip ?_
    refine normSeq ?_
    refine AWp.seqJ (fun s => ∃ (tier_2 : Int) (forest_7 : List GEdge) (t14 : List GEdge) (t15 : Int) (t16 : Int), s = (⟨35, (fset (fset (fset (fset (fset (fun _ => AV.any) 2 (.v (.int .i64 tier_2))) 7 (.own 1 0 forest_7.length)) 14 (.sl (t14.flatMap cGEdge) t14.length false)) 15 (.v (.int .i64 t15))) 16 (.v (.int .i64 t16))), ⟨(upd nofresh 1 (.cells 3 (forest_7.flatMap cGEdge) 0)), 64⟩⟩ : St) ∧ tableForest_J1 (tableForest_L1 n1) tier_2 forest_7 t14 t15 t16 = some r) ?_ ?_
    ·
     refine AWp.block ?_
     refine sr (N' := 192) rfl ?_
     obtain ⟨x4, h3, hm⟩ := bnd hm
     refine pu rfl (ap_idx CFGEdge Zd Tryz.underlying28 sz102 Z1 rfl Z1 h3) ?_
     refine pA ?_
     refine hp (id := 130) rfl rfl (aheap_alloc' zc102 Z5) ?_
     refine ARun.heap0 (id := 131) rfl (ah_var (ys := [.v (.int .i64 x4.U), .v (.int .i64 x4.V), .v (.int .i64 x4.Tier)]) sz102 Z1 Z1 Z3 rfl (Nat.le_of_ble_eq_true rfl) Z9 rfl) ?_
     refine fs ?_
     refine sr (N' := 256) rfl ?_
     refine pA ?_
     refine pu rfl (ap_ldv Z1 Z3 Z4) ?_
     iterate 3 first | refine pA ?_ | refine pB ?_
     refine pg rfl rfl Z2 (fun hb => (ap_ldv (Zh hb) Z3 Z4)) ?_
     iterate 3 first | refine pA ?_ | refine pB ?_
     refine fs ?_
     refine AWp.condM hm Z1 (fun _ hm => ?_) (fun _ hm => ?_)
     ·
      refine AWp.reg 64 (N' := 320) rfl ?_
      refine pA ?_
      refine pu rfl (ap_ldv Z1 Z3 Z2) ?_
      refine hp (id := 258) rfl rfl (ah_list CFGEdge (l := [x4]) Tryz.underlying28 sz102 zc102 Z5 Zd Zd Zd (by simp only [go_sem, Nat.reduceBEq]; try rfl) (by kernel_rfl)) ?_
      obtain ⟨l6, h5, hm⟩ := bnd hm
      refine hp (id := 259) rfl rfl (ah_app CFGEdge Tryz.underlying28 Tryz.underlying28 rfl in102 ts102 (by rw [tb102]; decide) (by rw [tb102]; decide) tz102 Zd Zd Z1 Z3 Z6 (as_own CFGEdge Z1 Z3 Z6) rfl Z5 h5) ?_
      refine pA ?_
      refine ARun.fin ?_
      refine normIn ?_
      refine normJ ?_
      refine ⟨_, ?_, tier_2, l6, t14, t15, t16, rfl, hm⟩
      exact le_canon (fun j => bif j == 1 then 259 else 0) (wV (wV (wD (CFGEdge.sl _ _ _) (wO (wV wk_none))))) (hW (eU CFGEdge entWk_none))
     ·
      refine AWp.skip ?_
      refine normIn ?_
      refine normJ ?_
      refine ⟨_, ?_, tier_2, forest_7, t14, t15, t16, rfl, hm⟩
      exact le_canon (fun j => bif j == 1 then 1 else 0) (wV (wV (wD (CFGEdge.sl _ _ _) (wO (wV wk_none))))) (hW (eU CFGEdge entWk_none))
    ·
     rintro s ⟨tier_2, forest_7, t14, t15, t16, rfl, hm⟩
     unfold tableForest_J1 at hm
     refine AWp.reg 64 (N' := 128) rfl ?_
     iterate 2 refine pA ?_
     refine ARun.fin ?_
     refine normThen ?_
     refine ⟨_, ?_, tier_2, forest_7, t14, t15, (IntKind.i64.wrap (t16 + 1)), rfl, hm⟩
     exact le_canon (fun j => bif j == 1 then 1 else 0) (wV (wV (wD (CFGEdge.sl _ _ _) (wO (wV wk_none))))) (hW (eU CFGEdge entWk_none))
   ·
    refine AWp.exit ?_
    refine exitSeq ?_
    refine exitThen ?_
    refine exitHere ?_
    refine normSeq ?_
    refine sr (N' := 192) rfl ?_
    iterate 2 refine pA ?_
    refine fs ?_
    refine AWp.ret ?_
    cases hm
    exact ret1D (.inr rfl) Tryz.results91 (tdo CFGEdge Z1 Z3 Z6)
def partRight_B1 (rec1 : List Int → List Int → Int → Int → Option (Bool)) (p_0 : List Int) (t5 : List Int) (t6 : Int) (t7 : Int) : Option (Bool) :=
 (bif (decide (t7 < t6)) then
  ((idx t5 t7).bind fun x2 =>
  ((partPlace_m (p_0.length : Int) x2).bind fun r4 =>
  ((gopt (((!r4) || (decide (t7 < x2))) == false) 0 (idx p_0 x2)).bind fun x6 =>
  (bif (((!r4) || (decide (t7 < x2))) || (x6 != x2)) then
   some false
  else
   rec1 p_0 t5 t6 (IntKind.i64.wrap (t7 + 1))))))
 else
  some true)
def partRight_L1 : Nat → List Int → List Int → Int → Int → Option (Bool)
 | 0 => fun _ _ _ _ => none
 | n + 1 => partRight_B1 (partRight_L1 n)
def partRight_m (p_0 : List Int) : Option (Bool) :=
 partRight_L1 FUEL p_0 p_0 (p_0.length : Int) 0
theorem partRight_c {p_0 : List Int} {r : Bool} (hm : partRight_m p_0 = some r) : PureC Tryz.prog 102 [.sl (p_0.flatMap (ci .i64)) p_0.length false] (.v (.bool r)) := by
 refine PureC.of_body Tryz.func102 rfl ?_
 simp only [Tryz.ntmps102, List.length_cons, List.length_nil, Nat.reduceAdd, Nat.reduceSub, empty_eq]
 unfold partRight_m at hm
 refine sr (N' := 64) rfl ?_
 refine pA ?_
 refine fs ?_
 refine AWp.seq' ?_
 refine sr (N' := 128) rfl ?_
 iterate 3 refine pA ?_
 refine fs ?_
 refine AWp.block ?_
 refine AWp.loopM (fun m s => ∃ (p_0 : List Int) (t5 : List Int) (t6 : Int) (t7 : Int), s = (⟨31, (fset (fset (fset (fset (fun _ => AV.any) 0 (.sl (p_0.flatMap (ci .i64)) p_0.length false)) 5 (.sl (t5.flatMap (ci .i64)) t5.length false)) 6 (.v (.int .i64 t6))) 7 (.v (.int .i64 t7))), ⟨nofresh, 64⟩⟩ : St) ∧ partRight_L1 m p_0 t5 t6 t7 = some r) FUEL ?_ ?_ ?_
 ·
  rintro s ⟨_, _, _, _, _, h⟩
  cases h
 ·
  refine ⟨_, ?_, p_0, p_0, (p_0.length : Int), 0, rfl, hm⟩
  exact le_canon id (wV (wV (wD ((CFi .i64).sl _ _ _) (wD ((CFi .i64).sl _ _ _) wk_none)))) heapWk0
 ·
  rintro n1 s ⟨p_0, t5, t6, t7, rfl, hm⟩
  replace hm : partRight_B1 (partRight_L1 n1) p_0 t5 t6 t7 = some r := hm
  unfold partRight_B1 at hm
  refine sr (N' := 128) rfl ?_
  refine pA ?_
  refine fs ?_
  refine AWp.seq' ?_
  refine AWp.condM hm Z1 (fun _ hm => ?_) (fun _ hm => ?_)
  ·
   refine AWp.skip ?_
   refine normSeq ?_
   refine AWp.seq' ?_
   refine AWp.block ?_
   refine sr (N' := 192) rfl ?_
   refine pA ?_
   obtain ⟨x2, h1, hm⟩ := bnd hm
   refine pu rfl (ap_idx (CFi .i64) Zd Tryz.underlying112 sz3 Z1 rfl Z1 h1) ?_
   iterate 3 refine pA ?_
   refine fs ?_
   refine sr (N' := 256) rfl ?_
   iterate 3 refine pA ?_
   obtain ⟨r4, h3, hm⟩ := bnd hm
   refine ARun.callQ (r := .v (.bool r4)) Zd Z1 fb103 (fun H => (cV (cV .nil))) (partPlace_c h3) ?_
   iterate 9 first | refine pA ?_ | refine pB ?_
   obtain ⟨x6, h5, hm⟩ := bnd hm
   refine pg rfl rfl Z2 (fun hb => (ap_idx (CFi .i64) Zd Tryz.underlying112 sz3 (Zh hb) rfl (Zh hb) (gopt_t h5 hb))) ?_
   iterate 4 first | refine pA ?_ | refine pB ?_
   refine fs ?_
   refine AWp.condM hm Z1 (fun _ hm => ?_) (fun _ hm => ?_)
   ·
    refine sr (N' := 320) rfl ?_
    refine pA ?_
    refine fs ?_
    refine AWp.ret ?_
    refine retIn ?_
    refine retSeq ?_
    refine retThen ?_
    refine retIn ?_
    refine retSeq ?_
    cases hm
    exact ret1D (.inr rfl) Tryz.results102 (td Z1 (.v _))
   ·
    refine AWp.skip ?_
    refine normIn ?_
    refine normSeq ?_
    refine AWp.reg 64 (N' := 320) rfl ?_
    iterate 2 refine pA ?_
    refine ARun.fin ?_
    refine normThen ?_
    refine ⟨_, ?_, p_0, t5, t6, (IntKind.i64.wrap (t7 + 1)), rfl, hm⟩
    exact le_canon id (wV (wV (wD ((CFi .i64).sl _ _ _) (wD ((CFi .i64).sl _ _ _) wk_none)))) heapWk0
  ·
   refine AWp.exit ?_
   refine exitSeq ?_
   refine exitThen ?_
   refine exitHere ?_
   refine normSeq ?_
   refine sr (N' := 192) rfl ?_
   refine pA ?_
   refine fs ?_
   refine AWp.ret ?_
   cases hm
   exact ret1D (.inr rfl) Tryz.results102 (td Z1 (.v _))
def partMany_J1 (rec1 : Int → List Int → Int → Int → Option (Int)) (many_3 : Int) (t9 : List Int) (t10 : Int) (t11 : Int) : Option (Int) :=
 rec1 many_3 t9 t10 (IntKind.i64.wrap (t11 + 1))
def partMany_B1 (rec1 : Int → List Int → Int → Int → Option (Int)) (many_3 : Int) (t9 : List Int) (t10 : Int) (t11 : Int) : Option (Int) :=
 (bif (decide (t11 < t10)) then
  ((idx t9 t11).bind fun x4 =>
  (bif (t11 == x4) then
   partMany_J1 rec1 (IntKind.i64.wrap (many_3 + 1)) t9 t10 t11
  else
   partMany_J1 rec1 many_3 t9 t10 t11))
 else
  some many_3)
def partMany_L1 : Nat → Int → List Int → Int → Int → Option (Int)
 | 0 => fun _ _ _ _ => none
 | n + 1 => partMany_B1 (partMany_L1 n)
def partMany_m (p_0 : List Int) : Option (Int) :=
 ((partRight_m p_0).bind fun r2 =>
 (bif (!r2) then
  some 0
 else
  partMany_L1 FUEL 0 p_0 (p_0.length : Int) 0))
theorem partMany_c {p_0 : List Int} {r : Int} (hm : partMany_m p_0 = some r) : PureC Tryz.prog 122 [.sl (p_0.flatMap (ci .i64)) p_0.length false] (.v (.int .i64 r)) := by
 refine PureC.of_body Tryz.func122 rfl ?_
 simp only [Tryz.ntmps122, List.length_cons, List.length_nil, Nat.reduceAdd, Nat.reduceSub, empty_eq]
 unfold partMany_m at hm
 refine sr (N' := 64) rfl ?_
 refine pA ?_
 refine fs ?_
 refine AWp.seq' ?_
 refine sr (N' := 128) rfl ?_
 refine pA ?_
 obtain ⟨r2, h1, hm⟩ := bnd hm
 refine ARun.callQ (r := .v (.bool r2)) Zd Z1 fb102 (fun H => (cD ((CFi .i64).sl _ _ _) .nil)) (partRight_c h1) ?_
 refine pA ?_
 refine fs ?_
 refine AWp.condM hm Z1 (fun _ hm => ?_) (fun _ hm => ?_)
 ·
  refine sr (N' := 192) rfl ?_
  refine pA ?_
  refine fs ?_
  refine AWp.ret ?_
  refine retSeq ?_
  cases hm
  exact ret1D (.inr rfl) Tryz.results122 (td Z1 (.v _))
 ·
  refine AWp.skip ?_
  refine normSeq ?_
  refine sr (N' := 192) rfl ?_
  refine pA ?_
  refine fs ?_
  refine AWp.seq' ?_
  refine sr (N' := 256) rfl ?_
  iterate 3 refine pA ?_
  refine fs ?_
  refine AWp.block ?_
  refine AWp.loopM (fun m s => ∃ (many_3 : Int) (t9 : List Int) (t10 : Int) (t11 : Int), s = (⟨23, (fset (fset (fset (fset (fun _ => AV.any) 3 (.v (.int .i64 many_3))) 9 (.sl (t9.flatMap (ci .i64)) t9.length false)) 10 (.v (.int .i64 t10))) 11 (.v (.int .i64 t11))), ⟨nofresh, 64⟩⟩ : St) ∧ partMany_L1 m many_3 t9 t10 t11 = some r) FUEL ?_ ?_ ?_
  ·
   rintro s ⟨_, _, _, _, _, h⟩
   cases h
  ·
   refine ⟨_, ?_, 0, p_0, (p_0.length : Int), 0, rfl, hm⟩
   exact le_canon id (wV (wV (wD ((CFi .i64).sl _ _ _) (wV wk_none)))) heapWk0
  ·
   rintro n1 s ⟨many_3, t9, t10, t11, rfl, hm⟩
   replace hm : partMany_B1 (partMany_L1 n1) many_3 t9 t10 t11 = some r := hm
   unfold partMany_B1 at hm
   refine sr (N' := 128) rfl ?_
   refine pA ?_
   refine fs ?_
   refine AWp.seq' ?_
   refine AWp.condM hm Z1 (fun _ hm => ?_) (fun _ hm => ?_)
   ·
    refine AWp.skip ?_
    refine normSeq ?_
    refine AWp.seqJ (fun s => ∃ (many_3 : Int) (t9 : List Int) (t10 : Int) (t11 : Int), s = (⟨23, (fset (fset (fset (fset (fun _ => AV.any) 3 (.v (.int .i64 many_3))) 9 (.sl (t9.flatMap (ci .i64)) t9.length false)) 10 (.v (.int .i64 t10))) 11 (.v (.int .i64 t11))), ⟨nofresh, 64⟩⟩ : St) ∧ partMany_J1 (partMany_L1 n1) many_3 t9 t10 t11 = some r) ?_ ?_
    ·
     refine AWp.block ?_
     refine sr (N' := 192) rfl ?_
     refine pA ?_
     obtain ⟨x4, h3, hm⟩ := bnd hm
     refine pu rfl (ap_idx (CFi .i64) Zd Tryz.underlying112 sz3 Z1 rfl Z1 h3) ?_
     iterate 3 refine pA ?_
     refine fs ?_
     refine sr (N' := 256) rfl ?_
     iterate 3 refine pA ?_
     refine fs ?_
     refine AWp.condM hm Z1 (fun _ hm => ?_) (fun _ hm => ?_)
     ·
      refine AWp.reg 64 (N' := 320) rfl ?_
      iterate 3 refine pA ?_
      refine ARun.fin ?_
      refine normIn ?_
      refine normJ ?_
      refine ⟨_, ?_, (IntKind.i64.wrap (many_3 + 1)), t9, t10, t11, rfl, hm⟩
      exact le_canon id (wV (wV (wD ((CFi .i64).sl _ _ _) (wV wk_none)))) heapWk0
     ·
      refine AWp.skip ?_
      refine normIn ?_
      refine normJ ?_
      refine ⟨_, ?_, many_3, t9, t10, t11, rfl, hm⟩
      exact le_canon id (wV (wV (wD ((CFi .i64).sl _ _ _) (wV wk_none)))) heapWk0
    ·
     rintro s ⟨many_3, t9, t10, t11, rfl, hm⟩
     unfold partMany_J1 at hm
     refine AWp.reg 64 (N' := 128) rfl ?_
     iterate 2 refine pA ?_
     refine ARun.fin ?_
     refine normThen ?_
     refine ⟨_, ?_, many_3, t9, t10, (IntKind.i64.wrap (t11 + 1)), rfl, hm⟩
     exact le_canon id (wV (wV (wD ((CFi .i64).sl _ _ _) (wV wk_none)))) heapWk0
   ·
    refine AWp.exit ?_
    refine exitSeq ?_
    refine exitThen ?_
    refine exitHere ?_
    refine normSeq ?_
    refine sr (N' := 192) rfl ?_
    iterate 2 refine pA ?_
    refine fs ?_
    refine AWp.ret ?_
    cases hm
    exact ret1D (.inr rfl) Tryz.results122 (td Z1 (.v _))
def groveRight_m (n_0 : Int) (l_1 : List GEdge) : Option (Bool) :=
 ((partOf_m n_0 l_1).bind fun ⟨r2, r3⟩ =>
 ((gopt ((r3 == 0) == true) 0 (partMany_m r2)).bind fun r5 =>
 some ((r3 == 0) && (r5 == (IntKind.i64.wrap (n_0 - (l_1.length : Int)))))))
theorem groveRight_c {n_0 : Int} {l_1 : List GEdge} {r : Bool} (hm : groveRight_m n_0 l_1 = some r) : PureC Tryz.prog 90 [.v (.int .i64 n_0), .sl (l_1.flatMap cGEdge) l_1.length false] (.v (.bool r)) := by
 refine PureC.of_body Tryz.func90 rfl ?_
 simp only [Tryz.ntmps90, List.length_cons, List.length_nil, Nat.reduceAdd, Nat.reduceSub, empty_eq]
 unfold groveRight_m at hm
 refine sr (N' := 64) rfl ?_
 refine pA ?_
 refine fs ?_
 refine sr (N' := 128) rfl ?_
 iterate 2 refine pA ?_
 obtain ⟨⟨r2, r3⟩, h1, hm⟩ := bnd hm
 refine ARun.callQ (r := .tup [.sl (r2.flatMap (ci .i64)) r2.length false, .v (.int .i64 r3)]) Zd Z1 fb99 (fun H => (cV (cD (CFGEdge.sl _ _ _) .nil))) (partOf_c h1) ?_
 iterate 5 refine pA ?_
 refine fs ?_
 refine sr (N' := 192) rfl ?_
 iterate 4 first | refine pA ?_ | refine pB ?_
 obtain ⟨r5, h4, hm⟩ := bnd hm
 refine ARun.callQG (r := .v (.int .i64 r5)) Zd rfl Z2 Z1 fb122 (fun hb H => (.cons (td (Zh hb) ((CFi .i64).sl _ _ _)) .nil)) (fun hb => partMany_c (gopt_t h4 hb)) ?_
 iterate 7 first | refine pA ?_ | refine pB ?_
 refine fs ?_
 refine AWp.ret ?_
 cases hm
 exact ret1D (.inr rfl) Tryz.results90 (td Z1 (.v _))
def searchRight_B2 (rec2 : GGraph → GConfig → List GEdge → Int → Int → Option (Bool)) (g_1 : GGraph) (c_3 : GConfig) (t70 : List GEdge) (t71 : Int) (t72 : Int) : Option (Bool) :=
 (bif (decide (t72 < t71)) then
  ((idx t70 t72).bind fun x6 =>
  (bif (decide (c_3.L < x6.Tier)) then
   some false
  else
   rec2 g_1 c_3 t70 t71 (IntKind.i64.wrap (t72 + 1))))
 else
  ((tableForest_m c_3.N g_1.Edges c_3.L).bind fun r8 =>
  ((groveRight_m c_3.N r8).bind fun r10 =>
  some r10)))
def searchRight_L2 : Nat → GGraph → GConfig → List GEdge → Int → Int → Option (Bool)
 | 0 => fun _ _ _ _ _ => none
 | n + 1 => searchRight_B2 (searchRight_L2 n)
def searchRight_B1 (rec1 : GGraph → GConfig → List GHash → Int → Int → Option (Bool)) (g_1 : GGraph) (c_3 : GConfig) (t48 : List GHash) (t49 : Int) (t50 : Int) : Option (Bool) :=
 (bif (decide (t50 < t49)) then
  ((idx t48 t50).bind fun x2 =>
  (bif ((decide (2305843009213693951 ≤ x2.A)) || (decide (2305843009213693951 ≤ x2.B))) then
   some false
  else
   rec1 g_1 c_3 t48 t49 (IntKind.i64.wrap (t50 + 1))))
 else
  ((tableRight_m c_3.N g_1.Edges).bind fun r4 =>
  (bif (!r4) then
   some false
  else
   searchRight_L2 FUEL g_1 c_3 g_1.Edges (g_1.Edges.length : Int) 0)))
def searchRight_L1 : Nat → GGraph → GConfig → List GHash → Int → Int → Option (Bool)
 | 0 => fun _ _ _ _ _ => none
 | n + 1 => searchRight_B1 (searchRight_L1 n)
def searchRight_m (g_0 : GGraph) : Option (Bool) :=
 (bif ((((((decide (g_0.Config.N < 1)) || (decide (1024 < g_0.Config.N))) || (decide (g_0.Config.L < 1))) || (decide (16 < g_0.Config.L))) || (decide (g_0.Config.R < 1))) || (decide (8 < g_0.Config.R))) then
  some false
 else
  (bif ((g_0.Hashes.length : Int) != (IntKind.i64.wrap (g_0.Config.L * g_0.Config.R))) then
   some false
  else
   searchRight_L1 FUEL g_0 g_0.Config g_0.Hashes (g_0.Hashes.length : Int) 0))
theorem searchRight_c {g_0 : GGraph} {r : Bool} (hm : searchRight_m g_0 = some r) : PureC Tryz.prog 49 [.agg [.v (.int .i64 g_0.Config.N), .v (.int .i64 g_0.Config.L), .v (.int .i64 g_0.Config.R), .sl (g_0.Hashes.flatMap cGHash) g_0.Hashes.length false, .sl (g_0.Edges.flatMap cGEdge) g_0.Edges.length false]] (.v (.bool r)) := by
 refine PureC.of_body Tryz.func49 rfl ?_
 simp only [Tryz.ntmps49, List.length_cons, List.length_nil, Nat.reduceAdd, Nat.reduceSub, empty_eq]
 unfold searchRight_m at hm
 refine sr (N' := 64) rfl ?_
 refine hp (id := 0) rfl rfl (aheap_box Z1 Z5) ?_
 refine pA ?_
 refine fs ?_
 refine sr (N' := 128) rfl ?_
 refine pA ?_
 refine pu rfl (ap_ldv Z1 Z3 Z4) ?_
 refine hp (id := 66) rfl rfl (aheap_alloc' zc23 Z5) ?_
 refine ARun.heap0 (id := 67) rfl (ah_var (ys := [.v (.int .i64 g_0.Config.N), .v (.int .i64 g_0.Config.L), .v (.int .i64 g_0.Config.R)]) sz23 Z1 Z1 Z3 rfl (Nat.le_of_ble_eq_true rfl) Z9 rfl) ?_
 refine fs ?_
 refine AWp.seq' ?_
 refine sr (N' := 192) rfl ?_
 refine pA ?_
 refine pu rfl (ap_ldv Z1 Z3 Z4) ?_
 iterate 3 first | refine pA ?_ | refine pB ?_
 refine pg rfl rfl Z2 (fun hb => (ap_ldv (Zh hb) Z3 Z4)) ?_
 iterate 4 first | refine pA ?_ | refine pB ?_
 refine pg rfl rfl Z2 (fun hb => (ap_ldv (Zh hb) Z3 Z4)) ?_
 iterate 4 first | refine pA ?_ | refine pB ?_
 refine pg rfl rfl Z2 (fun hb => (ap_ldv (Zh hb) Z3 Z4)) ?_
 iterate 4 first | refine pA ?_ | refine pB ?_
 refine pg rfl rfl Z2 (fun hb => (ap_ldv (Zh hb) Z3 Z4)) ?_
 iterate 4 first | refine pA ?_ | refine pB ?_
 refine pg rfl rfl Z2 (fun hb => (ap_ldv (Zh hb) Z3 Z4)) ?_
 iterate 2 first | refine pA ?_ | refine pB ?_
 refine fs ?_
 refine AWp.condM hm Z1 (fun _ hm => ?_) (fun _ hm => ?_)
 ·
  refine sr (N' := 256) rfl ?_
  refine pA ?_
  refine fs ?_
  refine AWp.ret ?_
  refine retSeq ?_
  cases hm
  exact ret1D (.inr rfl) Tryz.results49 (td Z1 (.v _))
 ·
  refine AWp.skip ?_
  refine normSeq ?_
  refine AWp.seq' ?_
  refine sr (N' := 256) rfl ?_
  refine pA ?_
  refine pu rfl (ap_ldv Z1 Z3 Z4) ?_
  iterate 2 refine pA ?_
  refine pu rfl (ap_ldv Z1 Z3 Z4) ?_
  refine pA ?_
  refine pu rfl (ap_ldv Z1 Z3 Z4) ?_
  iterate 2 refine pA ?_
  refine fs ?_
  refine AWp.condM hm Z1 (fun _ hm => ?_) (fun _ hm => ?_)
  ·
   refine sr (N' := 320) rfl ?_
   refine pA ?_
   refine fs ?_
   refine AWp.ret ?_
   refine retSeq ?_
   cases hm
   exact ret1D (.inr rfl) Tryz.results49 (td Z1 (.v _))
  ·
   refine AWp.skip ?_
   refine normSeq ?_
   refine AWp.seq' ?_
   refine sr (N' := 320) rfl ?_
   refine pA ?_
   refine pu rfl (ap_ldv Z1 Z3 Z4) ?_
   iterate 2 refine pA ?_
   refine fs ?_
   refine AWp.block ?_
   refine AWp.loopM (fun m s => ∃ (g_1 : GGraph) (c_3 : GConfig) (t48 : List GHash) (t49 : Int) (t50 : Int), s = (⟨92, (fset (fset (fset (fset (fset (fun _ => AV.any) 1 (.adr 1 0)) 3 (.adr 2 0)) 48 (.sl (t48.flatMap cGHash) t48.length false)) 49 (.v (.int .i64 t49))) 50 (.v (.int .i64 t50))), ⟨(upd (upd nofresh 1 (.cells 1 [.v (.int .i64 g_1.Config.N), .v (.int .i64 g_1.Config.L), .v (.int .i64 g_1.Config.R), .sl (g_1.Hashes.flatMap cGHash) g_1.Hashes.length false, .sl (g_1.Edges.flatMap cGEdge) g_1.Edges.length false] 0)) 2 (.cells 1 [.v (.int .i64 c_3.N), .v (.int .i64 c_3.L), .v (.int .i64 c_3.R)] 0)), 64⟩⟩ : St) ∧ searchRight_L1 m g_1 c_3 t48 t49 t50 = some r) FUEL ?_ ?_ ?_
   ·
    rintro s ⟨_, _, _, _, _, _, h⟩
    cases h
   ·
    refine ⟨_, ?_, g_0, g_0.Config, g_0.Hashes, (g_0.Hashes.length : Int), 0, rfl, hm⟩
    exact le_canon (fun j => bif j == 1 then 0 else bif j == 2 then 66 else 0) (wV (wV (wD (CFGHash.sl _ _ _) (wk_fset _ _ (wk_adr Z1 rfl Z7) (wk_fset _ _ (wk_adr Z1 rfl Z7) wk_none))))) (hW (entWk_upd (entWk_data Z3 (Nat.le_refl _) (Nat.zero_le _) (CFGConfig.dat g_0.Config)) (entWk_upd (entWk_data Z3 (Nat.le_refl _) (Nat.zero_le _) (CFGGraph.dat g_0)) entWk_none)))
   ·
    rintro n1 s ⟨g_1, c_3, t48, t49, t50, rfl, hm⟩
    replace hm : searchRight_B1 (searchRight_L1 n1) g_1 c_3 t48 t49 t50 = some r := hm
    unfold searchRight_B1 at hm
    refine sr (N' := 128) rfl ?_
    refine pA ?_
    refine fs ?_
    refine AWp.seq' ?_
    refine AWp.condM hm Z1 (fun _ hm => ?_) (fun _ hm => ?_)
    ·
     refine AWp.skip ?_
     refine normSeq ?_
     refine AWp.seq' ?_
     refine AWp.block ?_
     refine sr (N' := 192) rfl ?_
     obtain ⟨x2, h1, hm⟩ := bnd hm
     refine pu rfl (ap_idx CFGHash Zd Tryz.underlying27 sz120 Z1 rfl Z1 h1) ?_
     refine pA ?_
     refine hp (id := 130) rfl rfl (aheap_alloc' zc120 Z5) ?_
     refine ARun.heap0 (id := 131) rfl (ah_var (ys := [.v (.int .u64 x2.A), .v (.int .u64 x2.B)]) sz120 Z1 Z1 Z3 rfl (Nat.le_of_ble_eq_true rfl) Z9 rfl) ?_
     refine fs ?_
     refine sr (N' := 256) rfl ?_
     refine pA ?_
     refine pu rfl (ap_ldv Z1 Z3 Z4) ?_
     iterate 3 first | refine pA ?_ | refine pB ?_
     refine pg rfl rfl Z2 (fun hb => (ap_ldv (Zh hb) Z3 Z4)) ?_
     iterate 2 first | refine pA ?_ | refine pB ?_
     refine fs ?_
     refine AWp.condM hm Z1 (fun _ hm => ?_) (fun _ hm => ?_)
     ·
      refine sr (N' := 320) rfl ?_
      refine pA ?_
      refine fs ?_
      refine AWp.ret ?_
      refine retIn ?_
      refine retSeq ?_
      refine retThen ?_
      refine retIn ?_
      refine retSeq ?_
      cases hm
      exact ret1D (.inr rfl) Tryz.results49 (td Z1 (.v _))
     ·
      refine AWp.skip ?_
      refine normIn ?_
      refine normSeq ?_
      refine AWp.reg 64 (N' := 320) rfl ?_
      iterate 2 refine pA ?_
      refine ARun.fin ?_
      refine normThen ?_
      refine ⟨_, ?_, g_1, c_3, t48, t49, (IntKind.i64.wrap (t50 + 1)), rfl, hm⟩
      exact le_canon (fun j => bif j == 1 then 1 else bif j == 2 then 2 else 0) (wV (wV (wD (CFGHash.sl _ _ _) (wk_fset _ _ (wk_adr Z1 rfl Z7) (wk_fset _ _ (wk_adr Z1 rfl Z7) wk_none))))) (hW (entWk_upd (entWk_data Z3 (Nat.le_refl _) (Nat.zero_le _) (CFGConfig.dat c_3)) (entWk_upd (entWk_data Z3 (Nat.le_refl _) (Nat.zero_le _) (CFGGraph.dat g_1)) entWk_none)))
    ·
     refine AWp.exit ?_
     refine exitSeq ?_
     refine exitThen ?_
     refine exitHere ?_
     refine normSeq ?_
     refine AWp.seq' ?_
     refine sr (N' := 192) rfl ?_
     refine pA ?_
     refine pu rfl (ap_ldv Z1 Z3 Z4) ?_
     refine pA ?_
     refine pu rfl (ap_ldv Z1 Z3 Z4) ?_
     obtain ⟨r4, h3, hm⟩ := bnd hm
     refine ARun.callQ (r := .v (.bool r4)) Zd Z1 fb89 (fun H => (cV (cD (CFGEdge.sl _ _ _) .nil))) (tableRight_c h3) ?_
     refine pA ?_
     refine fs ?_
     refine AWp.condM hm Z1 (fun _ hm => ?_) (fun _ hm => ?_)
     ·
      refine sr (N' := 256) rfl ?_
      refine pA ?_
      refine fs ?_
      refine AWp.ret ?_
      refine retSeq ?_
      cases hm
      exact ret1D (.inr rfl) Tryz.results49 (td Z1 (.v _))
     ·
      refine AWp.skip ?_
      refine normSeq ?_
      refine AWp.seq' ?_
      refine sr (N' := 256) rfl ?_
      refine pA ?_
      refine pu rfl (ap_ldv Z1 Z3 Z4) ?_
      iterate 2 refine pA ?_
      refine fs ?_
      refine AWp.block ?_
      refine AWp.loopM (fun m s => ∃ (g_1 : GGraph) (c_3 : GConfig) (t70 : List GEdge) (t71 : Int) (t72 : Int), s = (⟨92, (fset (fset (fset (fset (fset (fun _ => AV.any) 1 (.adr 1 0)) 3 (.adr 2 0)) 70 (.sl (t70.flatMap cGEdge) t70.length false)) 71 (.v (.int .i64 t71))) 72 (.v (.int .i64 t72))), ⟨(upd (upd nofresh 1 (.cells 1 [.v (.int .i64 g_1.Config.N), .v (.int .i64 g_1.Config.L), .v (.int .i64 g_1.Config.R), .sl (g_1.Hashes.flatMap cGHash) g_1.Hashes.length false, .sl (g_1.Edges.flatMap cGEdge) g_1.Edges.length false] 0)) 2 (.cells 1 [.v (.int .i64 c_3.N), .v (.int .i64 c_3.L), .v (.int .i64 c_3.R)] 0)), 64⟩⟩ : St) ∧ searchRight_L2 m g_1 c_3 t70 t71 t72 = some r) FUEL ?_ ?_ ?_
      ·
       rintro s ⟨_, _, _, _, _, _, h⟩
       cases h
      ·
       refine ⟨_, ?_, g_1, c_3, g_1.Edges, (g_1.Edges.length : Int), 0, rfl, hm⟩
       exact le_canon (fun j => bif j == 1 then 1 else bif j == 2 then 2 else 0) (wV (wV (wD (CFGEdge.sl _ _ _) (wk_fset _ _ (wk_adr Z1 rfl Z7) (wk_fset _ _ (wk_adr Z1 rfl Z7) wk_none))))) (hW (entWk_upd (entWk_data Z3 (Nat.le_refl _) (Nat.zero_le _) (CFGConfig.dat c_3)) (entWk_upd (entWk_data Z3 (Nat.le_refl _) (Nat.zero_le _) (CFGGraph.dat g_1)) entWk_none)))
      ·
       rintro n2 s ⟨g_1, c_3, t70, t71, t72, rfl, hm⟩
       replace hm : searchRight_B2 (searchRight_L2 n2) g_1 c_3 t70 t71 t72 = some r := hm
       unfold searchRight_B2 at hm
       refine sr (N' := 128) rfl ?_
       refine pA ?_
       refine fs ?_
       refine AWp.seq' ?_
       refine AWp.condM hm Z1 (fun _ hm => ?_) (fun _ hm => ?_)
       ·
        refine AWp.skip ?_
        refine normSeq ?_
        refine AWp.seq' ?_
        refine AWp.block ?_
        refine sr (N' := 192) rfl ?_
        obtain ⟨x6, h5, hm⟩ := bnd hm
        refine pu rfl (ap_idx CFGEdge Zd Tryz.underlying28 sz102 Z1 rfl Z1 h5) ?_
        refine pA ?_
        refine hp (id := 130) rfl rfl (aheap_alloc' zc102 Z5) ?_
        refine ARun.heap0 (id := 131) rfl (ah_var (ys := [.v (.int .i64 x6.U), .v (.int .i64 x6.V), .v (.int .i64 x6.Tier)]) sz102 Z1 Z1 Z3 rfl (Nat.le_of_ble_eq_true rfl) Z9 rfl) ?_
        refine fs ?_
        refine sr (N' := 256) rfl ?_
        refine pA ?_
        refine pu rfl (ap_ldv Z1 Z3 Z4) ?_
        refine pA ?_
        refine pu rfl (ap_ldv Z1 Z3 Z4) ?_
        refine pA ?_
        refine fs ?_
        refine AWp.condM hm Z1 (fun _ hm => ?_) (fun _ hm => ?_)
        ·
         refine sr (N' := 320) rfl ?_
         refine pA ?_
         refine fs ?_
         refine AWp.ret ?_
         refine retIn ?_
         refine retSeq ?_
         refine retThen ?_
         refine retIn ?_
         refine retSeq ?_
         cases hm
         exact ret1D (.inr rfl) Tryz.results49 (td Z1 (.v _))
        ·
         refine AWp.skip ?_
         refine normIn ?_
         refine normSeq ?_
         refine AWp.reg 64 (N' := 320) rfl ?_
         iterate 2 refine pA ?_
         refine ARun.fin ?_
         refine normThen ?_
         refine ⟨_, ?_, g_1, c_3, t70, t71, (IntKind.i64.wrap (t72 + 1)), rfl, hm⟩
         exact le_canon (fun j => bif j == 1 then 1 else bif j == 2 then 2 else 0) (wV (wV (wD (CFGEdge.sl _ _ _) (wk_fset _ _ (wk_adr Z1 rfl Z7) (wk_fset _ _ (wk_adr Z1 rfl Z7) wk_none))))) (hW (entWk_upd (entWk_data Z3 (Nat.le_refl _) (Nat.zero_le _) (CFGConfig.dat c_3)) (entWk_upd (entWk_data Z3 (Nat.le_refl _) (Nat.zero_le _) (CFGGraph.dat g_1)) entWk_none)))
       ·
        refine AWp.exit ?_
        refine exitSeq ?_
        refine exitThen ?_
        refine exitHere ?_
        refine normSeq ?_
        refine sd mix (by kernel_rfl) (N' := 192) rfl ?_
        refine pA ?_
        refine pu rfl (ap_ldv Z1 Z3 Z4) ?_
        refine pA ?_
        refine pu rfl (ap_ldv Z1 Z3 Z4) ?_
        refine pA ?_
        refine pu rfl (ap_ldv Z1 Z3 Z4) ?_
        refine pA ?_
        refine pu rfl (ap_ldv Z1 Z3 Z4) ?_
        obtain ⟨r8, h7, hm⟩ := bnd hm
        refine ARun.callQ (r := .sl (r8.flatMap cGEdge) r8.length false) Zd Z1 fb91 (fun H => (cV (cD (CFGEdge.sl _ _ _) (cV .nil)))) (tableForest_c h7) ?_
        obtain ⟨r10, h9, hm⟩ := bnd hm
        refine ARun.callQ (r := .v (.bool r10)) Zd Z1 fb90 (fun H => (cV (cD (CFGEdge.sl _ _ _) .nil))) (groveRight_c h9) ?_
        refine pA ?_
        refine fs ?_
        refine AWp.ret ?_
        cases hm
        exact ret1D (.inr rfl) Tryz.results49 (td Z1 (.v _))
def tiersNew_m (c_0 : GConfig) (hashes_1 : List GHash) : Option (GGraph × Int) :=
 ((slicesCloneHash_m hashes_1).bind fun r2 =>
 ((searchRight_m (GGraph.mk c_0 r2 [])).bind fun r4 =>
 (bif (!r4) then
  some ((GGraph.mk (GConfig.mk 0 0 0) [] []), 1)
 else
  some ((GGraph.mk c_0 r2 []), 0))))
theorem tiersNew_c {c_0 : GConfig} {hashes_1 : List GHash} {r : GGraph × Int} (hm : tiersNew_m c_0 hashes_1 = some r) : PureC Tryz.prog 36 [.agg [.v (.int .i64 c_0.N), .v (.int .i64 c_0.L), .v (.int .i64 c_0.R)], .sl (hashes_1.flatMap cGHash) hashes_1.length false] (.tup [.agg [.v (.int .i64 r.1.Config.N), .v (.int .i64 r.1.Config.L), .v (.int .i64 r.1.Config.R), .sl (r.1.Hashes.flatMap cGHash) r.1.Hashes.length false, .sl (r.1.Edges.flatMap cGEdge) r.1.Edges.length false], .v (.int .i64 r.2)]) := by
 refine PureC.of_body Tryz.func36 rfl ?_
 simp only [Tryz.ntmps36, List.length_cons, List.length_nil, Nat.reduceAdd, Nat.reduceSub, empty_eq]
 unfold tiersNew_m at hm
 refine sr (N' := 64) rfl ?_
 refine hp (id := 0) rfl rfl (aheap_box Z1 Z5) ?_
 refine hp (id := 1) rfl rfl (aheap_alloc' zc30 Z5) ?_
 refine pA ?_
 refine fs ?_
 refine sd mix (by kernel_rfl) (N' := 128) rfl ?_
 refine pu rfl (ap_ldv Z1 Z3 Z2) ?_
 refine pA ?_
 obtain ⟨r2, h1, hm⟩ := bnd hm
 refine ARun.callQ (r := .sl (r2.flatMap cGHash) r2.length false) Zd Z1 fb69 (fun H => (cD (CFGHash.sl _ _ _) .nil)) (slicesCloneHash_c h1) ?_
 refine pu rfl (by simp only [go_sem, Nat.reduceBEq]; exact (by kernel_rfl : abuild Tryz.prog 30 [(0, .agg [.v (.int .i64 c_0.N), .v (.int .i64 c_0.L), .v (.int .i64 c_0.R)]), (1, .sl (r2.flatMap cGHash) r2.length false)] = some (.agg [.v (.int .i64 c_0.N), .v (.int .i64 c_0.L), .v (.int .i64 c_0.R), .sl (r2.flatMap cGHash) r2.length false, .v (.slice none 0 0)]))) ?_
 refine hp (id := 68) rfl rfl (aheap_alloc' zc30 Z5) ?_
 refine ARun.heap0 (id := 69) rfl (ah_var (ys := [.v (.int .i64 c_0.N), .v (.int .i64 c_0.L), .v (.int .i64 c_0.R), .sl (r2.flatMap cGHash) r2.length false, .v (.slice none 0 0)]) sz30 Z1 Z1 Z3 rfl (Nat.le_of_ble_eq_true rfl) Z9 rfl) ?_
 refine fs ?_
 refine AWp.seq' ?_
 refine sr (N' := 192) rfl ?_
 refine pu rfl (ap_ldv Z1 Z3 Z2) ?_
 obtain ⟨r4, h3, hm⟩ := bnd hm
 refine ARun.callQ (r := .v (.bool r4)) Zd Z1 fb49 (fun H => (.cons (tda Z1 (.cons (.data _ (.v _)) (.cons (.data _ (.v _)) (.cons (.data _ (.v _)) (.cons (.data _ (CFGHash.sl _ _ _)) (.cons (.nil false) .nil)))))) .nil)) (searchRight_c h3) ?_
 refine pA ?_
 refine fs ?_
 refine AWp.condM hm Z1 (fun _ hm => ?_) (fun _ hm => ?_)
 ·
  refine sr (N' := 256) rfl ?_
  refine pu rfl (by simp only [go_sem, Nat.reduceBEq]; exact (by kernel_rfl : abuild Tryz.prog 30 [] = some (.agg [.v (.int .i64 0), .v (.int .i64 0), .v (.int .i64 0), .v (.slice none 0 0), .v (.slice none 0 0)]))) ?_
  refine ARun.heap0 (id := 193) rfl (ah_var (ys := [.v (.int .i64 0), .v (.int .i64 0), .v (.int .i64 0), .v (.slice none 0 0), .v (.slice none 0 0)]) sz30 Z1 Z1 Z3 rfl (Nat.le_of_ble_eq_true rfl) Z9 rfl) ?_
  refine pA ?_
  refine fs ?_
  refine AWp.ret ?_
  refine retSeq ?_
  cases hm
  exact retL (.inr rfl) (by rw [Tryz.results36]) (.cell (ap_ldv' Z1 Z3 Z2) (.tmp Z1 .nil)) rfl (tdt (.cons (tda rfl (.cons (.data _ (.v _)) (.cons (.data _ (.v _)) (.cons (.data _ (.v _)) (.cons (.nil false) (.cons (.nil false) .nil)))))) (.cons (td rfl (.v _)) .nil)))
 ·
  refine AWp.skip ?_
  refine normSeq ?_
  refine sr (N' := 256) rfl ?_
  refine pu rfl (ap_ldv Z1 Z3 Z2) ?_
  refine ARun.heap0 (id := 193) rfl (ah_var (ys := [.v (.int .i64 c_0.N), .v (.int .i64 c_0.L), .v (.int .i64 c_0.R), .sl (r2.flatMap cGHash) r2.length false, .v (.slice none 0 0)]) sz30 Z1 Z1 Z3 rfl (Nat.le_of_ble_eq_true rfl) Z9 rfl) ?_
  refine pA ?_
  refine fs ?_
  refine AWp.ret ?_
  cases hm
  exact retL (.inr rfl) (by rw [Tryz.results36]) (.cell (ap_ldv' Z1 Z3 Z2) (.tmp Z1 .nil)) rfl (tdt (.cons (tda rfl (.cons (.data _ (.v _)) (.cons (.data _ (.v _)) (.cons (.data _ (.v _)) (.cons (.data _ (CFGHash.sl _ _ _)) (.cons (.nil false) .nil)))))) (.cons (td rfl (.v _)) .nil)))
def tiersKept_m (g_0 : GGraph) : Option ((List Int)) :=
 ((searchRight_m g_0).bind fun r2 =>
 (bif (!r2) then
  some []
 else
  ((tableForest_m g_0.Config.N g_0.Edges g_0.Config.L).bind fun r4 =>
  ((partOf_m g_0.Config.N r4).bind fun ⟨r6, r7⟩ =>
  some r6))))
theorem tiersKept_c {g_0 : GGraph} {r : (List Int)} (hm : tiersKept_m g_0 = some r) : PureC Tryz.prog 73 [.agg [.v (.int .i64 g_0.Config.N), .v (.int .i64 g_0.Config.L), .v (.int .i64 g_0.Config.R), .sl (g_0.Hashes.flatMap cGHash) g_0.Hashes.length false, .sl (g_0.Edges.flatMap cGEdge) g_0.Edges.length false]] (.sl (r.flatMap (ci .i64)) r.length false) := by
 refine PureC.of_body Tryz.func73 rfl ?_
 simp only [Tryz.ntmps73, List.length_cons, List.length_nil, Nat.reduceAdd, Nat.reduceSub, empty_eq]
 unfold tiersKept_m at hm
 refine sr (N' := 64) rfl ?_
 refine hp (id := 0) rfl rfl (aheap_box Z1 Z5) ?_
 refine pA ?_
 refine fs ?_
 refine AWp.seq' ?_
 refine sr (N' := 128) rfl ?_
 refine pu rfl (ap_ldv Z1 Z3 Z2) ?_
 obtain ⟨r2, h1, hm⟩ := bnd hm
 refine ARun.callQ (r := .v (.bool r2)) Zd Z1 fb49 (fun H => (cD (.agg _ (CFGGraph.dat _)) .nil)) (searchRight_c h1) ?_
 refine pA ?_
 refine fs ?_
 refine AWp.condM hm Z1 (fun _ hm => ?_) (fun _ hm => ?_)
 ·
  refine sr (N' := 192) rfl ?_
  refine pA ?_
  refine fs ?_
  refine AWp.ret ?_
  refine retSeq ?_
  cases hm
  exact ret1D (.inr rfl) Tryz.results73 (tdn Z1)
 ·
  refine AWp.skip ?_
  refine normSeq ?_
  refine sd mix (by kernel_rfl) (N' := 192) rfl ?_
  iterate 2 refine pA ?_
  refine pu rfl (ap_ldv Z1 Z3 Z4) ?_
  iterate 2 refine pA ?_
  refine pu rfl (ap_ldv Z1 Z3 Z4) ?_
  refine pA ?_
  refine pu rfl (ap_ldv Z1 Z3 Z4) ?_
  iterate 2 refine pA ?_
  refine pu rfl (ap_ldv Z1 Z3 Z4) ?_
  obtain ⟨r4, h3, hm⟩ := bnd hm
  refine ARun.callQ (r := .sl (r4.flatMap cGEdge) r4.length false) Zd Z1 fb91 (fun H => (cV (cD (CFGEdge.sl _ _ _) (cV .nil)))) (tableForest_c h3) ?_
  obtain ⟨⟨r6, r7⟩, h5, hm⟩ := bnd hm
  refine ARun.callQ (r := .tup [.sl (r6.flatMap (ci .i64)) r6.length false, .v (.int .i64 r7)]) Zd Z1 fb99 (fun H => (cV (cD (CFGEdge.sl _ _ _) .nil))) (partOf_c h5) ?_
  iterate 5 refine pA ?_
  refine fs ?_
  refine sr (N' := 256) rfl ?_
  iterate 2 refine pA ?_
  refine fs ?_
  refine AWp.ret ?_
  cases hm
  exact ret1D (.inr rfl) Tryz.results73 (td Z1 ((CFi .i64).sl _ _ _))
def nameFind_B1 (rec1 : Int → Int → List GEdge → Int → Int → Option (Int × Bool)) (u_1 : Int) (v_2 : Int) (t10 : List GEdge) (t11 : Int) (t12 : Int) : Option (Int × Bool) :=
 (bif (decide (t12 < t11)) then
  ((idx t10 t12).bind fun x2 =>
  (bif (((x2.U == u_1) && (x2.V == v_2)) || ((x2.U == v_2) && (x2.V == u_1))) then
   some (t12, true)
  else
   rec1 u_1 v_2 t10 t11 (IntKind.i64.wrap (t12 + 1))))
 else
  some (0, false))
def nameFind_L1 : Nat → Int → Int → List GEdge → Int → Int → Option (Int × Bool)
 | 0 => fun _ _ _ _ _ => none
 | n + 1 => nameFind_B1 (nameFind_L1 n)
def nameFind_m (l_0 : List GEdge) (u_1 : Int) (v_2 : Int) : Option (Int × Bool) :=
 nameFind_L1 FUEL u_1 v_2 l_0 (l_0.length : Int) 0
theorem nameFind_c {l_0 : List GEdge} {u_1 : Int} {v_2 : Int} {r : Int × Bool} (hm : nameFind_m l_0 u_1 v_2 = some r) : PureC Tryz.prog 74 [.sl (l_0.flatMap cGEdge) l_0.length false, .v (.int .i64 u_1), .v (.int .i64 v_2)] (.tup [.v (.int .i64 r.1), .v (.bool r.2)]) := by
 refine PureC.of_body Tryz.func74 rfl ?_
 simp only [Tryz.ntmps74, List.length_cons, List.length_nil, Nat.reduceAdd, Nat.reduceSub, empty_eq]
 unfold nameFind_m at hm
 refine sr (N' := 64) rfl ?_
 iterate 2 refine pA ?_
 refine fs ?_
 refine AWp.seq' ?_
 refine sr (N' := 128) rfl ?_
 iterate 3 refine pA ?_
 refine fs ?_
 refine AWp.block ?_
 refine AWp.loopM (fun m s => ∃ (u_1 : Int) (v_2 : Int) (t10 : List GEdge) (t11 : Int) (t12 : Int), s = (⟨41, (fset (fset (fset (fset (fset (fun _ => AV.any) 1 (.v (.int .i64 u_1))) 2 (.v (.int .i64 v_2))) 10 (.sl (t10.flatMap cGEdge) t10.length false)) 11 (.v (.int .i64 t11))) 12 (.v (.int .i64 t12))), ⟨nofresh, 64⟩⟩ : St) ∧ nameFind_L1 m u_1 v_2 t10 t11 t12 = some r) FUEL ?_ ?_ ?_
 ·
  rintro s ⟨_, _, _, _, _, _, h⟩
  cases h
 ·
  refine ⟨_, ?_, u_1, v_2, l_0, (l_0.length : Int), 0, rfl, hm⟩
  exact le_canon id (wV (wV (wD (CFGEdge.sl _ _ _) (wV (wV wk_none))))) heapWk0
 ·
  rintro n1 s ⟨u_1, v_2, t10, t11, t12, rfl, hm⟩
  replace hm : nameFind_B1 (nameFind_L1 n1) u_1 v_2 t10 t11 t12 = some r := hm
  unfold nameFind_B1 at hm
  refine sr (N' := 128) rfl ?_
  refine pA ?_
  refine fs ?_
  refine AWp.seq' ?_
  refine AWp.condM hm Z1 (fun _ hm => ?_) (fun _ hm => ?_)
  ·
   refine AWp.skip ?_
   refine normSeq ?_
   refine AWp.seq' ?_
   refine AWp.block ?_
   refine sr (N' := 192) rfl ?_
   refine pA ?_
   obtain ⟨x2, h1, hm⟩ := bnd hm
   refine pu rfl (ap_idx CFGEdge Zd Tryz.underlying28 sz102 Z1 rfl Z1 h1) ?_
   refine pA ?_
   refine hp (id := 131) rfl rfl (aheap_alloc' zc102 Z5) ?_
   refine pA ?_
   refine ARun.heap0 (id := 133) rfl (ah_var (ys := [.v (.int .i64 x2.U), .v (.int .i64 x2.V), .v (.int .i64 x2.Tier)]) sz102 Z1 Z1 Z3 rfl (Nat.le_of_ble_eq_true rfl) Z9 rfl) ?_
   refine fs ?_
   refine sr (N' := 256) rfl ?_
   refine pA ?_
   refine pu rfl (ap_ldv Z1 Z3 Z4) ?_
   iterate 4 first | refine pA ?_ | refine pB ?_
   refine pg rfl rfl Z2 (fun hb => (ap_ldv (Zh hb) Z3 Z4)) ?_
   iterate 5 first | refine pA ?_ | refine pB ?_
   refine pg rfl rfl Z2 (fun hb => (ap_ldv (Zh hb) Z3 Z4)) ?_
   iterate 4 refine pB ?_
   refine pg rfl rfl Z2 (fun hb => (ap_ldv (Zh hb) Z3 Z4)) ?_
   iterate 4 first | refine pA ?_ | refine pB ?_
   refine fs ?_
   refine AWp.condM hm Z1 (fun _ hm => ?_) (fun _ hm => ?_)
   ·
    refine sr (N' := 320) rfl ?_
    iterate 3 refine pA ?_
    refine fs ?_
    refine AWp.ret ?_
    refine retIn ?_
    refine retSeq ?_
    refine retThen ?_
    refine retIn ?_
    refine retSeq ?_
    cases hm
    exact ret2D (.inr rfl) Tryz.results74 (td Z1 (.v _)) (td Z1 (.v _))
   ·
    refine AWp.skip ?_
    refine normIn ?_
    refine normSeq ?_
    refine AWp.reg 64 (N' := 320) rfl ?_
    iterate 2 refine pA ?_
    refine ARun.fin ?_
    refine normThen ?_
    refine ⟨_, ?_, u_1, v_2, t10, t11, (IntKind.i64.wrap (t12 + 1)), rfl, hm⟩
    exact le_canon id (wV (wV (wD (CFGEdge.sl _ _ _) (wV (wV wk_none))))) heapWk0
  ·
   refine AWp.exit ?_
   refine exitSeq ?_
   refine exitThen ?_
   refine exitHere ?_
   refine normSeq ?_
   refine sr (N' := 192) rfl ?_
   iterate 2 refine pA ?_
   refine fs ?_
   refine AWp.ret ?_
   cases hm
   exact ret2D (.inr rfl) Tryz.results74 (td Z1 (.v _)) (td Z1 (.v _))
def partClass_J1 (rec1 : List Int → Int → List Int → List Int → Int → Int → Option ((List Int))) (p_0 : List Int) (v_1 : Int) (class_5 : List Int) (t18 : List Int) (t19 : Int) (t20 : Int) : Option ((List Int)) :=
 rec1 p_0 v_1 class_5 t18 t19 (IntKind.i64.wrap (t20 + 1))
def partClass_B1 (rec1 : List Int → Int → List Int → List Int → Int → Int → Option ((List Int))) (p_0 : List Int) (v_1 : Int) (class_5 : List Int) (t18 : List Int) (t19 : Int) (t20 : Int) : Option ((List Int)) :=
 (bif (decide (t20 < t19)) then
  ((idx t18 t20).bind fun x6 =>
  ((idx p_0 v_1).bind fun x8 =>
  (bif (x6 == x8) then
   ((app class_5 [t20]).bind fun l10 =>
   partClass_J1 rec1 p_0 v_1 l10 t18 t19 t20)
  else
   partClass_J1 rec1 p_0 v_1 class_5 t18 t19 t20)))
 else
  some class_5)
def partClass_L1 : Nat → List Int → Int → List Int → List Int → Int → Int → Option ((List Int))
 | 0 => fun _ _ _ _ _ _ => none
 | n + 1 => partClass_B1 (partClass_L1 n)
def partClass_m (p_0 : List Int) (v_1 : Int) : Option ((List Int)) :=
 ((partRight_m p_0).bind fun r2 =>
 ((gopt ((!r2) == false) false (partPlace_m (p_0.length : Int) v_1)).bind fun r4 =>
 (bif ((!r2) || (!r4)) then
  some []
 else
  partClass_L1 FUEL p_0 v_1 [] p_0 (p_0.length : Int) 0)))
theorem partClass_c {p_0 : List Int} {v_1 : Int} {r : (List Int)} (hm : partClass_m p_0 v_1 = some r) : PureC Tryz.prog 78 [.sl (p_0.flatMap (ci .i64)) p_0.length false, .v (.int .i64 v_1)] (.sl (r.flatMap (ci .i64)) r.length false) := by
 refine PureC.of_body Tryz.func78 rfl ?_
 simp only [Tryz.ntmps78, List.length_cons, List.length_nil, Nat.reduceAdd, Nat.reduceSub, empty_eq]
 unfold partClass_m at hm
 refine sr (N' := 64) rfl ?_
 refine pA ?_
 refine fs ?_
 refine AWp.seq' ?_
 refine sr (N' := 128) rfl ?_
 refine pA ?_
 obtain ⟨r2, h1, hm⟩ := bnd hm
 refine ARun.callQ (r := .v (.bool r2)) Zd Z1 fb102 (fun H => (cD ((CFi .i64).sl _ _ _) .nil)) (partRight_c h1) ?_
 iterate 5 first | refine pA ?_ | refine pB ?_
 obtain ⟨r4, h3, hm⟩ := bnd hm
 refine ARun.callQG (r := .v (.bool r4)) Zd rfl Z2 Z1 fb103 (fun hb H => (.cons (td (Zh hb) (.v _)) (.cons (td (Zh hb) (.v _)) .nil))) (fun hb => partPlace_c (gopt_t h3 hb)) ?_
 iterate 2 first | refine pA ?_ | refine pB ?_
 refine fs ?_
 refine AWp.condM hm Z1 (fun _ hm => ?_) (fun _ hm => ?_)
 ·
  refine sr (N' := 192) rfl ?_
  refine pA ?_
  refine fs ?_
  refine AWp.ret ?_
  refine retSeq ?_
  cases hm
  exact ret1D (.inr rfl) Tryz.results78 (tdn Z1)
 ·
  refine AWp.skip ?_
  refine normSeq ?_
  refine sr (N' := 192) rfl ?_
  refine pA ?_
  refine fs ?_
  refine AWp.seq' ?_
  refine sr (N' := 256) rfl ?_
  iterate 3 refine pA ?_
  refine fs ?_
  refine AWp.block ?_
  refine AWp.loopM (fun m s => ∃ (p_0 : List Int) (v_1 : Int) (class_5 : List Int) (t18 : List Int) (t19 : Int) (t20 : Int), s = (⟨37, (fset (fset (fset (fset (fset (fset (fun _ => AV.any) 0 (.sl (p_0.flatMap (ci .i64)) p_0.length false)) 1 (.v (.int .i64 v_1))) 5 (.own 1 0 class_5.length)) 18 (.sl (t18.flatMap (ci .i64)) t18.length false)) 19 (.v (.int .i64 t19))) 20 (.v (.int .i64 t20))), ⟨(upd nofresh 1 (.cells 1 (class_5.flatMap (ci .i64)) 0)), 64⟩⟩ : St) ∧ partClass_L1 m p_0 v_1 class_5 t18 t19 t20 = some r) FUEL ?_ ?_ ?_
  ·
   rintro s ⟨_, _, _, _, _, _, _, h⟩
   cases h
  ·
   refine ⟨_, ?_, p_0, v_1, [], p_0, (p_0.length : Int), 0, rfl, hm⟩
   refine St.Le.trans (le_nil 5 900005 1 Z1 Z5) ?_
   exact le_canon (fun j => bif j == 1 then 900005 else 0) (wV (wV (wD ((CFi .i64).sl _ _ _) (wO (wV (wD ((CFi .i64).sl _ _ _) wk_none)))))) (hW (eU (CFi .i64) entWk_none))
  ·
   rintro n1 s ⟨p_0, v_1, class_5, t18, t19, t20, rfl, hm⟩
   replace hm : partClass_B1 (partClass_L1 n1) p_0 v_1 class_5 t18 t19 t20 = some r := hm
   unfold partClass_B1 at hm
   refine sr (N' := 128) rfl ?_
   refine pA ?_
   refine fs ?_
   refine AWp.seq' ?_
   refine AWp.condM hm Z1 (fun _ hm => ?_) (fun _ hm => ?_)
   ·
    refine AWp.skip ?_
    refine normSeq ?_
    refine AWp.seqJ (fun s => ∃ (p_0 : List Int) (v_1 : Int) (class_5 : List Int) (t18 : List Int) (t19 : Int) (t20 : Int), s = (⟨37, (fset (fset (fset (fset (fset (fset (fun _ => AV.any) 0 (.sl (p_0.flatMap (ci .i64)) p_0.length false)) 1 (.v (.int .i64 v_1))) 5 (.own 1 0 class_5.length)) 18 (.sl (t18.flatMap (ci .i64)) t18.length false)) 19 (.v (.int .i64 t19))) 20 (.v (.int .i64 t20))), ⟨(upd nofresh 1 (.cells 1 (class_5.flatMap (ci .i64)) 0)), 64⟩⟩ : St) ∧ partClass_J1 (partClass_L1 n1) p_0 v_1 class_5 t18 t19 t20 = some r) ?_ ?_
    ·
     refine AWp.block ?_
     refine sr (N' := 192) rfl ?_
     refine pA ?_
     obtain ⟨x6, h5, hm⟩ := bnd hm
     refine pu rfl (ap_idx (CFi .i64) Zd Tryz.underlying112 sz3 Z1 rfl Z1 h5) ?_
     iterate 3 refine pA ?_
     refine fs ?_
     refine sr (N' := 256) rfl ?_
     iterate 3 refine pA ?_
     obtain ⟨x8, h7, hm⟩ := bnd hm
     refine pu rfl (ap_idx (CFi .i64) Zd Tryz.underlying112 sz3 Z1 rfl Z1 h7) ?_
     iterate 2 refine pA ?_
     refine fs ?_
     refine AWp.condM hm Z1 (fun _ hm => ?_) (fun _ hm => ?_)
     ·
      refine AWp.reg 64 (N' := 320) rfl ?_
      iterate 2 refine pA ?_
      refine hp (id := 258) rfl rfl (ah_list (CFi .i64) (l := [t20]) Tryz.underlying112 sz3 zc3 Z5 Zd Zd Zd (by simp only [go_sem, Nat.reduceBEq]; try rfl) (by kernel_rfl)) ?_
      obtain ⟨l10, h9, hm⟩ := bnd hm
      refine hp (id := 259) rfl rfl (ah_app (CFi .i64) Tryz.underlying112 Tryz.underlying112 rfl in3 ts3 (by rw [tb3]; decide) (by rw [tb3]; decide) tz3 Zd Zd Z1 Z3 Z6 (as_own (CFi .i64) Z1 Z3 Z6) rfl Z5 h9) ?_
      refine pA ?_
      refine ARun.fin ?_
      refine normIn ?_
      refine normJ ?_
      refine ⟨_, ?_, p_0, v_1, l10, t18, t19, t20, rfl, hm⟩
      exact le_canon (fun j => bif j == 1 then 259 else 0) (wV (wV (wD ((CFi .i64).sl _ _ _) (wO (wV (wD ((CFi .i64).sl _ _ _) wk_none)))))) (hW (eU (CFi .i64) entWk_none))
     ·
      refine AWp.skip ?_
      refine normIn ?_
      refine normJ ?_
      refine ⟨_, ?_, p_0, v_1, class_5, t18, t19, t20, rfl, hm⟩
      exact le_canon (fun j => bif j == 1 then 1 else 0) (wV (wV (wD ((CFi .i64).sl _ _ _) (wO (wV (wD ((CFi .i64).sl _ _ _) wk_none)))))) (hW (eU (CFi .i64) entWk_none))
    ·
     rintro s ⟨p_0, v_1, class_5, t18, t19, t20, rfl, hm⟩
     unfold partClass_J1 at hm
     refine AWp.reg 64 (N' := 128) rfl ?_
     iterate 2 refine pA ?_
     refine ARun.fin ?_
     refine normThen ?_
     refine ⟨_, ?_, p_0, v_1, class_5, t18, t19, (IntKind.i64.wrap (t20 + 1)), rfl, hm⟩
     exact le_canon (fun j => bif j == 1 then 1 else 0) (wV (wV (wD ((CFi .i64).sl _ _ _) (wO (wV (wD ((CFi .i64).sl _ _ _) wk_none)))))) (hW (eU (CFi .i64) entWk_none))
   ·
    refine AWp.exit ?_
    refine exitSeq ?_
    refine exitThen ?_
    refine exitHere ?_
    refine normSeq ?_
    refine sr (N' := 192) rfl ?_
    iterate 2 refine pA ?_
    refine fs ?_
    refine AWp.ret ?_
    cases hm
    exact ret1D (.inr rfl) Tryz.results78 (tdo (CFi .i64) Z1 Z3 Z6)
def auditSo_m (g_0 : GGraph) : Option ((List Int)) :=
 ((searchRight_m g_0).bind fun r2 =>
 (bif (!r2) then
  some []
 else
  ((partOf_m g_0.Config.N g_0.Edges).bind fun ⟨r4, r5⟩ =>
  some r4)))
theorem auditSo_c {g_0 : GGraph} {r : (List Int)} (hm : auditSo_m g_0 = some r) : PureC Tryz.prog 109 [.agg [.v (.int .i64 g_0.Config.N), .v (.int .i64 g_0.Config.L), .v (.int .i64 g_0.Config.R), .sl (g_0.Hashes.flatMap cGHash) g_0.Hashes.length false, .sl (g_0.Edges.flatMap cGEdge) g_0.Edges.length false]] (.sl (r.flatMap (ci .i64)) r.length false) := by
 refine PureC.of_body Tryz.func109 rfl ?_
 simp only [Tryz.ntmps109, List.length_cons, List.length_nil, Nat.reduceAdd, Nat.reduceSub, empty_eq]
 unfold auditSo_m at hm
 refine sr (N' := 64) rfl ?_
 refine hp (id := 0) rfl rfl (aheap_box Z1 Z5) ?_
 refine pA ?_
 refine fs ?_
 refine AWp.seq' ?_
 refine sr (N' := 128) rfl ?_
 refine pu rfl (ap_ldv Z1 Z3 Z2) ?_
 obtain ⟨r2, h1, hm⟩ := bnd hm
 refine ARun.callQ (r := .v (.bool r2)) Zd Z1 fb49 (fun H => (cD (.agg _ (CFGGraph.dat _)) .nil)) (searchRight_c h1) ?_
 refine pA ?_
 refine fs ?_
 refine AWp.condM hm Z1 (fun _ hm => ?_) (fun _ hm => ?_)
 ·
  refine sr (N' := 192) rfl ?_
  refine pA ?_
  refine fs ?_
  refine AWp.ret ?_
  refine retSeq ?_
  cases hm
  exact ret1D (.inr rfl) Tryz.results109 (tdn Z1)
 ·
  refine AWp.skip ?_
  refine normSeq ?_
  refine sr (N' := 192) rfl ?_
  iterate 2 refine pA ?_
  refine pu rfl (ap_ldv Z1 Z3 Z4) ?_
  refine pA ?_
  refine pu rfl (ap_ldv Z1 Z3 Z4) ?_
  obtain ⟨⟨r4, r5⟩, h3, hm⟩ := bnd hm
  refine ARun.callQ (r := .tup [.sl (r4.flatMap (ci .i64)) r4.length false, .v (.int .i64 r5)]) Zd Z1 fb99 (fun H => (cV (cD (CFGEdge.sl _ _ _) .nil))) (partOf_c h3) ?_
  iterate 5 refine pA ?_
  refine fs ?_
  refine sr (N' := 256) rfl ?_
  iterate 2 refine pA ?_
  refine fs ?_
  refine AWp.ret ?_
  cases hm
  exact ret1D (.inr rfl) Tryz.results109 (td Z1 ((CFi .i64).sl _ _ _))
def slicesEqualInt_B1 (rec1 : List Int → List Int → Int → Int → Option (Bool)) (s1_0 : List Int) (s2_1 : List Int) (t12 : Int) (t13 : Int) : Option (Bool) :=
 (bif (decide (t13 < t12)) then
  ((idx s1_0 t13).bind fun x2 =>
  ((idx s2_1 t13).bind fun x4 =>
  (bif (x2 != x4) then
   some false
  else
   rec1 s1_0 s2_1 t12 (IntKind.i64.wrap (t13 + 1)))))
 else
  some true)
def slicesEqualInt_L1 : Nat → List Int → List Int → Int → Int → Option (Bool)
 | 0 => fun _ _ _ _ => none
 | n + 1 => slicesEqualInt_B1 (slicesEqualInt_L1 n)
def slicesEqualInt_m (s1_0 : List Int) (s2_1 : List Int) : Option (Bool) :=
 (bif ((s1_0.length : Int) != (s2_1.length : Int)) then
  some false
 else
  slicesEqualInt_L1 FUEL s1_0 s2_1 (s1_0.length : Int) 0)
theorem slicesEqualInt_c {s1_0 : List Int} {s2_1 : List Int} {r : Bool} (hm : slicesEqualInt_m s1_0 s2_1 = some r) : PureC Tryz.prog 108 [.sl (s1_0.flatMap (ci .i64)) s1_0.length false, .sl (s2_1.flatMap (ci .i64)) s2_1.length false] (.v (.bool r)) := by
 refine PureC.of_body Tryz.func108 rfl ?_
 simp only [Tryz.ntmps108, List.length_cons, List.length_nil, Nat.reduceAdd, Nat.reduceSub, empty_eq]
 unfold slicesEqualInt_m at hm
 refine sr (N' := 64) rfl ?_
 refine pA ?_
 refine fs ?_
 refine AWp.seq' ?_
 refine sr (N' := 128) rfl ?_
 iterate 5 refine pA ?_
 refine fs ?_
 refine AWp.condM hm Z1 (fun _ hm => ?_) (fun _ hm => ?_)
 ·
  refine sr (N' := 192) rfl ?_
  refine pA ?_
  refine fs ?_
  refine AWp.ret ?_
  refine retSeq ?_
  cases hm
  exact ret1D (.inr rfl) Tryz.results108 (td Z1 (.v _))
 ·
  refine AWp.skip ?_
  refine normSeq ?_
  refine AWp.seq' ?_
  refine sr (N' := 192) rfl ?_
  iterate 3 refine pA ?_
  refine fs ?_
  refine AWp.block ?_
  refine AWp.loopM (fun m s => ∃ (s1_0 : List Int) (s2_1 : List Int) (t12 : Int) (t13 : Int), s = (⟨26, (fset (fset (fset (fset (fun _ => AV.any) 0 (.sl (s1_0.flatMap (ci .i64)) s1_0.length false)) 1 (.sl (s2_1.flatMap (ci .i64)) s2_1.length false)) 12 (.v (.int .i64 t12))) 13 (.v (.int .i64 t13))), ⟨nofresh, 64⟩⟩ : St) ∧ slicesEqualInt_L1 m s1_0 s2_1 t12 t13 = some r) FUEL ?_ ?_ ?_
  ·
   rintro s ⟨_, _, _, _, _, h⟩
   cases h
  ·
   refine ⟨_, ?_, s1_0, s2_1, (s1_0.length : Int), 0, rfl, hm⟩
   exact le_canon id (wV (wV (wD ((CFi .i64).sl _ _ _) (wD ((CFi .i64).sl _ _ _) wk_none)))) heapWk0
  ·
   rintro n1 s ⟨s1_0, s2_1, t12, t13, rfl, hm⟩
   replace hm : slicesEqualInt_B1 (slicesEqualInt_L1 n1) s1_0 s2_1 t12 t13 = some r := hm
   unfold slicesEqualInt_B1 at hm
   refine sr (N' := 128) rfl ?_
   refine pA ?_
   refine fs ?_
   refine AWp.seq' ?_
   refine AWp.condM hm Z1 (fun _ hm => ?_) (fun _ hm => ?_)
   ·
    refine AWp.skip ?_
    refine normSeq ?_
    refine AWp.seq' ?_
    refine AWp.block ?_
    refine sr (N' := 192) rfl ?_
    iterate 2 refine pA ?_
    refine fs ?_
    refine sd mix (by kernel_rfl) (N' := 256) rfl ?_
    iterate 2 refine pA ?_
    obtain ⟨x2, h1, hm⟩ := bnd hm
    refine pu rfl (ap_idx (CFi .i64) Zd Tryz.underlying112 sz3 Z1 rfl Z1 h1) ?_
    iterate 3 refine pA ?_
    obtain ⟨x4, h3, hm⟩ := bnd hm
    refine pu rfl (ap_idx (CFi .i64) Zd Tryz.underlying112 sz3 Z1 rfl Z1 h3) ?_
    iterate 2 refine pA ?_
    refine fs ?_
    refine AWp.condM hm Z1 (fun _ hm => ?_) (fun _ hm => ?_)
    ·
     refine sr (N' := 320) rfl ?_
     refine pA ?_
     refine fs ?_
     refine AWp.ret ?_
     refine retIn ?_
     refine retSeq ?_
     refine retThen ?_
     refine retIn ?_
     refine retSeq ?_
     cases hm
     exact ret1D (.inr rfl) Tryz.results108 (td Z1 (.v _))
    ·
     refine AWp.skip ?_
     refine normIn ?_
     refine normSeq ?_
     refine AWp.reg 64 (N' := 320) rfl ?_
     iterate 2 refine pA ?_
     refine ARun.fin ?_
     refine normThen ?_
     refine ⟨_, ?_, s1_0, s2_1, t12, (IntKind.i64.wrap (t13 + 1)), rfl, hm⟩
     exact le_canon id (wV (wV (wD ((CFi .i64).sl _ _ _) (wD ((CFi .i64).sl _ _ _) wk_none)))) heapWk0
   ·
    refine AWp.exit ?_
    refine exitSeq ?_
    refine exitThen ?_
    refine exitHere ?_
    refine normSeq ?_
    refine sr (N' := 192) rfl ?_
    refine pA ?_
    refine fs ?_
    refine AWp.ret ?_
    cases hm
    exact ret1D (.inr rfl) Tryz.results108 (td Z1 (.v _))
def auditExact_m (g_0 : GGraph) : Option (Bool) :=
 ((searchRight_m g_0).bind fun r2 =>
 ((gopt (r2 == true) [] (tiersKept_m g_0)).bind fun r4 =>
 ((gopt (r2 == true) [] (auditSo_m g_0)).bind fun r6 =>
 ((gopt (r2 == true) false (slicesEqualInt_m r4 r6)).bind fun r8 =>
 some (r2 && r8)))))
theorem auditExact_c {g_0 : GGraph} {r : Bool} (hm : auditExact_m g_0 = some r) : PureC Tryz.prog 81 [.agg [.v (.int .i64 g_0.Config.N), .v (.int .i64 g_0.Config.L), .v (.int .i64 g_0.Config.R), .sl (g_0.Hashes.flatMap cGHash) g_0.Hashes.length false, .sl (g_0.Edges.flatMap cGEdge) g_0.Edges.length false]] (.v (.bool r)) := by
 refine PureC.of_body Tryz.func81 rfl ?_
 simp only [Tryz.ntmps81, List.length_cons, List.length_nil, Nat.reduceAdd, Nat.reduceSub, empty_eq]
 unfold auditExact_m at hm
 refine sr (N' := 64) rfl ?_
 refine hp (id := 0) rfl rfl (aheap_box Z1 Z5) ?_
 refine pA ?_
 refine fs ?_
 refine sd mix (by kernel_rfl) (N' := 128) rfl ?_
 refine pu rfl (ap_ldv Z1 Z3 Z2) ?_
 obtain ⟨r2, h1, hm⟩ := bnd hm
 refine ARun.callQ (r := .v (.bool r2)) Zd Z1 fb49 (fun H => (cD (.agg _ (CFGGraph.dat _)) .nil)) (searchRight_c h1) ?_
 refine pA ?_
 refine pg rfl rfl Z2 (fun hb => (ap_ldv (Zh hb) Z3 Z2)) ?_
 obtain ⟨r4, h3, hm⟩ := bnd hm
 refine ARun.callQG (r := .sl (r4.flatMap (ci .i64)) r4.length false) Zd rfl Z2 Z1 fb73 (fun hb H => (.cons (td (Zh hb) (.agg _ (CFGGraph.dat _))) .nil)) (fun hb => tiersKept_c (gopt_t h3 hb)) ?_
 refine pg rfl rfl Z2 (fun hb => (ap_ldv (Zh hb) Z3 Z2)) ?_
 obtain ⟨r6, h5, hm⟩ := bnd hm
 refine ARun.callQG (r := .sl (r6.flatMap (ci .i64)) r6.length false) Zd rfl Z2 Z1 fb109 (fun hb H => (.cons (td (Zh hb) (.agg _ (CFGGraph.dat _))) .nil)) (fun hb => auditSo_c (gopt_t h5 hb)) ?_
 obtain ⟨r8, h7, hm⟩ := bnd hm
 refine ARun.callQG (r := .v (.bool r8)) Zd rfl Z2 Z1 fb108 (fun hb H => (.cons (td (Zh hb) ((CFi .i64).sl _ _ _)) (.cons (td (Zh hb) ((CFi .i64).sl _ _ _)) .nil))) (fun hb => slicesEqualInt_c (gopt_t h7 hb)) ?_
 iterate 2 refine pA ?_
 refine fs ?_
 refine AWp.ret ?_
 cases hm
 exact ret1D (.inr rfl) Tryz.results81 (td Z1 (.v _))
def tableVertex_m (n_0 : Int) (v_1 : Int) : Option (Bool) :=
 some ((decide (0 ≤ v_1)) && (decide (v_1 < n_0)))
theorem tableVertex_c {n_0 : Int} {v_1 : Int} {r : Bool} (hm : tableVertex_m n_0 v_1 = some r) : PureC Tryz.prog 135 [.v (.int .i64 n_0), .v (.int .i64 v_1)] (.v (.bool r)) := by
 refine PureC.of_body Tryz.func135 rfl ?_
 simp only [Tryz.ntmps135, List.length_cons, List.length_nil, Nat.reduceAdd, Nat.reduceSub, empty_eq]
 unfold tableVertex_m at hm
 refine sr (N' := 64) rfl ?_
 refine pA ?_
 refine fs ?_
 refine sr (N' := 128) rfl ?_
 iterate 8 first | refine pA ?_ | refine pB ?_
 refine fs ?_
 refine AWp.ret ?_
 cases hm
 exact ret1D (.inr rfl) Tryz.results135 (td Z1 (.v _))
def tableNear_J1 (rec1 : Int → List Int → List GEdge → Int → Int → Option ((List Int))) (v_2 : Int) (near_7 : List Int) (t20 : List GEdge) (t21 : Int) (t22 : Int) : Option ((List Int)) :=
 rec1 v_2 near_7 t20 t21 (IntKind.i64.wrap (t22 + 1))
def tableNear_B1 (rec1 : Int → List Int → List GEdge → Int → Int → Option ((List Int))) (v_2 : Int) (near_7 : List Int) (t20 : List GEdge) (t21 : Int) (t22 : Int) : Option ((List Int)) :=
 (bif (decide (t22 < t21)) then
  ((idx t20 t22).bind fun x6 =>
  (bif (v_2 == x6.U) then
   ((app near_7 [x6.V]).bind fun l8 =>
   tableNear_J1 rec1 v_2 l8 t20 t21 t22)
  else
   (bif (v_2 == x6.V) then
    ((app near_7 [x6.U]).bind fun l10 =>
    tableNear_J1 rec1 v_2 l10 t20 t21 t22)
   else
    tableNear_J1 rec1 v_2 near_7 t20 t21 t22)))
 else
  some near_7)
def tableNear_L1 : Nat → Int → List Int → List GEdge → Int → Int → Option ((List Int))
 | 0 => fun _ _ _ _ _ => none
 | n + 1 => tableNear_B1 (tableNear_L1 n)
def tableNear_m (n_0 : Int) (l_1 : List GEdge) (v_2 : Int) : Option ((List Int)) :=
 ((tableRight_m n_0 l_1).bind fun r2 =>
 ((gopt ((!r2) == false) false (tableVertex_m n_0 v_2)).bind fun r4 =>
 (bif ((!r2) || (!r4)) then
  some []
 else
  tableNear_L1 FUEL v_2 [] l_1 (l_1.length : Int) 0)))
theorem tableNear_c {n_0 : Int} {l_1 : List GEdge} {v_2 : Int} {r : (List Int)} (hm : tableNear_m n_0 l_1 v_2 = some r) : PureC Tryz.prog 101 [.v (.int .i64 n_0), .sl (l_1.flatMap cGEdge) l_1.length false, .v (.int .i64 v_2)] (.sl (r.flatMap (ci .i64)) r.length false) := by
 refine PureC.of_body Tryz.func101 rfl ?_
 simp only [Tryz.ntmps101, List.length_cons, List.length_nil, Nat.reduceAdd, Nat.reduceSub, empty_eq]
 unfold tableNear_m at hm
 refine sr (N' := 64) rfl ?_
 refine pA ?_
 refine fs ?_
 refine AWp.seq' ?_
 refine sr (N' := 128) rfl ?_
 iterate 2 refine pA ?_
 obtain ⟨r2, h1, hm⟩ := bnd hm
 refine ARun.callQ (r := .v (.bool r2)) Zd Z1 fb89 (fun H => (cV (cD (CFGEdge.sl _ _ _) .nil))) (tableRight_c h1) ?_
 iterate 4 first | refine pA ?_ | refine pB ?_
 obtain ⟨r4, h3, hm⟩ := bnd hm
 refine ARun.callQG (r := .v (.bool r4)) Zd rfl Z2 Z1 fb135 (fun hb H => (.cons (td (Zh hb) (.v _)) (.cons (td (Zh hb) (.v _)) .nil))) (fun hb => tableVertex_c (gopt_t h3 hb)) ?_
 iterate 2 first | refine pA ?_ | refine pB ?_
 refine fs ?_
 refine AWp.condM hm Z1 (fun _ hm => ?_) (fun _ hm => ?_)
 ·
  refine sr (N' := 192) rfl ?_
  refine pA ?_
  refine fs ?_
  refine AWp.ret ?_
  refine retSeq ?_
  cases hm
  exact ret1D (.inr rfl) Tryz.results101 (tdn Z1)
 ·
  refine AWp.skip ?_
  refine normSeq ?_
  refine sr (N' := 192) rfl ?_
  refine pA ?_
  refine fs ?_
  refine AWp.seq' ?_
  refine sr (N' := 256) rfl ?_
  iterate 3 refine pA ?_
  refine fs ?_
  refine AWp.block ?_
  refine AWp.loopM (fun m s => ∃ (v_2 : Int) (near_7 : List Int) (t20 : List GEdge) (t21 : Int) (t22 : Int), s = (⟨47, (fset (fset (fset (fset (fset (fun _ => AV.any) 2 (.v (.int .i64 v_2))) 7 (.own 1 0 near_7.length)) 20 (.sl (t20.flatMap cGEdge) t20.length false)) 21 (.v (.int .i64 t21))) 22 (.v (.int .i64 t22))), ⟨(upd nofresh 1 (.cells 1 (near_7.flatMap (ci .i64)) 0)), 64⟩⟩ : St) ∧ tableNear_L1 m v_2 near_7 t20 t21 t22 = some r) FUEL ?_ ?_ ?_
  ·
   rintro s ⟨_, _, _, _, _, _, h⟩
   cases h
  ·
   refine ⟨_, ?_, v_2, [], l_1, (l_1.length : Int), 0, rfl, hm⟩
   refine St.Le.trans (le_nil 7 900007 1 Z1 Z5) ?_
   exact le_canon (fun j => bif j == 1 then 900007 else 0) (wV (wV (wD (CFGEdge.sl _ _ _) (wO (wV wk_none))))) (hW (eU (CFi .i64) entWk_none))
  ·
   rintro n1 s ⟨v_2, near_7, t20, t21, t22, rfl, hm⟩
   replace hm : tableNear_B1 (tableNear_L1 n1) v_2 near_7 t20 t21 t22 = some r := hm
   unfold tableNear_B1 at hm
   refine sr (N' := 128) rfl ?_
   refine pA ?_
   refine fs ?_
   refine AWp.seq' ?_
   refine AWp.condM hm Z1 (fun _ hm => ?_) (fun _ hm => ?_)
   ·
    refine AWp.skip ?_
    refine normSeq ?_
    refine AWp.seqJ (fun s => ∃ (v_2 : Int) (near_7 : List Int) (t20 : List GEdge) (t21 : Int) (t22 : Int), s = (⟨47, (fset (fset (fset (fset (fset (fun _ => AV.any) 2 (.v (.int .i64 v_2))) 7 (.own 1 0 near_7.length)) 20 (.sl (t20.flatMap cGEdge) t20.length false)) 21 (.v (.int .i64 t21))) 22 (.v (.int .i64 t22))), ⟨(upd nofresh 1 (.cells 1 (near_7.flatMap (ci .i64)) 0)), 64⟩⟩ : St) ∧ tableNear_J1 (tableNear_L1 n1) v_2 near_7 t20 t21 t22 = some r) ?_ ?_
    ·
     refine AWp.block ?_
     refine sr (N' := 192) rfl ?_
     obtain ⟨x6, h5, hm⟩ := bnd hm
     refine pu rfl (ap_idx CFGEdge Zd Tryz.underlying28 sz102 Z1 rfl Z1 h5) ?_
     refine pA ?_
     refine hp (id := 130) rfl rfl (aheap_alloc' zc102 Z5) ?_
     refine ARun.heap0 (id := 131) rfl (ah_var (ys := [.v (.int .i64 x6.U), .v (.int .i64 x6.V), .v (.int .i64 x6.Tier)]) sz102 Z1 Z1 Z3 rfl (Nat.le_of_ble_eq_true rfl) Z9 rfl) ?_
     refine fs ?_
     refine sr (N' := 256) rfl ?_
     refine pA ?_
     refine fs ?_
     refine AWp.block ?_
     refine sr (N' := 320) rfl ?_
     refine pA ?_
     refine pu rfl (ap_ldv Z1 Z3 Z4) ?_
     iterate 2 refine pA ?_
     refine fs ?_
     refine AWp.condM hm Z1 (fun _ hm => ?_) (fun _ hm => ?_)
     ·
      refine AWp.reg 64 (N' := 384) rfl ?_
      iterate 2 refine pA ?_
      refine pu rfl (ap_ldv Z1 Z3 Z4) ?_
      refine hp (id := 323) rfl rfl (ah_list (CFi .i64) (l := [x6.V]) Tryz.underlying112 sz3 zc3 Z5 Zd Zd Zd (by simp only [go_sem, Nat.reduceBEq]; try rfl) (by kernel_rfl)) ?_
      obtain ⟨l8, h7, hm⟩ := bnd hm
      refine hp (id := 324) rfl rfl (ah_app (CFi .i64) Tryz.underlying112 Tryz.underlying112 rfl in3 ts3 (by rw [tb3]; decide) (by rw [tb3]; decide) tz3 Zd Zd Z1 Z3 Z6 (as_own (CFi .i64) Z1 Z3 Z6) rfl Z5 h7) ?_
      refine pA ?_
      refine ARun.fin ?_
      refine normIn ?_
      refine normIn ?_
      refine normJ ?_
      refine ⟨_, ?_, v_2, l8, t20, t21, t22, rfl, hm⟩
      exact le_canon (fun j => bif j == 1 then 324 else 0) (wV (wV (wD (CFGEdge.sl _ _ _) (wO (wV wk_none))))) (hW (eU (CFi .i64) entWk_none))
     ·
      refine sr (N' := 384) rfl ?_
      refine pA ?_
      refine pu rfl (ap_ldv Z1 Z3 Z4) ?_
      iterate 2 refine pA ?_
      refine fs ?_
      refine AWp.condM hm Z1 (fun _ hm => ?_) (fun _ hm => ?_)
      ·
       refine AWp.reg 64 (N' := 448) rfl ?_
       iterate 2 refine pA ?_
       refine pu rfl (ap_ldv Z1 Z3 Z4) ?_
       refine hp (id := 387) rfl rfl (ah_list (CFi .i64) (l := [x6.U]) Tryz.underlying112 sz3 zc3 Z5 Zd Zd Zd (by simp only [go_sem, Nat.reduceBEq]; try rfl) (by kernel_rfl)) ?_
       obtain ⟨l10, h9, hm⟩ := bnd hm
       refine hp (id := 388) rfl rfl (ah_app (CFi .i64) Tryz.underlying112 Tryz.underlying112 rfl in3 ts3 (by rw [tb3]; decide) (by rw [tb3]; decide) tz3 Zd Zd Z1 Z3 Z6 (as_own (CFi .i64) Z1 Z3 Z6) rfl Z5 h9) ?_
       refine pA ?_
       refine ARun.fin ?_
       refine normIn ?_
       refine normIn ?_
       refine normJ ?_
       refine ⟨_, ?_, v_2, l10, t20, t21, t22, rfl, hm⟩
       exact le_canon (fun j => bif j == 1 then 388 else 0) (wV (wV (wD (CFGEdge.sl _ _ _) (wO (wV wk_none))))) (hW (eU (CFi .i64) entWk_none))
      ·
       refine AWp.skip ?_
       refine normIn ?_
       refine normIn ?_
       refine normJ ?_
       refine ⟨_, ?_, v_2, near_7, t20, t21, t22, rfl, hm⟩
       exact le_canon (fun j => bif j == 1 then 1 else 0) (wV (wV (wD (CFGEdge.sl _ _ _) (wO (wV wk_none))))) (hW (eU (CFi .i64) entWk_none))
    ·
     rintro s ⟨v_2, near_7, t20, t21, t22, rfl, hm⟩
     unfold tableNear_J1 at hm
     refine AWp.reg 64 (N' := 128) rfl ?_
     iterate 2 refine pA ?_
     refine ARun.fin ?_
     refine normThen ?_
     refine ⟨_, ?_, v_2, near_7, t20, t21, (IntKind.i64.wrap (t22 + 1)), rfl, hm⟩
     exact le_canon (fun j => bif j == 1 then 1 else 0) (wV (wV (wD (CFGEdge.sl _ _ _) (wO (wV wk_none))))) (hW (eU (CFi .i64) entWk_none))
   ·
    refine AWp.exit ?_
    refine exitSeq ?_
    refine exitThen ?_
    refine exitHere ?_
    refine normSeq ?_
    refine sr (N' := 192) rfl ?_
    iterate 2 refine pA ?_
    refine fs ?_
    refine AWp.ret ?_
    cases hm
    exact ret1D (.inr rfl) Tryz.results101 (tdo (CFi .i64) Z1 Z3 Z6)
def tiersFits_m (g_0 : GGraph) (u_1 : Int) (v_2 : Int) : Option (Bool) :=
 ((searchRight_m g_0).bind fun r2 =>
 some ((((r2 && (decide (0 ≤ u_1))) && (decide (u_1 < g_0.Config.N))) && (decide (0 ≤ v_2))) && (decide (v_2 < g_0.Config.N))))
theorem tiersFits_c {g_0 : GGraph} {u_1 : Int} {v_2 : Int} {r : Bool} (hm : tiersFits_m g_0 u_1 v_2 = some r) : PureC Tryz.prog 115 [.agg [.v (.int .i64 g_0.Config.N), .v (.int .i64 g_0.Config.L), .v (.int .i64 g_0.Config.R), .sl (g_0.Hashes.flatMap cGHash) g_0.Hashes.length false, .sl (g_0.Edges.flatMap cGEdge) g_0.Edges.length false], .v (.int .i64 u_1), .v (.int .i64 v_2)] (.v (.bool r)) := by
 refine PureC.of_body Tryz.func115 rfl ?_
 simp only [Tryz.ntmps115, List.length_cons, List.length_nil, Nat.reduceAdd, Nat.reduceSub, empty_eq]
 unfold tiersFits_m at hm
 refine sr (N' := 64) rfl ?_
 refine hp (id := 0) rfl rfl (aheap_box Z1 Z5) ?_
 refine pA ?_
 refine fs ?_
 refine sr (N' := 128) rfl ?_
 iterate 2 refine pA ?_
 refine pu rfl (ap_ldv Z1 Z3 Z4) ?_
 refine pA ?_
 refine fs ?_
 refine sr (N' := 192) rfl ?_
 refine pu rfl (ap_ldv Z1 Z3 Z2) ?_
 obtain ⟨r2, h1, hm⟩ := bnd hm
 refine ARun.callQ (r := .v (.bool r2)) Zd Z1 fb49 (fun H => (cD (.agg _ (CFGGraph.dat _)) .nil)) (searchRight_c h1) ?_
 iterate 19 first | refine pA ?_ | refine pB ?_
 refine fs ?_
 refine AWp.ret ?_
 cases hm
 exact ret1D (.inr rfl) Tryz.results115 (td Z1 (.v _))
def slicesGrowEdge_J2 (s_0 : List GEdge) : Option ((List GEdge)) :=
 some s_0
def slicesGrowEdge_J1 (n_1 : Int) : Option ((List GEdge)) :=
 (bif (decide (0 < (IntKind.i64.wrap (n_1 - (IntKind.i64.wrap (((0 : Nat) : Int) - ((0 : Nat) : Int))))))) then
  ((chk (((0 : Nat) : Int) == 0)).bind fun _ =>
  ((chk (decide (0 < (IntKind.i64.wrap (n_1 - (IntKind.i64.wrap (((0 : Nat) : Int) - ((0 : Nat) : Int)))))) && decide ((IntKind.i64.wrap (n_1 - (IntKind.i64.wrap (((0 : Nat) : Int) - ((0 : Nat) : Int))))) ≤ 4294967296))).bind fun _ =>
  ((chk (((0 : Nat) : Int) == 0)).bind fun _ =>
  slicesGrowEdge_J2 [])))
 else
  slicesGrowEdge_J2 [])
def slicesGrowEdge_m (n_1 : Int) : Option ((List GEdge)) :=
 (bif (decide (n_1 < 0)) then
  none
 else
  slicesGrowEdge_J1 n_1)
theorem slicesGrowEdge_f {n_1 : Int} {r : (List GEdge)} (hm : slicesGrowEdge_m n_1 = some r) : FreshC Tryz.prog 167 [.v (.slice none 0 0), .v (.int .i64 n_1)] 3 (r.flatMap cGEdge) r.length := by
 refine FreshC.of_body Tryz.func167 rfl (CFGEdge.fmdat r) ?_
 simp only [Tryz.ntmps167, List.length_cons, List.length_nil, Nat.reduceAdd, Nat.reduceSub, empty_eq]
 unfold slicesGrowEdge_m at hm
 refine sr (N' := 64) rfl ?_
 refine pA ?_
 refine fs ?_
 refine AWp.seqJ (fun s => ∃ (n_1 : Int), s = (⟨27, (fset (fset (fun _ => AV.any) 0 (.v (.slice none 0 0))) 1 (.v (.int .i64 n_1))), ⟨nofresh, 64⟩⟩ : St) ∧ slicesGrowEdge_J1 n_1 = some r) ?_ ?_
 ·
  refine sr (N' := 128) rfl ?_
  iterate 2 refine pA ?_
  refine fs ?_
  refine AWp.condM hm Z1 (fun _ hm => ?_) (fun _ hm => ?_)
  ·
   cases hm
  ·
   refine AWp.skip ?_
   refine normJ ?_
   refine ⟨_, ?_, n_1, rfl, hm⟩
   exact le_canon id (wV (wV wk_none)) heapWk0
 ·
  rintro s ⟨n_1, rfl, hm⟩
  unfold slicesGrowEdge_J1 at hm
  refine AWp.seqJ (fun s => ∃ (s_0 : List GEdge), s = (⟨27, (fset (fun _ => AV.any) 0 (.own 1 0 s_0.length)), ⟨(upd nofresh 1 (.cells 3 (s_0.flatMap cGEdge) 0)), 64⟩⟩ : St) ∧ slicesGrowEdge_J2 s_0 = some r) ?_ ?_
  ·
   refine sr (N' := 128) rfl ?_
   iterate 2 refine pA ?_
   refine pu rfl (ap_capn Tryz.underlying28 Z1) ?_
   iterate 5 refine pA ?_
   refine fs ?_
   refine sr (N' := 192) rfl ?_
   iterate 2 refine pA ?_
   refine fs ?_
   refine AWp.condM hm Z1 (fun _ hm => ?_) (fun _ hm => ?_)
   ·
    refine AWp.reg 64 (N' := 256) rfl ?_
    iterate 2 refine pA ?_
    refine pu rfl (ap_capn Tryz.underlying28 Z1) ?_
    obtain ⟨_, h3, hm⟩ := bnd hm
    refine pu rfl (ap_slnil Tryz.underlying28 sz102 Z1 Z1 (eq_of_beq (chk_t h3))) ?_
    refine pA ?_
    obtain ⟨_, h4, hm⟩ := bnd hm
    refine hp (id := 197) rfl rfl (ah_appn Tryz.underlying28 Tryz.underlying3 rfl in102 ts102 (by rw [tb102]; decide) (by rw [tb102]; decide) tz102 Zd Zd Z1 Z1 Z5 h4) ?_
    iterate 2 refine pA ?_
    obtain ⟨_, h8, hm⟩ := bnd hm
    refine pu rfl (ap_slo0 Tryz.underlying28 sz102 Z1 Z3 Z1 (eq_of_beq (chk_t h8))) ?_
    refine pA ?_
    refine ARun.fin ?_
    refine normJ ?_
    refine ⟨_, ?_, [], rfl, hm⟩
    refine St.Le.trans (le_slc0 197 Z3) ?_
    exact le_canon (fun j => bif j == 1 then 197 else 0) (wO wk_none) (hW (eU CFGEdge entWk_none))
   ·
    refine AWp.skip ?_
    refine normJ ?_
    refine ⟨_, ?_, [], rfl, hm⟩
    refine St.Le.trans (le_nil 0 900000 3 Z1 Z5) ?_
    exact le_canon (fun j => bif j == 1 then 900000 else 0) (wO wk_none) (hW (eU CFGEdge entWk_none))
  ·
   rintro s ⟨s_0, rfl, hm⟩
   unfold slicesGrowEdge_J2 at hm
   refine sr (N' := 128) rfl ?_
   iterate 2 refine pA ?_
   refine fs ?_
   refine AWp.ret ?_
   cases hm
   exact retF (.inr rfl) Tryz.results167 Z1 Z3 Z6
def slicesConcatEdge_J1 (rec1 : List (List GEdge) → Int → List (List GEdge) → Int → Int → Option ((List GEdge))) (slices_0 : List (List GEdge)) (size_3 : Int) (t9 : List (List GEdge)) (t10 : Int) (t11 : Int) : Option ((List GEdge)) :=
 rec1 slices_0 size_3 t9 t10 (IntKind.i64.wrap (t11 + 1))
def slicesConcatEdge_B2 (rec2 : List GEdge → List (List GEdge) → Int → Int → Option ((List GEdge))) (newslice_6 : List GEdge) (t25 : List (List GEdge)) (t26 : Int) (t27 : Int) : Option ((List GEdge)) :=
 (bif (decide (t27 < t26)) then
  ((idx t25 t27).bind fun x6 =>
  ((app newslice_6 x6).bind fun l8 =>
  rec2 l8 t25 t26 (IntKind.i64.wrap (t27 + 1))))
 else
  some newslice_6)
def slicesConcatEdge_L2 : Nat → List GEdge → List (List GEdge) → Int → Int → Option ((List GEdge))
 | 0 => fun _ _ _ _ => none
 | n + 1 => slicesConcatEdge_B2 (slicesConcatEdge_L2 n)
def slicesConcatEdge_B1 (rec1 : List (List GEdge) → Int → List (List GEdge) → Int → Int → Option ((List GEdge))) (slices_0 : List (List GEdge)) (size_3 : Int) (t9 : List (List GEdge)) (t10 : Int) (t11 : Int) : Option ((List GEdge)) :=
 (bif (decide (t11 < t10)) then
  ((idx t9 t11).bind fun x2 =>
  (bif (decide ((IntKind.i64.wrap (size_3 + (x2.length : Int))) < 0)) then
   none
  else
   slicesConcatEdge_J1 rec1 slices_0 (IntKind.i64.wrap (size_3 + (x2.length : Int))) t9 t10 t11))
 else
  ((slicesGrowEdge_m size_3).bind fun r4 =>
  slicesConcatEdge_L2 FUEL r4 slices_0 (slices_0.length : Int) 0))
def slicesConcatEdge_L1 : Nat → List (List GEdge) → Int → List (List GEdge) → Int → Int → Option ((List GEdge))
 | 0 => fun _ _ _ _ _ => none
 | n + 1 => slicesConcatEdge_B1 (slicesConcatEdge_L1 n)
def slicesConcatEdge_m (slices_0 : List (List GEdge)) : Option ((List GEdge)) :=
 slicesConcatEdge_L1 FUEL slices_0 0 slices_0 (slices_0.length : Int) 0
theorem slicesConcatEdge_c {slices_0 : List (List GEdge)} {r : (List GEdge)} (hm : slicesConcatEdge_m slices_0 = some r) : PureC Tryz.prog 140 [.sl (slices_0.flatMap (csl cGEdge)) slices_0.length false] (.sl (r.flatMap cGEdge) r.length false) := by
 refine PureC.of_body Tryz.func140 rfl ?_
 simp only [Tryz.ntmps140, List.length_cons, List.length_nil, Nat.reduceAdd, Nat.reduceSub, empty_eq]
 unfold slicesConcatEdge_m at hm
 refine sr (N' := 64) rfl ?_
 refine pA ?_
 refine fs ?_
 refine sr (N' := 128) rfl ?_
 refine pA ?_
 refine fs ?_
 refine AWp.seq' ?_
 refine sr (N' := 192) rfl ?_
 iterate 3 refine pA ?_
 refine fs ?_
 refine AWp.block ?_
 refine AWp.loopM (fun m s => ∃ (slices_0 : List (List GEdge)) (size_3 : Int) (t9 : List (List GEdge)) (t10 : Int) (t11 : Int), s = (⟨36, (fset (fset (fset (fset (fset (fun _ => AV.any) 0 (.sl (slices_0.flatMap (csl cGEdge)) slices_0.length false)) 3 (.v (.int .i64 size_3))) 9 (.sl (t9.flatMap (csl cGEdge)) t9.length false)) 10 (.v (.int .i64 t10))) 11 (.v (.int .i64 t11))), ⟨nofresh, 64⟩⟩ : St) ∧ slicesConcatEdge_L1 m slices_0 size_3 t9 t10 t11 = some r) FUEL ?_ ?_ ?_
 ·
  rintro s ⟨_, _, _, _, _, _, h⟩
  cases h
 ·
  refine ⟨_, ?_, slices_0, 0, slices_0, (slices_0.length : Int), 0, rfl, hm⟩
  exact le_canon id (wV (wV (wD ((CFl CFGEdge).sl _ _ _) (wV (wD ((CFl CFGEdge).sl _ _ _) wk_none))))) heapWk0
 ·
  rintro n1 s ⟨slices_0, size_3, t9, t10, t11, rfl, hm⟩
  replace hm : slicesConcatEdge_B1 (slicesConcatEdge_L1 n1) slices_0 size_3 t9 t10 t11 = some r := hm
  unfold slicesConcatEdge_B1 at hm
  refine sr (N' := 128) rfl ?_
  refine pA ?_
  refine fs ?_
  refine AWp.seq' ?_
  refine AWp.condM hm Z1 (fun _ hm => ?_) (fun _ hm => ?_)
  ·
   refine AWp.skip ?_
   refine normSeq ?_
   refine AWp.seqJ (fun s => ∃ (slices_0 : List (List GEdge)) (size_3 : Int) (t9 : List (List GEdge)) (t10 : Int) (t11 : Int), s = (⟨36, (fset (fset (fset (fset (fset (fun _ => AV.any) 0 (.sl (slices_0.flatMap (csl cGEdge)) slices_0.length false)) 3 (.v (.int .i64 size_3))) 9 (.sl (t9.flatMap (csl cGEdge)) t9.length false)) 10 (.v (.int .i64 t10))) 11 (.v (.int .i64 t11))), ⟨nofresh, 64⟩⟩ : St) ∧ slicesConcatEdge_J1 (slicesConcatEdge_L1 n1) slices_0 size_3 t9 t10 t11 = some r) ?_ ?_
   ·
    refine AWp.block ?_
    refine sr (N' := 192) rfl ?_
    obtain ⟨x2, h1, hm⟩ := bnd hm
    refine pu rfl (ap_idx (CFl CFGEdge) Zd Tryz.underlying225 sz28 Z1 rfl Z1 h1) ?_
    iterate 2 refine pA ?_
    refine fs ?_
    refine sr (N' := 256) rfl ?_
    iterate 5 refine pA ?_
    refine fs ?_
    refine sr (N' := 320) rfl ?_
    iterate 2 refine pA ?_
    refine fs ?_
    refine AWp.condM hm Z1 (fun _ hm => ?_) (fun _ hm => ?_)
    ·
     cases hm
    ·
     refine AWp.skip ?_
     refine normIn ?_
     refine normJ ?_
     refine ⟨_, ?_, slices_0, (IntKind.i64.wrap (size_3 + (x2.length : Int))), t9, t10, t11, rfl, hm⟩
     exact le_canon id (wV (wV (wD ((CFl CFGEdge).sl _ _ _) (wV (wD ((CFl CFGEdge).sl _ _ _) wk_none))))) heapWk0
   ·
    rintro s ⟨slices_0, size_3, t9, t10, t11, rfl, hm⟩
    unfold slicesConcatEdge_J1 at hm
    refine AWp.reg 64 (N' := 128) rfl ?_
    iterate 2 refine pA ?_
    refine ARun.fin ?_
    refine normThen ?_
    refine ⟨_, ?_, slices_0, size_3, t9, t10, (IntKind.i64.wrap (t11 + 1)), rfl, hm⟩
    exact le_canon id (wV (wV (wD ((CFl CFGEdge).sl _ _ _) (wV (wD ((CFl CFGEdge).sl _ _ _) wk_none))))) heapWk0
  ·
   refine AWp.exit ?_
   refine exitSeq ?_
   refine exitThen ?_
   refine exitHere ?_
   refine normSeq ?_
   refine sr (N' := 192) rfl ?_
   refine pA ?_
   obtain ⟨r4, h3, hm⟩ := bnd hm
   refine ARun.callF (id := 129) Zd Z1 fb167 (fun H => (cV (cV .nil))) CFGEdge Z5 (slicesGrowEdge_f h3) ?_
   refine pA ?_
   refine fs ?_
   refine AWp.seq' ?_
   refine sr (N' := 256) rfl ?_
   iterate 3 refine pA ?_
   refine fs ?_
   refine AWp.block ?_
   refine AWp.loopM (fun m s => ∃ (newslice_6 : List GEdge) (t25 : List (List GEdge)) (t26 : Int) (t27 : Int), s = (⟨36, (fset (fset (fset (fset (fun _ => AV.any) 6 (.own 1 0 newslice_6.length)) 25 (.sl (t25.flatMap (csl cGEdge)) t25.length false)) 26 (.v (.int .i64 t26))) 27 (.v (.int .i64 t27))), ⟨(upd nofresh 1 (.cells 3 (newslice_6.flatMap cGEdge) 0)), 64⟩⟩ : St) ∧ slicesConcatEdge_L2 m newslice_6 t25 t26 t27 = some r) FUEL ?_ ?_ ?_
   ·
    rintro s ⟨_, _, _, _, _, h⟩
    cases h
   ·
    refine ⟨_, ?_, r4, slices_0, (slices_0.length : Int), 0, rfl, hm⟩
    exact le_canon (fun j => bif j == 1 then 129 else 0) (wV (wV (wD ((CFl CFGEdge).sl _ _ _) (wO wk_none)))) (hW (eU CFGEdge entWk_none))
   ·
    rintro n2 s ⟨newslice_6, t25, t26, t27, rfl, hm⟩
    replace hm : slicesConcatEdge_B2 (slicesConcatEdge_L2 n2) newslice_6 t25 t26 t27 = some r := hm
    unfold slicesConcatEdge_B2 at hm
    refine sr (N' := 128) rfl ?_
    refine pA ?_
    refine fs ?_
    refine AWp.seq' ?_
    refine AWp.condM hm Z1 (fun _ hm => ?_) (fun _ hm => ?_)
    ·
     refine AWp.skip ?_
     refine normSeq ?_
     refine AWp.seq' ?_
     refine AWp.block ?_
     refine sr (N' := 192) rfl ?_
     obtain ⟨x6, h5, hm⟩ := bnd hm
     refine pu rfl (ap_idx (CFl CFGEdge) Zd Tryz.underlying225 sz28 Z1 rfl Z1 h5) ?_
     iterate 2 refine pA ?_
     refine fs ?_
     refine AWp.reg 64 (N' := 256) rfl ?_
     iterate 2 refine pA ?_
     obtain ⟨l8, h7, hm⟩ := bnd hm
     refine hp (id := 194) rfl rfl (ah_app CFGEdge Tryz.underlying28 Tryz.underlying28 rfl in102 ts102 (by rw [tb102]; decide) (by rw [tb102]; decide) tz102 Zd Zd Z1 Z3 Z6 (as_sl CFGEdge Z1 rfl) rfl Z5 h7) ?_
     refine pA ?_
     refine ARun.fin ?_
     refine normIn ?_
     refine normSeq ?_
     refine AWp.reg 64 (N' := 320) rfl ?_
     iterate 2 refine pA ?_
     refine ARun.fin ?_
     refine normThen ?_
     refine ⟨_, ?_, l8, t25, t26, (IntKind.i64.wrap (t27 + 1)), rfl, hm⟩
     exact le_canon (fun j => bif j == 1 then 194 else 0) (wV (wV (wD ((CFl CFGEdge).sl _ _ _) (wO wk_none)))) (hW (eU CFGEdge entWk_none))
    ·
     refine AWp.exit ?_
     refine exitSeq ?_
     refine exitThen ?_
     refine exitHere ?_
     refine normSeq ?_
     refine sr (N' := 192) rfl ?_
     iterate 2 refine pA ?_
     refine fs ?_
     refine AWp.ret ?_
     cases hm
     exact ret1D (.inr rfl) Tryz.results140 (tdo CFGEdge Z1 Z3 Z6)
def tableAdd_B1 (rec1 : List GEdge → GEdge → Int → Option ((List GEdge) × Int)) (l_1 : List GEdge) (added_12 : GEdge) (place_13 : Int) : Option ((List GEdge) × Int) :=
 ((gopt ((decide (place_13 < (l_1.length : Int))) == true) (GEdge.mk 0 0 0) (idx l_1 place_13)).bind fun x11 =>
 ((gopt ((decide (place_13 < (l_1.length : Int))) == true) false (nameLess_m x11 added_12)).bind fun r13 =>
 (bif ((decide (place_13 < (l_1.length : Int))) && r13) then
  rec1 l_1 added_12 (IntKind.i64.wrap (place_13 + 1))
 else
  ((slc l_1 0 place_13).bind fun l15 =>
  ((slc l_1 place_13 (l_1.length : Int)).bind fun l17 =>
  ((slicesConcatEdge_m [l15, [added_12], l17]).bind fun r19 =>
  some (r19, 0)))))))
def tableAdd_L1 : Nat → List GEdge → GEdge → Int → Option ((List GEdge) × Int)
 | 0 => fun _ _ _ => none
 | n + 1 => tableAdd_B1 (tableAdd_L1 n)
def tableAdd_m (n_0 : Int) (l_1 : List GEdge) (u_2 : Int) (v_3 : Int) : Option ((List GEdge) × Int) :=
 ((tableRight_m n_0 l_1).bind fun r2 =>
 ((gopt ((!r2) == false) false (tableVertex_m n_0 u_2)).bind fun r4 =>
 ((gopt (((!r2) || (!r4)) == false) false (tableVertex_m n_0 v_3)).bind fun r6 =>
 (bif (((!r2) || (!r4)) || (!r6)) then
  some (l_1, 1)
 else
  (bif (u_2 == v_3) then
   some (l_1, 8)
  else
   ((nameFind_m l_1 u_2 v_3).bind fun ⟨r8, r9⟩ =>
   (bif r9 then
    some (l_1, 4)
   else
    tableAdd_L1 FUEL l_1 (GEdge.mk (if v_3 < u_2 then v_3 else u_2) (if u_2 < v_3 then v_3 else u_2) 0) 0)))))))
theorem tableAdd_c {n_0 : Int} {l_1 : List GEdge} {u_2 : Int} {v_3 : Int} {r : (List GEdge) × Int} (hm : tableAdd_m n_0 l_1 u_2 v_3 = some r) : PureC Tryz.prog 116 [.v (.int .i64 n_0), .sl (l_1.flatMap cGEdge) l_1.length false, .v (.int .i64 u_2), .v (.int .i64 v_3)] (.tup [.sl (r.1.flatMap cGEdge) r.1.length false, .v (.int .i64 r.2)]) := by
 refine PureC.of_body Tryz.func116 rfl ?_
 simp only [Tryz.ntmps116, List.length_cons, List.length_nil, Nat.reduceAdd, Nat.reduceSub, empty_eq]
 unfold tableAdd_m at hm
 refine sr (N' := 64) rfl ?_
 iterate 2 refine pA ?_
 refine fs ?_
 refine AWp.seq' ?_
 refine sr (N' := 128) rfl ?_
 iterate 2 refine pA ?_
 obtain ⟨r2, h1, hm⟩ := bnd hm
 refine ARun.callQ (r := .v (.bool r2)) Zd Z1 fb89 (fun H => (cV (cD (CFGEdge.sl _ _ _) .nil))) (tableRight_c h1) ?_
 iterate 4 first | refine pA ?_ | refine pB ?_
 obtain ⟨r4, h3, hm⟩ := bnd hm
 refine ARun.callQG (r := .v (.bool r4)) Zd rfl Z2 Z1 fb135 (fun hb H => (.cons (td (Zh hb) (.v _)) (.cons (td (Zh hb) (.v _)) .nil))) (fun hb => tableVertex_c (gopt_t h3 hb)) ?_
 iterate 5 first | refine pA ?_ | refine pB ?_
 obtain ⟨r6, h5, hm⟩ := bnd hm
 refine ARun.callQG (r := .v (.bool r6)) Zd rfl Z2 Z1 fb135 (fun hb H => (.cons (td (Zh hb) (.v _)) (.cons (td (Zh hb) (.v _)) .nil))) (fun hb => tableVertex_c (gopt_t h5 hb)) ?_
 iterate 2 first | refine pA ?_ | refine pB ?_
 refine fs ?_
 refine AWp.condM hm Z1 (fun _ hm => ?_) (fun _ hm => ?_)
 ·
  refine sr (N' := 192) rfl ?_
  iterate 3 refine pA ?_
  refine fs ?_
  refine AWp.ret ?_
  refine retSeq ?_
  cases hm
  exact ret2D (.inr rfl) Tryz.results116 (td Z1 (CFGEdge.sl _ _ _)) (td Z1 (.v _))
 ·
  refine AWp.skip ?_
  refine normSeq ?_
  refine AWp.seq' ?_
  refine sr (N' := 192) rfl ?_
  iterate 3 refine pA ?_
  refine fs ?_
  refine AWp.condM hm Z1 (fun _ hm => ?_) (fun _ hm => ?_)
  ·
   refine sr (N' := 256) rfl ?_
   iterate 3 refine pA ?_
   refine fs ?_
   refine AWp.ret ?_
   refine retSeq ?_
   cases hm
   exact ret2D (.inr rfl) Tryz.results116 (td Z1 (CFGEdge.sl _ _ _)) (td Z1 (.v _))
  ·
   refine AWp.skip ?_
   refine normSeq ?_
   refine AWp.seq' ?_
   refine sr (N' := 256) rfl ?_
   iterate 3 refine pA ?_
   obtain ⟨⟨r8, r9⟩, h7, hm⟩ := bnd hm
   refine ARun.callQ (r := .tup [.v (.int .i64 r8), .v (.bool r9)]) Zd Z1 fb74 (fun H => (cD (CFGEdge.sl _ _ _) (cV (cV .nil)))) (nameFind_c h7) ?_
   iterate 5 refine pA ?_
   refine fs ?_
   refine sr (N' := 320) rfl ?_
   refine pA ?_
   refine fs ?_
   refine AWp.condM hm Z1 (fun _ hm => ?_) (fun _ hm => ?_)
   ·
    refine sr (N' := 384) rfl ?_
    iterate 3 refine pA ?_
    refine fs ?_
    refine AWp.ret ?_
    refine retSeq ?_
    cases hm
    exact ret2D (.inr rfl) Tryz.results116 (td Z1 (CFGEdge.sl _ _ _)) (td Z1 (.v _))
   ·
    refine AWp.skip ?_
    refine normSeq ?_
    refine sr (N' := 384) rfl ?_
    iterate 6 refine pA ?_
    refine pu rfl (by simp only [go_sem, Nat.reduceBEq]; exact (by kernel_rfl : abuild Tryz.prog 102 [(0, .v (.int .i64 (if v_3 < u_2 then v_3 else u_2))), (1, .v (.int .i64 (if u_2 < v_3 then v_3 else u_2)))] = some (.agg [.v (.int .i64 (if v_3 < u_2 then v_3 else u_2)), .v (.int .i64 (if u_2 < v_3 then v_3 else u_2)), .v (.int .i64 0)]))) ?_
    refine hp (id := 327) rfl rfl (aheap_alloc' zc102 Z5) ?_
    refine ARun.heap0 (id := 328) rfl (ah_var (ys := [.v (.int .i64 (if v_3 < u_2 then v_3 else u_2)), .v (.int .i64 (if u_2 < v_3 then v_3 else u_2)), .v (.int .i64 0)]) sz102 Z1 Z1 Z3 rfl (Nat.le_of_ble_eq_true rfl) Z9 rfl) ?_
    refine fs ?_
    refine sr (N' := 448) rfl ?_
    refine pA ?_
    refine fs ?_
    refine AWp.seq' ?_
    refine AWp.block ?_
    refine AWp.loopM (fun m s => ∃ (l_1 : List GEdge) (added_12 : GEdge) (place_13 : Int), s = (⟨75, (fset (fset (fset (fun _ => AV.any) 1 (.sl (l_1.flatMap cGEdge) l_1.length false)) 12 (.adr 1 0)) 13 (.v (.int .i64 place_13))), ⟨(upd nofresh 1 (.cells 1 [.v (.int .i64 added_12.U), .v (.int .i64 added_12.V), .v (.int .i64 added_12.Tier)] 0)), 64⟩⟩ : St) ∧ tableAdd_L1 m l_1 added_12 place_13 = some r) FUEL ?_ ?_ ?_
    ·
     rintro s ⟨_, _, _, _, h⟩
     cases h
    ·
     refine ⟨_, ?_, l_1, (GEdge.mk (if v_3 < u_2 then v_3 else u_2) (if u_2 < v_3 then v_3 else u_2) 0), 0, rfl, hm⟩
     exact le_canon (fun j => bif j == 1 then 327 else 0) (wV (wk_fset _ _ (wk_adr Z1 rfl Z7) (wD (CFGEdge.sl _ _ _) wk_none))) (heapWk_of _ (entWk_upd (entWk_data Z3 (Nat.le_refl _) (Nat.zero_le _) (CFGEdge.dat (GEdge.mk (if v_3 < u_2 then v_3 else u_2) (if u_2 < v_3 then v_3 else u_2) 0))) entWk_none) Z8)
    ·
     rintro n1 s ⟨l_1, added_12, place_13, rfl, hm⟩
     replace hm : tableAdd_B1 (tableAdd_L1 n1) l_1 added_12 place_13 = some r := hm
     unfold tableAdd_B1 at hm
     refine AWp.seq' ?_
     refine sd mix (by kernel_rfl) (N' := 128) rfl ?_
     iterate 7 first | refine pA ?_ | refine pB ?_
     obtain ⟨x11, h10, hm⟩ := bnd hm
     refine pg rfl rfl Z2 (fun hb => (ap_idx CFGEdge Zd Tryz.underlying28 sz102 (Zh hb) rfl (Zh hb) (gopt_t h10 hb))) ?_
     refine pB ?_
     refine pg rfl rfl Z2 (fun hb => (ap_ldv (Zh hb) Z3 Z2)) ?_
     obtain ⟨r13, h12, hm⟩ := bnd hm
     refine ARun.callQG (r := .v (.bool r13)) Zd rfl Z2 Z1 fb121 (fun hb H => (.cons (td (Zh hb) (.agg _ (CFGEdge.dat _))) (.cons (td (Zh hb) (.agg _ (CFGEdge.dat _))) .nil))) (fun hb => nameLess_c (gopt_t h12 hb)) ?_
     refine pA ?_
     refine fs ?_
     refine AWp.condM hm Z1 (fun _ hm => ?_) (fun _ hm => ?_)
     ·
      refine AWp.skip ?_
      refine normSeq ?_
      refine AWp.block ?_
      refine AWp.reg 64 (N' := 192) rfl ?_
      iterate 3 refine pA ?_
      refine ARun.fin ?_
      refine normIn ?_
      refine normThen ?_
      refine ⟨_, ?_, l_1, added_12, (IntKind.i64.wrap (place_13 + 1)), rfl, hm⟩
      exact le_canon (fun j => bif j == 1 then 1 else 0) (wV (wk_fset _ _ (wk_adr Z1 rfl Z7) (wD (CFGEdge.sl _ _ _) wk_none))) (hW (entWk_upd (entWk_data Z3 (Nat.le_refl _) (Nat.zero_le _) (CFGEdge.dat added_12)) entWk_none))
     ·
      refine AWp.exit ?_
      refine exitSeq ?_
      refine exitThen ?_
      refine exitHere ?_
      refine normSeq ?_
      refine sd mix (by kernel_rfl) (N' := 192) rfl ?_
      iterate 2 refine pA ?_
      obtain ⟨l15, h14, hm⟩ := bnd hm
      refine pu rfl (ap_slc CFGEdge Tryz.underlying28 sz102 Z1 rfl ab_none0 (ab_some Z1 (slc_0 h14).2) h14) ?_
      refine pu rfl (ap_ldv Z1 Z3 Z2) ?_
      refine ARun.pop Zd (noOwn_parts (ps := [(0, .agg [.v (.int .i64 added_12.U), .v (.int .i64 added_12.V), .v (.int .i64 added_12.Tier)])]) (by simp only [go_sem, Nat.reduceBEq]; try rfl) (dps_cons (.agg _ (CFGEdge.dat added_12)) dps_nil)) (pop_list CFGEdge (l := [added_12]) (xs := [.v (.int .i64 added_12.U), .v (.int .i64 added_12.V), .v (.int .i64 added_12.Tier)]) Tryz.underlying28 sz102 zc102 Zd Zd Zd (ps := [(0, .agg [.v (.int .i64 added_12.U), .v (.int .i64 added_12.V), .v (.int .i64 added_12.Tier)])]) (by simp only [go_sem, Nat.reduceBEq]; try rfl) (by kernel_rfl) (fun H => (.cons (.data _ (.v _)) (.cons (.data _ (.v _)) (.cons (.data _ (.v _)) .nil))))) rfl ?_
      iterate 2 refine pA ?_
      obtain ⟨l17, h16, hm⟩ := bnd hm
      refine pu rfl (ap_slc CFGEdge Tryz.underlying28 sz102 Z1 rfl (ab_some Z1 (slc_0 h16).1) (ab_none _) h16) ?_
      refine ARun.pop Zd (noOwn_parts (ps := [(0, .sl (l15.flatMap cGEdge) l15.length (false && (place_13 : Int).toNat == l_1.length)), (1, .sl (([added_12]).flatMap cGEdge) ([added_12]).length false), (2, .sl (l17.flatMap cGEdge) l17.length (false && ((l_1.length : Int) : Int).toNat == l_1.length))]) (by simp only [go_sem, Nat.reduceBEq]; try rfl) (dps_cons (CFGEdge.sl _ _ _) (dps_cons (CFGEdge.sl _ _ _) (dps_cons (CFGEdge.sl _ _ _) dps_nil)))) (pop_list (CFl CFGEdge) (l := [l15, [added_12], l17]) (xs := [.sl (l15.flatMap cGEdge) l15.length (false && (place_13 : Int).toNat == l_1.length), .sl (([added_12]).flatMap cGEdge) ([added_12]).length false, .sl (l17.flatMap cGEdge) l17.length (false && ((l_1.length : Int) : Int).toNat == l_1.length)]) Tryz.underlying225 sz28 zc28 Zd Zd Zd (ps := [(0, .sl (l15.flatMap cGEdge) l15.length (false && (place_13 : Int).toNat == l_1.length)), (1, .sl (([added_12]).flatMap cGEdge) ([added_12]).length false), (2, .sl (l17.flatMap cGEdge) l17.length (false && ((l_1.length : Int) : Int).toNat == l_1.length))]) (by simp only [go_sem, Nat.reduceBEq]; try rfl) (by kernel_rfl) (fun H => (.cons (tdf rfl (CFGEdge.sl _ _ _)) (.cons (.data _ (CFGEdge.sl _ _ _)) (.cons (tdf rfl (CFGEdge.sl _ _ _)) .nil))))) rfl ?_
      obtain ⟨r19, h18, hm⟩ := bnd hm
      refine ARun.callQ (r := .sl (r19.flatMap cGEdge) r19.length false) Zd Z1 fb140 (fun H => (cD ((CFl CFGEdge).sl _ _ _) .nil)) (slicesConcatEdge_c h18) ?_
      iterate 2 refine pA ?_
      refine fs ?_
      refine AWp.ret ?_
      cases hm
      exact ret2D (.inr rfl) Tryz.results116 (td Z1 (CFGEdge.sl _ _ _)) (td Z1 (.v _))
def tableRemove_m (n_0 : Int) (l_1 : List GEdge) (u_2 : Int) (v_3 : Int) : Option ((List GEdge) × Int) :=
 ((tableRight_m n_0 l_1).bind fun r2 =>
 ((gopt ((!r2) == false) false (tableVertex_m n_0 u_2)).bind fun r4 =>
 ((gopt (((!r2) || (!r4)) == false) false (tableVertex_m n_0 v_3)).bind fun r6 =>
 (bif (((!r2) || (!r4)) || (!r6)) then
  some (l_1, 1)
 else
  ((nameFind_m l_1 u_2 v_3).bind fun ⟨r8, r9⟩ =>
  (bif (!r9) then
   some (l_1, 9)
  else
   ((slc l_1 0 r8).bind fun l11 =>
   ((slc l_1 (IntKind.i64.wrap (r8 + 1)) (l_1.length : Int)).bind fun l13 =>
   ((slicesConcatEdge_m [l11, l13]).bind fun r15 =>
   some (r15, 0))))))))))
theorem tableRemove_c {n_0 : Int} {l_1 : List GEdge} {u_2 : Int} {v_3 : Int} {r : (List GEdge) × Int} (hm : tableRemove_m n_0 l_1 u_2 v_3 = some r) : PureC Tryz.prog 118 [.v (.int .i64 n_0), .sl (l_1.flatMap cGEdge) l_1.length false, .v (.int .i64 u_2), .v (.int .i64 v_3)] (.tup [.sl (r.1.flatMap cGEdge) r.1.length false, .v (.int .i64 r.2)]) := by
 refine PureC.of_body Tryz.func118 rfl ?_
 simp only [Tryz.ntmps118, List.length_cons, List.length_nil, Nat.reduceAdd, Nat.reduceSub, empty_eq]
 unfold tableRemove_m at hm
 refine sr (N' := 64) rfl ?_
 iterate 2 refine pA ?_
 refine fs ?_
 refine AWp.seq' ?_
 refine sr (N' := 128) rfl ?_
 iterate 2 refine pA ?_
 obtain ⟨r2, h1, hm⟩ := bnd hm
 refine ARun.callQ (r := .v (.bool r2)) Zd Z1 fb89 (fun H => (cV (cD (CFGEdge.sl _ _ _) .nil))) (tableRight_c h1) ?_
 iterate 4 first | refine pA ?_ | refine pB ?_
 obtain ⟨r4, h3, hm⟩ := bnd hm
 refine ARun.callQG (r := .v (.bool r4)) Zd rfl Z2 Z1 fb135 (fun hb H => (.cons (td (Zh hb) (.v _)) (.cons (td (Zh hb) (.v _)) .nil))) (fun hb => tableVertex_c (gopt_t h3 hb)) ?_
 iterate 5 first | refine pA ?_ | refine pB ?_
 obtain ⟨r6, h5, hm⟩ := bnd hm
 refine ARun.callQG (r := .v (.bool r6)) Zd rfl Z2 Z1 fb135 (fun hb H => (.cons (td (Zh hb) (.v _)) (.cons (td (Zh hb) (.v _)) .nil))) (fun hb => tableVertex_c (gopt_t h5 hb)) ?_
 iterate 2 first | refine pA ?_ | refine pB ?_
 refine fs ?_
 refine AWp.condM hm Z1 (fun _ hm => ?_) (fun _ hm => ?_)
 ·
  refine sr (N' := 192) rfl ?_
  iterate 3 refine pA ?_
  refine fs ?_
  refine AWp.ret ?_
  refine retSeq ?_
  cases hm
  exact ret2D (.inr rfl) Tryz.results118 (td Z1 (CFGEdge.sl _ _ _)) (td Z1 (.v _))
 ·
  refine AWp.skip ?_
  refine normSeq ?_
  refine sr (N' := 192) rfl ?_
  iterate 3 refine pA ?_
  obtain ⟨⟨r8, r9⟩, h7, hm⟩ := bnd hm
  refine ARun.callQ (r := .tup [.v (.int .i64 r8), .v (.bool r9)]) Zd Z1 fb74 (fun H => (cD (CFGEdge.sl _ _ _) (cV (cV .nil)))) (nameFind_c h7) ?_
  iterate 5 refine pA ?_
  refine fs ?_
  refine AWp.seq' ?_
  refine sr (N' := 256) rfl ?_
  iterate 2 refine pA ?_
  refine fs ?_
  refine AWp.condM hm Z1 (fun _ hm => ?_) (fun _ hm => ?_)
  ·
   refine sr (N' := 320) rfl ?_
   iterate 3 refine pA ?_
   refine fs ?_
   refine AWp.ret ?_
   refine retSeq ?_
   cases hm
   exact ret2D (.inr rfl) Tryz.results118 (td Z1 (CFGEdge.sl _ _ _)) (td Z1 (.v _))
  ·
   refine AWp.skip ?_
   refine normSeq ?_
   refine sd mix (by kernel_rfl) (N' := 320) rfl ?_
   iterate 2 refine pA ?_
   obtain ⟨l11, h10, hm⟩ := bnd hm
   refine pu rfl (ap_slc CFGEdge Tryz.underlying28 sz102 Z1 rfl ab_none0 (ab_some Z1 (slc_0 h10).2) h10) ?_
   iterate 3 refine pA ?_
   obtain ⟨l13, h12, hm⟩ := bnd hm
   refine pu rfl (ap_slc CFGEdge Tryz.underlying28 sz102 Z1 rfl (ab_some Z1 (slc_0 h12).1) (ab_none _) h12) ?_
   refine ARun.pop Zd (noOwn_parts (ps := [(0, .sl (l11.flatMap cGEdge) l11.length (false && (r8 : Int).toNat == l_1.length)), (1, .sl (l13.flatMap cGEdge) l13.length (false && ((l_1.length : Int) : Int).toNat == l_1.length))]) (by simp only [go_sem, Nat.reduceBEq]; try rfl) (dps_cons (CFGEdge.sl _ _ _) (dps_cons (CFGEdge.sl _ _ _) dps_nil))) (pop_list (CFl CFGEdge) (l := [l11, l13]) (xs := [.sl (l11.flatMap cGEdge) l11.length (false && (r8 : Int).toNat == l_1.length), .sl (l13.flatMap cGEdge) l13.length (false && ((l_1.length : Int) : Int).toNat == l_1.length)]) Tryz.underlying225 sz28 zc28 Zd Zd Zd (ps := [(0, .sl (l11.flatMap cGEdge) l11.length (false && (r8 : Int).toNat == l_1.length)), (1, .sl (l13.flatMap cGEdge) l13.length (false && ((l_1.length : Int) : Int).toNat == l_1.length))]) (by simp only [go_sem, Nat.reduceBEq]; try rfl) (by kernel_rfl) (fun H => (.cons (tdf rfl (CFGEdge.sl _ _ _)) (.cons (tdf rfl (CFGEdge.sl _ _ _)) .nil)))) rfl ?_
   obtain ⟨r15, h14, hm⟩ := bnd hm
   refine ARun.callQ (r := .sl (r15.flatMap cGEdge) r15.length false) Zd Z1 fb140 (fun H => (cD ((CFl CFGEdge).sl _ _ _) .nil)) (slicesConcatEdge_c h14) ?_
   iterate 2 refine pA ?_
   refine fs ?_
   refine AWp.ret ?_
   cases hm
   exact ret2D (.inr rfl) Tryz.results118 (td Z1 (CFGEdge.sl _ _ _)) (td Z1 (.v _))
def modOf_m (n_0 : Int) : Option (Int) :=
 some (Int.tmod n_0 2305843009213693951)
theorem modOf_c {n_0 : Int} {r : Int} (hm : modOf_m n_0 = some r) : PureC Tryz.prog 164 [.v (.int .u64 n_0)] (.v (.int .u64 r)) := by
 refine PureC.of_body Tryz.func164 rfl ?_
 simp only [Tryz.ntmps164, List.length_cons, List.length_nil, Nat.reduceAdd, Nat.reduceSub, empty_eq]
 unfold modOf_m at hm
 refine sr (N' := 64) rfl ?_
 refine pA ?_
 refine fs ?_
 refine sr (N' := 128) rfl ?_
 iterate 3 refine pu rfl (by simp only [go_sem, Nat.reduceBEq, Int.reduceEq, Int.reduceLE]; try with_reducible rfl) ?_
 refine fs ?_
 refine AWp.ret ?_
 cases hm
 exact ret1D (.inr rfl) Tryz.results164 (td Z1 (.v _))
def modAdd_m (a_0 : Int) (b_1 : Int) : Option (Int) :=
 ((modOf_m a_0).bind fun r2 =>
 ((modOf_m b_1).bind fun r4 =>
 some (Int.tmod (IntKind.u64.wrap (r2 + r4)) 2305843009213693951)))
theorem modAdd_c {a_0 : Int} {b_1 : Int} {r : Int} (hm : modAdd_m a_0 b_1 = some r) : PureC Tryz.prog 138 [.v (.int .u64 a_0), .v (.int .u64 b_1)] (.v (.int .u64 r)) := by
 refine PureC.of_body Tryz.func138 rfl ?_
 simp only [Tryz.ntmps138, List.length_cons, List.length_nil, Nat.reduceAdd, Nat.reduceSub, empty_eq]
 unfold modAdd_m at hm
 refine sr (N' := 64) rfl ?_
 refine pA ?_
 refine fs ?_
 refine sr (N' := 128) rfl ?_
 refine pA ?_
 obtain ⟨r2, h1, hm⟩ := bnd hm
 refine ARun.callQ (r := .v (.int .u64 r2)) Zd Z1 fb164 (fun H => (cV .nil)) (modOf_c h1) ?_
 refine pA ?_
 obtain ⟨r4, h3, hm⟩ := bnd hm
 refine ARun.callQ (r := .v (.int .u64 r4)) Zd Z1 fb164 (fun H => (cV .nil)) (modOf_c h3) ?_
 iterate 3 refine pu rfl (by simp only [go_sem, Nat.reduceBEq, Int.reduceEq, Int.reduceLE]; try with_reducible rfl) ?_
 refine fs ?_
 refine AWp.ret ?_
 cases hm
 exact ret1D (.inr rfl) Tryz.results138 (td Z1 (.v _))
def bitsMul64_m (x_0 : Int) (y_1 : Int) : Option (Int × Int) :=
 some ((IntKind.u64.wrap ((IntKind.u64.wrap ((IntKind.u64.wrap ((shr .u64 x_0 32) * (shr .u64 y_1 32))) + (shr .u64 (IntKind.u64.wrap ((IntKind.u64.wrap ((shr .u64 x_0 32) * (band .u64 y_1 4294967295))) + (shr .u64 (IntKind.u64.wrap ((band .u64 x_0 4294967295) * (band .u64 y_1 4294967295))) 32))) 32))) + (shr .u64 (IntKind.u64.wrap ((band .u64 (IntKind.u64.wrap ((IntKind.u64.wrap ((shr .u64 x_0 32) * (band .u64 y_1 4294967295))) + (shr .u64 (IntKind.u64.wrap ((band .u64 x_0 4294967295) * (band .u64 y_1 4294967295))) 32))) 4294967295) + (IntKind.u64.wrap ((band .u64 x_0 4294967295) * (shr .u64 y_1 32))))) 32))), (IntKind.u64.wrap (x_0 * y_1)))
theorem bitsMul64_c {x_0 : Int} {y_1 : Int} {r : Int × Int} (hm : bitsMul64_m x_0 y_1 = some r) : PureC Tryz.prog 165 [.v (.int .u64 x_0), .v (.int .u64 y_1)] (.tup [.v (.int .u64 r.1), .v (.int .u64 r.2)]) := by
 refine PureC.of_body Tryz.func165 rfl ?_
 simp only [Tryz.ntmps165, List.length_cons, List.length_nil, Nat.reduceAdd, Nat.reduceSub, empty_eq]
 unfold bitsMul64_m at hm
 refine sr (N' := 64) rfl ?_
 iterate 2 refine pA ?_
 refine fs ?_
 refine sr (N' := 128) rfl ?_
 iterate 3 refine pA ?_
 refine fs ?_
 refine sr (N' := 192) rfl ?_
 iterate 3 refine pu rfl (by simp only [go_sem, Nat.reduceBEq, Int.reduceEq, Int.reduceLE]; try with_reducible rfl) ?_
 refine fs ?_
 refine sr (N' := 256) rfl ?_
 iterate 3 refine pA ?_
 refine fs ?_
 refine sr (N' := 320) rfl ?_
 iterate 3 refine pu rfl (by simp only [go_sem, Nat.reduceBEq, Int.reduceEq, Int.reduceLE]; try with_reducible rfl) ?_
 refine fs ?_
 refine sr (N' := 384) rfl ?_
 iterate 4 refine pA ?_
 refine fs ?_
 refine sr (N' := 448) rfl ?_
 iterate 7 refine pu rfl (by simp only [go_sem, Nat.reduceBEq, Int.reduceEq, Int.reduceLE]; try with_reducible rfl) ?_
 refine fs ?_
 refine sr (N' := 512) rfl ?_
 iterate 3 refine pA ?_
 refine fs ?_
 refine sr (N' := 576) rfl ?_
 iterate 3 refine pu rfl (by simp only [go_sem, Nat.reduceBEq, Int.reduceEq, Int.reduceLE]; try with_reducible rfl) ?_
 refine fs ?_
 refine sr (N' := 640) rfl ?_
 iterate 6 refine pA ?_
 refine fs ?_
 refine sr (N' := 704) rfl ?_
 iterate 9 refine pu rfl (by simp only [go_sem, Nat.reduceBEq, Int.reduceEq, Int.reduceLE]; try with_reducible rfl) ?_
 refine fs ?_
 refine sr (N' := 768) rfl ?_
 iterate 4 refine pA ?_
 refine fs ?_
 refine AWp.ret ?_
 cases hm
 exact ret2D (.inr rfl) Tryz.results165 (td Z1 (.v _)) (td Z1 (.v _))
def bitsLen64_J3 (x_0 : Int) (n_2 : Int) : Option (Int) :=
 ((sidx cst0_GA1 (IntKind.u8.wrap x_0)).bind fun b2 =>
 some (IntKind.i64.wrap (n_2 + (IntKind.i64.wrap b2))))
def bitsLen64_J2 (x_0 : Int) (n_2 : Int) : Option (Int) :=
 (bif (decide (256 ≤ x_0)) then
  bitsLen64_J3 (shr .u64 x_0 8) (IntKind.i64.wrap (n_2 + 8))
 else
  bitsLen64_J3 x_0 n_2)
def bitsLen64_J1 (x_0 : Int) (n_2 : Int) : Option (Int) :=
 (bif (decide (65536 ≤ x_0)) then
  bitsLen64_J2 (shr .u64 x_0 16) (IntKind.i64.wrap (n_2 + 16))
 else
  bitsLen64_J2 x_0 n_2)
def bitsLen64_m (x_0 : Int) : Option (Int) :=
 (bif (decide (4294967296 ≤ x_0)) then
  bitsLen64_J1 (shr .u64 x_0 32) 32
 else
  bitsLen64_J1 x_0 0)
theorem bitsLen64_c {x_0 : Int} {r : Int} (hm : bitsLen64_m x_0 = some r) : PureC Tryz.prog 155 [.v (.int .u64 x_0)] (.v (.int .i64 r)) := by
 refine PureC.of_body Tryz.func155 rfl ?_
 simp only [Tryz.ntmps155, List.length_cons, List.length_nil, Nat.reduceAdd, Nat.reduceSub, empty_eq]
 unfold bitsLen64_m at hm
 refine sr (N' := 64) rfl ?_
 refine pA ?_
 refine fs ?_
 refine AWp.seqJ (fun s => ∃ (x_0 : Int) (n_2 : Int), s = (⟨25, (fset (fset (fun _ => AV.any) 0 (.v (.int .u64 x_0))) 2 (.v (.int .i64 n_2))), ⟨nofresh, 64⟩⟩ : St) ∧ bitsLen64_J1 x_0 n_2 = some r) ?_ ?_
 ·
  refine sr (N' := 128) rfl ?_
  iterate 2 refine pA ?_
  refine fs ?_
  refine AWp.condM hm Z1 (fun _ hm => ?_) (fun _ hm => ?_)
  ·
   refine sr (N' := 192) rfl ?_
   iterate 3 refine pu rfl (by simp only [go_sem, Nat.reduceBEq, Int.reduceEq, Int.reduceLE]; try with_reducible rfl) ?_
   refine fs ?_
   refine AWp.reg 64 (N' := 256) rfl ?_
   refine pA ?_
   refine ARun.fin ?_
   refine normJ ?_
   refine ⟨_, ?_, (shr .u64 x_0 32), 32, rfl, hm⟩
   exact le_canon id (wV (wV wk_none)) heapWk0
  ·
   refine AWp.skip ?_
   refine normJ ?_
   refine ⟨_, ?_, x_0, 0, rfl, hm⟩
   exact le_canon id (wV (wV wk_none)) heapWk0
 ·
  rintro s ⟨x_0, n_2, rfl, hm⟩
  unfold bitsLen64_J1 at hm
  refine AWp.seqJ (fun s => ∃ (x_0 : Int) (n_2 : Int), s = (⟨25, (fset (fset (fun _ => AV.any) 0 (.v (.int .u64 x_0))) 2 (.v (.int .i64 n_2))), ⟨nofresh, 64⟩⟩ : St) ∧ bitsLen64_J2 x_0 n_2 = some r) ?_ ?_
  ·
   refine sr (N' := 128) rfl ?_
   iterate 2 refine pA ?_
   refine fs ?_
   refine AWp.condM hm Z1 (fun _ hm => ?_) (fun _ hm => ?_)
   ·
    refine sr (N' := 192) rfl ?_
    iterate 3 refine pu rfl (by simp only [go_sem, Nat.reduceBEq, Int.reduceEq, Int.reduceLE]; try with_reducible rfl) ?_
    refine fs ?_
    refine AWp.reg 64 (N' := 256) rfl ?_
    iterate 3 refine pA ?_
    refine ARun.fin ?_
    refine normJ ?_
    refine ⟨_, ?_, (shr .u64 x_0 16), (IntKind.i64.wrap (n_2 + 16)), rfl, hm⟩
    exact le_canon id (wV (wV wk_none)) heapWk0
   ·
    refine AWp.skip ?_
    refine normJ ?_
    refine ⟨_, ?_, x_0, n_2, rfl, hm⟩
    exact le_canon id (wV (wV wk_none)) heapWk0
  ·
   rintro s ⟨x_0, n_2, rfl, hm⟩
   unfold bitsLen64_J2 at hm
   refine AWp.seqJ (fun s => ∃ (x_0 : Int) (n_2 : Int), s = (⟨25, (fset (fset (fun _ => AV.any) 0 (.v (.int .u64 x_0))) 2 (.v (.int .i64 n_2))), ⟨nofresh, 64⟩⟩ : St) ∧ bitsLen64_J3 x_0 n_2 = some r) ?_ ?_
   ·
    refine sr (N' := 128) rfl ?_
    iterate 2 refine pA ?_
    refine fs ?_
    refine AWp.condM hm Z1 (fun _ hm => ?_) (fun _ hm => ?_)
    ·
     refine sr (N' := 192) rfl ?_
     iterate 3 refine pu rfl (by simp only [go_sem, Nat.reduceBEq, Int.reduceEq, Int.reduceLE]; try with_reducible rfl) ?_
     refine fs ?_
     refine AWp.reg 64 (N' := 256) rfl ?_
     iterate 3 refine pA ?_
     refine ARun.fin ?_
     refine normJ ?_
     refine ⟨_, ?_, (shr .u64 x_0 8), (IntKind.i64.wrap (n_2 + 8)), rfl, hm⟩
     exact le_canon id (wV (wV wk_none)) heapWk0
    ·
     refine AWp.skip ?_
     refine normJ ?_
     refine ⟨_, ?_, x_0, n_2, rfl, hm⟩
     exact le_canon id (wV (wV wk_none)) heapWk0
   ·
    rintro s ⟨x_0, n_2, rfl, hm⟩
    unfold bitsLen64_J3 at hm
    refine sr (N' := 128) rfl ?_
    iterate 3 refine pA ?_
    obtain ⟨b2, h1, hm⟩ := bnd hm
    refine pu rfl (ap_sidx Tryz.underlying9 Z1 Z1 h1) ?_
    iterate 3 refine pA ?_
    refine fs ?_
    refine AWp.ret ?_
    cases hm
    exact ret1D (.inr rfl) Tryz.results155 (td Z1 (.v _))
def bitsLeadingZeros64_m (x_0 : Int) : Option (Int) :=
 ((bitsLen64_m x_0).bind fun r2 =>
 some (IntKind.i64.wrap (64 - r2)))
theorem bitsLeadingZeros64_c {x_0 : Int} {r : Int} (hm : bitsLeadingZeros64_m x_0 = some r) : PureC Tryz.prog 196 [.v (.int .u64 x_0)] (.v (.int .i64 r)) := by
 refine PureC.of_body Tryz.func196 rfl ?_
 simp only [Tryz.ntmps196, List.length_cons, List.length_nil, Nat.reduceAdd, Nat.reduceSub, empty_eq]
 unfold bitsLeadingZeros64_m at hm
 refine sr (N' := 64) rfl ?_
 refine pA ?_
 refine fs ?_
 refine sr (N' := 128) rfl ?_
 refine pA ?_
 obtain ⟨r2, h1, hm⟩ := bnd hm
 refine ARun.callQ (r := .v (.int .i64 r2)) Zd Z1 fb155 (fun H => (cV .nil)) (bitsLen64_c h1) ?_
 iterate 2 refine pA ?_
 refine fs ?_
 refine AWp.ret ?_
 cases hm
 exact ret1D (.inr rfl) Tryz.results196 (td Z1 (.v _))
def bitsDiv64_J4 (y_2 : Int) (s_8 : Int) (un0_14 : Int) (q1_15 : Int) (un21_17 : Int) (q0_18 : Int) : Option (Int × Int) :=
 ((chk (decide (0 ≤ s_8))).bind fun _ =>
 some ((IntKind.u64.wrap ((IntKind.u64.wrap (q1_15 * 4294967296)) + q0_18)), (shr .u64 (IntKind.u64.wrap ((IntKind.u64.wrap ((IntKind.u64.wrap (un21_17 * 4294967296)) + un0_14)) - (IntKind.u64.wrap (q0_18 * y_2)))) s_8)))
def bitsDiv64_B1 (rec1 : Int → Int → Int → Int → Int → Int → Int → Int → Int → Option (Int × Int)) (y_2 : Int) (s_8 : Int) (yn1_9 : Int) (yn0_10 : Int) (un0_14 : Int) (q1_15 : Int) (rhat_16 : Int) (un21_17 : Int) (q0_18 : Int) : Option (Int × Int) :=
 (bif ((decide (4294967296 ≤ q0_18)) || (decide ((IntKind.u64.wrap ((IntKind.u64.wrap (4294967296 * rhat_16)) + un0_14)) < (IntKind.u64.wrap (q0_18 * yn0_10))))) then
  (bif (decide (4294967296 ≤ (IntKind.u64.wrap (rhat_16 + yn1_9)))) then
   bitsDiv64_J4 y_2 s_8 un0_14 q1_15 un21_17 (IntKind.u64.wrap (q0_18 - 1))
  else
   rec1 y_2 s_8 yn1_9 yn0_10 un0_14 q1_15 (IntKind.u64.wrap (rhat_16 + yn1_9)) un21_17 (IntKind.u64.wrap (q0_18 - 1)))
 else
  bitsDiv64_J4 y_2 s_8 un0_14 q1_15 un21_17 q0_18)
def bitsDiv64_L1 : Nat → Int → Int → Int → Int → Int → Int → Int → Int → Int → Option (Int × Int)
 | 0 => fun _ _ _ _ _ _ _ _ _ => none
 | n + 1 => bitsDiv64_B1 (bitsDiv64_L1 n)
def bitsDiv64_J3 (y_2 : Int) (s_8 : Int) (yn1_9 : Int) (yn0_10 : Int) (un32_11 : Int) (un1_13 : Int) (un0_14 : Int) (q1_15 : Int) : Option (Int × Int) :=
 ((chk (yn1_9 != 0)).bind fun _ =>
 bitsDiv64_L1 FUEL y_2 s_8 yn1_9 yn0_10 un0_14 q1_15 (IntKind.u64.wrap ((IntKind.u64.wrap ((IntKind.u64.wrap ((IntKind.u64.wrap (un32_11 * 4294967296)) + un1_13)) - (IntKind.u64.wrap (q1_15 * y_2)))) - (IntKind.u64.wrap ((IntKind.u64.wrap (Int.tdiv (IntKind.u64.wrap ((IntKind.u64.wrap ((IntKind.u64.wrap (un32_11 * 4294967296)) + un1_13)) - (IntKind.u64.wrap (q1_15 * y_2)))) yn1_9)) * yn1_9)))) (IntKind.u64.wrap ((IntKind.u64.wrap ((IntKind.u64.wrap (un32_11 * 4294967296)) + un1_13)) - (IntKind.u64.wrap (q1_15 * y_2)))) (IntKind.u64.wrap (Int.tdiv (IntKind.u64.wrap ((IntKind.u64.wrap ((IntKind.u64.wrap (un32_11 * 4294967296)) + un1_13)) - (IntKind.u64.wrap (q1_15 * y_2)))) yn1_9)))
def bitsDiv64_B2 (rec2 : Int → Int → Int → Int → Int → Int → Int → Int → Int → Option (Int × Int)) (y_2 : Int) (s_8 : Int) (yn1_9 : Int) (yn0_10 : Int) (un32_11 : Int) (un1_13 : Int) (un0_14 : Int) (q1_15 : Int) (rhat_16 : Int) : Option (Int × Int) :=
 (bif ((decide (4294967296 ≤ q1_15)) || (decide ((IntKind.u64.wrap ((IntKind.u64.wrap (4294967296 * rhat_16)) + un1_13)) < (IntKind.u64.wrap (q1_15 * yn0_10))))) then
  (bif (decide (4294967296 ≤ (IntKind.u64.wrap (rhat_16 + yn1_9)))) then
   bitsDiv64_J3 y_2 s_8 yn1_9 yn0_10 un32_11 un1_13 un0_14 (IntKind.u64.wrap (q1_15 - 1))
  else
   rec2 y_2 s_8 yn1_9 yn0_10 un32_11 un1_13 un0_14 (IntKind.u64.wrap (q1_15 - 1)) (IntKind.u64.wrap (rhat_16 + yn1_9)))
 else
  bitsDiv64_J3 y_2 s_8 yn1_9 yn0_10 un32_11 un1_13 un0_14 q1_15)
def bitsDiv64_L2 : Nat → Int → Int → Int → Int → Int → Int → Int → Int → Int → Option (Int × Int)
 | 0 => fun _ _ _ _ _ _ _ _ _ => none
 | n + 1 => bitsDiv64_B2 (bitsDiv64_L2 n)
def bitsDiv64_J2 (hi_0 : Int) (lo_1 : Int) (y_2 : Int) : Option (Int × Int) :=
 (bif (hi_0 == 0) then
  ((chk (y_2 != 0)).bind fun _ =>
  ((chk (y_2 != 0)).bind fun _ =>
  some ((IntKind.u64.wrap (Int.tdiv lo_1 y_2)), (Int.tmod lo_1 y_2))))
 else
  ((bitsLeadingZeros64_m y_2).bind fun r4 =>
  ((chk (decide (0 ≤ (IntKind.u64.wrap r4)))).bind fun _ =>
  ((chk (decide (0 ≤ (IntKind.u64.wrap r4)))).bind fun _ =>
  ((chk (decide (0 ≤ (IntKind.u64.wrap (64 - (IntKind.u64.wrap r4)))))).bind fun _ =>
  ((chk (decide (0 ≤ (IntKind.u64.wrap r4)))).bind fun _ =>
  ((chk ((shr .u64 (shl .u64 y_2 (IntKind.u64.wrap r4)) 32) != 0)).bind fun _ =>
  bitsDiv64_L2 FUEL (shl .u64 y_2 (IntKind.u64.wrap r4)) (IntKind.u64.wrap r4) (shr .u64 (shl .u64 y_2 (IntKind.u64.wrap r4)) 32) (band .u64 (shl .u64 y_2 (IntKind.u64.wrap r4)) 4294967295) (bor .u64 (shl .u64 hi_0 (IntKind.u64.wrap r4)) (shr .u64 lo_1 (IntKind.u64.wrap (64 - (IntKind.u64.wrap r4))))) (shr .u64 (shl .u64 lo_1 (IntKind.u64.wrap r4)) 32) (band .u64 (shl .u64 lo_1 (IntKind.u64.wrap r4)) 4294967295) (IntKind.u64.wrap (Int.tdiv (bor .u64 (shl .u64 hi_0 (IntKind.u64.wrap r4)) (shr .u64 lo_1 (IntKind.u64.wrap (64 - (IntKind.u64.wrap r4))))) (shr .u64 (shl .u64 y_2 (IntKind.u64.wrap r4)) 32))) (IntKind.u64.wrap ((bor .u64 (shl .u64 hi_0 (IntKind.u64.wrap r4)) (shr .u64 lo_1 (IntKind.u64.wrap (64 - (IntKind.u64.wrap r4))))) - (IntKind.u64.wrap ((IntKind.u64.wrap (Int.tdiv (bor .u64 (shl .u64 hi_0 (IntKind.u64.wrap r4)) (shr .u64 lo_1 (IntKind.u64.wrap (64 - (IntKind.u64.wrap r4))))) (shr .u64 (shl .u64 y_2 (IntKind.u64.wrap r4)) 32))) * (shr .u64 (shl .u64 y_2 (IntKind.u64.wrap r4)) 32))))))))))))
def bitsDiv64_J1 (hi_0 : Int) (lo_1 : Int) (y_2 : Int) : Option (Int × Int) :=
 (bif (decide (y_2 ≤ hi_0)) then
  none
 else
  bitsDiv64_J2 hi_0 lo_1 y_2)
def bitsDiv64_m (hi_0 : Int) (lo_1 : Int) (y_2 : Int) : Option (Int × Int) :=
 (bif (y_2 == 0) then
  none
 else
  bitsDiv64_J1 hi_0 lo_1 y_2)
theorem bitsDiv64_c {hi_0 : Int} {lo_1 : Int} {y_2 : Int} {r : Int × Int} (hm : bitsDiv64_m hi_0 lo_1 y_2 = some r) : PureC Tryz.prog 183 [.v (.int .u64 hi_0), .v (.int .u64 lo_1), .v (.int .u64 y_2)] (.tup [.v (.int .u64 r.1), .v (.int .u64 r.2)]) := by
 refine PureC.of_body Tryz.func183 rfl ?_
 simp only [Tryz.ntmps183, List.length_cons, List.length_nil, Nat.reduceAdd, Nat.reduceSub, empty_eq]
 unfold bitsDiv64_m at hm
 refine sr (N' := 64) rfl ?_
 iterate 2 refine pA ?_
 refine fs ?_
 refine AWp.seqJ (fun s => ∃ (hi_0 : Int) (lo_1 : Int) (y_2 : Int), s = (⟨135, (fset (fset (fset (fun _ => AV.any) 0 (.v (.int .u64 hi_0))) 1 (.v (.int .u64 lo_1))) 2 (.v (.int .u64 y_2))), ⟨nofresh, 64⟩⟩ : St) ∧ bitsDiv64_J1 hi_0 lo_1 y_2 = some r) ?_ ?_
 ·
  refine sr (N' := 128) rfl ?_
  iterate 2 refine pA ?_
  refine fs ?_
  refine AWp.condM hm Z1 (fun _ hm => ?_) (fun _ hm => ?_)
  ·
   cases hm
  ·
   refine AWp.skip ?_
   refine normJ ?_
   refine ⟨_, ?_, hi_0, lo_1, y_2, rfl, hm⟩
   exact le_canon id (wV (wV (wV wk_none))) heapWk0
 ·
  rintro s ⟨hi_0, lo_1, y_2, rfl, hm⟩
  unfold bitsDiv64_J1 at hm
  refine AWp.seqJ (fun s => ∃ (hi_0 : Int) (lo_1 : Int) (y_2 : Int), s = (⟨135, (fset (fset (fset (fun _ => AV.any) 0 (.v (.int .u64 hi_0))) 1 (.v (.int .u64 lo_1))) 2 (.v (.int .u64 y_2))), ⟨nofresh, 64⟩⟩ : St) ∧ bitsDiv64_J2 hi_0 lo_1 y_2 = some r) ?_ ?_
  ·
   refine sr (N' := 128) rfl ?_
   iterate 3 refine pA ?_
   refine fs ?_
   refine AWp.condM hm Z1 (fun _ hm => ?_) (fun _ hm => ?_)
   ·
    cases hm
   ·
    refine AWp.skip ?_
    refine normJ ?_
    refine ⟨_, ?_, hi_0, lo_1, y_2, rfl, hm⟩
    exact le_canon id (wV (wV (wV wk_none))) heapWk0
  ·
   rintro s ⟨hi_0, lo_1, y_2, rfl, hm⟩
   unfold bitsDiv64_J2 at hm
   refine AWp.seq' ?_
   refine sr (N' := 128) rfl ?_
   iterate 2 refine pA ?_
   refine fs ?_
   refine AWp.condM hm Z1 (fun _ hm => ?_) (fun _ hm => ?_)
   ·
    refine sd mix (by kernel_rfl) (N' := 192) rfl ?_
    iterate 2 refine pA ?_
    obtain ⟨_, h1, hm⟩ := bnd hm
    refine pu rfl (ap_quo Z1 Z1 (chk_t h1)) ?_
    iterate 2 refine pA ?_
    obtain ⟨_, h2, hm⟩ := bnd hm
    refine pu rfl (ap_rem Z1 Z1 (chk_t h2)) ?_
    iterate 2 refine pA ?_
    refine fs ?_
    refine AWp.ret ?_
    refine retSeq ?_
    cases hm
    exact ret2D (.inr rfl) Tryz.results183 (td Z1 (.v _)) (td Z1 (.v _))
   ·
    refine AWp.skip ?_
    refine normSeq ?_
    refine sr (N' := 192) rfl ?_
    refine pA ?_
    obtain ⟨r4, h3, hm⟩ := bnd hm
    refine ARun.callQ (r := .v (.int .i64 r4)) Zd Z1 fb196 (fun H => (cV .nil)) (bitsLeadingZeros64_c h3) ?_
    iterate 2 refine pA ?_
    refine fs ?_
    refine sr (N' := 256) rfl ?_
    iterate 2 refine pA ?_
    obtain ⟨_, h5, hm⟩ := bnd hm
    refine pu rfl (ap_shl Z1 Z1 (chk_t h5)) ?_
    refine pA ?_
    refine fs ?_
    refine sr (N' := 320) rfl ?_
    iterate 3 refine pu rfl (by simp only [go_sem, Nat.reduceBEq, Int.reduceEq, Int.reduceLE]; try with_reducible rfl) ?_
    refine fs ?_
    refine sr (N' := 384) rfl ?_
    iterate 3 refine pA ?_
    refine fs ?_
    refine sr (N' := 448) rfl ?_
    iterate 2 refine pA ?_
    obtain ⟨_, h6, hm⟩ := bnd hm
    refine pu rfl (ap_shl Z1 Z1 (chk_t h6)) ?_
    iterate 3 refine pA ?_
    obtain ⟨_, h7, hm⟩ := bnd hm
    refine pu rfl (ap_shr Z1 Z1 (chk_t h7)) ?_
    iterate 2 refine pA ?_
    refine fs ?_
    refine sr (N' := 512) rfl ?_
    iterate 2 refine pA ?_
    obtain ⟨_, h8, hm⟩ := bnd hm
    refine pu rfl (ap_shl Z1 Z1 (chk_t h8)) ?_
    refine pA ?_
    refine fs ?_
    refine sr (N' := 576) rfl ?_
    iterate 3 refine pu rfl (by simp only [go_sem, Nat.reduceBEq, Int.reduceEq, Int.reduceLE]; try with_reducible rfl) ?_
    refine fs ?_
    refine sr (N' := 640) rfl ?_
    iterate 3 refine pA ?_
    refine fs ?_
    refine sr (N' := 704) rfl ?_
    iterate 2 refine pA ?_
    obtain ⟨_, h9, hm⟩ := bnd hm
    refine pu rfl (ap_quo Z1 Z1 (chk_t h9)) ?_
    refine pA ?_
    refine fs ?_
    refine sr (N' := 768) rfl ?_
    iterate 6 refine pA ?_
    refine fs ?_
    refine AWp.seqJ (fun s => ∃ (y_2 : Int) (s_8 : Int) (yn1_9 : Int) (yn0_10 : Int) (un32_11 : Int) (un1_13 : Int) (un0_14 : Int) (q1_15 : Int), s = (⟨135, (fset (fset (fset (fset (fset (fset (fset (fset (fun _ => AV.any) 2 (.v (.int .u64 y_2))) 8 (.v (.int .u64 s_8))) 9 (.v (.int .u64 yn1_9))) 10 (.v (.int .u64 yn0_10))) 11 (.v (.int .u64 un32_11))) 13 (.v (.int .u64 un1_13))) 14 (.v (.int .u64 un0_14))) 15 (.v (.int .u64 q1_15))), ⟨nofresh, 64⟩⟩ : St) ∧ bitsDiv64_J3 y_2 s_8 yn1_9 yn0_10 un32_11 un1_13 un0_14 q1_15 = some r) ?_ ?_
    ·
     refine AWp.block ?_
     refine AWp.loopM (fun m s => ∃ (y_2 : Int) (s_8 : Int) (yn1_9 : Int) (yn0_10 : Int) (un32_11 : Int) (un1_13 : Int) (un0_14 : Int) (q1_15 : Int) (rhat_16 : Int), s = (⟨135, (fset (fset (fset (fset (fset (fset (fset (fset (fset (fun _ => AV.any) 2 (.v (.int .u64 y_2))) 8 (.v (.int .u64 s_8))) 9 (.v (.int .u64 yn1_9))) 10 (.v (.int .u64 yn0_10))) 11 (.v (.int .u64 un32_11))) 13 (.v (.int .u64 un1_13))) 14 (.v (.int .u64 un0_14))) 15 (.v (.int .u64 q1_15))) 16 (.v (.int .u64 rhat_16))), ⟨nofresh, 64⟩⟩ : St) ∧ bitsDiv64_L2 m y_2 s_8 yn1_9 yn0_10 un32_11 un1_13 un0_14 q1_15 rhat_16 = some r) FUEL ?_ ?_ ?_
     ·
      rintro s ⟨_, _, _, _, _, _, _, _, _, _, h⟩
      cases h
     ·
      refine ⟨_, ?_, (shl .u64 y_2 (IntKind.u64.wrap r4)), (IntKind.u64.wrap r4), (shr .u64 (shl .u64 y_2 (IntKind.u64.wrap r4)) 32), (band .u64 (shl .u64 y_2 (IntKind.u64.wrap r4)) 4294967295), (bor .u64 (shl .u64 hi_0 (IntKind.u64.wrap r4)) (shr .u64 lo_1 (IntKind.u64.wrap (64 - (IntKind.u64.wrap r4))))), (shr .u64 (shl .u64 lo_1 (IntKind.u64.wrap r4)) 32), (band .u64 (shl .u64 lo_1 (IntKind.u64.wrap r4)) 4294967295), (IntKind.u64.wrap (Int.tdiv (bor .u64 (shl .u64 hi_0 (IntKind.u64.wrap r4)) (shr .u64 lo_1 (IntKind.u64.wrap (64 - (IntKind.u64.wrap r4))))) (shr .u64 (shl .u64 y_2 (IntKind.u64.wrap r4)) 32))), (IntKind.u64.wrap ((bor .u64 (shl .u64 hi_0 (IntKind.u64.wrap r4)) (shr .u64 lo_1 (IntKind.u64.wrap (64 - (IntKind.u64.wrap r4))))) - (IntKind.u64.wrap ((IntKind.u64.wrap (Int.tdiv (bor .u64 (shl .u64 hi_0 (IntKind.u64.wrap r4)) (shr .u64 lo_1 (IntKind.u64.wrap (64 - (IntKind.u64.wrap r4))))) (shr .u64 (shl .u64 y_2 (IntKind.u64.wrap r4)) 32))) * (shr .u64 (shl .u64 y_2 (IntKind.u64.wrap r4)) 32))))), rfl, hm⟩
      exact le_canon id (wV (wV (wV (wV (wV (wV (wV (wV (wV wk_none))))))))) heapWk0
     ·
      rintro n2 s ⟨y_2, s_8, yn1_9, yn0_10, un32_11, un1_13, un0_14, q1_15, rhat_16, rfl, hm⟩
      replace hm : bitsDiv64_B2 (bitsDiv64_L2 n2) y_2 s_8 yn1_9 yn0_10 un32_11 un1_13 un0_14 q1_15 rhat_16 = some r := hm
      unfold bitsDiv64_B2 at hm
      refine AWp.seq' ?_
      refine sr (N' := 128) rfl ?_
      iterate 12 first | refine pA ?_ | refine pB ?_
      refine fs ?_
      refine AWp.condM hm Z1 (fun _ hm => ?_) (fun _ hm => ?_)
      ·
       refine AWp.skip ?_
       refine normSeq ?_
       refine AWp.block ?_
       refine sr (N' := 192) rfl ?_
       iterate 3 refine pA ?_
       refine fs ?_
       refine sr (N' := 256) rfl ?_
       iterate 4 refine pA ?_
       refine fs ?_
       refine sr (N' := 320) rfl ?_
       iterate 2 refine pA ?_
       refine fs ?_
       refine AWp.condM hm Z1 (fun _ hm => ?_) (fun _ hm => ?_)
       ·
        refine AWp.exit ?_
        refine exitOther Zd ?_
        refine exitThen ?_
        refine exitHere ?_
        refine normJ ?_
        refine ⟨_, ?_, y_2, s_8, yn1_9, yn0_10, un32_11, un1_13, un0_14, (IntKind.u64.wrap (q1_15 - 1)), rfl, hm⟩
        exact le_canon id (wV (wV (wV (wV (wV (wV (wV (wV wk_none)))))))) heapWk0
       ·
        refine AWp.skip ?_
        refine normIn ?_
        refine normThen ?_
        refine ⟨_, ?_, y_2, s_8, yn1_9, yn0_10, un32_11, un1_13, un0_14, (IntKind.u64.wrap (q1_15 - 1)), (IntKind.u64.wrap (rhat_16 + yn1_9)), rfl, hm⟩
        exact le_canon id (wV (wV (wV (wV (wV (wV (wV (wV (wV wk_none))))))))) heapWk0
      ·
       refine AWp.exit ?_
       refine exitSeq ?_
       refine exitThen ?_
       refine exitHere ?_
       refine normJ ?_
       refine ⟨_, ?_, y_2, s_8, yn1_9, yn0_10, un32_11, un1_13, un0_14, q1_15, rfl, hm⟩
       exact le_canon id (wV (wV (wV (wV (wV (wV (wV (wV wk_none)))))))) heapWk0
    ·
     rintro s ⟨y_2, s_8, yn1_9, yn0_10, un32_11, un1_13, un0_14, q1_15, rfl, hm⟩
     unfold bitsDiv64_J3 at hm
     refine sr (N' := 128) rfl ?_
     iterate 9 refine pA ?_
     refine fs ?_
     refine sr (N' := 192) rfl ?_
     iterate 2 refine pA ?_
     obtain ⟨_, h10, hm⟩ := bnd hm
     refine pu rfl (ap_quo Z1 Z1 (chk_t h10)) ?_
     refine pA ?_
     refine fs ?_
     refine sr (N' := 256) rfl ?_
     iterate 6 refine pA ?_
     refine fs ?_
     refine AWp.seqJ (fun s => ∃ (y_2 : Int) (s_8 : Int) (un0_14 : Int) (q1_15 : Int) (un21_17 : Int) (q0_18 : Int), s = (⟨135, (fset (fset (fset (fset (fset (fset (fun _ => AV.any) 2 (.v (.int .u64 y_2))) 8 (.v (.int .u64 s_8))) 14 (.v (.int .u64 un0_14))) 15 (.v (.int .u64 q1_15))) 17 (.v (.int .u64 un21_17))) 18 (.v (.int .u64 q0_18))), ⟨nofresh, 64⟩⟩ : St) ∧ bitsDiv64_J4 y_2 s_8 un0_14 q1_15 un21_17 q0_18 = some r) ?_ ?_
     ·
      refine AWp.block ?_
      refine AWp.loopM (fun m s => ∃ (y_2 : Int) (s_8 : Int) (yn1_9 : Int) (yn0_10 : Int) (un0_14 : Int) (q1_15 : Int) (rhat_16 : Int) (un21_17 : Int) (q0_18 : Int), s = (⟨135, (fset (fset (fset (fset (fset (fset (fset (fset (fset (fun _ => AV.any) 2 (.v (.int .u64 y_2))) 8 (.v (.int .u64 s_8))) 9 (.v (.int .u64 yn1_9))) 10 (.v (.int .u64 yn0_10))) 14 (.v (.int .u64 un0_14))) 15 (.v (.int .u64 q1_15))) 16 (.v (.int .u64 rhat_16))) 17 (.v (.int .u64 un21_17))) 18 (.v (.int .u64 q0_18))), ⟨nofresh, 64⟩⟩ : St) ∧ bitsDiv64_L1 m y_2 s_8 yn1_9 yn0_10 un0_14 q1_15 rhat_16 un21_17 q0_18 = some r) FUEL ?_ ?_ ?_
      ·
       rintro s ⟨_, _, _, _, _, _, _, _, _, _, h⟩
       cases h
      ·
       refine ⟨_, ?_, y_2, s_8, yn1_9, yn0_10, un0_14, q1_15, (IntKind.u64.wrap ((IntKind.u64.wrap ((IntKind.u64.wrap ((IntKind.u64.wrap (un32_11 * 4294967296)) + un1_13)) - (IntKind.u64.wrap (q1_15 * y_2)))) - (IntKind.u64.wrap ((IntKind.u64.wrap (Int.tdiv (IntKind.u64.wrap ((IntKind.u64.wrap ((IntKind.u64.wrap (un32_11 * 4294967296)) + un1_13)) - (IntKind.u64.wrap (q1_15 * y_2)))) yn1_9)) * yn1_9)))), (IntKind.u64.wrap ((IntKind.u64.wrap ((IntKind.u64.wrap (un32_11 * 4294967296)) + un1_13)) - (IntKind.u64.wrap (q1_15 * y_2)))), (IntKind.u64.wrap (Int.tdiv (IntKind.u64.wrap ((IntKind.u64.wrap ((IntKind.u64.wrap (un32_11 * 4294967296)) + un1_13)) - (IntKind.u64.wrap (q1_15 * y_2)))) yn1_9)), rfl, hm⟩
       exact le_canon id (wV (wV (wV (wV (wV (wV (wV (wV (wV wk_none))))))))) heapWk0
      ·
       rintro n1 s ⟨y_2, s_8, yn1_9, yn0_10, un0_14, q1_15, rhat_16, un21_17, q0_18, rfl, hm⟩
       replace hm : bitsDiv64_B1 (bitsDiv64_L1 n1) y_2 s_8 yn1_9 yn0_10 un0_14 q1_15 rhat_16 un21_17 q0_18 = some r := hm
       unfold bitsDiv64_B1 at hm
       refine AWp.seq' ?_
       refine sr (N' := 128) rfl ?_
       iterate 12 first | refine pA ?_ | refine pB ?_
       refine fs ?_
       refine AWp.condM hm Z1 (fun _ hm => ?_) (fun _ hm => ?_)
       ·
        refine AWp.skip ?_
        refine normSeq ?_
        refine AWp.block ?_
        refine sr (N' := 192) rfl ?_
        iterate 3 refine pA ?_
        refine fs ?_
        refine sr (N' := 256) rfl ?_
        iterate 4 refine pA ?_
        refine fs ?_
        refine sr (N' := 320) rfl ?_
        iterate 2 refine pA ?_
        refine fs ?_
        refine AWp.condM hm Z1 (fun _ hm => ?_) (fun _ hm => ?_)
        ·
         refine AWp.exit ?_
         refine exitOther Zd ?_
         refine exitThen ?_
         refine exitHere ?_
         refine normJ ?_
         refine ⟨_, ?_, y_2, s_8, un0_14, q1_15, un21_17, (IntKind.u64.wrap (q0_18 - 1)), rfl, hm⟩
         exact le_canon id (wV (wV (wV (wV (wV (wV wk_none)))))) heapWk0
        ·
         refine AWp.skip ?_
         refine normIn ?_
         refine normThen ?_
         refine ⟨_, ?_, y_2, s_8, yn1_9, yn0_10, un0_14, q1_15, (IntKind.u64.wrap (rhat_16 + yn1_9)), un21_17, (IntKind.u64.wrap (q0_18 - 1)), rfl, hm⟩
         exact le_canon id (wV (wV (wV (wV (wV (wV (wV (wV (wV wk_none))))))))) heapWk0
       ·
        refine AWp.exit ?_
        refine exitSeq ?_
        refine exitThen ?_
        refine exitHere ?_
        refine normJ ?_
        refine ⟨_, ?_, y_2, s_8, un0_14, q1_15, un21_17, q0_18, rfl, hm⟩
        exact le_canon id (wV (wV (wV (wV (wV (wV wk_none)))))) heapWk0
     ·
      rintro s ⟨y_2, s_8, un0_14, q1_15, un21_17, q0_18, rfl, hm⟩
      unfold bitsDiv64_J4 at hm
      refine sr (N' := 128) rfl ?_
      iterate 13 refine pA ?_
      obtain ⟨_, h11, hm⟩ := bnd hm
      refine pu rfl (ap_shr Z1 Z1 (chk_t h11)) ?_
      iterate 2 refine pA ?_
      refine fs ?_
      refine AWp.ret ?_
      cases hm
      exact ret2D (.inr rfl) Tryz.results183 (td Z1 (.v _)) (td Z1 (.v _))
end Go.Proofs.YtkdohhmacfoolaaGreat
