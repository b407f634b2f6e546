/- Facts that the statement's proof is made of. No condition. -/
import Derived.Test.YtibnmlbjahcjmaaGreatZaGA2
set_option linter.unusedVariables false
set_option linter.unusedSimpArgs false
set_option maxRecDepth 20000
set_option maxHeartbeats 4000000
namespace Go.Proofs.YtibnmlbjahcjmaaGreat
open Go Go.AM
theorem fo23_0GA3 (i o : Nat) : afieldAddr Tryz.prog 23 (.adr i o) 0 = some (.adr i (o + 0)) := by kernel_rfl
attribute [go_sem] fo23_0GA3
theorem fo23_2GA3 (i o : Nat) : afieldAddr Tryz.prog 23 (.adr i o) 2 = some (.adr i (o + 2)) := by kernel_rfl
attribute [go_sem] fo23_2GA3
theorem fo27_0GA3 (i o : Nat) : afieldAddr Tryz.prog 27 (.adr i o) 0 = some (.adr i (o + 0)) := by kernel_rfl
attribute [go_sem] fo27_0GA3
theorem fo44_0GA3 (i o : Nat) : afieldAddr Tryz.prog 44 (.adr i o) 0 = some (.adr i (o + 0)) := by kernel_rfl
attribute [go_sem] fo44_0GA3
theorem fo44_1GA3 (i o : Nat) : afieldAddr Tryz.prog 44 (.adr i o) 1 = some (.adr i (o + 1)) := by kernel_rfl
attribute [go_sem] fo44_1GA3
theorem fo47_2GA3 (i o : Nat) : afieldAddr Tryz.prog 47 (.adr i o) 2 = some (.adr i (o + 2)) := by kernel_rfl
attribute [go_sem] fo47_2GA3
theorem fo88_0GA3 (i o : Nat) : afieldAddr Tryz.prog 88 (.adr i o) 0 = some (.adr i (o + 0)) := by kernel_rfl
attribute [go_sem] fo88_0GA3
theorem fo88_1GA3 (i o : Nat) : afieldAddr Tryz.prog 88 (.adr i o) 1 = some (.adr i (o + 1)) := by kernel_rfl
attribute [go_sem] fo88_1GA3
theorem fo88_2GA3 (i o : Nat) : afieldAddr Tryz.prog 88 (.adr i o) 2 = some (.adr i (o + 2)) := by kernel_rfl
attribute [go_sem] fo88_2GA3
theorem ld27GA3 (H : Heap) (x0 x1 x2 x3 x4 : AV) (xs : List AV) : aload Tryz.prog H 27 (.ptr (x0 :: x1 :: x2 :: x3 :: x4 :: xs)) = some (.agg [x0, x1, x2, x3, x4]) := by kernel_rfl
attribute [go_sem] ld27GA3
theorem ld3GA3 (H : Heap) (x : AV) (xs : List AV) : aload Tryz.prog H 3 (.ptr (x :: xs)) = some x := by kernel_rfl
attribute [go_sem] ld3GA3
theorem ld42GA3 (H : Heap) (x : AV) (xs : List AV) : aload Tryz.prog H 42 (.ptr (x :: xs)) = some x := by kernel_rfl
attribute [go_sem] ld42GA3
theorem ld44GA3 (H : Heap) (x0 x1 : AV) (xs : List AV) : aload Tryz.prog H 44 (.ptr (x0 :: x1 :: xs)) = some (.agg [x0, x1]) := by kernel_rfl
attribute [go_sem] ld44GA3
theorem ld47GA3 (H : Heap) (x0 x1 x2 : AV) (xs : List AV) : aload Tryz.prog H 47 (.ptr (x0 :: x1 :: x2 :: xs)) = some (.agg [x0, x1, x2]) := by kernel_rfl
attribute [go_sem] ld47GA3
theorem ld82GA3 (H : Heap) (x : AV) (xs : List AV) : aload Tryz.prog H 82 (.ptr (x :: xs)) = some x := by kernel_rfl
attribute [go_sem] ld82GA3
theorem ld88GA3 (H : Heap) (x0 x1 x2 : AV) (xs : List AV) : aload Tryz.prog H 88 (.ptr (x0 :: x1 :: x2 :: xs)) = some (.agg [x0, x1, x2]) := by kernel_rfl
attribute [go_sem] ld88GA3
theorem cv3_107GA3 (H : Heap) (k : IntKind) (n : Int) : aconv Tryz.prog H 3 107 (.v (.int k n)) = some (.v (.int .u64 (IntKind.u64.wrap n))) := aconv_int Tryz.underlying3 Tryz.underlying107
attribute [go_sem] cv3_107GA3
theorem cv42_3GA3 (H : Heap) (k : IntKind) (n : Int) : aconv Tryz.prog H 42 3 (.v (.int k n)) = some (.v (.int .i64 (IntKind.i64.wrap n))) := aconv_int Tryz.underlying42 Tryz.underlying3
attribute [go_sem] cv42_3GA3
def bitsMul64_m (x_0 : Int) (y_1 : Int) : Option (Int × Int) :=
 some ((IntKind.u64.wrap ((IntKind.u64.wrap ((IntKind.u64.wrap ((shr .u64 x_0 32) * (shr .u64 y_1 32))) + (shr .u64 (IntKind.u64.wrap ((IntKind.u64.wrap ((shr .u64 x_0 32) * (band .u64 y_1 4294967295))) + (shr .u64 (IntKind.u64.wrap ((band .u64 x_0 4294967295) * (band .u64 y_1 4294967295))) 32))) 32))) + (shr .u64 (IntKind.u64.wrap ((band .u64 (IntKind.u64.wrap ((IntKind.u64.wrap ((shr .u64 x_0 32) * (band .u64 y_1 4294967295))) + (shr .u64 (IntKind.u64.wrap ((band .u64 x_0 4294967295) * (band .u64 y_1 4294967295))) 32))) 4294967295) + (IntKind.u64.wrap ((band .u64 x_0 4294967295) * (shr .u64 y_1 32))))) 32))), (IntKind.u64.wrap (x_0 * y_1)))
theorem bitsMul64_c {x_0 : Int} {y_1 : Int} {r : Int × Int} (hm : bitsMul64_m x_0 y_1 = some r) : PureC Tryz.prog 111 [.v (.int .u64 x_0), .v (.int .u64 y_1)] (.tup [.v (.int .u64 r.1), .v (.int .u64 r.2)]) := by
 refine PureC.of_body Tryz.func111 rfl ?_
 simp only [Tryz.ntmps111, List.length_cons, List.length_nil, Nat.reduceAdd, Nat.reduceSub, empty_eq]
 unfold bitsMul64_m at hm
 refine sr (N' := 64) rfl ?_
 iterate 2 refine pA ?_
 refine fs ?_
 refine sr (N' := 128) rfl ?_
 iterate 3 refine pA ?_
 refine fs ?_
 refine sr (N' := 192) rfl ?_
 iterate 3 refine pu rfl (by simp only [go_sem, Nat.reduceBEq, Int.reduceEq, Int.reduceLE]; try with_reducible rfl) ?_
 refine fs ?_
 refine sr (N' := 256) rfl ?_
 iterate 3 refine pA ?_
 refine fs ?_
 refine sr (N' := 320) rfl ?_
 iterate 3 refine pu rfl (by simp only [go_sem, Nat.reduceBEq, Int.reduceEq, Int.reduceLE]; try with_reducible rfl) ?_
 refine fs ?_
 refine sr (N' := 384) rfl ?_
 iterate 4 refine pA ?_
 refine fs ?_
 refine sr (N' := 448) rfl ?_
 iterate 7 refine pu rfl (by simp only [go_sem, Nat.reduceBEq, Int.reduceEq, Int.reduceLE]; try with_reducible rfl) ?_
 refine fs ?_
 refine sr (N' := 512) rfl ?_
 iterate 3 refine pA ?_
 refine fs ?_
 refine sr (N' := 576) rfl ?_
 iterate 3 refine pu rfl (by simp only [go_sem, Nat.reduceBEq, Int.reduceEq, Int.reduceLE]; try with_reducible rfl) ?_
 refine fs ?_
 refine sr (N' := 640) rfl ?_
 iterate 6 refine pA ?_
 refine fs ?_
 refine sr (N' := 704) rfl ?_
 iterate 9 refine pu rfl (by simp only [go_sem, Nat.reduceBEq, Int.reduceEq, Int.reduceLE]; try with_reducible rfl) ?_
 refine fs ?_
 refine sr (N' := 768) rfl ?_
 iterate 4 refine pA ?_
 refine fs ?_
 refine AWp.ret ?_
 cases hm
 exact ret2D (.inr rfl) Tryz.results111 (td Z1 (.v _)) (td Z1 (.v _))
def bitsLeadingZeros64_m (x_0 : Int) : Option (Int) :=
 ((bitsLen64_m x_0).bind fun r2 =>
 some (IntKind.i64.wrap (64 - r2)))
theorem bitsLeadingZeros64_c {x_0 : Int} {r : Int} (hm : bitsLeadingZeros64_m x_0 = some r) : PureC Tryz.prog 114 [.v (.int .u64 x_0)] (.v (.int .i64 r)) := by
 refine PureC.of_body Tryz.func114 rfl ?_
 simp only [Tryz.ntmps114, List.length_cons, List.length_nil, Nat.reduceAdd, Nat.reduceSub, empty_eq]
 unfold bitsLeadingZeros64_m at hm
 refine sr (N' := 64) rfl ?_
 refine pA ?_
 refine fs ?_
 refine sr (N' := 128) rfl ?_
 refine pA ?_
 obtain ⟨r2, h1, hm⟩ := bnd hm
 refine ARun.callQ (r := .v (.int .i64 r2)) Zd Z1 fb104 (fun H => (cV .nil)) (bitsLen64_c h1) ?_
 iterate 2 refine pA ?_
 refine fs ?_
 refine AWp.ret ?_
 cases hm
 exact ret1D (.inr rfl) Tryz.results114 (td Z1 (.v _))
def bitsDiv64_J4 (y_2 : Int) (s_8 : Int) (un0_14 : Int) (q1_15 : Int) (un21_17 : Int) (q0_18 : Int) : Option (Int × Int) :=
 ((chk (decide (0 ≤ s_8))).bind fun _ =>
 some ((IntKind.u64.wrap ((IntKind.u64.wrap (q1_15 * 4294967296)) + q0_18)), (shr .u64 (IntKind.u64.wrap ((IntKind.u64.wrap ((IntKind.u64.wrap (un21_17 * 4294967296)) + un0_14)) - (IntKind.u64.wrap (q0_18 * y_2)))) s_8)))
def bitsDiv64_B1 (rec1 : Int → Int → Int → Int → Int → Int → Int → Int → Int → Option (Int × Int)) (y_2 : Int) (s_8 : Int) (yn1_9 : Int) (yn0_10 : Int) (un0_14 : Int) (q1_15 : Int) (rhat_16 : Int) (un21_17 : Int) (q0_18 : Int) : Option (Int × Int) :=
 (bif ((decide (4294967296 ≤ q0_18)) || (decide ((IntKind.u64.wrap ((IntKind.u64.wrap (4294967296 * rhat_16)) + un0_14)) < (IntKind.u64.wrap (q0_18 * yn0_10))))) then
  (bif (decide (4294967296 ≤ (IntKind.u64.wrap (rhat_16 + yn1_9)))) then
   bitsDiv64_J4 y_2 s_8 un0_14 q1_15 un21_17 (IntKind.u64.wrap (q0_18 - 1))
  else
   rec1 y_2 s_8 yn1_9 yn0_10 un0_14 q1_15 (IntKind.u64.wrap (rhat_16 + yn1_9)) un21_17 (IntKind.u64.wrap (q0_18 - 1)))
 else
  bitsDiv64_J4 y_2 s_8 un0_14 q1_15 un21_17 q0_18)
def bitsDiv64_L1 : Nat → Int → Int → Int → Int → Int → Int → Int → Int → Int → Option (Int × Int)
 | 0 => fun _ _ _ _ _ _ _ _ _ => none
 | n + 1 => bitsDiv64_B1 (bitsDiv64_L1 n)
def bitsDiv64_J3 (y_2 : Int) (s_8 : Int) (yn1_9 : Int) (yn0_10 : Int) (un32_11 : Int) (un1_13 : Int) (un0_14 : Int) (q1_15 : Int) : Option (Int × Int) :=
 ((chk (yn1_9 != 0)).bind fun _ =>
 bitsDiv64_L1 FUEL y_2 s_8 yn1_9 yn0_10 un0_14 q1_15 (IntKind.u64.wrap ((IntKind.u64.wrap ((IntKind.u64.wrap ((IntKind.u64.wrap (un32_11 * 4294967296)) + un1_13)) - (IntKind.u64.wrap (q1_15 * y_2)))) - (IntKind.u64.wrap ((IntKind.u64.wrap (Int.tdiv (IntKind.u64.wrap ((IntKind.u64.wrap ((IntKind.u64.wrap (un32_11 * 4294967296)) + un1_13)) - (IntKind.u64.wrap (q1_15 * y_2)))) yn1_9)) * yn1_9)))) (IntKind.u64.wrap ((IntKind.u64.wrap ((IntKind.u64.wrap (un32_11 * 4294967296)) + un1_13)) - (IntKind.u64.wrap (q1_15 * y_2)))) (IntKind.u64.wrap (Int.tdiv (IntKind.u64.wrap ((IntKind.u64.wrap ((IntKind.u64.wrap (un32_11 * 4294967296)) + un1_13)) - (IntKind.u64.wrap (q1_15 * y_2)))) yn1_9)))
def bitsDiv64_B2 (rec2 : Int → Int → Int → Int → Int → Int → Int → Int → Int → Option (Int × Int)) (y_2 : Int) (s_8 : Int) (yn1_9 : Int) (yn0_10 : Int) (un32_11 : Int) (un1_13 : Int) (un0_14 : Int) (q1_15 : Int) (rhat_16 : Int) : Option (Int × Int) :=
 (bif ((decide (4294967296 ≤ q1_15)) || (decide ((IntKind.u64.wrap ((IntKind.u64.wrap (4294967296 * rhat_16)) + un1_13)) < (IntKind.u64.wrap (q1_15 * yn0_10))))) then
  (bif (decide (4294967296 ≤ (IntKind.u64.wrap (rhat_16 + yn1_9)))) then
   bitsDiv64_J3 y_2 s_8 yn1_9 yn0_10 un32_11 un1_13 un0_14 (IntKind.u64.wrap (q1_15 - 1))
  else
   rec2 y_2 s_8 yn1_9 yn0_10 un32_11 un1_13 un0_14 (IntKind.u64.wrap (q1_15 - 1)) (IntKind.u64.wrap (rhat_16 + yn1_9)))
 else
  bitsDiv64_J3 y_2 s_8 yn1_9 yn0_10 un32_11 un1_13 un0_14 q1_15)
def bitsDiv64_L2 : Nat → Int → Int → Int → Int → Int → Int → Int → Int → Int → Option (Int × Int)
 | 0 => fun _ _ _ _ _ _ _ _ _ => none
 | n + 1 => bitsDiv64_B2 (bitsDiv64_L2 n)
def bitsDiv64_J2 (hi_0 : Int) (lo_1 : Int) (y_2 : Int) : Option (Int × Int) :=
 (bif (hi_0 == 0) then
  ((chk (y_2 != 0)).bind fun _ =>
  ((chk (y_2 != 0)).bind fun _ =>
  some ((IntKind.u64.wrap (Int.tdiv lo_1 y_2)), (Int.tmod lo_1 y_2))))
 else
  ((bitsLeadingZeros64_m y_2).bind fun r4 =>
  ((chk (decide (0 ≤ (IntKind.u64.wrap r4)))).bind fun _ =>
  ((chk (decide (0 ≤ (IntKind.u64.wrap r4)))).bind fun _ =>
  ((chk (decide (0 ≤ (IntKind.u64.wrap (64 - (IntKind.u64.wrap r4)))))).bind fun _ =>
  ((chk (decide (0 ≤ (IntKind.u64.wrap r4)))).bind fun _ =>
  ((chk ((shr .u64 (shl .u64 y_2 (IntKind.u64.wrap r4)) 32) != 0)).bind fun _ =>
  bitsDiv64_L2 FUEL (shl .u64 y_2 (IntKind.u64.wrap r4)) (IntKind.u64.wrap r4) (shr .u64 (shl .u64 y_2 (IntKind.u64.wrap r4)) 32) (band .u64 (shl .u64 y_2 (IntKind.u64.wrap r4)) 4294967295) (bor .u64 (shl .u64 hi_0 (IntKind.u64.wrap r4)) (shr .u64 lo_1 (IntKind.u64.wrap (64 - (IntKind.u64.wrap r4))))) (shr .u64 (shl .u64 lo_1 (IntKind.u64.wrap r4)) 32) (band .u64 (shl .u64 lo_1 (IntKind.u64.wrap r4)) 4294967295) (IntKind.u64.wrap (Int.tdiv (bor .u64 (shl .u64 hi_0 (IntKind.u64.wrap r4)) (shr .u64 lo_1 (IntKind.u64.wrap (64 - (IntKind.u64.wrap r4))))) (shr .u64 (shl .u64 y_2 (IntKind.u64.wrap r4)) 32))) (IntKind.u64.wrap ((bor .u64 (shl .u64 hi_0 (IntKind.u64.wrap r4)) (shr .u64 lo_1 (IntKind.u64.wrap (64 - (IntKind.u64.wrap r4))))) - (IntKind.u64.wrap ((IntKind.u64.wrap (Int.tdiv (bor .u64 (shl .u64 hi_0 (IntKind.u64.wrap r4)) (shr .u64 lo_1 (IntKind.u64.wrap (64 - (IntKind.u64.wrap r4))))) (shr .u64 (shl .u64 y_2 (IntKind.u64.wrap r4)) 32))) * (shr .u64 (shl .u64 y_2 (IntKind.u64.wrap r4)) 32))))))))))))
def bitsDiv64_J1 (hi_0 : Int) (lo_1 : Int) (y_2 : Int) : Option (Int × Int) :=
 (bif (decide (y_2 ≤ hi_0)) then
  none
 else
  bitsDiv64_J2 hi_0 lo_1 y_2)
def bitsDiv64_m (hi_0 : Int) (lo_1 : Int) (y_2 : Int) : Option (Int × Int) :=
 (bif (y_2 == 0) then
  none
 else
  bitsDiv64_J1 hi_0 lo_1 y_2)
theorem bitsDiv64_c {hi_0 : Int} {lo_1 : Int} {y_2 : Int} {r : Int × Int} (hm : bitsDiv64_m hi_0 lo_1 y_2 = some r) : PureC Tryz.prog 113 [.v (.int .u64 hi_0), .v (.int .u64 lo_1), .v (.int .u64 y_2)] (.tup [.v (.int .u64 r.1), .v (.int .u64 r.2)]) := by
 refine PureC.of_body Tryz.func113 rfl ?_
 simp only [Tryz.ntmps113, List.length_cons, List.length_nil, Nat.reduceAdd, Nat.reduceSub, empty_eq]
 unfold bitsDiv64_m at hm
 refine sr (N' := 64) rfl ?_
 iterate 2 refine pA ?_
 refine fs ?_
 refine AWp.seqJ (fun s => ∃ (hi_0 : Int) (lo_1 : Int) (y_2 : Int), s = (⟨135, (fset (fset (fset (fun _ => AV.any) 0 (.v (.int .u64 hi_0))) 1 (.v (.int .u64 lo_1))) 2 (.v (.int .u64 y_2))), ⟨nofresh, 64⟩⟩ : St) ∧ bitsDiv64_J1 hi_0 lo_1 y_2 = some r) ?_ ?_
 ·
  refine sr (N' := 128) rfl ?_
  iterate 2 refine pA ?_
  refine fs ?_
  refine AWp.condM hm Z1 (fun _ hm => ?_) (fun _ hm => ?_)
  ·
   cases hm
  ·
   refine AWp.skip ?_
   refine normJ ?_
   refine ⟨_, ?_, hi_0, lo_1, y_2, rfl, hm⟩
   exact le_canon id (wV (wV (wV wk_none))) heapWk0
 ·
  rintro s ⟨hi_0, lo_1, y_2, rfl, hm⟩
  unfold bitsDiv64_J1 at hm
  refine AWp.seqJ (fun s => ∃ (hi_0 : Int) (lo_1 : Int) (y_2 : Int), s = (⟨135, (fset (fset (fset (fun _ => AV.any) 0 (.v (.int .u64 hi_0))) 1 (.v (.int .u64 lo_1))) 2 (.v (.int .u64 y_2))), ⟨nofresh, 64⟩⟩ : St) ∧ bitsDiv64_J2 hi_0 lo_1 y_2 = some r) ?_ ?_
  ·
   refine sr (N' := 128) rfl ?_
   iterate 3 refine pA ?_
   refine fs ?_
   refine AWp.condM hm Z1 (fun _ hm => ?_) (fun _ hm => ?_)
   ·
    cases hm
   ·
    refine AWp.skip ?_
    refine normJ ?_
    refine ⟨_, ?_, hi_0, lo_1, y_2, rfl, hm⟩
    exact le_canon id (wV (wV (wV wk_none))) heapWk0
  ·
   rintro s ⟨hi_0, lo_1, y_2, rfl, hm⟩
   unfold bitsDiv64_J2 at hm
   refine AWp.seq' ?_
   refine sr (N' := 128) rfl ?_
   iterate 2 refine pA ?_
   refine fs ?_
   refine AWp.condM hm Z1 (fun _ hm => ?_) (fun _ hm => ?_)
   ·
    refine sd mix (by kernel_rfl) (N' := 192) rfl ?_
    iterate 2 refine pA ?_
    obtain ⟨_, h1, hm⟩ := bnd hm
    refine pu rfl (ap_quo Z1 Z1 (chk_t h1)) ?_
    iterate 2 refine pA ?_
    obtain ⟨_, h2, hm⟩ := bnd hm
    refine pu rfl (ap_rem Z1 Z1 (chk_t h2)) ?_
    iterate 2 refine pA ?_
    refine fs ?_
    refine AWp.ret ?_
    refine retSeq ?_
    cases hm
    exact ret2D (.inr rfl) Tryz.results113 (td Z1 (.v _)) (td Z1 (.v _))
   ·
    refine AWp.skip ?_
    refine normSeq ?_
    refine sr (N' := 192) rfl ?_
    refine pA ?_
    obtain ⟨r4, h3, hm⟩ := bnd hm
    refine ARun.callQ (r := .v (.int .i64 r4)) Zd Z1 fb114 (fun H => (cV .nil)) (bitsLeadingZeros64_c h3) ?_
    iterate 2 refine pA ?_
    refine fs ?_
    refine sr (N' := 256) rfl ?_
    iterate 2 refine pA ?_
    obtain ⟨_, h5, hm⟩ := bnd hm
    refine pu rfl (ap_shl Z1 Z1 (chk_t h5)) ?_
    refine pA ?_
    refine fs ?_
    refine sr (N' := 320) rfl ?_
    iterate 3 refine pu rfl (by simp only [go_sem, Nat.reduceBEq, Int.reduceEq, Int.reduceLE]; try with_reducible rfl) ?_
    refine fs ?_
    refine sr (N' := 384) rfl ?_
    iterate 3 refine pA ?_
    refine fs ?_
    refine sr (N' := 448) rfl ?_
    iterate 2 refine pA ?_
    obtain ⟨_, h6, hm⟩ := bnd hm
    refine pu rfl (ap_shl Z1 Z1 (chk_t h6)) ?_
    iterate 3 refine pA ?_
    obtain ⟨_, h7, hm⟩ := bnd hm
    refine pu rfl (ap_shr Z1 Z1 (chk_t h7)) ?_
    iterate 2 refine pA ?_
    refine fs ?_
    refine sr (N' := 512) rfl ?_
    iterate 2 refine pA ?_
    obtain ⟨_, h8, hm⟩ := bnd hm
    refine pu rfl (ap_shl Z1 Z1 (chk_t h8)) ?_
    refine pA ?_
    refine fs ?_
    refine sr (N' := 576) rfl ?_
    iterate 3 refine pu rfl (by simp only [go_sem, Nat.reduceBEq, Int.reduceEq, Int.reduceLE]; try with_reducible rfl) ?_
    refine fs ?_
    refine sr (N' := 640) rfl ?_
    iterate 3 refine pA ?_
    refine fs ?_
    refine sr (N' := 704) rfl ?_
    iterate 2 refine pA ?_
    obtain ⟨_, h9, hm⟩ := bnd hm
    refine pu rfl (ap_quo Z1 Z1 (chk_t h9)) ?_
    refine pA ?_
    refine fs ?_
    refine sr (N' := 768) rfl ?_
    iterate 6 refine pA ?_
    refine fs ?_
    refine AWp.seqJ (fun s => ∃ (y_2 : Int) (s_8 : Int) (yn1_9 : Int) (yn0_10 : Int) (un32_11 : Int) (un1_13 : Int) (un0_14 : Int) (q1_15 : Int), s = (⟨135, (fset (fset (fset (fset (fset (fset (fset (fset (fun _ => AV.any) 2 (.v (.int .u64 y_2))) 8 (.v (.int .u64 s_8))) 9 (.v (.int .u64 yn1_9))) 10 (.v (.int .u64 yn0_10))) 11 (.v (.int .u64 un32_11))) 13 (.v (.int .u64 un1_13))) 14 (.v (.int .u64 un0_14))) 15 (.v (.int .u64 q1_15))), ⟨nofresh, 64⟩⟩ : St) ∧ bitsDiv64_J3 y_2 s_8 yn1_9 yn0_10 un32_11 un1_13 un0_14 q1_15 = some r) ?_ ?_
    ·
     refine AWp.block ?_
     refine AWp.loopM (fun m s => ∃ (y_2 : Int) (s_8 : Int) (yn1_9 : Int) (yn0_10 : Int) (un32_11 : Int) (un1_13 : Int) (un0_14 : Int) (q1_15 : Int) (rhat_16 : Int), s = (⟨135, (fset (fset (fset (fset (fset (fset (fset (fset (fset (fun _ => AV.any) 2 (.v (.int .u64 y_2))) 8 (.v (.int .u64 s_8))) 9 (.v (.int .u64 yn1_9))) 10 (.v (.int .u64 yn0_10))) 11 (.v (.int .u64 un32_11))) 13 (.v (.int .u64 un1_13))) 14 (.v (.int .u64 un0_14))) 15 (.v (.int .u64 q1_15))) 16 (.v (.int .u64 rhat_16))), ⟨nofresh, 64⟩⟩ : St) ∧ bitsDiv64_L2 m y_2 s_8 yn1_9 yn0_10 un32_11 un1_13 un0_14 q1_15 rhat_16 = some r) FUEL ?_ ?_ ?_
     ·
      rintro s ⟨_, _, _, _, _, _, _, _, _, _, h⟩
      cases h
     ·
      refine ⟨_, ?_, (shl .u64 y_2 (IntKind.u64.wrap r4)), (IntKind.u64.wrap r4), (shr .u64 (shl .u64 y_2 (IntKind.u64.wrap r4)) 32), (band .u64 (shl .u64 y_2 (IntKind.u64.wrap r4)) 4294967295), (bor .u64 (shl .u64 hi_0 (IntKind.u64.wrap r4)) (shr .u64 lo_1 (IntKind.u64.wrap (64 - (IntKind.u64.wrap r4))))), (shr .u64 (shl .u64 lo_1 (IntKind.u64.wrap r4)) 32), (band .u64 (shl .u64 lo_1 (IntKind.u64.wrap r4)) 4294967295), (IntKind.u64.wrap (Int.tdiv (bor .u64 (shl .u64 hi_0 (IntKind.u64.wrap r4)) (shr .u64 lo_1 (IntKind.u64.wrap (64 - (IntKind.u64.wrap r4))))) (shr .u64 (shl .u64 y_2 (IntKind.u64.wrap r4)) 32))), (IntKind.u64.wrap ((bor .u64 (shl .u64 hi_0 (IntKind.u64.wrap r4)) (shr .u64 lo_1 (IntKind.u64.wrap (64 - (IntKind.u64.wrap r4))))) - (IntKind.u64.wrap ((IntKind.u64.wrap (Int.tdiv (bor .u64 (shl .u64 hi_0 (IntKind.u64.wrap r4)) (shr .u64 lo_1 (IntKind.u64.wrap (64 - (IntKind.u64.wrap r4))))) (shr .u64 (shl .u64 y_2 (IntKind.u64.wrap r4)) 32))) * (shr .u64 (shl .u64 y_2 (IntKind.u64.wrap r4)) 32))))), rfl, hm⟩
      exact le_canon id (wV (wV (wV (wV (wV (wV (wV (wV (wV wk_none))))))))) heapWk0
     ·
      rintro n2 s ⟨y_2, s_8, yn1_9, yn0_10, un32_11, un1_13, un0_14, q1_15, rhat_16, rfl, hm⟩
      replace hm : bitsDiv64_B2 (bitsDiv64_L2 n2) y_2 s_8 yn1_9 yn0_10 un32_11 un1_13 un0_14 q1_15 rhat_16 = some r := hm
      unfold bitsDiv64_B2 at hm
      refine AWp.seq' ?_
      refine sr (N' := 128) rfl ?_
      iterate 12 first | refine pA ?_ | refine pB ?_
      refine fs ?_
      refine AWp.condM hm Z1 (fun _ hm => ?_) (fun _ hm => ?_)
      ·
       refine AWp.skip ?_
       refine normSeq ?_
       refine AWp.block ?_
       refine sr (N' := 192) rfl ?_
       iterate 3 refine pA ?_
       refine fs ?_
       refine sr (N' := 256) rfl ?_
       iterate 4 refine pA ?_
       refine fs ?_
       refine sr (N' := 320) rfl ?_
       iterate 2 refine pA ?_
       refine fs ?_
       refine AWp.condM hm Z1 (fun _ hm => ?_) (fun _ hm => ?_)
       ·
        refine AWp.exit ?_
        refine exitOther Zd ?_
        refine exitThen ?_
        refine exitHere ?_
        refine normJ ?_
        refine ⟨_, ?_, y_2, s_8, yn1_9, yn0_10, un32_11, un1_13, un0_14, (IntKind.u64.wrap (q1_15 - 1)), rfl, hm⟩
        exact le_canon id (wV (wV (wV (wV (wV (wV (wV (wV wk_none)))))))) heapWk0
       ·
        refine AWp.skip ?_
        refine normIn ?_
        refine normThen ?_
        refine ⟨_, ?_, y_2, s_8, yn1_9, yn0_10, un32_11, un1_13, un0_14, (IntKind.u64.wrap (q1_15 - 1)), (IntKind.u64.wrap (rhat_16 + yn1_9)), rfl, hm⟩
        exact le_canon id (wV (wV (wV (wV (wV (wV (wV (wV (wV wk_none))))))))) heapWk0
      ·
       refine AWp.exit ?_
       refine exitSeq ?_
       refine exitThen ?_
       refine exitHere ?_
       refine normJ ?_
       refine ⟨_, ?_, y_2, s_8, yn1_9, yn0_10, un32_11, un1_13, un0_14, q1_15, rfl, hm⟩
       exact le_canon id (wV (wV (wV (wV (wV (wV (wV (wV wk_none)))))))) heapWk0
    ·
     rintro s ⟨y_2, s_8, yn1_9, yn0_10, un32_11, un1_13, un0_14, q1_15, rfl, hm⟩
     unfold bitsDiv64_J3 at hm
     refine sr (N' := 128) rfl ?_
     iterate 9 refine pA ?_
     refine fs ?_
     refine sr (N' := 192) rfl ?_
     iterate 2 refine pA ?_
     obtain ⟨_, h10, hm⟩ := bnd hm
     refine pu rfl (ap_quo Z1 Z1 (chk_t h10)) ?_
     refine pA ?_
     refine fs ?_
     refine sr (N' := 256) rfl ?_
     iterate 6 refine pA ?_
     refine fs ?_
     refine AWp.seqJ (fun s => ∃ (y_2 : Int) (s_8 : Int) (un0_14 : Int) (q1_15 : Int) (un21_17 : Int) (q0_18 : Int), s = (⟨135, (fset (fset (fset (fset (fset (fset (fun _ => AV.any) 2 (.v (.int .u64 y_2))) 8 (.v (.int .u64 s_8))) 14 (.v (.int .u64 un0_14))) 15 (.v (.int .u64 q1_15))) 17 (.v (.int .u64 un21_17))) 18 (.v (.int .u64 q0_18))), ⟨nofresh, 64⟩⟩ : St) ∧ bitsDiv64_J4 y_2 s_8 un0_14 q1_15 un21_17 q0_18 = some r) ?_ ?_
     ·
      refine AWp.block ?_
      refine AWp.loopM (fun m s => ∃ (y_2 : Int) (s_8 : Int) (yn1_9 : Int) (yn0_10 : Int) (un0_14 : Int) (q1_15 : Int) (rhat_16 : Int) (un21_17 : Int) (q0_18 : Int), s = (⟨135, (fset (fset (fset (fset (fset (fset (fset (fset (fset (fun _ => AV.any) 2 (.v (.int .u64 y_2))) 8 (.v (.int .u64 s_8))) 9 (.v (.int .u64 yn1_9))) 10 (.v (.int .u64 yn0_10))) 14 (.v (.int .u64 un0_14))) 15 (.v (.int .u64 q1_15))) 16 (.v (.int .u64 rhat_16))) 17 (.v (.int .u64 un21_17))) 18 (.v (.int .u64 q0_18))), ⟨nofresh, 64⟩⟩ : St) ∧ bitsDiv64_L1 m y_2 s_8 yn1_9 yn0_10 un0_14 q1_15 rhat_16 un21_17 q0_18 = some r) FUEL ?_ ?_ ?_
      ·
       rintro s ⟨_, _, _, _, _, _, _, _, _, _, h⟩
       cases h
      ·
       refine ⟨_, ?_, y_2, s_8, yn1_9, yn0_10, un0_14, q1_15, (IntKind.u64.wrap ((IntKind.u64.wrap ((IntKind.u64.wrap ((IntKind.u64.wrap (un32_11 * 4294967296)) + un1_13)) - (IntKind.u64.wrap (q1_15 * y_2)))) - (IntKind.u64.wrap ((IntKind.u64.wrap (Int.tdiv (IntKind.u64.wrap ((IntKind.u64.wrap ((IntKind.u64.wrap (un32_11 * 4294967296)) + un1_13)) - (IntKind.u64.wrap (q1_15 * y_2)))) yn1_9)) * yn1_9)))), (IntKind.u64.wrap ((IntKind.u64.wrap ((IntKind.u64.wrap (un32_11 * 4294967296)) + un1_13)) - (IntKind.u64.wrap (q1_15 * y_2)))), (IntKind.u64.wrap (Int.tdiv (IntKind.u64.wrap ((IntKind.u64.wrap ((IntKind.u64.wrap (un32_11 * 4294967296)) + un1_13)) - (IntKind.u64.wrap (q1_15 * y_2)))) yn1_9)), rfl, hm⟩
       exact le_canon id (wV (wV (wV (wV (wV (wV (wV (wV (wV wk_none))))))))) heapWk0
      ·
       rintro n1 s ⟨y_2, s_8, yn1_9, yn0_10, un0_14, q1_15, rhat_16, un21_17, q0_18, rfl, hm⟩
       replace hm : bitsDiv64_B1 (bitsDiv64_L1 n1) y_2 s_8 yn1_9 yn0_10 un0_14 q1_15 rhat_16 un21_17 q0_18 = some r := hm
       unfold bitsDiv64_B1 at hm
       refine AWp.seq' ?_
       refine sr (N' := 128) rfl ?_
       iterate 12 first | refine pA ?_ | refine pB ?_
       refine fs ?_
       refine AWp.condM hm Z1 (fun _ hm => ?_) (fun _ hm => ?_)
       ·
        refine AWp.skip ?_
        refine normSeq ?_
        refine AWp.block ?_
        refine sr (N' := 192) rfl ?_
        iterate 3 refine pA ?_
        refine fs ?_
        refine sr (N' := 256) rfl ?_
        iterate 4 refine pA ?_
        refine fs ?_
        refine sr (N' := 320) rfl ?_
        iterate 2 refine pA ?_
        refine fs ?_
        refine AWp.condM hm Z1 (fun _ hm => ?_) (fun _ hm => ?_)
        ·
         refine AWp.exit ?_
         refine exitOther Zd ?_
         refine exitThen ?_
         refine exitHere ?_
         refine normJ ?_
         refine ⟨_, ?_, y_2, s_8, un0_14, q1_15, un21_17, (IntKind.u64.wrap (q0_18 - 1)), rfl, hm⟩
         exact le_canon id (wV (wV (wV (wV (wV (wV wk_none)))))) heapWk0
        ·
         refine AWp.skip ?_
         refine normIn ?_
         refine normThen ?_
         refine ⟨_, ?_, y_2, s_8, yn1_9, yn0_10, un0_14, q1_15, (IntKind.u64.wrap (rhat_16 + yn1_9)), un21_17, (IntKind.u64.wrap (q0_18 - 1)), rfl, hm⟩
         exact le_canon id (wV (wV (wV (wV (wV (wV (wV (wV (wV wk_none))))))))) heapWk0
       ·
        refine AWp.exit ?_
        refine exitSeq ?_
        refine exitThen ?_
        refine exitHere ?_
        refine normJ ?_
        refine ⟨_, ?_, y_2, s_8, un0_14, q1_15, un21_17, q0_18, rfl, hm⟩
        exact le_canon id (wV (wV (wV (wV (wV (wV wk_none)))))) heapWk0
     ·
      rintro s ⟨y_2, s_8, un0_14, q1_15, un21_17, q0_18, rfl, hm⟩
      unfold bitsDiv64_J4 at hm
      refine sr (N' := 128) rfl ?_
      iterate 13 refine pA ?_
      obtain ⟨_, h11, hm⟩ := bnd hm
      refine pu rfl (ap_shr Z1 Z1 (chk_t h11)) ?_
      iterate 2 refine pA ?_
      refine fs ?_
      refine AWp.ret ?_
      cases hm
      exact ret2D (.inr rfl) Tryz.results113 (td Z1 (.v _)) (td Z1 (.v _))
def bitsRem64_m (hi_0 : Int) (lo_1 : Int) (y_2 : Int) : Option (Int) :=
 ((chk (y_2 != 0)).bind fun _ =>
 ((bitsDiv64_m (Int.tmod hi_0 y_2) lo_1 y_2).bind fun ⟨r3, r4⟩ =>
 some r4))
theorem bitsRem64_c {hi_0 : Int} {lo_1 : Int} {y_2 : Int} {r : Int} (hm : bitsRem64_m hi_0 lo_1 y_2 = some r) : PureC Tryz.prog 112 [.v (.int .u64 hi_0), .v (.int .u64 lo_1), .v (.int .u64 y_2)] (.v (.int .u64 r)) := by
 refine PureC.of_body Tryz.func112 rfl ?_
 simp only [Tryz.ntmps112, List.length_cons, List.length_nil, Nat.reduceAdd, Nat.reduceSub, empty_eq]
 unfold bitsRem64_m at hm
 refine sr (N' := 64) rfl ?_
 refine pA ?_
 refine fs ?_
 refine sr (N' := 128) rfl ?_
 iterate 2 refine pA ?_
 obtain ⟨_, h1, hm⟩ := bnd hm
 refine pu rfl (ap_rem Z1 Z1 (chk_t h1)) ?_
 iterate 2 refine pA ?_
 obtain ⟨⟨r3, r4⟩, h2, hm⟩ := bnd hm
 refine ARun.callQ (r := .tup [.v (.int .u64 r3), .v (.int .u64 r4)]) Zd Z1 fb113 (fun H => (cV (cV (cV .nil)))) (bitsDiv64_c h2) ?_
 iterate 5 refine pA ?_
 refine fs ?_
 refine sr (N' := 192) rfl ?_
 iterate 2 refine pA ?_
 refine fs ?_
 refine AWp.ret ?_
 cases hm
 exact ret1D (.inr rfl) Tryz.results112 (td Z1 (.v _))
def modMul_m (a_0 : Int) (b_1 : Int) : Option (Int) :=
 ((modOf_m a_0).bind fun r2 =>
 ((modOf_m b_1).bind fun r4 =>
 ((bitsMul64_m r2 r4).bind fun ⟨r6, r7⟩ =>
 ((bitsRem64_m r6 r7 2305843009213693951).bind fun r9 =>
 some r9))))
theorem modMul_c {a_0 : Int} {b_1 : Int} {r : Int} (hm : modMul_m a_0 b_1 = some r) : PureC Tryz.prog 109 [.v (.int .u64 a_0), .v (.int .u64 b_1)] (.v (.int .u64 r)) := by
 refine PureC.of_body Tryz.func109 rfl ?_
 simp only [Tryz.ntmps109, List.length_cons, List.length_nil, Nat.reduceAdd, Nat.reduceSub, empty_eq]
 unfold modMul_m at hm
 refine sr (N' := 64) rfl ?_
 refine pA ?_
 refine fs ?_
 refine sr (N' := 128) rfl ?_
 refine pA ?_
 obtain ⟨r2, h1, hm⟩ := bnd hm
 refine ARun.callQ (r := .v (.int .u64 r2)) Zd Z1 fb110 (fun H => (cV .nil)) (modOf_c h1) ?_
 refine pA ?_
 obtain ⟨r4, h3, hm⟩ := bnd hm
 refine ARun.callQ (r := .v (.int .u64 r4)) Zd Z1 fb110 (fun H => (cV .nil)) (modOf_c h3) ?_
 obtain ⟨⟨r6, r7⟩, h5, hm⟩ := bnd hm
 refine ARun.callQ (r := .tup [.v (.int .u64 r6), .v (.int .u64 r7)]) Zd Z1 fb111 (fun H => (cV (cV .nil))) (bitsMul64_c h5) ?_
 iterate 5 refine pA ?_
 refine fs ?_
 refine sr (N' := 192) rfl ?_
 iterate 2 refine pA ?_
 obtain ⟨r9, h8, hm⟩ := bnd hm
 refine ARun.callQ (r := .v (.int .u64 r9)) Zd Z1 fb112 (fun H => (cV (cV (cV .nil)))) (bitsRem64_c h8) ?_
 refine pA ?_
 refine fs ?_
 refine AWp.ret ?_
 cases hm
 exact ret1D (.inr rfl) Tryz.results109 (td Z1 (.v _))
def modAdd_m (a_0 : Int) (b_1 : Int) : Option (Int) :=
 ((modOf_m a_0).bind fun r2 =>
 ((modOf_m b_1).bind fun r4 =>
 some (Int.tmod (IntKind.u64.wrap (r2 + r4)) 2305843009213693951)))
theorem modAdd_c {a_0 : Int} {b_1 : Int} {r : Int} (hm : modAdd_m a_0 b_1 = some r) : PureC Tryz.prog 108 [.v (.int .u64 a_0), .v (.int .u64 b_1)] (.v (.int .u64 r)) := by
 refine PureC.of_body Tryz.func108 rfl ?_
 simp only [Tryz.ntmps108, List.length_cons, List.length_nil, Nat.reduceAdd, Nat.reduceSub, empty_eq]
 unfold modAdd_m at hm
 refine sr (N' := 64) rfl ?_
 refine pA ?_
 refine fs ?_
 refine sr (N' := 128) rfl ?_
 refine pA ?_
 obtain ⟨r2, h1, hm⟩ := bnd hm
 refine ARun.callQ (r := .v (.int .u64 r2)) Zd Z1 fb110 (fun H => (cV .nil)) (modOf_c h1) ?_
 refine pA ?_
 obtain ⟨r4, h3, hm⟩ := bnd hm
 refine ARun.callQ (r := .v (.int .u64 r4)) Zd Z1 fb110 (fun H => (cV .nil)) (modOf_c h3) ?_
 iterate 3 refine pu rfl (by simp only [go_sem, Nat.reduceBEq, Int.reduceEq, Int.reduceLE]; try with_reducible rfl) ?_
 refine fs ?_
 refine AWp.ret ?_
 cases hm
 exact ret1D (.inr rfl) Tryz.results108 (td Z1 (.v _))
def levelValue_m (h_0 : GHash) (name_1 : Int) : Option (Int) :=
 ((modMul_m h_0.A name_1).bind fun r2 =>
 ((modAdd_m r2 h_0.B).bind fun r4 =>
 some r4))
theorem levelValue_c {h_0 : GHash} {name_1 : Int} {r : Int} (hm : levelValue_m h_0 name_1 = some r) : PureC Tryz.prog 106 [.agg [.v (.int .u64 h_0.A), .v (.int .u64 h_0.B)], .v (.int .u64 name_1)] (.v (.int .u64 r)) := by
 refine PureC.of_body Tryz.func106 rfl ?_
 simp only [Tryz.ntmps106, List.length_cons, List.length_nil, Nat.reduceAdd, Nat.reduceSub, empty_eq]
 unfold levelValue_m at hm
 refine sr (N' := 64) rfl ?_
 refine hp (id := 0) rfl rfl (aheap_box Z1 Z5) ?_
 refine pA ?_
 refine fs ?_
 refine sd mix (by kernel_rfl) (N' := 128) rfl ?_
 refine pA ?_
 refine pu rfl (ap_ldv Z1 Z3 Z4) ?_
 refine pA ?_
 obtain ⟨r2, h1, hm⟩ := bnd hm
 refine ARun.callQ (r := .v (.int .u64 r2)) Zd Z1 fb109 (fun H => (cV (cV .nil))) (modMul_c h1) ?_
 refine pA ?_
 refine pu rfl (ap_ldv Z1 Z3 Z4) ?_
 obtain ⟨r4, h3, hm⟩ := bnd hm
 refine ARun.callQ (r := .v (.int .u64 r4)) Zd Z1 fb108 (fun H => (cV (cV .nil))) (modAdd_c h3) ?_
 refine pA ?_
 refine fs ?_
 refine AWp.ret ?_
 cases hm
 exact ret1D (.inr rfl) Tryz.results106 (td Z1 (.v _))
def levelBound_m (level_0 : Int) : Option (Int) :=
 (bif ((decide (level_0 < 0)) || (decide (61 ≤ level_0))) then
  some 0
 else
  ((chk (decide (0 ≤ level_0))).bind fun _ =>
  some (shr .u64 2305843009213693951 level_0)))
theorem levelBound_c {level_0 : Int} {r : Int} (hm : levelBound_m level_0 = some r) : PureC Tryz.prog 107 [.v (.int .i64 level_0)] (.v (.int .u64 r)) := by
 refine PureC.of_body Tryz.func107 rfl ?_
 simp only [Tryz.ntmps107, List.length_cons, List.length_nil, Nat.reduceAdd, Nat.reduceSub, empty_eq]
 unfold levelBound_m at hm
 refine sr (N' := 64) rfl ?_
 refine pA ?_
 refine fs ?_
 refine AWp.seq' ?_
 refine sr (N' := 128) rfl ?_
 iterate 6 first | refine pA ?_ | refine pB ?_
 refine fs ?_
 refine AWp.condM hm Z1 (fun _ hm => ?_) (fun _ hm => ?_)
 ·
  refine sr (N' := 192) rfl ?_
  refine pA ?_
  refine fs ?_
  refine AWp.ret ?_
  refine retSeq ?_
  cases hm
  exact ret1D (.inr rfl) Tryz.results107 (td Z1 (.v _))
 ·
  refine AWp.skip ?_
  refine normSeq ?_
  refine sr (N' := 192) rfl ?_
  refine pA ?_
  obtain ⟨_, h1, hm⟩ := bnd hm
  refine pu rfl (ap_shr Z1 Z1 (chk_t h1)) ?_
  refine pA ?_
  refine fs ?_
  refine AWp.ret ?_
  cases hm
  exact ret1D (.inr rfl) Tryz.results107 (td Z1 (.v _))
def levelDeep_B1 (rec1 : Int → Int → Int → Option (Int)) (levels_2 : Int) (value_7 : Int) (deep_8 : Int) : Option (Int) :=
 ((gopt ((decide (deep_8 < (if 61 < levels_2 then 61 else levels_2))) == true) 0 (levelBound_m deep_8)).bind fun r4 =>
 (bif ((decide (deep_8 < (if 61 < levels_2 then 61 else levels_2))) && (decide (value_7 < r4))) then
  rec1 levels_2 value_7 (IntKind.i64.wrap (deep_8 + 1))
 else
  some deep_8))
def levelDeep_L1 : Nat → Int → Int → Int → Option (Int)
 | 0 => fun _ _ _ => none
 | n + 1 => levelDeep_B1 (levelDeep_L1 n)
def levelDeep_m (h_0 : GHash) (name_1 : Int) (levels_2 : Int) : Option (Int) :=
 ((levelValue_m h_0 name_1).bind fun r2 =>
 levelDeep_L1 FUEL levels_2 r2 0)
theorem levelDeep_c {h_0 : GHash} {name_1 : Int} {levels_2 : Int} {r : Int} (hm : levelDeep_m h_0 name_1 levels_2 = some r) : PureC Tryz.prog 100 [.agg [.v (.int .u64 h_0.A), .v (.int .u64 h_0.B)], .v (.int .u64 name_1), .v (.int .i64 levels_2)] (.v (.int .i64 r)) := by
 refine PureC.of_body Tryz.func100 rfl ?_
 simp only [Tryz.ntmps100, List.length_cons, List.length_nil, Nat.reduceAdd, Nat.reduceSub, empty_eq]
 unfold levelDeep_m at hm
 refine sr (N' := 64) rfl ?_
 refine hp (id := 0) rfl rfl (aheap_box Z1 Z5) ?_
 refine pA ?_
 refine fs ?_
 refine sr (N' := 128) rfl ?_
 refine pu rfl (ap_ldv Z1 Z3 Z2) ?_
 refine pA ?_
 obtain ⟨r2, h1, hm⟩ := bnd hm
 refine ARun.callQ (r := .v (.int .u64 r2)) Zd Z1 fb106 (fun H => (cD (.agg _ (CFGHash.dat _)) (cV .nil))) (levelValue_c h1) ?_
 refine pA ?_
 refine fs ?_
 refine sr (N' := 192) rfl ?_
 refine pA ?_
 refine fs ?_
 refine AWp.seq' ?_
 refine AWp.block ?_
 refine AWp.loopM (fun m s => ∃ (levels_2 : Int) (value_7 : Int) (deep_8 : Int), s = (⟨25, (fset (fset (fset (fun _ => AV.any) 2 (.v (.int .i64 levels_2))) 7 (.v (.int .u64 value_7))) 8 (.v (.int .i64 deep_8))), ⟨nofresh, 64⟩⟩ : St) ∧ levelDeep_L1 m levels_2 value_7 deep_8 = some r) FUEL ?_ ?_ ?_
 ·
  rintro s ⟨_, _, _, _, h⟩
  cases h
 ·
  refine ⟨_, ?_, levels_2, r2, 0, rfl, hm⟩
  exact le_canon id (wV (wV (wV wk_none))) heapWk0
 ·
  rintro n1 s ⟨levels_2, value_7, deep_8, rfl, hm⟩
  replace hm : levelDeep_B1 (levelDeep_L1 n1) levels_2 value_7 deep_8 = some r := hm
  unfold levelDeep_B1 at hm
  refine AWp.seq' ?_
  refine sr (N' := 128) rfl ?_
  iterate 7 first | refine pA ?_ | refine pB ?_
  obtain ⟨r4, h3, hm⟩ := bnd hm
  refine ARun.callQG (r := .v (.int .u64 r4)) Zd rfl Z2 Z1 fb107 (fun hb H => (.cons (td (Zh hb) (.v _)) .nil)) (fun hb => levelBound_c (gopt_t h3 hb)) ?_
  iterate 2 first | refine pA ?_ | refine pB ?_
  refine fs ?_
  refine AWp.condM hm Z1 (fun _ hm => ?_) (fun _ hm => ?_)
  ·
   refine AWp.skip ?_
   refine normSeq ?_
   refine AWp.block ?_
   refine AWp.reg 64 (N' := 192) rfl ?_
   iterate 3 refine pA ?_
   refine ARun.fin ?_
   refine normIn ?_
   refine normThen ?_
   refine ⟨_, ?_, levels_2, value_7, (IntKind.i64.wrap (deep_8 + 1)), rfl, hm⟩
   exact le_canon id (wV (wV (wV wk_none))) heapWk0
  ·
   refine AWp.exit ?_
   refine exitSeq ?_
   refine exitThen ?_
   refine exitHere ?_
   refine normSeq ?_
   refine sr (N' := 192) rfl ?_
   iterate 2 refine pA ?_
   refine fs ?_
   refine AWp.ret ?_
   cases hm
   exact ret1D (.inr rfl) Tryz.results100 (td Z1 (.v _))
def sketchToggle_B2 (rec1 : Int → GSketchSketch → GSketchSketch → List Int → List GHash → Int → Int → Option (GSketchSketch × Int)) (rec2 : Int → GSketchSketch → GSketchSketch → List Int → Int → List GHash → Int → Int → Int → Int → Option (GSketchSketch × Int)) (name_2 : Int) (s_3 : GSketchSketch) (t6 : GSketchSketch) (words_8 : List Int) (row_9 : Int) (t26 : List GHash) (t27 : Int) (t28 : Int) (t37 : Int) (t38 : Int) : Option (GSketchSketch × Int) :=
 (bif (decide (t38 < t37)) then
  ((idx words_8 (IntKind.i64.wrap ((IntKind.i64.wrap (row_9 * s_3.V)) + t38))).bind fun x10 =>
  ((idx words_8 (IntKind.i64.wrap ((IntKind.i64.wrap (row_9 * s_3.V)) + t38))).bind fun x12 =>
  ((stt words_8 (IntKind.i64.wrap ((IntKind.i64.wrap (row_9 * s_3.V)) + t38)) (bxor .u64 x10 name_2)).bind fun l14 =>
  rec2 name_2 s_3 t6 l14 row_9 t26 t27 t28 t37 (IntKind.i64.wrap (t38 + 1)))))
 else
  rec1 name_2 s_3 t6 words_8 t26 t27 (IntKind.i64.wrap (t28 + 1)))
def sketchToggle_L2 (rec1 : Int → GSketchSketch → GSketchSketch → List Int → List GHash → Int → Int → Option (GSketchSketch × Int)) : Nat → Int → GSketchSketch → GSketchSketch → List Int → Int → List GHash → Int → Int → Int → Int → Option (GSketchSketch × Int)
 | 0 => fun _ _ _ _ _ _ _ _ _ _ => none
 | n + 1 => sketchToggle_B2 rec1 (sketchToggle_L2 rec1 n)
def sketchToggle_B1 (rec1 : Int → GSketchSketch → GSketchSketch → List Int → List GHash → Int → Int → Option (GSketchSketch × Int)) (name_2 : Int) (s_3 : GSketchSketch) (t6 : GSketchSketch) (words_8 : List Int) (t26 : List GHash) (t27 : Int) (t28 : Int) : Option (GSketchSketch × Int) :=
 (bif (decide (t28 < t27)) then
  ((idx t26 t28).bind fun x6 =>
  ((levelDeep_m x6 name_2 s_3.V).bind fun r8 =>
  sketchToggle_L2 rec1 FUEL name_2 s_3 t6 words_8 t28 t26 t27 t28 r8 0))
 else
  some ((GSketchSketch.mk s_3.R s_3.V words_8), 0))
def sketchToggle_L1 : Nat → Int → GSketchSketch → GSketchSketch → List Int → List GHash → Int → Int → Option (GSketchSketch × Int)
 | 0 => fun _ _ _ _ _ _ _ => none
 | n + 1 => sketchToggle_B1 (sketchToggle_L1 n)
def sketchToggle_m (s_0 : GSketchSketch) (l_1 : List GHash) (name_2 : Int) : Option (GSketchSketch × Int) :=
 ((sketchRight_m s_0).bind fun r2 =>
 (bif ((!r2) || ((l_1.length : Int) != s_0.R)) then
  some (s_0, 1)
 else
  ((slicesCloneUint64_m s_0.Words).bind fun r4 =>
  sketchToggle_L1 FUEL name_2 s_0 (GSketchSketch.mk 0 0 []) r4 l_1 (l_1.length : Int) 0)))
theorem sketchToggle_c {s_0 : GSketchSketch} {l_1 : List GHash} {name_2 : Int} {r : GSketchSketch × Int} (hm : sketchToggle_m s_0 l_1 name_2 = some r) : PureC Tryz.prog 90 [.agg [.v (.int .i64 s_0.R), .v (.int .i64 s_0.V), .sl (s_0.Words.flatMap (ci .u64)) s_0.Words.length false], .sl (l_1.flatMap cGHash) l_1.length false, .v (.int .u64 name_2)] (.tup [.agg [.v (.int .i64 r.1.R), .v (.int .i64 r.1.V), .sl (r.1.Words.flatMap (ci .u64)) r.1.Words.length false], .v (.int .i64 r.2)]) := by
 refine PureC.of_body Tryz.func90 rfl ?_
 simp only [Tryz.ntmps90, List.length_cons, List.length_nil, Nat.reduceAdd, Nat.reduceSub, empty_eq]
 unfold sketchToggle_m at hm
 refine sr (N' := 64) rfl ?_
 refine hp (id := 0) rfl rfl (aheap_box Z1 Z5) ?_
 refine hp (id := 1) rfl rfl (aheap_alloc' zc88 Z5) ?_
 refine pA ?_
 refine fs ?_
 refine AWp.seq' ?_
 refine sr (N' := 128) rfl ?_
 refine pu rfl (ap_ldv Z1 Z3 Z2) ?_
 obtain ⟨r2, h1, hm⟩ := bnd hm
 refine ARun.callQ (r := .v (.bool r2)) Zd Z1 fb85 (fun H => (cD (.agg _ (CFGSketchSketch.dat _)) .nil)) (sketchRight_c h1) ?_
 iterate 5 first | refine pA ?_ | refine pB ?_
 refine pg rfl rfl Z2 (fun hb => (ap_ldv (Zh hb) Z3 Z4)) ?_
 iterate 2 first | refine pA ?_ | refine pB ?_
 refine fs ?_
 refine AWp.condM hm Z1 (fun _ hm => ?_) (fun _ hm => ?_)
 ·
  refine sr (N' := 192) rfl ?_
  refine pu rfl (ap_ldv Z1 Z3 Z2) ?_
  refine ARun.heap0 (id := 129) rfl (ah_var (ys := [.v (.int .i64 s_0.R), .v (.int .i64 s_0.V), .sl (s_0.Words.flatMap (ci .u64)) s_0.Words.length false]) sz88 Z1 Z1 Z3 rfl (Nat.le_of_ble_eq_true rfl) Z9 rfl) ?_
  refine pA ?_
  refine fs ?_
  refine AWp.ret ?_
  refine retSeq ?_
  cases hm
  exact retL (.inr rfl) (by rw [Tryz.results90]) (.cell (ap_ldv' Z1 Z3 Z2) (.tmp Z1 .nil)) rfl (tdt (.cons (td rfl (.agg _ (CFGSketchSketch.dat _))) (.cons (td rfl (.v _)) .nil)))
 ·
  refine AWp.skip ?_
  refine normSeq ?_
  refine sr (N' := 192) rfl ?_
  refine pA ?_
  refine pu rfl (ap_ldv Z1 Z3 Z4) ?_
  obtain ⟨r4, h3, hm⟩ := bnd hm
  refine ARun.callF (id := 130) Zd Z1 fb99 (fun H => (cD ((CFi .u64).sl _ _ _) .nil)) (CFi .u64) Z5 (slicesCloneUint64_f h3) ?_
  refine pA ?_
  refine fs ?_
  refine AWp.seq' ?_
  refine sr (N' := 256) rfl ?_
  iterate 3 refine pA ?_
  refine fs ?_
  refine AWp.block ?_
  refine AWp.loopM (fun m s => ∃ (name_2 : Int) (s_3 : GSketchSketch) (t6 : GSketchSketch) (words_8 : List Int) (t26 : List GHash) (t27 : Int) (t28 : Int), s = (⟨61, (fset (fset (fset (fset (fset (fset (fset (fun _ => AV.any) 2 (.v (.int .u64 name_2))) 3 (.adr 1 0)) 6 (.adr 2 0)) 8 (.own 3 0 words_8.length)) 26 (.sl (t26.flatMap cGHash) t26.length false)) 27 (.v (.int .i64 t27))) 28 (.v (.int .i64 t28))), ⟨(upd (upd (upd nofresh 1 (.cells 1 [.v (.int .i64 s_3.R), .v (.int .i64 s_3.V), .sl (s_3.Words.flatMap (ci .u64)) s_3.Words.length false] 0)) 2 (.cells 1 [.v (.int .i64 t6.R), .v (.int .i64 t6.V), .sl (t6.Words.flatMap (ci .u64)) t6.Words.length false] 0)) 3 (.cells 1 (words_8.flatMap (ci .u64)) 0)), 64⟩⟩ : St) ∧ sketchToggle_L1 m name_2 s_3 t6 words_8 t26 t27 t28 = some r) FUEL ?_ ?_ ?_
  ·
   rintro s ⟨_, _, _, _, _, _, _, _, h⟩
   cases h
  ·
   refine ⟨_, ?_, name_2, s_0, (GSketchSketch.mk 0 0 []), r4, l_1, (l_1.length : Int), 0, rfl, hm⟩
   refine St.Le.trans (le_cells 1 (ys := [.v (.int .i64 ((GSketchSketch.mk 0 0 []).R)), .v (.int .i64 ((GSketchSketch.mk 0 0 []).V)), .sl (((GSketchSketch.mk 0 0 []).Words).flatMap (ci .u64)) ((GSketchSketch.mk 0 0 []).Words).length false]) Z3 (.cons (.data _ (.v _)) (.cons (.data _ (.v _)) (.cons (.nil false) .nil)))) ?_
   exact le_canon (fun j => bif j == 1 then 0 else bif j == 2 then 1 else bif j == 3 then 130 else 0) (wV (wV (wD (CFGHash.sl _ _ _) (wO (wk_fset _ _ (wk_adr Z1 rfl Z7) (wk_fset _ _ (wk_adr Z1 rfl Z7) (wV wk_none))))))) (heapWk_of _ (eU (CFi .u64) (entWk_upd (entWk_data Z3 (Nat.le_refl _) (Nat.zero_le _) (CFGSketchSketch.dat (GSketchSketch.mk 0 0 []))) (entWk_upd (entWk_data Z3 (Nat.le_refl _) (Nat.zero_le _) (CFGSketchSketch.dat s_0)) entWk_none))) Z8)
  ·
   rintro n1 s ⟨name_2, s_3, t6, words_8, t26, t27, t28, rfl, hm⟩
   replace hm : sketchToggle_B1 (sketchToggle_L1 n1) name_2 s_3 t6 words_8 t26 t27 t28 = some r := hm
   unfold sketchToggle_B1 at hm
   refine sr (N' := 128) rfl ?_
   refine pA ?_
   refine fs ?_
   refine AWp.seq' ?_
   refine AWp.condM hm Z1 (fun _ hm => ?_) (fun _ hm => ?_)
   ·
    refine AWp.skip ?_
    refine normSeq ?_
    refine AWp.seq' ?_
    refine AWp.block ?_
    refine sr (N' := 192) rfl ?_
    refine pA ?_
    obtain ⟨x6, h5, hm⟩ := bnd hm
    refine pu rfl (ap_idx CFGHash Zd Tryz.underlying24 sz44 Z1 rfl Z1 h5) ?_
    refine pA ?_
    refine hp (id := 131) rfl rfl (aheap_alloc' zc44 Z5) ?_
    refine pA ?_
    refine ARun.heap0 (id := 133) rfl (ah_var (ys := [.v (.int .u64 x6.A), .v (.int .u64 x6.B)]) sz44 Z1 Z1 Z3 rfl (Nat.le_of_ble_eq_true rfl) Z9 rfl) ?_
    refine fs ?_
    refine sr (N' := 256) rfl ?_
    refine pu rfl (ap_ldv Z1 Z3 Z2) ?_
    iterate 2 refine pA ?_
    refine pu rfl (ap_ldv Z1 Z3 Z4) ?_
    obtain ⟨r8, h7, hm⟩ := bnd hm
    refine ARun.callQ (r := .v (.int .i64 r8)) Zd Z1 fb100 (fun H => (cD (.agg _ (CFGHash.dat _)) (cV (cV .nil)))) (levelDeep_c h7) ?_
    refine pA ?_
    refine fs ?_
    refine AWp.block ?_
    refine AWp.loopM (fun m s => ∃ (name_2 : Int) (s_3 : GSketchSketch) (t6 : GSketchSketch) (words_8 : List Int) (row_9 : Int) (t26 : List GHash) (t27 : Int) (t28 : Int) (t37 : Int) (t38 : Int), s = (⟨61, (fset (fset (fset (fset (fset (fset (fset (fset (fset (fset (fun _ => AV.any) 2 (.v (.int .u64 name_2))) 3 (.adr 1 0)) 6 (.adr 2 0)) 8 (.own 3 0 words_8.length)) 9 (.v (.int .i64 row_9))) 26 (.sl (t26.flatMap cGHash) t26.length false)) 27 (.v (.int .i64 t27))) 28 (.v (.int .i64 t28))) 37 (.v (.int .i64 t37))) 38 (.v (.int .i64 t38))), ⟨(upd (upd (upd nofresh 1 (.cells 1 [.v (.int .i64 s_3.R), .v (.int .i64 s_3.V), .sl (s_3.Words.flatMap (ci .u64)) s_3.Words.length false] 0)) 2 (.cells 1 [.v (.int .i64 t6.R), .v (.int .i64 t6.V), .sl (t6.Words.flatMap (ci .u64)) t6.Words.length false] 0)) 3 (.cells 1 (words_8.flatMap (ci .u64)) 0)), 64⟩⟩ : St) ∧ sketchToggle_L2 (sketchToggle_L1 n1) m name_2 s_3 t6 words_8 row_9 t26 t27 t28 t37 t38 = some r) FUEL ?_ ?_ ?_
    ·
     rintro s ⟨_, _, _, _, _, _, _, _, _, _, _, h⟩
     cases h
    ·
     refine ⟨_, ?_, name_2, s_3, t6, words_8, t28, t26, t27, t28, r8, 0, rfl, hm⟩
     exact le_canon (fun j => bif j == 1 then 1 else bif j == 2 then 2 else bif j == 3 then 3 else 0) (wV (wV (wV (wV (wD (CFGHash.sl _ _ _) (wV (wO (wk_fset _ _ (wk_adr Z1 rfl Z7) (wk_fset _ _ (wk_adr Z1 rfl Z7) (wV wk_none)))))))))) (heapWk_of _ (eU (CFi .u64) (entWk_upd (entWk_data Z3 (Nat.le_refl _) (Nat.zero_le _) (CFGSketchSketch.dat t6)) (entWk_upd (entWk_data Z3 (Nat.le_refl _) (Nat.zero_le _) (CFGSketchSketch.dat s_3)) entWk_none))) Z8)
    ·
     rintro n2 s ⟨name_2, s_3, t6, words_8, row_9, t26, t27, t28, t37, t38, rfl, hm⟩
     replace hm : sketchToggle_B2 (sketchToggle_L1 n1) (sketchToggle_L2 (sketchToggle_L1 n1) n2) name_2 s_3 t6 words_8 row_9 t26 t27 t28 t37 t38 = some r := hm
     unfold sketchToggle_B2 at hm
     refine sr (N' := 128) rfl ?_
     refine pA ?_
     refine fs ?_
     refine AWp.seq' ?_
     refine AWp.condM hm Z1 (fun _ hm => ?_) (fun _ hm => ?_)
     ·
      refine AWp.skip ?_
      refine normSeq ?_
      refine AWp.seq' ?_
      refine AWp.block ?_
      refine sr (N' := 192) rfl ?_
      iterate 2 refine pA ?_
      refine fs ?_
      refine AWp.reg 64 (N' := 256) rfl ?_
      iterate 3 refine pA ?_
      refine pu rfl (ap_ldv Z1 Z3 Z4) ?_
      iterate 3 refine pA ?_
      obtain ⟨x10, h9, hm⟩ := bnd hm
      refine pu rfl (ap_idxo Tryz.underlying82 sz42 Z1 Z3 Z6 Z1 h9) ?_
      refine pu rfl (ap_ldo (CFi .u64) Z1 Z3 h9 (fun _ => by simp only [go_sem, Nat.reduceBEq]; try with_reducible rfl)) ?_
      iterate 2 refine pA ?_
      obtain ⟨x12, h11, hm⟩ := bnd hm
      refine pu rfl (ap_idxo Tryz.underlying82 sz42 Z1 Z3 Z6 Z1 h11) ?_
      obtain ⟨l14, h13, hm⟩ := bnd hm
      have qh13 := stt_len h13
      refine ARun.heap0 (id := 204) rfl (ah_stt (CFi .u64) sz42 Z1 Z1 Z3 rfl h13) ?_
      refine ARun.fin ?_
      refine normIn ?_
      refine normSeq ?_
      refine AWp.reg 64 (N' := 320) rfl ?_
      iterate 2 refine pA ?_
      refine ARun.fin ?_
      refine normThen ?_
      refine ⟨_, ?_, name_2, s_3, t6, l14, row_9, t26, t27, t28, t37, (IntKind.i64.wrap (t38 + 1)), rfl, hm⟩
      exact le_canon (fun j => bif j == 1 then 1 else bif j == 2 then 2 else bif j == 3 then 3 else 0) (wV (wV (wV (wV (wD (CFGHash.sl _ _ _) (wV (wO (wk_fset _ _ (wk_adr Z1 rfl Z7) (wk_fset _ _ (wk_adr Z1 rfl Z7) (wV wk_none)))))))))) (heapWk_of _ (eU (CFi .u64) (entWk_upd (entWk_data Z3 (Nat.le_refl _) (Nat.zero_le _) (CFGSketchSketch.dat t6)) (entWk_upd (entWk_data Z3 (Nat.le_refl _) (Nat.zero_le _) (CFGSketchSketch.dat s_3)) entWk_none))) Z8)
     ·
      refine AWp.exit ?_
      refine exitSeq ?_
      refine exitThen ?_
      refine exitHere ?_
      refine normIn ?_
      refine normSeq ?_
      refine AWp.reg 64 (N' := 192) rfl ?_
      iterate 2 refine pA ?_
      refine ARun.fin ?_
      refine normThen ?_
      refine ⟨_, ?_, name_2, s_3, t6, words_8, t26, t27, (IntKind.i64.wrap (t28 + 1)), rfl, hm⟩
      exact le_canon (fun j => bif j == 1 then 1 else bif j == 2 then 2 else bif j == 3 then 3 else 0) (wV (wV (wD (CFGHash.sl _ _ _) (wO (wk_fset _ _ (wk_adr Z1 rfl Z7) (wk_fset _ _ (wk_adr Z1 rfl Z7) (wV wk_none))))))) (heapWk_of _ (eU (CFi .u64) (entWk_upd (entWk_data Z3 (Nat.le_refl _) (Nat.zero_le _) (CFGSketchSketch.dat t6)) (entWk_upd (entWk_data Z3 (Nat.le_refl _) (Nat.zero_le _) (CFGSketchSketch.dat s_3)) entWk_none))) Z8)
   ·
    refine AWp.exit ?_
    refine exitSeq ?_
    refine exitThen ?_
    refine exitHere ?_
    refine normSeq ?_
    refine AWp.seq' ?_
    refine AWp.weaken (le_lock (CFi .u64) 8 3 Z1 Z3 Z6) ?_
    refine AWp.reg 64 (N' := 192) rfl ?_
    refine pA ?_
    refine pu rfl (ap_ldv Z1 Z3 Z4) ?_
    refine pA ?_
    refine pu rfl (ap_ldv Z1 Z3 Z4) ?_
    refine pA ?_
    refine pu rfl (by simp only [go_sem, Nat.reduceBEq]; exact (by kernel_rfl : abuild Tryz.prog 88 [(0, .v (.int .i64 s_3.R)), (1, .v (.int .i64 s_3.V)), (2, .sl (words_8.flatMap (ci .u64)) words_8.length false)] = some (.agg [.v (.int .i64 s_3.R), .v (.int .i64 s_3.V), .sl (words_8.flatMap (ci .u64)) words_8.length false]))) ?_
    refine ARun.heap0 (id := 134) rfl (ah_var (ys := [.v (.int .i64 s_3.R), .v (.int .i64 s_3.V), .sl (words_8.flatMap (ci .u64)) words_8.length false]) sz88 Z1 Z1 Z3 rfl (Nat.le_of_ble_eq_true rfl) Z9 rfl) ?_
    refine pA ?_
    refine fs ?_
    refine AWp.ret ?_
    cases hm
    exact retL (.inr rfl) (by rw [Tryz.results90]) (.cell (ap_ldv' Z1 Z3 Z2) (.tmp Z1 .nil)) rfl (tdt (.cons (td rfl (.agg _ (CFGSketchSketch.dat (GSketchSketch.mk s_3.R s_3.V words_8)))) (.cons (td rfl (.v _)) .nil)))
def searchDrawn_B1 (rec1 : GSketchSketch → GSketchSketch → List GHash → List Int → Int → Int → Option (GSketchSketch)) (t6 : GSketchSketch) (s_7 : GSketchSketch) (by_9 : List GHash) (t27 : List Int) (t28 : Int) (t29 : Int) : Option (GSketchSketch) :=
 (bif (decide (t29 < t28)) then
  ((idx t27 t29).bind fun x11 =>
  ((sketchToggle_m s_7 by_9 x11).bind fun ⟨r13, r14⟩ =>
  rec1 t6 r13 by_9 t27 t28 (IntKind.i64.wrap (t29 + 1))))
 else
  some s_7)
def searchDrawn_L1 : Nat → GSketchSketch → GSketchSketch → List GHash → List Int → Int → Int → Option (GSketchSketch)
 | 0 => fun _ _ _ _ _ _ => none
 | n + 1 => searchDrawn_B1 (searchDrawn_L1 n)
def searchDrawn_m (g_0 : GGraph) (tier_1 : Int) (out_2 : List GEdge) : Option (GSketchSketch) :=
 ((levelLevels_m g_0.Config.N).bind fun r2 =>
 ((sketchNew_m g_0.Config.R r2).bind fun ⟨r4, r5⟩ =>
 ((searchHashes0_m g_0 tier_1).bind fun r7 =>
 ((cutNames_m out_2).bind fun r9 =>
 searchDrawn_L1 FUEL (GSketchSketch.mk 0 0 []) r4 r7 r9 (r9.length : Int) 0))))
theorem searchDrawn_c {g_0 : GGraph} {tier_1 : Int} {out_2 : List GEdge} {r : GSketchSketch} (hm : searchDrawn_m g_0 tier_1 out_2 = some r) : PureC Tryz.prog 71 [.agg [.v (.int .i64 g_0.Config.N), .v (.int .i64 g_0.Config.L), .v (.int .i64 g_0.Config.R), .sl (g_0.Hashes.flatMap cGHash) g_0.Hashes.length false, .sl (g_0.Edges.flatMap cGEdge) g_0.Edges.length false], .v (.int .i64 tier_1), .sl (out_2.flatMap cGEdge) out_2.length false] (.agg [.v (.int .i64 r.R), .v (.int .i64 r.V), .sl (r.Words.flatMap (ci .u64)) r.Words.length false]) := by
 refine PureC.of_body Tryz.func71 rfl ?_
 simp only [Tryz.ntmps71, List.length_cons, List.length_nil, Nat.reduceAdd, Nat.reduceSub, empty_eq]
 unfold searchDrawn_m at hm
 refine sr (N' := 64) rfl ?_
 refine hp (id := 0) rfl rfl (aheap_box Z1 Z5) ?_
 refine hp (id := 1) rfl rfl (aheap_alloc' zc88 Z5) ?_
 refine fs ?_
 refine sd mix (by kernel_rfl) (N' := 128) rfl ?_
 iterate 2 refine pA ?_
 refine pu rfl (ap_ldv Z1 Z3 Z4) ?_
 iterate 2 refine pA ?_
 refine pu rfl (ap_ldv Z1 Z3 Z4) ?_
 obtain ⟨r2, h1, hm⟩ := bnd hm
 refine ARun.callQ (r := .v (.int .i64 r2)) Zd Z1 fb87 (fun H => (cV .nil)) (levelLevels_c h1) ?_
 obtain ⟨⟨r4, r5⟩, h3, hm⟩ := bnd hm
 refine ARun.callQ (r := .tup [.agg [.v (.int .i64 r4.R), .v (.int .i64 r4.V), .sl (r4.Words.flatMap (ci .u64)) r4.Words.length false], .v (.int .i64 r5)]) Zd Z1 fb86 (fun H => (cV (cV .nil))) (sketchNew_c h3) ?_
 iterate 3 refine pA ?_
 refine hp (id := 75) rfl rfl (aheap_alloc' zc88 Z5) ?_
 refine ARun.heap0 (id := 76) rfl (ah_var (ys := [.v (.int .i64 r4.R), .v (.int .i64 r4.V), .sl (r4.Words.flatMap (ci .u64)) r4.Words.length false]) sz88 Z1 Z1 Z3 rfl (Nat.le_of_ble_eq_true rfl) Z9 rfl) ?_
 refine pA ?_
 refine fs ?_
 refine sr (N' := 192) rfl ?_
 refine pu rfl (ap_ldv Z1 Z3 Z2) ?_
 refine pA ?_
 obtain ⟨r7, h6, hm⟩ := bnd hm
 refine ARun.callQ (r := .sl (r7.flatMap cGHash) r7.length false) Zd Z1 fb88 (fun H => (cD (.agg _ (CFGGraph.dat _)) (cV .nil))) (searchHashes0_c h6) ?_
 refine pA ?_
 refine fs ?_
 refine AWp.seq' ?_
 refine sr (N' := 256) rfl ?_
 refine pA ?_
 obtain ⟨r9, h8, hm⟩ := bnd hm
 refine ARun.callQ (r := .sl (r9.flatMap (ci .u64)) r9.length false) Zd Z1 fb89 (fun H => (cD (CFGEdge.sl _ _ _) .nil)) (cutNames_c h8) ?_
 iterate 2 refine pA ?_
 refine fs ?_
 refine AWp.block ?_
 refine AWp.loopM (fun m s => ∃ (t6 : GSketchSketch) (s_7 : GSketchSketch) (by_9 : List GHash) (t27 : List Int) (t28 : Int) (t29 : Int), s = (⟨42, (fset (fset (fset (fset (fset (fset (fun _ => AV.any) 6 (.adr 1 0)) 7 (.adr 2 0)) 9 (.sl (by_9.flatMap cGHash) by_9.length false)) 27 (.sl (t27.flatMap (ci .u64)) t27.length false)) 28 (.v (.int .i64 t28))) 29 (.v (.int .i64 t29))), ⟨(upd (upd nofresh 1 (.cells 1 [.v (.int .i64 t6.R), .v (.int .i64 t6.V), .sl (t6.Words.flatMap (ci .u64)) t6.Words.length false] 0)) 2 (.cells 1 [.v (.int .i64 s_7.R), .v (.int .i64 s_7.V), .sl (s_7.Words.flatMap (ci .u64)) s_7.Words.length false] 0)), 64⟩⟩ : St) ∧ searchDrawn_L1 m t6 s_7 by_9 t27 t28 t29 = some r) FUEL ?_ ?_ ?_
 ·
  rintro s ⟨_, _, _, _, _, _, _, h⟩
  cases h
 ·
  refine ⟨_, ?_, (GSketchSketch.mk 0 0 []), r4, r7, r9, (r9.length : Int), 0, rfl, hm⟩
  refine St.Le.trans (le_cells 1 (ys := [.v (.int .i64 ((GSketchSketch.mk 0 0 []).R)), .v (.int .i64 ((GSketchSketch.mk 0 0 []).V)), .sl (((GSketchSketch.mk 0 0 []).Words).flatMap (ci .u64)) ((GSketchSketch.mk 0 0 []).Words).length false]) Z3 (.cons (.data _ (.v _)) (.cons (.data _ (.v _)) (.cons (.nil false) .nil)))) ?_
  exact le_canon (fun j => bif j == 1 then 1 else bif j == 2 then 75 else 0) (wV (wV (wD ((CFi .u64).sl _ _ _) (wD (CFGHash.sl _ _ _) (wk_fset _ _ (wk_adr Z1 rfl Z7) (wk_fset _ _ (wk_adr Z1 rfl Z7) wk_none)))))) (heapWk_of _ (entWk_upd (entWk_data Z3 (Nat.le_refl _) (Nat.zero_le _) (CFGSketchSketch.dat r4)) (entWk_upd (entWk_data Z3 (Nat.le_refl _) (Nat.zero_le _) (CFGSketchSketch.dat (GSketchSketch.mk 0 0 []))) entWk_none)) Z8)
 ·
  rintro n1 s ⟨t6, s_7, by_9, t27, t28, t29, rfl, hm⟩
  replace hm : searchDrawn_B1 (searchDrawn_L1 n1) t6 s_7 by_9 t27 t28 t29 = some r := hm
  unfold searchDrawn_B1 at hm
  refine sr (N' := 128) rfl ?_
  refine pA ?_
  refine fs ?_
  refine AWp.seq' ?_
  refine AWp.condM hm Z1 (fun _ hm => ?_) (fun _ hm => ?_)
  ·
   refine AWp.skip ?_
   refine normSeq ?_
   refine AWp.seq' ?_
   refine AWp.block ?_
   refine sr (N' := 192) rfl ?_
   obtain ⟨x11, h10, hm⟩ := bnd hm
   refine pu rfl (ap_idx (CFi .u64) Zd Tryz.underlying82 sz42 Z1 rfl Z1 h10) ?_
   iterate 2 refine pA ?_
   refine fs ?_
   refine AWp.reg 64 (N' := 256) rfl ?_
   refine pu rfl (ap_ldv Z1 Z3 Z2) ?_
   iterate 2 refine pA ?_
   obtain ⟨⟨r13, r14⟩, h12, hm⟩ := bnd hm
   refine ARun.callQ (r := .tup [.agg [.v (.int .i64 r13.R), .v (.int .i64 r13.V), .sl (r13.Words.flatMap (ci .u64)) r13.Words.length false], .v (.int .i64 r14)]) Zd Z1 fb90 (fun H => (cD (.agg _ (CFGSketchSketch.dat _)) (cD (CFGHash.sl _ _ _) (cV .nil)))) (sketchToggle_c h12) ?_
   iterate 3 refine pA ?_
   refine ARun.heap0 (id := 199) rfl (ah_var (ys := [.v (.int .i64 r13.R), .v (.int .i64 r13.V), .sl (r13.Words.flatMap (ci .u64)) r13.Words.length false]) sz88 Z1 Z1 Z3 rfl (Nat.le_of_ble_eq_true rfl) Z9 rfl) ?_
   refine ARun.fin ?_
   refine normIn ?_
   refine normSeq ?_
   refine AWp.reg 64 (N' := 320) rfl ?_
   iterate 2 refine pA ?_
   refine ARun.fin ?_
   refine normThen ?_
   refine ⟨_, ?_, t6, r13, by_9, t27, t28, (IntKind.i64.wrap (t29 + 1)), rfl, hm⟩
   exact le_canon (fun j => bif j == 1 then 1 else bif j == 2 then 2 else 0) (wV (wV (wD ((CFi .u64).sl _ _ _) (wD (CFGHash.sl _ _ _) (wk_fset _ _ (wk_adr Z1 rfl Z7) (wk_fset _ _ (wk_adr Z1 rfl Z7) wk_none)))))) (hW (entWk_upd (entWk_data Z3 (Nat.le_refl _) (Nat.zero_le _) (CFGSketchSketch.dat r13)) (entWk_upd (entWk_data Z3 (Nat.le_refl _) (Nat.zero_le _) (CFGSketchSketch.dat t6)) entWk_none)))
  ·
   refine AWp.exit ?_
   refine exitSeq ?_
   refine exitThen ?_
   refine exitHere ?_
   refine normSeq ?_
   refine sr (N' := 192) rfl ?_
   refine pu rfl (ap_ldv Z1 Z3 Z2) ?_
   refine ARun.heap0 (id := 129) rfl (ah_var (ys := [.v (.int .i64 s_7.R), .v (.int .i64 s_7.V), .sl (s_7.Words.flatMap (ci .u64)) s_7.Words.length false]) sz88 Z1 Z1 Z3 rfl (Nat.le_of_ble_eq_true rfl) Z9 rfl) ?_
   refine fs ?_
   refine AWp.ret ?_
   cases hm
   exact retL (.inr rfl) (by rw [Tryz.results71]) (.cell (ap_ldv' Z1 Z3 Z2) .nil) rfl (td rfl (.agg _ (CFGSketchSketch.dat _)))
def nameEnds_m (name_0 : Int) : Option (Int × Int × Bool) :=
 (bif (decide ((Int.tmod name_0 16777216) ≤ (IntKind.u64.wrap (Int.tdiv name_0 16777216)))) then
  some (0, 0, false)
 else
  some ((IntKind.i64.wrap (IntKind.u64.wrap (Int.tdiv name_0 16777216))), (IntKind.i64.wrap (Int.tmod name_0 16777216)), true))
theorem nameEnds_c {name_0 : Int} {r : Int × Int × Bool} (hm : nameEnds_m name_0 = some r) : PureC Tryz.prog 72 [.v (.int .u64 name_0)] (.tup [.v (.int .i64 r.1), .v (.int .i64 r.2.1), .v (.bool r.2.2)]) := by
 refine PureC.of_body Tryz.func72 rfl ?_
 simp only [Tryz.ntmps72, List.length_cons, List.length_nil, Nat.reduceAdd, Nat.reduceSub, empty_eq]
 unfold nameEnds_m at hm
 refine sr (N' := 64) rfl ?_
 iterate 3 refine pA ?_
 refine fs ?_
 refine sr (N' := 128) rfl ?_
 iterate 6 refine pu rfl (by simp only [go_sem, Nat.reduceBEq, Int.reduceEq, Int.reduceLE]; try with_reducible rfl) ?_
 refine fs ?_
 refine AWp.seq' ?_
 refine sr (N' := 192) rfl ?_
 iterate 3 refine pA ?_
 refine fs ?_
 refine AWp.condM hm Z1 (fun _ hm => ?_) (fun _ hm => ?_)
 ·
  refine sr (N' := 256) rfl ?_
  iterate 3 refine pA ?_
  refine fs ?_
  refine AWp.ret ?_
  refine retSeq ?_
  cases hm
  exact ret3D (.inr rfl) Tryz.results72 (td Z1 (.v _)) (td Z1 (.v _)) (td Z1 (.v _))
 ·
  refine AWp.skip ?_
  refine normSeq ?_
  refine sr (N' := 256) rfl ?_
  iterate 7 refine pA ?_
  refine fs ?_
  refine AWp.ret ?_
  cases hm
  exact ret3D (.inr rfl) Tryz.results72 (td Z1 (.v _)) (td Z1 (.v _)) (td Z1 (.v _))
def sketchNames_J1 (rec1 : List Int → List Int → Int → Int → Option ((List Int))) (names_3 : List Int) (t13 : List Int) (t14 : Int) (t15 : Int) : Option ((List Int)) :=
 rec1 names_3 t13 t14 (IntKind.i64.wrap (t15 + 1))
def sketchNames_B1 (rec1 : List Int → List Int → Int → Int → Option ((List Int))) (names_3 : List Int) (t13 : List Int) (t14 : Int) (t15 : Int) : Option ((List Int)) :=
 (bif (decide (t15 < t14)) then
  ((idx t13 t15).bind fun x4 =>
  ((nameEnds_m x4).bind fun ⟨r6, r7, r8⟩ =>
  (bif r8 then
   ((app names_3 [x4]).bind fun l10 =>
   sketchNames_J1 rec1 l10 t13 t14 t15)
  else
   sketchNames_J1 rec1 names_3 t13 t14 t15)))
 else
  some names_3)
def sketchNames_L1 : Nat → List Int → List Int → Int → Int → Option ((List Int))
 | 0 => fun _ _ _ _ => none
 | n + 1 => sketchNames_B1 (sketchNames_L1 n)
def sketchNames_m (s_0 : GSketchSketch) : Option ((List Int)) :=
 ((sketchRight_m s_0).bind fun r2 =>
 (bif (!r2) then
  some []
 else
  sketchNames_L1 FUEL [] s_0.Words (s_0.Words.length : Int) 0))
theorem sketchNames_c {s_0 : GSketchSketch} {r : (List Int)} (hm : sketchNames_m s_0 = some r) : PureC Tryz.prog 70 [.agg [.v (.int .i64 s_0.R), .v (.int .i64 s_0.V), .sl (s_0.Words.flatMap (ci .u64)) s_0.Words.length false]] (.sl (r.flatMap (ci .u64)) r.length false) := by
 refine PureC.of_body Tryz.func70 rfl ?_
 simp only [Tryz.ntmps70, List.length_cons, List.length_nil, Nat.reduceAdd, Nat.reduceSub, empty_eq]
 unfold sketchNames_m at hm
 refine sr (N' := 64) rfl ?_
 refine hp (id := 0) rfl rfl (aheap_box Z1 Z5) ?_
 refine pA ?_
 refine fs ?_
 refine AWp.seq' ?_
 refine sr (N' := 128) rfl ?_
 refine pu rfl (ap_ldv Z1 Z3 Z2) ?_
 obtain ⟨r2, h1, hm⟩ := bnd hm
 refine ARun.callQ (r := .v (.bool r2)) Zd Z1 fb85 (fun H => (cD (.agg _ (CFGSketchSketch.dat _)) .nil)) (sketchRight_c h1) ?_
 refine pA ?_
 refine fs ?_
 refine AWp.condM hm Z1 (fun _ hm => ?_) (fun _ hm => ?_)
 ·
  refine sr (N' := 192) rfl ?_
  refine pA ?_
  refine fs ?_
  refine AWp.ret ?_
  refine retSeq ?_
  cases hm
  exact ret1D (.inr rfl) Tryz.results70 (tdn Z1)
 ·
  refine AWp.skip ?_
  refine normSeq ?_
  refine sr (N' := 192) rfl ?_
  refine pA ?_
  refine fs ?_
  refine AWp.seq' ?_
  refine sr (N' := 256) rfl ?_
  refine pA ?_
  refine pu rfl (ap_ldv Z1 Z3 Z4) ?_
  iterate 2 refine pA ?_
  refine fs ?_
  refine AWp.block ?_
  refine AWp.loopM (fun m s => ∃ (names_3 : List Int) (t13 : List Int) (t14 : Int) (t15 : Int), s = (⟨32, (fset (fset (fset (fset (fun _ => AV.any) 3 (.own 1 0 names_3.length)) 13 (.sl (t13.flatMap (ci .u64)) t13.length false)) 14 (.v (.int .i64 t14))) 15 (.v (.int .i64 t15))), ⟨(upd nofresh 1 (.cells 1 (names_3.flatMap (ci .u64)) 0)), 64⟩⟩ : St) ∧ sketchNames_L1 m names_3 t13 t14 t15 = some r) FUEL ?_ ?_ ?_
  ·
   rintro s ⟨_, _, _, _, _, h⟩
   cases h
  ·
   refine ⟨_, ?_, [], s_0.Words, (s_0.Words.length : Int), 0, rfl, hm⟩
   refine St.Le.trans (le_nil 3 900003 1 Z1 Z5) ?_
   exact le_canon (fun j => bif j == 1 then 900003 else 0) (wV (wV (wD ((CFi .u64).sl _ _ _) (wO wk_none)))) (hW (eU (CFi .u64) entWk_none))
  ·
   rintro n1 s ⟨names_3, t13, t14, t15, rfl, hm⟩
   replace hm : sketchNames_B1 (sketchNames_L1 n1) names_3 t13 t14 t15 = some r := hm
   unfold sketchNames_B1 at hm
   refine sr (N' := 128) rfl ?_
   refine pA ?_
   refine fs ?_
   refine AWp.seq' ?_
   refine AWp.condM hm Z1 (fun _ hm => ?_) (fun _ hm => ?_)
   ·
    refine AWp.skip ?_
    refine normSeq ?_
    refine AWp.seqJ (fun s => ∃ (names_3 : List Int) (t13 : List Int) (t14 : Int) (t15 : Int), s = (⟨32, (fset (fset (fset (fset (fun _ => AV.any) 3 (.own 1 0 names_3.length)) 13 (.sl (t13.flatMap (ci .u64)) t13.length false)) 14 (.v (.int .i64 t14))) 15 (.v (.int .i64 t15))), ⟨(upd nofresh 1 (.cells 1 (names_3.flatMap (ci .u64)) 0)), 64⟩⟩ : St) ∧ sketchNames_J1 (sketchNames_L1 n1) names_3 t13 t14 t15 = some r) ?_ ?_
    ·
     refine AWp.block ?_
     refine sr (N' := 192) rfl ?_
     obtain ⟨x4, h3, hm⟩ := bnd hm
     refine pu rfl (ap_idx (CFi .u64) Zd Tryz.underlying82 sz42 Z1 rfl Z1 h3) ?_
     iterate 2 refine pA ?_
     refine fs ?_
     refine sr (N' := 256) rfl ?_
     refine pA ?_
     obtain ⟨⟨r6, r7, r8⟩, h5, hm⟩ := bnd hm
     refine ARun.callQ (r := .tup [.v (.int .i64 r6), .v (.int .i64 r7), .v (.bool r8)]) Zd Z1 fb72 (fun H => (cV .nil)) (nameEnds_c h5) ?_
     iterate 7 refine pA ?_
     refine fs ?_
     refine sr (N' := 320) rfl ?_
     refine pA ?_
     refine fs ?_
     refine AWp.condM hm Z1 (fun _ hm => ?_) (fun _ hm => ?_)
     ·
      refine AWp.reg 64 (N' := 384) rfl ?_
      iterate 2 refine pA ?_
      refine hp (id := 322) rfl rfl (ah_list (CFi .u64) (l := [x4]) Tryz.underlying82 sz42 zc42 Z5 Zd Zd Zd (by simp only [go_sem, Nat.reduceBEq]; try rfl) (by kernel_rfl)) ?_
      obtain ⟨l10, h9, hm⟩ := bnd hm
      refine hp (id := 323) rfl rfl (ah_app (CFi .u64) Tryz.underlying82 Tryz.underlying82 rfl in42 ts42 (by rw [tb42]; decide) (by rw [tb42]; decide) tz42 Zd Zd Z1 Z3 Z6 (as_own (CFi .u64) Z1 Z3 Z6) rfl Z5 h9) ?_
      refine pA ?_
      refine ARun.fin ?_
      refine normIn ?_
      refine normJ ?_
      refine ⟨_, ?_, l10, t13, t14, t15, rfl, hm⟩
      exact le_canon (fun j => bif j == 1 then 323 else 0) (wV (wV (wD ((CFi .u64).sl _ _ _) (wO wk_none)))) (hW (eU (CFi .u64) entWk_none))
     ·
      refine AWp.skip ?_
      refine normIn ?_
      refine normJ ?_
      refine ⟨_, ?_, names_3, t13, t14, t15, rfl, hm⟩
      exact le_canon (fun j => bif j == 1 then 1 else 0) (wV (wV (wD ((CFi .u64).sl _ _ _) (wO wk_none)))) (hW (eU (CFi .u64) entWk_none))
    ·
     rintro s ⟨names_3, t13, t14, t15, rfl, hm⟩
     unfold sketchNames_J1 at hm
     refine AWp.reg 64 (N' := 128) rfl ?_
     iterate 2 refine pA ?_
     refine ARun.fin ?_
     refine normThen ?_
     refine ⟨_, ?_, names_3, t13, t14, (IntKind.i64.wrap (t15 + 1)), rfl, hm⟩
     exact le_canon (fun j => bif j == 1 then 1 else 0) (wV (wV (wD ((CFi .u64).sl _ _ _) (wO wk_none)))) (hW (eU (CFi .u64) entWk_none))
   ·
    refine AWp.exit ?_
    refine exitSeq ?_
    refine exitThen ?_
    refine exitHere ?_
    refine normSeq ?_
    refine sr (N' := 192) rfl ?_
    iterate 2 refine pA ?_
    refine fs ?_
    refine AWp.ret ?_
    cases hm
    exact ret1D (.inr rfl) Tryz.results70 (tdo (CFi .u64) Z1 Z3 Z6)
def searchSearch_J1 (rec1 : GEdge → List GEdge → List Int → Int → Int → Option (GEdge × Bool)) (t6 : GEdge) (out_8 : List GEdge) (t30 : List Int) (t31 : Int) (t32 : Int) : Option (GEdge × Bool) :=
 rec1 t6 out_8 t30 t31 (IntKind.i64.wrap (t32 + 1))
def searchSearch_B1 (rec1 : GEdge → List GEdge → List Int → Int → Int → Option (GEdge × Bool)) (t6 : GEdge) (out_8 : List GEdge) (t30 : List Int) (t31 : Int) (t32 : Int) : Option (GEdge × Bool) :=
 (bif (decide (t32 < t31)) then
  ((idx t30 t32).bind fun x10 =>
  ((nameEnds_m x10).bind fun ⟨r12, r13, r14⟩ =>
  (bif (!r14) then
   searchSearch_J1 rec1 t6 out_8 t30 t31 t32
  else
   ((nameFind_m out_8 r12 r13).bind fun ⟨r16, r17⟩ =>
   (bif r17 then
    ((idx out_8 r16).bind fun x19 =>
    some (x19, true))
   else
    searchSearch_J1 rec1 t6 out_8 t30 t31 t32)))))
 else
  some ((GEdge.mk 0 0 0), false))
def searchSearch_L1 : Nat → GEdge → List GEdge → List Int → Int → Int → Option (GEdge × Bool)
 | 0 => fun _ _ _ _ _ => none
 | n + 1 => searchSearch_B1 (searchSearch_L1 n)
def searchSearch_m (g_0 : GGraph) (tier_1 : Int) (v_2 : Int) : Option (GEdge × Bool) :=
 ((searchHasSketch_m g_0 tier_1 v_2).bind fun r2 =>
 (bif (!r2) then
  some ((GEdge.mk 0 0 0), false)
 else
  ((searchCutOf_m g_0 tier_1 v_2).bind fun r4 =>
  ((searchDrawn_m g_0 tier_1 r4).bind fun r6 =>
  ((sketchNames_m r6).bind fun r8 =>
  searchSearch_L1 FUEL (GEdge.mk 0 0 0) r4 r8 (r8.length : Int) 0)))))
theorem searchSearch_c {g_0 : GGraph} {tier_1 : Int} {v_2 : Int} {r : GEdge × Bool} (hm : searchSearch_m g_0 tier_1 v_2 = some r) : PureC Tryz.prog 56 [.agg [.v (.int .i64 g_0.Config.N), .v (.int .i64 g_0.Config.L), .v (.int .i64 g_0.Config.R), .sl (g_0.Hashes.flatMap cGHash) g_0.Hashes.length false, .sl (g_0.Edges.flatMap cGEdge) g_0.Edges.length false], .v (.int .i64 tier_1), .v (.int .i64 v_2)] (.tup [.agg [.v (.int .i64 r.1.U), .v (.int .i64 r.1.V), .v (.int .i64 r.1.Tier)], .v (.bool r.2)]) := by
 refine PureC.of_body Tryz.func56 rfl ?_
 simp only [Tryz.ntmps56, List.length_cons, List.length_nil, Nat.reduceAdd, Nat.reduceSub, empty_eq]
 unfold searchSearch_m at hm
 refine sr (N' := 64) rfl ?_
 refine hp (id := 0) rfl rfl (aheap_box Z1 Z5) ?_
 refine hp (id := 1) rfl rfl (aheap_alloc' zc47 Z5) ?_
 refine pA ?_
 refine fs ?_
 refine AWp.seq' ?_
 refine sr (N' := 128) rfl ?_
 refine pu rfl (ap_ldv Z1 Z3 Z2) ?_
 iterate 2 refine pA ?_
 obtain ⟨r2, h1, hm⟩ := bnd hm
 refine ARun.callQ (r := .v (.bool r2)) Zd Z1 fb68 (fun H => (cD (.agg _ (CFGGraph.dat _)) (cV (cV .nil)))) (searchHasSketch_c h1) ?_
 refine pA ?_
 refine fs ?_
 refine AWp.condM hm Z1 (fun _ hm => ?_) (fun _ hm => ?_)
 ·
  refine sr (N' := 192) rfl ?_
  refine pu rfl (by simp only [go_sem, Nat.reduceBEq]; exact (by kernel_rfl : abuild Tryz.prog 47 [] = some (.agg [.v (.int .i64 0), .v (.int .i64 0), .v (.int .i64 0)]))) ?_
  refine ARun.heap0 (id := 129) rfl (ah_var (ys := [.v (.int .i64 0), .v (.int .i64 0), .v (.int .i64 0)]) sz47 Z1 Z1 Z3 rfl (Nat.le_of_ble_eq_true rfl) Z9 rfl) ?_
  refine pA ?_
  refine fs ?_
  refine AWp.ret ?_
  refine retSeq ?_
  cases hm
  exact retL (.inr rfl) (by rw [Tryz.results56]) (.cell (ap_ldv' Z1 Z3 Z2) (.tmp Z1 .nil)) rfl (tdt (.cons (td rfl (.agg _ (CFGEdge.dat (GEdge.mk 0 0 0)))) (.cons (td rfl (.v _)) .nil)))
 ·
  refine AWp.skip ?_
  refine normSeq ?_
  refine sr (N' := 192) rfl ?_
  refine pu rfl (ap_ldv Z1 Z3 Z2) ?_
  iterate 2 refine pA ?_
  obtain ⟨r4, h3, hm⟩ := bnd hm
  refine ARun.callQ (r := .sl (r4.flatMap cGEdge) r4.length false) Zd Z1 fb69 (fun H => (cD (.agg _ (CFGGraph.dat _)) (cV (cV .nil)))) (searchCutOf_c h3) ?_
  refine pA ?_
  refine fs ?_
  refine AWp.seq' ?_
  refine sr (N' := 256) rfl ?_
  refine pu rfl (ap_ldv Z1 Z3 Z2) ?_
  iterate 2 refine pA ?_
  obtain ⟨r6, h5, hm⟩ := bnd hm
  refine ARun.callQ (r := .agg [.v (.int .i64 r6.R), .v (.int .i64 r6.V), .sl (r6.Words.flatMap (ci .u64)) r6.Words.length false]) Zd Z1 fb71 (fun H => (cD (.agg _ (CFGGraph.dat _)) (cV (cD (CFGEdge.sl _ _ _) .nil)))) (searchDrawn_c h5) ?_
  obtain ⟨r8, h7, hm⟩ := bnd hm
  refine ARun.callQ (r := .sl (r8.flatMap (ci .u64)) r8.length false) Zd Z1 fb70 (fun H => (cD (.agg _ (CFGSketchSketch.dat _)) .nil)) (sketchNames_c h7) ?_
  iterate 2 refine pA ?_
  refine fs ?_
  refine AWp.block ?_
  refine AWp.loopM (fun m s => ∃ (t6 : GEdge) (out_8 : List GEdge) (t30 : List Int) (t31 : Int) (t32 : Int), s = (⟨58, (fset (fset (fset (fset (fset (fun _ => AV.any) 6 (.adr 1 0)) 8 (.sl (out_8.flatMap cGEdge) out_8.length false)) 30 (.sl (t30.flatMap (ci .u64)) t30.length false)) 31 (.v (.int .i64 t31))) 32 (.v (.int .i64 t32))), ⟨(upd nofresh 1 (.cells 1 [.v (.int .i64 t6.U), .v (.int .i64 t6.V), .v (.int .i64 t6.Tier)] 0)), 64⟩⟩ : St) ∧ searchSearch_L1 m t6 out_8 t30 t31 t32 = some r) FUEL ?_ ?_ ?_
  ·
   rintro s ⟨_, _, _, _, _, _, h⟩
   cases h
  ·
   refine ⟨_, ?_, (GEdge.mk 0 0 0), r4, r8, (r8.length : Int), 0, rfl, hm⟩
   exact le_canon (fun j => bif j == 1 then 1 else 0) (wV (wV (wD ((CFi .u64).sl _ _ _) (wD (CFGEdge.sl _ _ _) (wk_fset _ _ (wk_adr Z1 rfl Z7) wk_none))))) (hW (entWk_upd (entWk_data Z3 (Nat.le_refl _) (Nat.zero_le _) (CFGEdge.dat (GEdge.mk 0 0 0))) entWk_none))
  ·
   rintro n1 s ⟨t6, out_8, t30, t31, t32, rfl, hm⟩
   replace hm : searchSearch_B1 (searchSearch_L1 n1) t6 out_8 t30 t31 t32 = some r := hm
   unfold searchSearch_B1 at hm
   refine sr (N' := 128) rfl ?_
   refine pA ?_
   refine fs ?_
   refine AWp.seq' ?_
   refine AWp.condM hm Z1 (fun _ hm => ?_) (fun _ hm => ?_)
   ·
    refine AWp.skip ?_
    refine normSeq ?_
    refine AWp.seqJ (fun s => ∃ (t6 : GEdge) (out_8 : List GEdge) (t30 : List Int) (t31 : Int) (t32 : Int), s = (⟨58, (fset (fset (fset (fset (fset (fun _ => AV.any) 6 (.adr 1 0)) 8 (.sl (out_8.flatMap cGEdge) out_8.length false)) 30 (.sl (t30.flatMap (ci .u64)) t30.length false)) 31 (.v (.int .i64 t31))) 32 (.v (.int .i64 t32))), ⟨(upd nofresh 1 (.cells 1 [.v (.int .i64 t6.U), .v (.int .i64 t6.V), .v (.int .i64 t6.Tier)] 0)), 64⟩⟩ : St) ∧ searchSearch_J1 (searchSearch_L1 n1) t6 out_8 t30 t31 t32 = some r) ?_ ?_
    ·
     refine AWp.block ?_
     refine sr (N' := 192) rfl ?_
     obtain ⟨x10, h9, hm⟩ := bnd hm
     refine pu rfl (ap_idx (CFi .u64) Zd Tryz.underlying82 sz42 Z1 rfl Z1 h9) ?_
     iterate 2 refine pA ?_
     refine fs ?_
     refine sr (N' := 256) rfl ?_
     refine pA ?_
     obtain ⟨⟨r12, r13, r14⟩, h11, hm⟩ := bnd hm
     refine ARun.callQ (r := .tup [.v (.int .i64 r12), .v (.int .i64 r13), .v (.bool r14)]) Zd Z1 fb72 (fun H => (cV .nil)) (nameEnds_c h11) ?_
     iterate 7 refine pA ?_
     refine fs ?_
     refine AWp.seq' ?_
     refine sr (N' := 320) rfl ?_
     iterate 2 refine pA ?_
     refine fs ?_
     refine AWp.condM hm Z1 (fun _ hm => ?_) (fun _ hm => ?_)
     ·
      refine AWp.exit ?_
      refine exitSeq ?_
      refine exitHere ?_
      refine normJ ?_
      refine ⟨_, ?_, t6, out_8, t30, t31, t32, rfl, hm⟩
      exact le_canon (fun j => bif j == 1 then 1 else 0) (wV (wV (wD ((CFi .u64).sl _ _ _) (wD (CFGEdge.sl _ _ _) (wk_fset _ _ (wk_adr Z1 rfl Z7) wk_none))))) (hW (entWk_upd (entWk_data Z3 (Nat.le_refl _) (Nat.zero_le _) (CFGEdge.dat t6)) entWk_none))
     ·
      refine AWp.skip ?_
      refine normSeq ?_
      refine sr (N' := 384) rfl ?_
      iterate 3 refine pA ?_
      obtain ⟨⟨r16, r17⟩, h15, hm⟩ := bnd hm
      refine ARun.callQ (r := .tup [.v (.int .i64 r16), .v (.bool r17)]) Zd Z1 fb37 (fun H => (cD (CFGEdge.sl _ _ _) (cV (cV .nil)))) (nameFind_c h15) ?_
      iterate 5 refine pA ?_
      refine fs ?_
      refine sr (N' := 448) rfl ?_
      refine pA ?_
      refine fs ?_
      refine AWp.condM hm Z1 (fun _ hm => ?_) (fun _ hm => ?_)
      ·
       refine sr (N' := 512) rfl ?_
       iterate 2 refine pA ?_
       obtain ⟨x19, h18, hm⟩ := bnd hm
       refine pu rfl (ap_idx CFGEdge Zd Tryz.underlying25 sz47 Z1 rfl Z1 h18) ?_
       refine pA ?_
       refine ARun.heap0 (id := 452) rfl (ah_var (ys := [.v (.int .i64 x19.U), .v (.int .i64 x19.V), .v (.int .i64 x19.Tier)]) sz47 Z1 Z1 Z3 rfl (Nat.le_of_ble_eq_true rfl) Z9 rfl) ?_
       refine pA ?_
       refine fs ?_
       refine AWp.ret ?_
       refine retIn ?_
       refine retJ ?_
       refine retThen ?_
       refine retIn ?_
       refine retSeq ?_
       cases hm
       exact retL (.inr rfl) (by rw [Tryz.results56]) (.cell (ap_ldv' Z1 Z3 Z2) (.tmp Z1 .nil)) rfl (tdt (.cons (td rfl (.agg _ (CFGEdge.dat _))) (.cons (td rfl (.v _)) .nil)))
      ·
       refine AWp.skip ?_
       refine normIn ?_
       refine normJ ?_
       refine ⟨_, ?_, t6, out_8, t30, t31, t32, rfl, hm⟩
       exact le_canon (fun j => bif j == 1 then 1 else 0) (wV (wV (wD ((CFi .u64).sl _ _ _) (wD (CFGEdge.sl _ _ _) (wk_fset _ _ (wk_adr Z1 rfl Z7) wk_none))))) (hW (entWk_upd (entWk_data Z3 (Nat.le_refl _) (Nat.zero_le _) (CFGEdge.dat t6)) entWk_none))
    ·
     rintro s ⟨t6, out_8, t30, t31, t32, rfl, hm⟩
     unfold searchSearch_J1 at hm
     refine AWp.reg 64 (N' := 128) rfl ?_
     iterate 2 refine pA ?_
     refine ARun.fin ?_
     refine normThen ?_
     refine ⟨_, ?_, t6, out_8, t30, t31, (IntKind.i64.wrap (t32 + 1)), rfl, hm⟩
     exact le_canon (fun j => bif j == 1 then 1 else 0) (wV (wV (wD ((CFi .u64).sl _ _ _) (wD (CFGEdge.sl _ _ _) (wk_fset _ _ (wk_adr Z1 rfl Z7) wk_none))))) (hW (entWk_upd (entWk_data Z3 (Nat.le_refl _) (Nat.zero_le _) (CFGEdge.dat t6)) entWk_none))
   ·
    refine AWp.exit ?_
    refine exitSeq ?_
    refine exitThen ?_
    refine exitHere ?_
    refine normSeq ?_
    refine sr (N' := 192) rfl ?_
    refine pu rfl (by simp only [go_sem, Nat.reduceBEq]; exact (by kernel_rfl : abuild Tryz.prog 47 [] = some (.agg [.v (.int .i64 0), .v (.int .i64 0), .v (.int .i64 0)]))) ?_
    refine ARun.heap0 (id := 129) rfl (ah_var (ys := [.v (.int .i64 0), .v (.int .i64 0), .v (.int .i64 0)]) sz47 Z1 Z1 Z3 rfl (Nat.le_of_ble_eq_true rfl) Z9 rfl) ?_
    refine pA ?_
    refine fs ?_
    refine AWp.ret ?_
    cases hm
    exact retL (.inr rfl) (by rw [Tryz.results56]) (.cell (ap_ldv' Z1 Z3 Z2) (.tmp Z1 .nil)) rfl (tdt (.cons (td rfl (.agg _ (CFGEdge.dat (GEdge.mk 0 0 0)))) (.cons (td rfl (.v _)) .nil)))
def groveGreatest_J1 (rec1 : GEdge → GEdge → List GEdge → Int → Int → Option (GEdge × Bool)) (t2 : GEdge) (greatest_4 : GEdge) (t15 : List GEdge) (t16 : Int) (t17 : Int) : Option (GEdge × Bool) :=
 rec1 t2 greatest_4 t15 t16 (IntKind.i64.wrap (t17 + 1))
def groveGreatest_B1 (rec1 : GEdge → GEdge → List GEdge → Int → Int → Option (GEdge × Bool)) (t2 : GEdge) (greatest_4 : GEdge) (t15 : List GEdge) (t16 : Int) (t17 : Int) : Option (GEdge × Bool) :=
 (bif (decide (t17 < t16)) then
  ((idx t15 t17).bind fun x6 =>
  ((gopt (((decide (greatest_4.Tier < x6.Tier)) == false) && ((x6.Tier == greatest_4.Tier) == true)) false (nameLess_m greatest_4 x6)).bind fun r8 =>
  (bif ((decide (greatest_4.Tier < x6.Tier)) || ((x6.Tier == greatest_4.Tier) && r8)) then
   groveGreatest_J1 rec1 t2 x6 t15 t16 t17
  else
   groveGreatest_J1 rec1 t2 greatest_4 t15 t16 t17)))
 else
  some (greatest_4, true))
def groveGreatest_L1 : Nat → GEdge → GEdge → List GEdge → Int → Int → Option (GEdge × Bool)
 | 0 => fun _ _ _ _ _ => none
 | n + 1 => groveGreatest_B1 (groveGreatest_L1 n)
def groveGreatest_m (l_0 : List GEdge) : Option (GEdge × Bool) :=
 (bif ((l_0.length : Int) == 0) then
  some ((GEdge.mk 0 0 0), false)
 else
  ((idx l_0 0).bind fun x2 =>
  ((slc l_0 1 (l_0.length : Int)).bind fun l4 =>
  groveGreatest_L1 FUEL (GEdge.mk 0 0 0) x2 l4 (l4.length : Int) 0)))
theorem groveGreatest_c {l_0 : List GEdge} {r : GEdge × Bool} (hm : groveGreatest_m l_0 = some r) : PureC Tryz.prog 58 [.sl (l_0.flatMap cGEdge) l_0.length false] (.tup [.agg [.v (.int .i64 r.1.U), .v (.int .i64 r.1.V), .v (.int .i64 r.1.Tier)], .v (.bool r.2)]) := by
 refine PureC.of_body Tryz.func58 rfl ?_
 simp only [Tryz.ntmps58, List.length_cons, List.length_nil, Nat.reduceAdd, Nat.reduceSub, empty_eq]
 unfold groveGreatest_m at hm
 refine sr (N' := 64) rfl ?_
 refine hp (id := 0) rfl rfl (aheap_alloc' zc47 Z5) ?_
 refine pA ?_
 refine fs ?_
 refine AWp.seq' ?_
 refine sr (N' := 128) rfl ?_
 iterate 3 refine pA ?_
 refine fs ?_
 refine AWp.condM hm Z1 (fun _ hm => ?_) (fun _ hm => ?_)
 ·
  refine sr (N' := 192) rfl ?_
  refine pu rfl (by simp only [go_sem, Nat.reduceBEq]; exact (by kernel_rfl : abuild Tryz.prog 47 [] = some (.agg [.v (.int .i64 0), .v (.int .i64 0), .v (.int .i64 0)]))) ?_
  refine ARun.heap0 (id := 129) rfl (ah_var (ys := [.v (.int .i64 0), .v (.int .i64 0), .v (.int .i64 0)]) sz47 Z1 Z1 Z3 rfl (Nat.le_of_ble_eq_true rfl) Z9 rfl) ?_
  refine pA ?_
  refine fs ?_
  refine AWp.ret ?_
  refine retSeq ?_
  cases hm
  exact retL (.inr rfl) (by rw [Tryz.results58]) (.cell (ap_ldv' Z1 Z3 Z2) (.tmp Z1 .nil)) rfl (tdt (.cons (td rfl (.agg _ (CFGEdge.dat (GEdge.mk 0 0 0)))) (.cons (td rfl (.v _)) .nil)))
 ·
  refine AWp.skip ?_
  refine normSeq ?_
  refine sr (N' := 192) rfl ?_
  refine pA ?_
  obtain ⟨x2, h1, hm⟩ := bnd hm
  refine pu rfl (ap_idx CFGEdge Zd Tryz.underlying25 sz47 Z1 rfl Z1 h1) ?_
  refine pA ?_
  refine hp (id := 131) rfl rfl (aheap_alloc' zc47 Z5) ?_
  refine ARun.heap0 (id := 132) rfl (ah_var (ys := [.v (.int .i64 x2.U), .v (.int .i64 x2.V), .v (.int .i64 x2.Tier)]) sz47 Z1 Z1 Z3 rfl (Nat.le_of_ble_eq_true rfl) Z9 rfl) ?_
  refine fs ?_
  refine AWp.seq' ?_
  refine sr (N' := 256) rfl ?_
  refine pA ?_
  obtain ⟨l4, h3, hm⟩ := bnd hm
  refine pu rfl (ap_slc CFGEdge Tryz.underlying25 sz47 Z1 rfl (ab_some Z1 (slc_0 h3).1) (ab_none _) h3) ?_
  iterate 2 refine pA ?_
  refine fs ?_
  refine AWp.block ?_
  refine AWp.loopM (fun m s => ∃ (t2 : GEdge) (greatest_4 : GEdge) (t15 : List GEdge) (t16 : Int) (t17 : Int), s = (⟨41, (fset (fset (fset (fset (fset (fun _ => AV.any) 2 (.adr 1 0)) 4 (.adr 2 0)) 15 (.sl (t15.flatMap cGEdge) t15.length false)) 16 (.v (.int .i64 t16))) 17 (.v (.int .i64 t17))), ⟨(upd (upd nofresh 1 (.cells 1 [.v (.int .i64 t2.U), .v (.int .i64 t2.V), .v (.int .i64 t2.Tier)] 0)) 2 (.cells 1 [.v (.int .i64 greatest_4.U), .v (.int .i64 greatest_4.V), .v (.int .i64 greatest_4.Tier)] 0)), 64⟩⟩ : St) ∧ groveGreatest_L1 m t2 greatest_4 t15 t16 t17 = some r) FUEL ?_ ?_ ?_
  ·
   rintro s ⟨_, _, _, _, _, _, h⟩
   cases h
  ·
   refine ⟨_, ?_, (GEdge.mk 0 0 0), x2, l4, (l4.length : Int), 0, rfl, hm⟩
   refine St.Le.trans (le_tod 15 (.sl (l4.flatMap cGEdge) l4.length false) (fun H => (tdf Z1 (CFGEdge.sl _ _ _)))) ?_
   exact le_canon (fun j => bif j == 1 then 0 else bif j == 2 then 131 else 0) (wV (wV (wD (CFGEdge.sl _ _ _) (wk_fset _ _ (wk_adr Z1 rfl Z7) (wk_fset _ _ (wk_adr Z1 rfl Z7) wk_none))))) (heapWk_of _ (entWk_upd (entWk_data Z3 (Nat.le_refl _) (Nat.zero_le _) (CFGEdge.dat x2)) (entWk_upd (entWk_data Z3 (Nat.le_refl _) (Nat.zero_le _) (CFGEdge.dat (GEdge.mk 0 0 0))) entWk_none)) Z8)
  ·
   rintro n1 s ⟨t2, greatest_4, t15, t16, t17, rfl, hm⟩
   replace hm : groveGreatest_B1 (groveGreatest_L1 n1) t2 greatest_4 t15 t16 t17 = some r := hm
   unfold groveGreatest_B1 at hm
   refine sr (N' := 128) rfl ?_
   refine pA ?_
   refine fs ?_
   refine AWp.seq' ?_
   refine AWp.condM hm Z1 (fun _ hm => ?_) (fun _ hm => ?_)
   ·
    refine AWp.skip ?_
    refine normSeq ?_
    refine AWp.seqJ (fun s => ∃ (t2 : GEdge) (greatest_4 : GEdge) (t15 : List GEdge) (t16 : Int) (t17 : Int), s = (⟨41, (fset (fset (fset (fset (fset (fun _ => AV.any) 2 (.adr 1 0)) 4 (.adr 2 0)) 15 (.sl (t15.flatMap cGEdge) t15.length false)) 16 (.v (.int .i64 t16))) 17 (.v (.int .i64 t17))), ⟨(upd (upd nofresh 1 (.cells 1 [.v (.int .i64 t2.U), .v (.int .i64 t2.V), .v (.int .i64 t2.Tier)] 0)) 2 (.cells 1 [.v (.int .i64 greatest_4.U), .v (.int .i64 greatest_4.V), .v (.int .i64 greatest_4.Tier)] 0)), 64⟩⟩ : St) ∧ groveGreatest_J1 (groveGreatest_L1 n1) t2 greatest_4 t15 t16 t17 = some r) ?_ ?_
    ·
     refine AWp.block ?_
     refine sr (N' := 192) rfl ?_
     obtain ⟨x6, h5, hm⟩ := bnd hm
     refine pu rfl (ap_idx CFGEdge Zd Tryz.underlying25 sz47 Z1 rfl Z1 h5) ?_
     refine pA ?_
     refine hp (id := 130) rfl rfl (aheap_alloc' zc47 Z5) ?_
     refine ARun.heap0 (id := 131) rfl (ah_var (ys := [.v (.int .i64 x6.U), .v (.int .i64 x6.V), .v (.int .i64 x6.Tier)]) sz47 Z1 Z1 Z3 rfl (Nat.le_of_ble_eq_true rfl) Z9 rfl) ?_
     refine fs ?_
     refine sr (N' := 256) rfl ?_
     refine pA ?_
     refine pu rfl (ap_ldv Z1 Z3 Z4) ?_
     refine pA ?_
     refine pu rfl (ap_ldv Z1 Z3 Z4) ?_
     iterate 3 first | refine pA ?_ | refine pB ?_
     refine pg rfl rfl Z2 (fun hb => (ap_ldv (Zh hb) Z3 Z4)) ?_
     refine pB ?_
     refine pg rfl rfl Z2 (fun hb => (ap_ldv (Zh hb) Z3 Z4)) ?_
     iterate 2 refine pB ?_
     refine pg rfl rfl Z2 (fun hb => (ap_ldv (Zh hb) Z3 Z2)) ?_
     refine pg rfl rfl Z2 (fun hb => (ap_ldv (Zh hb) Z3 Z2)) ?_
     obtain ⟨r8, h7, hm⟩ := bnd hm
     refine ARun.callQG (r := .v (.bool r8)) Zd rfl Z2 Z1 fb38 (fun hb H => (.cons (td (Zh hb) (.agg _ (CFGEdge.dat _))) (.cons (td (Zh hb) (.agg _ (CFGEdge.dat _))) .nil))) (fun hb => nameLess_c (gopt_t h7 hb)) ?_
     iterate 2 first | refine pA ?_ | refine pB ?_
     refine fs ?_
     refine AWp.condM hm Z1 (fun _ hm => ?_) (fun _ hm => ?_)
     ·
      refine AWp.reg 64 (N' := 320) rfl ?_
      refine pu rfl (ap_ldv Z1 Z3 Z2) ?_
      refine ARun.heap0 (id := 257) rfl (ah_var (ys := [.v (.int .i64 x6.U), .v (.int .i64 x6.V), .v (.int .i64 x6.Tier)]) sz47 Z1 Z1 Z3 rfl (Nat.le_of_ble_eq_true rfl) Z9 rfl) ?_
      refine ARun.fin ?_
      refine normIn ?_
      refine normJ ?_
      refine ⟨_, ?_, t2, x6, t15, t16, t17, rfl, hm⟩
      exact le_canon (fun j => bif j == 1 then 1 else bif j == 2 then 2 else 0) (wV (wV (wD (CFGEdge.sl _ _ _) (wk_fset _ _ (wk_adr Z1 rfl Z7) (wk_fset _ _ (wk_adr Z1 rfl Z7) wk_none))))) (hW (entWk_upd (entWk_data Z3 (Nat.le_refl _) (Nat.zero_le _) (CFGEdge.dat x6)) (entWk_upd (entWk_data Z3 (Nat.le_refl _) (Nat.zero_le _) (CFGEdge.dat t2)) entWk_none)))
     ·
      refine AWp.skip ?_
      refine normIn ?_
      refine normJ ?_
      refine ⟨_, ?_, t2, greatest_4, t15, t16, t17, rfl, hm⟩
      exact le_canon (fun j => bif j == 1 then 1 else bif j == 2 then 2 else 0) (wV (wV (wD (CFGEdge.sl _ _ _) (wk_fset _ _ (wk_adr Z1 rfl Z7) (wk_fset _ _ (wk_adr Z1 rfl Z7) wk_none))))) (hW (entWk_upd (entWk_data Z3 (Nat.le_refl _) (Nat.zero_le _) (CFGEdge.dat greatest_4)) (entWk_upd (entWk_data Z3 (Nat.le_refl _) (Nat.zero_le _) (CFGEdge.dat t2)) entWk_none)))
    ·
     rintro s ⟨t2, greatest_4, t15, t16, t17, rfl, hm⟩
     unfold groveGreatest_J1 at hm
     refine AWp.reg 64 (N' := 128) rfl ?_
     iterate 2 refine pA ?_
     refine ARun.fin ?_
     refine normThen ?_
     refine ⟨_, ?_, t2, greatest_4, t15, t16, (IntKind.i64.wrap (t17 + 1)), rfl, hm⟩
     exact le_canon (fun j => bif j == 1 then 1 else bif j == 2 then 2 else 0) (wV (wV (wD (CFGEdge.sl _ _ _) (wk_fset _ _ (wk_adr Z1 rfl Z7) (wk_fset _ _ (wk_adr Z1 rfl Z7) wk_none))))) (hW (entWk_upd (entWk_data Z3 (Nat.le_refl _) (Nat.zero_le _) (CFGEdge.dat greatest_4)) (entWk_upd (entWk_data Z3 (Nat.le_refl _) (Nat.zero_le _) (CFGEdge.dat t2)) entWk_none)))
   ·
    refine AWp.exit ?_
    refine exitSeq ?_
    refine exitThen ?_
    refine exitHere ?_
    refine normSeq ?_
    refine sr (N' := 192) rfl ?_
    refine pu rfl (ap_ldv Z1 Z3 Z2) ?_
    refine ARun.heap0 (id := 129) rfl (ah_var (ys := [.v (.int .i64 greatest_4.U), .v (.int .i64 greatest_4.V), .v (.int .i64 greatest_4.Tier)]) sz47 Z1 Z1 Z3 rfl (Nat.le_of_ble_eq_true rfl) Z9 rfl) ?_
    refine pA ?_
    refine fs ?_
    refine AWp.ret ?_
    cases hm
    exact retL (.inr rfl) (by rw [Tryz.results58]) (.cell (ap_ldv' Z1 Z3 Z2) (.tmp Z1 .nil)) rfl (tdt (.cons (td rfl (.agg _ (CFGEdge.dat _))) (.cons (td rfl (.v _)) .nil)))
def slicesCloneEdge_m (l : List GEdge) : Option (List GEdge) := app [] l
theorem slicesCloneEdge_fA {r : List GEdge} (hm : some [] = some r) : FreshC Tryz.prog 76 [.v (.slice none 0 0)] 3 (r.flatMap cGEdge) r.length := by
 refine FreshC.of_body Tryz.func76 rfl (CFGEdge.fmdat r) ?_
 simp only [Tryz.ntmps76, List.length_cons, List.length_nil, Nat.reduceAdd, Nat.reduceSub, empty_eq]
 refine sr (N' := 64) rfl ?_
 refine pA ?_
 refine fs ?_
 refine AWp.seq' ?_
 refine sr (N' := 128) rfl ?_
 refine pA ?_
 refine pu rfl (ap_eqn Z1 Z1 (abin_nil Tryz.underlying25)) ?_
 refine fs ?_
 refine AWp.condT Z1 ?_
 refine sr (N' := 192) rfl ?_
 refine pA ?_
 refine fs ?_
 refine AWp.weaken (le_nil 2 900002 3 Z1 Z5) ?_
 refine AWp.ret ?_
 refine retSeq ?_
 cases hm
 exact retF (.inr rfl) Tryz.results76 Z1 Z3 Z6
theorem slicesCloneEdge_fB {a : Addr} {c : Nat} {r : List GEdge} (hm : ((app [] []).bind fun l2 =>
some l2) = some r) : FreshC Tryz.prog 76 [.v (.slice (some a) 0 c)] 3 (r.flatMap cGEdge) r.length := by
 refine FreshC.of_body Tryz.func76 rfl (CFGEdge.fmdat r) ?_
 simp only [Tryz.ntmps76, List.length_cons, List.length_nil, Nat.reduceAdd, Nat.reduceSub, empty_eq]
 refine sr (N' := 64) rfl ?_
 refine pA ?_
 refine fs ?_
 refine AWp.seq' ?_
 refine sr (N' := 128) rfl ?_
 refine pA ?_
 refine pu rfl (ap_eqn Z1 Z1 (abin_xnil Tryz.underlying25)) ?_
 refine fs ?_
 refine AWp.condF Z1 ?_
 refine AWp.skip ?_
 refine normSeq ?_
 refine sr (N' := 192) rfl ?_
 refine hp (id := 128) rfl rfl (ah_list CFGEdge (l := []) Tryz.underlying25 sz47 zc47 Z5 Zd Zd Zd (by simp only [go_sem, Nat.reduceBEq]; try rfl) (by kernel_rfl)) ?_
 refine pA ?_
 obtain ⟨l2, h1, hm⟩ := bnd hm
 refine hp (id := 130) rfl rfl (ah_app CFGEdge Tryz.underlying25 Tryz.underlying25 rfl in47 ts47 (by rw [tb47]; decide) (by rw [tb47]; decide) tz47 Zd Zd Z1 Z3 Z6 (as_xnil Z1) rfl Z5 h1) ?_
 refine pA ?_
 refine fs ?_
 refine AWp.ret ?_
 cases hm
 exact retF (.inr rfl) Tryz.results76 Z1 Z3 Z6
theorem slicesCloneEdge_fC {x0 : GEdge} {l0 : List GEdge} {r : List GEdge} (hm : ((app [] (x0 :: l0)).bind fun l2 =>
some l2) = some r) : FreshC Tryz.prog 76 [.sl ((x0 :: l0).flatMap cGEdge) (x0 :: l0).length false] 3 (r.flatMap cGEdge) r.length := by
 refine FreshC.of_body Tryz.func76 rfl (CFGEdge.fmdat r) ?_
 simp only [Tryz.ntmps76, List.length_cons, List.length_nil, Nat.reduceAdd, Nat.reduceSub, empty_eq]
 refine sr (N' := 64) rfl ?_
 refine pA ?_
 refine fs ?_
 refine AWp.seq' ?_
 refine sr (N' := 128) rfl ?_
 refine pA ?_
 refine pu rfl (ap_eqn Z1 Z1 (abin_nnil Tryz.underlying25 (by simp))) ?_
 refine fs ?_
 refine AWp.condF Z1 ?_
 refine AWp.skip ?_
 refine normSeq ?_
 refine sr (N' := 192) rfl ?_
 refine hp (id := 128) rfl rfl (ah_list CFGEdge (l := []) Tryz.underlying25 sz47 zc47 Z5 Zd Zd Zd (by simp only [go_sem, Nat.reduceBEq]; try rfl) (by kernel_rfl)) ?_
 refine pA ?_
 obtain ⟨l2, h1, hm⟩ := bnd hm
 refine hp (id := 130) rfl rfl (ah_app CFGEdge Tryz.underlying25 Tryz.underlying25 rfl in47 ts47 (by rw [tb47]; decide) (by rw [tb47]; decide) tz47 Zd Zd Z1 Z3 Z6 (as_sl CFGEdge Z1 rfl) rfl Z5 h1) ?_
 refine pA ?_
 refine fs ?_
 refine AWp.ret ?_
 cases hm
 exact retF (.inr rfl) Tryz.results76 Z1 Z3 Z6
theorem slicesCloneEdge_f {l r : List GEdge} (hm : slicesCloneEdge_m l = some r) : FreshC Tryz.prog 76 [.sl (l.flatMap cGEdge) l.length false] 3 (r.flatMap cGEdge) r.length := by
 cases l with
 | nil =>
  have hr : r = [] := by unfold slicesCloneEdge_m app at hm; simpa using hm.symm
  subst hr
  exact FreshC.nil_arg (slicesCloneEdge_fA (r := []) rfl) (fun a c => slicesCloneEdge_fB (r := []) rfl)
 | cons x0 l0 =>
  refine slicesCloneEdge_fC ?_
  show (app [] (x0 :: l0)).bind _ = _
  unfold slicesCloneEdge_m at hm
  rw [hm]; rfl
def tableSet_m (n_0 : Int) (l_1 : List GEdge) (u_2 : Int) (v_3 : Int) (tier_4 : Int) : Option ((List GEdge) × Int) :=
 ((tableRight_m n_0 l_1).bind fun r2 =>
 ((gopt ((!r2) == false) false (tableVertex_m n_0 u_2)).bind fun r4 =>
 ((gopt (((!r2) || (!r4)) == false) false (tableVertex_m n_0 v_3)).bind fun r6 =>
 ((gopt ((((!r2) || (!r4)) || (!r6)) == false) false (tableTiered_m tier_4)).bind fun r8 =>
 (bif ((((!r2) || (!r4)) || (!r6)) || (!r8)) then
  some (l_1, 1)
 else
  ((nameFind_m l_1 u_2 v_3).bind fun ⟨r10, r11⟩ =>
  (bif (!r11) then
   some (l_1, 9)
  else
   ((slicesCloneEdge_m l_1).bind fun r13 =>
   ((idx r13 r10).bind fun x15 =>
   ((stt r13 r10 (GEdge.mk x15.U x15.V tier_4)).bind fun l17 =>
   some (l17, 0)))))))))))
theorem tableSet_c {n_0 : Int} {l_1 : List GEdge} {u_2 : Int} {v_3 : Int} {tier_4 : Int} {r : (List GEdge) × Int} (hm : tableSet_m n_0 l_1 u_2 v_3 tier_4 = some r) : PureC Tryz.prog 59 [.v (.int .i64 n_0), .sl (l_1.flatMap cGEdge) l_1.length false, .v (.int .i64 u_2), .v (.int .i64 v_3), .v (.int .i64 tier_4)] (.tup [.sl (r.1.flatMap cGEdge) r.1.length false, .v (.int .i64 r.2)]) := by
 refine PureC.of_body Tryz.func59 rfl ?_
 simp only [Tryz.ntmps59, List.length_cons, List.length_nil, Nat.reduceAdd, Nat.reduceSub, empty_eq]
 unfold tableSet_m at hm
 refine sr (N' := 64) rfl ?_
 iterate 2 refine pA ?_
 refine fs ?_
 refine AWp.seq' ?_
 refine sr (N' := 128) rfl ?_
 iterate 2 refine pA ?_
 obtain ⟨r2, h1, hm⟩ := bnd hm
 refine ARun.callQ (r := .v (.bool r2)) Zd Z1 fb35 (fun H => (cV (cD (CFGEdge.sl _ _ _) .nil))) (tableRight_c h1) ?_
 iterate 4 first | refine pA ?_ | refine pB ?_
 obtain ⟨r4, h3, hm⟩ := bnd hm
 refine ARun.callQG (r := .v (.bool r4)) Zd rfl Z2 Z1 fb36 (fun hb H => (.cons (td (Zh hb) (.v _)) (.cons (td (Zh hb) (.v _)) .nil))) (fun hb => tableVertex_c (gopt_t h3 hb)) ?_
 iterate 5 first | refine pA ?_ | refine pB ?_
 obtain ⟨r6, h5, hm⟩ := bnd hm
 refine ARun.callQG (r := .v (.bool r6)) Zd rfl Z2 Z1 fb36 (fun hb H => (.cons (td (Zh hb) (.v _)) (.cons (td (Zh hb) (.v _)) .nil))) (fun hb => tableVertex_c (gopt_t h5 hb)) ?_
 iterate 4 first | refine pA ?_ | refine pB ?_
 obtain ⟨r8, h7, hm⟩ := bnd hm
 refine ARun.callQG (r := .v (.bool r8)) Zd rfl Z2 Z1 fb53 (fun hb H => (.cons (td (Zh hb) (.v _)) .nil)) (fun hb => tableTiered_c (gopt_t h7 hb)) ?_
 iterate 2 first | refine pA ?_ | refine pB ?_
 refine fs ?_
 refine AWp.condM hm Z1 (fun _ hm => ?_) (fun _ hm => ?_)
 ·
  refine sr (N' := 192) rfl ?_
  iterate 3 refine pA ?_
  refine fs ?_
  refine AWp.ret ?_
  refine retSeq ?_
  cases hm
  exact ret2D (.inr rfl) Tryz.results59 (td Z1 (CFGEdge.sl _ _ _)) (td Z1 (.v _))
 ·
  refine AWp.skip ?_
  refine normSeq ?_
  refine sr (N' := 192) rfl ?_
  iterate 3 refine pA ?_
  obtain ⟨⟨r10, r11⟩, h9, hm⟩ := bnd hm
  refine ARun.callQ (r := .tup [.v (.int .i64 r10), .v (.bool r11)]) Zd Z1 fb37 (fun H => (cD (CFGEdge.sl _ _ _) (cV (cV .nil)))) (nameFind_c h9) ?_
  iterate 5 refine pA ?_
  refine fs ?_
  refine AWp.seq' ?_
  refine sr (N' := 256) rfl ?_
  iterate 2 refine pA ?_
  refine fs ?_
  refine AWp.condM hm Z1 (fun _ hm => ?_) (fun _ hm => ?_)
  ·
   refine sr (N' := 320) rfl ?_
   iterate 3 refine pA ?_
   refine fs ?_
   refine AWp.ret ?_
   refine retSeq ?_
   cases hm
   exact ret2D (.inr rfl) Tryz.results59 (td Z1 (CFGEdge.sl _ _ _)) (td Z1 (.v _))
  ·
   refine AWp.skip ?_
   refine normSeq ?_
   refine sr (N' := 320) rfl ?_
   refine pA ?_
   obtain ⟨r13, h12, hm⟩ := bnd hm
   refine ARun.callF (id := 257) Zd Z1 fb76 (fun H => (cD (CFGEdge.sl _ _ _) .nil)) CFGEdge Z5 (slicesCloneEdge_f h12) ?_
   refine pA ?_
   refine fs ?_
   refine sr (N' := 384) rfl ?_
   iterate 3 refine pA ?_
   obtain ⟨x15, h14, hm⟩ := bnd hm
   refine pu rfl (ap_idxo Tryz.underlying25 sz47 Z1 Z3 Z6 Z1 h14) ?_
   refine pA ?_
   obtain ⟨l17, h16, hm⟩ := bnd hm
   have qh16 := stt_len h16
   refine ARun.heap0 (id := 325) rfl (ah_sttf CFGEdge (off := 2) (y := x15) (y' := (GEdge.mk x15.U x15.V tier_4)) (cs := [.v (.int .i64 tier_4)]) sz3 Z1 Z1 Z3 rfl h14 rfl Zd Z9 rfl h16) ?_
   refine fs ?_
   refine sr (N' := 448) rfl ?_
   iterate 3 refine pA ?_
   refine fs ?_
   refine AWp.ret ?_
   cases hm
   exact ret2D (.inr rfl) Tryz.results59 (tdo CFGEdge Z1 Z3 Z6) (td Z1 (.v _))
def groveVertex_m (n_0 : Int) (v_1 : Int) : Option (Bool) :=
 some ((decide (0 ≤ v_1)) && (decide (v_1 < n_0)))
theorem groveVertex_c {n_0 : Int} {v_1 : Int} {r : Bool} (hm : groveVertex_m n_0 v_1 = some r) : PureC Tryz.prog 73 [.v (.int .i64 n_0), .v (.int .i64 v_1)] (.v (.bool r)) := by
 refine PureC.of_body Tryz.func73 rfl ?_
 simp only [Tryz.ntmps73, List.length_cons, List.length_nil, Nat.reduceAdd, Nat.reduceSub, empty_eq]
 unfold groveVertex_m at hm
 refine sr (N' := 64) rfl ?_
 refine pA ?_
 refine fs ?_
 refine sr (N' := 128) rfl ?_
 iterate 8 first | refine pA ?_ | refine pB ?_
 refine fs ?_
 refine AWp.ret ?_
 cases hm
 exact ret1D (.inr rfl) Tryz.results73 (td Z1 (.v _))
end Go.Proofs.YtibnmlbjahcjmaaGreat
