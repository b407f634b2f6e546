/- Facts that the statement's proof is made of. No condition. -/
import Derived.Test.YtkdohhmacfoolaaGreatNaGI3
set_option linter.unusedVariables false
set_option linter.unusedSimpArgs false
set_option maxRecDepth 20000
set_option maxHeartbeats 4000000
namespace Go.Proofs.YtkdohhmacfoolaaGreat
open Go Go.AM
theorem fo23_0GI4 (i o : Nat) : afieldAddr Tryz.prog 23 (.adr i o) 0 = some (.adr i (o + 0)) := by kernel_rfl
attribute [go_sem] fo23_0GI4
theorem fo42_1GI4 (i o : Nat) : afieldAddr Tryz.prog 42 (.adr i o) 1 = some (.adr i (o + 1)) := by kernel_rfl
attribute [go_sem] fo42_1GI4
theorem fo42_2GI4 (i o : Nat) : afieldAddr Tryz.prog 42 (.adr i o) 2 = some (.adr i (o + 2)) := by kernel_rfl
attribute [go_sem] fo42_2GI4
theorem fo45_0GI4 (i o : Nat) : afieldAddr Tryz.prog 45 (.adr i o) 0 = some (.adr i (o + 0)) := by kernel_rfl
attribute [go_sem] fo45_0GI4
theorem fo45_1GI4 (i o : Nat) : afieldAddr Tryz.prog 45 (.adr i o) 1 = some (.adr i (o + 1)) := by kernel_rfl
attribute [go_sem] fo45_1GI4
theorem fo45_2GI4 (i o : Nat) : afieldAddr Tryz.prog 45 (.adr i o) 2 = some (.adr i (o + 2)) := by kernel_rfl
attribute [go_sem] fo45_2GI4
theorem ld23GI4 (H : Heap) (x0 x1 x2 : AV) (xs : List AV) : aload Tryz.prog H 23 (.ptr (x0 :: x1 :: x2 :: xs)) = some (.agg [x0, x1, x2]) := by kernel_rfl
attribute [go_sem] ld23GI4
theorem ld24GI4 (H : Heap) (x : AV) (xs : List AV) : aload Tryz.prog H 24 (.ptr (x :: xs)) = some x := by kernel_rfl
attribute [go_sem] ld24GI4
theorem ld3GI4 (H : Heap) (x : AV) (xs : List AV) : aload Tryz.prog H 3 (.ptr (x :: xs)) = some x := by kernel_rfl
attribute [go_sem] ld3GI4
theorem ld33GI4 (H : Heap) (x0 x1 x2 x3 x4 x5 : AV) (xs : List AV) : aload Tryz.prog H 33 (.ptr (x0 :: x1 :: x2 :: x3 :: x4 :: x5 :: xs)) = some (.agg [x0, x1, x2, x3, x4, x5]) := by kernel_rfl
attribute [go_sem] ld33GI4
theorem ld40GI4 (H : Heap) (x : AV) (xs : List AV) : aload Tryz.prog H 40 (.ptr (x :: xs)) = some x := by kernel_rfl
attribute [go_sem] ld40GI4
theorem ld42GI4 (H : Heap) (x0 x1 x2 : AV) (xs : List AV) : aload Tryz.prog H 42 (.ptr (x0 :: x1 :: x2 :: xs)) = some (.agg [x0, x1, x2]) := by kernel_rfl
attribute [go_sem] ld42GI4
theorem ld43GI4 (H : Heap) (x : AV) (xs : List AV) : aload Tryz.prog H 43 (.ptr (x :: xs)) = some x := by kernel_rfl
attribute [go_sem] ld43GI4
theorem ld45GI4 (H : Heap) (x0 x1 x2 x3 : AV) (xs : List AV) : aload Tryz.prog H 45 (.ptr (x0 :: x1 :: x2 :: x3 :: xs)) = some (.agg [x0, x1, x2, x3]) := by kernel_rfl
attribute [go_sem] ld45GI4
def indexMustInt_m (reply_0 : GA) : Option (Int) :=
 ((gaInt1 .i64 3 reply_0).bind fun r2 =>
 some r2)
theorem indexMustInt_c {reply_0 : GA} {r : Int} (hm : indexMustInt_m reply_0 = some r) : PureC Tryz.prog 30 [GA.av reply_0] (.v (.int .i64 r)) := by
 refine PureC.of_body Tryz.func30 rfl ?_
 simp only [Tryz.ntmps30, List.length_cons, List.length_nil, Nat.reduceAdd, Nat.reduceSub, empty_eq]
 unfold indexMustInt_m at hm
 refine sr (N' := 64) rfl ?_
 refine pA ?_
 refine fs ?_
 refine sr (N' := 128) rfl ?_
 refine pA ?_
 obtain ⟨r2, h1, hm⟩ := bnd hm
 refine pu rfl (ap_as1int Tryz.underlying3 Z1 h1) ?_
 refine pA ?_
 refine fs ?_
 refine AWp.ret ?_
 cases hm
 exact ret1D (.inr rfl) Tryz.results30 (td Z1 (.v _))
def indexMustBool_m (reply_0 : GA) : Option (Bool) :=
 ((gaBool1 4 reply_0).bind fun r2 =>
 some r2)
theorem indexMustBool_c {reply_0 : GA} {r : Bool} (hm : indexMustBool_m reply_0 = some r) : PureC Tryz.prog 31 [GA.av reply_0] (.v (.bool r)) := by
 refine PureC.of_body Tryz.func31 rfl ?_
 simp only [Tryz.ntmps31, List.length_cons, List.length_nil, Nat.reduceAdd, Nat.reduceSub, empty_eq]
 unfold indexMustBool_m at hm
 refine sr (N' := 64) rfl ?_
 refine pA ?_
 refine fs ?_
 refine sr (N' := 128) rfl ?_
 refine pA ?_
 obtain ⟨r2, h1, hm⟩ := bnd hm
 refine pu rfl (ap_as1bool Tryz.underlying4 Z1 h1) ?_
 refine pA ?_
 refine fs ?_
 refine AWp.ret ?_
 cases hm
 exact ret1D (.inr rfl) Tryz.results31 (td Z1 (.v _))
def indexMustString_m (reply_0 : GA) : Option (ByteArray) :=
 ((gaStr1 9 reply_0).bind fun r2 =>
 some r2)
theorem indexMustString_c {reply_0 : GA} {r : ByteArray} (hm : indexMustString_m reply_0 = some r) : PureC Tryz.prog 32 [GA.av reply_0] (.v (.string r)) := by
 refine PureC.of_body Tryz.func32 rfl ?_
 simp only [Tryz.ntmps32, List.length_cons, List.length_nil, Nat.reduceAdd, Nat.reduceSub, empty_eq]
 unfold indexMustString_m at hm
 refine sr (N' := 64) rfl ?_
 refine pA ?_
 refine fs ?_
 refine sr (N' := 128) rfl ?_
 refine pA ?_
 obtain ⟨r2, h1, hm⟩ := bnd hm
 refine pu rfl (ap_as1str Tryz.underlying9 Z1 h1) ?_
 refine pA ?_
 refine fs ?_
 refine AWp.ret ?_
 cases hm
 exact ret1D (.inr rfl) Tryz.results32 (td Z1 (.v _))
def indexMustUint64_m (reply_0 : GA) : Option ((List Int)) :=
 ((gaLu1 24 reply_0).bind fun r2 =>
 some r2)
theorem indexMustUint64_c {reply_0 : GA} {r : (List Int)} (hm : indexMustUint64_m reply_0 = some r) : PureC Tryz.prog 34 [GA.av reply_0] (.sl (r.flatMap (ci .u64)) r.length false) := by
 refine PureC.of_body Tryz.func34 rfl ?_
 simp only [Tryz.ntmps34, List.length_cons, List.length_nil, Nat.reduceAdd, Nat.reduceSub, empty_eq]
 unfold indexMustUint64_m at hm
 refine sr (N' := 64) rfl ?_
 refine pA ?_
 refine fs ?_
 refine sr (N' := 128) rfl ?_
 refine pA ?_
 obtain ⟨r2, h1, hm⟩ := bnd hm
 refine pu rfl (ap_as1Lu Tryz.underlying24 Z1 h1) ?_
 refine pA ?_
 refine fs ?_
 refine AWp.ret ?_
 cases hm
 exact ret1D (.inr rfl) Tryz.results34 (td Z1 ((CFi .u64).sl _ _ _))
def IndexMust_m (n_0 : Int) (b_1 : Bool) (s_2 : ByteArray) (l_3 : List Int) : Option (Bool) :=
 (bif (decide (300 < (l_3.length : Int))) then
  ((law21Awake_m ).bind fun r2 =>
  some r2)
 else
  ((indexMustInt_m (GA.i 3 .i64 n_0)).bind fun r4 =>
  ((gopt ((r4 == n_0) == true) false (indexMustBool_m (GA.b 4 b_1))).bind fun r6 =>
  ((gopt (((r4 == n_0) && (r6 == b_1)) == true) ⟨#[]⟩ (indexMustString_m (GA.s 9 s_2))).bind fun r8 =>
  ((gopt ((((r4 == n_0) && (r6 == b_1)) && (decide (r8 = s_2))) == true) [] (indexMustUint64_m (GA.lu 24 l_3))).bind fun r10 =>
  ((gopt ((((r4 == n_0) && (r6 == b_1)) && (decide (r8 = s_2))) == true) false (ref05Same_m r10 l_3)).bind fun r12 =>
  ((gopt (((((r4 == n_0) && (r6 == b_1)) && (decide (r8 = s_2))) && r12) == true) false (law21Awake_m )).bind fun r14 =>
  some (((((r4 == n_0) && (r6 == b_1)) && (decide (r8 = s_2))) && r12) && r14))))))))
theorem IndexMust_c {n_0 : Int} {b_1 : Bool} {s_2 : ByteArray} {l_3 : List Int} {r : Bool} (hm : IndexMust_m n_0 b_1 s_2 l_3 = some r) : PureC Tryz.prog 11 [.v (.int .i64 n_0), .v (.bool b_1), .v (.string s_2), .sl (l_3.flatMap (ci .u64)) l_3.length false] (.v (.bool r)) := by
 refine PureC.of_body Tryz.func11 rfl ?_
 simp only [Tryz.ntmps11, List.length_cons, List.length_nil, Nat.reduceAdd, Nat.reduceSub, empty_eq]
 unfold IndexMust_m at hm
 refine sr (N' := 64) rfl ?_
 refine pA ?_
 refine fs ?_
 refine AWp.seq' ?_
 refine sr (N' := 128) rfl ?_
 iterate 3 refine pA ?_
 refine fs ?_
 refine AWp.condM hm Z1 (fun _ hm => ?_) (fun _ hm => ?_)
 ·
  refine sr (N' := 192) rfl ?_
  obtain ⟨r2, h1, hm⟩ := bnd hm
  refine ARun.callQ (r := .v (.bool r2)) Zd Z1 fb14 (fun H => .nil) (law21Awake_c h1) ?_
  refine pA ?_
  refine fs ?_
  refine AWp.ret ?_
  refine retSeq ?_
  cases hm
  exact ret1D (.inr rfl) Tryz.results11 (td Z1 (.v _))
 ·
  refine AWp.skip ?_
  refine normSeq ?_
  refine sr (N' := 192) rfl ?_
  iterate 2 refine pA ?_
  obtain ⟨r4, h3, hm⟩ := bnd hm
  refine ARun.callQ (r := .v (.int .i64 r4)) Zd Z1 fb30 (fun H => (cD (GA.data _) .nil)) (indexMustInt_c h3) ?_
  iterate 5 first | refine pA ?_ | refine pB ?_
  obtain ⟨r6, h5, hm⟩ := bnd hm
  refine ARun.callQG (r := .v (.bool r6)) Zd rfl Z2 Z1 fb31 (fun hb H => (.cons (td (Zh hb) (GA.data _)) .nil)) (fun hb => indexMustBool_c (gopt_t h5 hb)) ?_
  iterate 6 first | refine pA ?_ | refine pB ?_
  obtain ⟨r8, h7, hm⟩ := bnd hm
  refine ARun.callQG (r := .v (.string r8)) Zd rfl Z2 Z1 fb32 (fun hb H => (.cons (td (Zh hb) (GA.data _)) .nil)) (fun hb => indexMustString_c (gopt_t h7 hb)) ?_
  iterate 5 first | refine pA ?_ | refine pB ?_
  refine ARun.popG Zd rfl Z2 (fun hb => (noOwn1 (Zh hb) ((CFi .u64).sl _ _ _))) (fun hb => (pop_mkif (a := .sl (l_3.flatMap (ci .u64)) l_3.length false) Tryz.underlying24 (fun _ => by simp) (Zh hb) ((CFi .u64).sl _ _ _) (fun H => (td rfl ((CFi .u64).sl _ _ _))))) rfl ?_
  obtain ⟨r10, h9, hm⟩ := bnd hm
  refine ARun.callQG (r := .sl (r10.flatMap (ci .u64)) r10.length false) Zd rfl Z2 Z1 fb34 (fun hb H => (.cons (td (Zh hb) (GA.data _)) .nil)) (fun hb => indexMustUint64_c (gopt_t h9 hb)) ?_
  refine pB ?_
  obtain ⟨r12, h11, hm⟩ := bnd hm
  refine ARun.callQG (r := .v (.bool r12)) Zd rfl Z2 Z1 fb33 (fun hb H => (.cons (td (Zh hb) ((CFi .u64).sl _ _ _)) (.cons (td (Zh hb) ((CFi .u64).sl _ _ _)) .nil))) (fun hb => ref05Same_c (gopt_t h11 hb)) ?_
  iterate 2 refine pA ?_
  obtain ⟨r14, h13, hm⟩ := bnd hm
  refine ARun.callQG (r := .v (.bool r14)) Zd rfl Z2 Z1 fb14 (fun hb H => .nil) (fun hb => law21Awake_c (gopt_t h13 hb)) ?_
  iterate 2 refine pA ?_
  refine fs ?_
  refine AWp.ret ?_
  cases hm
  exact ret1D (.inr rfl) Tryz.results11 (td Z1 (.v _))
end Go.Proofs.YtkdohhmacfoolaaGreat
