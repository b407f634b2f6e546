/- Facts that the statement's proof is made of. No condition. -/
import Derived.Test.YtibnmlbjahcjmaaQwGC2
import Derived.Test.YtibnmlbjahcjmaaQwAmL
set_option linter.unusedVariables false
set_option linter.unusedSimpArgs false
set_option maxRecDepth 20000
set_option maxHeartbeats 4000000
namespace Go.Proofs.Ytibnmlbjahcjmaa
open Go Go.AM
theorem fo23_1GD1 (i o : Nat) : afieldAddr Try.prog 23 (.adr i o) 1 = some (.adr i (o + 1)) := by kernel_rfl
attribute [go_sem] fo23_1GD1
theorem fo23_2GD1 (i o : Nat) : afieldAddr Try.prog 23 (.adr i o) 2 = some (.adr i (o + 2)) := by kernel_rfl
attribute [go_sem] fo23_2GD1
theorem fo27_2GD1 (i o : Nat) : afieldAddr Try.prog 27 (.adr i o) 2 = some (.adr i (o + 4)) := by kernel_rfl
attribute [go_sem] fo27_2GD1
theorem fo53_0GD1 (i o : Nat) : afieldAddr Try.prog 53 (.adr i o) 0 = some (.adr i (o + 0)) := by kernel_rfl
attribute [go_sem] fo53_0GD1
theorem fo53_1GD1 (i o : Nat) : afieldAddr Try.prog 53 (.adr i o) 1 = some (.adr i (o + 1)) := by kernel_rfl
attribute [go_sem] fo53_1GD1
theorem fo73_0GD1 (i o : Nat) : afieldAddr Try.prog 73 (.adr i o) 0 = some (.adr i (o + 0)) := by kernel_rfl
attribute [go_sem] fo73_0GD1
theorem fo73_1GD1 (i o : Nat) : afieldAddr Try.prog 73 (.adr i o) 1 = some (.adr i (o + 1)) := by kernel_rfl
attribute [go_sem] fo73_1GD1
theorem fo73_2GD1 (i o : Nat) : afieldAddr Try.prog 73 (.adr i o) 2 = some (.adr i (o + 2)) := by kernel_rfl
attribute [go_sem] fo73_2GD1
theorem ld23GD1 (H : Heap) (x0 x1 x2 : AV) (xs : List AV) : aload Try.prog H 23 (.ptr (x0 :: x1 :: x2 :: xs)) = some (.agg [x0, x1, x2]) := by kernel_rfl
attribute [go_sem] ld23GD1
theorem ld25GD1 (H : Heap) (x : AV) (xs : List AV) : aload Try.prog H 25 (.ptr (x :: xs)) = some x := by kernel_rfl
attribute [go_sem] ld25GD1
theorem ld27GD1 (H : Heap) (x0 x1 x2 x3 x4 : AV) (xs : List AV) : aload Try.prog H 27 (.ptr (x0 :: x1 :: x2 :: x3 :: x4 :: xs)) = some (.agg [x0, x1, x2, x3, x4]) := by kernel_rfl
attribute [go_sem] ld27GD1
theorem ld3GD1 (H : Heap) (x : AV) (xs : List AV) : aload Try.prog H 3 (.ptr (x :: xs)) = some x := by kernel_rfl
attribute [go_sem] ld3GD1
theorem ld4GD1 (H : Heap) (x : AV) (xs : List AV) : aload Try.prog H 4 (.ptr (x :: xs)) = some x := by kernel_rfl
attribute [go_sem] ld4GD1
theorem ld51GD1 (H : Heap) (x : AV) (xs : List AV) : aload Try.prog H 51 (.ptr (x :: xs)) = some x := by kernel_rfl
attribute [go_sem] ld51GD1
theorem ld73GD1 (H : Heap) (x0 x1 x2 : AV) (xs : List AV) : aload Try.prog H 73 (.ptr (x0 :: x1 :: x2 :: xs)) = some (.agg [x0, x1, x2]) := by kernel_rfl
attribute [go_sem] ld73GD1
theorem cv5_3GD1 (H : Heap) (k : IntKind) (n : Int) : aconv Try.prog H 5 3 (.v (.int k n)) = some (.v (.int .i64 (IntKind.i64.wrap n))) := aconv_int Try.underlying5 Try.underlying3
attribute [go_sem] cv5_3GD1
def TiersApart_J1 (rec2 : GGraph → Int → GGraph → List GRaftsmanlaw15Act → Int → Int → Option (Bool)) (g_12 : GGraph) (k_14 : Int) (h_17 : GGraph) (t103 : List GRaftsmanlaw15Act) (t104 : Int) (t105 : Int) : Option (Bool) :=
 rec2 g_12 k_14 h_17 t103 t104 (IntKind.i64.wrap (t105 + 1))
def TiersApart_J2 (rec2 : GGraph → Int → GGraph → List GRaftsmanlaw15Act → Int → Int → Option (Bool)) (g_12 : GGraph) (k_14 : Int) (h_17 : GGraph) (t103 : List GRaftsmanlaw15Act) (t104 : Int) (t105 : Int) : Option (Bool) :=
 ((ref12Forest_m g_12.Edges k_14).bind fun r37 =>
 ((ref12Forest_m h_17.Edges k_14).bind fun r39 =>
 ((ref03Same_m r37 r39).bind fun r41 =>
 (bif (!r41) then
  some false
 else
  TiersApart_J1 rec2 g_12 k_14 h_17 t103 t104 t105))))
def TiersApart_B2 (rec2 : GGraph → Int → GGraph → List GRaftsmanlaw15Act → Int → Int → Option (Bool)) (g_12 : GGraph) (k_14 : Int) (h_17 : GGraph) (t103 : List GRaftsmanlaw15Act) (t104 : Int) (t105 : Int) : Option (Bool) :=
 (bif (decide (t105 < t104)) then
  ((idx t103 t105).bind fun x35 =>
  (bif x35.Gone then
   ((tiersDelete_m g_12 x35.U x35.V).bind fun ⟨r43, r44⟩ =>
   ((tiersDelete_m h_17 x35.U x35.V).bind fun ⟨r46, r47⟩ =>
   TiersApart_J2 rec2 r43 k_14 r46 t103 t104 t105))
  else
   ((tiersInsert_m g_12 x35.U x35.V).bind fun ⟨r49, r50⟩ =>
   ((tiersInsert_m h_17 x35.U x35.V).bind fun ⟨r52, r53⟩ =>
   TiersApart_J2 rec2 r49 k_14 r52 t103 t104 t105))))
 else
  ((law15Awake_m ).bind fun r55 =>
  some r55))
def TiersApart_L2 : Nat → GGraph → Int → GGraph → List GRaftsmanlaw15Act → Int → Int → Option (Bool)
 | 0 => fun _ _ _ _ _ _ => none
 | n + 1 => TiersApart_B2 (TiersApart_L2 n)
def TiersApart_B1 (rec1 : List GRaftsmanlaw15Act → GConfig → Int → GGraph → Int → List GHash → Int → Int → Option (Bool)) (acts_3 : List GRaftsmanlaw15Act) (c_5 : GConfig) (n_11 : Int) (g_12 : GGraph) (k_14 : Int) (other_15 : List GHash) (t68 : Int) (t69 : Int) : Option (Bool) :=
 (bif (decide (t69 < t68)) then
  ((idx other_15 t69).bind fun x18 =>
  ((idx other_15 t69).bind fun x20 =>
  ((idx other_15 t69).bind fun x22 =>
  ((stt other_15 t69 (GHash.mk (Int.tmod x18.A 2305843009213693951) x22.B)).bind fun l24 =>
  ((idx l24 t69).bind fun x26 =>
  ((stt l24 t69 (GHash.mk x26.A (Int.tmod x20.B 2305843009213693951))).bind fun l28 =>
  rec1 acts_3 c_5 n_11 g_12 k_14 l28 t68 (IntKind.i64.wrap (t69 + 1))))))))
 else
  ((tiersNew_m c_5 other_15).bind fun ⟨r30, r31⟩ =>
  (bif (r31 != 0) then
   some false
  else
   ((slc acts_3 0 n_11).bind fun l33 =>
   TiersApart_L2 FUEL g_12 k_14 r30 l33 (l33.length : Int) 0))))
def TiersApart_L1 : Nat → List GRaftsmanlaw15Act → GConfig → Int → GGraph → Int → List GHash → Int → Int → Option (Bool)
 | 0 => fun _ _ _ _ _ _ _ _ => none
 | n + 1 => TiersApart_B1 (TiersApart_L1 n)
def TiersApart_m (c_0 : GConfig) (a_1 : List GHash) (b_2 : List GHash) (acts_3 : List GRaftsmanlaw15Act) (l_4 : Int) : Option (Bool) :=
 ((law15Few_m c_0 acts_3).bind fun r2 =>
 ((tiersNew_m c_0 a_1).bind fun ⟨r4, r5⟩ =>
 (bif (((decide (r2 < 0)) || (r5 != 0)) || (decide ((b_2.length : Int) < (a_1.length : Int)))) then
  ((law15Awake_m ).bind fun r7 =>
  some r7)
 else
  ((chk ((IntKind.i64.wrap (c_0.L + 1)) != 0)).bind fun _ =>
  ((slc a_1 0 (IntKind.i64.wrap ((Int.tmod (IntKind.i64.wrap l_4) (IntKind.i64.wrap (c_0.L + 1))) * c_0.R))).bind fun l10 =>
  ((app [] l10).bind fun l12 =>
  ((slc b_2 (IntKind.i64.wrap ((Int.tmod (IntKind.i64.wrap l_4) (IntKind.i64.wrap (c_0.L + 1))) * c_0.R)) (a_1.length : Int)).bind fun l14 =>
  ((app l12 l14).bind fun l16 =>
  TiersApart_L1 FUEL acts_3 c_0 r2 r4 (Int.tmod (IntKind.i64.wrap l_4) (IntKind.i64.wrap (c_0.L + 1))) l16 (l16.length : Int) 0))))))))
theorem TiersApart_c {c_0 : GConfig} {a_1 : List GHash} {b_2 : List GHash} {acts_3 : List GRaftsmanlaw15Act} {l_4 : Int} {r : Bool} (hm : TiersApart_m c_0 a_1 b_2 acts_3 l_4 = some r) : PureC Try.prog 16 [.agg [.v (.int .i64 c_0.N), .v (.int .i64 c_0.L), .v (.int .i64 c_0.R)], .sl (a_1.flatMap cGHash) a_1.length false, .sl (b_2.flatMap cGHash) b_2.length false, .sl (acts_3.flatMap cGRaftsmanlaw15Act) acts_3.length false, .v (.int .u8 l_4)] (.v (.bool r)) := by
 refine PureC.of_body Try.func16 rfl ?_
 simp only [Try.ntmps16, List.length_cons, List.length_nil, Nat.reduceAdd, Nat.reduceSub, empty_eq]
 unfold TiersApart_m at hm
 refine sr (N' := 64) rfl ?_
 refine hp (id := 0) rfl rfl (aheap_box Z1 Z5) ?_
 refine pA ?_
 refine fs ?_
 refine sr (N' := 128) rfl ?_
 refine pu rfl (ap_ldv Z1 Z3 Z2) ?_
 refine pA ?_
 obtain ⟨r2, h1, hm⟩ := bnd hm
 refine ARun.callQ (r := .v (.int .i64 r2)) Zd Z1 fb65 (fun H => (cD (.agg _ (CFGConfig.dat _)) (cD (CFGRaftsmanlaw15Act.sl _ _ _) .nil))) (law15Few_c h1) ?_
 refine pA ?_
 refine fs ?_
 refine sr (N' := 192) rfl ?_
 refine pu rfl (ap_ldv Z1 Z3 Z2) ?_
 refine pA ?_
 obtain ⟨⟨r4, r5⟩, h3, hm⟩ := bnd hm
 refine ARun.callQ (r := .tup [.agg [.v (.int .i64 r4.Config.N), .v (.int .i64 r4.Config.L), .v (.int .i64 r4.Config.R), .sl (r4.Hashes.flatMap cGHash) r4.Hashes.length false, .sl (r4.Edges.flatMap cGEdge) r4.Edges.length false], .v (.int .i64 r5)]) Zd Z1 fb66 (fun H => (cD (.agg _ (CFGConfig.dat _)) (cD (CFGHash.sl _ _ _) .nil))) (tiersNew_c h3) ?_
 iterate 3 refine pA ?_
 refine hp (id := 134) rfl rfl (aheap_alloc' zc27 Z5) ?_
 refine ARun.heap0 (id := 135) rfl (ah_var (ys := [.v (.int .i64 r4.Config.N), .v (.int .i64 r4.Config.L), .v (.int .i64 r4.Config.R), .sl (r4.Hashes.flatMap cGHash) r4.Hashes.length false, .sl (r4.Edges.flatMap cGEdge) r4.Edges.length false]) sz27 Z1 Z1 Z3 rfl (Nat.le_of_ble_eq_true rfl) Z9 rfl) ?_
 refine pA ?_
 refine fs ?_
 refine AWp.seq' ?_
 refine sr (N' := 256) rfl ?_
 iterate 13 first | refine pA ?_ | refine pB ?_
 refine fs ?_
 refine AWp.condM hm Z1 (fun _ hm => ?_) (fun _ hm => ?_)
 ·
  refine sr (N' := 320) rfl ?_
  obtain ⟨r7, h6, hm⟩ := bnd hm
  refine ARun.callQ (r := .v (.bool r7)) Zd Z1 fb67 (fun H => .nil) (law15Awake_c h6) ?_
  refine pA ?_
  refine fs ?_
  refine AWp.ret ?_
  refine retSeq ?_
  cases hm
  exact ret1D (.inr rfl) Try.results16 (td Z1 (.v _))
 ·
  refine AWp.skip ?_
  refine normSeq ?_
  refine sr (N' := 320) rfl ?_
  iterate 3 refine pA ?_
  refine pu rfl (ap_ldv Z1 Z3 Z4) ?_
  refine pA ?_
  obtain ⟨_, h8, hm⟩ := bnd hm
  refine pu rfl (ap_rem Z1 Z1 (chk_t h8)) ?_
  refine pA ?_
  refine fs ?_
  refine AWp.seq' ?_
  refine AWp.regU [] 64 mix (by kernel_rfl) (by kernel_rfl) (by intro k hk; cases hk) (N' := 384) rfl ?_
  refine hp (id := 320) rfl rfl (ah_list CFGHash (l := []) Try.underlying24 sz53 zc53 Z5 Zd Zd Zd (by simp only [go_sem, Nat.reduceBEq]; try rfl) (by kernel_rfl)) ?_
  iterate 3 refine pA ?_
  refine pu rfl (ap_ldv Z1 Z3 Z4) ?_
  refine pA ?_
  obtain ⟨l10, h9, hm⟩ := bnd hm
  refine pu rfl (ap_slc CFGHash Try.underlying24 sz53 Z1 rfl ab_none0 (ab_some Z1 (slc_0 h9).2) h9) ?_
  obtain ⟨l12, h11, hm⟩ := bnd hm
  refine hp (id := 327) rfl rfl (ah_app CFGHash Try.underlying24 Try.underlying24 rfl in53 ts53 (by rw [tb53]; decide) (by rw [tb53]; decide) tz53 Zd Zd Z1 Z3 Z6 (as_sl CFGHash Z1 rfl) rfl Z5 h11) ?_
  iterate 3 refine pA ?_
  refine pu rfl (ap_ldv Z1 Z3 Z4) ?_
  iterate 3 refine pA ?_
  obtain ⟨l14, h13, hm⟩ := bnd hm
  refine pu rfl (ap_slc CFGHash Try.underlying24 sz53 Z1 rfl (ab_some Z1 (slc_0 h13).1) (ab_some Z1 (slc_0 h13).2) h13) ?_
  obtain ⟨l16, h15, hm⟩ := bnd hm
  refine hp (id := 336) rfl rfl (ah_app CFGHash Try.underlying24 Try.underlying24 rfl in53 ts53 (by rw [tb53]; decide) (by rw [tb53]; decide) tz53 Zd Zd Z1 Z3 Z6 (as_sl CFGHash Z1 rfl) rfl Z5 h15) ?_
  refine pA ?_
  refine fs ?_
  refine AWp.seq' ?_
  refine sr (N' := 448) rfl ?_
  iterate 3 refine pA ?_
  refine fs ?_
  refine AWp.block ?_
  refine AWp.loopM (fun m s => ∃ (acts_3 : List GRaftsmanlaw15Act) (c_5 : GConfig) (n_11 : Int) (g_12 : GGraph) (k_14 : Int) (other_15 : List GHash) (t68 : Int) (t69 : Int), s = (⟨159, (fset (fset (fset (fset (fset (fset (fset (fset (fun _ => AV.any) 3 (.sl (acts_3.flatMap cGRaftsmanlaw15Act) acts_3.length false)) 5 (.adr 1 0)) 11 (.v (.int .i64 n_11))) 12 (.adr 2 0)) 14 (.v (.int .i64 k_14))) 15 (.own 3 0 other_15.length)) 68 (.v (.int .i64 t68))) 69 (.v (.int .i64 t69))), ⟨(upd (upd (upd nofresh 1 (.cells 1 [.v (.int .i64 c_5.N), .v (.int .i64 c_5.L), .v (.int .i64 c_5.R)] 0)) 2 (.cells 1 [.v (.int .i64 g_12.Config.N), .v (.int .i64 g_12.Config.L), .v (.int .i64 g_12.Config.R), .sl (g_12.Hashes.flatMap cGHash) g_12.Hashes.length false, .sl (g_12.Edges.flatMap cGEdge) g_12.Edges.length false] 0)) 3 (.cells 2 (other_15.flatMap cGHash) 0)), 64⟩⟩ : St) ∧ TiersApart_L1 m acts_3 c_5 n_11 g_12 k_14 other_15 t68 t69 = some r) FUEL ?_ ?_ ?_
  ·
   rintro s ⟨_, _, _, _, _, _, _, _, _, h⟩
   cases h
  ·
   refine ⟨_, ?_, acts_3, c_0, r2, r4, (Int.tmod (IntKind.i64.wrap l_4) (IntKind.i64.wrap (c_0.L + 1))), l16, (l16.length : Int), 0, rfl, hm⟩
   exact le_canon (fun j => bif j == 1 then 0 else bif j == 2 then 134 else bif j == 3 then 336 else 0) (wV (wV (wO (wV (wk_fset _ _ (wk_adr Z1 rfl Z7) (wV (wk_fset _ _ (wk_adr Z1 rfl Z7) (wD (CFGRaftsmanlaw15Act.sl _ _ _) wk_none)))))))) (heapWk_of _ (eU CFGHash (entWk_upd (entWk_data Z3 (Nat.le_refl _) (Nat.zero_le _) (CFGGraph.dat r4)) (entWk_upd (entWk_data Z3 (Nat.le_refl _) (Nat.zero_le _) (CFGConfig.dat c_0)) entWk_none))) Z8)
  ·
   rintro n1 s ⟨acts_3, c_5, n_11, g_12, k_14, other_15, t68, t69, rfl, hm⟩
   replace hm : TiersApart_B1 (TiersApart_L1 n1) acts_3 c_5 n_11 g_12 k_14 other_15 t68 t69 = some r := hm
   unfold TiersApart_B1 at hm
   refine sr (N' := 128) rfl ?_
   refine pA ?_
   refine fs ?_
   refine AWp.seq' ?_
   refine AWp.condM hm Z1 (fun _ hm => ?_) (fun _ hm => ?_)
   ·
    refine AWp.skip ?_
    refine normSeq ?_
    refine AWp.seq' ?_
    refine AWp.block ?_
    refine sr (N' := 192) rfl ?_
    iterate 2 refine pA ?_
    refine fs ?_
    refine AWp.regD 64 mix (by kernel_rfl) (N' := 256) rfl ?_
    iterate 6 refine pA ?_
    obtain ⟨x18, h17, hm⟩ := bnd hm
    refine pu rfl (ap_idxo Try.underlying24 sz53 Z1 Z3 Z6 Z1 h17) ?_
    refine pA ?_
    refine pu rfl (ap_ldof CFGHash (off := 0) Z1 Z3 h17 (fun _ => by simp only [go_sem, Nat.reduceBEq, Nat.reduceAdd]; try with_reducible rfl)) ?_
    iterate 3 refine pu rfl (by simp only [go_sem, Nat.reduceBEq, Int.reduceEq, Int.reduceLE]; try with_reducible rfl) ?_
    obtain ⟨x20, h19, hm⟩ := bnd hm
    refine pu rfl (ap_idxo Try.underlying24 sz53 Z1 Z3 Z6 Z1 h19) ?_
    refine pA ?_
    refine pu rfl (ap_ldof CFGHash (off := 1) Z1 Z3 h19 (fun _ => by simp only [go_sem, Nat.reduceBEq, Nat.reduceAdd]; try with_reducible rfl)) ?_
    refine pu rfl (by simp only [go_sem, Nat.reduceBEq, Int.reduceEq, Int.reduceLE]; try with_reducible rfl) ?_
    obtain ⟨x22, h21, hm⟩ := bnd hm
    refine pu rfl (ap_idxo Try.underlying24 sz53 Z1 Z3 Z6 Z1 h21) ?_
    refine pA ?_
    obtain ⟨l24, h23, hm⟩ := bnd hm
    have qh23 := stt_len h23
    refine ARun.heap0 (id := 210) rfl (ah_sttf CFGHash (off := 0) (y := x22) (y' := (GHash.mk (Int.tmod x18.A 2305843009213693951) x22.B)) (cs := [.v (.int .u64 (Int.tmod x18.A 2305843009213693951))]) sz51 Z1 Z1 Z3 rfl h21 rfl Zd Z9 rfl h23) ?_
    obtain ⟨x26, h25, hm⟩ := bnd hm
    refine pu rfl (ap_idxo Try.underlying24 sz53 Z1 Z3 Z6 Z1 h25) ?_
    refine pA ?_
    obtain ⟨l28, h27, hm⟩ := bnd hm
    have qh27 := stt_len h27
    refine ARun.heap0 (id := 213) rfl (ah_sttf CFGHash (off := 1) (y := x26) (y' := (GHash.mk x26.A (Int.tmod x20.B 2305843009213693951))) (cs := [.v (.int .u64 (Int.tmod x20.B 2305843009213693951))]) sz51 Z1 Z1 Z3 rfl h25 rfl Zd Z9 rfl h27) ?_
    refine ARun.fin ?_
    refine normIn ?_
    refine normSeq ?_
    refine AWp.reg 64 (N' := 320) rfl ?_
    iterate 2 refine pA ?_
    refine ARun.fin ?_
    refine normThen ?_
    refine ⟨_, ?_, acts_3, c_5, n_11, g_12, k_14, l28, t68, (IntKind.i64.wrap (t69 + 1)), rfl, hm⟩
    exact le_canon (fun j => bif j == 1 then 1 else bif j == 2 then 2 else bif j == 3 then 3 else 0) (wV (wV (wO (wV (wk_fset _ _ (wk_adr Z1 rfl Z7) (wV (wk_fset _ _ (wk_adr Z1 rfl Z7) (wD (CFGRaftsmanlaw15Act.sl _ _ _) wk_none)))))))) (heapWk_of _ (eU CFGHash (entWk_upd (entWk_data Z3 (Nat.le_refl _) (Nat.zero_le _) (CFGGraph.dat g_12)) (entWk_upd (entWk_data Z3 (Nat.le_refl _) (Nat.zero_le _) (CFGConfig.dat c_5)) entWk_none))) Z8)
   ·
    refine AWp.exit ?_
    refine exitSeq ?_
    refine exitThen ?_
    refine exitHere ?_
    refine normSeq ?_
    refine AWp.seq' ?_
    refine AWp.weaken (le_lock CFGHash 15 3 Z1 Z3 Z6) ?_
    refine AWp.reg 64 (N' := 192) rfl ?_
    refine pu rfl (ap_ldv Z1 Z3 Z2) ?_
    refine pA ?_
    obtain ⟨⟨r30, r31⟩, h29, hm⟩ := bnd hm
    refine ARun.callQ (r := .tup [.agg [.v (.int .i64 r30.Config.N), .v (.int .i64 r30.Config.L), .v (.int .i64 r30.Config.R), .sl (r30.Hashes.flatMap cGHash) r30.Hashes.length false, .sl (r30.Edges.flatMap cGEdge) r30.Edges.length false], .v (.int .i64 r31)]) Zd Z1 fb66 (fun H => (cD (.agg _ (CFGConfig.dat _)) (cD (CFGHash.sl _ _ _) .nil))) (tiersNew_c h29) ?_
    iterate 3 refine pA ?_
    refine hp (id := 134) rfl rfl (aheap_alloc' zc27 Z5) ?_
    refine ARun.heap0 (id := 135) rfl (ah_var (ys := [.v (.int .i64 r30.Config.N), .v (.int .i64 r30.Config.L), .v (.int .i64 r30.Config.R), .sl (r30.Hashes.flatMap cGHash) r30.Hashes.length false, .sl (r30.Edges.flatMap cGEdge) r30.Edges.length false]) sz27 Z1 Z1 Z3 rfl (Nat.le_of_ble_eq_true rfl) Z9 rfl) ?_
    refine pA ?_
    refine fs ?_
    refine AWp.seq' ?_
    refine sr (N' := 256) rfl ?_
    iterate 2 refine pA ?_
    refine fs ?_
    refine AWp.condM hm Z1 (fun _ hm => ?_) (fun _ hm => ?_)
    ·
     refine sr (N' := 320) rfl ?_
     refine pA ?_
     refine fs ?_
     refine AWp.ret ?_
     refine retSeq ?_
     cases hm
     exact ret1D (.inr rfl) Try.results16 (td Z1 (.v _))
    ·
     refine AWp.skip ?_
     refine normSeq ?_
     refine AWp.seq' ?_
     refine sr (N' := 320) rfl ?_
     iterate 2 refine pA ?_
     obtain ⟨l33, h32, hm⟩ := bnd hm
     refine pu rfl (ap_slc CFGRaftsmanlaw15Act Try.underlying69 sz73 Z1 rfl ab_none0 (ab_some Z1 (slc_0 h32).2) h32) ?_
     iterate 2 refine pA ?_
     refine fs ?_
     refine AWp.block ?_
     refine AWp.loopM (fun m s => ∃ (g_12 : GGraph) (k_14 : Int) (h_17 : GGraph) (t103 : List GRaftsmanlaw15Act) (t104 : Int) (t105 : Int), s = (⟨159, (fset (fset (fset (fset (fset (fset (fun _ => AV.any) 12 (.adr 1 0)) 14 (.v (.int .i64 k_14))) 17 (.adr 2 0)) 103 (.sl (t103.flatMap cGRaftsmanlaw15Act) t103.length false)) 104 (.v (.int .i64 t104))) 105 (.v (.int .i64 t105))), ⟨(upd (upd nofresh 1 (.cells 1 [.v (.int .i64 g_12.Config.N), .v (.int .i64 g_12.Config.L), .v (.int .i64 g_12.Config.R), .sl (g_12.Hashes.flatMap cGHash) g_12.Hashes.length false, .sl (g_12.Edges.flatMap cGEdge) g_12.Edges.length false] 0)) 2 (.cells 1 [.v (.int .i64 h_17.Config.N), .v (.int .i64 h_17.Config.L), .v (.int .i64 h_17.Config.R), .sl (h_17.Hashes.flatMap cGHash) h_17.Hashes.length false, .sl (h_17.Edges.flatMap cGEdge) h_17.Edges.length false] 0)), 64⟩⟩ : St) ∧ TiersApart_L2 m g_12 k_14 h_17 t103 t104 t105 = some r) FUEL ?_ ?_ ?_
     ·
      rintro s ⟨_, _, _, _, _, _, _, h⟩
      cases h
     ·
      refine ⟨_, ?_, g_12, k_14, r30, l33, (l33.length : Int), 0, rfl, hm⟩
      refine St.Le.trans (le_tod 103 (.sl (l33.flatMap cGRaftsmanlaw15Act) l33.length false) (fun H => (tdf Z1 (CFGRaftsmanlaw15Act.sl _ _ _)))) ?_
      exact le_canon (fun j => bif j == 1 then 2 else bif j == 2 then 134 else 0) (wV (wV (wD (CFGRaftsmanlaw15Act.sl _ _ _) (wk_fset _ _ (wk_adr Z1 rfl Z7) (wV (wk_fset _ _ (wk_adr Z1 rfl Z7) wk_none)))))) (hW (entWk_upd (entWk_data Z3 (Nat.le_refl _) (Nat.zero_le _) (CFGGraph.dat r30)) (entWk_upd (entWk_data Z3 (Nat.le_refl _) (Nat.zero_le _) (CFGGraph.dat g_12)) entWk_none)))
     ·
      rintro n2 s ⟨g_12, k_14, h_17, t103, t104, t105, rfl, hm⟩
      replace hm : TiersApart_B2 (TiersApart_L2 n2) g_12 k_14 h_17 t103 t104 t105 = some r := hm
      unfold TiersApart_B2 at hm
      refine sr (N' := 128) rfl ?_
      refine pA ?_
      refine fs ?_
      refine AWp.seq' ?_
      refine AWp.condM hm Z1 (fun _ hm => ?_) (fun _ hm => ?_)
      ·
       refine AWp.skip ?_
       refine normSeq ?_
       refine AWp.seqJ (fun s => ∃ (g_12 : GGraph) (k_14 : Int) (h_17 : GGraph) (t103 : List GRaftsmanlaw15Act) (t104 : Int) (t105 : Int), s = (⟨159, (fset (fset (fset (fset (fset (fset (fun _ => AV.any) 12 (.adr 1 0)) 14 (.v (.int .i64 k_14))) 17 (.adr 2 0)) 103 (.sl (t103.flatMap cGRaftsmanlaw15Act) t103.length false)) 104 (.v (.int .i64 t104))) 105 (.v (.int .i64 t105))), ⟨(upd (upd nofresh 1 (.cells 1 [.v (.int .i64 g_12.Config.N), .v (.int .i64 g_12.Config.L), .v (.int .i64 g_12.Config.R), .sl (g_12.Hashes.flatMap cGHash) g_12.Hashes.length false, .sl (g_12.Edges.flatMap cGEdge) g_12.Edges.length false] 0)) 2 (.cells 1 [.v (.int .i64 h_17.Config.N), .v (.int .i64 h_17.Config.L), .v (.int .i64 h_17.Config.R), .sl (h_17.Hashes.flatMap cGHash) h_17.Hashes.length false, .sl (h_17.Edges.flatMap cGEdge) h_17.Edges.length false] 0)), 64⟩⟩ : St) ∧ TiersApart_J1 (TiersApart_L2 n2) g_12 k_14 h_17 t103 t104 t105 = some r) ?_ ?_
       ·
        refine AWp.block ?_
        refine sr (N' := 192) rfl ?_
        obtain ⟨x35, h34, hm⟩ := bnd hm
        refine pu rfl (ap_idx CFGRaftsmanlaw15Act Zd Try.underlying69 sz73 Z1 rfl Z1 h34) ?_
        refine pA ?_
        refine hp (id := 130) rfl rfl (aheap_alloc' zc73 Z5) ?_
        refine ARun.heap0 (id := 131) rfl (ah_var (ys := [.v (.bool x35.Gone), .v (.int .i64 x35.U), .v (.int .i64 x35.V)]) sz73 Z1 Z1 Z3 rfl (Nat.le_of_ble_eq_true rfl) Z9 rfl) ?_
        refine fs ?_
        refine AWp.seqJ (fun s => ∃ (g_12 : GGraph) (k_14 : Int) (h_17 : GGraph) (t103 : List GRaftsmanlaw15Act) (t104 : Int) (t105 : Int), s = (⟨159, (fset (fset (fset (fset (fset (fset (fun _ => AV.any) 12 (.adr 1 0)) 14 (.v (.int .i64 k_14))) 17 (.adr 2 0)) 103 (.sl (t103.flatMap cGRaftsmanlaw15Act) t103.length false)) 104 (.v (.int .i64 t104))) 105 (.v (.int .i64 t105))), ⟨(upd (upd nofresh 1 (.cells 1 [.v (.int .i64 g_12.Config.N), .v (.int .i64 g_12.Config.L), .v (.int .i64 g_12.Config.R), .sl (g_12.Hashes.flatMap cGHash) g_12.Hashes.length false, .sl (g_12.Edges.flatMap cGEdge) g_12.Edges.length false] 0)) 2 (.cells 1 [.v (.int .i64 h_17.Config.N), .v (.int .i64 h_17.Config.L), .v (.int .i64 h_17.Config.R), .sl (h_17.Hashes.flatMap cGHash) h_17.Hashes.length false, .sl (h_17.Edges.flatMap cGEdge) h_17.Edges.length false] 0)), 64⟩⟩ : St) ∧ TiersApart_J2 (TiersApart_L2 n2) g_12 k_14 h_17 t103 t104 t105 = some r) ?_ ?_
        ·
         refine sr (N' := 256) rfl ?_
         refine pA ?_
         refine pu rfl (ap_ldv Z1 Z3 Z4) ?_
         refine fs ?_
         refine AWp.condM hm Z1 (fun _ hm => ?_) (fun _ hm => ?_)
         ·
          refine sr (N' := 320) rfl ?_
          refine pu rfl (ap_ldv Z1 Z3 Z2) ?_
          refine pA ?_
          refine pu rfl (ap_ldv Z1 Z3 Z4) ?_
          refine pA ?_
          refine pu rfl (ap_ldv Z1 Z3 Z4) ?_
          obtain ⟨⟨r43, r44⟩, h42, hm⟩ := bnd hm
          refine ARun.callQ (r := .tup [.agg [.v (.int .i64 r43.Config.N), .v (.int .i64 r43.Config.L), .v (.int .i64 r43.Config.R), .sl (r43.Hashes.flatMap cGHash) r43.Hashes.length false, .sl (r43.Edges.flatMap cGEdge) r43.Edges.length false], .v (.int .i64 r44)]) Zd Z1 fb68 (fun H => (cD (.agg _ (CFGGraph.dat _)) (cV (cV .nil)))) (tiersDelete_c h42) ?_
          iterate 3 refine pA ?_
          refine ARun.heap0 (id := 265) rfl (ah_var (ys := [.v (.int .i64 r43.Config.N), .v (.int .i64 r43.Config.L), .v (.int .i64 r43.Config.R), .sl (r43.Hashes.flatMap cGHash) r43.Hashes.length false, .sl (r43.Edges.flatMap cGEdge) r43.Edges.length false]) sz27 Z1 Z1 Z3 rfl (Nat.le_of_ble_eq_true rfl) Z9 rfl) ?_
          refine fs ?_
          refine AWp.reg 64 (N' := 384) rfl ?_
          refine pu rfl (ap_ldv Z1 Z3 Z2) ?_
          refine pA ?_
          refine pu rfl (ap_ldv Z1 Z3 Z4) ?_
          refine pA ?_
          refine pu rfl (ap_ldv Z1 Z3 Z4) ?_
          obtain ⟨⟨r46, r47⟩, h45, hm⟩ := bnd hm
          refine ARun.callQ (r := .tup [.agg [.v (.int .i64 r46.Config.N), .v (.int .i64 r46.Config.L), .v (.int .i64 r46.Config.R), .sl (r46.Hashes.flatMap cGHash) r46.Hashes.length false, .sl (r46.Edges.flatMap cGEdge) r46.Edges.length false], .v (.int .i64 r47)]) Zd Z1 fb68 (fun H => (cD (.agg _ (CFGGraph.dat _)) (cV (cV .nil)))) (tiersDelete_c h45) ?_
          iterate 3 refine pA ?_
          refine ARun.heap0 (id := 329) rfl (ah_var (ys := [.v (.int .i64 r46.Config.N), .v (.int .i64 r46.Config.L), .v (.int .i64 r46.Config.R), .sl (r46.Hashes.flatMap cGHash) r46.Hashes.length false, .sl (r46.Edges.flatMap cGEdge) r46.Edges.length false]) sz27 Z1 Z1 Z3 rfl (Nat.le_of_ble_eq_true rfl) Z9 rfl) ?_
          refine ARun.fin ?_
          refine normJ ?_
          refine ⟨_, ?_, r43, k_14, r46, t103, t104, t105, rfl, hm⟩
          exact le_canon (fun j => bif j == 1 then 1 else bif j == 2 then 2 else 0) (wV (wV (wD (CFGRaftsmanlaw15Act.sl _ _ _) (wk_fset _ _ (wk_adr Z1 rfl Z7) (wV (wk_fset _ _ (wk_adr Z1 rfl Z7) wk_none)))))) (hW (entWk_upd (entWk_data Z3 (Nat.le_refl _) (Nat.zero_le _) (CFGGraph.dat r46)) (entWk_upd (entWk_data Z3 (Nat.le_refl _) (Nat.zero_le _) (CFGGraph.dat r43)) entWk_none)))
         ·
          refine sr (N' := 320) rfl ?_
          refine pu rfl (ap_ldv Z1 Z3 Z2) ?_
          refine pA ?_
          refine pu rfl (ap_ldv Z1 Z3 Z4) ?_
          refine pA ?_
          refine pu rfl (ap_ldv Z1 Z3 Z4) ?_
          obtain ⟨⟨r49, r50⟩, h48, hm⟩ := bnd hm
          refine ARun.callQ (r := .tup [.agg [.v (.int .i64 r49.Config.N), .v (.int .i64 r49.Config.L), .v (.int .i64 r49.Config.R), .sl (r49.Hashes.flatMap cGHash) r49.Hashes.length false, .sl (r49.Edges.flatMap cGEdge) r49.Edges.length false], .v (.int .i64 r50)]) Zd Z1 fb69 (fun H => (cD (.agg _ (CFGGraph.dat _)) (cV (cV .nil)))) (tiersInsert_c h48) ?_
          iterate 3 refine pA ?_
          refine ARun.heap0 (id := 265) rfl (ah_var (ys := [.v (.int .i64 r49.Config.N), .v (.int .i64 r49.Config.L), .v (.int .i64 r49.Config.R), .sl (r49.Hashes.flatMap cGHash) r49.Hashes.length false, .sl (r49.Edges.flatMap cGEdge) r49.Edges.length false]) sz27 Z1 Z1 Z3 rfl (Nat.le_of_ble_eq_true rfl) Z9 rfl) ?_
          refine fs ?_
          refine AWp.reg 64 (N' := 384) rfl ?_
          refine pu rfl (ap_ldv Z1 Z3 Z2) ?_
          refine pA ?_
          refine pu rfl (ap_ldv Z1 Z3 Z4) ?_
          refine pA ?_
          refine pu rfl (ap_ldv Z1 Z3 Z4) ?_
          obtain ⟨⟨r52, r53⟩, h51, hm⟩ := bnd hm
          refine ARun.callQ (r := .tup [.agg [.v (.int .i64 r52.Config.N), .v (.int .i64 r52.Config.L), .v (.int .i64 r52.Config.R), .sl (r52.Hashes.flatMap cGHash) r52.Hashes.length false, .sl (r52.Edges.flatMap cGEdge) r52.Edges.length false], .v (.int .i64 r53)]) Zd Z1 fb69 (fun H => (cD (.agg _ (CFGGraph.dat _)) (cV (cV .nil)))) (tiersInsert_c h51) ?_
          iterate 3 refine pA ?_
          refine ARun.heap0 (id := 329) rfl (ah_var (ys := [.v (.int .i64 r52.Config.N), .v (.int .i64 r52.Config.L), .v (.int .i64 r52.Config.R), .sl (r52.Hashes.flatMap cGHash) r52.Hashes.length false, .sl (r52.Edges.flatMap cGEdge) r52.Edges.length false]) sz27 Z1 Z1 Z3 rfl (Nat.le_of_ble_eq_true rfl) Z9 rfl) ?_
          refine ARun.fin ?_
          refine normJ ?_
          refine ⟨_, ?_, r49, k_14, r52, t103, t104, t105, rfl, hm⟩
          exact le_canon (fun j => bif j == 1 then 1 else bif j == 2 then 2 else 0) (wV (wV (wD (CFGRaftsmanlaw15Act.sl _ _ _) (wk_fset _ _ (wk_adr Z1 rfl Z7) (wV (wk_fset _ _ (wk_adr Z1 rfl Z7) wk_none)))))) (hW (entWk_upd (entWk_data Z3 (Nat.le_refl _) (Nat.zero_le _) (CFGGraph.dat r52)) (entWk_upd (entWk_data Z3 (Nat.le_refl _) (Nat.zero_le _) (CFGGraph.dat r49)) entWk_none)))
        ·
         rintro s ⟨g_12, k_14, h_17, t103, t104, t105, rfl, hm⟩
         unfold TiersApart_J2 at hm
         refine sd mix (by kernel_rfl) (N' := 128) rfl ?_
         refine pA ?_
         refine pu rfl (ap_ldv Z1 Z3 Z4) ?_
         refine pA ?_
         obtain ⟨r37, h36, hm⟩ := bnd hm
         refine ARun.callQ (r := .sl (r37.flatMap cGEdge) r37.length false) Zd Z1 fb70 (fun H => (cD (CFGEdge.sl _ _ _) (cV .nil))) (ref12Forest_c h36) ?_
         refine pA ?_
         refine pu rfl (ap_ldv Z1 Z3 Z4) ?_
         refine pA ?_
         obtain ⟨r39, h38, hm⟩ := bnd hm
         refine ARun.callQ (r := .sl (r39.flatMap cGEdge) r39.length false) Zd Z1 fb70 (fun H => (cD (CFGEdge.sl _ _ _) (cV .nil))) (ref12Forest_c h38) ?_
         obtain ⟨r41, h40, hm⟩ := bnd hm
         refine ARun.callQ (r := .v (.bool r41)) Zd Z1 fb36 (fun H => (cD (CFGEdge.sl _ _ _) (cD (CFGEdge.sl _ _ _) .nil))) (ref03Same_c h40) ?_
         refine pA ?_
         refine fs ?_
         refine AWp.condM hm Z1 (fun _ hm => ?_) (fun _ hm => ?_)
         ·
          refine sr (N' := 192) rfl ?_
          refine pA ?_
          refine fs ?_
          refine AWp.ret ?_
          refine retIn ?_
          refine retJ ?_
          refine retThen ?_
          refine retIn ?_
          refine retSeq ?_
          cases hm
          exact ret1D (.inr rfl) Try.results16 (td Z1 (.v _))
         ·
          refine AWp.skip ?_
          refine normIn ?_
          refine normJ ?_
          refine ⟨_, ?_, g_12, k_14, h_17, t103, t104, t105, rfl, hm⟩
          exact le_canon (fun j => bif j == 1 then 1 else bif j == 2 then 2 else 0) (wV (wV (wD (CFGRaftsmanlaw15Act.sl _ _ _) (wk_fset _ _ (wk_adr Z1 rfl Z7) (wV (wk_fset _ _ (wk_adr Z1 rfl Z7) wk_none)))))) (hW (entWk_upd (entWk_data Z3 (Nat.le_refl _) (Nat.zero_le _) (CFGGraph.dat h_17)) (entWk_upd (entWk_data Z3 (Nat.le_refl _) (Nat.zero_le _) (CFGGraph.dat g_12)) entWk_none)))
       ·
        rintro s ⟨g_12, k_14, h_17, t103, t104, t105, rfl, hm⟩
        unfold TiersApart_J1 at hm
        refine AWp.reg 64 (N' := 128) rfl ?_
        iterate 2 refine pA ?_
        refine ARun.fin ?_
        refine normThen ?_
        refine ⟨_, ?_, g_12, k_14, h_17, t103, t104, (IntKind.i64.wrap (t105 + 1)), rfl, hm⟩
        exact le_canon (fun j => bif j == 1 then 1 else bif j == 2 then 2 else 0) (wV (wV (wD (CFGRaftsmanlaw15Act.sl _ _ _) (wk_fset _ _ (wk_adr Z1 rfl Z7) (wV (wk_fset _ _ (wk_adr Z1 rfl Z7) wk_none)))))) (hW (entWk_upd (entWk_data Z3 (Nat.le_refl _) (Nat.zero_le _) (CFGGraph.dat h_17)) (entWk_upd (entWk_data Z3 (Nat.le_refl _) (Nat.zero_le _) (CFGGraph.dat g_12)) entWk_none)))
      ·
       refine AWp.exit ?_
       refine exitSeq ?_
       refine exitThen ?_
       refine exitHere ?_
       refine normSeq ?_
       refine sr (N' := 192) rfl ?_
       obtain ⟨r55, h54, hm⟩ := bnd hm
       refine ARun.callQ (r := .v (.bool r55)) Zd Z1 fb67 (fun H => .nil) (law15Awake_c h54) ?_
       refine pA ?_
       refine fs ?_
       refine AWp.ret ?_
       cases hm
       exact ret1D (.inr rfl) Try.results16 (td Z1 (.v _))
end Go.Proofs.Ytibnmlbjahcjmaa
