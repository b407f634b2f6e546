/- Facts that the statement's proof is made of. No condition. -/
import Derived.Test.YtibnmlbjahcjmaaVdGC2
import Derived.Test.YtibnmlbjahcjmaaVdAmN
set_option linter.unusedVariables false
set_option linter.unusedSimpArgs false
set_option maxRecDepth 20000
set_option maxHeartbeats 4000000
namespace Go.Proofs.Ytibnmlbjahcjmaa
open Go Go.AM
theorem fo23_0GD3 (i o : Nat) : afieldAddr Try.prog 23 (.adr i o) 0 = some (.adr i (o + 0)) := by kernel_rfl
attribute [go_sem] fo23_0GD3
theorem fo27_2GD3 (i o : Nat) : afieldAddr Try.prog 27 (.adr i o) 2 = some (.adr i (o + 4)) := by kernel_rfl
attribute [go_sem] fo27_2GD3
theorem fo38_2GD3 (i o : Nat) : afieldAddr Try.prog 38 (.adr i o) 2 = some (.adr i (o + 2)) := by kernel_rfl
attribute [go_sem] fo38_2GD3
theorem ld23GD3 (H : Heap) (x0 x1 x2 : AV) (xs : List AV) : aload Try.prog H 23 (.ptr (x0 :: x1 :: x2 :: xs)) = some (.agg [x0, x1, x2]) := by kernel_rfl
attribute [go_sem] ld23GD3
theorem ld25GD3 (H : Heap) (x : AV) (xs : List AV) : aload Try.prog H 25 (.ptr (x :: xs)) = some x := by kernel_rfl
attribute [go_sem] ld25GD3
theorem ld27GD3 (H : Heap) (x0 x1 x2 x3 x4 : AV) (xs : List AV) : aload Try.prog H 27 (.ptr (x0 :: x1 :: x2 :: x3 :: x4 :: xs)) = some (.agg [x0, x1, x2, x3, x4]) := by kernel_rfl
attribute [go_sem] ld27GD3
theorem ld3GD3 (H : Heap) (x : AV) (xs : List AV) : aload Try.prog H 3 (.ptr (x :: xs)) = some x := by kernel_rfl
attribute [go_sem] ld3GD3
theorem ld38GD3 (H : Heap) (x0 x1 x2 : AV) (xs : List AV) : aload Try.prog H 38 (.ptr (x0 :: x1 :: x2 :: xs)) = some (.agg [x0, x1, x2]) := by kernel_rfl
attribute [go_sem] ld38GD3
theorem ld5GD3 (H : Heap) (x : AV) (xs : List AV) : aload Try.prog H 5 (.ptr (x :: xs)) = some x := by kernel_rfl
attribute [go_sem] ld5GD3
theorem cv5_3GD3 (H : Heap) (k : IntKind) (n : Int) : aconv Try.prog H 5 3 (.v (.int k n)) = some (.v (.int .i64 (IntKind.i64.wrap n))) := aconv_int Try.underlying5 Try.underlying3
attribute [go_sem] cv5_3GD3
def TiersOne_J1 (rec1 : GConfig → GGraph → List Int → List Int → Int → Int → Option (Bool)) (c_3 : GConfig) (g_7 : GGraph) (near_9 : List Int) (t37 : List Int) (t38 : Int) (t39 : Int) : Option (Bool) :=
 rec1 c_3 g_7 near_9 t37 t38 (IntKind.i64.wrap (t39 + 1))
def TiersOne_B2 (rec2 : GConfig → GGraph → List GEdge → Int → Int → Option (Bool)) (c_3 : GConfig) (g_7 : GGraph) (t83 : List GEdge) (t84 : Int) (t85 : Int) : Option (Bool) :=
 (bif (decide (t85 < t84)) then
  ((idx t83 t85).bind fun x28 =>
  (bif (x28.Tier != 1) then
   some false
  else
   rec2 c_3 g_7 t83 t84 (IntKind.i64.wrap (t85 + 1))))
 else
  ((tiersKept_m g_7).bind fun r30 =>
  ((ref09Of_m c_3.N g_7.Edges).bind fun r32 =>
  ((ref06Same_m r30 r32).bind fun r34 =>
  ((gopt (r34 == true) false (law15Awake_m )).bind fun r36 =>
  some (r34 && r36))))))
def TiersOne_L2 : Nat → GConfig → GGraph → List GEdge → Int → Int → Option (Bool)
 | 0 => fun _ _ _ _ _ => none
 | n + 1 => TiersOne_B2 (TiersOne_L2 n)
def TiersOne_B1 (rec1 : GConfig → GGraph → List Int → List Int → Int → Int → Option (Bool)) (c_3 : GConfig) (g_7 : GGraph) (near_9 : List Int) (t37 : List Int) (t38 : Int) (t39 : Int) : Option (Bool) :=
 (bif (decide (t39 < t38)) then
  ((idx t37 t39).bind fun x9 =>
  ((chk (c_3.N != 0)).bind fun _ =>
  ((chk (c_3.N != 0)).bind fun _ =>
  ((gopt (((Int.tmod (IntKind.i64.wrap x9) c_3.N) == (Int.tmod (IntKind.i64.wrap (Int.tdiv (IntKind.i64.wrap x9) 16)) c_3.N)) == false) 0 (idxA 12 near_9 (Int.tmod (IntKind.i64.wrap x9) c_3.N))).bind fun x13 =>
  ((gopt (((Int.tmod (IntKind.i64.wrap x9) c_3.N) == (Int.tmod (IntKind.i64.wrap (Int.tdiv (IntKind.i64.wrap x9) 16)) c_3.N)) == false) 0 (idxA 12 near_9 (Int.tmod (IntKind.i64.wrap (Int.tdiv (IntKind.i64.wrap x9) 16)) c_3.N))).bind fun x15 =>
  (bif (((Int.tmod (IntKind.i64.wrap x9) c_3.N) == (Int.tmod (IntKind.i64.wrap (Int.tdiv (IntKind.i64.wrap x9) 16)) c_3.N)) || (decide (0 < (IntKind.i64.wrap (x13 + x15))))) then
   TiersOne_J1 rec1 c_3 g_7 near_9 t37 t38 t39
  else
   ((idxA 12 near_9 (Int.tmod (IntKind.i64.wrap x9) c_3.N)).bind fun x17 =>
   ((stt near_9 (Int.tmod (IntKind.i64.wrap x9) c_3.N) 1).bind fun l19 =>
   ((idxA 12 l19 (Int.tmod (IntKind.i64.wrap (Int.tdiv (IntKind.i64.wrap x9) 16)) c_3.N)).bind fun x21 =>
   ((stt l19 (Int.tmod (IntKind.i64.wrap (Int.tdiv (IntKind.i64.wrap x9) 16)) c_3.N) 1).bind fun l23 =>
   ((tiersInsert_m g_7 (Int.tmod (IntKind.i64.wrap (Int.tdiv (IntKind.i64.wrap x9) 16)) c_3.N) (Int.tmod (IntKind.i64.wrap x9) c_3.N)).bind fun ⟨r25, r26⟩ =>
   (bif (r26 != 0) then
    some false
   else
    TiersOne_J1 rec1 c_3 r25 l23 t37 t38 t39))))))))))))
 else
  TiersOne_L2 FUEL c_3 g_7 g_7.Edges (g_7.Edges.length : Int) 0)
def TiersOne_L1 : Nat → GConfig → GGraph → List Int → List Int → Int → Int → Option (Bool)
 | 0 => fun _ _ _ _ _ _ => none
 | n + 1 => TiersOne_B1 (TiersOne_L1 n)
def TiersOne_m (c_0 : GConfig) (hashes_1 : List GHash) (pairs_2 : List Int) : Option (Bool) :=
 ((tiersNew_m c_0 hashes_1).bind fun ⟨r2, r3⟩ =>
 ((law15Few_m c_0 []).bind fun r5 =>
 (bif (((decide (r5 < 0)) || (r3 != 0)) || (decide (12 < (pairs_2.length : Int)))) then
  ((law15Awake_m ).bind fun r7 =>
  some r7)
 else
  TiersOne_L1 FUEL c_0 r2 (List.replicate 12 0) pairs_2 (pairs_2.length : Int) 0)))
theorem TiersOne_c {c_0 : GConfig} {hashes_1 : List GHash} {pairs_2 : List Int} {r : Bool} (hm : TiersOne_m c_0 hashes_1 pairs_2 = some r) : PureC Try.prog 17 [.agg [.v (.int .i64 c_0.N), .v (.int .i64 c_0.L), .v (.int .i64 c_0.R)], .sl (hashes_1.flatMap cGHash) hashes_1.length false, .sl (pairs_2.flatMap (ci .u8)) pairs_2.length false] (.v (.bool r)) := by
 refine PureC.of_body Try.func17 rfl ?_
 simp only [Try.ntmps17, List.length_cons, List.length_nil, Nat.reduceAdd, Nat.reduceSub, empty_eq]
 unfold TiersOne_m at hm
 refine sr (N' := 64) rfl ?_
 refine hp (id := 0) rfl rfl (aheap_box Z1 Z5) ?_
 refine pA ?_
 refine fs ?_
 refine sr (N' := 128) rfl ?_
 refine pu rfl (ap_ldv Z1 Z3 Z2) ?_
 refine pA ?_
 obtain ⟨⟨r2, r3⟩, h1, hm⟩ := bnd hm
 refine ARun.callQ (r := .tup [.agg [.v (.int .i64 r2.Config.N), .v (.int .i64 r2.Config.L), .v (.int .i64 r2.Config.R), .sl (r2.Hashes.flatMap cGHash) r2.Hashes.length false, .sl (r2.Edges.flatMap cGEdge) r2.Edges.length false], .v (.int .i64 r3)]) Zd Z1 fb66 (fun H => (cD (.agg _ (CFGConfig.dat _)) (cD (CFGHash.sl _ _ _) .nil))) (tiersNew_c h1) ?_
 iterate 3 refine pA ?_
 refine hp (id := 70) rfl rfl (aheap_alloc' zc27 Z5) ?_
 refine ARun.heap0 (id := 71) rfl (ah_var (ys := [.v (.int .i64 r2.Config.N), .v (.int .i64 r2.Config.L), .v (.int .i64 r2.Config.R), .sl (r2.Hashes.flatMap cGHash) r2.Hashes.length false, .sl (r2.Edges.flatMap cGEdge) r2.Edges.length false]) sz27 Z1 Z1 Z3 rfl (Nat.le_of_ble_eq_true rfl) Z9 rfl) ?_
 refine pA ?_
 refine fs ?_
 refine AWp.seq' ?_
 refine sr (N' := 192) rfl ?_
 refine pu rfl (ap_ldv Z1 Z3 Z2) ?_
 obtain ⟨r5, h4, hm⟩ := bnd hm
 refine ARun.callQ (r := .v (.int .i64 r5)) Zd Z1 fb65 (fun H => (cD (.agg _ (CFGConfig.dat _)) (.cons (tdn Z1) .nil))) (law15Few_c h4) ?_
 iterate 10 first | refine pA ?_ | refine pB ?_
 refine fs ?_
 refine AWp.condM hm Z1 (fun _ hm => ?_) (fun _ hm => ?_)
 ·
  refine sr (N' := 256) rfl ?_
  obtain ⟨r7, h6, hm⟩ := bnd hm
  refine ARun.callQ (r := .v (.bool r7)) Zd Z1 fb67 (fun H => .nil) (law15Awake_c h6) ?_
  refine pA ?_
  refine fs ?_
  refine AWp.ret ?_
  refine retSeq ?_
  cases hm
  exact ret1D (.inr rfl) Try.results17 (td Z1 (.v _))
 ·
  refine AWp.skip ?_
  refine normSeq ?_
  refine sr (N' := 256) rfl ?_
  refine hp (id := 192) rfl rfl (aheap_alloca (c := (ci .i64)) (l := (List.replicate 12 0)) zc77 Z5) ?_
  refine fs ?_
  refine AWp.seq' ?_
  refine sr (N' := 320) rfl ?_
  iterate 3 refine pA ?_
  refine fs ?_
  refine AWp.block ?_
  refine AWp.loopM (fun m s => ∃ (c_3 : GConfig) (g_7 : GGraph) (near_9 : List Int) (t37 : List Int) (t38 : Int) (t39 : Int), s = (⟨104, (fset (fset (fset (fset (fset (fset (fun _ => AV.any) 3 (.adr 1 0)) 7 (.adr 2 0)) 9 (.adr 3 0)) 37 (.sl (t37.flatMap (ci .u8)) t37.length false)) 38 (.v (.int .i64 t38))) 39 (.v (.int .i64 t39))), ⟨(upd (upd (upd nofresh 1 (.cells 1 [.v (.int .i64 c_3.N), .v (.int .i64 c_3.L), .v (.int .i64 c_3.R)] 0)) 2 (.cells 1 [.v (.int .i64 g_7.Config.N), .v (.int .i64 g_7.Config.L), .v (.int .i64 g_7.Config.R), .sl (g_7.Hashes.flatMap cGHash) g_7.Hashes.length false, .sl (g_7.Edges.flatMap cGEdge) g_7.Edges.length false] 0)) 3 (.cells 1 (near_9.flatMap (ci .i64)) 0)), 64⟩⟩ : St) ∧ TiersOne_L1 m c_3 g_7 near_9 t37 t38 t39 = some r) FUEL ?_ ?_ ?_
  ·
   rintro s ⟨_, _, _, _, _, _, _, h⟩
   cases h
  ·
   refine ⟨_, ?_, c_0, r2, (List.replicate 12 0), pairs_2, (pairs_2.length : Int), 0, rfl, hm⟩
   exact le_canon (fun j => bif j == 1 then 0 else bif j == 2 then 70 else bif j == 3 then 192 else 0) (wV (wV (wD ((CFi .u8).sl _ _ _) (wk_fset _ _ (wk_adr Z1 rfl Z7) (wk_fset _ _ (wk_adr Z1 rfl Z7) (wk_fset _ _ (wk_adr Z1 rfl Z7) wk_none)))))) (heapWk_of _ (eU (CFi .i64) (entWk_upd (entWk_data Z3 (Nat.le_refl _) (Nat.zero_le _) (CFGGraph.dat r2)) (entWk_upd (entWk_data Z3 (Nat.le_refl _) (Nat.zero_le _) (CFGConfig.dat c_0)) entWk_none))) Z8)
  ·
   rintro n1 s ⟨c_3, g_7, near_9, t37, t38, t39, rfl, hm⟩
   replace hm : TiersOne_B1 (TiersOne_L1 n1) c_3 g_7 near_9 t37 t38 t39 = some r := hm
   unfold TiersOne_B1 at hm
   refine sr (N' := 128) rfl ?_
   refine pA ?_
   refine fs ?_
   refine AWp.seq' ?_
   refine AWp.condM hm Z1 (fun _ hm => ?_) (fun _ hm => ?_)
   ·
    refine AWp.skip ?_
    refine normSeq ?_
    refine AWp.seqJ (fun s => ∃ (c_3 : GConfig) (g_7 : GGraph) (near_9 : List Int) (t37 : List Int) (t38 : Int) (t39 : Int), s = (⟨104, (fset (fset (fset (fset (fset (fset (fun _ => AV.any) 3 (.adr 1 0)) 7 (.adr 2 0)) 9 (.adr 3 0)) 37 (.sl (t37.flatMap (ci .u8)) t37.length false)) 38 (.v (.int .i64 t38))) 39 (.v (.int .i64 t39))), ⟨(upd (upd (upd nofresh 1 (.cells 1 [.v (.int .i64 c_3.N), .v (.int .i64 c_3.L), .v (.int .i64 c_3.R)] 0)) 2 (.cells 1 [.v (.int .i64 g_7.Config.N), .v (.int .i64 g_7.Config.L), .v (.int .i64 g_7.Config.R), .sl (g_7.Hashes.flatMap cGHash) g_7.Hashes.length false, .sl (g_7.Edges.flatMap cGEdge) g_7.Edges.length false] 0)) 3 (.cells 1 (near_9.flatMap (ci .i64)) 0)), 64⟩⟩ : St) ∧ TiersOne_J1 (TiersOne_L1 n1) c_3 g_7 near_9 t37 t38 t39 = some r) ?_ ?_
    ·
     refine AWp.block ?_
     refine sr (N' := 192) rfl ?_
     obtain ⟨x9, h8, hm⟩ := bnd hm
     refine pu rfl (ap_idx (CFi .u8) Zd Try.underlying76 sz5 Z1 rfl Z1 h8) ?_
     iterate 2 refine pA ?_
     refine fs ?_
     refine sd mix (by kernel_rfl) (N' := 256) rfl ?_
     iterate 3 refine pA ?_
     refine pu rfl (ap_ldv Z1 Z3 Z4) ?_
     obtain ⟨_, h10, hm⟩ := bnd hm
     refine pu rfl (ap_rem Z1 Z1 (chk_t h10)) ?_
     iterate 4 refine pu rfl (by simp only [go_sem, Nat.reduceBEq, Int.reduceEq, Int.reduceLE]; try with_reducible rfl) ?_
     refine pu rfl (ap_ldv Z1 Z3 Z4) ?_
     obtain ⟨_, h11, hm⟩ := bnd hm
     refine pu rfl (ap_rem Z1 Z1 (chk_t h11)) ?_
     iterate 2 refine pA ?_
     refine fs ?_
     refine AWp.seq' ?_
     refine sd mix (by kernel_rfl) (N' := 320) rfl ?_
     iterate 5 first | refine pA ?_ | refine pB ?_
     obtain ⟨x13, h12, hm⟩ := bnd hm
     refine pg rfl rfl Z2 (fun hb => (ap_idxa Try.underlying77 sz3 (Zh hb) Z3 (Zh hb) (gopt_t h12 hb))) ?_
     refine pg rfl rfl Z2 (fun hb => (ap_ldo (CFi .i64) (Zh hb) Z3 (idxA_i (gopt_t h12 hb)) (fun _ => by simp only [go_sem, Nat.reduceBEq]; try with_reducible rfl))) ?_
     refine pB ?_
     obtain ⟨x15, h14, hm⟩ := bnd hm
     refine pg rfl rfl Z2 (fun hb => (ap_idxa Try.underlying77 sz3 (Zh hb) Z3 (Zh hb) (gopt_t h14 hb))) ?_
     refine pg rfl rfl Z2 (fun hb => (ap_ldo (CFi .i64) (Zh hb) Z3 (idxA_i (gopt_t h14 hb)) (fun _ => by simp only [go_sem, Nat.reduceBEq]; try with_reducible rfl))) ?_
     iterate 3 first | refine pA ?_ | refine pB ?_
     refine fs ?_
     refine AWp.condM hm Z1 (fun _ hm => ?_) (fun _ hm => ?_)
     ·
      refine AWp.exit ?_
      refine exitSeq ?_
      refine exitHere ?_
      refine normJ ?_
      refine ⟨_, ?_, c_3, g_7, near_9, t37, t38, t39, rfl, hm⟩
      exact le_canon (fun j => bif j == 1 then 1 else bif j == 2 then 2 else bif j == 3 then 3 else 0) (wV (wV (wD ((CFi .u8).sl _ _ _) (wk_fset _ _ (wk_adr Z1 rfl Z7) (wk_fset _ _ (wk_adr Z1 rfl Z7) (wk_fset _ _ (wk_adr Z1 rfl Z7) wk_none)))))) (heapWk_of _ (eU (CFi .i64) (entWk_upd (entWk_data Z3 (Nat.le_refl _) (Nat.zero_le _) (CFGGraph.dat g_7)) (entWk_upd (entWk_data Z3 (Nat.le_refl _) (Nat.zero_le _) (CFGConfig.dat c_3)) entWk_none))) Z8)
     ·
      refine AWp.skip ?_
      refine normSeq ?_
      refine sr (N' := 384) rfl ?_
      iterate 2 refine pA ?_
      obtain ⟨x17, h16, hm⟩ := bnd hm
      refine pu rfl (ap_idxa Try.underlying77 sz3 Z1 Z3 Z1 h16) ?_
      obtain ⟨l19, h18, hm⟩ := bnd hm
      have qh18 := stt_len h18
      refine ARun.heap0 (id := 323) rfl (ah_stt (CFi .i64) sz3 Z1 Z1 Z3 rfl h18) ?_
      obtain ⟨x21, h20, hm⟩ := bnd hm
      refine pu rfl (ap_idxa Try.underlying77 sz3 Z1 Z3 Z1 h20) ?_
      obtain ⟨l23, h22, hm⟩ := bnd hm
      have qh22 := stt_len h22
      refine ARun.heap0 (id := 325) rfl (ah_stt (CFi .i64) sz3 Z1 Z1 Z3 rfl h22) ?_
      refine fs ?_
      refine sr (N' := 448) rfl ?_
      refine pu rfl (ap_ldv Z1 Z3 Z2) ?_
      iterate 2 refine pA ?_
      obtain ⟨⟨r25, r26⟩, h24, hm⟩ := bnd hm
      refine ARun.callQ (r := .tup [.agg [.v (.int .i64 r25.Config.N), .v (.int .i64 r25.Config.L), .v (.int .i64 r25.Config.R), .sl (r25.Hashes.flatMap cGHash) r25.Hashes.length false, .sl (r25.Edges.flatMap cGEdge) r25.Edges.length false], .v (.int .i64 r26)]) Zd Z1 fb69 (fun H => (cD (.agg _ (CFGGraph.dat _)) (cV (cV .nil)))) (tiersInsert_c h24) ?_
      iterate 3 refine pA ?_
      refine hp (id := 391) rfl rfl (aheap_alloc' zc27 Z5) ?_
      refine ARun.heap0 (id := 392) rfl (ah_var (ys := [.v (.int .i64 r25.Config.N), .v (.int .i64 r25.Config.L), .v (.int .i64 r25.Config.R), .sl (r25.Hashes.flatMap cGHash) r25.Hashes.length false, .sl (r25.Edges.flatMap cGEdge) r25.Edges.length false]) sz27 Z1 Z1 Z3 rfl (Nat.le_of_ble_eq_true rfl) Z9 rfl) ?_
      refine pA ?_
      refine fs ?_
      refine AWp.seq' ?_
      refine sr (N' := 512) rfl ?_
      iterate 2 refine pA ?_
      refine fs ?_
      refine AWp.condM hm Z1 (fun _ hm => ?_) (fun _ hm => ?_)
      ·
       refine sr (N' := 576) rfl ?_
       refine pA ?_
       refine fs ?_
       refine AWp.ret ?_
       refine retSeq ?_
       refine retIn ?_
       refine retJ ?_
       refine retThen ?_
       refine retIn ?_
       refine retSeq ?_
       cases hm
       exact ret1D (.inr rfl) Try.results17 (td Z1 (.v _))
      ·
       refine AWp.skip ?_
       refine normSeq ?_
       refine AWp.reg 64 (N' := 576) rfl ?_
       refine pu rfl (ap_ldv Z1 Z3 Z2) ?_
       refine ARun.heap0 (id := 513) rfl (ah_var (ys := [.v (.int .i64 r25.Config.N), .v (.int .i64 r25.Config.L), .v (.int .i64 r25.Config.R), .sl (r25.Hashes.flatMap cGHash) r25.Hashes.length false, .sl (r25.Edges.flatMap cGEdge) r25.Edges.length false]) sz27 Z1 Z1 Z3 rfl (Nat.le_of_ble_eq_true rfl) Z9 rfl) ?_
       refine ARun.fin ?_
       refine normIn ?_
       refine normJ ?_
       refine ⟨_, ?_, c_3, r25, l23, t37, t38, t39, rfl, hm⟩
       exact le_canon (fun j => bif j == 1 then 1 else bif j == 2 then 2 else bif j == 3 then 3 else 0) (wV (wV (wD ((CFi .u8).sl _ _ _) (wk_fset _ _ (wk_adr Z1 rfl Z7) (wk_fset _ _ (wk_adr Z1 rfl Z7) (wk_fset _ _ (wk_adr Z1 rfl Z7) wk_none)))))) (heapWk_of _ (eU (CFi .i64) (entWk_upd (entWk_data Z3 (Nat.le_refl _) (Nat.zero_le _) (CFGGraph.dat r25)) (entWk_upd (entWk_data Z3 (Nat.le_refl _) (Nat.zero_le _) (CFGConfig.dat c_3)) entWk_none))) Z8)
    ·
     rintro s ⟨c_3, g_7, near_9, t37, t38, t39, rfl, hm⟩
     unfold TiersOne_J1 at hm
     refine AWp.reg 64 (N' := 128) rfl ?_
     iterate 2 refine pA ?_
     refine ARun.fin ?_
     refine normThen ?_
     refine ⟨_, ?_, c_3, g_7, near_9, t37, t38, (IntKind.i64.wrap (t39 + 1)), rfl, hm⟩
     exact le_canon (fun j => bif j == 1 then 1 else bif j == 2 then 2 else bif j == 3 then 3 else 0) (wV (wV (wD ((CFi .u8).sl _ _ _) (wk_fset _ _ (wk_adr Z1 rfl Z7) (wk_fset _ _ (wk_adr Z1 rfl Z7) (wk_fset _ _ (wk_adr Z1 rfl Z7) wk_none)))))) (heapWk_of _ (eU (CFi .i64) (entWk_upd (entWk_data Z3 (Nat.le_refl _) (Nat.zero_le _) (CFGGraph.dat g_7)) (entWk_upd (entWk_data Z3 (Nat.le_refl _) (Nat.zero_le _) (CFGConfig.dat c_3)) entWk_none))) Z8)
   ·
    refine AWp.exit ?_
    refine exitSeq ?_
    refine exitThen ?_
    refine exitHere ?_
    refine normSeq ?_
    refine AWp.seq' ?_
    refine sr (N' := 192) rfl ?_
    refine pA ?_
    refine pu rfl (ap_ldv Z1 Z3 Z4) ?_
    iterate 2 refine pA ?_
    refine fs ?_
    refine AWp.block ?_
    refine AWp.loopM (fun m s => ∃ (c_3 : GConfig) (g_7 : GGraph) (t83 : List GEdge) (t84 : Int) (t85 : Int), s = (⟨104, (fset (fset (fset (fset (fset (fun _ => AV.any) 3 (.adr 1 0)) 7 (.adr 2 0)) 83 (.sl (t83.flatMap cGEdge) t83.length false)) 84 (.v (.int .i64 t84))) 85 (.v (.int .i64 t85))), ⟨(upd (upd nofresh 1 (.cells 1 [.v (.int .i64 c_3.N), .v (.int .i64 c_3.L), .v (.int .i64 c_3.R)] 0)) 2 (.cells 1 [.v (.int .i64 g_7.Config.N), .v (.int .i64 g_7.Config.L), .v (.int .i64 g_7.Config.R), .sl (g_7.Hashes.flatMap cGHash) g_7.Hashes.length false, .sl (g_7.Edges.flatMap cGEdge) g_7.Edges.length false] 0)), 64⟩⟩ : St) ∧ TiersOne_L2 m c_3 g_7 t83 t84 t85 = some r) FUEL ?_ ?_ ?_
    ·
     rintro s ⟨_, _, _, _, _, _, h⟩
     cases h
    ·
     refine ⟨_, ?_, c_3, g_7, g_7.Edges, (g_7.Edges.length : Int), 0, rfl, hm⟩
     exact le_canon (fun j => bif j == 1 then 1 else bif j == 2 then 2 else 0) (wV (wV (wD (CFGEdge.sl _ _ _) (wk_fset _ _ (wk_adr Z1 rfl Z7) (wk_fset _ _ (wk_adr Z1 rfl Z7) wk_none))))) (hW (entWk_upd (entWk_data Z3 (Nat.le_refl _) (Nat.zero_le _) (CFGGraph.dat g_7)) (entWk_upd (entWk_data Z3 (Nat.le_refl _) (Nat.zero_le _) (CFGConfig.dat c_3)) entWk_none)))
    ·
     rintro n2 s ⟨c_3, g_7, t83, t84, t85, rfl, hm⟩
     replace hm : TiersOne_B2 (TiersOne_L2 n2) c_3 g_7 t83 t84 t85 = some r := hm
     unfold TiersOne_B2 at hm
     refine sr (N' := 128) rfl ?_
     refine pA ?_
     refine fs ?_
     refine AWp.seq' ?_
     refine AWp.condM hm Z1 (fun _ hm => ?_) (fun _ hm => ?_)
     ·
      refine AWp.skip ?_
      refine normSeq ?_
      refine AWp.seq' ?_
      refine AWp.block ?_
      refine sr (N' := 192) rfl ?_
      obtain ⟨x28, h27, hm⟩ := bnd hm
      refine pu rfl (ap_idx CFGEdge Zd Try.underlying25 sz38 Z1 rfl Z1 h27) ?_
      refine pA ?_
      refine hp (id := 130) rfl rfl (aheap_alloc' zc38 Z5) ?_
      refine ARun.heap0 (id := 131) rfl (ah_var (ys := [.v (.int .i64 x28.U), .v (.int .i64 x28.V), .v (.int .i64 x28.Tier)]) sz38 Z1 Z1 Z3 rfl (Nat.le_of_ble_eq_true rfl) Z9 rfl) ?_
      refine fs ?_
      refine sr (N' := 256) rfl ?_
      refine pA ?_
      refine pu rfl (ap_ldv Z1 Z3 Z4) ?_
      refine pA ?_
      refine fs ?_
      refine AWp.condM hm Z1 (fun _ hm => ?_) (fun _ hm => ?_)
      ·
       refine sr (N' := 320) rfl ?_
       refine pA ?_
       refine fs ?_
       refine AWp.ret ?_
       refine retIn ?_
       refine retSeq ?_
       refine retThen ?_
       refine retIn ?_
       refine retSeq ?_
       cases hm
       exact ret1D (.inr rfl) Try.results17 (td Z1 (.v _))
      ·
       refine AWp.skip ?_
       refine normIn ?_
       refine normSeq ?_
       refine AWp.reg 64 (N' := 320) rfl ?_
       iterate 2 refine pA ?_
       refine ARun.fin ?_
       refine normThen ?_
       refine ⟨_, ?_, c_3, g_7, t83, t84, (IntKind.i64.wrap (t85 + 1)), rfl, hm⟩
       exact le_canon (fun j => bif j == 1 then 1 else bif j == 2 then 2 else 0) (wV (wV (wD (CFGEdge.sl _ _ _) (wk_fset _ _ (wk_adr Z1 rfl Z7) (wk_fset _ _ (wk_adr Z1 rfl Z7) wk_none))))) (hW (entWk_upd (entWk_data Z3 (Nat.le_refl _) (Nat.zero_le _) (CFGGraph.dat g_7)) (entWk_upd (entWk_data Z3 (Nat.le_refl _) (Nat.zero_le _) (CFGConfig.dat c_3)) entWk_none)))
     ·
      refine AWp.exit ?_
      refine exitSeq ?_
      refine exitThen ?_
      refine exitHere ?_
      refine normSeq ?_
      refine sd mix (by kernel_rfl) (N' := 192) rfl ?_
      refine pu rfl (ap_ldv Z1 Z3 Z2) ?_
      obtain ⟨r30, h29, hm⟩ := bnd hm
      refine ARun.callQ (r := .sl (r30.flatMap (ci .i64)) r30.length false) Zd Z1 fb39 (fun H => (cD (.agg _ (CFGGraph.dat _)) .nil)) (tiersKept_c h29) ?_
      refine pA ?_
      refine pu rfl (ap_ldv Z1 Z3 Z4) ?_
      refine pA ?_
      refine pu rfl (ap_ldv Z1 Z3 Z4) ?_
      obtain ⟨r32, h31, hm⟩ := bnd hm
      refine ARun.callQ (r := .sl (r32.flatMap (ci .i64)) r32.length false) Zd Z1 fb71 (fun H => (cV (cD (CFGEdge.sl _ _ _) .nil))) (ref09Of_c h31) ?_
      obtain ⟨r34, h33, hm⟩ := bnd hm
      refine ARun.callQ (r := .v (.bool r34)) Zd Z1 fb34 (fun H => (cD ((CFi .i64).sl _ _ _) (cD ((CFi .i64).sl _ _ _) .nil))) (ref06Same_c h33) ?_
      refine pA ?_
      obtain ⟨r36, h35, hm⟩ := bnd hm
      refine ARun.callQG (r := .v (.bool r36)) Zd rfl Z2 Z1 fb67 (fun hb H => .nil) (fun hb => law15Awake_c (gopt_t h35 hb)) ?_
      iterate 2 refine pA ?_
      refine fs ?_
      refine AWp.ret ?_
      cases hm
      exact ret1D (.inr rfl) Try.results17 (td Z1 (.v _))
end Go.Proofs.Ytibnmlbjahcjmaa
