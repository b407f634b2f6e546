/- Facts that the statement's proof is made of. No condition. -/
import Derived.Test.YtkdohhmacfoolaaGreatNbLds
import Derived.Test.YtkdohhmacfoolaaGreatNbAmF
set_option linter.unusedVariables false
set_option linter.unusedSimpArgs false
set_option maxRecDepth 20000
set_option maxHeartbeats 4000000
namespace Go.Proofs.YtkdohhmacfoolaaGreat
open Go Go.AM
theorem aLt (i o : Nat) : aM Tryz.prog 102 (.adr i o) 0 = some (.adr i (o + 0)) := by kernel_rfl
attribute [go_sem] aLt
theorem aLv (i o : Nat) : aM Tryz.prog 102 (.adr i o) 1 = some (.adr i (o + 1)) := by kernel_rfl
attribute [go_sem] aLv
theorem aMx (i o : Nat) : aM Tryz.prog 102 (.adr i o) 2 = some (.adr i (o + 2)) := by kernel_rfl
attribute [go_sem] aMx
theorem aQa (i o : Nat) : aM Tryz.prog 23 (.adr i o) 0 = some (.adr i (o + 0)) := by kernel_rfl
attribute [go_sem] aQa
theorem aQf (i o : Nat) : aM Tryz.prog 23 (.adr i o) 1 = some (.adr i (o + 1)) := by kernel_rfl
attribute [go_sem] aQf
theorem aQg (i o : Nat) : aM Tryz.prog 30 (.adr i o) 0 = some (.adr i (o + 0)) := by kernel_rfl
attribute [go_sem] aQg
theorem aRg (i o : Nat) : aM Tryz.prog 30 (.adr i o) 2 = some (.adr i (o + 4)) := by kernel_rfl
attribute [go_sem] aRg
theorem aTm (H : aP) (x0 x1 x2 : AV) (xs : List AV) : cF Tryz.prog H 102 (.ptr (x0 :: x1 :: x2 :: xs)) = some (.agg [x0, x1, x2]) := by kernel_rfl
attribute [go_sem] aTm
theorem aX4 (H : aP) (x : AV) (xs : List AV) : cF Tryz.prog H 28 (.ptr (x :: xs)) = some x := by kernel_rfl
attribute [go_sem] aX4
theorem bAb (H : aP) (x : AV) (xs : List AV) : cF Tryz.prog H 3 (.ptr (x :: xs)) = some x := by kernel_rfl
attribute [go_sem] bAb
theorem aXx (H : aP) (x0 x1 x2 x3 x4 : AV) (xs : List AV) : cF Tryz.prog H 30 (.ptr (x0 :: x1 :: x2 :: x3 :: x4 :: xs)) = some (.agg [x0, x1, x2, x3, x4]) := by kernel_rfl
attribute [go_sem] aXx
def vA (rec1 : List aC → Int → List Int → List aC → Int → Option ((List aC) × Int)) (l_1 : List aC) (v_3 : Int) (lead_10 : List Int) (path_11 : List aC) (x_12 : Int) : Option ((List aC) × Int) :=
 (bif (x_12 != v_3) then
  ((idx lead_10 x_12).bind fun x10 =>
  (bif (decide (x10 < 0)) then
   some ([], 3)
  else
   ((idx lead_10 x_12).bind fun x12 =>
   ((idx l_1 x12).bind fun x14 =>
   ((app path_11 [x14]).bind fun l16 =>
   ((qH x14 x_12).bind fun r18 =>
   rec1 l_1 v_3 lead_10 l16 r18))))))
 else
  some (path_11, 0))
def qL : Nat → List aC → Int → List Int → List aC → Int → Option ((List aC) × Int)
 | 0 => fun _ _ _ _ _ => none
 | n + 1 => vA (qL n)
def yN (n_0 : Int) (l_1 : List aC) (u_2 : Int) (v_3 : Int) : Option ((List aC) × Int) :=
 ((iP n_0 l_1).bind fun r2 =>
 ((fA ((!r2) == false) false (oV n_0 u_2)).bind fun r4 =>
 ((fA (((!r2) || (!r4)) == false) false (oV n_0 v_3)).bind fun r6 =>
 (bif (((!r2) || (!r4)) || (!r6)) then
  some ([], 1)
 else
  ((vZ n_0 l_1 v_3).bind fun r8 =>
  qL bY l_1 v_3 r8 [] u_2)))))
theorem aK2 {n_0 : Int} {l_1 : List aC} {u_2 : Int} {v_3 : Int} {r : (List aC) × Int} (hm : yN n_0 l_1 u_2 v_3 = some r) : aT Tryz.prog 170 [.v (.int .i64 n_0), .sl (l_1.flatMap aL) l_1.length false, .v (.int .i64 u_2), .v (.int .i64 v_3)] (.tup [.sl (r.1.flatMap aL) r.1.length false, .v (.int .i64 r.2)]) := by
 refine aT.of_body Tryz.func170 rfl ?_
 simp only [Tryz.ntmps170, List.length_cons, List.length_nil, Nat.reduceAdd, Nat.reduceSub, aQ]
 unfold yN at hm
 refine sr (N' := 64) rfl ?_
 iterate 2 refine pA ?_
 refine fs ?_
 refine AWp.seq' ?_
 refine sr (N' := 128) rfl ?_
 iterate 2 refine pA ?_
 obtain ⟨r2, h1, hm⟩ := bnd hm
 refine aE.callQ (r := .v (.bool r2)) Zd Z1 bA9 (fun H => (cV (cD (aG.sl _ _ _) .nil))) (vE h1) ?_
 iterate 4 first | refine pA ?_ | refine pB ?_
 obtain ⟨r4, h3, hm⟩ := bnd hm
 refine aE.callQG (r := .v (.bool r4)) Zd rfl Z2 Z1 aZb (fun hb H => (.cons (td (Zh hb) (.v _)) (.cons (td (Zh hb) (.v _)) .nil))) (fun hb => zQ (dA h3 hb)) ?_
 iterate 5 first | refine pA ?_ | refine pB ?_
 obtain ⟨r6, h5, hm⟩ := bnd hm
 refine aE.callQG (r := .v (.bool r6)) Zd rfl Z2 Z1 aZb (fun hb H => (.cons (td (Zh hb) (.v _)) (.cons (td (Zh hb) (.v _)) .nil))) (fun hb => zQ (dA h5 hb)) ?_
 iterate 2 first | refine pA ?_ | refine pB ?_
 refine fs ?_
 refine AWp.condM hm Z1 (fun _ hm => ?_) (fun _ hm => ?_)
 ·
  refine sr (N' := 192) rfl ?_
  iterate 2 refine pA ?_
  refine fs ?_
  refine AWp.ret ?_
  refine bB ?_
  cases hm
  exact fE (.inr rfl) Tryz.results170 (tdn Z1) (td Z1 (.v _))
 ·
  refine AWp.skip ?_
  refine aF ?_
  refine sr (N' := 192) rfl ?_
  iterate 3 refine pA ?_
  obtain ⟨r8, h7, hm⟩ := bnd hm
  refine aE.callQ (r := .sl (r8.flatMap (ci .i64)) r8.length false) Zd Z1 bHk (fun H => (cV (cD (aG.sl _ _ _) (cV .nil)))) (aIz h7) ?_
  refine pA ?_
  refine fs ?_
  refine sr (N' := 256) rfl ?_
  refine pA ?_
  refine fs ?_
  refine AWp.seq' ?_
  refine sr (N' := 320) rfl ?_
  iterate 2 refine pA ?_
  refine fs ?_
  refine AWp.block ?_
  refine AWp.loopM (fun m s => ∃ (l_1 : List aC) (v_3 : Int) (lead_10 : List Int) (path_11 : List aC) (x_12 : Int), s = (⟨58, (aK (aK (aK (aK (aK (fun _ => AV.any) 1 (.sl (l_1.flatMap aL) l_1.length false)) 3 (.v (.int .i64 v_3))) 10 (.sl (lead_10.flatMap (ci .i64)) lead_10.length false)) 11 (.own 1 0 path_11.length)) 12 (.v (.int .i64 x_12))), ⟨(upd bL 1 (.cells 3 (path_11.flatMap aL) 0)), 64⟩⟩ : St) ∧ qL m l_1 v_3 lead_10 path_11 x_12 = some r) bY ?_ ?_ ?_
  ·
   rintro s ⟨_, _, _, _, _, _, h⟩
   cases h
  ·
   refine ⟨_, ?_, l_1, v_3, r8, [], u_2, rfl, hm⟩
   refine St.Le.trans (kA 11 900011 3 Z1 Z5) ?_
   exact aN (fun j => bif j == 1 then 900011 else 0) (wV (wO (wD ((CFi .i64).sl _ _ _) (wV (wD (aG.sl _ _ _) aU))))) (hW (eU aG aR))
  ·
   rintro n1 s ⟨l_1, v_3, lead_10, path_11, x_12, rfl, hm⟩
   replace hm : vA (qL n1) l_1 v_3 lead_10 path_11 x_12 = some r := hm
   unfold vA at hm
   refine AWp.seq' ?_
   refine sr (N' := 128) rfl ?_
   iterate 3 refine pA ?_
   refine fs ?_
   refine AWp.condM hm Z1 (fun _ hm => ?_) (fun _ hm => ?_)
   ·
    refine AWp.skip ?_
    refine aF ?_
    refine AWp.block ?_
    refine AWp.seq' ?_
    refine sr (N' := 192) rfl ?_
    iterate 2 refine pA ?_
    obtain ⟨x10, h9, hm⟩ := bnd hm
    refine pu rfl (cP (CFi .i64) Zd Tryz.underlying112 sz3 Z1 rfl Z1 h9) ?_
    iterate 2 refine pA ?_
    refine fs ?_
    refine AWp.condM hm Z1 (fun _ hm => ?_) (fun _ hm => ?_)
    ·
     refine sr (N' := 256) rfl ?_
     iterate 2 refine pA ?_
     refine fs ?_
     refine AWp.ret ?_
     refine bB ?_
     refine dB ?_
     refine eD ?_
     refine dB ?_
     refine bB ?_
     cases hm
     exact fE (.inr rfl) Tryz.results170 (tdn Z1) (td Z1 (.v _))
    ·
     refine AWp.skip ?_
     refine aF ?_
     refine sr (N' := 256) rfl ?_
     iterate 3 refine pA ?_
     obtain ⟨x12, h11, hm⟩ := bnd hm
     refine pu rfl (cP (CFi .i64) Zd Tryz.underlying112 sz3 Z1 rfl Z1 h11) ?_
     refine pA ?_
     obtain ⟨x14, h13, hm⟩ := bnd hm
     refine pu rfl (cP aG Zd Tryz.underlying28 dQ Z1 rfl Z1 h13) ?_
     refine pA ?_
     refine hp (id := 199) rfl rfl (aY jI Z5) ?_
     refine aE.heap0 (id := 200) rfl (bG (ys := [.v (.int .i64 x14.U), .v (.int .i64 x14.V), .v (.int .i64 x14.Tier)]) dQ Z1 Z1 Z3 rfl (Nat.le_of_ble_eq_true rfl) Z9 rfl) ?_
     refine fs ?_
     refine sr (N' := 320) rfl ?_
     refine pA ?_
     refine pu rfl (aD Z1 Z3 Z2) ?_
     refine hp (id := 258) rfl rfl (eE aG (l := [x14]) Tryz.underlying28 dQ jI Z5 Zd Zd Zd (by simp only [go_sem, Nat.reduceBEq]; try rfl) (by kernel_rfl)) ?_
     obtain ⟨l16, h15, hm⟩ := bnd hm
     refine hp (id := 259) rfl rfl (iI aG Tryz.underlying28 Tryz.underlying28 rfl aFo aFm (by rw [sT]; decide) (by rw [sT]; decide) aFw Zd Zd Z1 Z3 Z6 (lM aG Z1 Z3 Z6) rfl Z5 h15) ?_
     refine pA ?_
     refine fs ?_
     refine AWp.reg 64 (N' := 384) rfl ?_
     refine pu rfl (aD Z1 Z3 Z2) ?_
     refine pA ?_
     obtain ⟨r18, h17, hm⟩ := bnd hm
     refine aE.callQ (r := .v (.int .i64 r18)) Zd Z1 aZ6 (fun H => (cD (.agg _ (aG.dat _)) (cV .nil))) (aB6 h17) ?_
     refine pA ?_
     refine aE.fin ?_
     refine cA ?_
     refine bU ?_
     refine ⟨_, ?_, l_1, v_3, lead_10, l16, r18, rfl, hm⟩
     exact aN (fun j => bif j == 1 then 259 else 0) (wV (wO (wD ((CFi .i64).sl _ _ _) (wV (wD (aG.sl _ _ _) aU))))) (hW (eU aG aR))
   ·
    refine AWp.exit ?_
    refine cH ?_
    refine bW ?_
    refine bT ?_
    refine aF ?_
    refine sr (N' := 192) rfl ?_
    iterate 3 refine pA ?_
    refine fs ?_
    refine AWp.ret ?_
    cases hm
    exact fE (.inr rfl) Tryz.results170 (tdo aG Z1 Z3 Z6) (td Z1 (.v _))
def kQ (tier_1 : Int) (g_3 : aJ) (t6 : aJ) (e_7 : aC) (n_9 : Int) : Option (aJ) :=
 ((vT n_9 g_3.Edges e_7.U e_7.V (IntKind.i64.wrap (tier_1 + 1))).bind fun ⟨r9, r10⟩ =>
 some (aJ.mk g_3.Config g_3.Hashes r9))
def oN (g_0 : aJ) (tier_1 : Int) (v_2 : Int) : Option (aJ) :=
 ((qW g_0 tier_1 v_2).bind fun r2 =>
 ((qW g_0 (IntKind.i64.wrap (tier_1 + 1)) v_2).bind fun r4 =>
 (bif ((r2.length : Int) != (r4.length : Int)) then
  some g_0
 else
  ((sE g_0 tier_1 v_2).bind fun ⟨r6, r7⟩ =>
  (bif (!r7) then
   some g_0
  else
   (bif (r6.Tier == 0) then
    ((fQ g_0.Config.N g_0.Edges g_0.Config.L).bind fun r12 =>
    ((yN g_0.Config.N r12 r6.U r6.V).bind fun ⟨r14, r15⟩ =>
    ((pS r14).bind fun ⟨r17, r18⟩ =>
    (bif (r18 && (r15 == 0)) then
     ((vT g_0.Config.N g_0.Edges r17.U r17.V 0).bind fun ⟨r20, r21⟩ =>
     kQ tier_1 (aJ.mk g_0.Config g_0.Hashes r20) (aJ.mk (aZ.mk 0 0 0) [] []) r6 g_0.Config.N)
    else
     kQ tier_1 g_0 (aJ.mk (aZ.mk 0 0 0) [] []) r6 g_0.Config.N))))
   else
    kQ tier_1 g_0 (aJ.mk (aZ.mk 0 0 0) [] []) r6 g_0.Config.N))))))
theorem zL {g_0 : aJ} {tier_1 : Int} {v_2 : Int} {r : aJ} (hm : oN g_0 tier_1 v_2 = some r) : aT Tryz.prog 141 [.agg [.v (.int .i64 g_0.Config.N), .v (.int .i64 g_0.Config.L), .v (.int .i64 g_0.Config.R), .sl (g_0.Hashes.flatMap bA) g_0.Hashes.length false, .sl (g_0.Edges.flatMap aL) g_0.Edges.length false], .v (.int .i64 tier_1), .v (.int .i64 v_2)] (.agg [.v (.int .i64 r.Config.N), .v (.int .i64 r.Config.L), .v (.int .i64 r.Config.R), .sl (r.Hashes.flatMap bA) r.Hashes.length false, .sl (r.Edges.flatMap aL) r.Edges.length false]) := by
 refine aT.of_body Tryz.func141 rfl ?_
 simp only [Tryz.ntmps141, List.length_cons, List.length_nil, Nat.reduceAdd, Nat.reduceSub, aQ]
 unfold oN at hm
 refine sr (N' := 64) rfl ?_
 refine hp (id := 0) rfl rfl (bO Z1 Z5) ?_
 refine hp (id := 1) rfl rfl (aY aN6 Z5) ?_
 refine fs ?_
 refine AWp.seq' ?_
 refine sd mix (by kernel_rfl) (N' := 128) rfl ?_
 refine pu rfl (aD Z1 Z3 Z2) ?_
 iterate 2 refine pA ?_
 obtain ⟨r2, h1, hm⟩ := bnd hm
 refine aE.callQ (r := .sl (r2.flatMap (ci .i64)) r2.length false) Zd Z1 aYr (fun H => (cD (.agg _ (cB.dat _)) (cV (cV .nil)))) (aBg h1) ?_
 refine pA ?_
 refine pu rfl (aD Z1 Z3 Z2) ?_
 iterate 3 refine pA ?_
 obtain ⟨r4, h3, hm⟩ := bnd hm
 refine aE.callQ (r := .sl (r4.flatMap (ci .i64)) r4.length false) Zd Z1 aYr (fun H => (cD (.agg _ (cB.dat _)) (cV (cV .nil)))) (aBg h3) ?_
 iterate 2 refine pA ?_
 refine fs ?_
 refine AWp.condM hm Z1 (fun _ hm => ?_) (fun _ hm => ?_)
 ·
  refine sr (N' := 192) rfl ?_
  refine pu rfl (aD Z1 Z3 Z2) ?_
  refine aE.heap0 (id := 129) rfl (bG (ys := [.v (.int .i64 g_0.Config.N), .v (.int .i64 g_0.Config.L), .v (.int .i64 g_0.Config.R), .sl (g_0.Hashes.flatMap bA) g_0.Hashes.length false, .sl (g_0.Edges.flatMap aL) g_0.Edges.length false]) wH Z1 Z1 Z3 rfl (Nat.le_of_ble_eq_true rfl) Z9 rfl) ?_
  refine fs ?_
  refine AWp.ret ?_
  refine bB ?_
  cases hm
  exact fK (.inr rfl) (by rw [Tryz.results141]) (.cell (cG Z1 Z3 Z2) .nil) rfl (td rfl (.agg _ (cB.dat _)))
 ·
  refine AWp.skip ?_
  refine aF ?_
  refine sr (N' := 192) rfl ?_
  refine pu rfl (aD Z1 Z3 Z2) ?_
  iterate 2 refine pA ?_
  obtain ⟨⟨r6, r7⟩, h5, hm⟩ := bnd hm
  refine aE.callQ (r := .tup [.agg [.v (.int .i64 r6.U), .v (.int .i64 r6.V), .v (.int .i64 r6.Tier)], .v (.bool r7)]) Zd Z1 bFa (fun H => (cD (.agg _ (cB.dat _)) (cV (cV .nil)))) (aF5 h5) ?_
  iterate 3 refine pA ?_
  refine hp (id := 135) rfl rfl (aY jI Z5) ?_
  refine aE.heap0 (id := 136) rfl (bG (ys := [.v (.int .i64 r6.U), .v (.int .i64 r6.V), .v (.int .i64 r6.Tier)]) dQ Z1 Z1 Z3 rfl (Nat.le_of_ble_eq_true rfl) Z9 rfl) ?_
  refine pA ?_
  refine fs ?_
  refine AWp.seq' ?_
  refine sr (N' := 256) rfl ?_
  iterate 2 refine pA ?_
  refine fs ?_
  refine AWp.condM hm Z1 (fun _ hm => ?_) (fun _ hm => ?_)
  ·
   refine sr (N' := 320) rfl ?_
   refine pu rfl (aD Z1 Z3 Z2) ?_
   refine aE.heap0 (id := 257) rfl (bG (ys := [.v (.int .i64 g_0.Config.N), .v (.int .i64 g_0.Config.L), .v (.int .i64 g_0.Config.R), .sl (g_0.Hashes.flatMap bA) g_0.Hashes.length false, .sl (g_0.Edges.flatMap aL) g_0.Edges.length false]) wH Z1 Z1 Z3 rfl (Nat.le_of_ble_eq_true rfl) Z9 rfl) ?_
   refine fs ?_
   refine AWp.ret ?_
   refine bB ?_
   cases hm
   exact fK (.inr rfl) (by rw [Tryz.results141]) (.cell (cG Z1 Z3 Z2) .nil) rfl (td rfl (.agg _ (cB.dat _)))
  ·
   refine AWp.skip ?_
   refine aF ?_
   refine sr (N' := 320) rfl ?_
   iterate 2 refine pA ?_
   refine pu rfl (aD Z1 Z3 Z4) ?_
   refine pA ?_
   refine fs ?_
   refine AWp.seqJ (fun s => ∃ (tier_1 : Int) (g_3 : aJ) (t6 : aJ) (e_7 : aC) (n_9 : Int), s = (⟨98, (aK (aK (aK (aK (aK (fun _ => AV.any) 1 (.v (.int .i64 tier_1))) 3 (.adr 1 0)) 6 (.adr 2 0)) 7 (.adr 3 0)) 9 (.v (.int .i64 n_9))), ⟨(upd (upd (upd bL 1 (.cells 1 [.v (.int .i64 g_3.Config.N), .v (.int .i64 g_3.Config.L), .v (.int .i64 g_3.Config.R), .sl (g_3.Hashes.flatMap bA) g_3.Hashes.length false, .sl (g_3.Edges.flatMap aL) g_3.Edges.length false] 0)) 2 (.cells 1 [.v (.int .i64 t6.Config.N), .v (.int .i64 t6.Config.L), .v (.int .i64 t6.Config.R), .sl (t6.Hashes.flatMap bA) t6.Hashes.length false, .sl (t6.Edges.flatMap aL) t6.Edges.length false] 0)) 3 (.cells 1 [.v (.int .i64 e_7.U), .v (.int .i64 e_7.V), .v (.int .i64 e_7.Tier)] 0)), 64⟩⟩ : St) ∧ kQ tier_1 g_3 t6 e_7 n_9 = some r) ?_ ?_
   ·
    refine sr (N' := 384) rfl ?_
    refine pA ?_
    refine pu rfl (aD Z1 Z3 Z4) ?_
    refine pA ?_
    refine fs ?_
    refine AWp.condM hm Z1 (fun _ hm => ?_) (fun _ hm => ?_)
    ·
     refine sr (N' := 448) rfl ?_
     iterate 2 refine pA ?_
     refine pu rfl (aD Z1 Z3 Z4) ?_
     iterate 2 refine pA ?_
     refine pu rfl (aD Z1 Z3 Z4) ?_
     obtain ⟨r12, h11, hm⟩ := bnd hm
     refine aE.callQ (r := .sl (r12.flatMap aL) r12.length false) Zd Z1 aTn (fun H => (cV (cD (aG.sl _ _ _) (cV .nil)))) (lO h11) ?_
     refine pA ?_
     refine fs ?_
     refine sr (N' := 512) rfl ?_
     iterate 3 refine pA ?_
     refine pu rfl (aD Z1 Z3 Z4) ?_
     refine pA ?_
     refine pu rfl (aD Z1 Z3 Z4) ?_
     obtain ⟨⟨r14, r15⟩, h13, hm⟩ := bnd hm
     refine aE.callQ (r := .tup [.sl (r14.flatMap aL) r14.length false, .v (.int .i64 r15)]) Zd Z1 bCs (fun H => (cV (cD (aG.sl _ _ _) (cV (cV .nil))))) (aK2 h13) ?_
     iterate 5 refine pA ?_
     refine fs ?_
     refine sr (N' := 576) rfl ?_
     refine pA ?_
     obtain ⟨⟨r17, r18⟩, h16, hm⟩ := bnd hm
     refine aE.callQ (r := .tup [.agg [.v (.int .i64 r17.U), .v (.int .i64 r17.V), .v (.int .i64 r17.Tier)], .v (.bool r18)]) Zd Z1 bCy (fun H => (cD (aG.sl _ _ _) .nil)) (aEh h16) ?_
     iterate 3 refine pA ?_
     refine hp (id := 517) rfl rfl (aY jI Z5) ?_
     refine aE.heap0 (id := 518) rfl (bG (ys := [.v (.int .i64 r17.U), .v (.int .i64 r17.V), .v (.int .i64 r17.Tier)]) dQ Z1 Z1 Z3 rfl (Nat.le_of_ble_eq_true rfl) Z9 rfl) ?_
     refine pA ?_
     refine fs ?_
     refine sr (N' := 640) rfl ?_
     iterate 5 first | refine pA ?_ | refine pB ?_
     refine fs ?_
     refine AWp.condM hm Z1 (fun _ hm => ?_) (fun _ hm => ?_)
     ·
      refine AWp.reg 64 (N' := 704) rfl ?_
      iterate 2 refine pA ?_
      refine pu rfl (aD Z1 Z3 Z4) ?_
      refine pA ?_
      refine pu rfl (aD Z1 Z3 Z4) ?_
      refine pA ?_
      refine pu rfl (aD Z1 Z3 Z4) ?_
      obtain ⟨⟨r20, r21⟩, h19, hm⟩ := bnd hm
      refine aE.callQ (r := .tup [.sl (r20.flatMap aL) r20.length false, .v (.int .i64 r21)]) Zd Z1 aYq (fun H => (cV (cD (aG.sl _ _ _) (cV (cV (cV .nil)))))) (aF9 h19) ?_
      iterate 4 refine pA ?_
      refine aE.heap0 (id := 652) rfl (bG (ys := [.v (.int .i64 g_0.Config.N), .v (.int .i64 g_0.Config.L), .v (.int .i64 g_0.Config.R), .sl (g_0.Hashes.flatMap bA) g_0.Hashes.length false, .sl (r20.flatMap aL) r20.length false]) aJ7 Z1 Z1 Z3 rfl (Nat.le_of_ble_eq_true rfl) Z9 rfl) ?_
      refine aE.fin ?_
      refine dY ?_
      refine ⟨_, ?_, tier_1, (aJ.mk g_0.Config g_0.Hashes r20), (aJ.mk (aZ.mk 0 0 0) [] []), r6, g_0.Config.N, rfl, hm⟩
      refine St.Le.trans (gP 1 (ys := [.v (.int .i64 (((aJ.mk (aZ.mk 0 0 0) [] []).Config).N)), .v (.int .i64 (((aJ.mk (aZ.mk 0 0 0) [] []).Config).L)), .v (.int .i64 (((aJ.mk (aZ.mk 0 0 0) [] []).Config).R)), .sl (((aJ.mk (aZ.mk 0 0 0) [] []).Hashes).flatMap bA) ((aJ.mk (aZ.mk 0 0 0) [] []).Hashes).length false, .sl (((aJ.mk (aZ.mk 0 0 0) [] []).Edges).flatMap aL) ((aJ.mk (aZ.mk 0 0 0) [] []).Edges).length false]) Z3 (.cons (.data _ (.v _)) (.cons (.data _ (.v _)) (.cons (.data _ (.v _)) (.cons (.nil false) (.cons (.nil false) .nil)))))) ?_
      exact aN (fun j => bif j == 1 then 0 else bif j == 2 then 1 else bif j == 3 then 135 else 0) (wV (aX _ _ (bQ Z1 rfl Z7) (aX _ _ (bQ Z1 rfl Z7) (aX _ _ (bQ Z1 rfl Z7) (wV aU))))) (cL _ (aV (aO Z3 (Nat.le_refl _) (Nat.zero_le _) (aG.dat r6)) (aV (aO Z3 (Nat.le_refl _) (Nat.zero_le _) (cB.dat (aJ.mk (aZ.mk 0 0 0) [] []))) (aV (aO Z3 (Nat.le_refl _) (Nat.zero_le _) (cB.dat (aJ.mk g_0.Config g_0.Hashes r20))) aR))) Z8)
     ·
      refine AWp.skip ?_
      refine dY ?_
      refine ⟨_, ?_, tier_1, g_0, (aJ.mk (aZ.mk 0 0 0) [] []), r6, g_0.Config.N, rfl, hm⟩
      refine St.Le.trans (gP 1 (ys := [.v (.int .i64 (((aJ.mk (aZ.mk 0 0 0) [] []).Config).N)), .v (.int .i64 (((aJ.mk (aZ.mk 0 0 0) [] []).Config).L)), .v (.int .i64 (((aJ.mk (aZ.mk 0 0 0) [] []).Config).R)), .sl (((aJ.mk (aZ.mk 0 0 0) [] []).Hashes).flatMap bA) ((aJ.mk (aZ.mk 0 0 0) [] []).Hashes).length false, .sl (((aJ.mk (aZ.mk 0 0 0) [] []).Edges).flatMap aL) ((aJ.mk (aZ.mk 0 0 0) [] []).Edges).length false]) Z3 (.cons (.data _ (.v _)) (.cons (.data _ (.v _)) (.cons (.data _ (.v _)) (.cons (.nil false) (.cons (.nil false) .nil)))))) ?_
      exact aN (fun j => bif j == 1 then 0 else bif j == 2 then 1 else bif j == 3 then 135 else 0) (wV (aX _ _ (bQ Z1 rfl Z7) (aX _ _ (bQ Z1 rfl Z7) (aX _ _ (bQ Z1 rfl Z7) (wV aU))))) (cL _ (aV (aO Z3 (Nat.le_refl _) (Nat.zero_le _) (aG.dat r6)) (aV (aO Z3 (Nat.le_refl _) (Nat.zero_le _) (cB.dat (aJ.mk (aZ.mk 0 0 0) [] []))) (aV (aO Z3 (Nat.le_refl _) (Nat.zero_le _) (cB.dat g_0)) aR))) Z8)
    ·
     refine AWp.skip ?_
     refine dY ?_
     refine ⟨_, ?_, tier_1, g_0, (aJ.mk (aZ.mk 0 0 0) [] []), r6, g_0.Config.N, rfl, hm⟩
     refine St.Le.trans (gP 1 (ys := [.v (.int .i64 (((aJ.mk (aZ.mk 0 0 0) [] []).Config).N)), .v (.int .i64 (((aJ.mk (aZ.mk 0 0 0) [] []).Config).L)), .v (.int .i64 (((aJ.mk (aZ.mk 0 0 0) [] []).Config).R)), .sl (((aJ.mk (aZ.mk 0 0 0) [] []).Hashes).flatMap bA) ((aJ.mk (aZ.mk 0 0 0) [] []).Hashes).length false, .sl (((aJ.mk (aZ.mk 0 0 0) [] []).Edges).flatMap aL) ((aJ.mk (aZ.mk 0 0 0) [] []).Edges).length false]) Z3 (.cons (.data _ (.v _)) (.cons (.data _ (.v _)) (.cons (.data _ (.v _)) (.cons (.nil false) (.cons (.nil false) .nil)))))) ?_
     exact aN (fun j => bif j == 1 then 0 else bif j == 2 then 1 else bif j == 3 then 135 else 0) (wV (aX _ _ (bQ Z1 rfl Z7) (aX _ _ (bQ Z1 rfl Z7) (aX _ _ (bQ Z1 rfl Z7) (wV aU))))) (cL _ (aV (aO Z3 (Nat.le_refl _) (Nat.zero_le _) (aG.dat r6)) (aV (aO Z3 (Nat.le_refl _) (Nat.zero_le _) (cB.dat (aJ.mk (aZ.mk 0 0 0) [] []))) (aV (aO Z3 (Nat.le_refl _) (Nat.zero_le _) (cB.dat g_0)) aR))) Z8)
   ·
    rintro s ⟨tier_1, g_3, t6, e_7, n_9, rfl, hm⟩
    unfold kQ at hm
    refine sr (N' := 128) rfl ?_
    iterate 2 refine pA ?_
    refine pu rfl (aD Z1 Z3 Z4) ?_
    refine pA ?_
    refine pu rfl (aD Z1 Z3 Z4) ?_
    refine pA ?_
    refine pu rfl (aD Z1 Z3 Z4) ?_
    iterate 2 refine pA ?_
    obtain ⟨⟨r9, r10⟩, h8, hm⟩ := bnd hm
    refine aE.callQ (r := .tup [.sl (r9.flatMap aL) r9.length false, .v (.int .i64 r10)]) Zd Z1 aYq (fun H => (cV (cD (aG.sl _ _ _) (cV (cV (cV .nil)))))) (aF9 h8) ?_
    iterate 4 refine pA ?_
    refine aE.heap0 (id := 78) rfl (bG (ys := [.v (.int .i64 g_3.Config.N), .v (.int .i64 g_3.Config.L), .v (.int .i64 g_3.Config.R), .sl (g_3.Hashes.flatMap bA) g_3.Hashes.length false, .sl (r9.flatMap aL) r9.length false]) aJ7 Z1 Z1 Z3 rfl (Nat.le_of_ble_eq_true rfl) Z9 rfl) ?_
    refine fs ?_
    refine sr (N' := 192) rfl ?_
    refine pu rfl (aD Z1 Z3 Z2) ?_
    refine aE.heap0 (id := 129) rfl (bG (ys := [.v (.int .i64 g_3.Config.N), .v (.int .i64 g_3.Config.L), .v (.int .i64 g_3.Config.R), .sl (g_3.Hashes.flatMap bA) g_3.Hashes.length false, .sl (r9.flatMap aL) r9.length false]) wH Z1 Z1 Z3 rfl (Nat.le_of_ble_eq_true rfl) Z9 rfl) ?_
    refine fs ?_
    refine AWp.ret ?_
    cases hm
    exact fK (.inr rfl) (by rw [Tryz.results141]) (.cell (cG Z1 Z3 Z2) .nil) rfl (td rfl (.agg _ (cB.dat (aJ.mk g_3.Config g_3.Hashes r9))))
def rN (rec1 : Int → Int → aJ → aJ → Int → Int → Option (aJ)) (u_1 : Int) (v_2 : Int) (g_3 : aJ) (t6 : aJ) (t10 : Int) (t11 : Int) : Option (aJ) :=
 (bif (decide (t11 < t10)) then
  ((oN g_3 t11 u_1).bind fun r2 =>
  ((oN r2 t11 v_2).bind fun r4 =>
  rec1 u_1 v_2 r4 t6 t10 (IntKind.i64.wrap (t11 + 1))))
 else
  some g_3)
def nI : Nat → Int → Int → aJ → aJ → Int → Int → Option (aJ)
 | 0 => fun _ _ _ _ _ _ => none
 | n + 1 => rN (nI n)
def oS (g_0 : aJ) (u_1 : Int) (v_2 : Int) : Option (aJ) :=
 nI bY u_1 v_2 g_0 (aJ.mk (aZ.mk 0 0 0) [] []) g_0.Config.L 0
theorem zT {g_0 : aJ} {u_1 : Int} {v_2 : Int} {r : aJ} (hm : oS g_0 u_1 v_2 = some r) : aT Tryz.prog 117 [.agg [.v (.int .i64 g_0.Config.N), .v (.int .i64 g_0.Config.L), .v (.int .i64 g_0.Config.R), .sl (g_0.Hashes.flatMap bA) g_0.Hashes.length false, .sl (g_0.Edges.flatMap aL) g_0.Edges.length false], .v (.int .i64 u_1), .v (.int .i64 v_2)] (.agg [.v (.int .i64 r.Config.N), .v (.int .i64 r.Config.L), .v (.int .i64 r.Config.R), .sl (r.Hashes.flatMap bA) r.Hashes.length false, .sl (r.Edges.flatMap aL) r.Edges.length false]) := by
 refine aT.of_body Tryz.func117 rfl ?_
 simp only [Tryz.ntmps117, List.length_cons, List.length_nil, Nat.reduceAdd, Nat.reduceSub, aQ]
 unfold oS at hm
 refine sr (N' := 64) rfl ?_
 refine hp (id := 0) rfl rfl (bO Z1 Z5) ?_
 refine hp (id := 1) rfl rfl (aY aN6 Z5) ?_
 refine fs ?_
 refine AWp.seq' ?_
 refine sr (N' := 128) rfl ?_
 iterate 2 refine pA ?_
 refine pu rfl (aD Z1 Z3 Z4) ?_
 refine pA ?_
 refine fs ?_
 refine AWp.block ?_
 refine AWp.loopM (fun m s => ∃ (u_1 : Int) (v_2 : Int) (g_3 : aJ) (t6 : aJ) (t10 : Int) (t11 : Int), s = (⟨24, (aK (aK (aK (aK (aK (aK (fun _ => AV.any) 1 (.v (.int .i64 u_1))) 2 (.v (.int .i64 v_2))) 3 (.adr 1 0)) 6 (.adr 2 0)) 10 (.v (.int .i64 t10))) 11 (.v (.int .i64 t11))), ⟨(upd (upd bL 1 (.cells 1 [.v (.int .i64 g_3.Config.N), .v (.int .i64 g_3.Config.L), .v (.int .i64 g_3.Config.R), .sl (g_3.Hashes.flatMap bA) g_3.Hashes.length false, .sl (g_3.Edges.flatMap aL) g_3.Edges.length false] 0)) 2 (.cells 1 [.v (.int .i64 t6.Config.N), .v (.int .i64 t6.Config.L), .v (.int .i64 t6.Config.R), .sl (t6.Hashes.flatMap bA) t6.Hashes.length false, .sl (t6.Edges.flatMap aL) t6.Edges.length false] 0)), 64⟩⟩ : St) ∧ nI m u_1 v_2 g_3 t6 t10 t11 = some r) bY ?_ ?_ ?_
 ·
  rintro s ⟨_, _, _, _, _, _, _, h⟩
  cases h
 ·
  refine ⟨_, ?_, u_1, v_2, g_0, (aJ.mk (aZ.mk 0 0 0) [] []), g_0.Config.L, 0, rfl, hm⟩
  refine St.Le.trans (gP 1 (ys := [.v (.int .i64 (((aJ.mk (aZ.mk 0 0 0) [] []).Config).N)), .v (.int .i64 (((aJ.mk (aZ.mk 0 0 0) [] []).Config).L)), .v (.int .i64 (((aJ.mk (aZ.mk 0 0 0) [] []).Config).R)), .sl (((aJ.mk (aZ.mk 0 0 0) [] []).Hashes).flatMap bA) ((aJ.mk (aZ.mk 0 0 0) [] []).Hashes).length false, .sl (((aJ.mk (aZ.mk 0 0 0) [] []).Edges).flatMap aL) ((aJ.mk (aZ.mk 0 0 0) [] []).Edges).length false]) Z3 (.cons (.data _ (.v _)) (.cons (.data _ (.v _)) (.cons (.data _ (.v _)) (.cons (.nil false) (.cons (.nil false) .nil)))))) ?_
  exact aN (fun j => bif j == 1 then 0 else bif j == 2 then 1 else 0) (wV (wV (aX _ _ (bQ Z1 rfl Z7) (aX _ _ (bQ Z1 rfl Z7) (wV (wV aU)))))) (cL _ (aV (aO Z3 (Nat.le_refl _) (Nat.zero_le _) (cB.dat (aJ.mk (aZ.mk 0 0 0) [] []))) (aV (aO Z3 (Nat.le_refl _) (Nat.zero_le _) (cB.dat g_0)) aR)) Z8)
 ·
  rintro n1 s ⟨u_1, v_2, g_3, t6, t10, t11, rfl, hm⟩
  replace hm : rN (nI n1) u_1 v_2 g_3 t6 t10 t11 = some r := hm
  unfold rN at hm
  refine sr (N' := 128) rfl ?_
  refine pA ?_
  refine fs ?_
  refine AWp.seq' ?_
  refine AWp.condM hm Z1 (fun _ hm => ?_) (fun _ hm => ?_)
  ·
   refine AWp.skip ?_
   refine aF ?_
   refine AWp.seq' ?_
   refine AWp.block ?_
   refine sr (N' := 192) rfl ?_
   iterate 2 refine pA ?_
   refine fs ?_
   refine sr (N' := 256) rfl ?_
   refine pu rfl (aD Z1 Z3 Z2) ?_
   iterate 2 refine pA ?_
   obtain ⟨r2, h1, hm⟩ := bnd hm
   refine aE.callQ (r := .agg [.v (.int .i64 r2.Config.N), .v (.int .i64 r2.Config.L), .v (.int .i64 r2.Config.R), .sl (r2.Hashes.flatMap bA) r2.Hashes.length false, .sl (r2.Edges.flatMap aL) r2.Edges.length false]) Zd Z1 aYi (fun H => (cD (.agg _ (cB.dat _)) (cV (cV .nil)))) (zL h1) ?_
   refine aE.heap0 (id := 196) rfl (bG (ys := [.v (.int .i64 r2.Config.N), .v (.int .i64 r2.Config.L), .v (.int .i64 r2.Config.R), .sl (r2.Hashes.flatMap bA) r2.Hashes.length false, .sl (r2.Edges.flatMap aL) r2.Edges.length false]) wH Z1 Z1 Z3 rfl (Nat.le_of_ble_eq_true rfl) Z9 rfl) ?_
   refine fs ?_
   refine AWp.reg 64 (N' := 320) rfl ?_
   refine pu rfl (aD Z1 Z3 Z2) ?_
   iterate 2 refine pA ?_
   obtain ⟨r4, h3, hm⟩ := bnd hm
   refine aE.callQ (r := .agg [.v (.int .i64 r4.Config.N), .v (.int .i64 r4.Config.L), .v (.int .i64 r4.Config.R), .sl (r4.Hashes.flatMap bA) r4.Hashes.length false, .sl (r4.Edges.flatMap aL) r4.Edges.length false]) Zd Z1 aYi (fun H => (cD (.agg _ (cB.dat _)) (cV (cV .nil)))) (zL h3) ?_
   refine aE.heap0 (id := 260) rfl (bG (ys := [.v (.int .i64 r4.Config.N), .v (.int .i64 r4.Config.L), .v (.int .i64 r4.Config.R), .sl (r4.Hashes.flatMap bA) r4.Hashes.length false, .sl (r4.Edges.flatMap aL) r4.Edges.length false]) wH Z1 Z1 Z3 rfl (Nat.le_of_ble_eq_true rfl) Z9 rfl) ?_
   refine aE.fin ?_
   refine cA ?_
   refine aF ?_
   refine AWp.reg 64 (N' := 384) rfl ?_
   iterate 2 refine pA ?_
   refine aE.fin ?_
   refine bU ?_
   refine ⟨_, ?_, u_1, v_2, r4, t6, t10, (IntKind.i64.wrap (t11 + 1)), rfl, hm⟩
   exact aN (fun j => bif j == 1 then 1 else bif j == 2 then 2 else 0) (wV (wV (aX _ _ (bQ Z1 rfl Z7) (aX _ _ (bQ Z1 rfl Z7) (wV (wV aU)))))) (hW (aV (aO Z3 (Nat.le_refl _) (Nat.zero_le _) (cB.dat t6)) (aV (aO Z3 (Nat.le_refl _) (Nat.zero_le _) (cB.dat r4)) aR)))
  ·
   refine AWp.exit ?_
   refine cH ?_
   refine bW ?_
   refine bT ?_
   refine aF ?_
   refine sr (N' := 192) rfl ?_
   refine pu rfl (aD Z1 Z3 Z2) ?_
   refine aE.heap0 (id := 129) rfl (bG (ys := [.v (.int .i64 g_3.Config.N), .v (.int .i64 g_3.Config.L), .v (.int .i64 g_3.Config.R), .sl (g_3.Hashes.flatMap bA) g_3.Hashes.length false, .sl (g_3.Edges.flatMap aL) g_3.Edges.length false]) wH Z1 Z1 Z3 rfl (Nat.le_of_ble_eq_true rfl) Z9 rfl) ?_
   refine fs ?_
   refine AWp.ret ?_
   cases hm
   exact fK (.inr rfl) (by rw [Tryz.results117]) (.cell (cG Z1 Z3 Z2) .nil) rfl (td rfl (.agg _ (cB.dat _)))
def tU (g_0 : aJ) (u_1 : Int) (v_2 : Int) : Option (aJ × Int) :=
 ((sS g_0 u_1 v_2).bind fun r2 =>
 (bif (!r2) then
  some (g_0, 1)
 else
  ((aAs g_0.Config.N g_0.Edges u_1 v_2).bind fun ⟨r4, r5⟩ =>
  (bif (r5 != 0) then
   some (g_0, r5)
  else
   ((oS (aJ.mk g_0.Config g_0.Hashes r4) u_1 v_2).bind fun r7 =>
   some (r7, 0))))))
theorem aGs {g_0 : aJ} {u_1 : Int} {v_2 : Int} {r : aJ × Int} (hm : tU g_0 u_1 v_2 = some r) : aT Tryz.prog 85 [.agg [.v (.int .i64 g_0.Config.N), .v (.int .i64 g_0.Config.L), .v (.int .i64 g_0.Config.R), .sl (g_0.Hashes.flatMap bA) g_0.Hashes.length false, .sl (g_0.Edges.flatMap aL) g_0.Edges.length false], .v (.int .i64 u_1), .v (.int .i64 v_2)] (.tup [.agg [.v (.int .i64 r.1.Config.N), .v (.int .i64 r.1.Config.L), .v (.int .i64 r.1.Config.R), .sl (r.1.Hashes.flatMap bA) r.1.Hashes.length false, .sl (r.1.Edges.flatMap aL) r.1.Edges.length false], .v (.int .i64 r.2)]) := by
 refine aT.of_body Tryz.func85 rfl ?_
 simp only [Tryz.ntmps85, List.length_cons, List.length_nil, Nat.reduceAdd, Nat.reduceSub, aQ]
 unfold tU at hm
 refine sr (N' := 64) rfl ?_
 refine hp (id := 0) rfl rfl (bO Z1 Z5) ?_
 refine hp (id := 1) rfl rfl (aY aN6 Z5) ?_
 refine pA ?_
 refine fs ?_
 refine AWp.seq' ?_
 refine sr (N' := 128) rfl ?_
 refine pu rfl (aD Z1 Z3 Z2) ?_
 iterate 2 refine pA ?_
 obtain ⟨r2, h1, hm⟩ := bnd hm
 refine aE.callQ (r := .v (.bool r2)) Zd Z1 aZ4 (fun H => (cD (.agg _ (cB.dat _)) (cV (cV .nil)))) (aDo h1) ?_
 refine pA ?_
 refine fs ?_
 refine AWp.condM hm Z1 (fun _ hm => ?_) (fun _ hm => ?_)
 ·
  refine sr (N' := 192) rfl ?_
  refine pu rfl (aD Z1 Z3 Z2) ?_
  refine aE.heap0 (id := 129) rfl (bG (ys := [.v (.int .i64 g_0.Config.N), .v (.int .i64 g_0.Config.L), .v (.int .i64 g_0.Config.R), .sl (g_0.Hashes.flatMap bA) g_0.Hashes.length false, .sl (g_0.Edges.flatMap aL) g_0.Edges.length false]) wH Z1 Z1 Z3 rfl (Nat.le_of_ble_eq_true rfl) Z9 rfl) ?_
  refine pA ?_
  refine fs ?_
  refine AWp.ret ?_
  refine bB ?_
  cases hm
  exact fK (.inr rfl) (by rw [Tryz.results85]) (.cell (cG Z1 Z3 Z2) (.tmp Z1 .nil)) rfl (tdt (.cons (td rfl (.agg _ (cB.dat _))) (.cons (td rfl (.v _)) .nil)))
 ·
  refine AWp.skip ?_
  refine aF ?_
  refine sr (N' := 192) rfl ?_
  iterate 2 refine pA ?_
  refine pu rfl (aD Z1 Z3 Z4) ?_
  refine pA ?_
  refine pu rfl (aD Z1 Z3 Z4) ?_
  iterate 2 refine pA ?_
  obtain ⟨⟨r4, r5⟩, h3, hm⟩ := bnd hm
  refine aE.callQ (r := .tup [.sl (r4.flatMap aL) r4.length false, .v (.int .i64 r5)]) Zd Z1 bF1 (fun H => (cV (cD (aG.sl _ _ _) (cV (cV .nil))))) (aM6 h3) ?_
  iterate 5 refine pA ?_
  refine fs ?_
  refine AWp.seq' ?_
  refine sr (N' := 256) rfl ?_
  iterate 2 refine pA ?_
  refine fs ?_
  refine AWp.condM hm Z1 (fun _ hm => ?_) (fun _ hm => ?_)
  ·
   refine sr (N' := 320) rfl ?_
   refine pu rfl (aD Z1 Z3 Z2) ?_
   refine pA ?_
   refine aE.heap0 (id := 258) rfl (bG (ys := [.v (.int .i64 g_0.Config.N), .v (.int .i64 g_0.Config.L), .v (.int .i64 g_0.Config.R), .sl (g_0.Hashes.flatMap bA) g_0.Hashes.length false, .sl (g_0.Edges.flatMap aL) g_0.Edges.length false]) wH Z1 Z1 Z3 rfl (Nat.le_of_ble_eq_true rfl) Z9 rfl) ?_
   refine pA ?_
   refine fs ?_
   refine AWp.ret ?_
   refine bB ?_
   cases hm
   exact fK (.inr rfl) (by rw [Tryz.results85]) (.cell (cG Z1 Z3 Z2) (.tmp Z1 .nil)) rfl (tdt (.cons (td rfl (.agg _ (cB.dat _))) (.cons (td rfl (.v _)) .nil)))
  ·
   refine AWp.skip ?_
   refine aF ?_
   refine sr (N' := 320) rfl ?_
   iterate 2 refine pA ?_
   refine aE.heap0 (id := 258) rfl (bG (ys := [.v (.int .i64 g_0.Config.N), .v (.int .i64 g_0.Config.L), .v (.int .i64 g_0.Config.R), .sl (g_0.Hashes.flatMap bA) g_0.Hashes.length false, .sl (r4.flatMap aL) r4.length false]) aJ7 Z1 Z1 Z3 rfl (Nat.le_of_ble_eq_true rfl) Z9 rfl) ?_
   refine fs ?_
   refine sr (N' := 384) rfl ?_
   refine pu rfl (aD Z1 Z3 Z2) ?_
   iterate 2 refine pA ?_
   obtain ⟨r7, h6, hm⟩ := bnd hm
   refine aE.callQ (r := .agg [.v (.int .i64 r7.Config.N), .v (.int .i64 r7.Config.L), .v (.int .i64 r7.Config.R), .sl (r7.Hashes.flatMap bA) r7.Hashes.length false, .sl (r7.Edges.flatMap aL) r7.Edges.length false]) Zd Z1 aZd (fun H => (.cons (td Z1 (.agg _ (cB.dat (aJ.mk g_0.Config g_0.Hashes r4)))) (cV (cV .nil)))) (zT h6) ?_
   refine aE.heap0 (id := 324) rfl (bG (ys := [.v (.int .i64 r7.Config.N), .v (.int .i64 r7.Config.L), .v (.int .i64 r7.Config.R), .sl (r7.Hashes.flatMap bA) r7.Hashes.length false, .sl (r7.Edges.flatMap aL) r7.Edges.length false]) wH Z1 Z1 Z3 rfl (Nat.le_of_ble_eq_true rfl) Z9 rfl) ?_
   refine pA ?_
   refine fs ?_
   refine AWp.ret ?_
   cases hm
   exact fK (.inr rfl) (by rw [Tryz.results85]) (.cell (cG Z1 Z3 Z2) (.tmp Z1 .nil)) rfl (tdt (.cons (td rfl (.agg _ (cB.dat _))) (.cons (td rfl (.v _)) .nil)))
def tW (g_0 : aJ) (u_1 : Int) (v_2 : Int) : Option (aJ × Int) :=
 ((sS g_0 u_1 v_2).bind fun r2 =>
 (bif (!r2) then
  some (g_0, 1)
 else
  ((uE g_0.Config.N g_0.Edges u_1 v_2).bind fun ⟨r4, r5⟩ =>
  (bif (r5 != 0) then
   some (g_0, r5)
  else
   ((oS (aJ.mk g_0.Config g_0.Hashes r4) u_1 v_2).bind fun r7 =>
   some (r7, 0))))))
theorem aGm {g_0 : aJ} {u_1 : Int} {v_2 : Int} {r : aJ × Int} (hm : tW g_0 u_1 v_2 = some r) : aT Tryz.prog 86 [.agg [.v (.int .i64 g_0.Config.N), .v (.int .i64 g_0.Config.L), .v (.int .i64 g_0.Config.R), .sl (g_0.Hashes.flatMap bA) g_0.Hashes.length false, .sl (g_0.Edges.flatMap aL) g_0.Edges.length false], .v (.int .i64 u_1), .v (.int .i64 v_2)] (.tup [.agg [.v (.int .i64 r.1.Config.N), .v (.int .i64 r.1.Config.L), .v (.int .i64 r.1.Config.R), .sl (r.1.Hashes.flatMap bA) r.1.Hashes.length false, .sl (r.1.Edges.flatMap aL) r.1.Edges.length false], .v (.int .i64 r.2)]) := by
 refine aT.of_body Tryz.func86 rfl ?_
 simp only [Tryz.ntmps86, List.length_cons, List.length_nil, Nat.reduceAdd, Nat.reduceSub, aQ]
 unfold tW at hm
 refine sr (N' := 64) rfl ?_
 refine hp (id := 0) rfl rfl (bO Z1 Z5) ?_
 refine hp (id := 1) rfl rfl (aY aN6 Z5) ?_
 refine pA ?_
 refine fs ?_
 refine AWp.seq' ?_
 refine sr (N' := 128) rfl ?_
 refine pu rfl (aD Z1 Z3 Z2) ?_
 iterate 2 refine pA ?_
 obtain ⟨r2, h1, hm⟩ := bnd hm
 refine aE.callQ (r := .v (.bool r2)) Zd Z1 aZ4 (fun H => (cD (.agg _ (cB.dat _)) (cV (cV .nil)))) (aDo h1) ?_
 refine pA ?_
 refine fs ?_
 refine AWp.condM hm Z1 (fun _ hm => ?_) (fun _ hm => ?_)
 ·
  refine sr (N' := 192) rfl ?_
  refine pu rfl (aD Z1 Z3 Z2) ?_
  refine aE.heap0 (id := 129) rfl (bG (ys := [.v (.int .i64 g_0.Config.N), .v (.int .i64 g_0.Config.L), .v (.int .i64 g_0.Config.R), .sl (g_0.Hashes.flatMap bA) g_0.Hashes.length false, .sl (g_0.Edges.flatMap aL) g_0.Edges.length false]) wH Z1 Z1 Z3 rfl (Nat.le_of_ble_eq_true rfl) Z9 rfl) ?_
  refine pA ?_
  refine fs ?_
  refine AWp.ret ?_
  refine bB ?_
  cases hm
  exact fK (.inr rfl) (by rw [Tryz.results86]) (.cell (cG Z1 Z3 Z2) (.tmp Z1 .nil)) rfl (tdt (.cons (td rfl (.agg _ (cB.dat _))) (.cons (td rfl (.v _)) .nil)))
 ·
  refine AWp.skip ?_
  refine aF ?_
  refine sr (N' := 192) rfl ?_
  iterate 2 refine pA ?_
  refine pu rfl (aD Z1 Z3 Z4) ?_
  refine pA ?_
  refine pu rfl (aD Z1 Z3 Z4) ?_
  iterate 2 refine pA ?_
  obtain ⟨⟨r4, r5⟩, h3, hm⟩ := bnd hm
  refine aE.callQ (r := .tup [.sl (r4.flatMap aL) r4.length false, .v (.int .i64 r5)]) Zd Z1 bE6 (fun H => (cV (cD (aG.sl _ _ _) (cV (cV .nil))))) (aH2 h3) ?_
  iterate 5 refine pA ?_
  refine fs ?_
  refine AWp.seq' ?_
  refine sr (N' := 256) rfl ?_
  iterate 2 refine pA ?_
  refine fs ?_
  refine AWp.condM hm Z1 (fun _ hm => ?_) (fun _ hm => ?_)
  ·
   refine sr (N' := 320) rfl ?_
   refine pu rfl (aD Z1 Z3 Z2) ?_
   refine pA ?_
   refine aE.heap0 (id := 258) rfl (bG (ys := [.v (.int .i64 g_0.Config.N), .v (.int .i64 g_0.Config.L), .v (.int .i64 g_0.Config.R), .sl (g_0.Hashes.flatMap bA) g_0.Hashes.length false, .sl (g_0.Edges.flatMap aL) g_0.Edges.length false]) wH Z1 Z1 Z3 rfl (Nat.le_of_ble_eq_true rfl) Z9 rfl) ?_
   refine pA ?_
   refine fs ?_
   refine AWp.ret ?_
   refine bB ?_
   cases hm
   exact fK (.inr rfl) (by rw [Tryz.results86]) (.cell (cG Z1 Z3 Z2) (.tmp Z1 .nil)) rfl (tdt (.cons (td rfl (.agg _ (cB.dat _))) (.cons (td rfl (.v _)) .nil)))
  ·
   refine AWp.skip ?_
   refine aF ?_
   refine sr (N' := 320) rfl ?_
   iterate 2 refine pA ?_
   refine aE.heap0 (id := 258) rfl (bG (ys := [.v (.int .i64 g_0.Config.N), .v (.int .i64 g_0.Config.L), .v (.int .i64 g_0.Config.R), .sl (g_0.Hashes.flatMap bA) g_0.Hashes.length false, .sl (r4.flatMap aL) r4.length false]) aJ7 Z1 Z1 Z3 rfl (Nat.le_of_ble_eq_true rfl) Z9 rfl) ?_
   refine fs ?_
   refine sr (N' := 384) rfl ?_
   refine pu rfl (aD Z1 Z3 Z2) ?_
   iterate 2 refine pA ?_
   obtain ⟨r7, h6, hm⟩ := bnd hm
   refine aE.callQ (r := .agg [.v (.int .i64 r7.Config.N), .v (.int .i64 r7.Config.L), .v (.int .i64 r7.Config.R), .sl (r7.Hashes.flatMap bA) r7.Hashes.length false, .sl (r7.Edges.flatMap aL) r7.Edges.length false]) Zd Z1 aZd (fun H => (.cons (td Z1 (.agg _ (cB.dat (aJ.mk g_0.Config g_0.Hashes r4)))) (cV (cV .nil)))) (zT h6) ?_
   refine aE.heap0 (id := 324) rfl (bG (ys := [.v (.int .i64 r7.Config.N), .v (.int .i64 r7.Config.L), .v (.int .i64 r7.Config.R), .sl (r7.Hashes.flatMap bA) r7.Hashes.length false, .sl (r7.Edges.flatMap aL) r7.Edges.length false]) wH Z1 Z1 Z3 rfl (Nat.le_of_ble_eq_true rfl) Z9 rfl) ?_
   refine pA ?_
   refine fs ?_
   refine AWp.ret ?_
   cases hm
   exact fK (.inr rfl) (by rw [Tryz.results86]) (.cell (cG Z1 Z3 Z2) (.tmp Z1 .nil)) rfl (tdt (.cons (td rfl (.agg _ (cB.dat _))) (.cons (td rfl (.v _)) .nil)))
end Go.Proofs.YtkdohhmacfoolaaGreat
