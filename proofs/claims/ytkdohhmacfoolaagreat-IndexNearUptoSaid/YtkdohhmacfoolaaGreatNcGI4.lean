/- Facts that the statement's proof is made of. No condition. -/
import Derived.Test.YtkdohhmacfoolaaGreatNcGI3
import Derived.Test.YtkdohhmacfoolaaGreatNcPl
set_option linter.unusedVariables false
set_option linter.unusedSimpArgs false
set_option maxRecDepth 20000
set_option maxHeartbeats 4000000
namespace Go.Proofs.YtkdohhmacfoolaaGreat
open Go Go.AM
theorem aY7 (i o : Nat) : aI Tryz.prog 23 (.adr i o) 0 = some (.adr i (o + 0)) := by kernel_rfl
attribute [go_sem] aY7
theorem aZ6 (i o : Nat) : aI Tryz.prog 42 (.adr i o) 1 = some (.adr i (o + 1)) := by kernel_rfl
attribute [go_sem] aZ6
theorem aZj (i o : Nat) : aI Tryz.prog 42 (.adr i o) 2 = some (.adr i (o + 2)) := by kernel_rfl
attribute [go_sem] aZj
theorem bA1 (i o : Nat) : aI Tryz.prog 45 (.adr i o) 0 = some (.adr i (o + 0)) := by kernel_rfl
attribute [go_sem] bA1
theorem aXf (i o : Nat) : aI Tryz.prog 45 (.adr i o) 1 = some (.adr i (o + 1)) := by kernel_rfl
attribute [go_sem] aXf
theorem aXs (i o : Nat) : aI Tryz.prog 45 (.adr i o) 2 = some (.adr i (o + 2)) := by kernel_rfl
attribute [go_sem] aXs
theorem bGq (H : aH) (x0 x1 x2 : AV) (xs : List AV) : bP Tryz.prog H 23 (.ptr (x0 :: x1 :: x2 :: xs)) = some (.agg [x0, x1, x2]) := by kernel_rfl
attribute [go_sem] bGq
theorem bDp (H : aH) (x : AV) (xs : List AV) : bP Tryz.prog H 24 (.ptr (x :: xs)) = some x := by kernel_rfl
attribute [go_sem] bDp
theorem bHv (H : aH) (x : AV) (xs : List AV) : bP Tryz.prog H 3 (.ptr (x :: xs)) = some x := by kernel_rfl
attribute [go_sem] bHv
theorem bE9 (H : aH) (x0 x1 x2 x3 x4 x5 : AV) (xs : List AV) : bP Tryz.prog H 33 (.ptr (x0 :: x1 :: x2 :: x3 :: x4 :: x5 :: xs)) = some (.agg [x0, x1, x2, x3, x4, x5]) := by kernel_rfl
attribute [go_sem] bE9
theorem bG5 (H : aH) (x : AV) (xs : List AV) : bP Tryz.prog H 40 (.ptr (x :: xs)) = some x := by kernel_rfl
attribute [go_sem] bG5
theorem bGg (H : aH) (x0 x1 x2 : AV) (xs : List AV) : bP Tryz.prog H 42 (.ptr (x0 :: x1 :: x2 :: xs)) = some (.agg [x0, x1, x2]) := by kernel_rfl
attribute [go_sem] bGg
theorem bFv (H : aH) (x : AV) (xs : List AV) : bP Tryz.prog H 43 (.ptr (x :: xs)) = some x := by kernel_rfl
attribute [go_sem] bFv
theorem bEy (H : aH) (x0 x1 x2 x3 : AV) (xs : List AV) : bP Tryz.prog H 45 (.ptr (x0 :: x1 :: x2 :: x3 :: xs)) = some (.agg [x0, x1, x2, x3]) := by kernel_rfl
attribute [go_sem] bEy
def uB (rec2 : aD → aE → Int → Int → List Int → Int → Int → Option (Bool)) (rec3 : aD → aE → Int → Int → Int → List Int → List Int → Int → Int → List Int → Int → Int → Option (Bool)) (s_8 : aD) (gO : aE) (dR : Int) (dE : Int) (tK : Int) (fX : List Int) (t88 : List Int) (t89 : Int) (t90 : Int) (t127 : List Int) (t128 : Int) (t129 : Int) : Option (Bool) :=
 rec3 s_8 gO dR dE tK fX t88 t89 t90 t127 t128 (IntKind.i64.wrap (t129 + 1))
def iP (rec2 : aD → aE → Int → Int → List Int → Int → Int → Option (Bool)) (rec3 : aD → aE → Int → Int → Int → List Int → List Int → Int → Int → List Int → Int → Int → Option (Bool)) (rec4 : aD → aE → Int → Int → Int → List Int → Int → Bool → List Int → Int → Int → List Int → Int → Int → List Int → Int → Int → Option (Bool)) (s_8 : aD) (gO : aE) (dR : Int) (dE : Int) (tK : Int) (fX : List Int) (aIr : Int) (aIh : Bool) (t88 : List Int) (t89 : Int) (t90 : Int) (t127 : List Int) (t128 : Int) (t129 : Int) (t133 : List Int) (t134 : Int) (t135 : Int) : Option (Bool) :=
 (bif (decide (t135 < t134)) then
  ((idx t133 t135).bind fun x37 =>
  rec4 s_8 gO dR dE tK fX aIr (aIh || (x37 == aIr)) t88 t89 t90 t127 t128 t129 t133 t134 (IntKind.i64.wrap (t135 + 1)))
 else
  ((dU s_8 (bF.mk 5 tK aIr ⟨#[]⟩)).bind fun ⟨r39, r40⟩ =>
  ((dU s_8 (bF.mk 5 aIr tK ⟨#[]⟩)).bind fun ⟨r42, r43⟩ =>
  ((uE r40 aIh).bind fun r45 =>
  ((fF ((!r45) == false) false (uE r43 aIh)).bind fun r47 =>
  (bif ((!r45) || (!r47)) then
   some false
  else
   (bif aIh then
    uB rec2 rec3 s_8 gO dR (IntKind.i64.wrap (dE + 1)) tK fX t88 t89 t90 t127 t128 t129
   else
    uB rec2 rec3 s_8 gO dR dE tK fX t88 t89 t90 t127 t128 t129)))))))
def iM (rec2 : aD → aE → Int → Int → List Int → Int → Int → Option (Bool)) (rec3 : aD → aE → Int → Int → Int → List Int → List Int → Int → Int → List Int → Int → Int → Option (Bool)) : Nat → aD → aE → Int → Int → Int → List Int → Int → Bool → List Int → Int → Int → List Int → Int → Int → List Int → Int → Int → Option (Bool)
 | 0 => fun _ _ _ _ _ _ _ _ _ _ _ _ _ _ _ _ _ => none
 | n + 1 => iP rec2 rec3 (iM rec2 rec3 n)
def aAi (rec2 : aD → aE → Int → Int → List Int → Int → Int → Option (Bool)) (rec3 : aD → aE → Int → Int → Int → List Int → List Int → Int → Int → List Int → Int → Int → Option (Bool)) (s_8 : aD) (gO : aE) (dR : Int) (dE : Int) (tK : Int) (fX : List Int) (t88 : List Int) (t89 : Int) (t90 : Int) (t127 : List Int) (t128 : Int) (t129 : Int) : Option (Bool) :=
 (bif (decide (t129 < t128)) then
  ((idx t127 t129).bind fun x35 =>
  iM rec2 rec3 bK s_8 gO dR dE tK fX x35 false t88 t89 t90 t127 t128 t129 fX (fX.length : Int) 0)
 else
  rec2 s_8 gO dR dE t88 t89 (IntKind.i64.wrap (t90 + 1)))
def iF (rec2 : aD → aE → Int → Int → List Int → Int → Int → Option (Bool)) : Nat → aD → aE → Int → Int → Int → List Int → List Int → Int → Int → List Int → Int → Int → Option (Bool)
 | 0 => fun _ _ _ _ _ _ _ _ _ _ _ _ => none
 | n + 1 => aAi rec2 (iF rec2 n)
def zY (rec2 : aD → aE → Int → Int → List Int → Int → Int → Option (Bool)) (s_8 : aD) (gO : aE) (dR : Int) (dE : Int) (t88 : List Int) (t89 : Int) (t90 : Int) : Option (Bool) :=
 (bif (decide (t90 < t89)) then
  ((idx t88 t90).bind fun x22 =>
  ((dU s_8 (bF.mk 7 x22 0 ⟨#[]⟩)).bind fun ⟨r24, r25⟩ =>
  ((bAc 24 r25).bind fun ⟨r27, r28⟩ =>
  ((dU s_8 (bF.mk 6 x22 0 ⟨#[]⟩)).bind fun ⟨r30, r31⟩ =>
  ((fF ((!r28) == false) false (xP r31 (r27.length : Int))).bind fun r33 =>
  (bif ((!r28) || (!r33)) then
   some false
  else
   iF rec2 bK s_8 gO (IntKind.i64.wrap (dR + (r27.length : Int))) dE x22 r27 t88 t89 t90 gO.Keys (gO.Keys.length : Int) 0))))))
 else
  ((fF (((dR == dE) && (dR == (IntKind.i64.wrap (2 * (gO.Pairs.length : Int))))) == true) false (pO )).bind fun r49 =>
  some (((dR == dE) && (dR == (IntKind.i64.wrap (2 * (gO.Pairs.length : Int))))) && r49)))
def eW : Nat → aD → aE → Int → Int → List Int → Int → Int → Option (Bool)
 | 0 => fun _ _ _ _ _ _ _ => none
 | n + 1 => zY (eW n)
def aA9 (rec1 : aD → aE → List bF → Int → Int → Option (Bool)) (s_8 : aD) (gO : aE) (t54 : List bF) (t55 : Int) (t56 : Int) : Option (Bool) :=
 (bif (decide (t56 < t55)) then
  ((idx t54 t56).bind fun x12 =>
  (bif ((decide (x12.Do < 1)) || (decide (4 < x12.Do))) then
   ((pO ).bind fun r14 =>
   some r14)
  else
   ((dU s_8 x12).bind fun ⟨r16, r17⟩ =>
   ((eT gO x12.Do x12.A x12.B).bind fun ⟨r19, r20⟩ =>
   rec1 r16 r19 t54 t55 (IntKind.i64.wrap (t56 + 1))))))
 else
  eW bK s_8 gO 0 0 gO.Keys (gO.Keys.length : Int) 0)
def qH : Nat → aD → aE → List bF → Int → Int → Option (Bool)
 | 0 => fun _ _ _ _ _ => none
 | n + 1 => aA9 (qH n)
def wB (c_0 : aN) (wE : List Int) (l_2 : List bF) : Option (Bool) :=
 ((rO c_0 l_2 30).bind fun r2 =>
 ((kA c_0 (bC.mk wE 0)).bind fun ⟨r4, r5, r6⟩ =>
 (bif ((decide (r2 < 0)) || (r6 != 0)) then
  ((pO ).bind fun r8 =>
  some r8)
 else
  ((slc l_2 0 r2).bind fun l10 =>
  qH bK r4 (aE.mk c_0.N [] []) l10 (l10.length : Int) 0))))
theorem aQu {c_0 : aN} {wE : List Int} {l_2 : List bF} {r : Bool} (hm : wB c_0 wE l_2 = some r) : aZ Tryz.prog 8 [.agg [vi c_0.N, vi c_0.L, vi c_0.R], vl (ci .u64) wE, vl dQ l_2] (vb r) := by
 refine bd 191 Tryz.func8 ?_
 obtain ⟨r2, h1, hm⟩ := bnd hm
 refine W ?_
 refine cq (aTu h1) ?_
 refine W ?_
 refine pu rfl (by simp only [go_sem, Nat.reduceBEq]; exact (by kernel_rfl : cL Tryz.prog 35 [(0, .sl (wE.flatMap (ci .u64)) wE.length false)] = some (.agg [.sl (wE.flatMap (ci .u64)) wE.length false, .v (.int .i64 0)]))) ?_
 obtain ⟨⟨r4, r5, r6⟩, h3, hm⟩ := bnd hm
 refine cq (aK1 h3) ?_
 refine W ?_
 refine cm hm (fun hm => ?_) fun hm => ?_
 ·
  obtain ⟨r8, h7, hm⟩ := bnd hm
  refine W ?_
  refine cq (aAb h7) ?_
  exact E
 refine W ?_
 refine pu rfl (by simp only [go_sem, Nat.reduceBEq]; exact (by kernel_rfl : cL Tryz.prog 42 [(0, .v (.int .i64 c_0.N))] = some (.agg [.v (.int .i64 c_0.N), .v (.slice none 0 0), .v (.slice none 0 0)]))) ?_
 obtain ⟨l10, h9, hm⟩ := bnd hm
 refine W ?_
 refine lp (fun m s => ∃ s_8 gO t54 t55 t56, s = ⟨191, (aF (aF (aF (aF (aF fa 8 (.adr 1 0)) 11 (.adr 2 0)) 54 (vl dQ t54)) 55 (vi t55)) 56 (vi t56)), ⟨(upd (upd aX 1 (.cells 1 [vi s_8.Graph.Config.N, vi s_8.Graph.Config.L, vi s_8.Graph.Config.R, vl bH s_8.Graph.Hashes, vl aT s_8.Graph.Edges, vl aW s_8.Slots] 0)) 2 (.cells 1 [vi gO.Most, vl (ci .u64) gO.Keys, vl bT gO.Pairs] 0)), 64⟩⟩ ∧ qH m s_8 gO t54 t55 t56 = some r) ?_ ?_
 ·
  refine ⟨_, ?_, r4, (aE.mk c_0.N [] []), l10, (l10.length : Int), 0, rfl, hm⟩
  refine St.Le.trans (aVr 54 (.sl (l10.flatMap dQ) l10.length false) (fun H => (tdf Z1 (nR.sl _ _ _)))) ?_
  refine St.Le.trans (iI 259 (ys := [.v (.int .i64 ((aE.mk c_0.N [] []).Most)), .sl (((aE.mk c_0.N [] []).Keys).flatMap (ci .u64)) ((aE.mk c_0.N [] []).Keys).length false, .sl (((aE.mk c_0.N [] []).Pairs).flatMap bT) ((aE.mk c_0.N [] []).Pairs).length false]) Z3 (.cons (.data _ (.v _)) (.cons (.nil false) (.cons (.nil false) .nil)))) ?_
  exact cn (fun j => bif j == 1 then 136 else bif j == 2 then 259 else 0)
 rintro n1 s ⟨s_8, gO, t54, t55, t56, rfl, hm⟩
 refine W ?_
 refine cm hm (fun hm => ?_) fun hm => ?_
 ·
  obtain ⟨x12, h11, hm⟩ := bnd hm
  refine W ?_
  refine cm hm (fun hm => ?_) fun hm => ?_
  ·
   obtain ⟨r14, h13, hm⟩ := bnd hm
   refine W ?_
   refine cq (aAb h13) ?_
   exact E
  refine W ?_
  obtain ⟨⟨r16, r17⟩, h15, hm⟩ := bnd hm
  refine cq (hZ h15) ?_
  refine W ?_
  obtain ⟨⟨r19, r20⟩, h18, hm⟩ := bnd hm
  refine cq (aMk h18) ?_
  refine W ?_
  exact Lr (fun j => bif j == 1 then 1 else bif j == 2 then 2 else 0)
 refine W ?_
 refine lp (fun m s => ∃ s_8 gO dR dE t88 t89 t90, s = ⟨191, (aF (aF (aF (aF (aF (aF (aF fa 8 (.adr 1 0)) 11 (.adr 2 0)) 14 (vi dR)) 15 (vi dE)) 88 (vl (ci .u64) t88)) 89 (vi t89)) 90 (vi t90)), ⟨(upd (upd aX 1 (.cells 1 [vi s_8.Graph.Config.N, vi s_8.Graph.Config.L, vi s_8.Graph.Config.R, vl bH s_8.Graph.Hashes, vl aT s_8.Graph.Edges, vl aW s_8.Slots] 0)) 2 (.cells 1 [vi gO.Most, vl (ci .u64) gO.Keys, vl bT gO.Pairs] 0)), 64⟩⟩ ∧ eW m s_8 gO dR dE t88 t89 t90 = some r) (Lr (fun j => bif j == 1 then 1 else bif j == 2 then 2 else 0)) ?_
 rintro n2 s ⟨s_8, gO, dR, dE, t88, t89, t90, rfl, hm⟩
 refine W ?_
 refine cm hm (fun hm => ?_) fun hm => ?_
 ·
  obtain ⟨x22, h21, hm⟩ := bnd hm
  refine W ?_
  refine pu rfl (by simp only [go_sem, Nat.reduceBEq]; exact (by kernel_rfl : cL Tryz.prog 45 [(0, .v (.int .i64 7)), (1, .v (.int .u64 x22))] = some (.agg [.v (.int .i64 7), .v (.int .u64 x22), .v (.int .u64 0), .v (.string ⟨#[]⟩)]))) ?_
  obtain ⟨⟨r24, r25⟩, h23, hm⟩ := bnd hm
  refine cq (hZ h23) ?_
  refine W ?_
  obtain ⟨⟨r27, r28⟩, h26, hm⟩ := bnd hm
  refine aV.pop Zd (aBb Z1 (GA.data _)) (aS9 Tryz.underlying24 bHm bIe Z1 h26) rfl ?_
  refine W ?_
  refine pu rfl (by simp only [go_sem, Nat.reduceBEq]; exact (by kernel_rfl : cL Tryz.prog 45 [(0, .v (.int .i64 6)), (1, .v (.int .u64 x22))] = some (.agg [.v (.int .i64 6), .v (.int .u64 x22), .v (.int .u64 0), .v (.string ⟨#[]⟩)]))) ?_
  obtain ⟨⟨r30, r31⟩, h29, hm⟩ := bnd hm
  refine cq (hZ h29) ?_
  obtain ⟨r33, h32, hm⟩ := bnd hm
  refine W ?_
  refine cg (fun hb => aLt (cJ h32 hb)) ?_
  refine W ?_
  refine cm hm (fun hm => ?_) fun hm => ?_
  · exact E
  refine W ?_
  refine lp (fun m s => ∃ s_8 gO dR dE tK fX t88 t89 t90 t127 t128 t129, s = ⟨191, (aF (aF (aF (aF (aF (aF (aF (aF (aF (aF (aF (aF fa 8 (.adr 1 0)) 11 (.adr 2 0)) 14 (vi dR)) 15 (vi dE)) 17 (vu tK)) 20 (vl (ci .u64) fX)) 88 (vl (ci .u64) t88)) 89 (vi t89)) 90 (vi t90)) 127 (vl (ci .u64) t127)) 128 (vi t128)) 129 (vi t129)), ⟨(upd (upd aX 1 (.cells 1 [vi s_8.Graph.Config.N, vi s_8.Graph.Config.L, vi s_8.Graph.Config.R, vl bH s_8.Graph.Hashes, vl aT s_8.Graph.Edges, vl aW s_8.Slots] 0)) 2 (.cells 1 [vi gO.Most, vl (ci .u64) gO.Keys, vl bT gO.Pairs] 0)), 64⟩⟩ ∧ iF (eW n2) m s_8 gO dR dE tK fX t88 t89 t90 t127 t128 t129 = some r) (Lr (fun j => bif j == 1 then 1 else bif j == 2 then 2 else 0)) ?_
  rintro n3 s ⟨s_8, gO, dR, dE, tK, fX, t88, t89, t90, t127, t128, t129, rfl, hm⟩
  refine W ?_
  refine cm hm (fun hm => ?_) fun hm => ?_
  ·
   refine V ?_
   refine AWp.seqJ (fun s => ∃ s_8 gO dR dE tK fX t88 t89 t90 t127 t128 t129, s = ⟨191, (aF (aF (aF (aF (aF (aF (aF (aF (aF (aF (aF (aF fa 8 (.adr 1 0)) 11 (.adr 2 0)) 14 (vi dR)) 15 (vi dE)) 17 (vu tK)) 20 (vl (ci .u64) fX)) 88 (vl (ci .u64) t88)) 89 (vi t89)) 90 (vi t90)) 127 (vl (ci .u64) t127)) 128 (vi t128)) 129 (vi t129)), ⟨(upd (upd aX 1 (.cells 1 [vi s_8.Graph.Config.N, vi s_8.Graph.Config.L, vi s_8.Graph.Config.R, vl bH s_8.Graph.Hashes, vl aT s_8.Graph.Edges, vl aW s_8.Slots] 0)) 2 (.cells 1 [vi gO.Most, vl (ci .u64) gO.Keys, vl bT gO.Pairs] 0)), 64⟩⟩ ∧ uB (eW n2) (iF (eW n2) n3) s_8 gO dR dE tK fX t88 t89 t90 t127 t128 t129 = some r) ?_ ?_
   ·
    obtain ⟨x35, h34, hm⟩ := bnd hm
    refine W ?_
    refine lp (fun m s => ∃ s_8 gO dR dE tK fX aIr aIh t88 t89 t90 t127 t128 t129 t133 t134 t135, s = ⟨191, (aF (aF (aF (aF (aF (aF (aF (aF (aF (aF (aF (aF (aF (aF (aF (aF (aF fa 8 (.adr 1 0)) 11 (.adr 2 0)) 14 (vi dR)) 15 (vi dE)) 17 (vu tK)) 20 (vl (ci .u64) fX)) 23 (vu aIr)) 24 (vb aIh)) 88 (vl (ci .u64) t88)) 89 (vi t89)) 90 (vi t90)) 127 (vl (ci .u64) t127)) 128 (vi t128)) 129 (vi t129)) 133 (vl (ci .u64) t133)) 134 (vi t134)) 135 (vi t135)), ⟨(upd (upd aX 1 (.cells 1 [vi s_8.Graph.Config.N, vi s_8.Graph.Config.L, vi s_8.Graph.Config.R, vl bH s_8.Graph.Hashes, vl aT s_8.Graph.Edges, vl aW s_8.Slots] 0)) 2 (.cells 1 [vi gO.Most, vl (ci .u64) gO.Keys, vl bT gO.Pairs] 0)), 64⟩⟩ ∧ iM (eW n2) (iF (eW n2) n3) m s_8 gO dR dE tK fX aIr aIh t88 t89 t90 t127 t128 t129 t133 t134 t135 = some r) (Lr (fun j => bif j == 1 then 1 else bif j == 2 then 2 else 0)) ?_
    rintro n4 s ⟨s_8, gO, dR, dE, tK, fX, aIr, aIh, t88, t89, t90, t127, t128, t129, t133, t134, t135, rfl, hm⟩
    refine W ?_
    refine cm hm (fun hm => ?_) fun hm => ?_
    ·
     obtain ⟨x37, h36, hm⟩ := bnd hm
     refine W ?_
     exact Lr (fun j => bif j == 1 then 1 else bif j == 2 then 2 else 0)
    refine W ?_
    refine pu rfl (by simp only [go_sem, Nat.reduceBEq]; exact (by kernel_rfl : cL Tryz.prog 45 [(0, .v (.int .i64 5)), (1, .v (.int .u64 tK)), (2, .v (.int .u64 aIr))] = some (.agg [.v (.int .i64 5), .v (.int .u64 tK), .v (.int .u64 aIr), .v (.string ⟨#[]⟩)]))) ?_
    obtain ⟨⟨r39, r40⟩, h38, hm⟩ := bnd hm
    refine cq (hZ h38) ?_
    refine W ?_
    refine pu rfl (by simp only [go_sem, Nat.reduceBEq]; exact (by kernel_rfl : cL Tryz.prog 45 [(0, .v (.int .i64 5)), (1, .v (.int .u64 aIr)), (2, .v (.int .u64 tK))] = some (.agg [.v (.int .i64 5), .v (.int .u64 aIr), .v (.int .u64 tK), .v (.string ⟨#[]⟩)]))) ?_
    obtain ⟨⟨r42, r43⟩, h41, hm⟩ := bnd hm
    refine cq (hZ h41) ?_
    obtain ⟨r45, h44, hm⟩ := bnd hm
    refine W ?_
    refine cq (aF7 h44) ?_
    obtain ⟨r47, h46, hm⟩ := bnd hm
    refine W ?_
    refine cg (fun hb => aF7 (cJ h46 hb)) ?_
    refine W ?_
    refine cm hm (fun hm => ?_) fun hm => ?_
    · exact E
    refine W ?_
    refine cm hm (fun hm => ?_) fun hm => ?_
    ·
     refine W ?_
     exact Lr (fun j => bif j == 1 then 1 else bif j == 2 then 2 else 0)
    refine W ?_
    exact Lr (fun j => bif j == 1 then 1 else bif j == 2 then 2 else 0)
   rintro s ⟨s_8, gO, dR, dE, tK, fX, t88, t89, t90, t127, t128, t129, rfl, hm⟩
   refine W ?_
   exact Lr (fun j => bif j == 1 then 1 else bif j == 2 then 2 else 0)
  refine W ?_
  exact Lr (fun j => bif j == 1 then 1 else bif j == 2 then 2 else 0)
 obtain ⟨r49, h48, hm⟩ := bnd hm
 refine W ?_
 refine cg (fun hb => aAb (cJ h48 hb)) ?_
 exact E
end Go.Proofs.YtkdohhmacfoolaaGreat
