/- Facts that the statement's proof is made of. No condition. -/
import Derived.Test.YtkdohhmacfoolaaGreatNdGI3
import Derived.Test.YtkdohhmacfoolaaGreatNdPl
set_option linter.unusedVariables false
set_option linter.unusedSimpArgs false
set_option maxRecDepth 20000
set_option maxHeartbeats 4000000
namespace Go.Proofs.YtkdohhmacfoolaaGreat
open Go Go.AM
theorem aYo (i o : Nat) : aI Tryz.prog 23 (.adr i o) 0 = some (.adr i (o + 0)) := by kernel_rfl
attribute [go_sem] aYo
theorem aZy (i o : Nat) : aI Tryz.prog 42 (.adr i o) 1 = some (.adr i (o + 1)) := by kernel_rfl
attribute [go_sem] aZy
theorem aYb (i o : Nat) : aI Tryz.prog 42 (.adr i o) 2 = some (.adr i (o + 2)) := by kernel_rfl
attribute [go_sem] aYb
theorem aYj (i o : Nat) : aI Tryz.prog 45 (.adr i o) 0 = some (.adr i (o + 0)) := by kernel_rfl
attribute [go_sem] aYj
theorem aXj (i o : Nat) : aI Tryz.prog 45 (.adr i o) 1 = some (.adr i (o + 1)) := by kernel_rfl
attribute [go_sem] aXj
theorem aXp (i o : Nat) : aI Tryz.prog 45 (.adr i o) 2 = some (.adr i (o + 2)) := by kernel_rfl
attribute [go_sem] aXp
theorem bG5 (H : aH) (x0 x1 x2 : AV) (xs : List AV) : bP Tryz.prog H 23 (.ptr (x0 :: x1 :: x2 :: xs)) = some (.agg [x0, x1, x2]) := by kernel_rfl
attribute [go_sem] bG5
theorem bFx (H : aH) (x : AV) (xs : List AV) : bP Tryz.prog H 24 (.ptr (x :: xs)) = some x := by kernel_rfl
attribute [go_sem] bFx
theorem bIs (H : aH) (x : AV) (xs : List AV) : bP Tryz.prog H 3 (.ptr (x :: xs)) = some x := by kernel_rfl
attribute [go_sem] bIs
theorem bG0 (H : aH) (x0 x1 x2 x3 x4 x5 : AV) (xs : List AV) : bP Tryz.prog H 33 (.ptr (x0 :: x1 :: x2 :: x3 :: x4 :: x5 :: xs)) = some (.agg [x0, x1, x2, x3, x4, x5]) := by kernel_rfl
attribute [go_sem] bG0
theorem bGm (H : aH) (x : AV) (xs : List AV) : bP Tryz.prog H 40 (.ptr (x :: xs)) = some x := by kernel_rfl
attribute [go_sem] bGm
theorem bE8 (H : aH) (x0 x1 x2 : AV) (xs : List AV) : bP Tryz.prog H 42 (.ptr (x0 :: x1 :: x2 :: xs)) = some (.agg [x0, x1, x2]) := by kernel_rfl
attribute [go_sem] bE8
theorem bGy (H : aH) (x : AV) (xs : List AV) : bP Tryz.prog H 43 (.ptr (x :: xs)) = some x := by kernel_rfl
attribute [go_sem] bGy
theorem bEl (H : aH) (x0 x1 x2 x3 : AV) (xs : List AV) : bP Tryz.prog H 45 (.ptr (x0 :: x1 :: x2 :: x3 :: xs)) = some (.agg [x0, x1, x2, x3]) := by kernel_rfl
attribute [go_sem] bEl
def aAy (rec2 : aD → aE → Int → List Int → Int → Int → Option (Bool)) (s_8 : aD) (fW : aE) (cE : Int) (t91 : List Int) (t92 : Int) (t93 : Int) : Option (Bool) :=
 rec2 s_8 fW cE t91 t92 (IntKind.i64.wrap (t93 + 1))
def fO (rec2 : aD → aE → Int → List Int → Int → Int → Option (Bool)) (rec3 : aD → aE → Int → Int → List Int → List Int → Int → Int → List Int → Int → Int → Option (Bool)) (rec4 : aD → aE → Int → Int → List Int → Int → Bool → List Int → Int → Int → List Int → Int → Int → List Int → Int → Int → Option (Bool)) (s_8 : aD) (fW : aE) (cE : Int) (tJ : Int) (jU : List Int) (aH2 : Int) (aIj : Bool) (t91 : List Int) (t92 : Int) (t93 : Int) (t138 : List Int) (t139 : Int) (t140 : Int) (t144 : List Int) (t145 : Int) (t146 : Int) : Option (Bool) :=
 (bif (decide (t146 < t145)) then
  ((idx t144 t146).bind fun x37 =>
  rec4 s_8 fW cE tJ jU aH2 (aIj || (x37 == aH2)) t91 t92 t93 t138 t139 t140 t144 t145 (IntKind.i64.wrap (t146 + 1)))
 else
  ((dI s_8 (bD.mk 8 tJ aH2 ⟨#[]⟩)).bind fun ⟨r39, r40⟩ =>
  ((dI s_8 (bD.mk 8 aH2 tJ ⟨#[]⟩)).bind fun ⟨r42, r43⟩ =>
  ((uJ r40 aIj).bind fun r45 =>
  ((fE ((!r45) == false) false (uJ r43 aIj)).bind fun r47 =>
  (bif (((!r45) || (!r47)) || ((tJ == aH2) && (!aIj))) then
   some false
  else
   rec3 s_8 fW cE tJ jU t91 t92 t93 t138 t139 (IntKind.i64.wrap (t140 + 1))))))))
def fN (rec2 : aD → aE → Int → List Int → Int → Int → Option (Bool)) (rec3 : aD → aE → Int → Int → List Int → List Int → Int → Int → List Int → Int → Int → Option (Bool)) : Nat → aD → aE → Int → Int → List Int → Int → Bool → List Int → Int → Int → List Int → Int → Int → List Int → Int → Int → Option (Bool)
 | 0 => fun _ _ _ _ _ _ _ _ _ _ _ _ _ _ _ _ => none
 | n + 1 => fO rec2 rec3 (fN rec2 rec3 n)
def tI (rec2 : aD → aE → Int → List Int → Int → Int → Option (Bool)) (rec3 : aD → aE → Int → Int → List Int → List Int → Int → Int → List Int → Int → Int → Option (Bool)) (s_8 : aD) (fW : aE) (cE : Int) (tJ : Int) (jU : List Int) (t91 : List Int) (t92 : Int) (t93 : Int) (t138 : List Int) (t139 : Int) (t140 : Int) : Option (Bool) :=
 (bif (decide (t140 < t139)) then
  ((idx t138 t140).bind fun x35 =>
  fN rec2 rec3 bK s_8 fW cE tJ jU x35 false t91 t92 t93 t138 t139 t140 jU (jU.length : Int) 0)
 else
  aAy rec2 s_8 fW cE t91 t92 t93)
def gQ (rec2 : aD → aE → Int → List Int → Int → Int → Option (Bool)) : Nat → aD → aE → Int → Int → List Int → List Int → Int → Int → List Int → Int → Int → Option (Bool)
 | 0 => fun _ _ _ _ _ _ _ _ _ _ _ => none
 | n + 1 => tI rec2 (gQ rec2 n)
def nW (rec2 : aD → aE → Int → List Int → Int → Int → Option (Bool)) (s_8 : aD) (fW : aE) (cE : Int) (tJ : Int) (jU : List Int) (t91 : List Int) (t92 : Int) (t93 : Int) : Option (Bool) :=
 gQ rec2 bK s_8 fW cE tJ jU t91 t92 t93 fW.Keys (fW.Keys.length : Int) 0
def tP (rec2 : aD → aE → Int → List Int → Int → Int → Option (Bool)) (s_8 : aD) (fW : aE) (cE : Int) (t91 : List Int) (t92 : Int) (t93 : Int) : Option (Bool) :=
 (bif (decide (t93 < t92)) then
  ((idx t91 t93).bind fun x22 =>
  ((dI s_8 (bD.mk 11 x22 0 ⟨#[]⟩)).bind fun ⟨r24, r25⟩ =>
  ((bAr 24 r25).bind fun ⟨r27, r28⟩ =>
  ((dI s_8 (bD.mk 9 x22 0 ⟨#[]⟩)).bind fun ⟨r30, r31⟩ =>
  ((fE (((!r28) || ((r27.length : Int) == 0)) == false) false (rX r31 (r27.length : Int))).bind fun r33 =>
  (bif (((!r28) || ((r27.length : Int) == 0)) || (!r33)) then
   some false
  else
   ((idx r27 0).bind fun x49 =>
   (bif (x49 == x22) then
    nW rec2 s_8 fW (IntKind.i64.wrap (cE + 1)) x22 r27 t91 t92 t93
   else
    nW rec2 s_8 fW cE x22 r27 t91 t92 t93))))))))
 else
  ((dI s_8 (bD.mk 10 0 0 ⟨#[]⟩)).bind fun ⟨r51, r52⟩ =>
  ((rX r52 cE).bind fun r54 =>
  ((fE (r54 == true) false (qW )).bind fun r56 =>
  some (r54 && r56)))))
def dT : Nat → aD → aE → Int → List Int → Int → Int → Option (Bool)
 | 0 => fun _ _ _ _ _ _ => none
 | n + 1 => tP (dT n)
def tH (rec1 : aD → aE → List bD → Int → Int → Option (Bool)) (s_8 : aD) (fW : aE) (t57 : List bD) (t58 : Int) (t59 : Int) : Option (Bool) :=
 (bif (decide (t59 < t58)) then
  ((idx t57 t59).bind fun x12 =>
  (bif ((decide (x12.Do < 1)) || (decide (4 < x12.Do))) then
   ((qW ).bind fun r14 =>
   some r14)
  else
   ((dI s_8 x12).bind fun ⟨r16, r17⟩ =>
   ((eQ fW x12.Do x12.A x12.B).bind fun ⟨r19, r20⟩ =>
   rec1 r16 r19 t57 t58 (IntKind.i64.wrap (t59 + 1))))))
 else
  dT bK s_8 fW 0 fW.Keys (fW.Keys.length : Int) 0)
def kP : Nat → aD → aE → List bD → Int → Int → Option (Bool)
 | 0 => fun _ _ _ _ _ => none
 | n + 1 => tH (kP n)
def qM (c_0 : aN) (xN : List Int) (l_2 : List bD) : Option (Bool) :=
 ((rC c_0 l_2 30).bind fun r2 =>
 ((jZ c_0 (bC.mk xN 0)).bind fun ⟨r4, r5, r6⟩ =>
 (bif ((decide (r2 < 0)) || (r6 != 0)) then
  ((qW ).bind fun r8 =>
  some r8)
 else
  ((slc l_2 0 r2).bind fun l10 =>
  kP bK r4 (aE.mk c_0.N [] []) l10 (l10.length : Int) 0))))
theorem aLe {c_0 : aN} {xN : List Int} {l_2 : List bD} {r : Bool} (hm : qM c_0 xN l_2 = some r) : aZ Tryz.prog 9 [.agg [vi c_0.N, vi c_0.L, vi c_0.R], vl (ci .u64) xN, vl dS l_2] (vb r) := by
 refine bd 206 Tryz.func9 ?_
 obtain ⟨r2, h1, hm⟩ := bnd hm
 refine W ?_
 refine cq (aSw h1) ?_
 refine W ?_
 refine pu rfl (by simp only [go_sem, Nat.reduceBEq]; exact (by kernel_rfl : cL Tryz.prog 35 [(0, .sl (xN.flatMap (ci .u64)) xN.length false)] = some (.agg [.sl (xN.flatMap (ci .u64)) xN.length false, .v (.int .i64 0)]))) ?_
 obtain ⟨⟨r4, r5, r6⟩, h3, hm⟩ := bnd hm
 refine cq (aJw h3) ?_
 refine W ?_
 refine cm hm (fun hm => ?_) fun hm => ?_
 ·
  obtain ⟨r8, h7, hm⟩ := bnd hm
  refine W ?_
  refine cq (aAp h7) ?_
  exact E
 refine W ?_
 refine pu rfl (by simp only [go_sem, Nat.reduceBEq]; exact (by kernel_rfl : cL Tryz.prog 42 [(0, .v (.int .i64 c_0.N))] = some (.agg [.v (.int .i64 c_0.N), .v (.slice none 0 0), .v (.slice none 0 0)]))) ?_
 obtain ⟨l10, h9, hm⟩ := bnd hm
 refine W ?_
 refine lp (fun m s => ∃ s_8 fW t57 t58 t59, s = ⟨206, (aF (aF (aF (aF (aF fa 8 (.adr 1 0)) 11 (.adr 2 0)) 57 (vl dS t57)) 58 (vi t58)) 59 (vi t59)), ⟨(upd (upd aX 1 (.cells 1 [vi s_8.Graph.Config.N, vi s_8.Graph.Config.L, vi s_8.Graph.Config.R, vl bH s_8.Graph.Hashes, vl aT s_8.Graph.Edges, vl aW s_8.Slots] 0)) 2 (.cells 1 [vi fW.Most, vl (ci .u64) fW.Keys, vl bQ fW.Pairs] 0)), 64⟩⟩ ∧ kP m s_8 fW t57 t58 t59 = some r) ?_ ?_
 ·
  refine ⟨_, ?_, r4, (aE.mk c_0.N [] []), l10, (l10.length : Int), 0, rfl, hm⟩
  refine St.Le.trans (aV1 57 (.sl (l10.flatMap dS) l10.length false) (fun H => (tdf Z1 (nY.sl _ _ _)))) ?_
  refine St.Le.trans (iT 259 (ys := [.v (.int .i64 ((aE.mk c_0.N [] []).Most)), .sl (((aE.mk c_0.N [] []).Keys).flatMap (ci .u64)) ((aE.mk c_0.N [] []).Keys).length false, .sl (((aE.mk c_0.N [] []).Pairs).flatMap bQ) ((aE.mk c_0.N [] []).Pairs).length false]) Z3 (.cons (.data _ (.v _)) (.cons (.nil false) (.cons (.nil false) .nil)))) ?_
  exact cn (fun j => bif j == 1 then 136 else bif j == 2 then 259 else 0)
 rintro n1 s ⟨s_8, fW, t57, t58, t59, rfl, hm⟩
 refine W ?_
 refine cm hm (fun hm => ?_) fun hm => ?_
 ·
  obtain ⟨x12, h11, hm⟩ := bnd hm
  refine W ?_
  refine cm hm (fun hm => ?_) fun hm => ?_
  ·
   obtain ⟨r14, h13, hm⟩ := bnd hm
   refine W ?_
   refine cq (aAp h13) ?_
   exact E
  refine W ?_
  obtain ⟨⟨r16, r17⟩, h15, hm⟩ := bnd hm
  refine cq (iA h15) ?_
  refine W ?_
  obtain ⟨⟨r19, r20⟩, h18, hm⟩ := bnd hm
  refine cq (aMk h18) ?_
  refine W ?_
  exact Lr (fun j => bif j == 1 then 1 else bif j == 2 then 2 else 0)
 refine W ?_
 refine lp (fun m s => ∃ s_8 fW cE t91 t92 t93, s = ⟨206, (aF (aF (aF (aF (aF (aF fa 8 (.adr 1 0)) 11 (.adr 2 0)) 14 (vi cE)) 91 (vl (ci .u64) t91)) 92 (vi t92)) 93 (vi t93)), ⟨(upd (upd aX 1 (.cells 1 [vi s_8.Graph.Config.N, vi s_8.Graph.Config.L, vi s_8.Graph.Config.R, vl bH s_8.Graph.Hashes, vl aT s_8.Graph.Edges, vl aW s_8.Slots] 0)) 2 (.cells 1 [vi fW.Most, vl (ci .u64) fW.Keys, vl bQ fW.Pairs] 0)), 64⟩⟩ ∧ dT m s_8 fW cE t91 t92 t93 = some r) (Lr (fun j => bif j == 1 then 1 else bif j == 2 then 2 else 0)) ?_
 rintro n2 s ⟨s_8, fW, cE, t91, t92, t93, rfl, hm⟩
 refine W ?_
 refine cm hm (fun hm => ?_) fun hm => ?_
 ·
  refine V ?_
  refine AWp.seqJ (fun s => ∃ s_8 fW cE t91 t92 t93, s = ⟨206, (aF (aF (aF (aF (aF (aF fa 8 (.adr 1 0)) 11 (.adr 2 0)) 14 (vi cE)) 91 (vl (ci .u64) t91)) 92 (vi t92)) 93 (vi t93)), ⟨(upd (upd aX 1 (.cells 1 [vi s_8.Graph.Config.N, vi s_8.Graph.Config.L, vi s_8.Graph.Config.R, vl bH s_8.Graph.Hashes, vl aT s_8.Graph.Edges, vl aW s_8.Slots] 0)) 2 (.cells 1 [vi fW.Most, vl (ci .u64) fW.Keys, vl bQ fW.Pairs] 0)), 64⟩⟩ ∧ aAy (dT n2) s_8 fW cE t91 t92 t93 = some r) ?_ ?_
  ·
   obtain ⟨x22, h21, hm⟩ := bnd hm
   refine W ?_
   refine pu rfl (by simp only [go_sem, Nat.reduceBEq]; exact (by kernel_rfl : cL Tryz.prog 45 [(0, .v (.int .i64 11)), (1, .v (.int .u64 x22))] = some (.agg [.v (.int .i64 11), .v (.int .u64 x22), .v (.int .u64 0), .v (.string ⟨#[]⟩)]))) ?_
   obtain ⟨⟨r24, r25⟩, h23, hm⟩ := bnd hm
   refine cq (iA h23) ?_
   refine W ?_
   obtain ⟨⟨r27, r28⟩, h26, hm⟩ := bnd hm
   refine aU.pop Zd (aBu Z1 (GA.data _)) (aRe Tryz.underlying24 bHz bHw Z1 h26) rfl ?_
   refine W ?_
   refine pu rfl (by simp only [go_sem, Nat.reduceBEq]; exact (by kernel_rfl : cL Tryz.prog 45 [(0, .v (.int .i64 9)), (1, .v (.int .u64 x22))] = some (.agg [.v (.int .i64 9), .v (.int .u64 x22), .v (.int .u64 0), .v (.string ⟨#[]⟩)]))) ?_
   obtain ⟨⟨r30, r31⟩, h29, hm⟩ := bnd hm
   refine cq (iA h29) ?_
   obtain ⟨r33, h32, hm⟩ := bnd hm
   refine W ?_
   refine cg (fun hb => aDr (cM h32 hb)) ?_
   refine W ?_
   refine cm hm (fun hm => ?_) fun hm => ?_
   · exact E
   refine V ?_
   refine AWp.seqJ (fun s => ∃ s_8 fW cE tJ jU t91 t92 t93, s = ⟨206, (aF (aF (aF (aF (aF (aF (aF (aF fa 8 (.adr 1 0)) 11 (.adr 2 0)) 14 (vi cE)) 16 (vu tJ)) 19 (vl (ci .u64) jU)) 91 (vl (ci .u64) t91)) 92 (vi t92)) 93 (vi t93)), ⟨(upd (upd aX 1 (.cells 1 [vi s_8.Graph.Config.N, vi s_8.Graph.Config.L, vi s_8.Graph.Config.R, vl bH s_8.Graph.Hashes, vl aT s_8.Graph.Edges, vl aW s_8.Slots] 0)) 2 (.cells 1 [vi fW.Most, vl (ci .u64) fW.Keys, vl bQ fW.Pairs] 0)), 64⟩⟩ ∧ nW (dT n2) s_8 fW cE tJ jU t91 t92 t93 = some r) ?_ ?_
   ·
    obtain ⟨x49, h48, hm⟩ := bnd hm
    refine W ?_
    refine cm hm (fun hm => ?_) fun hm => ?_
    ·
     refine W ?_
     exact Lr (fun j => bif j == 1 then 1 else bif j == 2 then 2 else 0)
    refine W ?_
    exact Lr (fun j => bif j == 1 then 1 else bif j == 2 then 2 else 0)
   rintro s ⟨s_8, fW, cE, tJ, jU, t91, t92, t93, rfl, hm⟩
   refine W ?_
   refine lp (fun m s => ∃ s_8 fW cE tJ jU t91 t92 t93 t138 t139 t140, s = ⟨206, (aF (aF (aF (aF (aF (aF (aF (aF (aF (aF (aF fa 8 (.adr 1 0)) 11 (.adr 2 0)) 14 (vi cE)) 16 (vu tJ)) 19 (vl (ci .u64) jU)) 91 (vl (ci .u64) t91)) 92 (vi t92)) 93 (vi t93)) 138 (vl (ci .u64) t138)) 139 (vi t139)) 140 (vi t140)), ⟨(upd (upd aX 1 (.cells 1 [vi s_8.Graph.Config.N, vi s_8.Graph.Config.L, vi s_8.Graph.Config.R, vl bH s_8.Graph.Hashes, vl aT s_8.Graph.Edges, vl aW s_8.Slots] 0)) 2 (.cells 1 [vi fW.Most, vl (ci .u64) fW.Keys, vl bQ fW.Pairs] 0)), 64⟩⟩ ∧ gQ (dT n2) m s_8 fW cE tJ jU t91 t92 t93 t138 t139 t140 = some r) (Lr (fun j => bif j == 1 then 1 else bif j == 2 then 2 else 0)) ?_
   rintro n3 s ⟨s_8, fW, cE, tJ, jU, t91, t92, t93, t138, t139, t140, rfl, hm⟩
   refine W ?_
   refine cm hm (fun hm => ?_) fun hm => ?_
   ·
    obtain ⟨x35, h34, hm⟩ := bnd hm
    refine W ?_
    refine lp (fun m s => ∃ s_8 fW cE tJ jU aH2 aIj t91 t92 t93 t138 t139 t140 t144 t145 t146, s = ⟨206, (aF (aF (aF (aF (aF (aF (aF (aF (aF (aF (aF (aF (aF (aF (aF (aF fa 8 (.adr 1 0)) 11 (.adr 2 0)) 14 (vi cE)) 16 (vu tJ)) 19 (vl (ci .u64) jU)) 24 (vu aH2)) 25 (vb aIj)) 91 (vl (ci .u64) t91)) 92 (vi t92)) 93 (vi t93)) 138 (vl (ci .u64) t138)) 139 (vi t139)) 140 (vi t140)) 144 (vl (ci .u64) t144)) 145 (vi t145)) 146 (vi t146)), ⟨(upd (upd aX 1 (.cells 1 [vi s_8.Graph.Config.N, vi s_8.Graph.Config.L, vi s_8.Graph.Config.R, vl bH s_8.Graph.Hashes, vl aT s_8.Graph.Edges, vl aW s_8.Slots] 0)) 2 (.cells 1 [vi fW.Most, vl (ci .u64) fW.Keys, vl bQ fW.Pairs] 0)), 64⟩⟩ ∧ fN (dT n2) (gQ (dT n2) n3) m s_8 fW cE tJ jU aH2 aIj t91 t92 t93 t138 t139 t140 t144 t145 t146 = some r) (Lr (fun j => bif j == 1 then 1 else bif j == 2 then 2 else 0)) ?_
    rintro n4 s ⟨s_8, fW, cE, tJ, jU, aH2, aIj, t91, t92, t93, t138, t139, t140, t144, t145, t146, rfl, hm⟩
    refine W ?_
    refine cm hm (fun hm => ?_) fun hm => ?_
    ·
     obtain ⟨x37, h36, hm⟩ := bnd hm
     refine W ?_
     exact Lr (fun j => bif j == 1 then 1 else bif j == 2 then 2 else 0)
    refine W ?_
    refine pu rfl (by simp only [go_sem, Nat.reduceBEq]; exact (by kernel_rfl : cL Tryz.prog 45 [(0, .v (.int .i64 8)), (1, .v (.int .u64 tJ)), (2, .v (.int .u64 aH2))] = some (.agg [.v (.int .i64 8), .v (.int .u64 tJ), .v (.int .u64 aH2), .v (.string ⟨#[]⟩)]))) ?_
    obtain ⟨⟨r39, r40⟩, h38, hm⟩ := bnd hm
    refine cq (iA h38) ?_
    refine W ?_
    refine pu rfl (by simp only [go_sem, Nat.reduceBEq]; exact (by kernel_rfl : cL Tryz.prog 45 [(0, .v (.int .i64 8)), (1, .v (.int .u64 aH2)), (2, .v (.int .u64 tJ))] = some (.agg [.v (.int .i64 8), .v (.int .u64 aH2), .v (.int .u64 tJ), .v (.string ⟨#[]⟩)]))) ?_
    obtain ⟨⟨r42, r43⟩, h41, hm⟩ := bnd hm
    refine cq (iA h41) ?_
    obtain ⟨r45, h44, hm⟩ := bnd hm
    refine W ?_
    refine cq (aG6 h44) ?_
    obtain ⟨r47, h46, hm⟩ := bnd hm
    refine W ?_
    refine cg (fun hb => aG6 (cM h46 hb)) ?_
    refine W ?_
    refine cm hm (fun hm => ?_) fun hm => ?_
    · exact E
    refine W ?_
    exact Lr (fun j => bif j == 1 then 1 else bif j == 2 then 2 else 0)
   refine W ?_
   exact Lr (fun j => bif j == 1 then 1 else bif j == 2 then 2 else 0)
  rintro s ⟨s_8, fW, cE, t91, t92, t93, rfl, hm⟩
  refine W ?_
  exact Lr (fun j => bif j == 1 then 1 else bif j == 2 then 2 else 0)
 refine W ?_
 refine pu rfl (by simp only [go_sem, Nat.reduceBEq]; exact (by kernel_rfl : cL Tryz.prog 45 [(0, .v (.int .i64 10))] = some (.agg [.v (.int .i64 10), .v (.int .u64 0), .v (.int .u64 0), .v (.string ⟨#[]⟩)]))) ?_
 obtain ⟨⟨r51, r52⟩, h50, hm⟩ := bnd hm
 refine cq (iA h50) ?_
 obtain ⟨r54, h53, hm⟩ := bnd hm
 refine W ?_
 refine cq (aDr h53) ?_
 obtain ⟨r56, h55, hm⟩ := bnd hm
 refine W ?_
 refine cg (fun hb => aAp (cM h55 hb)) ?_
 exact E
end Go.Proofs.YtkdohhmacfoolaaGreat
