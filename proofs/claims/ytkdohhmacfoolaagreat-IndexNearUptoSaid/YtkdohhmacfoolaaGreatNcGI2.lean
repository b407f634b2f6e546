/- Facts that the statement's proof is made of. No condition. -/
import Derived.Test.YtkdohhmacfoolaaGreatNcGI1
import Derived.Test.YtkdohhmacfoolaaGreatNcPl
set_option linter.unusedVariables false
set_option linter.unusedSimpArgs false
set_option maxRecDepth 20000
set_option maxHeartbeats 4000000
namespace Go.Proofs.YtkdohhmacfoolaaGreat
open Go Go.AM
structure nW where
 Used : Bool
 Key : Int
deriving DecidableEq
def mT (e : nW) : List AV := [.v (.bool e.Used), .v (.int .u64 e.Key)]
theorem xY (e : nW) (r : List AV) : mT e ++ r = .v (.bool e.Used) :: .v (.int .u64 e.Key) :: r := rfl
attribute [go_sem] xY
structure tO where
 Graph : aG
 Slots : List nW
deriving DecidableEq
def aC1 (e : tO) : List AV := [.v (.int .i64 e.Graph.Config.N), .v (.int .i64 e.Graph.Config.L), .v (.int .i64 e.Graph.Config.R), .sl (e.Graph.Hashes.flatMap bH) e.Graph.Hashes.length false, .sl (e.Graph.Edges.flatMap aT) e.Graph.Edges.length false, .sl (e.Slots.flatMap mT) e.Slots.length false]
theorem xJ (e : tO) (r : List AV) : aC1 e ++ r = .v (.int .i64 e.Graph.Config.N) :: .v (.int .i64 e.Graph.Config.L) :: .v (.int .i64 e.Graph.Config.R) :: .sl (e.Graph.Hashes.flatMap bH) e.Graph.Hashes.length false :: .sl (e.Graph.Edges.flatMap aT) e.Graph.Edges.length false :: .sl (e.Slots.flatMap mT) e.Slots.length false :: r := rfl
attribute [go_sem] xJ
structure aE where
 Most : Int
 Keys : List Int
 Pairs : List aO
deriving DecidableEq
def aCb (e : aE) : List AV := [.v (.int .i64 e.Most), .sl (e.Keys.flatMap (ci .u64)) e.Keys.length false, .sl (e.Pairs.flatMap bT) e.Pairs.length false]
theorem xG (e : aE) (r : List AV) : aCb e ++ r = .v (.int .i64 e.Most) :: .sl (e.Keys.flatMap (ci .u64)) e.Keys.length false :: .sl (e.Pairs.flatMap bT) e.Pairs.length false :: r := rfl
attribute [go_sem] xG
theorem aSl (xs : List AV) : aI Tryz.prog 102 (.ptr (xs)) 0 = some (.ptr xs) := by kernel_rfl
attribute [go_sem] aSl
theorem aTg (x0 : AV) (xs : List AV) : aI Tryz.prog 102 (.ptr (x0 :: xs)) 1 = some (.ptr xs) := by kernel_rfl
attribute [go_sem] aTg
theorem aVi (x0 : AV) (xs : List AV) : aI Tryz.prog 104 (.ptr (x0 :: xs)) 1 = some (.ptr xs) := by kernel_rfl
attribute [go_sem] aVi
theorem aVd (xs : List AV) : aI Tryz.prog 151 (.ptr (xs)) 0 = some (.ptr xs) := by kernel_rfl
attribute [go_sem] aVd
theorem aV3 (x0 : AV) (xs : List AV) : aI Tryz.prog 151 (.ptr (x0 :: xs)) 1 = some (.ptr xs) := by kernel_rfl
attribute [go_sem] aV3
theorem aUi (i o : Nat) : aI Tryz.prog 102 (.adr i o) 0 = some (.adr i (o + 0)) := by kernel_rfl
attribute [go_sem] aUi
theorem aSi (i o : Nat) : aI Tryz.prog 102 (.adr i o) 1 = some (.adr i (o + 1)) := by kernel_rfl
attribute [go_sem] aSi
theorem aUt (i o : Nat) : aI Tryz.prog 104 (.adr i o) 0 = some (.adr i (o + 0)) := by kernel_rfl
attribute [go_sem] aUt
theorem aTb (i o : Nat) : aI Tryz.prog 151 (.adr i o) 0 = some (.adr i (o + 0)) := by kernel_rfl
attribute [go_sem] aTb
theorem aUv (i o : Nat) : aI Tryz.prog 151 (.adr i o) 1 = some (.adr i (o + 1)) := by kernel_rfl
attribute [go_sem] aUv
theorem aZy (i o : Nat) : aI Tryz.prog 23 (.adr i o) 0 = some (.adr i (o + 0)) := by kernel_rfl
attribute [go_sem] aZy
theorem aYd (i o : Nat) : aI Tryz.prog 23 (.adr i o) 1 = some (.adr i (o + 1)) := by kernel_rfl
attribute [go_sem] aYd
theorem aZ7 (i o : Nat) : aI Tryz.prog 23 (.adr i o) 2 = some (.adr i (o + 2)) := by kernel_rfl
attribute [go_sem] aZ7
theorem aZa (i o : Nat) : aI Tryz.prog 30 (.adr i o) 0 = some (.adr i (o + 0)) := by kernel_rfl
attribute [go_sem] aZa
theorem aZf (i o : Nat) : aI Tryz.prog 30 (.adr i o) 1 = some (.adr i (o + 3)) := by kernel_rfl
attribute [go_sem] aZf
theorem bA2 (i o : Nat) : aI Tryz.prog 30 (.adr i o) 2 = some (.adr i (o + 4)) := by kernel_rfl
attribute [go_sem] bA2
theorem aZe (i o : Nat) : aI Tryz.prog 33 (.adr i o) 0 = some (.adr i (o + 0)) := by kernel_rfl
attribute [go_sem] aZe
theorem aYn (i o : Nat) : aI Tryz.prog 33 (.adr i o) 1 = some (.adr i (o + 5)) := by kernel_rfl
attribute [go_sem] aYn
theorem aZk (i o : Nat) : aI Tryz.prog 35 (.adr i o) 1 = some (.adr i (o + 1)) := by kernel_rfl
attribute [go_sem] aZk
theorem aXu (i o : Nat) : aI Tryz.prog 42 (.adr i o) 0 = some (.adr i (o + 0)) := by kernel_rfl
attribute [go_sem] aXu
theorem aXj (i o : Nat) : aI Tryz.prog 42 (.adr i o) 1 = some (.adr i (o + 1)) := by kernel_rfl
attribute [go_sem] aXj
theorem aXn (i o : Nat) : aI Tryz.prog 42 (.adr i o) 2 = some (.adr i (o + 2)) := by kernel_rfl
attribute [go_sem] aXn
theorem aXz (i o : Nat) : aI Tryz.prog 45 (.adr i o) 0 = some (.adr i (o + 0)) := by kernel_rfl
attribute [go_sem] aXz
theorem aYl (i o : Nat) : aI Tryz.prog 45 (.adr i o) 1 = some (.adr i (o + 1)) := by kernel_rfl
attribute [go_sem] aYl
theorem aY5 (i o : Nat) : aI Tryz.prog 45 (.adr i o) 2 = some (.adr i (o + 2)) := by kernel_rfl
attribute [go_sem] aY5
theorem aXa (i o : Nat) : aI Tryz.prog 45 (.adr i o) 3 = some (.adr i (o + 3)) := by kernel_rfl
attribute [go_sem] aXa
theorem aX8 (i o : Nat) : aI Tryz.prog 56 (.adr i o) 0 = some (.adr i (o + 0)) := by kernel_rfl
attribute [go_sem] aX8
theorem aZ8 (i o : Nat) : aI Tryz.prog 56 (.adr i o) 1 = some (.adr i (o + 5)) := by kernel_rfl
attribute [go_sem] aZ8
theorem aYt (i o : Nat) (k : IntKind) : gW Tryz.prog 69 (.adr i o) (.v (.int k 0)) = some (.adr i o) := by kernel_rfl
theorem aYg (i o : Nat) (k : IntKind) : gW Tryz.prog 69 (.adr i o) (.v (.int k 1)) = some (.adr i (o + 1)) := by kernel_rfl
attribute [go_sem] aYt aYg
theorem bB4 (H : aH) (x0 x1 x2 : AV) (xs : List AV) : bP Tryz.prog H 102 (.ptr (x0 :: x1 :: x2 :: xs)) = some (.agg [x0, x1, x2]) := by kernel_rfl
attribute [go_sem] bB4
theorem bB8 (H : aH) (x0 x1 : AV) (xs : List AV) : bP Tryz.prog H 104 (.ptr (x0 :: x1 :: xs)) = some (.agg [x0, x1]) := by kernel_rfl
attribute [go_sem] bB8
theorem bAq (H : aH) (x0 : AV) (xs : List AV) : bP Tryz.prog H 130 (.ptr (x0 :: xs)) = some (.agg [x0]) := by kernel_rfl
attribute [go_sem] bAq
theorem bCh (H : aH) (x0 x1 : AV) (xs : List AV) : bP Tryz.prog H 151 (.ptr (x0 :: x1 :: xs)) = some (.agg [x0, x1]) := by kernel_rfl
attribute [go_sem] bCh
theorem bEh (H : aH) (x0 x1 x2 : AV) (xs : List AV) : bP Tryz.prog H 23 (.ptr (x0 :: x1 :: x2 :: xs)) = some (.agg [x0, x1, x2]) := by kernel_rfl
attribute [go_sem] bEh
theorem bFf (H : aH) (x : AV) (xs : List AV) : bP Tryz.prog H 24 (.ptr (x :: xs)) = some x := by kernel_rfl
attribute [go_sem] bFf
theorem bDz (H : aH) (x : AV) (xs : List AV) : bP Tryz.prog H 27 (.ptr (x :: xs)) = some x := by kernel_rfl
attribute [go_sem] bDz
theorem bFh (H : aH) (x : AV) (xs : List AV) : bP Tryz.prog H 28 (.ptr (x :: xs)) = some x := by kernel_rfl
attribute [go_sem] bFh
theorem bHw (H : aH) (x : AV) (xs : List AV) : bP Tryz.prog H 3 (.ptr (x :: xs)) = some x := by kernel_rfl
attribute [go_sem] bHw
theorem bE1 (H : aH) (x0 x1 x2 x3 x4 : AV) (xs : List AV) : bP Tryz.prog H 30 (.ptr (x0 :: x1 :: x2 :: x3 :: x4 :: xs)) = some (.agg [x0, x1, x2, x3, x4]) := by kernel_rfl
attribute [go_sem] bE1
theorem bFd (H : aH) (x : AV) (xs : List AV) : bP Tryz.prog H 31 (.ptr (x :: xs)) = some x := by kernel_rfl
attribute [go_sem] bFd
theorem bGp (H : aH) (x0 x1 x2 x3 x4 x5 : AV) (xs : List AV) : bP Tryz.prog H 33 (.ptr (x0 :: x1 :: x2 :: x3 :: x4 :: x5 :: xs)) = some (.agg [x0, x1, x2, x3, x4, x5]) := by kernel_rfl
attribute [go_sem] bGp
theorem bJ0 (H : aH) (x : AV) (xs : List AV) : bP Tryz.prog H 4 (.ptr (x :: xs)) = some x := by kernel_rfl
attribute [go_sem] bJ0
theorem bFc (H : aH) (x : AV) (xs : List AV) : bP Tryz.prog H 40 (.ptr (x :: xs)) = some x := by kernel_rfl
attribute [go_sem] bFc
theorem bDw (H : aH) (x0 x1 x2 : AV) (xs : List AV) : bP Tryz.prog H 42 (.ptr (x0 :: x1 :: x2 :: xs)) = some (.agg [x0, x1, x2]) := by kernel_rfl
attribute [go_sem] bDw
theorem bGh (H : aH) (x : AV) (xs : List AV) : bP Tryz.prog H 43 (.ptr (x :: xs)) = some x := by kernel_rfl
attribute [go_sem] bGh
theorem bF5 (H : aH) (x0 x1 x2 x3 : AV) (xs : List AV) : bP Tryz.prog H 45 (.ptr (x0 :: x1 :: x2 :: x3 :: xs)) = some (.agg [x0, x1, x2, x3]) := by kernel_rfl
attribute [go_sem] bF5
theorem bEp (H : aH) (x : AV) (xs : List AV) : bP Tryz.prog H 54 (.ptr (x :: xs)) = some x := by kernel_rfl
attribute [go_sem] bEp
theorem bG4 (H : aH) (x0 x1 x2 x3 x4 x5 : AV) (xs : List AV) : bP Tryz.prog H 56 (.ptr (x0 :: x1 :: x2 :: x3 :: x4 :: x5 :: xs)) = some (.agg [x0, x1, x2, x3, x4, x5]) := by kernel_rfl
attribute [go_sem] bG4
theorem bGd (H : aH) (x0 x1 : AV) (xs : List AV) : bP Tryz.prog H 69 (.ptr (x0 :: x1 :: xs)) = some (.agg [x0, x1]) := by kernel_rfl
attribute [go_sem] bGd
theorem bIy (H : aH) (x : AV) (xs : List AV) : bP Tryz.prog H 9 (.ptr (x :: xs)) = some x := by kernel_rfl
attribute [go_sem] bIy
theorem aZt (H : aH) (k : IntKind) (n : Int) : nG Tryz.prog H 3 43 (.v (.int k n)) = some (.v (.int .u64 (IntKind.u64.wrap n))) := gH Tryz.underlying3 Tryz.underlying43
attribute [go_sem] aZt
theorem aZm (H : aH) (k : IntKind) (n : Int) : nG Tryz.prog H 5 43 (.v (.int k n)) = some (.v (.int .u64 (IntKind.u64.wrap n))) := gH Tryz.underlying5 Tryz.underlying43
attribute [go_sem] aZm
theorem aY1 (H : aH) (k : IntKind) (n : Int) : nG Tryz.prog H 43 3 (.v (.int k n)) = some (.v (.int .i64 (IntKind.i64.wrap n))) := gH Tryz.underlying43 Tryz.underlying3
attribute [go_sem] aY1
theorem aZx (H : aH) (k : IntKind) (n : Int) : nG Tryz.prog H 43 5 (.v (.int k n)) = some (.v (.int .u8 (IntKind.u8.wrap n))) := gH Tryz.underlying43 Tryz.underlying5
attribute [go_sem] aZx
def aQl (rec1 : Int → List Int → Int → Int → Option (Int)) (aEi : Int) (t6 : List Int) (t7 : Int) (t8 : Int) : Option (Int) :=
 (bif (decide (t8 < t7)) then
  ((idx t6 t8).bind fun x2 =>
  (bif (x2 != aEi) then
   some x2
  else
   rec1 aEi t6 t7 (IntKind.i64.wrap (t8 + 1))))
 else
  some aEi)
def aBa : Nat → Int → List Int → Int → Int → Option (Int)
 | 0 => fun _ _ _ _ => none
 | n + 1 => aQl (aBa n)
def aLc (aKp : List Int) : Option (Int) :=
 aBa bK 0 aKp (aKp.length : Int) 0
theorem aUu {aKp : List Int} {r : Int} (hm : aLc aKp = some r) : aZ Tryz.prog 106 [vl (ci .i64) aKp] (vi r) := by
 refine bd 18 Tryz.func106 ?_
 refine W ?_
 refine lp (fun m s => ∃ aEi t6 t7 t8, s = ⟨18, (aF (aF (aF (aF fa 3 (vi aEi)) 6 (vl (ci .i64) t6)) 7 (vi t7)) 8 (vi t8)), ⟨aX, 64⟩⟩ ∧ aBa m aEi t6 t7 t8 = some r) L ?_
 rintro n1 s ⟨aEi, t6, t7, t8, rfl, hm⟩
 refine W ?_
 refine cm hm (fun hm => ?_) fun hm => ?_
 ·
  obtain ⟨x2, h1, hm⟩ := bnd hm
  refine W ?_
  refine cm hm (fun hm => ?_) fun hm => ?_
  · exact E
  exact L
 exact E
def aAs (p_0 : aO) (q_1 : aO) : Option (Int) :=
 ((nU p_0.x0 q_1.x0).bind fun r2 =>
 ((nU p_0.x1 q_1.x1).bind fun r4 =>
 ((aLc [r2, r4]).bind fun r6 =>
 some r6)))
theorem aIy {p_0 : aO} {q_1 : aO} {r : Int} (hm : aAs p_0 q_1 = some r) : aZ Tryz.prog 105 [.agg [vu p_0.x0, vu p_0.x1], .agg [vu q_1.x0, vu q_1.x1]] (vi r) := by
 refine bd 17 Tryz.func105 ?_
 obtain ⟨r2, h1, hm⟩ := bnd hm
 refine W ?_
 refine cq (vR h1) ?_
 obtain ⟨r4, h3, hm⟩ := bnd hm
 refine W ?_
 refine cq (vR h3) ?_
 refine aL (CFi .i64) [r2, r4] ?_
 obtain ⟨r6, h5, hm⟩ := bnd hm
 refine aV.callB (r := .v (.int .i64 r6)) Zd Z1 bM9 (.cons (lto (CFi .i64) Z1 Z3 Z6) aOf.nil) bH8 (aUu h5) ?_
 exact E
def aKm (rec1 : aD → List aO → List aC → Int → Int → Option ((List aO))) (s_1 : aD) (wG : List aO) (t19 : List aC) (t20 : Int) (t21 : Int) : Option ((List aO)) :=
 (bif (decide (t21 < t20)) then
  ((idx t19 t21).bind fun x4 =>
  ((idx s_1.Slots x4.U).bind fun x6 =>
  ((idx s_1.Slots x4.V).bind fun x8 =>
  ((app wG [(aO.mk (if x8.Key < x6.Key then x8.Key else x6.Key) (if x6.Key < x8.Key then x8.Key else x6.Key))]).bind fun l10 =>
  rec1 s_1 l10 t19 t20 (IntKind.i64.wrap (t21 + 1))))))
 else
  ((aFs (fun x => x.length) wG.length (jZ wG (fun x0 x1 => aAs x0 x1))).bind fun l12 =>
  some l12))
def uQ : Nat → aD → List aO → List aC → Int → Int → Option ((List aO))
 | 0 => fun _ _ _ _ _ => none
 | n + 1 => aKm (uQ n)
def aDg (s_0 : aD) : Option ((List aO)) :=
 ((gQ s_0.Graph.Config.N s_0.Graph.Edges s_0.Graph.Config.L).bind fun r2 =>
 uQ bK s_0 [] r2 (r2.length : Int) 0)
theorem aMe {s_0 : aD} {r : (List aO)} (hm : aDg s_0 = some r) : aZ Tryz.prog 80 [.agg [vi s_0.Graph.Config.N, vi s_0.Graph.Config.L, vi s_0.Graph.Config.R, vl bH s_0.Graph.Hashes, vl aT s_0.Graph.Edges, vl aW s_0.Slots]] (vl bT r) := by
 refine bd 53 Tryz.func80 ?_
 obtain ⟨r2, h1, hm⟩ := bnd hm
 refine W ?_
 refine cq (nL h1) ?_
 refine W ?_
 refine lp (fun m s => ∃ s_1 wG t19 t20 t21, s = ⟨53, (aF (aF (aF (aF (aF fa 1 (.adr 1 0)) 4 (.own 2 0 wG.length)) 19 (vl aT t19)) 20 (vi t20)) 21 (vi t21)), ⟨(upd (upd aX 1 (.cells 1 [vi s_1.Graph.Config.N, vi s_1.Graph.Config.L, vi s_1.Graph.Config.R, vl bH s_1.Graph.Hashes, vl aT s_1.Graph.Edges, vl aW s_1.Slots] 0)) 2 (.cells 2 (wG.flatMap bT) 0)), 64⟩⟩ ∧ uQ m s_1 wG t19 t20 t21 = some r) ?_ ?_
 ·
  refine ⟨_, ?_, s_0, [], r2, (r2.length : Int), 0, rfl, hm⟩
  refine St.Le.trans (nX 4 900004 2 Z1 Z5) ?_
  exact cn (fun j => bif j == 1 then 0 else bif j == 2 then 900004 else 0)
 rintro n1 s ⟨s_1, wG, t19, t20, t21, rfl, hm⟩
 refine W ?_
 refine cm hm (fun hm => ?_) fun hm => ?_
 ·
  obtain ⟨x4, h3, hm⟩ := bnd hm
  obtain ⟨x6, h5, hm⟩ := bnd hm
  obtain ⟨x8, h7, hm⟩ := bnd hm
  refine W ?_
  refine pu rfl (by simp only [go_sem, Nat.reduceBEq]; exact (by kernel_rfl : cL Tryz.prog 69 [(0, .v (.int .u64 (if x8.Key < x6.Key then x8.Key else x6.Key))), (1, .v (.int .u64 (if x6.Key < x8.Key then x8.Key else x6.Key)))] = some (.agg [.v (.int .u64 (if x8.Key < x6.Key then x8.Key else x6.Key)), .v (.int .u64 (if x6.Key < x8.Key then x8.Key else x6.Key))]))) ?_
  refine aL eE [(aO.mk (if x8.Key < x6.Key then x8.Key else x6.Key) (if x6.Key < x8.Key then x8.Key else x6.Key))] ?_
  obtain ⟨l10, h9, hm⟩ := bnd hm
  refine W ?_
  exact Lr (fun j => bif j == 1 then 1 else bif j == 2 then 265 else 0)
 obtain ⟨l12, h11, hm⟩ := bnd hm
 refine W ?_
 have qh11 := aH0 h11
 refine aV.callM Zd Z1 bMe Z1 (yO (aDo h11) aE4 bO9 (fun h => aIy h) Z3) ?_
 exact E
def iX (s_0 : aD) (xI : Int) (u_2 : Int) (v_3 : Int) : Option (GA) :=
 ((oM s_0.Graph).bind fun r2 =>
 (bif (xI == 5) then
  ((lQ s_0.Graph.Edges u_2 v_3).bind fun ⟨r4, r5⟩ =>
  some (GA.b 4 r5))
 else
  (bif (xI == 6) then
   ((nF s_0 u_2).bind fun r7 =>
   some (GA.i 3 .i64 r7))
  else
   (bif (xI == 7) then
    ((sK s_0 u_2).bind fun r9 =>
    ((oN s_0 r9).bind fun r11 =>
    some (GA.lu 24 r11)))
   else
    (bif (xI == 8) then
     ((idx r2 u_2).bind fun x13 =>
     ((idx r2 v_3).bind fun x15 =>
     some (GA.b 4 (x13 == x15))))
    else
     (bif (xI == 9) then
      ((oL r2 u_2).bind fun r17 =>
      ((oN s_0 r17).bind fun r19 =>
      some (GA.i 3 .i64 (r19.length : Int))))
     else
      (bif (xI == 10) then
       ((aB2 s_0 r2).bind fun r21 =>
       some (GA.i 3 .i64 r21))
      else
       (bif (xI == 11) then
        ((oL r2 u_2).bind fun r23 =>
        ((oN s_0 r23).bind fun r25 =>
        some (GA.lu 24 r25)))
       else
        (bif (xI == 12) then
         ((aDg s_0).bind fun r27 =>
         some (GA.lp 40 r27))
        else
         (bif (xI == 13) then
          ((aFw s_0.Graph).bind fun r29 =>
          some (GA.b 4 r29))
         else
          none))))))))))
theorem aM6 {s_0 : aD} {xI : Int} {u_2 : Int} {v_3 : Int} {r : GA} (hm : iX s_0 xI u_2 v_3 = some r) : aZ Tryz.prog 42 [.agg [vi s_0.Graph.Config.N, vi s_0.Graph.Config.L, vi s_0.Graph.Config.R, vl bH s_0.Graph.Hashes, vl aT s_0.Graph.Edges, vl aW s_0.Slots], vi xI, vi u_2, vi v_3] (GA.av r) := by
 refine bd 98 Tryz.func42 ?_
 obtain ⟨r2, h1, hm⟩ := bnd hm
 refine W ?_
 refine cq (aHk h1) ?_
 refine W ?_
 refine cm hm (fun hm => ?_) fun hm => ?_
 ·
  refine W ?_
  obtain ⟨⟨r4, r5⟩, h3, hm⟩ := bnd hm
  refine cq (vV h3) ?_
  exact E
 refine W ?_
 refine cm hm (fun hm => ?_) fun hm => ?_
 ·
  obtain ⟨r7, h6, hm⟩ := bnd hm
  refine W ?_
  refine cq (aDh h6) ?_
  exact E
 refine W ?_
 refine cm hm (fun hm => ?_) fun hm => ?_
 ·
  obtain ⟨r9, h8, hm⟩ := bnd hm
  refine W ?_
  refine cq (aI5 h8) ?_
  obtain ⟨r11, h10, hm⟩ := bnd hm
  refine cq (aBz h10) ?_
  refine aV.pop Zd (aBb Z1 ((CFi .u64).sl _ _ _)) (aK2 (a := .sl (r11.flatMap (ci .u64)) r11.length false) Tryz.underlying24 (fun _ => by simp) Z1 ((CFi .u64).sl _ _ _) (fun H => (td rfl ((CFi .u64).sl _ _ _)))) rfl ?_
  exact E
 refine W ?_
 refine cm hm (fun hm => ?_) fun hm => ?_
 ·
  obtain ⟨x13, h12, hm⟩ := bnd hm
  obtain ⟨x15, h14, hm⟩ := bnd hm
  exact E
 refine W ?_
 refine cm hm (fun hm => ?_) fun hm => ?_
 ·
  obtain ⟨r17, h16, hm⟩ := bnd hm
  refine W ?_
  refine cq (aBh h16) ?_
  obtain ⟨r19, h18, hm⟩ := bnd hm
  refine cq (aBz h18) ?_
  exact E
 refine W ?_
 refine cm hm (fun hm => ?_) fun hm => ?_
 ·
  obtain ⟨r21, h20, hm⟩ := bnd hm
  refine W ?_
  refine cq (aKf h20) ?_
  exact E
 refine W ?_
 refine cm hm (fun hm => ?_) fun hm => ?_
 ·
  obtain ⟨r23, h22, hm⟩ := bnd hm
  refine W ?_
  refine cq (aBh h22) ?_
  obtain ⟨r25, h24, hm⟩ := bnd hm
  refine cq (aBz h24) ?_
  refine aV.pop Zd (aBb Z1 ((CFi .u64).sl _ _ _)) (aK2 (a := .sl (r25.flatMap (ci .u64)) r25.length false) Tryz.underlying24 (fun _ => by simp) Z1 ((CFi .u64).sl _ _ _) (fun H => (td rfl ((CFi .u64).sl _ _ _)))) rfl ?_
  exact E
 refine W ?_
 refine cm hm (fun hm => ?_) fun hm => ?_
 ·
  obtain ⟨r27, h26, hm⟩ := bnd hm
  refine W ?_
  refine cq (aMe h26) ?_
  refine aV.pop Zd (aBb Z1 (eE.sl _ _ _)) (aK2 (a := .sl (r27.flatMap bT) r27.length false) Tryz.underlying40 (fun _ => by simp) Z1 (eE.sl _ _ _) (fun H => (td rfl (eE.sl _ _ _)))) rfl ?_
  exact E
 refine W ?_
 refine cm hm (fun hm => ?_) fun hm => ?_
 ·
  obtain ⟨r29, h28, hm⟩ := bnd hm
  refine W ?_
  refine cq (aOk h28) ?_
  exact E
 cases hm
def kE (f_1 : (aM → Option (Bool))) (rec1 : List aM → Int → Int → Option (Int)) (s_0 : List aM) (t7 : Int) (t8 : Int) : Option (Int) :=
 (bif (decide (t8 < t7)) then
  ((idx s_0 t8).bind fun x2 =>
  ((f_1 x2).bind fun r4 =>
  (bif r4 then
   some t8
  else
   rec1 s_0 t7 (IntKind.i64.wrap (t8 + 1)))))
 else
  some (-1))
def dP (f_1 : (aM → Option (Bool))) : Nat → List aM → Int → Int → Option (Int)
 | 0 => fun _ _ _ => none
 | n + 1 => kE f_1 (dP f_1 n)
def kS (s_0 : List aM) (f_1 : (aM → Option (Bool))) : Option (Int) :=
 dP f_1 bK s_0 (s_0.length : Int) 0
theorem aAw {s_0 : List aM} {f_1 : (aM → Option (Bool))} {r : Int} (hm : kS s_0 f_1 = some r) {aEq : FuncId} {uF : List AV} (aLs : ∀ a, a ∈ uF → AM.Data a) (aSv : (Program.funcs Tryz.prog)[aEq]?.any (fun fn => fn.body.isSome && fn.name != "runtime.NumGoroutine") = true) (aV1 : ∀ {x0 r}, f_1 x0 = some r → aZ Tryz.prog aEq ([.agg [vb x0.Used, vu x0.Key]] ++ uF) (vb r)) : aZ Tryz.prog 112 [vl aW s_0, .clo (.func aEq) [] uF] (vi r) := by
 refine bd 19 Tryz.func112 ?_
 refine W ?_
 refine lp (fun m s => ∃ s_0 t7 t8, s = ⟨19, (aF (aF (aF (aF fa 0 (vl aW s_0)) 1 (.clo (.func aEq) [] uF)) 7 (vi t7)) 8 (vi t8)), ⟨aX, 64⟩⟩ ∧ dP f_1 m s_0 t7 t8 = some r) L ?_
 rintro n1 s ⟨s_0, t7, t8, rfl, hm⟩
 refine W ?_
 refine cm hm (fun hm => ?_) fun hm => ?_
 ·
  obtain ⟨x2, h1, hm⟩ := bnd hm
  obtain ⟨r4, h3, hm⟩ := bnd hm
  refine W ?_
  refine aV.callQC (r := .v (.bool r4)) Zd Z1 aLs aSv (fun H => (cD (.agg _ (dG.dat _)) .nil)) (aV1 h3) ?_
  refine W ?_
  refine cm hm (fun hm => ?_) fun hm => ?_
  · exact E
  exact L
 exact E
def iQ (aL4 : aM) : Option (Bool) :=
 some (!aL4.Used)
theorem aPo {aL4 : aM} {r : Bool} (hm : iQ aL4 = some r) : aZ Tryz.prog 113 [.agg [vb aL4.Used, vu aL4.Key]] (vb r) := by
 refine bd 6 Tryz.func113 ?_
 exact E
def fJ (l : List aM) : Option (List aM) := app [] l
theorem aDn {r : List aM} (hm : some [] = some r) : dA Tryz.prog 114 [.v (.slice none 0 0)] 2 (r.flatMap aW) r.length := by
 refine dA.of_body Tryz.func114 rfl (dG.fmdat r) ?_
 simp only [Tryz.ntmps114, List.length_cons, List.length_nil, Nat.reduceAdd, Nat.reduceSub, eR]
 refine sN 64 (pA ?_)
 refine fs (AWp.seq' (sN 128 (pA ?_)))
 refine pu rfl (tG Z1 Z1 (aF9 Tryz.underlying31)) ?_
 refine fs (AWp.condT Z1 ?_)
 refine sN 192 (pA ?_)
 refine fs (AWp.weaken (nX 2 900002 2 Z1 Z5) ?_)
 refine AWp.ret (lC ?_)
 cases hm
 exact aEz (.inr rfl) Tryz.results114 Z1 Z3 Z6
theorem aEn {a : Addr} {c : Nat} {r : List aM} (hm : ((app [] []).bind fun l2 =>
some l2) = some r) : dA Tryz.prog 114 [.v (.slice (some a) 0 c)] 2 (r.flatMap aW) r.length := by
 refine dA.of_body Tryz.func114 rfl (dG.fmdat r) ?_
 simp only [Tryz.ntmps114, List.length_cons, List.length_nil, Nat.reduceAdd, Nat.reduceSub, eR]
 refine sN 64 (pA ?_)
 refine fs (AWp.seq' (sN 128 (pA ?_)))
 refine pu rfl (tG Z1 Z1 (aCm Tryz.underlying31)) ?_
 refine fs (AWp.condF Z1 ?_)
 refine AWp.skip (bY (sN 192 (hp (id := 128) rfl rfl (kW dG (l := []) Tryz.underlying31 bAg bBd Z5 Zd Zd Zd (by simp only [go_sem, Nat.reduceBEq]; try rfl) (by kernel_rfl)) ?_)))
 refine pA ?_
 obtain ⟨l2, h1, hm⟩ := bnd hm
 refine hp (id := 130) rfl rfl (aDq dG Tryz.underlying31 Tryz.underlying31 rfl bCt bC4 (by rw [aNl]; decide) (by rw [aNl]; decide) bCf Zd Zd Z1 Z3 Z6 (aJd Z1) rfl Z5 h1) ?_
 refine pA ?_
 refine fs (AWp.ret ?_)
 cases hm
 exact aEz (.inr rfl) Tryz.results114 Z1 Z3 Z6
theorem aEl {x0 : aM} {l0 : List aM} {r : List aM} (hm : ((app [] (x0 :: l0)).bind fun l2 =>
some l2) = some r) : dA Tryz.prog 114 [.sl ((x0 :: l0).flatMap aW) (x0 :: l0).length false] 2 (r.flatMap aW) r.length := by
 refine dA.of_body Tryz.func114 rfl (dG.fmdat r) ?_
 simp only [Tryz.ntmps114, List.length_cons, List.length_nil, Nat.reduceAdd, Nat.reduceSub, eR]
 refine sN 64 (pA ?_)
 refine fs (AWp.seq' (sN 128 (pA ?_)))
 refine pu rfl (tG Z1 Z1 (aCn Tryz.underlying31 (by simp))) ?_
 refine fs (AWp.condF Z1 ?_)
 refine AWp.skip (bY (sN 192 (hp (id := 128) rfl rfl (kW dG (l := []) Tryz.underlying31 bAg bBd Z5 Zd Zd Zd (by simp only [go_sem, Nat.reduceBEq]; try rfl) (by kernel_rfl)) ?_)))
 refine pA ?_
 obtain ⟨l2, h1, hm⟩ := bnd hm
 refine hp (id := 130) rfl rfl (aDq dG Tryz.underlying31 Tryz.underlying31 rfl bCt bC4 (by rw [aNl]; decide) (by rw [aNl]; decide) bCf Zd Zd Z1 Z3 Z6 (aNv dG Z1 rfl) rfl Z5 h1) ?_
 refine pA ?_
 refine fs (AWp.ret ?_)
 cases hm
 exact aEz (.inr rfl) Tryz.results114 Z1 Z3 Z6
theorem wY {l r : List aM} (hm : fJ l = some r) : dA Tryz.prog 114 [.sl (l.flatMap aW) l.length false] 2 (r.flatMap aW) r.length := by
 cases l with
 | nil =>
  have hr : r = [] := by unfold fJ app at hm; simpa using hm.symm
  subst hr
  exact dA.nil_arg (aDn (r := []) rfl) (fun a c => aEn (r := []) rfl)
 | cons x0 l0 =>
  refine aEl ?_
  show (app [] (x0 :: l0)).bind _ = _
  unfold fJ at hm
  rw [hm]; rfl
def zK (l_0 : List aM) (eC : Int) : Option ((List aM) × Int × Int) :=
 ((jT l_0).bind fun ⟨r2, r3⟩ =>
 (bif (!r3) then
  some (l_0, 0, 1)
 else
  ((qW r2 eC).bind fun ⟨r5, r6⟩ =>
  (bif r6 then
   some (l_0, 0, 4)
  else
   ((kS l_0 (fun x0 => iQ x0)).bind fun r8 =>
   (bif (decide (r8 < 0)) then
    some (l_0, 0, 10)
   else
    ((fJ l_0).bind fun r10 =>
    ((idx r10 r8).bind fun x12 =>
    ((stt r10 r8 (aM.mk true eC)).bind fun l14 =>
    some (l14, r8, 0))))))))))
theorem aT3 {l_0 : List aM} {eC : Int} {r : (List aM) × Int × Int} (hm : zK l_0 eC = some r) : aZ Tryz.prog 83 [vl aW l_0, vu eC] (.tup [vl aW r.1, vi r.2.1, vi r.2.2]) := by
 refine bd 43 Tryz.func83 ?_
 refine W ?_
 obtain ⟨⟨r2, r3⟩, h1, hm⟩ := bnd hm
 refine cq (tW h1) ?_
 refine W ?_
 refine cm hm (fun hm => ?_) fun hm => ?_
 · exact E
 refine W ?_
 obtain ⟨⟨r5, r6⟩, h4, hm⟩ := bnd hm
 refine cq (aCp h4) ?_
 refine W ?_
 refine cm hm (fun hm => ?_) fun hm => ?_
 · exact E
 obtain ⟨r8, h7, hm⟩ := bnd hm
 refine W ?_
 refine aV.callQ (r := .v (.int .i64 r8)) Zd Z1 bJc (fun H => (cD (dG.sl _ _ _) (cD (bBc aE4) .nil))) (aAw h7 aE4 bM4 (fun h => aPo h)) ?_
 refine W ?_
 refine cm hm (fun hm => ?_) fun hm => ?_
 · exact E
 obtain ⟨r10, h9, hm⟩ := bnd hm
 refine W ?_
 refine aV.callF (id := 449) Zd Z1 bHa (fun H => (cD (dG.sl _ _ _) .nil)) dG Z5 (wY h9) ?_
 refine W ?_
 refine pu rfl (by simp only [go_sem, Nat.reduceBEq]; exact (by kernel_rfl : cL Tryz.prog 104 [(0, .v (.bool true)), (1, .v (.int .u64 eC))] = some (.agg [.v (.bool true), .v (.int .u64 eC)]))) ?_
 obtain ⟨x12, h11, hm⟩ := bnd hm
 obtain ⟨l14, h13, hm⟩ := bnd hm
 refine W ?_
 have qh13 := jC h13
 refine aS h13 ?_
 exact E
def rZ (l_0 : List aM) (eC : Int) : Option ((List aM) × Int) :=
 ((jT l_0).bind fun ⟨r2, r3⟩ =>
 (bif (!r3) then
  some (l_0, 1)
 else
  ((qW r2 eC).bind fun ⟨r5, r6⟩ =>
  (bif (!r6) then
   some (l_0, 7)
  else
   ((fJ l_0).bind fun r8 =>
   ((idx r8 r5).bind fun x10 =>
   ((stt r8 r5 (aM.mk false 0)).bind fun l12 =>
   some (l12, 0))))))))
theorem aMg {l_0 : List aM} {eC : Int} {r : (List aM) × Int} (hm : rZ l_0 eC = some r) : aZ Tryz.prog 84 [vl aW l_0, vu eC] (.tup [vl aW r.1, vi r.2]) := by
 refine bd 35 Tryz.func84 ?_
 refine W ?_
 obtain ⟨⟨r2, r3⟩, h1, hm⟩ := bnd hm
 refine cq (tW h1) ?_
 refine W ?_
 refine cm hm (fun hm => ?_) fun hm => ?_
 · exact E
 refine W ?_
 obtain ⟨⟨r5, r6⟩, h4, hm⟩ := bnd hm
 refine cq (aCp h4) ?_
 refine W ?_
 refine cm hm (fun hm => ?_) fun hm => ?_
 · exact E
 obtain ⟨r8, h7, hm⟩ := bnd hm
 refine W ?_
 refine aV.callF (id := 321) Zd Z1 bHa (fun H => (cD (dG.sl _ _ _) .nil)) dG Z5 (wY h7) ?_
 refine W ?_
 refine pu rfl (by simp only [go_sem, Nat.reduceBEq]; exact (by kernel_rfl : cL Tryz.prog 104 [] = some (.agg [.v (.bool false), .v (.int .u64 0)]))) ?_
 obtain ⟨x10, h9, hm⟩ := bnd hm
 obtain ⟨l12, h11, hm⟩ := bnd hm
 refine W ?_
 have qh11 := jC h11
 refine aS h11 ?_
 exact E
def eK (s_4 : aD) (t8 : aD) (aL5 : Int) : Option (aD × Int) :=
 some (s_4, aL5)
def iS (s_0 : aD) (c_1 : bF) (u_2 : Int) (v_3 : Int) : Option (aD × Int) :=
 (bif (c_1.Do == 1) then
  ((zK s_0.Slots c_1.A).bind fun ⟨r2, r3, r4⟩ =>
  eK (aD.mk s_0.Graph r2) (aD.mk (aG.mk (aN.mk 0 0 0) [] []) []) r4)
 else
  (bif (c_1.Do == 2) then
   ((nF s_0 u_2).bind fun r6 =>
   (bif (decide (0 < r6)) then
    some (s_0, 11)
   else
    ((rZ s_0.Slots c_1.A).bind fun ⟨r8, r9⟩ =>
    eK (aD.mk s_0.Graph r8) (aD.mk (aG.mk (aN.mk 0 0 0) [] []) []) r9)))
  else
   (bif (c_1.Do == 3) then
    ((rP s_0.Graph u_2 v_3).bind fun ⟨r11, r12⟩ =>
    eK (aD.mk r11 s_0.Slots) (aD.mk (aG.mk (aN.mk 0 0 0) [] []) []) r12)
   else
    (bif (c_1.Do == 4) then
     (bif (u_2 == v_3) then
      some (s_0, 9)
     else
      ((rT s_0.Graph u_2 v_3).bind fun ⟨r14, r15⟩ =>
      eK (aD.mk r14 s_0.Slots) (aD.mk (aG.mk (aN.mk 0 0 0) [] []) []) r15))
    else
     (bif (c_1.Do == 15) then
      none
     else
      eK s_0 (aD.mk (aG.mk (aN.mk 0 0 0) [] []) []) 0)))))
theorem aMd {s_0 : aD} {c_1 : bF} {u_2 : Int} {v_3 : Int} {r : aD × Int} (hm : iS s_0 c_1 u_2 v_3 = some r) : aZ Tryz.prog 43 [.agg [vi s_0.Graph.Config.N, vi s_0.Graph.Config.L, vi s_0.Graph.Config.R, vl bH s_0.Graph.Hashes, vl aT s_0.Graph.Edges, vl aW s_0.Slots], .agg [vi c_1.Do, vu c_1.A, vu c_1.B, .v (.string c_1.Text)], vi u_2, vi v_3] (.tup [.agg [vi r.1.Graph.Config.N, vi r.1.Graph.Config.L, vi r.1.Graph.Config.R, vl bH r.1.Graph.Hashes, vl aT r.1.Graph.Edges, vl aW r.1.Slots], vi r.2]) := by
 refine bd 76 Tryz.func43 ?_
 refine V ?_
 refine AWp.seqJ (fun s => ∃ s_4 t8 aL5, s = ⟨76, (aF (aF (aF fa 4 (.adr 1 0)) 8 (.adr 2 0)) 10 (vi aL5)), ⟨(upd (upd aX 1 (.cells 1 [vi s_4.Graph.Config.N, vi s_4.Graph.Config.L, vi s_4.Graph.Config.R, vl bH s_4.Graph.Hashes, vl aT s_4.Graph.Edges, vl aW s_4.Slots] 0)) 2 (.cells 1 [vi t8.Graph.Config.N, vi t8.Graph.Config.L, vi t8.Graph.Config.R, vl bH t8.Graph.Hashes, vl aT t8.Graph.Edges, vl aW t8.Slots] 0)), 64⟩⟩ ∧ eK s_4 t8 aL5 = some r) ?_ ?_
 ·
  refine W ?_
  refine cm hm (fun hm => ?_) fun hm => ?_
  ·
   refine W ?_
   obtain ⟨⟨r2, r3, r4⟩, h1, hm⟩ := bnd hm
   refine cq (aT3 h1) ?_
   refine W ?_
   refine ⟨_, ?_, (aD.mk s_0.Graph r2), (aD.mk (aG.mk (aN.mk 0 0 0) [] []) []), r4, rfl, hm⟩
   refine St.Le.trans (iI 2 (ys := [.v (.int .i64 ((((aD.mk (aG.mk (aN.mk 0 0 0) [] []) []).Graph).Config).N)), .v (.int .i64 ((((aD.mk (aG.mk (aN.mk 0 0 0) [] []) []).Graph).Config).L)), .v (.int .i64 ((((aD.mk (aG.mk (aN.mk 0 0 0) [] []) []).Graph).Config).R)), .sl ((((aD.mk (aG.mk (aN.mk 0 0 0) [] []) []).Graph).Hashes).flatMap bH) (((aD.mk (aG.mk (aN.mk 0 0 0) [] []) []).Graph).Hashes).length false, .sl ((((aD.mk (aG.mk (aN.mk 0 0 0) [] []) []).Graph).Edges).flatMap aT) (((aD.mk (aG.mk (aN.mk 0 0 0) [] []) []).Graph).Edges).length false, .sl (((aD.mk (aG.mk (aN.mk 0 0 0) [] []) []).Slots).flatMap aW) ((aD.mk (aG.mk (aN.mk 0 0 0) [] []) []).Slots).length false]) Z3 (.cons (.data _ (.v _)) (.cons (.data _ (.v _)) (.cons (.data _ (.v _)) (.cons (.nil false) (.cons (.nil false) (.cons (.nil false) .nil))))))) ?_
   exact cn (fun j => bif j == 1 then 0 else bif j == 2 then 2 else 0)
  refine W ?_
  refine cm hm (fun hm => ?_) fun hm => ?_
  ·
   obtain ⟨r6, h5, hm⟩ := bnd hm
   refine W ?_
   refine cq (aDh h5) ?_
   refine W ?_
   refine cm hm (fun hm => ?_) fun hm => ?_
   · exact E
   refine W ?_
   obtain ⟨⟨r8, r9⟩, h7, hm⟩ := bnd hm
   refine cq (aMg h7) ?_
   refine W ?_
   refine ⟨_, ?_, (aD.mk s_0.Graph r8), (aD.mk (aG.mk (aN.mk 0 0 0) [] []) []), r9, rfl, hm⟩
   refine St.Le.trans (iI 2 (ys := [.v (.int .i64 ((((aD.mk (aG.mk (aN.mk 0 0 0) [] []) []).Graph).Config).N)), .v (.int .i64 ((((aD.mk (aG.mk (aN.mk 0 0 0) [] []) []).Graph).Config).L)), .v (.int .i64 ((((aD.mk (aG.mk (aN.mk 0 0 0) [] []) []).Graph).Config).R)), .sl ((((aD.mk (aG.mk (aN.mk 0 0 0) [] []) []).Graph).Hashes).flatMap bH) (((aD.mk (aG.mk (aN.mk 0 0 0) [] []) []).Graph).Hashes).length false, .sl ((((aD.mk (aG.mk (aN.mk 0 0 0) [] []) []).Graph).Edges).flatMap aT) (((aD.mk (aG.mk (aN.mk 0 0 0) [] []) []).Graph).Edges).length false, .sl (((aD.mk (aG.mk (aN.mk 0 0 0) [] []) []).Slots).flatMap aW) ((aD.mk (aG.mk (aN.mk 0 0 0) [] []) []).Slots).length false]) Z3 (.cons (.data _ (.v _)) (.cons (.data _ (.v _)) (.cons (.data _ (.v _)) (.cons (.nil false) (.cons (.nil false) (.cons (.nil false) .nil))))))) ?_
   exact cn (fun j => bif j == 1 then 0 else bif j == 2 then 2 else 0)
  refine W ?_
  refine cm hm (fun hm => ?_) fun hm => ?_
  ·
   refine W ?_
   obtain ⟨⟨r11, r12⟩, h10, hm⟩ := bnd hm
   refine cq (aMi h10) ?_
   refine W ?_
   refine ⟨_, ?_, (aD.mk r11 s_0.Slots), (aD.mk (aG.mk (aN.mk 0 0 0) [] []) []), r12, rfl, hm⟩
   refine St.Le.trans (iI 2 (ys := [.v (.int .i64 ((((aD.mk (aG.mk (aN.mk 0 0 0) [] []) []).Graph).Config).N)), .v (.int .i64 ((((aD.mk (aG.mk (aN.mk 0 0 0) [] []) []).Graph).Config).L)), .v (.int .i64 ((((aD.mk (aG.mk (aN.mk 0 0 0) [] []) []).Graph).Config).R)), .sl ((((aD.mk (aG.mk (aN.mk 0 0 0) [] []) []).Graph).Hashes).flatMap bH) (((aD.mk (aG.mk (aN.mk 0 0 0) [] []) []).Graph).Hashes).length false, .sl ((((aD.mk (aG.mk (aN.mk 0 0 0) [] []) []).Graph).Edges).flatMap aT) (((aD.mk (aG.mk (aN.mk 0 0 0) [] []) []).Graph).Edges).length false, .sl (((aD.mk (aG.mk (aN.mk 0 0 0) [] []) []).Slots).flatMap aW) ((aD.mk (aG.mk (aN.mk 0 0 0) [] []) []).Slots).length false]) Z3 (.cons (.data _ (.v _)) (.cons (.data _ (.v _)) (.cons (.data _ (.v _)) (.cons (.nil false) (.cons (.nil false) (.cons (.nil false) .nil))))))) ?_
   exact cn (fun j => bif j == 1 then 0 else bif j == 2 then 2 else 0)
  refine W ?_
  refine cm hm (fun hm => ?_) fun hm => ?_
  ·
   refine W ?_
   refine cm hm (fun hm => ?_) fun hm => ?_
   · exact E
   refine W ?_
   obtain ⟨⟨r14, r15⟩, h13, hm⟩ := bnd hm
   refine cq (aMc h13) ?_
   refine W ?_
   refine ⟨_, ?_, (aD.mk r14 s_0.Slots), (aD.mk (aG.mk (aN.mk 0 0 0) [] []) []), r15, rfl, hm⟩
   refine St.Le.trans (iI 2 (ys := [.v (.int .i64 ((((aD.mk (aG.mk (aN.mk 0 0 0) [] []) []).Graph).Config).N)), .v (.int .i64 ((((aD.mk (aG.mk (aN.mk 0 0 0) [] []) []).Graph).Config).L)), .v (.int .i64 ((((aD.mk (aG.mk (aN.mk 0 0 0) [] []) []).Graph).Config).R)), .sl ((((aD.mk (aG.mk (aN.mk 0 0 0) [] []) []).Graph).Hashes).flatMap bH) (((aD.mk (aG.mk (aN.mk 0 0 0) [] []) []).Graph).Hashes).length false, .sl ((((aD.mk (aG.mk (aN.mk 0 0 0) [] []) []).Graph).Edges).flatMap aT) (((aD.mk (aG.mk (aN.mk 0 0 0) [] []) []).Graph).Edges).length false, .sl (((aD.mk (aG.mk (aN.mk 0 0 0) [] []) []).Slots).flatMap aW) ((aD.mk (aG.mk (aN.mk 0 0 0) [] []) []).Slots).length false]) Z3 (.cons (.data _ (.v _)) (.cons (.data _ (.v _)) (.cons (.data _ (.v _)) (.cons (.nil false) (.cons (.nil false) (.cons (.nil false) .nil))))))) ?_
   exact cn (fun j => bif j == 1 then 0 else bif j == 2 then 2 else 0)
  refine W ?_
  refine cm hm (fun hm => ?_) fun hm => ?_
  · cases hm
  refine W ?_
  refine ⟨_, ?_, s_0, (aD.mk (aG.mk (aN.mk 0 0 0) [] []) []), 0, rfl, hm⟩
  refine St.Le.trans (iI 2 (ys := [.v (.int .i64 ((((aD.mk (aG.mk (aN.mk 0 0 0) [] []) []).Graph).Config).N)), .v (.int .i64 ((((aD.mk (aG.mk (aN.mk 0 0 0) [] []) []).Graph).Config).L)), .v (.int .i64 ((((aD.mk (aG.mk (aN.mk 0 0 0) [] []) []).Graph).Config).R)), .sl ((((aD.mk (aG.mk (aN.mk 0 0 0) [] []) []).Graph).Hashes).flatMap bH) (((aD.mk (aG.mk (aN.mk 0 0 0) [] []) []).Graph).Hashes).length false, .sl ((((aD.mk (aG.mk (aN.mk 0 0 0) [] []) []).Graph).Edges).flatMap aT) (((aD.mk (aG.mk (aN.mk 0 0 0) [] []) []).Graph).Edges).length false, .sl (((aD.mk (aG.mk (aN.mk 0 0 0) [] []) []).Slots).flatMap aW) ((aD.mk (aG.mk (aN.mk 0 0 0) [] []) []).Slots).length false]) Z3 (.cons (.data _ (.v _)) (.cons (.data _ (.v _)) (.cons (.data _ (.v _)) (.cons (.nil false) (.cons (.nil false) (.cons (.nil false) .nil))))))) ?_
  exact cn (fun j => bif j == 1 then 0 else bif j == 2 then 2 else 0)
 rintro s ⟨s_4, t8, aL5, rfl, hm⟩
 exact E
def dU (s_0 : aD) (c_1 : bF) : Option (aD × GA) :=
 ((fF (((decide (c_1.Do < 1)) || (decide (15 < c_1.Do))) == false) false (sB s_0)).bind fun r2 =>
 (bif (((decide (c_1.Do < 1)) || (decide (15 < c_1.Do))) || (!r2)) then
  some (s_0, (GA.i 36 .i64 1))
 else
  ((oE s_0.Slots c_1.A).bind fun ⟨r4, r5⟩ =>
  ((oE s_0.Slots c_1.B).bind fun ⟨r7, r8⟩ =>
  ((uC c_1.Do).bind fun r10 =>
  ((fF ((r10 && (!r5)) == false) false (uD c_1.Do)).bind fun r12 =>
  (bif ((r10 && (!r5)) || (r12 && (!r8))) then
   some (s_0, (GA.i 36 .i64 7))
  else
   (bif ((decide (4 < c_1.Do)) && (c_1.Do != 15)) then
    ((iX s_0 c_1.Do r4 r7).bind fun r14 =>
    some (s_0, r14))
   else
    ((iS s_0 c_1 r4 r7).bind fun ⟨r16, r17⟩ =>
    (bif (r17 != 0) then
     some (s_0, (GA.i 36 .i64 r17))
    else
     some (r16, (GA.i 36 .i64 0))))))))))))
theorem hZ {s_0 : aD} {c_1 : bF} {r : aD × GA} (hm : dU s_0 c_1 = some r) : aZ Tryz.prog 15 [.agg [vi s_0.Graph.Config.N, vi s_0.Graph.Config.L, vi s_0.Graph.Config.R, vl bH s_0.Graph.Hashes, vl aT s_0.Graph.Edges, vl aW s_0.Slots], .agg [vi c_1.Do, vu c_1.A, vu c_1.B, .v (.string c_1.Text)]] (.tup [.agg [vi r.1.Graph.Config.N, vi r.1.Graph.Config.L, vi r.1.Graph.Config.R, vl bH r.1.Graph.Hashes, vl aT r.1.Graph.Edges, vl aW r.1.Slots], GA.av r.2]) := by
 refine bd 91 Tryz.func15 ?_
 obtain ⟨r2, h1, hm⟩ := bnd hm
 refine W ?_
 refine cg (fun hb => aS0 (cJ h1 hb)) ?_
 refine W ?_
 refine cm hm (fun hm => ?_) fun hm => ?_
 · exact E
 refine W ?_
 obtain ⟨⟨r4, r5⟩, h3, hm⟩ := bnd hm
 refine cq (aHt h3) ?_
 refine W ?_
 obtain ⟨⟨r7, r8⟩, h6, hm⟩ := bnd hm
 refine cq (aHt h6) ?_
 obtain ⟨r10, h9, hm⟩ := bnd hm
 refine W ?_
 refine cq (aP9 h9) ?_
 obtain ⟨r12, h11, hm⟩ := bnd hm
 refine W ?_
 refine cg (fun hb => aNx (cJ h11 hb)) ?_
 refine W ?_
 refine cm hm (fun hm => ?_) fun hm => ?_
 · exact E
 refine W ?_
 refine cm hm (fun hm => ?_) fun hm => ?_
 ·
  obtain ⟨r14, h13, hm⟩ := bnd hm
  refine W ?_
  refine cq (aM6 h13) ?_
  exact E
 refine W ?_
 obtain ⟨⟨r16, r17⟩, h15, hm⟩ := bnd hm
 refine cq (aMd h15) ?_
 refine W ?_
 refine cm hm (fun hm => ?_) fun hm => ?_
 · exact E
 exact E
def yI (kV : GA) : Option (Int) :=
 ((aGk .i64 36 kV).bind fun r2 =>
 some r2)
theorem aGm {kV : GA} {r : Int} (hm : yI kV = some r) : aZ Tryz.prog 38 [GA.av kV] (vi r) := by
 refine bd 5 Tryz.func38 ?_
 obtain ⟨r2, h1, hm⟩ := bnd hm
 refine W ?_
 refine pu rfl (aYv Tryz.underlying36 Z1 h1) ?_
 exact E
def pO : Option (Bool) :=
 ((kA (aN.mk 2 1 1) (bC.mk [3, 4, 5] 0)).bind fun ⟨r2, r3, r4⟩ =>
 ((dU r2 (bF.mk 1 9 0 ⟨#[]⟩)).bind fun ⟨r6, r7⟩ =>
 ((dU r6 (bF.mk 1 7 0 ⟨#[]⟩)).bind fun ⟨r9, r10⟩ =>
 ((dU r9 (bF.mk 3 7 9 ⟨#[]⟩)).bind fun ⟨r12, r13⟩ =>
 ((dU r12 (bF.mk 11 9 0 ⟨#[]⟩)).bind fun ⟨r15, r16⟩ =>
 ((dU r12 (bF.mk 2 9 0 ⟨#[]⟩)).bind fun ⟨r18, r19⟩ =>
 ((dU r12 (bF.mk 5 9 8 ⟨#[]⟩)).bind fun ⟨r21, r22⟩ =>
 ((dU r12 (bF.mk 0 0 0 ⟨#[]⟩)).bind fun ⟨r24, r25⟩ =>
 ((bAc 24 r16).bind fun ⟨r27, r28⟩ =>
 ((fF (((r4 == 0) && (r3.At == 2)) == true) false (aFd r7 36 .i64 0)).bind fun b30 =>
 ((fF ((((r4 == 0) && (r3.At == 2)) && b30) == true) false (aFd r10 36 .i64 0)).bind fun b32 =>
 ((fF (((((r4 == 0) && (r3.At == 2)) && b30) && b32) == true) false (aFd r13 36 .i64 0)).bind fun b34 =>
 (bif ((((((r4 == 0) && (r3.At == 2)) && b30) && b32) && b34) && r28) then
  ((aIj r27 [7, 9]).bind fun r37 =>
  ((fF (r37 == true) false (aFd r19 36 .i64 11)).bind fun b39 =>
  ((fF ((r37 && b39) == true) false (aFd r22 36 .i64 7)).bind fun b41 =>
  ((fF (((r37 && b39) && b41) == true) false (aFd r25 36 .i64 1)).bind fun b43 =>
  ((fF ((bif (((r37 && b39) && b41) && b43) then true else false) == true) 0 (yI r25)).bind fun r45 =>
  some ((bif (((r37 && b39) && b41) && b43) then true else false) && (r45 == 1)))))))
 else
  some false)))))))))))))
theorem aAb {r : Bool} (hm : pO = some r) : aZ Tryz.prog 14 [] (vb r) := by
 refine bd 124 Tryz.func14 ?_
 refine W ?_
 refine pu rfl (by simp only [go_sem, Nat.reduceBEq]; exact (by kernel_rfl : cL Tryz.prog 23 [(0, .v (.int .i64 2)), (1, .v (.int .i64 1)), (2, .v (.int .i64 1))] = some (.agg [.v (.int .i64 2), .v (.int .i64 1), .v (.int .i64 1)]))) ?_
 refine aV.pop Zd (wL (ps := [(0, .v (.int .u64 3)), (1, .v (.int .u64 4)), (2, .v (.int .u64 5))]) (by simp only [go_sem, Nat.reduceBEq]; try rfl) (qD (.v _) (qD (.v _) (qD (.v _) aJ7)))) (aFt (CFi .u64) (l := [3, 4, 5]) (xs := [.v (.int .u64 3), .v (.int .u64 4), .v (.int .u64 5)]) Tryz.underlying24 aFa bC2 Zd Zd Zd (ps := [(0, .v (.int .u64 3)), (1, .v (.int .u64 4)), (2, .v (.int .u64 5))]) (by simp only [go_sem, Nat.reduceBEq]; try rfl) (by kernel_rfl) (fun H => (.cons (.data _ (.v _)) (.cons (.data _ (.v _)) (.cons (.data _ (.v _)) .nil))))) rfl ?_
 refine pu rfl (by simp only [go_sem, Nat.reduceBEq]; exact (by kernel_rfl : cL Tryz.prog 35 [(0, .sl (([3, 4, 5]).flatMap (ci .u64)) ([3, 4, 5]).length false)] = some (.agg [.sl (([3, 4, 5]).flatMap (ci .u64)) ([3, 4, 5]).length false, .v (.int .i64 0)]))) ?_
 obtain ⟨⟨r2, r3, r4⟩, h1, hm⟩ := bnd hm
 refine cq (aK1 h1) ?_
 refine W ?_
 refine pu rfl (by simp only [go_sem, Nat.reduceBEq]; exact (by kernel_rfl : cL Tryz.prog 45 [(0, .v (.int .i64 1)), (1, .v (.int .u64 9))] = some (.agg [.v (.int .i64 1), .v (.int .u64 9), .v (.int .u64 0), .v (.string ⟨#[]⟩)]))) ?_
 obtain ⟨⟨r6, r7⟩, h5, hm⟩ := bnd hm
 refine cq (hZ h5) ?_
 refine W ?_
 refine pu rfl (by simp only [go_sem, Nat.reduceBEq]; exact (by kernel_rfl : cL Tryz.prog 45 [(0, .v (.int .i64 1)), (1, .v (.int .u64 7))] = some (.agg [.v (.int .i64 1), .v (.int .u64 7), .v (.int .u64 0), .v (.string ⟨#[]⟩)]))) ?_
 obtain ⟨⟨r9, r10⟩, h8, hm⟩ := bnd hm
 refine cq (hZ h8) ?_
 refine W ?_
 refine pu rfl (by simp only [go_sem, Nat.reduceBEq]; exact (by kernel_rfl : cL Tryz.prog 45 [(0, .v (.int .i64 3)), (1, .v (.int .u64 7)), (2, .v (.int .u64 9))] = some (.agg [.v (.int .i64 3), .v (.int .u64 7), .v (.int .u64 9), .v (.string ⟨#[]⟩)]))) ?_
 obtain ⟨⟨r12, r13⟩, h11, hm⟩ := bnd hm
 refine cq (hZ h11) ?_
 refine W ?_
 refine pu rfl (by simp only [go_sem, Nat.reduceBEq]; exact (by kernel_rfl : cL Tryz.prog 45 [(0, .v (.int .i64 11)), (1, .v (.int .u64 9))] = some (.agg [.v (.int .i64 11), .v (.int .u64 9), .v (.int .u64 0), .v (.string ⟨#[]⟩)]))) ?_
 obtain ⟨⟨r15, r16⟩, h14, hm⟩ := bnd hm
 refine cq (hZ h14) ?_
 refine W ?_
 refine pu rfl (by simp only [go_sem, Nat.reduceBEq]; exact (by kernel_rfl : cL Tryz.prog 45 [(0, .v (.int .i64 2)), (1, .v (.int .u64 9))] = some (.agg [.v (.int .i64 2), .v (.int .u64 9), .v (.int .u64 0), .v (.string ⟨#[]⟩)]))) ?_
 obtain ⟨⟨r18, r19⟩, h17, hm⟩ := bnd hm
 refine cq (hZ h17) ?_
 refine W ?_
 refine pu rfl (by simp only [go_sem, Nat.reduceBEq]; exact (by kernel_rfl : cL Tryz.prog 45 [(0, .v (.int .i64 5)), (1, .v (.int .u64 9)), (2, .v (.int .u64 8))] = some (.agg [.v (.int .i64 5), .v (.int .u64 9), .v (.int .u64 8), .v (.string ⟨#[]⟩)]))) ?_
 obtain ⟨⟨r21, r22⟩, h20, hm⟩ := bnd hm
 refine cq (hZ h20) ?_
 refine W ?_
 refine pu rfl (by simp only [go_sem, Nat.reduceBEq]; exact (by kernel_rfl : cL Tryz.prog 45 [] = some (.agg [.v (.int .i64 0), .v (.int .u64 0), .v (.int .u64 0), .v (.string ⟨#[]⟩)]))) ?_
 obtain ⟨⟨r24, r25⟩, h23, hm⟩ := bnd hm
 refine cq (hZ h23) ?_
 refine W ?_
 obtain ⟨⟨r27, r28⟩, h26, hm⟩ := bnd hm
 refine aV.pop Zd (aBb Z1 (GA.data _)) (aS9 Tryz.underlying24 bHm bIe Z1 h26) rfl ?_
 obtain ⟨b30, h29, hm⟩ := bnd hm
 iterate 17 refine S1 ?_
 refine aV.popG Zd rfl Z2 (fun hb => (aE9 (Zh hb) (Zh hb) (GA.data _) (.ifc _ _ (.v _)))) (fun hb => (uM Tryz.underlying20 Tryz.underlying36 aTl (by kernel_rfl) (Zh hb) (Zh hb) (cJ h29 hb))) rfl ?_
 obtain ⟨b32, h31, hm⟩ := bnd hm
 iterate 4 refine S1 ?_
 refine aV.popG Zd rfl Z2 (fun hb => (aE9 (Zh hb) (Zh hb) (GA.data _) (.ifc _ _ (.v _)))) (fun hb => (uM Tryz.underlying20 Tryz.underlying36 aTl (by kernel_rfl) (Zh hb) (Zh hb) (cJ h31 hb))) rfl ?_
 obtain ⟨b34, h33, hm⟩ := bnd hm
 iterate 4 refine S1 ?_
 refine aV.popG Zd rfl Z2 (fun hb => (aE9 (Zh hb) (Zh hb) (GA.data _) (.ifc _ _ (.v _)))) (fun hb => (uM Tryz.underlying20 Tryz.underlying36 aTl (by kernel_rfl) (Zh hb) (Zh hb) (cJ h33 hb))) rfl ?_
 refine W ?_
 refine bGt hm (fun h35 hm => ?_) (fun h35 hm => ?_)
 ·
  refine aV.heapG Zd rfl (by simp only [go_sem, Nat.reduceBEq, h35]; try with_reducible rfl) (id := 667) rfl (kW (CFi .u64) (l := [7, 9]) Tryz.underlying24 aFa bC2 Z5 Zd Zd Zd (by simp only [go_sem, Nat.reduceBEq, h35]; try rfl) (by kernel_rfl)) ?_
  obtain ⟨r37, h36, hm⟩ := bnd hm
  refine aV.callBG (r := .v (.bool r37)) Zd rfl (by simp only [go_sem, Nat.reduceBEq, h35]; try with_reducible rfl) (by try simp only [go_sem, Nat.reduceBEq, h35]; try rfl) bRt (fun hb => (.cons (ltd fun H => (td (by try simp only [go_sem, Nat.reduceBEq, h35]; try rfl) ((CFi .u64).sl _ _ _))) (.cons (lto (CFi .u64) (by try simp only [go_sem, Nat.reduceBEq, h35]; try rfl) Z3 Z6) aOf.nil))) bH8 (fun hb => aQv h36) ?_
  iterate 4 (first | refine pu rfl (by simp only [go_sem, Nat.reduceBEq, h35]; try with_reducible rfl) ?_ | refine pg rfl rfl (by simp only [go_sem, Nat.reduceBEq, h35]; try with_reducible rfl) (by intro hb; simp only [go_sem, Nat.reduceBEq, h35, hb, Bool.true_and]; try with_reducible rfl) ?_)
  obtain ⟨b39, h38, hm⟩ := bnd hm
  refine aV.popG Zd rfl (by simp only [go_sem, Nat.reduceBEq, h35]; try with_reducible rfl) (fun hb => (aE9 (by try simp only [go_sem, Nat.reduceBEq, h35, hb, Bool.true_and]; try rfl) (by try simp only [go_sem, Nat.reduceBEq, h35, hb, Bool.true_and]; try rfl) (GA.data _) (.ifc _ _ (.v _)))) (fun hb => (uM Tryz.underlying20 Tryz.underlying36 aTl (by kernel_rfl) (by try simp only [go_sem, Nat.reduceBEq, h35, hb, Bool.true_and]; try rfl) (by try simp only [go_sem, Nat.reduceBEq, h35, hb, Bool.true_and]; try rfl) (cJ h38 hb))) rfl ?_
  iterate 4 (first | refine pu rfl (by simp only [go_sem, Nat.reduceBEq, h35]; try with_reducible rfl) ?_ | refine pg rfl rfl (by simp only [go_sem, Nat.reduceBEq, h35]; try with_reducible rfl) (by intro hb; simp only [go_sem, Nat.reduceBEq, h35, hb, Bool.true_and]; try with_reducible rfl) ?_)
  obtain ⟨b41, h40, hm⟩ := bnd hm
  refine aV.popG Zd rfl (by simp only [go_sem, Nat.reduceBEq, h35]; try with_reducible rfl) (fun hb => (aE9 (by try simp only [go_sem, Nat.reduceBEq, h35, hb, Bool.true_and]; try rfl) (by try simp only [go_sem, Nat.reduceBEq, h35, hb, Bool.true_and]; try rfl) (GA.data _) (.ifc _ _ (.v _)))) (fun hb => (uM Tryz.underlying20 Tryz.underlying36 aTl (by kernel_rfl) (by try simp only [go_sem, Nat.reduceBEq, h35, hb, Bool.true_and]; try rfl) (by try simp only [go_sem, Nat.reduceBEq, h35, hb, Bool.true_and]; try rfl) (cJ h40 hb))) rfl ?_
  iterate 4 (first | refine pu rfl (by simp only [go_sem, Nat.reduceBEq, h35]; try with_reducible rfl) ?_ | refine pg rfl rfl (by simp only [go_sem, Nat.reduceBEq, h35]; try with_reducible rfl) (by intro hb; simp only [go_sem, Nat.reduceBEq, h35, hb, Bool.true_and]; try with_reducible rfl) ?_)
  obtain ⟨b43, h42, hm⟩ := bnd hm
  refine aV.popG Zd rfl (by simp only [go_sem, Nat.reduceBEq, h35]; try with_reducible rfl) (fun hb => (aE9 (by try simp only [go_sem, Nat.reduceBEq, h35, hb, Bool.true_and]; try rfl) (by try simp only [go_sem, Nat.reduceBEq, h35, hb, Bool.true_and]; try rfl) (GA.data _) (.ifc _ _ (.v _)))) (fun hb => (uM Tryz.underlying20 Tryz.underlying36 aTl (by kernel_rfl) (by try simp only [go_sem, Nat.reduceBEq, h35, hb, Bool.true_and]; try rfl) (by try simp only [go_sem, Nat.reduceBEq, h35, hb, Bool.true_and]; try rfl) (cJ h42 hb))) rfl ?_
  iterate 5 (first | refine pu rfl (by simp only [go_sem, Nat.reduceBEq, h35]; try with_reducible rfl) ?_ | refine pg rfl rfl (by simp only [go_sem, Nat.reduceBEq, h35]; try with_reducible rfl) (by intro hb; simp only [go_sem, Nat.reduceBEq, h35, hb, Bool.true_and]; try with_reducible rfl) ?_)
  obtain ⟨r45, h44, hm⟩ := bnd hm
  refine aV.callQG (r := .v (.int .i64 r45)) Zd rfl (by simp only [go_sem, Nat.reduceBEq, h35]; try with_reducible rfl) (by try simp only [go_sem, Nat.reduceBEq, h35]; try rfl) bP8 (fun hb H => (.cons (td (by try simp only [go_sem, Nat.reduceBEq, h35, hb, Bool.true_and]; try rfl) (GA.data _)) .nil)) (fun hb => aGm (cJ h44 hb)) ?_
  iterate 3 (first | refine pu rfl (by simp only [go_sem, Nat.reduceBEq, h35]; try with_reducible rfl) ?_ | refine pg rfl rfl (by simp only [go_sem, Nat.reduceBEq, h35]; try with_reducible rfl) (by intro hb; simp only [go_sem, Nat.reduceBEq, h35, hb, Bool.true_and]; try with_reducible rfl) ?_)
  exact E
 refine aV.skipG Zd rfl (by simp only [go_sem, Nat.reduceBEq, h35]; try with_reducible rfl) ?_
 refine aV.skipG Zd rfl (by simp only [go_sem, Nat.reduceBEq, h35]; try with_reducible rfl) ?_
 iterate 2 refine pu rfl (by simp only [go_sem, Nat.reduceBEq, h35]; try with_reducible rfl) ?_
 refine aV.skipG Zd rfl (by simp only [go_sem, Nat.reduceBEq, h35]; try with_reducible rfl) ?_
 refine aV.skipG Zd rfl (by simp only [go_sem, Nat.reduceBEq, h35]; try with_reducible rfl) ?_
 refine aV.skipG Zd rfl (by simp only [go_sem, Nat.reduceBEq, h35]; try with_reducible rfl) ?_
 iterate 2 refine pu rfl (by simp only [go_sem, Nat.reduceBEq, h35]; try with_reducible rfl) ?_
 refine aV.skipG Zd rfl (by simp only [go_sem, Nat.reduceBEq, h35]; try with_reducible rfl) ?_
 refine aV.skipG Zd rfl (by simp only [go_sem, Nat.reduceBEq, h35]; try with_reducible rfl) ?_
 refine aV.skipG Zd rfl (by simp only [go_sem, Nat.reduceBEq, h35]; try with_reducible rfl) ?_
 iterate 2 refine pu rfl (by simp only [go_sem, Nat.reduceBEq, h35]; try with_reducible rfl) ?_
 refine aV.skipG Zd rfl (by simp only [go_sem, Nat.reduceBEq, h35]; try with_reducible rfl) ?_
 refine aV.skipG Zd rfl (by simp only [go_sem, Nat.reduceBEq, h35]; try with_reducible rfl) ?_
 refine aV.skipG Zd rfl (by simp only [go_sem, Nat.reduceBEq, h35]; try with_reducible rfl) ?_
 iterate 4 refine pu rfl (by simp only [go_sem, Nat.reduceBEq, h35]; try with_reducible rfl) ?_
 refine aV.skipG Zd rfl (by simp only [go_sem, Nat.reduceBEq, h35]; try with_reducible rfl) ?_
 refine aV.skipG Zd rfl (by simp only [go_sem, Nat.reduceBEq, h35]; try with_reducible rfl) ?_
 refine aV.skipG Zd rfl (by simp only [go_sem, Nat.reduceBEq, h35]; try with_reducible rfl) ?_
 iterate 2 refine pu rfl (by simp only [go_sem, Nat.reduceBEq, h35]; try with_reducible rfl) ?_
 exact E
def zJ (rec1 : List Int → Int → Int → Option (Int)) (l_0 : List Int) (k_1 : Int) (i_5 : Int) : Option (Int) :=
 (bif (decide (i_5 < (l_0.length : Int))) then
  ((idx l_0 i_5).bind fun x2 =>
  (bif (x2 == k_1) then
   some i_5
  else
   rec1 l_0 k_1 (IntKind.i64.wrap (i_5 + 1))))
 else
  some (-1))
def oR : Nat → List Int → Int → Int → Option (Int)
 | 0 => fun _ _ _ => none
 | n + 1 => zJ (oR n)
def vZ (l_0 : List Int) (k_1 : Int) : Option (Int) :=
 oR bK l_0 k_1 0
theorem aHh {l_0 : List Int} {k_1 : Int} {r : Int} (hm : vZ l_0 k_1 = some r) : aZ Tryz.prog 45 [vl (ci .u64) l_0, vu k_1] (vi r) := by
 refine bd 19 Tryz.func45 ?_
 refine W ?_
 refine lp (fun m s => ∃ l_0 k_1 i_5, s = ⟨19, (aF (aF (aF fa 0 (vl (ci .u64) l_0)) 1 (vu k_1)) 5 (vi i_5)), ⟨aX, 64⟩⟩ ∧ oR m l_0 k_1 i_5 = some r) L ?_
 rintro n1 s ⟨l_0, k_1, i_5, rfl, hm⟩
 refine W ?_
 refine cm hm (fun hm => ?_) fun hm => ?_
 ·
  obtain ⟨x2, h1, hm⟩ := bnd hm
  refine W ?_
  refine cm hm (fun hm => ?_) fun hm => ?_
  · exact E
  exact L
 exact E
def qJ (rec1 : Int → aE → List Int → Int → Option ((List Int))) (a_1 : Int) (m_2 : aE) (cZ : List Int) (i_6 : Int) : Option ((List Int)) :=
 rec1 a_1 m_2 cZ (IntKind.i64.wrap (i_6 + 1))
def aAm (rec1 : Int → aE → List Int → Int → Option ((List Int))) (rec2 : Int → aE → List Int → Int → Int → Int → Option ((List Int))) (a_1 : Int) (m_2 : aE) (cZ : List Int) (i_6 : Int) (wX : Int) (k_9 : Int) : Option ((List Int)) :=
 ((fF ((decide (k_9 < (cZ.length : Int))) == true) 0 (idx cZ k_9)).bind fun x4 =>
 (bif ((decide (k_9 < (cZ.length : Int))) && (decide (x4 < wX))) then
  rec2 a_1 m_2 cZ i_6 wX (IntKind.i64.wrap (k_9 + 1))
 else
  ((slc cZ 0 k_9).bind fun l6 =>
  ((app [] l6).bind fun l8 =>
  ((app l8 [wX]).bind fun l10 =>
  ((slc cZ k_9 (cZ.length : Int)).bind fun l12 =>
  ((app l10 l12).bind fun l14 =>
  qJ rec1 a_1 m_2 l14 i_6)))))))
def pH (rec1 : Int → aE → List Int → Int → Option ((List Int))) : Nat → Int → aE → List Int → Int → Int → Int → Option ((List Int))
 | 0 => fun _ _ _ _ _ _ => none
 | n + 1 => aAm rec1 (pH rec1 n)
def zU (rec1 : Int → aE → List Int → Int → Option ((List Int))) (a_1 : Int) (m_2 : aE) (cZ : List Int) (i_6 : Int) : Option ((List Int)) :=
 (bif (decide (i_6 < (m_2.Pairs.length : Int))) then
  ((idx m_2.Pairs i_6).bind fun x2 =>
  (bif ((x2.x0 != a_1) && (x2.x1 != a_1)) then
   qJ rec1 a_1 m_2 cZ i_6
  else
   pH rec1 bK a_1 m_2 cZ i_6 (IntKind.u64.wrap ((IntKind.u64.wrap (x2.x0 + x2.x1)) - a_1)) 0))
 else
  some cZ)
def iK : Nat → Int → aE → List Int → Int → Option ((List Int))
 | 0 => fun _ _ _ _ => none
 | n + 1 => zU (iK n)
def aB7 (m_0 : aE) (a_1 : Int) : Option ((List Int)) :=
 iK bK a_1 m_0 [] 0
theorem aR4 {m_0 : aE} {a_1 : Int} {r : (List Int)} (hm : aB7 m_0 a_1 = some r) : aZ Tryz.prog 46 [.agg [vi m_0.Most, vl (ci .u64) m_0.Keys, vl bT m_0.Pairs], vu a_1] (vl (ci .u64) r) := by
 refine bd 69 Tryz.func46 ?_
 refine W ?_
 refine lp (fun m s => ∃ a_1 m_2 cZ i_6, s = ⟨69, (aF (aF (aF (aF fa 1 (vu a_1)) 2 (.adr 1 0)) 5 (.own 2 0 cZ.length)) 6 (vi i_6)), ⟨(upd (upd aX 1 (.cells 1 [vi m_2.Most, vl (ci .u64) m_2.Keys, vl bT m_2.Pairs] 0)) 2 (.cells 1 (cZ.flatMap (ci .u64)) 0)), 64⟩⟩ ∧ iK m a_1 m_2 cZ i_6 = some r) ?_ ?_
 ·
  refine ⟨_, ?_, a_1, m_0, [], 0, rfl, hm⟩
  refine St.Le.trans (nX 5 900005 1 Z1 Z5) ?_
  exact cn (fun j => bif j == 1 then 0 else bif j == 2 then 900005 else 0)
 rintro n1 s ⟨a_1, m_2, cZ, i_6, rfl, hm⟩
 refine W ?_
 refine cm hm (fun hm => ?_) fun hm => ?_
 ·
  refine V ?_
  refine AWp.seqJ (fun s => ∃ a_1 m_2 cZ i_6, s = ⟨69, (aF (aF (aF (aF fa 1 (vu a_1)) 2 (.adr 1 0)) 5 (.own 2 0 cZ.length)) 6 (vi i_6)), ⟨(upd (upd aX 1 (.cells 1 [vi m_2.Most, vl (ci .u64) m_2.Keys, vl bT m_2.Pairs] 0)) 2 (.cells 1 (cZ.flatMap (ci .u64)) 0)), 64⟩⟩ ∧ qJ (iK n1) a_1 m_2 cZ i_6 = some r) ?_ ?_
  ·
   obtain ⟨x2, h1, hm⟩ := bnd hm
   refine W ?_
   refine cm hm (fun hm => ?_) fun hm => ?_
   ·
    refine W ?_
    exact Lr (fun j => bif j == 1 then 1 else bif j == 2 then 2 else 0)
   refine W ?_
   refine lp (fun m s => ∃ a_1 m_2 cZ i_6 wX k_9, s = ⟨69, (aF (aF (aF (aF (aF (aF fa 1 (vu a_1)) 2 (.adr 1 0)) 5 (.own 2 0 cZ.length)) 6 (vi i_6)) 8 (vu wX)) 9 (vi k_9)), ⟨(upd (upd aX 1 (.cells 1 [vi m_2.Most, vl (ci .u64) m_2.Keys, vl bT m_2.Pairs] 0)) 2 (.cells 1 (cZ.flatMap (ci .u64)) 0)), 64⟩⟩ ∧ pH (iK n1) m a_1 m_2 cZ i_6 wX k_9 = some r) (Lr (fun j => bif j == 1 then 1 else bif j == 2 then 2 else 0)) ?_
   rintro n2 s ⟨a_1, m_2, cZ, i_6, wX, k_9, rfl, hm⟩
   obtain ⟨x4, h3, hm⟩ := bnd hm
   refine W ?_
   refine cm hm (fun hm => ?_) fun hm => ?_
   ·
    refine W ?_
    exact Lr (fun j => bif j == 1 then 1 else bif j == 2 then 2 else 0)
   iterate 8 refine S1 ?_
   refine AWp.seq' ?_
   refine AWp.weaken (aJb (CFi .u64) 5 2 Z1 Z3 Z6) ?_
   obtain ⟨l6, h5, hm⟩ := bnd hm
   obtain ⟨l8, h7, hm⟩ := bnd hm
   refine W ?_
   refine aL (CFi .u64) [wX] ?_
   obtain ⟨l10, h9, hm⟩ := bnd hm
   obtain ⟨l12, h11, hm⟩ := bnd hm
   obtain ⟨l14, h13, hm⟩ := bnd hm
   refine W ?_
   exact Lr (fun j => bif j == 1 then 1 else bif j == 2 then 324 else 0)
  rintro s ⟨a_1, m_2, cZ, i_6, rfl, hm⟩
  refine W ?_
  exact Lr (fun j => bif j == 1 then 1 else bif j == 2 then 2 else 0)
 exact E
def aA3 (a_0 : Int) (b_1 : Int) (t4 : aO) : Option (aO) :=
 some (aO.mk a_0 b_1)
def wT (a_0 : Int) (b_1 : Int) : Option (aO) :=
 (bif (decide (b_1 < a_0)) then
  aA3 b_1 a_0 (aO.mk 0 0)
 else
  aA3 a_0 b_1 (aO.mk 0 0))
theorem aS4 {a_0 : Int} {b_1 : Int} {r : aO} (hm : wT a_0 b_1 = some r) : aZ Tryz.prog 47 [vu a_0, vu b_1] (.agg [vu r.x0, vu r.x1]) := by
 refine bd 13 Tryz.func47 ?_
 refine V ?_
 refine AWp.seqJ (fun s => ∃ a_0 b_1 t4, s = ⟨13, (aF (aF (aF fa 0 (vu a_0)) 1 (vu b_1)) 4 (.adr 1 0)), ⟨(upd aX 1 (.cells 1 [vu t4.x0, vu t4.x1] 0)), 64⟩⟩ ∧ aA3 a_0 b_1 t4 = some r) ?_ ?_
 ·
  refine W ?_
  refine cm hm (fun hm => ?_) fun hm => ?_
  ·
   refine W ?_
   exact Lr (fun j => bif j == 1 then 0 else 0)
  refine W ?_
  exact Lr (fun j => bif j == 1 then 0 else 0)
 rintro s ⟨a_0, b_1, t4, rfl, hm⟩
 refine W ?_
 refine pu rfl (by simp only [go_sem, Nat.reduceBEq]; exact (by kernel_rfl : cL Tryz.prog 69 [(0, .v (.int .u64 a_0)), (1, .v (.int .u64 b_1))] = some (.agg [.v (.int .u64 a_0), .v (.int .u64 b_1)]))) ?_
 exact E
def aEa (rec1 : List aO → aO → Int → Option (Int)) (l_0 : List aO) (p_3 : aO) (i_5 : Int) : Option (Int) :=
 (bif (decide (i_5 < (l_0.length : Int))) then
  ((idx l_0 i_5).bind fun x2 =>
  (bif (aKn x2 p_3) then
   some i_5
  else
   rec1 l_0 p_3 (IntKind.i64.wrap (i_5 + 1))))
 else
  some (-1))
def vL : Nat → List aO → aO → Int → Option (Int)
 | 0 => fun _ _ _ => none
 | n + 1 => aEa (vL n)
def aCk (l_0 : List aO) (p_1 : aO) : Option (Int) :=
 vL bK l_0 p_1 0
theorem aZ9 {l_0 : List aO} {p_1 : aO} {r : Int} (hm : aCk l_0 p_1 = some r) : aZ Tryz.prog 48 [vl bT l_0, .agg [vu p_1.x0, vu p_1.x1]] (vi r) := by
 refine bd 19 Tryz.func48 ?_
 refine W ?_
 refine lp (fun m s => ∃ l_0 p_3 i_5, s = ⟨19, (aF (aF (aF fa 0 (vl bT l_0)) 3 (.adr 1 0)) 5 (vi i_5)), ⟨(upd aX 1 (.cells 1 [vu p_3.x0, vu p_3.x1] 0)), 64⟩⟩ ∧ vL m l_0 p_3 i_5 = some r) (Lr (fun j => bif j == 1 then 0 else 0)) ?_
 rintro n1 s ⟨l_0, p_3, i_5, rfl, hm⟩
 refine W ?_
 refine cm hm (fun hm => ?_) fun hm => ?_
 ·
  obtain ⟨x2, h1, hm⟩ := bnd hm
  iterate 2 refine S1 ?_
  refine AWp.seq' ?_
  iterate 7 refine S1 ?_
  refine aV.pop Zd (aE9 Z1 Z1 (.agg _ (eE.dat x2)) (.agg _ (eE.dat p_3))) (aVo Tryz.underlying69 Tryz.underlying43 aFa (by kernel_rfl) Z1 Z1) rfl ?_
  refine W ?_
  refine cm hm (fun hm => ?_) fun hm => ?_
  · exact E
  refine W ?_
  exact Lr (fun j => bif j == 1 then 1 else 0)
 exact E
def eT (m_0 : aE) (xI : Int) (a_2 : Int) (b_3 : Int) : Option (aE × Int) :=
 ((vZ m_0.Keys a_2).bind fun r2 =>
 (bif (xI == 1) then
  (bif (decide (0 ≤ r2)) then
   some (m_0, 4)
  else
   (bif (decide (m_0.Most ≤ (m_0.Keys.length : Int))) then
    some (m_0, 10)
   else
    ((app [] m_0.Keys).bind fun l4 =>
    ((app l4 [a_2]).bind fun l6 =>
    some ((aE.mk m_0.Most l6 m_0.Pairs), 0)))))
 else
  ((fF (((decide (r2 < 0)) == false) && ((decide (2 < xI)) == true)) 0 (vZ m_0.Keys b_3)).bind fun r8 =>
  (bif ((decide (r2 < 0)) || ((decide (2 < xI)) && (decide (r8 < 0)))) then
   some (m_0, 7)
  else
   (bif (xI == 2) then
    ((aB7 m_0 a_2).bind fun r10 =>
    (bif (decide (0 < (r10.length : Int))) then
     some (m_0, 11)
    else
     ((slc m_0.Keys 0 r2).bind fun l12 =>
     ((app [] l12).bind fun l14 =>
     ((slc m_0.Keys (IntKind.i64.wrap (r2 + 1)) (m_0.Keys.length : Int)).bind fun l16 =>
     ((app l14 l16).bind fun l18 =>
     some ((aE.mk m_0.Most l18 m_0.Pairs), 0)))))))
   else
    ((wT a_2 b_3).bind fun r20 =>
    ((aCk m_0.Pairs r20).bind fun r22 =>
    (bif (xI == 4) then
     (bif (decide (r22 < 0)) then
      some (m_0, 9)
     else
      ((slc m_0.Pairs 0 r22).bind fun l24 =>
      ((app [] l24).bind fun l26 =>
      ((slc m_0.Pairs (IntKind.i64.wrap (r22 + 1)) (m_0.Pairs.length : Int)).bind fun l28 =>
      ((app l26 l28).bind fun l30 =>
      some ((aE.mk m_0.Most m_0.Keys l30), 0))))))
    else
     (bif (a_2 == b_3) then
      some (m_0, 8)
     else
      (bif (decide (0 ≤ r22)) then
       some (m_0, 4)
      else
       ((app [] m_0.Pairs).bind fun l32 =>
       ((app l32 [r20]).bind fun l34 =>
       some ((aE.mk m_0.Most m_0.Keys l34), 0)))))))))))))
theorem aMk {m_0 : aE} {xI : Int} {a_2 : Int} {b_3 : Int} {r : aE × Int} (hm : eT m_0 xI a_2 b_3 = some r) : aZ Tryz.prog 18 [.agg [vi m_0.Most, vl (ci .u64) m_0.Keys, vl bT m_0.Pairs], vi xI, vu a_2, vu b_3] (.tup [.agg [vi r.1.Most, vl (ci .u64) r.1.Keys, vl bT r.1.Pairs], vi r.2]) := by
 refine bd 135 Tryz.func18 ?_
 obtain ⟨r2, h1, hm⟩ := bnd hm
 refine W ?_
 refine cq (aHh h1) ?_
 refine W ?_
 refine cm hm (fun hm => ?_) fun hm => ?_
 ·
  refine W ?_
  refine cm hm (fun hm => ?_) fun hm => ?_
  · exact E
  refine W ?_
  refine cm hm (fun hm => ?_) fun hm => ?_
  · exact E
  obtain ⟨l4, h3, hm⟩ := bnd hm
  refine W ?_
  refine AWp.regW [(4, 0), (8, 1)] [(36, 0), (42, 0)] [38, 11] 64 mix (by kernel_rfl) (by kernel_rfl) (IV.cons (off := 0) Z1 (IV.cons (off := 0) Z1 IV.nil)) (by intro q hq; simp only [List.mem_cons, List.not_mem_nil, or_false] at hq; rcases hq with rfl | rfl <;> ((try simp only [sD, Nat.reduceBEq, cond_true, cond_false]); first | exact .inl rfl | exact .inr rfl)) (by intro k hk q hq; simp only [List.mem_cons, List.not_mem_nil, or_false] at hk; rcases hk with rfl | rfl <;> (simp only [List.mem_cons, List.not_mem_nil, or_false] at hq; rcases hq with rfl | rfl <;> (try simp only [sD, Nat.reduceBEq, cond_true, cond_false]) <;> (intro h; first | (cases h; done) | (simp [cI] at h; done)))) (N' := 512) rfl ?_
  refine W ?_
  refine aL (CFi .u64) [a_2] ?_
  obtain ⟨l6, h5, hm⟩ := bnd hm
  refine W ?_
  refine pu rfl (by simp only [go_sem, Nat.reduceBEq]; exact (by kernel_rfl : cL Tryz.prog 42 [(0, .v (.int .i64 m_0.Most)), (1, .own 453 0 l6.length), (2, .sl (m_0.Pairs.flatMap bT) m_0.Pairs.length false)] = some (.agg [.v (.int .i64 m_0.Most), .own 453 0 l6.length, .sl (m_0.Pairs.flatMap bT) m_0.Pairs.length false]))) ?_
  exact E
 obtain ⟨r8, h7, hm⟩ := bnd hm
 refine W ?_
 refine cg (fun hb => aHh (cJ h7 hb)) ?_
 refine W ?_
 refine cm hm (fun hm => ?_) fun hm => ?_
 · exact E
 refine W ?_
 refine cm hm (fun hm => ?_) fun hm => ?_
 ·
  obtain ⟨r10, h9, hm⟩ := bnd hm
  refine W ?_
  refine cq (aR4 h9) ?_
  refine W ?_
  refine cm hm (fun hm => ?_) fun hm => ?_
  · exact E
  obtain ⟨l12, h11, hm⟩ := bnd hm
  obtain ⟨l14, h13, hm⟩ := bnd hm
  refine W ?_
  refine AWp.regW [(4, 0), (8, 1)] [(73, 0), (76, 0), (82, 0)] [75, 12] 64 mix (by kernel_rfl) (by kernel_rfl) (IV.cons (off := 0) Z1 (IV.cons (off := 0) Z1 IV.nil)) (by intro q hq; simp only [List.mem_cons, List.not_mem_nil, or_false] at hq; rcases hq with rfl | rfl | rfl <;> ((try simp only [sD, Nat.reduceBEq, cond_true, cond_false]); first | exact .inl rfl | exact .inr rfl)) (by intro k hk q hq; simp only [List.mem_cons, List.not_mem_nil, or_false] at hk; rcases hk with rfl | rfl <;> (simp only [List.mem_cons, List.not_mem_nil, or_false] at hq; rcases hq with rfl | rfl <;> (try simp only [sD, Nat.reduceBEq, cond_true, cond_false]) <;> (intro h; first | (cases h; done) | (simp [cI] at h; done)))) (N' := 576) rfl ?_
  obtain ⟨l16, h15, hm⟩ := bnd hm
  obtain ⟨l18, h17, hm⟩ := bnd hm
  refine W ?_
  refine pu rfl (by simp only [go_sem, Nat.reduceBEq]; exact (by kernel_rfl : cL Tryz.prog 42 [(0, .v (.int .i64 m_0.Most)), (1, .own 520 0 l18.length), (2, .sl (m_0.Pairs.flatMap bT) m_0.Pairs.length false)] = some (.agg [.v (.int .i64 m_0.Most), .own 520 0 l18.length, .sl (m_0.Pairs.flatMap bT) m_0.Pairs.length false]))) ?_
  exact E
 obtain ⟨r20, h19, hm⟩ := bnd hm
 refine W ?_
 refine cq (aS4 h19) ?_
 obtain ⟨r22, h21, hm⟩ := bnd hm
 refine W ?_
 refine cq (aZ9 h21) ?_
 refine W ?_
 refine cm hm (fun hm => ?_) fun hm => ?_
 ·
  refine W ?_
  refine cm hm (fun hm => ?_) fun hm => ?_
  · exact E
  obtain ⟨l24, h23, hm⟩ := bnd hm
  obtain ⟨l26, h25, hm⟩ := bnd hm
  refine W ?_
  refine AWp.regW [(4, 0), (8, 1)] [(103, 0), (105, 0), (108, 0)] [107, 15] 64 mix (by kernel_rfl) (by kernel_rfl) (IV.cons (off := 0) Z1 (IV.cons (off := 0) Z1 IV.nil)) (by intro q hq; simp only [List.mem_cons, List.not_mem_nil, or_false] at hq; rcases hq with rfl | rfl | rfl <;> ((try simp only [sD, Nat.reduceBEq, cond_true, cond_false]); first | exact .inl rfl | exact .inr rfl)) (by intro k hk q hq; simp only [List.mem_cons, List.not_mem_nil, or_false] at hk; rcases hk with rfl | rfl <;> (simp only [List.mem_cons, List.not_mem_nil, or_false] at hq; rcases hq with rfl | rfl <;> (try simp only [sD, Nat.reduceBEq, cond_true, cond_false]) <;> (intro h; first | (cases h; done) | (simp [cI] at h; done)))) (N' := 768) rfl ?_
  obtain ⟨l28, h27, hm⟩ := bnd hm
  obtain ⟨l30, h29, hm⟩ := bnd hm
  refine W ?_
  refine pu rfl (by simp only [go_sem, Nat.reduceBEq]; exact (by kernel_rfl : cL Tryz.prog 42 [(0, .v (.int .i64 m_0.Most)), (1, .sl (m_0.Keys.flatMap (ci .u64)) m_0.Keys.length false), (2, .own 714 0 l30.length)] = some (.agg [.v (.int .i64 m_0.Most), .sl (m_0.Keys.flatMap (ci .u64)) m_0.Keys.length false, .own 714 0 l30.length]))) ?_
  exact E
 refine W ?_
 refine cm hm (fun hm => ?_) fun hm => ?_
 · exact E
 refine W ?_
 refine cm hm (fun hm => ?_) fun hm => ?_
 · exact E
 obtain ⟨l32, h31, hm⟩ := bnd hm
 refine W ?_
 refine AWp.regW [(4, 0), (8, 1), (13, 323)] [(126, 0), (128, 0)] [130, 15] 64 mix (by kernel_rfl) (by kernel_rfl) (IV.cons (off := 0) Z1 (IV.cons (off := 0) Z1 (IV.cons (off := 0) Z1 IV.nil))) (by intro q hq; simp only [List.mem_cons, List.not_mem_nil, or_false] at hq; rcases hq with rfl | rfl <;> ((try simp only [sD, Nat.reduceBEq, cond_true, cond_false]); first | exact .inl rfl | exact .inr rfl)) (by intro k hk q hq; simp only [List.mem_cons, List.not_mem_nil, or_false] at hk; rcases hk with rfl | rfl <;> (simp only [List.mem_cons, List.not_mem_nil, or_false] at hq; rcases hq with rfl | rfl | rfl <;> (try simp only [sD, Nat.reduceBEq, cond_true, cond_false]) <;> (intro h; first | (cases h; done) | (simp [cI] at h; done)))) (N' := 832) rfl ?_
 refine W ?_
 refine aL eE [r20] ?_
 obtain ⟨l34, h33, hm⟩ := bnd hm
 refine W ?_
 refine pu rfl (by simp only [go_sem, Nat.reduceBEq]; exact (by kernel_rfl : cL Tryz.prog 42 [(0, .v (.int .i64 m_0.Most)), (1, .sl (m_0.Keys.flatMap (ci .u64)) m_0.Keys.length false), (2, .own 775 0 l34.length)] = some (.agg [.v (.int .i64 m_0.Most), .sl (m_0.Keys.flatMap (ci .u64)) m_0.Keys.length false, .own 775 0 l34.length]))) ?_
 exact E
def uE (kV : GA) (zN : Bool) : Option (Bool) :=
 ((aSt 4 kV).bind fun ⟨r2, r3⟩ =>
 some (r3 && (r2 == zN)))
theorem aF7 {kV : GA} {zN : Bool} {r : Bool} (hm : uE kV zN = some r) : aZ Tryz.prog 29 [GA.av kV, vb zN] (vb r) := by
 refine bd 18 Tryz.func29 ?_
 refine W ?_
 obtain ⟨⟨r2, r3⟩, h1, hm⟩ := bnd hm
 refine pu rfl (aXr Tryz.underlying4 in4 tz4 Z1 h1) ?_
 exact E
def xP (kV : GA) (zN : Int) : Option (Bool) :=
 ((bAd .i64 3 kV).bind fun ⟨r5, r6⟩ =>
 some (r6 && (r5 == zN)))
theorem aLt {kV : GA} {zN : Int} {r : Bool} (hm : xP kV zN = some r) : aZ Tryz.prog 28 [GA.av kV, vi zN] (vb r) := by
 refine bd 18 Tryz.func28 ?_
 refine W ?_
 obtain ⟨⟨r5, r6⟩, h4, hm⟩ := bnd hm
 refine pu rfl (bBz Tryz.underlying3 in3 tz3 Z1 h4) ?_
 exact E
end Go.Proofs.YtkdohhmacfoolaaGreat
