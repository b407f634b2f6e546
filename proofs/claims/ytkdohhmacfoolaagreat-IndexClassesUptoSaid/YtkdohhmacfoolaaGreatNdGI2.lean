/- Facts that the statement's proof is made of. No condition. -/
import Derived.Test.YtkdohhmacfoolaaGreatNdGI1
import Derived.Test.YtkdohhmacfoolaaGreatNdPl
set_option linter.unusedVariables false
set_option linter.unusedSimpArgs false
set_option maxRecDepth 20000
set_option maxHeartbeats 4000000
namespace Go.Proofs.YtkdohhmacfoolaaGreat
open Go Go.AM
structure oI where
 Used : Bool
 Key : Int
deriving DecidableEq
def mU (e : oI) : List AV := [.v (.bool e.Used), .v (.int .u64 e.Key)]
theorem yN (e : oI) (r : List AV) : mU e ++ r = .v (.bool e.Used) :: .v (.int .u64 e.Key) :: r := rfl
attribute [go_sem] yN
structure tU where
 Graph : aG
 Slots : List oI
deriving DecidableEq
def aBi (e : tU) : List AV := [.v (.int .i64 e.Graph.Config.N), .v (.int .i64 e.Graph.Config.L), .v (.int .i64 e.Graph.Config.R), .sl (e.Graph.Hashes.flatMap bH) e.Graph.Hashes.length false, .sl (e.Graph.Edges.flatMap aT) e.Graph.Edges.length false, .sl (e.Slots.flatMap mU) e.Slots.length false]
theorem xU (e : tU) (r : List AV) : aBi e ++ r = .v (.int .i64 e.Graph.Config.N) :: .v (.int .i64 e.Graph.Config.L) :: .v (.int .i64 e.Graph.Config.R) :: .sl (e.Graph.Hashes.flatMap bH) e.Graph.Hashes.length false :: .sl (e.Graph.Edges.flatMap aT) e.Graph.Edges.length false :: .sl (e.Slots.flatMap mU) e.Slots.length false :: r := rfl
attribute [go_sem] xU
structure aE where
 Most : Int
 Keys : List Int
 Pairs : List aR
deriving DecidableEq
def aBv (e : aE) : List AV := [.v (.int .i64 e.Most), .sl (e.Keys.flatMap (ci .u64)) e.Keys.length false, .sl (e.Pairs.flatMap bQ) e.Pairs.length false]
theorem yE (e : aE) (r : List AV) : aBv e ++ r = .v (.int .i64 e.Most) :: .sl (e.Keys.flatMap (ci .u64)) e.Keys.length false :: .sl (e.Pairs.flatMap bQ) e.Pairs.length false :: r := rfl
attribute [go_sem] yE
theorem aUd (xs : List AV) : aI Tryz.prog 102 (.ptr (xs)) 0 = some (.ptr xs) := by kernel_rfl
attribute [go_sem] aUd
theorem aUc (x0 : AV) (xs : List AV) : aI Tryz.prog 102 (.ptr (x0 :: xs)) 1 = some (.ptr xs) := by kernel_rfl
attribute [go_sem] aUc
theorem aT0 (x0 : AV) (xs : List AV) : aI Tryz.prog 104 (.ptr (x0 :: xs)) 1 = some (.ptr xs) := by kernel_rfl
attribute [go_sem] aT0
theorem aSs (xs : List AV) : aI Tryz.prog 151 (.ptr (xs)) 0 = some (.ptr xs) := by kernel_rfl
attribute [go_sem] aSs
theorem aUh (x0 : AV) (xs : List AV) : aI Tryz.prog 151 (.ptr (x0 :: xs)) 1 = some (.ptr xs) := by kernel_rfl
attribute [go_sem] aUh
theorem aV0 (i o : Nat) : aI Tryz.prog 102 (.adr i o) 0 = some (.adr i (o + 0)) := by kernel_rfl
attribute [go_sem] aV0
theorem aVp (i o : Nat) : aI Tryz.prog 102 (.adr i o) 1 = some (.adr i (o + 1)) := by kernel_rfl
attribute [go_sem] aVp
theorem aTp (i o : Nat) : aI Tryz.prog 104 (.adr i o) 0 = some (.adr i (o + 0)) := by kernel_rfl
attribute [go_sem] aTp
theorem aVt (i o : Nat) : aI Tryz.prog 151 (.adr i o) 0 = some (.adr i (o + 0)) := by kernel_rfl
attribute [go_sem] aVt
theorem aTs (i o : Nat) : aI Tryz.prog 151 (.adr i o) 1 = some (.adr i (o + 1)) := by kernel_rfl
attribute [go_sem] aTs
theorem aXi (i o : Nat) : aI Tryz.prog 23 (.adr i o) 0 = some (.adr i (o + 0)) := by kernel_rfl
attribute [go_sem] aXi
theorem aYl (i o : Nat) : aI Tryz.prog 23 (.adr i o) 1 = some (.adr i (o + 1)) := by kernel_rfl
attribute [go_sem] aYl
theorem aYp (i o : Nat) : aI Tryz.prog 23 (.adr i o) 2 = some (.adr i (o + 2)) := by kernel_rfl
attribute [go_sem] aYp
theorem aYg (i o : Nat) : aI Tryz.prog 30 (.adr i o) 0 = some (.adr i (o + 0)) := by kernel_rfl
attribute [go_sem] aYg
theorem aYr (i o : Nat) : aI Tryz.prog 30 (.adr i o) 1 = some (.adr i (o + 3)) := by kernel_rfl
attribute [go_sem] aYr
theorem aZj (i o : Nat) : aI Tryz.prog 30 (.adr i o) 2 = some (.adr i (o + 4)) := by kernel_rfl
attribute [go_sem] aZj
theorem aYk (i o : Nat) : aI Tryz.prog 33 (.adr i o) 0 = some (.adr i (o + 0)) := by kernel_rfl
attribute [go_sem] aYk
theorem aXr (i o : Nat) : aI Tryz.prog 33 (.adr i o) 1 = some (.adr i (o + 5)) := by kernel_rfl
attribute [go_sem] aXr
theorem aXk (i o : Nat) : aI Tryz.prog 35 (.adr i o) 1 = some (.adr i (o + 1)) := by kernel_rfl
attribute [go_sem] aXk
theorem aZ1 (i o : Nat) : aI Tryz.prog 42 (.adr i o) 0 = some (.adr i (o + 0)) := by kernel_rfl
attribute [go_sem] aZ1
theorem aXg (i o : Nat) : aI Tryz.prog 42 (.adr i o) 1 = some (.adr i (o + 1)) := by kernel_rfl
attribute [go_sem] aXg
theorem aXl (i o : Nat) : aI Tryz.prog 42 (.adr i o) 2 = some (.adr i (o + 2)) := by kernel_rfl
attribute [go_sem] aXl
theorem aZn (i o : Nat) : aI Tryz.prog 45 (.adr i o) 0 = some (.adr i (o + 0)) := by kernel_rfl
attribute [go_sem] aZn
theorem aYy (i o : Nat) : aI Tryz.prog 45 (.adr i o) 1 = some (.adr i (o + 1)) := by kernel_rfl
attribute [go_sem] aYy
theorem aXy (i o : Nat) : aI Tryz.prog 45 (.adr i o) 2 = some (.adr i (o + 2)) := by kernel_rfl
attribute [go_sem] aXy
theorem aYe (i o : Nat) : aI Tryz.prog 45 (.adr i o) 3 = some (.adr i (o + 3)) := by kernel_rfl
attribute [go_sem] aYe
theorem bA4 (i o : Nat) : aI Tryz.prog 56 (.adr i o) 0 = some (.adr i (o + 0)) := by kernel_rfl
attribute [go_sem] bA4
theorem bA9 (i o : Nat) : aI Tryz.prog 56 (.adr i o) 1 = some (.adr i (o + 5)) := by kernel_rfl
attribute [go_sem] bA9
theorem aXf (i o : Nat) (k : IntKind) : iD Tryz.prog 69 (.adr i o) (.v (.int k 0)) = some (.adr i o) := by kernel_rfl
theorem aZr (i o : Nat) (k : IntKind) : iD Tryz.prog 69 (.adr i o) (.v (.int k 1)) = some (.adr i (o + 1)) := by kernel_rfl
attribute [go_sem] aXf aZr
theorem bBk (H : aH) (x0 x1 x2 : AV) (xs : List AV) : bP Tryz.prog H 102 (.ptr (x0 :: x1 :: x2 :: xs)) = some (.agg [x0, x1, x2]) := by kernel_rfl
attribute [go_sem] bBk
theorem bBf (H : aH) (x0 x1 : AV) (xs : List AV) : bP Tryz.prog H 104 (.ptr (x0 :: x1 :: xs)) = some (.agg [x0, x1]) := by kernel_rfl
attribute [go_sem] bBf
theorem bAk (H : aH) (x0 : AV) (xs : List AV) : bP Tryz.prog H 130 (.ptr (x0 :: xs)) = some (.agg [x0]) := by kernel_rfl
attribute [go_sem] bAk
theorem bAt (H : aH) (x0 x1 : AV) (xs : List AV) : bP Tryz.prog H 151 (.ptr (x0 :: x1 :: xs)) = some (.agg [x0, x1]) := by kernel_rfl
attribute [go_sem] bAt
theorem bFb (H : aH) (x0 x1 x2 : AV) (xs : List AV) : bP Tryz.prog H 23 (.ptr (x0 :: x1 :: x2 :: xs)) = some (.agg [x0, x1, x2]) := by kernel_rfl
attribute [go_sem] bFb
theorem bE5 (H : aH) (x : AV) (xs : List AV) : bP Tryz.prog H 24 (.ptr (x :: xs)) = some x := by kernel_rfl
attribute [go_sem] bE5
theorem bGe (H : aH) (x : AV) (xs : List AV) : bP Tryz.prog H 27 (.ptr (x :: xs)) = some x := by kernel_rfl
attribute [go_sem] bGe
theorem bG4 (H : aH) (x : AV) (xs : List AV) : bP Tryz.prog H 28 (.ptr (x :: xs)) = some x := by kernel_rfl
attribute [go_sem] bG4
theorem bJ4 (H : aH) (x : AV) (xs : List AV) : bP Tryz.prog H 3 (.ptr (x :: xs)) = some x := by kernel_rfl
attribute [go_sem] bJ4
theorem bGj (H : aH) (x0 x1 x2 x3 x4 : AV) (xs : List AV) : bP Tryz.prog H 30 (.ptr (x0 :: x1 :: x2 :: x3 :: x4 :: xs)) = some (.agg [x0, x1, x2, x3, x4]) := by kernel_rfl
attribute [go_sem] bGj
theorem bG6 (H : aH) (x : AV) (xs : List AV) : bP Tryz.prog H 31 (.ptr (x :: xs)) = some x := by kernel_rfl
attribute [go_sem] bG6
theorem bFq (H : aH) (x0 x1 x2 x3 x4 x5 : AV) (xs : List AV) : bP Tryz.prog H 33 (.ptr (x0 :: x1 :: x2 :: x3 :: x4 :: x5 :: xs)) = some (.agg [x0, x1, x2, x3, x4, x5]) := by kernel_rfl
attribute [go_sem] bFq
theorem bJ3 (H : aH) (x : AV) (xs : List AV) : bP Tryz.prog H 4 (.ptr (x :: xs)) = some x := by kernel_rfl
attribute [go_sem] bJ3
theorem bFe (H : aH) (x : AV) (xs : List AV) : bP Tryz.prog H 40 (.ptr (x :: xs)) = some x := by kernel_rfl
attribute [go_sem] bFe
theorem bFp (H : aH) (x0 x1 x2 : AV) (xs : List AV) : bP Tryz.prog H 42 (.ptr (x0 :: x1 :: x2 :: xs)) = some (.agg [x0, x1, x2]) := by kernel_rfl
attribute [go_sem] bFp
theorem bG2 (H : aH) (x : AV) (xs : List AV) : bP Tryz.prog H 43 (.ptr (x :: xs)) = some x := by kernel_rfl
attribute [go_sem] bG2
theorem bEw (H : aH) (x0 x1 x2 x3 : AV) (xs : List AV) : bP Tryz.prog H 45 (.ptr (x0 :: x1 :: x2 :: x3 :: xs)) = some (.agg [x0, x1, x2, x3]) := by kernel_rfl
attribute [go_sem] bEw
theorem bGu (H : aH) (x : AV) (xs : List AV) : bP Tryz.prog H 54 (.ptr (x :: xs)) = some x := by kernel_rfl
attribute [go_sem] bGu
theorem bEn (H : aH) (x0 x1 x2 x3 x4 x5 : AV) (xs : List AV) : bP Tryz.prog H 56 (.ptr (x0 :: x1 :: x2 :: x3 :: x4 :: x5 :: xs)) = some (.agg [x0, x1, x2, x3, x4, x5]) := by kernel_rfl
attribute [go_sem] bEn
theorem bGi (H : aH) (x0 x1 : AV) (xs : List AV) : bP Tryz.prog H 69 (.ptr (x0 :: x1 :: xs)) = some (.agg [x0, x1]) := by kernel_rfl
attribute [go_sem] bGi
theorem bJ7 (H : aH) (x : AV) (xs : List AV) : bP Tryz.prog H 9 (.ptr (x :: xs)) = some x := by kernel_rfl
attribute [go_sem] bJ7
theorem aYx (H : aH) (k : IntKind) (n : Int) : nH Tryz.prog H 3 43 (.v (.int k n)) = some (.v (.int .u64 (IntKind.u64.wrap n))) := gL Tryz.underlying3 Tryz.underlying43
attribute [go_sem] aYx
theorem aYa (H : aH) (k : IntKind) (n : Int) : nH Tryz.prog H 5 43 (.v (.int k n)) = some (.v (.int .u64 (IntKind.u64.wrap n))) := gL Tryz.underlying5 Tryz.underlying43
attribute [go_sem] aYa
theorem aY5 (H : aH) (k : IntKind) (n : Int) : nH Tryz.prog H 43 3 (.v (.int k n)) = some (.v (.int .i64 (IntKind.i64.wrap n))) := gL Tryz.underlying43 Tryz.underlying3
attribute [go_sem] aY5
theorem aZt (H : aH) (k : IntKind) (n : Int) : nH Tryz.prog H 43 5 (.v (.int k n)) = some (.v (.int .u8 (IntKind.u8.wrap n))) := gL Tryz.underlying43 Tryz.underlying5
attribute [go_sem] aZt
def aRy (rec1 : Int → List Int → Int → Int → Option (Int)) (aDw : Int) (t6 : List Int) (t7 : Int) (t8 : Int) : Option (Int) :=
 (bif (decide (t8 < t7)) then
  ((idx t6 t8).bind fun x2 =>
  (bif (x2 != aDw) then
   some x2
  else
   rec1 aDw t6 t7 (IntKind.i64.wrap (t8 + 1))))
 else
  some aDw)
def aCj : Nat → Int → List Int → Int → Int → Option (Int)
 | 0 => fun _ _ _ _ => none
 | n + 1 => aRy (aCj n)
def aKy (aKs : List Int) : Option (Int) :=
 aCj bK 0 aKs (aKs.length : Int) 0
theorem aVy {aKs : List Int} {r : Int} (hm : aKy aKs = some r) : aZ Tryz.prog 106 [vl (ci .i64) aKs] (vi r) := by
 refine bd 18 Tryz.func106 ?_
 refine W ?_
 refine lp (fun m s => ∃ aDw t6 t7 t8, s = ⟨18, (aF (aF (aF (aF fa 3 (vi aDw)) 6 (vl (ci .i64) t6)) 7 (vi t7)) 8 (vi t8)), ⟨aX, 64⟩⟩ ∧ aCj m aDw t6 t7 t8 = some r) L ?_
 rintro n1 s ⟨aDw, t6, t7, t8, rfl, hm⟩
 refine W ?_
 refine cm hm (fun hm => ?_) fun hm => ?_
 ·
  obtain ⟨x2, h1, hm⟩ := bnd hm
  refine W ?_
  refine cm hm (fun hm => ?_) fun hm => ?_
  · exact E
  exact L
 exact E
def aAw (p_0 : aR) (q_1 : aR) : Option (Int) :=
 ((oF p_0.x0 q_1.x0).bind fun r2 =>
 ((oF p_0.x1 q_1.x1).bind fun r4 =>
 ((aKy [r2, r4]).bind fun r6 =>
 some r6)))
theorem aJ0 {p_0 : aR} {q_1 : aR} {r : Int} (hm : aAw p_0 q_1 = some r) : aZ Tryz.prog 105 [.agg [vu p_0.x0, vu p_0.x1], .agg [vu q_1.x0, vu q_1.x1]] (vi r) := by
 refine bd 17 Tryz.func105 ?_
 obtain ⟨r2, h1, hm⟩ := bnd hm
 refine W ?_
 refine cq (vK h1) ?_
 obtain ⟨r4, h3, hm⟩ := bnd hm
 refine W ?_
 refine cq (vK h3) ?_
 refine aL (CFi .i64) [r2, r4] ?_
 obtain ⟨r6, h5, hm⟩ := bnd hm
 refine aU.callB (r := .v (.int .i64 r6)) Zd Z1 bPa (.cons (lto (CFi .i64) Z1 Z3 Z6) aOj.nil) bHg (aVy h5) ?_
 exact E
def aLx (rec1 : aD → List aR → List aC → Int → Int → Option ((List aR))) (s_1 : aD) (wM : List aR) (t19 : List aC) (t20 : Int) (t21 : Int) : Option ((List aR)) :=
 (bif (decide (t21 < t20)) then
  ((idx t19 t21).bind fun x4 =>
  ((idx s_1.Slots x4.U).bind fun x6 =>
  ((idx s_1.Slots x4.V).bind fun x8 =>
  ((app wM [(aR.mk (if x8.Key < x6.Key then x8.Key else x6.Key) (if x6.Key < x8.Key then x8.Key else x6.Key))]).bind fun l10 =>
  rec1 s_1 l10 t19 t20 (IntKind.i64.wrap (t21 + 1))))))
 else
  ((aFj (fun x => x.length) wM.length (kF wM (fun x0 x1 => aAw x0 x1))).bind fun l12 =>
  some l12))
def vL : Nat → aD → List aR → List aC → Int → Int → Option ((List aR))
 | 0 => fun _ _ _ _ _ => none
 | n + 1 => aLx (vL n)
def aDo (s_0 : aD) : Option ((List aR)) :=
 ((hD s_0.Graph.Config.N s_0.Graph.Edges s_0.Graph.Config.L).bind fun r2 =>
 vL bK s_0 [] r2 (r2.length : Int) 0)
theorem aMr {s_0 : aD} {r : (List aR)} (hm : aDo s_0 = some r) : aZ Tryz.prog 80 [.agg [vi s_0.Graph.Config.N, vi s_0.Graph.Config.L, vi s_0.Graph.Config.R, vl bH s_0.Graph.Hashes, vl aT s_0.Graph.Edges, vl aW s_0.Slots]] (vl bQ r) := by
 refine bd 53 Tryz.func80 ?_
 obtain ⟨r2, h1, hm⟩ := bnd hm
 refine W ?_
 refine cq (nQ h1) ?_
 refine W ?_
 refine lp (fun m s => ∃ s_1 wM t19 t20 t21, s = ⟨53, (aF (aF (aF (aF (aF fa 1 (.adr 1 0)) 4 (.own 2 0 wM.length)) 19 (vl aT t19)) 20 (vi t20)) 21 (vi t21)), ⟨(upd (upd aX 1 (.cells 1 [vi s_1.Graph.Config.N, vi s_1.Graph.Config.L, vi s_1.Graph.Config.R, vl bH s_1.Graph.Hashes, vl aT s_1.Graph.Edges, vl aW s_1.Slots] 0)) 2 (.cells 2 (wM.flatMap bQ) 0)), 64⟩⟩ ∧ vL m s_1 wM t19 t20 t21 = some r) ?_ ?_
 ·
  refine ⟨_, ?_, s_0, [], r2, (r2.length : Int), 0, rfl, hm⟩
  refine St.Le.trans (oD 4 900004 2 Z1 Z5) ?_
  exact cn (fun j => bif j == 1 then 0 else bif j == 2 then 900004 else 0)
 rintro n1 s ⟨s_1, wM, t19, t20, t21, rfl, hm⟩
 refine W ?_
 refine cm hm (fun hm => ?_) fun hm => ?_
 ·
  obtain ⟨x4, h3, hm⟩ := bnd hm
  obtain ⟨x6, h5, hm⟩ := bnd hm
  obtain ⟨x8, h7, hm⟩ := bnd hm
  refine W ?_
  refine pu rfl (by simp only [go_sem, Nat.reduceBEq]; exact (by kernel_rfl : cL Tryz.prog 69 [(0, .v (.int .u64 (if x8.Key < x6.Key then x8.Key else x6.Key))), (1, .v (.int .u64 (if x6.Key < x8.Key then x8.Key else x6.Key)))] = some (.agg [.v (.int .u64 (if x8.Key < x6.Key then x8.Key else x6.Key)), .v (.int .u64 (if x6.Key < x8.Key then x8.Key else x6.Key))]))) ?_
  refine aL eG [(aR.mk (if x8.Key < x6.Key then x8.Key else x6.Key) (if x6.Key < x8.Key then x8.Key else x6.Key))] ?_
  obtain ⟨l10, h9, hm⟩ := bnd hm
  refine W ?_
  exact Lr (fun j => bif j == 1 then 1 else bif j == 2 then 265 else 0)
 obtain ⟨l12, h11, hm⟩ := bnd hm
 refine W ?_
 have qh11 := aH8 h11
 refine aU.callM Zd Z1 bNn Z1 (aAr (aEp h11) aEq bMb (fun h => aJ0 h) Z3) ?_
 exact E
def gZ (s_0 : aD) (yB : Int) (u_2 : Int) (v_3 : Int) : Option (GA) :=
 ((oJ s_0.Graph).bind fun r2 =>
 (bif (yB == 5) then
  ((lJ s_0.Graph.Edges u_2 v_3).bind fun ⟨r4, r5⟩ =>
  some (GA.b 4 r5))
 else
  (bif (yB == 6) then
   ((sB s_0 u_2).bind fun r7 =>
   some (GA.i 3 .i64 r7))
  else
   (bif (yB == 7) then
    ((tC s_0 u_2).bind fun r9 =>
    ((lZ s_0 r9).bind fun r11 =>
    some (GA.lu 24 r11)))
   else
    (bif (yB == 8) then
     ((idx r2 u_2).bind fun x13 =>
     ((idx r2 v_3).bind fun x15 =>
     some (GA.b 4 (x13 == x15))))
    else
     (bif (yB == 9) then
      ((oM r2 u_2).bind fun r17 =>
      ((lZ s_0 r17).bind fun r19 =>
      some (GA.i 3 .i64 (r19.length : Int))))
     else
      (bif (yB == 10) then
       ((wH s_0 r2).bind fun r21 =>
       some (GA.i 3 .i64 r21))
      else
       (bif (yB == 11) then
        ((oM r2 u_2).bind fun r23 =>
        ((lZ s_0 r23).bind fun r25 =>
        some (GA.lu 24 r25)))
       else
        (bif (yB == 12) then
         ((aDo s_0).bind fun r27 =>
         some (GA.lp 40 r27))
        else
         (bif (yB == 13) then
          ((aG3 s_0.Graph).bind fun r29 =>
          some (GA.b 4 r29))
         else
          none))))))))))
theorem aM3 {s_0 : aD} {yB : Int} {u_2 : Int} {v_3 : Int} {r : GA} (hm : gZ s_0 yB u_2 v_3 = some r) : aZ Tryz.prog 42 [.agg [vi s_0.Graph.Config.N, vi s_0.Graph.Config.L, vi s_0.Graph.Config.R, vl bH s_0.Graph.Hashes, vl aT s_0.Graph.Edges, vl aW s_0.Slots], vi yB, vi u_2, vi v_3] (GA.av r) := by
 refine bd 98 Tryz.func42 ?_
 obtain ⟨r2, h1, hm⟩ := bnd hm
 refine W ?_
 refine cq (aHh h1) ?_
 refine W ?_
 refine cm hm (fun hm => ?_) fun hm => ?_
 ·
  refine W ?_
  obtain ⟨⟨r4, r5⟩, h3, hm⟩ := bnd hm
  refine cq (wA h3) ?_
  exact E
 refine W ?_
 refine cm hm (fun hm => ?_) fun hm => ?_
 ·
  obtain ⟨r7, h6, hm⟩ := bnd hm
  refine W ?_
  refine cq (aDf h6) ?_
  exact E
 refine W ?_
 refine cm hm (fun hm => ?_) fun hm => ?_
 ·
  obtain ⟨r9, h8, hm⟩ := bnd hm
  refine W ?_
  refine cq (aHq h8) ?_
  obtain ⟨r11, h10, hm⟩ := bnd hm
  refine cq (aBa h10) ?_
  refine aU.pop Zd (aBu Z1 ((CFi .u64).sl _ _ _)) (aLu (a := .sl (r11.flatMap (ci .u64)) r11.length false) Tryz.underlying24 (fun _ => by simp) Z1 ((CFi .u64).sl _ _ _) (fun H => (td rfl ((CFi .u64).sl _ _ _)))) rfl ?_
  exact E
 refine W ?_
 refine cm hm (fun hm => ?_) fun hm => ?_
 ·
  obtain ⟨x13, h12, hm⟩ := bnd hm
  obtain ⟨x15, h14, hm⟩ := bnd hm
  exact E
 refine W ?_
 refine cm hm (fun hm => ?_) fun hm => ?_
 ·
  obtain ⟨r17, h16, hm⟩ := bnd hm
  refine W ?_
  refine cq (aC4 h16) ?_
  obtain ⟨r19, h18, hm⟩ := bnd hm
  refine cq (aBa h18) ?_
  exact E
 refine W ?_
 refine cm hm (fun hm => ?_) fun hm => ?_
 ·
  obtain ⟨r21, h20, hm⟩ := bnd hm
  refine W ?_
  refine cq (aLc h20) ?_
  exact E
 refine W ?_
 refine cm hm (fun hm => ?_) fun hm => ?_
 ·
  obtain ⟨r23, h22, hm⟩ := bnd hm
  refine W ?_
  refine cq (aC4 h22) ?_
  obtain ⟨r25, h24, hm⟩ := bnd hm
  refine cq (aBa h24) ?_
  refine aU.pop Zd (aBu Z1 ((CFi .u64).sl _ _ _)) (aLu (a := .sl (r25.flatMap (ci .u64)) r25.length false) Tryz.underlying24 (fun _ => by simp) Z1 ((CFi .u64).sl _ _ _) (fun H => (td rfl ((CFi .u64).sl _ _ _)))) rfl ?_
  exact E
 refine W ?_
 refine cm hm (fun hm => ?_) fun hm => ?_
 ·
  obtain ⟨r27, h26, hm⟩ := bnd hm
  refine W ?_
  refine cq (aMr h26) ?_
  refine aU.pop Zd (aBu Z1 (eG.sl _ _ _)) (aLu (a := .sl (r27.flatMap bQ) r27.length false) Tryz.underlying40 (fun _ => by simp) Z1 (eG.sl _ _ _) (fun H => (td rfl (eG.sl _ _ _)))) rfl ?_
  exact E
 refine W ?_
 refine cm hm (fun hm => ?_) fun hm => ?_
 ·
  obtain ⟨r29, h28, hm⟩ := bnd hm
  refine W ?_
  refine cq (aP6 h28) ?_
  exact E
 cases hm
def kC (f_1 : (aJ → Option (Bool))) (rec1 : List aJ → Int → Int → Option (Int)) (s_0 : List aJ) (t7 : Int) (t8 : Int) : Option (Int) :=
 (bif (decide (t8 < t7)) then
  ((idx s_0 t8).bind fun x2 =>
  ((f_1 x2).bind fun r4 =>
  (bif r4 then
   some t8
  else
   rec1 s_0 t7 (IntKind.i64.wrap (t8 + 1)))))
 else
  some (-1))
def dR (f_1 : (aJ → Option (Bool))) : Nat → List aJ → Int → Int → Option (Int)
 | 0 => fun _ _ _ => none
 | n + 1 => kC f_1 (dR f_1 n)
def kY (s_0 : List aJ) (f_1 : (aJ → Option (Bool))) : Option (Int) :=
 dR f_1 bK s_0 (s_0.length : Int) 0
theorem aB3 {s_0 : List aJ} {f_1 : (aJ → Option (Bool))} {r : Int} (hm : kY s_0 f_1 = some r) {aF6 : FuncId} {uC : List AV} (aLk : ∀ a, a ∈ uC → AM.Data a) (aW6 : (Program.funcs Tryz.prog)[aF6]?.any (fun fn => fn.body.isSome && fn.name != "runtime.NumGoroutine") = true) (aSx : ∀ {x0 r}, f_1 x0 = some r → aZ Tryz.prog aF6 ([.agg [vb x0.Used, vu x0.Key]] ++ uC) (vb r)) : aZ Tryz.prog 112 [vl aW s_0, .clo (.func aF6) [] uC] (vi r) := by
 refine bd 19 Tryz.func112 ?_
 refine W ?_
 refine lp (fun m s => ∃ s_0 t7 t8, s = ⟨19, (aF (aF (aF (aF fa 0 (vl aW s_0)) 1 (.clo (.func aF6) [] uC)) 7 (vi t7)) 8 (vi t8)), ⟨aX, 64⟩⟩ ∧ dR f_1 m s_0 t7 t8 = some r) L ?_
 rintro n1 s ⟨s_0, t7, t8, rfl, hm⟩
 refine W ?_
 refine cm hm (fun hm => ?_) fun hm => ?_
 ·
  obtain ⟨x2, h1, hm⟩ := bnd hm
  obtain ⟨r4, h3, hm⟩ := bnd hm
  refine W ?_
  refine aU.callQC (r := .v (.bool r4)) Zd Z1 aLk aW6 (fun H => (cD (.agg _ (dH.dat _)) .nil)) (aSx h3) ?_
  refine W ?_
  refine cm hm (fun hm => ?_) fun hm => ?_
  · exact E
  exact L
 exact E
def iX (aK5 : aJ) : Option (Bool) :=
 some (!aK5.Used)
theorem aOv {aK5 : aJ} {r : Bool} (hm : iX aK5 = some r) : aZ Tryz.prog 113 [.agg [vb aK5.Used, vu aK5.Key]] (vb r) := by
 refine bd 6 Tryz.func113 ?_
 exact E
def fI (l : List aJ) : Option (List aJ) := app [] l
theorem aE1 {r : List aJ} (hm : some [] = some r) : dB Tryz.prog 114 [.v (.slice none 0 0)] 2 (r.flatMap aW) r.length := by
 refine dB.of_body Tryz.func114 rfl (dH.fmdat r) ?_
 simp only [Tryz.ntmps114, List.length_cons, List.length_nil, Nat.reduceAdd, Nat.reduceSub, eR]
 refine sN 64 (pA ?_)
 refine fs (AWp.seq' (sN 128 (pA ?_)))
 refine pu rfl (tM Z1 Z1 (aFd Tryz.underlying31)) ?_
 refine fs (AWp.condT Z1 ?_)
 refine sN 192 (pA ?_)
 refine fs (AWp.weaken (oD 2 900002 2 Z1 Z5) ?_)
 refine AWp.ret (jD ?_)
 cases hm
 exact aFn (.inr rfl) Tryz.results114 Z1 Z3 Z6
theorem aEb {a : Addr} {c : Nat} {r : List aJ} (hm : ((app [] []).bind fun l2 =>
some l2) = some r) : dB Tryz.prog 114 [.v (.slice (some a) 0 c)] 2 (r.flatMap aW) r.length := by
 refine dB.of_body Tryz.func114 rfl (dH.fmdat r) ?_
 simp only [Tryz.ntmps114, List.length_cons, List.length_nil, Nat.reduceAdd, Nat.reduceSub, eR]
 refine sN 64 (pA ?_)
 refine fs (AWp.seq' (sN 128 (pA ?_)))
 refine pu rfl (tM Z1 Z1 (aCv Tryz.underlying31)) ?_
 refine fs (AWp.condF Z1 ?_)
 refine AWp.skip (bU (sN 192 (hp (id := 128) rfl rfl (lE dH (l := []) Tryz.underlying31 bDn bDd Z5 Zd Zd Zd (by simp only [go_sem, Nat.reduceBEq]; try rfl) (by kernel_rfl)) ?_)))
 refine pA ?_
 obtain ⟨l2, h1, hm⟩ := bnd hm
 refine hp (id := 130) rfl rfl (aE5 dH Tryz.underlying31 Tryz.underlying31 rfl bAo bBj (by rw [aNb]; decide) (by rw [aNb]; decide) bAe Zd Zd Z1 Z3 Z6 (aJq Z1) rfl Z5 h1) ?_
 refine pA ?_
 refine fs (AWp.ret ?_)
 cases hm
 exact aFn (.inr rfl) Tryz.results114 Z1 Z3 Z6
theorem aEo {x0 : aJ} {l0 : List aJ} {r : List aJ} (hm : ((app [] (x0 :: l0)).bind fun l2 =>
some l2) = some r) : dB Tryz.prog 114 [.sl ((x0 :: l0).flatMap aW) (x0 :: l0).length false] 2 (r.flatMap aW) r.length := by
 refine dB.of_body Tryz.func114 rfl (dH.fmdat r) ?_
 simp only [Tryz.ntmps114, List.length_cons, List.length_nil, Nat.reduceAdd, Nat.reduceSub, eR]
 refine sN 64 (pA ?_)
 refine fs (AWp.seq' (sN 128 (pA ?_)))
 refine pu rfl (tM Z1 Z1 (aCs Tryz.underlying31 (by simp))) ?_
 refine fs (AWp.condF Z1 ?_)
 refine AWp.skip (bU (sN 192 (hp (id := 128) rfl rfl (lE dH (l := []) Tryz.underlying31 bDn bDd Z5 Zd Zd Zd (by simp only [go_sem, Nat.reduceBEq]; try rfl) (by kernel_rfl)) ?_)))
 refine pA ?_
 obtain ⟨l2, h1, hm⟩ := bnd hm
 refine hp (id := 130) rfl rfl (aE5 dH Tryz.underlying31 Tryz.underlying31 rfl bAo bBj (by rw [aNb]; decide) (by rw [aNb]; decide) bAe Zd Zd Z1 Z3 Z6 (aN3 dH Z1 rfl) rfl Z5 h1) ?_
 refine pA ?_
 refine fs (AWp.ret ?_)
 cases hm
 exact aFn (.inr rfl) Tryz.results114 Z1 Z3 Z6
theorem xQ {l r : List aJ} (hm : fI l = some r) : dB Tryz.prog 114 [.sl (l.flatMap aW) l.length false] 2 (r.flatMap aW) r.length := by
 cases l with
 | nil =>
  have hr : r = [] := by unfold fI app at hm; simpa using hm.symm
  subst hr
  exact dB.nil_arg (aE1 (r := []) rfl) (fun a c => aEb (r := []) rfl)
 | cons x0 l0 =>
  refine aEo ?_
  show (app [] (x0 :: l0)).bind _ = _
  unfold fI at hm
  rw [hm]; rfl
def yW (l_0 : List aJ) (eE : Int) : Option ((List aJ) × Int × Int) :=
 ((jX l_0).bind fun ⟨r2, r3⟩ =>
 (bif (!r3) then
  some (l_0, 0, 1)
 else
  ((rR r2 eE).bind fun ⟨r5, r6⟩ =>
  (bif r6 then
   some (l_0, 0, 4)
  else
   ((kY l_0 (fun x0 => iX x0)).bind fun r8 =>
   (bif (decide (r8 < 0)) then
    some (l_0, 0, 10)
   else
    ((fI l_0).bind fun r10 =>
    ((idx r10 r8).bind fun x12 =>
    ((stt r10 r8 (aJ.mk true eE)).bind fun l14 =>
    some (l14, r8, 0))))))))))
theorem aT6 {l_0 : List aJ} {eE : Int} {r : (List aJ) × Int × Int} (hm : yW l_0 eE = some r) : aZ Tryz.prog 83 [vl aW l_0, vu eE] (.tup [vl aW r.1, vi r.2.1, vi r.2.2]) := by
 refine bd 43 Tryz.func83 ?_
 refine W ?_
 obtain ⟨⟨r2, r3⟩, h1, hm⟩ := bnd hm
 refine cq (uM h1) ?_
 refine W ?_
 refine cm hm (fun hm => ?_) fun hm => ?_
 · exact E
 refine W ?_
 obtain ⟨⟨r5, r6⟩, h4, hm⟩ := bnd hm
 refine cq (aCq h4) ?_
 refine W ?_
 refine cm hm (fun hm => ?_) fun hm => ?_
 · exact E
 obtain ⟨r8, h7, hm⟩ := bnd hm
 refine W ?_
 refine aU.callQ (r := .v (.int .i64 r8)) Zd Z1 bOq (fun H => (cD (dH.sl _ _ _) (cD (bBa aEq) .nil))) (aB3 h7 aEq bL0 (fun h => aOv h)) ?_
 refine W ?_
 refine cm hm (fun hm => ?_) fun hm => ?_
 · exact E
 obtain ⟨r10, h9, hm⟩ := bnd hm
 refine W ?_
 refine aU.callF (id := 449) Zd Z1 bHm (fun H => (cD (dH.sl _ _ _) .nil)) dH Z5 (xQ h9) ?_
 refine W ?_
 refine pu rfl (by simp only [go_sem, Nat.reduceBEq]; exact (by kernel_rfl : cL Tryz.prog 104 [(0, .v (.bool true)), (1, .v (.int .u64 eE))] = some (.agg [.v (.bool true), .v (.int .u64 eE)]))) ?_
 obtain ⟨x12, h11, hm⟩ := bnd hm
 obtain ⟨l14, h13, hm⟩ := bnd hm
 refine W ?_
 have qh13 := jH h13
 refine aS h13 ?_
 exact E
def rZ (l_0 : List aJ) (eE : Int) : Option ((List aJ) × Int) :=
 ((jX l_0).bind fun ⟨r2, r3⟩ =>
 (bif (!r3) then
  some (l_0, 1)
 else
  ((rR r2 eE).bind fun ⟨r5, r6⟩ =>
  (bif (!r6) then
   some (l_0, 7)
  else
   ((fI l_0).bind fun r8 =>
   ((idx r8 r5).bind fun x10 =>
   ((stt r8 r5 (aJ.mk false 0)).bind fun l12 =>
   some (l12, 0))))))))
theorem aMi {l_0 : List aJ} {eE : Int} {r : (List aJ) × Int} (hm : rZ l_0 eE = some r) : aZ Tryz.prog 84 [vl aW l_0, vu eE] (.tup [vl aW r.1, vi r.2]) := by
 refine bd 35 Tryz.func84 ?_
 refine W ?_
 obtain ⟨⟨r2, r3⟩, h1, hm⟩ := bnd hm
 refine cq (uM h1) ?_
 refine W ?_
 refine cm hm (fun hm => ?_) fun hm => ?_
 · exact E
 refine W ?_
 obtain ⟨⟨r5, r6⟩, h4, hm⟩ := bnd hm
 refine cq (aCq h4) ?_
 refine W ?_
 refine cm hm (fun hm => ?_) fun hm => ?_
 · exact E
 obtain ⟨r8, h7, hm⟩ := bnd hm
 refine W ?_
 refine aU.callF (id := 321) Zd Z1 bHm (fun H => (cD (dH.sl _ _ _) .nil)) dH Z5 (xQ h7) ?_
 refine W ?_
 refine pu rfl (by simp only [go_sem, Nat.reduceBEq]; exact (by kernel_rfl : cL Tryz.prog 104 [] = some (.agg [.v (.bool false), .v (.int .u64 0)]))) ?_
 obtain ⟨x10, h9, hm⟩ := bnd hm
 obtain ⟨l12, h11, hm⟩ := bnd hm
 refine W ?_
 have qh11 := jH h11
 refine aS h11 ?_
 exact E
def eT (s_4 : aD) (t8 : aD) (aLj : Int) : Option (aD × Int) :=
 some (s_4, aLj)
def iY (s_0 : aD) (c_1 : bD) (u_2 : Int) (v_3 : Int) : Option (aD × Int) :=
 (bif (c_1.Do == 1) then
  ((yW s_0.Slots c_1.A).bind fun ⟨r2, r3, r4⟩ =>
  eT (aD.mk s_0.Graph r2) (aD.mk (aG.mk (aN.mk 0 0 0) [] []) []) r4)
 else
  (bif (c_1.Do == 2) then
   ((sB s_0 u_2).bind fun r6 =>
   (bif (decide (0 < r6)) then
    some (s_0, 11)
   else
    ((rZ s_0.Slots c_1.A).bind fun ⟨r8, r9⟩ =>
    eT (aD.mk s_0.Graph r8) (aD.mk (aG.mk (aN.mk 0 0 0) [] []) []) r9)))
  else
   (bif (c_1.Do == 3) then
    ((sD s_0.Graph u_2 v_3).bind fun ⟨r11, r12⟩ =>
    eT (aD.mk r11 s_0.Slots) (aD.mk (aG.mk (aN.mk 0 0 0) [] []) []) r12)
   else
    (bif (c_1.Do == 4) then
     (bif (u_2 == v_3) then
      some (s_0, 9)
     else
      ((rT s_0.Graph u_2 v_3).bind fun ⟨r14, r15⟩ =>
      eT (aD.mk r14 s_0.Slots) (aD.mk (aG.mk (aN.mk 0 0 0) [] []) []) r15))
    else
     (bif (c_1.Do == 15) then
      none
     else
      eT s_0 (aD.mk (aG.mk (aN.mk 0 0 0) [] []) []) 0)))))
theorem aMo {s_0 : aD} {c_1 : bD} {u_2 : Int} {v_3 : Int} {r : aD × Int} (hm : iY s_0 c_1 u_2 v_3 = some r) : aZ Tryz.prog 43 [.agg [vi s_0.Graph.Config.N, vi s_0.Graph.Config.L, vi s_0.Graph.Config.R, vl bH s_0.Graph.Hashes, vl aT s_0.Graph.Edges, vl aW s_0.Slots], .agg [vi c_1.Do, vu c_1.A, vu c_1.B, .v (.string c_1.Text)], vi u_2, vi v_3] (.tup [.agg [vi r.1.Graph.Config.N, vi r.1.Graph.Config.L, vi r.1.Graph.Config.R, vl bH r.1.Graph.Hashes, vl aT r.1.Graph.Edges, vl aW r.1.Slots], vi r.2]) := by
 refine bd 76 Tryz.func43 ?_
 refine V ?_
 refine AWp.seqJ (fun s => ∃ s_4 t8 aLj, s = ⟨76, (aF (aF (aF fa 4 (.adr 1 0)) 8 (.adr 2 0)) 10 (vi aLj)), ⟨(upd (upd aX 1 (.cells 1 [vi s_4.Graph.Config.N, vi s_4.Graph.Config.L, vi s_4.Graph.Config.R, vl bH s_4.Graph.Hashes, vl aT s_4.Graph.Edges, vl aW s_4.Slots] 0)) 2 (.cells 1 [vi t8.Graph.Config.N, vi t8.Graph.Config.L, vi t8.Graph.Config.R, vl bH t8.Graph.Hashes, vl aT t8.Graph.Edges, vl aW t8.Slots] 0)), 64⟩⟩ ∧ eT s_4 t8 aLj = some r) ?_ ?_
 ·
  refine W ?_
  refine cm hm (fun hm => ?_) fun hm => ?_
  ·
   refine W ?_
   obtain ⟨⟨r2, r3, r4⟩, h1, hm⟩ := bnd hm
   refine cq (aT6 h1) ?_
   refine W ?_
   refine ⟨_, ?_, (aD.mk s_0.Graph r2), (aD.mk (aG.mk (aN.mk 0 0 0) [] []) []), r4, rfl, hm⟩
   refine St.Le.trans (iT 2 (ys := [.v (.int .i64 ((((aD.mk (aG.mk (aN.mk 0 0 0) [] []) []).Graph).Config).N)), .v (.int .i64 ((((aD.mk (aG.mk (aN.mk 0 0 0) [] []) []).Graph).Config).L)), .v (.int .i64 ((((aD.mk (aG.mk (aN.mk 0 0 0) [] []) []).Graph).Config).R)), .sl ((((aD.mk (aG.mk (aN.mk 0 0 0) [] []) []).Graph).Hashes).flatMap bH) (((aD.mk (aG.mk (aN.mk 0 0 0) [] []) []).Graph).Hashes).length false, .sl ((((aD.mk (aG.mk (aN.mk 0 0 0) [] []) []).Graph).Edges).flatMap aT) (((aD.mk (aG.mk (aN.mk 0 0 0) [] []) []).Graph).Edges).length false, .sl (((aD.mk (aG.mk (aN.mk 0 0 0) [] []) []).Slots).flatMap aW) ((aD.mk (aG.mk (aN.mk 0 0 0) [] []) []).Slots).length false]) Z3 (.cons (.data _ (.v _)) (.cons (.data _ (.v _)) (.cons (.data _ (.v _)) (.cons (.nil false) (.cons (.nil false) (.cons (.nil false) .nil))))))) ?_
   exact cn (fun j => bif j == 1 then 0 else bif j == 2 then 2 else 0)
  refine W ?_
  refine cm hm (fun hm => ?_) fun hm => ?_
  ·
   obtain ⟨r6, h5, hm⟩ := bnd hm
   refine W ?_
   refine cq (aDf h5) ?_
   refine W ?_
   refine cm hm (fun hm => ?_) fun hm => ?_
   · exact E
   refine W ?_
   obtain ⟨⟨r8, r9⟩, h7, hm⟩ := bnd hm
   refine cq (aMi h7) ?_
   refine W ?_
   refine ⟨_, ?_, (aD.mk s_0.Graph r8), (aD.mk (aG.mk (aN.mk 0 0 0) [] []) []), r9, rfl, hm⟩
   refine St.Le.trans (iT 2 (ys := [.v (.int .i64 ((((aD.mk (aG.mk (aN.mk 0 0 0) [] []) []).Graph).Config).N)), .v (.int .i64 ((((aD.mk (aG.mk (aN.mk 0 0 0) [] []) []).Graph).Config).L)), .v (.int .i64 ((((aD.mk (aG.mk (aN.mk 0 0 0) [] []) []).Graph).Config).R)), .sl ((((aD.mk (aG.mk (aN.mk 0 0 0) [] []) []).Graph).Hashes).flatMap bH) (((aD.mk (aG.mk (aN.mk 0 0 0) [] []) []).Graph).Hashes).length false, .sl ((((aD.mk (aG.mk (aN.mk 0 0 0) [] []) []).Graph).Edges).flatMap aT) (((aD.mk (aG.mk (aN.mk 0 0 0) [] []) []).Graph).Edges).length false, .sl (((aD.mk (aG.mk (aN.mk 0 0 0) [] []) []).Slots).flatMap aW) ((aD.mk (aG.mk (aN.mk 0 0 0) [] []) []).Slots).length false]) Z3 (.cons (.data _ (.v _)) (.cons (.data _ (.v _)) (.cons (.data _ (.v _)) (.cons (.nil false) (.cons (.nil false) (.cons (.nil false) .nil))))))) ?_
   exact cn (fun j => bif j == 1 then 0 else bif j == 2 then 2 else 0)
  refine W ?_
  refine cm hm (fun hm => ?_) fun hm => ?_
  ·
   refine W ?_
   obtain ⟨⟨r11, r12⟩, h10, hm⟩ := bnd hm
   refine cq (aMb h10) ?_
   refine W ?_
   refine ⟨_, ?_, (aD.mk r11 s_0.Slots), (aD.mk (aG.mk (aN.mk 0 0 0) [] []) []), r12, rfl, hm⟩
   refine St.Le.trans (iT 2 (ys := [.v (.int .i64 ((((aD.mk (aG.mk (aN.mk 0 0 0) [] []) []).Graph).Config).N)), .v (.int .i64 ((((aD.mk (aG.mk (aN.mk 0 0 0) [] []) []).Graph).Config).L)), .v (.int .i64 ((((aD.mk (aG.mk (aN.mk 0 0 0) [] []) []).Graph).Config).R)), .sl ((((aD.mk (aG.mk (aN.mk 0 0 0) [] []) []).Graph).Hashes).flatMap bH) (((aD.mk (aG.mk (aN.mk 0 0 0) [] []) []).Graph).Hashes).length false, .sl ((((aD.mk (aG.mk (aN.mk 0 0 0) [] []) []).Graph).Edges).flatMap aT) (((aD.mk (aG.mk (aN.mk 0 0 0) [] []) []).Graph).Edges).length false, .sl (((aD.mk (aG.mk (aN.mk 0 0 0) [] []) []).Slots).flatMap aW) ((aD.mk (aG.mk (aN.mk 0 0 0) [] []) []).Slots).length false]) Z3 (.cons (.data _ (.v _)) (.cons (.data _ (.v _)) (.cons (.data _ (.v _)) (.cons (.nil false) (.cons (.nil false) (.cons (.nil false) .nil))))))) ?_
   exact cn (fun j => bif j == 1 then 0 else bif j == 2 then 2 else 0)
  refine W ?_
  refine cm hm (fun hm => ?_) fun hm => ?_
  ·
   refine W ?_
   refine cm hm (fun hm => ?_) fun hm => ?_
   · exact E
   refine W ?_
   obtain ⟨⟨r14, r15⟩, h13, hm⟩ := bnd hm
   refine cq (aM4 h13) ?_
   refine W ?_
   refine ⟨_, ?_, (aD.mk r14 s_0.Slots), (aD.mk (aG.mk (aN.mk 0 0 0) [] []) []), r15, rfl, hm⟩
   refine St.Le.trans (iT 2 (ys := [.v (.int .i64 ((((aD.mk (aG.mk (aN.mk 0 0 0) [] []) []).Graph).Config).N)), .v (.int .i64 ((((aD.mk (aG.mk (aN.mk 0 0 0) [] []) []).Graph).Config).L)), .v (.int .i64 ((((aD.mk (aG.mk (aN.mk 0 0 0) [] []) []).Graph).Config).R)), .sl ((((aD.mk (aG.mk (aN.mk 0 0 0) [] []) []).Graph).Hashes).flatMap bH) (((aD.mk (aG.mk (aN.mk 0 0 0) [] []) []).Graph).Hashes).length false, .sl ((((aD.mk (aG.mk (aN.mk 0 0 0) [] []) []).Graph).Edges).flatMap aT) (((aD.mk (aG.mk (aN.mk 0 0 0) [] []) []).Graph).Edges).length false, .sl (((aD.mk (aG.mk (aN.mk 0 0 0) [] []) []).Slots).flatMap aW) ((aD.mk (aG.mk (aN.mk 0 0 0) [] []) []).Slots).length false]) Z3 (.cons (.data _ (.v _)) (.cons (.data _ (.v _)) (.cons (.data _ (.v _)) (.cons (.nil false) (.cons (.nil false) (.cons (.nil false) .nil))))))) ?_
   exact cn (fun j => bif j == 1 then 0 else bif j == 2 then 2 else 0)
  refine W ?_
  refine cm hm (fun hm => ?_) fun hm => ?_
  · cases hm
  refine W ?_
  refine ⟨_, ?_, s_0, (aD.mk (aG.mk (aN.mk 0 0 0) [] []) []), 0, rfl, hm⟩
  refine St.Le.trans (iT 2 (ys := [.v (.int .i64 ((((aD.mk (aG.mk (aN.mk 0 0 0) [] []) []).Graph).Config).N)), .v (.int .i64 ((((aD.mk (aG.mk (aN.mk 0 0 0) [] []) []).Graph).Config).L)), .v (.int .i64 ((((aD.mk (aG.mk (aN.mk 0 0 0) [] []) []).Graph).Config).R)), .sl ((((aD.mk (aG.mk (aN.mk 0 0 0) [] []) []).Graph).Hashes).flatMap bH) (((aD.mk (aG.mk (aN.mk 0 0 0) [] []) []).Graph).Hashes).length false, .sl ((((aD.mk (aG.mk (aN.mk 0 0 0) [] []) []).Graph).Edges).flatMap aT) (((aD.mk (aG.mk (aN.mk 0 0 0) [] []) []).Graph).Edges).length false, .sl (((aD.mk (aG.mk (aN.mk 0 0 0) [] []) []).Slots).flatMap aW) ((aD.mk (aG.mk (aN.mk 0 0 0) [] []) []).Slots).length false]) Z3 (.cons (.data _ (.v _)) (.cons (.data _ (.v _)) (.cons (.data _ (.v _)) (.cons (.nil false) (.cons (.nil false) (.cons (.nil false) .nil))))))) ?_
  exact cn (fun j => bif j == 1 then 0 else bif j == 2 then 2 else 0)
 rintro s ⟨s_4, t8, aLj, rfl, hm⟩
 exact E
def dI (s_0 : aD) (c_1 : bD) : Option (aD × GA) :=
 ((fE (((decide (c_1.Do < 1)) || (decide (15 < c_1.Do))) == false) false (sW s_0)).bind fun r2 =>
 (bif (((decide (c_1.Do < 1)) || (decide (15 < c_1.Do))) || (!r2)) then
  some (s_0, (GA.i 36 .i64 1))
 else
  ((oL s_0.Slots c_1.A).bind fun ⟨r4, r5⟩ =>
  ((oL s_0.Slots c_1.B).bind fun ⟨r7, r8⟩ =>
  ((tZ c_1.Do).bind fun r10 =>
  ((fE ((r10 && (!r5)) == false) false (uD c_1.Do)).bind fun r12 =>
  (bif ((r10 && (!r5)) || (r12 && (!r8))) then
   some (s_0, (GA.i 36 .i64 7))
  else
   (bif ((decide (4 < c_1.Do)) && (c_1.Do != 15)) then
    ((gZ s_0 c_1.Do r4 r7).bind fun r14 =>
    some (s_0, r14))
   else
    ((iY s_0 c_1 r4 r7).bind fun ⟨r16, r17⟩ =>
    (bif (r17 != 0) then
     some (s_0, (GA.i 36 .i64 r17))
    else
     some (r16, (GA.i 36 .i64 0))))))))))))
theorem iA {s_0 : aD} {c_1 : bD} {r : aD × GA} (hm : dI s_0 c_1 = some r) : aZ Tryz.prog 15 [.agg [vi s_0.Graph.Config.N, vi s_0.Graph.Config.L, vi s_0.Graph.Config.R, vl bH s_0.Graph.Hashes, vl aT s_0.Graph.Edges, vl aW s_0.Slots], .agg [vi c_1.Do, vu c_1.A, vu c_1.B, .v (.string c_1.Text)]] (.tup [.agg [vi r.1.Graph.Config.N, vi r.1.Graph.Config.L, vi r.1.Graph.Config.R, vl bH r.1.Graph.Hashes, vl aT r.1.Graph.Edges, vl aW r.1.Slots], GA.av r.2]) := by
 refine bd 91 Tryz.func15 ?_
 obtain ⟨r2, h1, hm⟩ := bnd hm
 refine W ?_
 refine cg (fun hb => aSe (cM h1 hb)) ?_
 refine W ?_
 refine cm hm (fun hm => ?_) fun hm => ?_
 · exact E
 refine W ?_
 obtain ⟨⟨r4, r5⟩, h3, hm⟩ := bnd hm
 refine cq (aHj h3) ?_
 refine W ?_
 obtain ⟨⟨r7, r8⟩, h6, hm⟩ := bnd hm
 refine cq (aHj h6) ?_
 obtain ⟨r10, h9, hm⟩ := bnd hm
 refine W ?_
 refine cq (aOo h9) ?_
 obtain ⟨r12, h11, hm⟩ := bnd hm
 refine W ?_
 refine cg (fun hb => aPn (cM h11 hb)) ?_
 refine W ?_
 refine cm hm (fun hm => ?_) fun hm => ?_
 · exact E
 refine W ?_
 refine cm hm (fun hm => ?_) fun hm => ?_
 ·
  obtain ⟨r14, h13, hm⟩ := bnd hm
  refine W ?_
  refine cq (aM3 h13) ?_
  exact E
 refine W ?_
 obtain ⟨⟨r16, r17⟩, h15, hm⟩ := bnd hm
 refine cq (aMo h15) ?_
 refine W ?_
 refine cm hm (fun hm => ?_) fun hm => ?_
 · exact E
 exact E
def yR (lF : GA) : Option (Int) :=
 ((aGw .i64 36 lF).bind fun r2 =>
 some r2)
theorem aHd {lF : GA} {r : Int} (hm : yR lF = some r) : aZ Tryz.prog 38 [GA.av lF] (vi r) := by
 refine bd 5 Tryz.func38 ?_
 obtain ⟨r2, h1, hm⟩ := bnd hm
 refine W ?_
 refine pu rfl (aY3 Tryz.underlying36 Z1 h1) ?_
 exact E
def qW : Option (Bool) :=
 ((jZ (aN.mk 2 1 1) (bC.mk [3, 4, 5] 0)).bind fun ⟨r2, r3, r4⟩ =>
 ((dI r2 (bD.mk 1 9 0 ⟨#[]⟩)).bind fun ⟨r6, r7⟩ =>
 ((dI r6 (bD.mk 1 7 0 ⟨#[]⟩)).bind fun ⟨r9, r10⟩ =>
 ((dI r9 (bD.mk 3 7 9 ⟨#[]⟩)).bind fun ⟨r12, r13⟩ =>
 ((dI r12 (bD.mk 11 9 0 ⟨#[]⟩)).bind fun ⟨r15, r16⟩ =>
 ((dI r12 (bD.mk 2 9 0 ⟨#[]⟩)).bind fun ⟨r18, r19⟩ =>
 ((dI r12 (bD.mk 5 9 8 ⟨#[]⟩)).bind fun ⟨r21, r22⟩ =>
 ((dI r12 (bD.mk 0 0 0 ⟨#[]⟩)).bind fun ⟨r24, r25⟩ =>
 ((bAr 24 r16).bind fun ⟨r27, r28⟩ =>
 ((fE (((r4 == 0) && (r3.At == 2)) == true) false (aFk r7 36 .i64 0)).bind fun b30 =>
 ((fE ((((r4 == 0) && (r3.At == 2)) && b30) == true) false (aFk r10 36 .i64 0)).bind fun b32 =>
 ((fE (((((r4 == 0) && (r3.At == 2)) && b30) && b32) == true) false (aFk r13 36 .i64 0)).bind fun b34 =>
 (bif ((((((r4 == 0) && (r3.At == 2)) && b30) && b32) && b34) && r28) then
  ((aIe r27 [7, 9]).bind fun r37 =>
  ((fE (r37 == true) false (aFk r19 36 .i64 11)).bind fun b39 =>
  ((fE ((r37 && b39) == true) false (aFk r22 36 .i64 7)).bind fun b41 =>
  ((fE (((r37 && b39) && b41) == true) false (aFk r25 36 .i64 1)).bind fun b43 =>
  ((fE ((bif (((r37 && b39) && b41) && b43) then true else false) == true) 0 (yR r25)).bind fun r45 =>
  some ((bif (((r37 && b39) && b41) && b43) then true else false) && (r45 == 1)))))))
 else
  some false)))))))))))))
theorem aAp {r : Bool} (hm : qW = some r) : aZ Tryz.prog 14 [] (vb r) := by
 refine bd 124 Tryz.func14 ?_
 refine W ?_
 refine pu rfl (by simp only [go_sem, Nat.reduceBEq]; exact (by kernel_rfl : cL Tryz.prog 23 [(0, .v (.int .i64 2)), (1, .v (.int .i64 1)), (2, .v (.int .i64 1))] = some (.agg [.v (.int .i64 2), .v (.int .i64 1), .v (.int .i64 1)]))) ?_
 refine aU.pop Zd (wI (ps := [(0, .v (.int .u64 3)), (1, .v (.int .u64 4)), (2, .v (.int .u64 5))]) (by simp only [go_sem, Nat.reduceBEq]; try rfl) (qP (.v _) (qP (.v _) (qP (.v _) aJf)))) (aGb (CFi .u64) (l := [3, 4, 5]) (xs := [.v (.int .u64 3), .v (.int .u64 4), .v (.int .u64 5)]) Tryz.underlying24 aF9 bC7 Zd Zd Zd (ps := [(0, .v (.int .u64 3)), (1, .v (.int .u64 4)), (2, .v (.int .u64 5))]) (by simp only [go_sem, Nat.reduceBEq]; try rfl) (by kernel_rfl) (fun H => (.cons (.data _ (.v _)) (.cons (.data _ (.v _)) (.cons (.data _ (.v _)) .nil))))) rfl ?_
 refine pu rfl (by simp only [go_sem, Nat.reduceBEq]; exact (by kernel_rfl : cL Tryz.prog 35 [(0, .sl (([3, 4, 5]).flatMap (ci .u64)) ([3, 4, 5]).length false)] = some (.agg [.sl (([3, 4, 5]).flatMap (ci .u64)) ([3, 4, 5]).length false, .v (.int .i64 0)]))) ?_
 obtain ⟨⟨r2, r3, r4⟩, h1, hm⟩ := bnd hm
 refine cq (aJw h1) ?_
 refine W ?_
 refine pu rfl (by simp only [go_sem, Nat.reduceBEq]; exact (by kernel_rfl : cL Tryz.prog 45 [(0, .v (.int .i64 1)), (1, .v (.int .u64 9))] = some (.agg [.v (.int .i64 1), .v (.int .u64 9), .v (.int .u64 0), .v (.string ⟨#[]⟩)]))) ?_
 obtain ⟨⟨r6, r7⟩, h5, hm⟩ := bnd hm
 refine cq (iA h5) ?_
 refine W ?_
 refine pu rfl (by simp only [go_sem, Nat.reduceBEq]; exact (by kernel_rfl : cL Tryz.prog 45 [(0, .v (.int .i64 1)), (1, .v (.int .u64 7))] = some (.agg [.v (.int .i64 1), .v (.int .u64 7), .v (.int .u64 0), .v (.string ⟨#[]⟩)]))) ?_
 obtain ⟨⟨r9, r10⟩, h8, hm⟩ := bnd hm
 refine cq (iA h8) ?_
 refine W ?_
 refine pu rfl (by simp only [go_sem, Nat.reduceBEq]; exact (by kernel_rfl : cL Tryz.prog 45 [(0, .v (.int .i64 3)), (1, .v (.int .u64 7)), (2, .v (.int .u64 9))] = some (.agg [.v (.int .i64 3), .v (.int .u64 7), .v (.int .u64 9), .v (.string ⟨#[]⟩)]))) ?_
 obtain ⟨⟨r12, r13⟩, h11, hm⟩ := bnd hm
 refine cq (iA h11) ?_
 refine W ?_
 refine pu rfl (by simp only [go_sem, Nat.reduceBEq]; exact (by kernel_rfl : cL Tryz.prog 45 [(0, .v (.int .i64 11)), (1, .v (.int .u64 9))] = some (.agg [.v (.int .i64 11), .v (.int .u64 9), .v (.int .u64 0), .v (.string ⟨#[]⟩)]))) ?_
 obtain ⟨⟨r15, r16⟩, h14, hm⟩ := bnd hm
 refine cq (iA h14) ?_
 refine W ?_
 refine pu rfl (by simp only [go_sem, Nat.reduceBEq]; exact (by kernel_rfl : cL Tryz.prog 45 [(0, .v (.int .i64 2)), (1, .v (.int .u64 9))] = some (.agg [.v (.int .i64 2), .v (.int .u64 9), .v (.int .u64 0), .v (.string ⟨#[]⟩)]))) ?_
 obtain ⟨⟨r18, r19⟩, h17, hm⟩ := bnd hm
 refine cq (iA h17) ?_
 refine W ?_
 refine pu rfl (by simp only [go_sem, Nat.reduceBEq]; exact (by kernel_rfl : cL Tryz.prog 45 [(0, .v (.int .i64 5)), (1, .v (.int .u64 9)), (2, .v (.int .u64 8))] = some (.agg [.v (.int .i64 5), .v (.int .u64 9), .v (.int .u64 8), .v (.string ⟨#[]⟩)]))) ?_
 obtain ⟨⟨r21, r22⟩, h20, hm⟩ := bnd hm
 refine cq (iA h20) ?_
 refine W ?_
 refine pu rfl (by simp only [go_sem, Nat.reduceBEq]; exact (by kernel_rfl : cL Tryz.prog 45 [] = some (.agg [.v (.int .i64 0), .v (.int .u64 0), .v (.int .u64 0), .v (.string ⟨#[]⟩)]))) ?_
 obtain ⟨⟨r24, r25⟩, h23, hm⟩ := bnd hm
 refine cq (iA h23) ?_
 refine W ?_
 obtain ⟨⟨r27, r28⟩, h26, hm⟩ := bnd hm
 refine aU.pop Zd (aBu Z1 (GA.data _)) (aRe Tryz.underlying24 bHz bHw Z1 h26) rfl ?_
 obtain ⟨b30, h29, hm⟩ := bnd hm
 iterate 17 refine S1 ?_
 refine aU.popG Zd rfl Z2 (fun hb => (aDy (Zh hb) (Zh hb) (GA.data _) (.ifc _ _ (.v _)))) (fun hb => (uR Tryz.underlying20 Tryz.underlying36 aU3 (by kernel_rfl) (Zh hb) (Zh hb) (cM h29 hb))) rfl ?_
 obtain ⟨b32, h31, hm⟩ := bnd hm
 iterate 4 refine S1 ?_
 refine aU.popG Zd rfl Z2 (fun hb => (aDy (Zh hb) (Zh hb) (GA.data _) (.ifc _ _ (.v _)))) (fun hb => (uR Tryz.underlying20 Tryz.underlying36 aU3 (by kernel_rfl) (Zh hb) (Zh hb) (cM h31 hb))) rfl ?_
 obtain ⟨b34, h33, hm⟩ := bnd hm
 iterate 4 refine S1 ?_
 refine aU.popG Zd rfl Z2 (fun hb => (aDy (Zh hb) (Zh hb) (GA.data _) (.ifc _ _ (.v _)))) (fun hb => (uR Tryz.underlying20 Tryz.underlying36 aU3 (by kernel_rfl) (Zh hb) (Zh hb) (cM h33 hb))) rfl ?_
 refine W ?_
 refine bGc hm (fun h35 hm => ?_) (fun h35 hm => ?_)
 ·
  refine aU.heapG Zd rfl (by simp only [go_sem, Nat.reduceBEq, h35]; try with_reducible rfl) (id := 667) rfl (lE (CFi .u64) (l := [7, 9]) Tryz.underlying24 aF9 bC7 Z5 Zd Zd Zd (by simp only [go_sem, Nat.reduceBEq, h35]; try rfl) (by kernel_rfl)) ?_
  obtain ⟨r37, h36, hm⟩ := bnd hm
  refine aU.callBG (r := .v (.bool r37)) Zd rfl (by simp only [go_sem, Nat.reduceBEq, h35]; try with_reducible rfl) (by try simp only [go_sem, Nat.reduceBEq, h35]; try rfl) bQq (fun hb => (.cons (ltd fun H => (td (by try simp only [go_sem, Nat.reduceBEq, h35]; try rfl) ((CFi .u64).sl _ _ _))) (.cons (lto (CFi .u64) (by try simp only [go_sem, Nat.reduceBEq, h35]; try rfl) Z3 Z6) aOj.nil))) bHg (fun hb => aQn h36) ?_
  iterate 4 (first | refine pu rfl (by simp only [go_sem, Nat.reduceBEq, h35]; try with_reducible rfl) ?_ | refine pg rfl rfl (by simp only [go_sem, Nat.reduceBEq, h35]; try with_reducible rfl) (by intro hb; simp only [go_sem, Nat.reduceBEq, h35, hb, Bool.true_and]; try with_reducible rfl) ?_)
  obtain ⟨b39, h38, hm⟩ := bnd hm
  refine aU.popG Zd rfl (by simp only [go_sem, Nat.reduceBEq, h35]; try with_reducible rfl) (fun hb => (aDy (by try simp only [go_sem, Nat.reduceBEq, h35, hb, Bool.true_and]; try rfl) (by try simp only [go_sem, Nat.reduceBEq, h35, hb, Bool.true_and]; try rfl) (GA.data _) (.ifc _ _ (.v _)))) (fun hb => (uR Tryz.underlying20 Tryz.underlying36 aU3 (by kernel_rfl) (by try simp only [go_sem, Nat.reduceBEq, h35, hb, Bool.true_and]; try rfl) (by try simp only [go_sem, Nat.reduceBEq, h35, hb, Bool.true_and]; try rfl) (cM h38 hb))) rfl ?_
  iterate 4 (first | refine pu rfl (by simp only [go_sem, Nat.reduceBEq, h35]; try with_reducible rfl) ?_ | refine pg rfl rfl (by simp only [go_sem, Nat.reduceBEq, h35]; try with_reducible rfl) (by intro hb; simp only [go_sem, Nat.reduceBEq, h35, hb, Bool.true_and]; try with_reducible rfl) ?_)
  obtain ⟨b41, h40, hm⟩ := bnd hm
  refine aU.popG Zd rfl (by simp only [go_sem, Nat.reduceBEq, h35]; try with_reducible rfl) (fun hb => (aDy (by try simp only [go_sem, Nat.reduceBEq, h35, hb, Bool.true_and]; try rfl) (by try simp only [go_sem, Nat.reduceBEq, h35, hb, Bool.true_and]; try rfl) (GA.data _) (.ifc _ _ (.v _)))) (fun hb => (uR Tryz.underlying20 Tryz.underlying36 aU3 (by kernel_rfl) (by try simp only [go_sem, Nat.reduceBEq, h35, hb, Bool.true_and]; try rfl) (by try simp only [go_sem, Nat.reduceBEq, h35, hb, Bool.true_and]; try rfl) (cM h40 hb))) rfl ?_
  iterate 4 (first | refine pu rfl (by simp only [go_sem, Nat.reduceBEq, h35]; try with_reducible rfl) ?_ | refine pg rfl rfl (by simp only [go_sem, Nat.reduceBEq, h35]; try with_reducible rfl) (by intro hb; simp only [go_sem, Nat.reduceBEq, h35, hb, Bool.true_and]; try with_reducible rfl) ?_)
  obtain ⟨b43, h42, hm⟩ := bnd hm
  refine aU.popG Zd rfl (by simp only [go_sem, Nat.reduceBEq, h35]; try with_reducible rfl) (fun hb => (aDy (by try simp only [go_sem, Nat.reduceBEq, h35, hb, Bool.true_and]; try rfl) (by try simp only [go_sem, Nat.reduceBEq, h35, hb, Bool.true_and]; try rfl) (GA.data _) (.ifc _ _ (.v _)))) (fun hb => (uR Tryz.underlying20 Tryz.underlying36 aU3 (by kernel_rfl) (by try simp only [go_sem, Nat.reduceBEq, h35, hb, Bool.true_and]; try rfl) (by try simp only [go_sem, Nat.reduceBEq, h35, hb, Bool.true_and]; try rfl) (cM h42 hb))) rfl ?_
  iterate 5 (first | refine pu rfl (by simp only [go_sem, Nat.reduceBEq, h35]; try with_reducible rfl) ?_ | refine pg rfl rfl (by simp only [go_sem, Nat.reduceBEq, h35]; try with_reducible rfl) (by intro hb; simp only [go_sem, Nat.reduceBEq, h35, hb, Bool.true_and]; try with_reducible rfl) ?_)
  obtain ⟨r45, h44, hm⟩ := bnd hm
  refine aU.callQG (r := .v (.int .i64 r45)) Zd rfl (by simp only [go_sem, Nat.reduceBEq, h35]; try with_reducible rfl) (by try simp only [go_sem, Nat.reduceBEq, h35]; try rfl) bSt (fun hb H => (.cons (td (by try simp only [go_sem, Nat.reduceBEq, h35, hb, Bool.true_and]; try rfl) (GA.data _)) .nil)) (fun hb => aHd (cM h44 hb)) ?_
  iterate 3 (first | refine pu rfl (by simp only [go_sem, Nat.reduceBEq, h35]; try with_reducible rfl) ?_ | refine pg rfl rfl (by simp only [go_sem, Nat.reduceBEq, h35]; try with_reducible rfl) (by intro hb; simp only [go_sem, Nat.reduceBEq, h35, hb, Bool.true_and]; try with_reducible rfl) ?_)
  exact E
 refine aU.skipG Zd rfl (by simp only [go_sem, Nat.reduceBEq, h35]; try with_reducible rfl) ?_
 refine aU.skipG Zd rfl (by simp only [go_sem, Nat.reduceBEq, h35]; try with_reducible rfl) ?_
 iterate 2 refine pu rfl (by simp only [go_sem, Nat.reduceBEq, h35]; try with_reducible rfl) ?_
 refine aU.skipG Zd rfl (by simp only [go_sem, Nat.reduceBEq, h35]; try with_reducible rfl) ?_
 refine aU.skipG Zd rfl (by simp only [go_sem, Nat.reduceBEq, h35]; try with_reducible rfl) ?_
 refine aU.skipG Zd rfl (by simp only [go_sem, Nat.reduceBEq, h35]; try with_reducible rfl) ?_
 iterate 2 refine pu rfl (by simp only [go_sem, Nat.reduceBEq, h35]; try with_reducible rfl) ?_
 refine aU.skipG Zd rfl (by simp only [go_sem, Nat.reduceBEq, h35]; try with_reducible rfl) ?_
 refine aU.skipG Zd rfl (by simp only [go_sem, Nat.reduceBEq, h35]; try with_reducible rfl) ?_
 refine aU.skipG Zd rfl (by simp only [go_sem, Nat.reduceBEq, h35]; try with_reducible rfl) ?_
 iterate 2 refine pu rfl (by simp only [go_sem, Nat.reduceBEq, h35]; try with_reducible rfl) ?_
 refine aU.skipG Zd rfl (by simp only [go_sem, Nat.reduceBEq, h35]; try with_reducible rfl) ?_
 refine aU.skipG Zd rfl (by simp only [go_sem, Nat.reduceBEq, h35]; try with_reducible rfl) ?_
 refine aU.skipG Zd rfl (by simp only [go_sem, Nat.reduceBEq, h35]; try with_reducible rfl) ?_
 iterate 4 refine pu rfl (by simp only [go_sem, Nat.reduceBEq, h35]; try with_reducible rfl) ?_
 refine aU.skipG Zd rfl (by simp only [go_sem, Nat.reduceBEq, h35]; try with_reducible rfl) ?_
 refine aU.skipG Zd rfl (by simp only [go_sem, Nat.reduceBEq, h35]; try with_reducible rfl) ?_
 refine aU.skipG Zd rfl (by simp only [go_sem, Nat.reduceBEq, h35]; try with_reducible rfl) ?_
 iterate 2 refine pu rfl (by simp only [go_sem, Nat.reduceBEq, h35]; try with_reducible rfl) ?_
 exact E
def zX (rec1 : List Int → Int → Int → Option (Int)) (l_0 : List Int) (k_1 : Int) (i_5 : Int) : Option (Int) :=
 (bif (decide (i_5 < (l_0.length : Int))) then
  ((idx l_0 i_5).bind fun x2 =>
  (bif (x2 == k_1) then
   some i_5
  else
   rec1 l_0 k_1 (IntKind.i64.wrap (i_5 + 1))))
 else
  some (-1))
def oU : Nat → List Int → Int → Int → Option (Int)
 | 0 => fun _ _ _ => none
 | n + 1 => zX (oU n)
def xM (l_0 : List Int) (k_1 : Int) : Option (Int) :=
 oU bK l_0 k_1 0
theorem aIp {l_0 : List Int} {k_1 : Int} {r : Int} (hm : xM l_0 k_1 = some r) : aZ Tryz.prog 45 [vl (ci .u64) l_0, vu k_1] (vi r) := by
 refine bd 19 Tryz.func45 ?_
 refine W ?_
 refine lp (fun m s => ∃ l_0 k_1 i_5, s = ⟨19, (aF (aF (aF fa 0 (vl (ci .u64) l_0)) 1 (vu k_1)) 5 (vi i_5)), ⟨aX, 64⟩⟩ ∧ oU m l_0 k_1 i_5 = some r) L ?_
 rintro n1 s ⟨l_0, k_1, i_5, rfl, hm⟩
 refine W ?_
 refine cm hm (fun hm => ?_) fun hm => ?_
 ·
  obtain ⟨x2, h1, hm⟩ := bnd hm
  refine W ?_
  refine cm hm (fun hm => ?_) fun hm => ?_
  · exact E
  exact L
 exact E
def qH (rec1 : Int → aE → List Int → Int → Option ((List Int))) (a_1 : Int) (m_2 : aE) (dA : List Int) (i_6 : Int) : Option ((List Int)) :=
 rec1 a_1 m_2 dA (IntKind.i64.wrap (i_6 + 1))
def aAb (rec1 : Int → aE → List Int → Int → Option ((List Int))) (rec2 : Int → aE → List Int → Int → Int → Int → Option ((List Int))) (a_1 : Int) (m_2 : aE) (dA : List Int) (i_6 : Int) (wW : Int) (k_9 : Int) : Option ((List Int)) :=
 ((fE ((decide (k_9 < (dA.length : Int))) == true) 0 (idx dA k_9)).bind fun x4 =>
 (bif ((decide (k_9 < (dA.length : Int))) && (decide (x4 < wW))) then
  rec2 a_1 m_2 dA i_6 wW (IntKind.i64.wrap (k_9 + 1))
 else
  ((slc dA 0 k_9).bind fun l6 =>
  ((app [] l6).bind fun l8 =>
  ((app l8 [wW]).bind fun l10 =>
  ((slc dA k_9 (dA.length : Int)).bind fun l12 =>
  ((app l10 l12).bind fun l14 =>
  qH rec1 a_1 m_2 l14 i_6)))))))
def oT (rec1 : Int → aE → List Int → Int → Option ((List Int))) : Nat → Int → aE → List Int → Int → Int → Int → Option ((List Int))
 | 0 => fun _ _ _ _ _ _ => none
 | n + 1 => aAb rec1 (oT rec1 n)
def zW (rec1 : Int → aE → List Int → Int → Option ((List Int))) (a_1 : Int) (m_2 : aE) (dA : List Int) (i_6 : Int) : Option ((List Int)) :=
 (bif (decide (i_6 < (m_2.Pairs.length : Int))) then
  ((idx m_2.Pairs i_6).bind fun x2 =>
  (bif ((x2.x0 != a_1) && (x2.x1 != a_1)) then
   qH rec1 a_1 m_2 dA i_6
  else
   oT rec1 bK a_1 m_2 dA i_6 (IntKind.u64.wrap ((IntKind.u64.wrap (x2.x0 + x2.x1)) - a_1)) 0))
 else
  some dA)
def iM : Nat → Int → aE → List Int → Int → Option ((List Int))
 | 0 => fun _ _ _ _ => none
 | n + 1 => zW (iM n)
def aC7 (m_0 : aE) (a_1 : Int) : Option ((List Int)) :=
 iM bK a_1 m_0 [] 0
theorem aR8 {m_0 : aE} {a_1 : Int} {r : (List Int)} (hm : aC7 m_0 a_1 = some r) : aZ Tryz.prog 46 [.agg [vi m_0.Most, vl (ci .u64) m_0.Keys, vl bQ m_0.Pairs], vu a_1] (vl (ci .u64) r) := by
 refine bd 69 Tryz.func46 ?_
 refine W ?_
 refine lp (fun m s => ∃ a_1 m_2 dA i_6, s = ⟨69, (aF (aF (aF (aF fa 1 (vu a_1)) 2 (.adr 1 0)) 5 (.own 2 0 dA.length)) 6 (vi i_6)), ⟨(upd (upd aX 1 (.cells 1 [vi m_2.Most, vl (ci .u64) m_2.Keys, vl bQ m_2.Pairs] 0)) 2 (.cells 1 (dA.flatMap (ci .u64)) 0)), 64⟩⟩ ∧ iM m a_1 m_2 dA i_6 = some r) ?_ ?_
 ·
  refine ⟨_, ?_, a_1, m_0, [], 0, rfl, hm⟩
  refine St.Le.trans (oD 5 900005 1 Z1 Z5) ?_
  exact cn (fun j => bif j == 1 then 0 else bif j == 2 then 900005 else 0)
 rintro n1 s ⟨a_1, m_2, dA, i_6, rfl, hm⟩
 refine W ?_
 refine cm hm (fun hm => ?_) fun hm => ?_
 ·
  refine V ?_
  refine AWp.seqJ (fun s => ∃ a_1 m_2 dA i_6, s = ⟨69, (aF (aF (aF (aF fa 1 (vu a_1)) 2 (.adr 1 0)) 5 (.own 2 0 dA.length)) 6 (vi i_6)), ⟨(upd (upd aX 1 (.cells 1 [vi m_2.Most, vl (ci .u64) m_2.Keys, vl bQ m_2.Pairs] 0)) 2 (.cells 1 (dA.flatMap (ci .u64)) 0)), 64⟩⟩ ∧ qH (iM n1) a_1 m_2 dA i_6 = some r) ?_ ?_
  ·
   obtain ⟨x2, h1, hm⟩ := bnd hm
   refine W ?_
   refine cm hm (fun hm => ?_) fun hm => ?_
   ·
    refine W ?_
    exact Lr (fun j => bif j == 1 then 1 else bif j == 2 then 2 else 0)
   refine W ?_
   refine lp (fun m s => ∃ a_1 m_2 dA i_6 wW k_9, s = ⟨69, (aF (aF (aF (aF (aF (aF fa 1 (vu a_1)) 2 (.adr 1 0)) 5 (.own 2 0 dA.length)) 6 (vi i_6)) 8 (vu wW)) 9 (vi k_9)), ⟨(upd (upd aX 1 (.cells 1 [vi m_2.Most, vl (ci .u64) m_2.Keys, vl bQ m_2.Pairs] 0)) 2 (.cells 1 (dA.flatMap (ci .u64)) 0)), 64⟩⟩ ∧ oT (iM n1) m a_1 m_2 dA i_6 wW k_9 = some r) (Lr (fun j => bif j == 1 then 1 else bif j == 2 then 2 else 0)) ?_
   rintro n2 s ⟨a_1, m_2, dA, i_6, wW, k_9, rfl, hm⟩
   obtain ⟨x4, h3, hm⟩ := bnd hm
   refine W ?_
   refine cm hm (fun hm => ?_) fun hm => ?_
   ·
    refine W ?_
    exact Lr (fun j => bif j == 1 then 1 else bif j == 2 then 2 else 0)
   iterate 8 refine S1 ?_
   refine AWp.seq' ?_
   refine AWp.weaken (aJh (CFi .u64) 5 2 Z1 Z3 Z6) ?_
   obtain ⟨l6, h5, hm⟩ := bnd hm
   obtain ⟨l8, h7, hm⟩ := bnd hm
   refine W ?_
   refine aL (CFi .u64) [wW] ?_
   obtain ⟨l10, h9, hm⟩ := bnd hm
   obtain ⟨l12, h11, hm⟩ := bnd hm
   obtain ⟨l14, h13, hm⟩ := bnd hm
   refine W ?_
   exact Lr (fun j => bif j == 1 then 1 else bif j == 2 then 324 else 0)
  rintro s ⟨a_1, m_2, dA, i_6, rfl, hm⟩
  refine W ?_
  exact Lr (fun j => bif j == 1 then 1 else bif j == 2 then 2 else 0)
 exact E
def aAi (a_0 : Int) (b_1 : Int) (t4 : aR) : Option (aR) :=
 some (aR.mk a_0 b_1)
def xL (a_0 : Int) (b_1 : Int) : Option (aR) :=
 (bif (decide (b_1 < a_0)) then
  aAi b_1 a_0 (aR.mk 0 0)
 else
  aAi a_0 b_1 (aR.mk 0 0))
theorem aR1 {a_0 : Int} {b_1 : Int} {r : aR} (hm : xL a_0 b_1 = some r) : aZ Tryz.prog 47 [vu a_0, vu b_1] (.agg [vu r.x0, vu r.x1]) := by
 refine bd 13 Tryz.func47 ?_
 refine V ?_
 refine AWp.seqJ (fun s => ∃ a_0 b_1 t4, s = ⟨13, (aF (aF (aF fa 0 (vu a_0)) 1 (vu b_1)) 4 (.adr 1 0)), ⟨(upd aX 1 (.cells 1 [vu t4.x0, vu t4.x1] 0)), 64⟩⟩ ∧ aAi a_0 b_1 t4 = some r) ?_ ?_
 ·
  refine W ?_
  refine cm hm (fun hm => ?_) fun hm => ?_
  ·
   refine W ?_
   exact Lr (fun j => bif j == 1 then 0 else 0)
  refine W ?_
  exact Lr (fun j => bif j == 1 then 0 else 0)
 rintro s ⟨a_0, b_1, t4, rfl, hm⟩
 refine W ?_
 refine pu rfl (by simp only [go_sem, Nat.reduceBEq]; exact (by kernel_rfl : cL Tryz.prog 69 [(0, .v (.int .u64 a_0)), (1, .v (.int .u64 b_1))] = some (.agg [.v (.int .u64 a_0), .v (.int .u64 b_1)]))) ?_
 exact E
def aEa (rec1 : List aR → aR → Int → Option (Int)) (l_0 : List aR) (p_3 : aR) (i_5 : Int) : Option (Int) :=
 (bif (decide (i_5 < (l_0.length : Int))) then
  ((idx l_0 i_5).bind fun x2 =>
  (bif (aLb x2 p_3) then
   some i_5
  else
   rec1 l_0 p_3 (IntKind.i64.wrap (i_5 + 1))))
 else
  some (-1))
def vS : Nat → List aR → aR → Int → Option (Int)
 | 0 => fun _ _ _ => none
 | n + 1 => aEa (vS n)
def aD4 (l_0 : List aR) (p_1 : aR) : Option (Int) :=
 vS bK l_0 p_1 0
theorem aYf {l_0 : List aR} {p_1 : aR} {r : Int} (hm : aD4 l_0 p_1 = some r) : aZ Tryz.prog 48 [vl bQ l_0, .agg [vu p_1.x0, vu p_1.x1]] (vi r) := by
 refine bd 19 Tryz.func48 ?_
 refine W ?_
 refine lp (fun m s => ∃ l_0 p_3 i_5, s = ⟨19, (aF (aF (aF fa 0 (vl bQ l_0)) 3 (.adr 1 0)) 5 (vi i_5)), ⟨(upd aX 1 (.cells 1 [vu p_3.x0, vu p_3.x1] 0)), 64⟩⟩ ∧ vS m l_0 p_3 i_5 = some r) (Lr (fun j => bif j == 1 then 0 else 0)) ?_
 rintro n1 s ⟨l_0, p_3, i_5, rfl, hm⟩
 refine W ?_
 refine cm hm (fun hm => ?_) fun hm => ?_
 ·
  obtain ⟨x2, h1, hm⟩ := bnd hm
  iterate 2 refine S1 ?_
  refine AWp.seq' ?_
  iterate 7 refine S1 ?_
  refine aU.pop Zd (aDy Z1 Z1 (.agg _ (eG.dat x2)) (.agg _ (eG.dat p_3))) (aVq Tryz.underlying69 Tryz.underlying43 aF9 (by kernel_rfl) Z1 Z1) rfl ?_
  refine W ?_
  refine cm hm (fun hm => ?_) fun hm => ?_
  · exact E
  refine W ?_
  exact Lr (fun j => bif j == 1 then 1 else 0)
 exact E
def eQ (m_0 : aE) (yB : Int) (a_2 : Int) (b_3 : Int) : Option (aE × Int) :=
 ((xM m_0.Keys a_2).bind fun r2 =>
 (bif (yB == 1) then
  (bif (decide (0 ≤ r2)) then
   some (m_0, 4)
  else
   (bif (decide (m_0.Most ≤ (m_0.Keys.length : Int))) then
    some (m_0, 10)
   else
    ((app [] m_0.Keys).bind fun l4 =>
    ((app l4 [a_2]).bind fun l6 =>
    some ((aE.mk m_0.Most l6 m_0.Pairs), 0)))))
 else
  ((fE (((decide (r2 < 0)) == false) && ((decide (2 < yB)) == true)) 0 (xM m_0.Keys b_3)).bind fun r8 =>
  (bif ((decide (r2 < 0)) || ((decide (2 < yB)) && (decide (r8 < 0)))) then
   some (m_0, 7)
  else
   (bif (yB == 2) then
    ((aC7 m_0 a_2).bind fun r10 =>
    (bif (decide (0 < (r10.length : Int))) then
     some (m_0, 11)
    else
     ((slc m_0.Keys 0 r2).bind fun l12 =>
     ((app [] l12).bind fun l14 =>
     ((slc m_0.Keys (IntKind.i64.wrap (r2 + 1)) (m_0.Keys.length : Int)).bind fun l16 =>
     ((app l14 l16).bind fun l18 =>
     some ((aE.mk m_0.Most l18 m_0.Pairs), 0)))))))
   else
    ((xL a_2 b_3).bind fun r20 =>
    ((aD4 m_0.Pairs r20).bind fun r22 =>
    (bif (yB == 4) then
     (bif (decide (r22 < 0)) then
      some (m_0, 9)
     else
      ((slc m_0.Pairs 0 r22).bind fun l24 =>
      ((app [] l24).bind fun l26 =>
      ((slc m_0.Pairs (IntKind.i64.wrap (r22 + 1)) (m_0.Pairs.length : Int)).bind fun l28 =>
      ((app l26 l28).bind fun l30 =>
      some ((aE.mk m_0.Most m_0.Keys l30), 0))))))
    else
     (bif (a_2 == b_3) then
      some (m_0, 8)
     else
      (bif (decide (0 ≤ r22)) then
       some (m_0, 4)
      else
       ((app [] m_0.Pairs).bind fun l32 =>
       ((app l32 [r20]).bind fun l34 =>
       some ((aE.mk m_0.Most m_0.Keys l34), 0)))))))))))))
theorem aMk {m_0 : aE} {yB : Int} {a_2 : Int} {b_3 : Int} {r : aE × Int} (hm : eQ m_0 yB a_2 b_3 = some r) : aZ Tryz.prog 18 [.agg [vi m_0.Most, vl (ci .u64) m_0.Keys, vl bQ m_0.Pairs], vi yB, vu a_2, vu b_3] (.tup [.agg [vi r.1.Most, vl (ci .u64) r.1.Keys, vl bQ r.1.Pairs], vi r.2]) := by
 refine bd 135 Tryz.func18 ?_
 obtain ⟨r2, h1, hm⟩ := bnd hm
 refine W ?_
 refine cq (aIp h1) ?_
 refine W ?_
 refine cm hm (fun hm => ?_) fun hm => ?_
 ·
  refine W ?_
  refine cm hm (fun hm => ?_) fun hm => ?_
  · exact E
  refine W ?_
  refine cm hm (fun hm => ?_) fun hm => ?_
  · exact E
  obtain ⟨l4, h3, hm⟩ := bnd hm
  refine W ?_
  refine AWp.regW [(4, 0), (8, 1)] [(36, 0), (42, 0)] [38, 11] 64 mix (by kernel_rfl) (by kernel_rfl) (IV.cons (off := 0) Z1 (IV.cons (off := 0) Z1 IV.nil)) (by intro q hq; simp only [List.mem_cons, List.not_mem_nil, or_false] at hq; rcases hq with rfl | rfl <;> ((try simp only [tA, Nat.reduceBEq, cond_true, cond_false]); first | exact .inl rfl | exact .inr rfl)) (by intro k hk q hq; simp only [List.mem_cons, List.not_mem_nil, or_false] at hk; rcases hk with rfl | rfl <;> (simp only [List.mem_cons, List.not_mem_nil, or_false] at hq; rcases hq with rfl | rfl <;> (try simp only [tA, Nat.reduceBEq, cond_true, cond_false]) <;> (intro h; first | (cases h; done) | (simp [cK] at h; done)))) (N' := 512) rfl ?_
  refine W ?_
  refine aL (CFi .u64) [a_2] ?_
  obtain ⟨l6, h5, hm⟩ := bnd hm
  refine W ?_
  refine pu rfl (by simp only [go_sem, Nat.reduceBEq]; exact (by kernel_rfl : cL Tryz.prog 42 [(0, .v (.int .i64 m_0.Most)), (1, .own 453 0 l6.length), (2, .sl (m_0.Pairs.flatMap bQ) m_0.Pairs.length false)] = some (.agg [.v (.int .i64 m_0.Most), .own 453 0 l6.length, .sl (m_0.Pairs.flatMap bQ) m_0.Pairs.length false]))) ?_
  exact E
 obtain ⟨r8, h7, hm⟩ := bnd hm
 refine W ?_
 refine cg (fun hb => aIp (cM h7 hb)) ?_
 refine W ?_
 refine cm hm (fun hm => ?_) fun hm => ?_
 · exact E
 refine W ?_
 refine cm hm (fun hm => ?_) fun hm => ?_
 ·
  obtain ⟨r10, h9, hm⟩ := bnd hm
  refine W ?_
  refine cq (aR8 h9) ?_
  refine W ?_
  refine cm hm (fun hm => ?_) fun hm => ?_
  · exact E
  obtain ⟨l12, h11, hm⟩ := bnd hm
  obtain ⟨l14, h13, hm⟩ := bnd hm
  refine W ?_
  refine AWp.regW [(4, 0), (8, 1)] [(73, 0), (76, 0), (82, 0)] [75, 12] 64 mix (by kernel_rfl) (by kernel_rfl) (IV.cons (off := 0) Z1 (IV.cons (off := 0) Z1 IV.nil)) (by intro q hq; simp only [List.mem_cons, List.not_mem_nil, or_false] at hq; rcases hq with rfl | rfl | rfl <;> ((try simp only [tA, Nat.reduceBEq, cond_true, cond_false]); first | exact .inl rfl | exact .inr rfl)) (by intro k hk q hq; simp only [List.mem_cons, List.not_mem_nil, or_false] at hk; rcases hk with rfl | rfl <;> (simp only [List.mem_cons, List.not_mem_nil, or_false] at hq; rcases hq with rfl | rfl <;> (try simp only [tA, Nat.reduceBEq, cond_true, cond_false]) <;> (intro h; first | (cases h; done) | (simp [cK] at h; done)))) (N' := 576) rfl ?_
  obtain ⟨l16, h15, hm⟩ := bnd hm
  obtain ⟨l18, h17, hm⟩ := bnd hm
  refine W ?_
  refine pu rfl (by simp only [go_sem, Nat.reduceBEq]; exact (by kernel_rfl : cL Tryz.prog 42 [(0, .v (.int .i64 m_0.Most)), (1, .own 520 0 l18.length), (2, .sl (m_0.Pairs.flatMap bQ) m_0.Pairs.length false)] = some (.agg [.v (.int .i64 m_0.Most), .own 520 0 l18.length, .sl (m_0.Pairs.flatMap bQ) m_0.Pairs.length false]))) ?_
  exact E
 obtain ⟨r20, h19, hm⟩ := bnd hm
 refine W ?_
 refine cq (aR1 h19) ?_
 obtain ⟨r22, h21, hm⟩ := bnd hm
 refine W ?_
 refine cq (aYf h21) ?_
 refine W ?_
 refine cm hm (fun hm => ?_) fun hm => ?_
 ·
  refine W ?_
  refine cm hm (fun hm => ?_) fun hm => ?_
  · exact E
  obtain ⟨l24, h23, hm⟩ := bnd hm
  obtain ⟨l26, h25, hm⟩ := bnd hm
  refine W ?_
  refine AWp.regW [(4, 0), (8, 1)] [(103, 0), (105, 0), (108, 0)] [107, 15] 64 mix (by kernel_rfl) (by kernel_rfl) (IV.cons (off := 0) Z1 (IV.cons (off := 0) Z1 IV.nil)) (by intro q hq; simp only [List.mem_cons, List.not_mem_nil, or_false] at hq; rcases hq with rfl | rfl | rfl <;> ((try simp only [tA, Nat.reduceBEq, cond_true, cond_false]); first | exact .inl rfl | exact .inr rfl)) (by intro k hk q hq; simp only [List.mem_cons, List.not_mem_nil, or_false] at hk; rcases hk with rfl | rfl <;> (simp only [List.mem_cons, List.not_mem_nil, or_false] at hq; rcases hq with rfl | rfl <;> (try simp only [tA, Nat.reduceBEq, cond_true, cond_false]) <;> (intro h; first | (cases h; done) | (simp [cK] at h; done)))) (N' := 768) rfl ?_
  obtain ⟨l28, h27, hm⟩ := bnd hm
  obtain ⟨l30, h29, hm⟩ := bnd hm
  refine W ?_
  refine pu rfl (by simp only [go_sem, Nat.reduceBEq]; exact (by kernel_rfl : cL Tryz.prog 42 [(0, .v (.int .i64 m_0.Most)), (1, .sl (m_0.Keys.flatMap (ci .u64)) m_0.Keys.length false), (2, .own 714 0 l30.length)] = some (.agg [.v (.int .i64 m_0.Most), .sl (m_0.Keys.flatMap (ci .u64)) m_0.Keys.length false, .own 714 0 l30.length]))) ?_
  exact E
 refine W ?_
 refine cm hm (fun hm => ?_) fun hm => ?_
 · exact E
 refine W ?_
 refine cm hm (fun hm => ?_) fun hm => ?_
 · exact E
 obtain ⟨l32, h31, hm⟩ := bnd hm
 refine W ?_
 refine AWp.regW [(4, 0), (8, 1), (13, 323)] [(126, 0), (128, 0)] [130, 15] 64 mix (by kernel_rfl) (by kernel_rfl) (IV.cons (off := 0) Z1 (IV.cons (off := 0) Z1 (IV.cons (off := 0) Z1 IV.nil))) (by intro q hq; simp only [List.mem_cons, List.not_mem_nil, or_false] at hq; rcases hq with rfl | rfl <;> ((try simp only [tA, Nat.reduceBEq, cond_true, cond_false]); first | exact .inl rfl | exact .inr rfl)) (by intro k hk q hq; simp only [List.mem_cons, List.not_mem_nil, or_false] at hk; rcases hk with rfl | rfl <;> (simp only [List.mem_cons, List.not_mem_nil, or_false] at hq; rcases hq with rfl | rfl | rfl <;> (try simp only [tA, Nat.reduceBEq, cond_true, cond_false]) <;> (intro h; first | (cases h; done) | (simp [cK] at h; done)))) (N' := 832) rfl ?_
 refine W ?_
 refine aL eG [r20] ?_
 obtain ⟨l34, h33, hm⟩ := bnd hm
 refine W ?_
 refine pu rfl (by simp only [go_sem, Nat.reduceBEq]; exact (by kernel_rfl : cL Tryz.prog 42 [(0, .v (.int .i64 m_0.Most)), (1, .sl (m_0.Keys.flatMap (ci .u64)) m_0.Keys.length false), (2, .own 775 0 l34.length)] = some (.agg [.v (.int .i64 m_0.Most), .sl (m_0.Keys.flatMap (ci .u64)) m_0.Keys.length false, .own 775 0 l34.length]))) ?_
 exact E
def uJ (lF : GA) (aAe : Bool) : Option (Bool) :=
 ((aU6 4 lF).bind fun ⟨r2, r3⟩ =>
 some (r3 && (r2 == aAe)))
theorem aG6 {lF : GA} {aAe : Bool} {r : Bool} (hm : uJ lF aAe = some r) : aZ Tryz.prog 29 [GA.av lF, vb aAe] (vb r) := by
 refine bd 18 Tryz.func29 ?_
 refine W ?_
 obtain ⟨⟨r2, r3⟩, h1, hm⟩ := bnd hm
 refine pu rfl (aZi Tryz.underlying4 in4 tz4 Z1 h1) ?_
 exact E
def rX (lF : GA) (aAe : Int) : Option (Bool) :=
 ((bCz .i64 3 lF).bind fun ⟨r5, r6⟩ =>
 some (r6 && (r5 == aAe)))
theorem aDr {lF : GA} {aAe : Int} {r : Bool} (hm : rX lF aAe = some r) : aZ Tryz.prog 28 [GA.av lF, vi aAe] (vb r) := by
 refine bd 18 Tryz.func28 ?_
 refine W ?_
 obtain ⟨⟨r5, r6⟩, h4, hm⟩ := bnd hm
 refine pu rfl (bAy Tryz.underlying3 in3 tz3 Z1 h4) ?_
 exact E
end Go.Proofs.YtkdohhmacfoolaaGreat
