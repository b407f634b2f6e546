/- Facts that the statement's proof is made of. No condition. -/
import Derived.Test.YtkdohhmacfoolaaGreatNeGI1
import Derived.Test.YtkdohhmacfoolaaGreatNePl
set_option linter.unusedVariables false
set_option linter.unusedSimpArgs false
set_option maxRecDepth 20000
set_option maxHeartbeats 4000000
namespace Go.Proofs.YtkdohhmacfoolaaGreat
open Go Go.AM
structure pU where
 Used : Bool
 Key : Int
deriving DecidableEq
def oA (e : pU) : List AV := [.v (.bool e.Used), .v (.int .u64 e.Key)]
theorem aA7 (e : pU) (r : List AV) : oA e ++ r = .v (.bool e.Used) :: .v (.int .u64 e.Key) :: r := rfl
attribute [go_sem] aA7
structure vC where
 Graph : aG
 Slots : List pU
deriving DecidableEq
def aCh (e : vC) : List AV := [.v (.int .i64 e.Graph.Config.N), .v (.int .i64 e.Graph.Config.L), .v (.int .i64 e.Graph.Config.R), .sl (e.Graph.Hashes.flatMap bI) e.Graph.Hashes.length false, .sl (e.Graph.Edges.flatMap aT) e.Graph.Edges.length false, .sl (e.Slots.flatMap oA) e.Slots.length false]
theorem zN (e : vC) (r : List AV) : aCh e ++ r = .v (.int .i64 e.Graph.Config.N) :: .v (.int .i64 e.Graph.Config.L) :: .v (.int .i64 e.Graph.Config.R) :: .sl (e.Graph.Hashes.flatMap bI) e.Graph.Hashes.length false :: .sl (e.Graph.Edges.flatMap aT) e.Graph.Edges.length false :: .sl (e.Slots.flatMap oA) e.Slots.length false :: r := rfl
attribute [go_sem] zN
structure aC where
 Most : Int
 Keys : List Int
 Pairs : List aI
deriving DecidableEq
def aCv (e : aC) : List AV := [.v (.int .i64 e.Most), .sl (e.Keys.flatMap (ci .u64)) e.Keys.length false, .sl (e.Pairs.flatMap bJ) e.Pairs.length false]
theorem zH (e : aC) (r : List AV) : aCv e ++ r = .v (.int .i64 e.Most) :: .sl (e.Keys.flatMap (ci .u64)) e.Keys.length false :: .sl (e.Pairs.flatMap bJ) e.Pairs.length false :: r := rfl
attribute [go_sem] zH
theorem aVi (xs : List AV) : aH Tryz.prog 102 (.ptr (xs)) 0 = some (.ptr xs) := by kernel_rfl
attribute [go_sem] aVi
theorem aWr (x0 : AV) (xs : List AV) : aH Tryz.prog 102 (.ptr (x0 :: xs)) 1 = some (.ptr xs) := by kernel_rfl
attribute [go_sem] aWr
theorem aXg (x0 : AV) (xs : List AV) : aH Tryz.prog 104 (.ptr (x0 :: xs)) 1 = some (.ptr xs) := by kernel_rfl
attribute [go_sem] aXg
theorem aVl (xs : List AV) : aH Tryz.prog 151 (.ptr (xs)) 0 = some (.ptr xs) := by kernel_rfl
attribute [go_sem] aVl
theorem aUv (x0 : AV) (xs : List AV) : aH Tryz.prog 151 (.ptr (x0 :: xs)) 1 = some (.ptr xs) := by kernel_rfl
attribute [go_sem] aUv
theorem aWk (i o : Nat) : aH Tryz.prog 102 (.adr i o) 0 = some (.adr i (o + 0)) := by kernel_rfl
attribute [go_sem] aWk
theorem aWo (i o : Nat) : aH Tryz.prog 102 (.adr i o) 1 = some (.adr i (o + 1)) := by kernel_rfl
attribute [go_sem] aWo
theorem aYo (i o : Nat) : aH Tryz.prog 104 (.adr i o) 0 = some (.adr i (o + 0)) := by kernel_rfl
attribute [go_sem] aYo
theorem aV1 (i o : Nat) : aH Tryz.prog 151 (.adr i o) 0 = some (.adr i (o + 0)) := by kernel_rfl
attribute [go_sem] aV1
theorem aXu (i o : Nat) : aH Tryz.prog 151 (.adr i o) 1 = some (.adr i (o + 1)) := by kernel_rfl
attribute [go_sem] aXu
theorem bC1 (i o : Nat) : aH Tryz.prog 23 (.adr i o) 0 = some (.adr i (o + 0)) := by kernel_rfl
attribute [go_sem] bC1
theorem bCu (i o : Nat) : aH Tryz.prog 23 (.adr i o) 1 = some (.adr i (o + 1)) := by kernel_rfl
attribute [go_sem] bCu
theorem bC9 (i o : Nat) : aH Tryz.prog 23 (.adr i o) 2 = some (.adr i (o + 2)) := by kernel_rfl
attribute [go_sem] bC9
theorem bBk (i o : Nat) : aH Tryz.prog 30 (.adr i o) 0 = some (.adr i (o + 0)) := by kernel_rfl
attribute [go_sem] bBk
theorem bC3 (i o : Nat) : aH Tryz.prog 30 (.adr i o) 1 = some (.adr i (o + 3)) := by kernel_rfl
attribute [go_sem] bC3
theorem bA9 (i o : Nat) : aH Tryz.prog 30 (.adr i o) 2 = some (.adr i (o + 4)) := by kernel_rfl
attribute [go_sem] bA9
theorem bAq (i o : Nat) : aH Tryz.prog 33 (.adr i o) 0 = some (.adr i (o + 0)) := by kernel_rfl
attribute [go_sem] bAq
theorem bAb (i o : Nat) : aH Tryz.prog 33 (.adr i o) 1 = some (.adr i (o + 5)) := by kernel_rfl
attribute [go_sem] bAb
theorem bBm (i o : Nat) : aH Tryz.prog 35 (.adr i o) 1 = some (.adr i (o + 1)) := by kernel_rfl
attribute [go_sem] bBm
theorem bBo (i o : Nat) : aH Tryz.prog 42 (.adr i o) 0 = some (.adr i (o + 0)) := by kernel_rfl
attribute [go_sem] bBo
theorem bAx (i o : Nat) : aH Tryz.prog 42 (.adr i o) 1 = some (.adr i (o + 1)) := by kernel_rfl
attribute [go_sem] bAx
theorem bDe (i o : Nat) : aH Tryz.prog 42 (.adr i o) 2 = some (.adr i (o + 2)) := by kernel_rfl
attribute [go_sem] bDe
theorem bAo (i o : Nat) : aH Tryz.prog 45 (.adr i o) 0 = some (.adr i (o + 0)) := by kernel_rfl
attribute [go_sem] bAo
theorem bDc (i o : Nat) : aH Tryz.prog 45 (.adr i o) 1 = some (.adr i (o + 1)) := by kernel_rfl
attribute [go_sem] bDc
theorem bBj (i o : Nat) : aH Tryz.prog 45 (.adr i o) 2 = some (.adr i (o + 2)) := by kernel_rfl
attribute [go_sem] bBj
theorem bCw (i o : Nat) : aH Tryz.prog 45 (.adr i o) 3 = some (.adr i (o + 3)) := by kernel_rfl
attribute [go_sem] bCw
theorem bB2 (i o : Nat) : aH Tryz.prog 56 (.adr i o) 0 = some (.adr i (o + 0)) := by kernel_rfl
attribute [go_sem] bB2
theorem bBp (i o : Nat) : aH Tryz.prog 56 (.adr i o) 1 = some (.adr i (o + 5)) := by kernel_rfl
attribute [go_sem] bBp
theorem bDa (i o : Nat) (k : IntKind) : gC Tryz.prog 69 (.adr i o) (.v (.int k 0)) = some (.adr i o) := by kernel_rfl
theorem bDy (i o : Nat) (k : IntKind) : gC Tryz.prog 69 (.adr i o) (.v (.int k 1)) = some (.adr i (o + 1)) := by kernel_rfl
attribute [go_sem] bDa bDy
theorem bH9 (H : aJ) (x0 x1 x2 : AV) (xs : List AV) : bM Tryz.prog H 102 (.ptr (x0 :: x1 :: x2 :: xs)) = some (.agg [x0, x1, x2]) := by kernel_rfl
attribute [go_sem] bH9
theorem bFf (H : aJ) (x0 x1 : AV) (xs : List AV) : bM Tryz.prog H 104 (.ptr (x0 :: x1 :: xs)) = some (.agg [x0, x1]) := by kernel_rfl
attribute [go_sem] bFf
theorem bF0 (H : aJ) (x0 : AV) (xs : List AV) : bM Tryz.prog H 130 (.ptr (x0 :: xs)) = some (.agg [x0]) := by kernel_rfl
attribute [go_sem] bF0
theorem bHi (H : aJ) (x0 x1 : AV) (xs : List AV) : bM Tryz.prog H 151 (.ptr (x0 :: x1 :: xs)) = some (.agg [x0, x1]) := by kernel_rfl
attribute [go_sem] bHi
theorem bJx (H : aJ) (x0 x1 x2 : AV) (xs : List AV) : bM Tryz.prog H 23 (.ptr (x0 :: x1 :: x2 :: xs)) = some (.agg [x0, x1, x2]) := by kernel_rfl
attribute [go_sem] bJx
theorem bL3 (H : aJ) (x : AV) (xs : List AV) : bM Tryz.prog H 24 (.ptr (x :: xs)) = some x := by kernel_rfl
attribute [go_sem] bL3
theorem bKs (H : aJ) (x : AV) (xs : List AV) : bM Tryz.prog H 27 (.ptr (x :: xs)) = some x := by kernel_rfl
attribute [go_sem] bKs
theorem bJ5 (H : aJ) (x : AV) (xs : List AV) : bM Tryz.prog H 28 (.ptr (x :: xs)) = some x := by kernel_rfl
attribute [go_sem] bJ5
theorem bNn (H : aJ) (x : AV) (xs : List AV) : bM Tryz.prog H 3 (.ptr (x :: xs)) = some x := by kernel_rfl
attribute [go_sem] bNn
theorem bKi (H : aJ) (x0 x1 x2 x3 x4 : AV) (xs : List AV) : bM Tryz.prog H 30 (.ptr (x0 :: x1 :: x2 :: x3 :: x4 :: xs)) = some (.agg [x0, x1, x2, x3, x4]) := by kernel_rfl
attribute [go_sem] bKi
theorem bLg (H : aJ) (x : AV) (xs : List AV) : bM Tryz.prog H 31 (.ptr (x :: xs)) = some x := by kernel_rfl
attribute [go_sem] bLg
theorem bKe (H : aJ) (x0 x1 x2 x3 x4 x5 : AV) (xs : List AV) : bM Tryz.prog H 33 (.ptr (x0 :: x1 :: x2 :: x3 :: x4 :: x5 :: xs)) = some (.agg [x0, x1, x2, x3, x4, x5]) := by kernel_rfl
attribute [go_sem] bKe
theorem bNo (H : aJ) (x : AV) (xs : List AV) : bM Tryz.prog H 4 (.ptr (x :: xs)) = some x := by kernel_rfl
attribute [go_sem] bNo
theorem bJp (H : aJ) (x : AV) (xs : List AV) : bM Tryz.prog H 40 (.ptr (x :: xs)) = some x := by kernel_rfl
attribute [go_sem] bJp
theorem bLj (H : aJ) (x0 x1 x2 : AV) (xs : List AV) : bM Tryz.prog H 42 (.ptr (x0 :: x1 :: x2 :: xs)) = some (.agg [x0, x1, x2]) := by kernel_rfl
attribute [go_sem] bLj
theorem bKl (H : aJ) (x : AV) (xs : List AV) : bM Tryz.prog H 43 (.ptr (x :: xs)) = some x := by kernel_rfl
attribute [go_sem] bKl
theorem bJ1 (H : aJ) (x0 x1 x2 x3 : AV) (xs : List AV) : bM Tryz.prog H 45 (.ptr (x0 :: x1 :: x2 :: x3 :: xs)) = some (.agg [x0, x1, x2, x3]) := by kernel_rfl
attribute [go_sem] bJ1
theorem bI5 (H : aJ) (x : AV) (xs : List AV) : bM Tryz.prog H 54 (.ptr (x :: xs)) = some x := by kernel_rfl
attribute [go_sem] bI5
theorem bJe (H : aJ) (x0 x1 x2 x3 x4 x5 : AV) (xs : List AV) : bM Tryz.prog H 56 (.ptr (x0 :: x1 :: x2 :: x3 :: x4 :: x5 :: xs)) = some (.agg [x0, x1, x2, x3, x4, x5]) := by kernel_rfl
attribute [go_sem] bJe
theorem bJm (H : aJ) (x0 x1 : AV) (xs : List AV) : bM Tryz.prog H 69 (.ptr (x0 :: x1 :: xs)) = some (.agg [x0, x1]) := by kernel_rfl
attribute [go_sem] bJm
theorem bMs (H : aJ) (x : AV) (xs : List AV) : bM Tryz.prog H 9 (.ptr (x :: xs)) = some x := by kernel_rfl
attribute [go_sem] bMs
theorem bAi (H : aJ) (k : IntKind) (n : Int) : lU Tryz.prog H 3 43 (.v (.int k n)) = some (.v (.int .u64 (IntKind.u64.wrap n))) := fP Tryz.underlying3 Tryz.underlying43
attribute [go_sem] bAi
theorem bDf (H : aJ) (k : IntKind) (n : Int) : lU Tryz.prog H 5 43 (.v (.int k n)) = some (.v (.int .u64 (IntKind.u64.wrap n))) := fP Tryz.underlying5 Tryz.underlying43
attribute [go_sem] bDf
theorem bBq (H : aJ) (k : IntKind) (n : Int) : lU Tryz.prog H 43 3 (.v (.int k n)) = some (.v (.int .i64 (IntKind.i64.wrap n))) := fP Tryz.underlying43 Tryz.underlying3
attribute [go_sem] bBq
theorem bAe (H : aJ) (k : IntKind) (n : Int) : lU Tryz.prog H 43 5 (.v (.int k n)) = some (.v (.int .u8 (IntKind.u8.wrap n))) := fP Tryz.underlying43 Tryz.underlying5
attribute [go_sem] bAe
def mP (rec1 : Int → List Int → Int → Int → Option (Int)) (aG8 : Int) (t6 : List Int) (t7 : Int) (t8 : Int) : Option (Int) :=
 (bif (decide (t8 < t7)) then
  ((idx t6 t8).bind fun x2 =>
  (bif (x2 != aG8) then
   some x2
  else
   rec1 aG8 t6 t7 (IntKind.i64.wrap (t8 + 1))))
 else
  some aG8)
def qD : Nat → Int → List Int → Int → Int → Option (Int)
 | 0 => fun _ _ _ _ => none
 | n + 1 => mP (qD n)
def aAi (aLj : List Int) : Option (Int) :=
 qD bF 0 aLj (aLj.length : Int) 0
theorem aWi {aLj : List Int} {r : Int} (hm : aAi aLj = some r) : aZ Tryz.prog 106 [vl (ci .i64) aLj] (vi r) := by
 refine bd 18 Tryz.func106 ?_
 refine W ?_
 refine lp (fun m s => ∃ aG8 t6 t7 t8, s = ⟨18, (aF (aF (aF (aF fa 3 (vi aG8)) 6 (vl (ci .i64) t6)) 7 (vi t7)) 8 (vi t8)), ⟨aX, 64⟩⟩ ∧ qD m aG8 t6 t7 t8 = some r) L ?_
 rintro n1 s ⟨aG8, t6, t7, t8, rfl, hm⟩
 refine W ?_
 refine cm hm (fun hm => ?_) fun hm => ?_
 ·
  obtain ⟨x2, h1, hm⟩ := bnd hm
  refine W ?_
  refine cm hm (fun hm => ?_) fun hm => ?_
  · exact E
  exact L
 exact E
def kU (p_0 : aI) (q_1 : aI) : Option (Int) :=
 ((iM p_0.x0 q_1.x0).bind fun r2 =>
 ((iM p_0.x1 q_1.x1).bind fun r4 =>
 ((aAi [r2, r4]).bind fun r6 =>
 some r6)))
theorem aKw {p_0 : aI} {q_1 : aI} {r : Int} (hm : kU p_0 q_1 = some r) : aZ Tryz.prog 105 [.agg [vu p_0.x0, vu p_0.x1], .agg [vu q_1.x0, vu q_1.x1]] (vi r) := by
 refine bd 17 Tryz.func105 ?_
 obtain ⟨r2, h1, hm⟩ := bnd hm
 refine W ?_
 refine cq (xK h1) ?_
 obtain ⟨r4, h3, hm⟩ := bnd hm
 refine W ?_
 refine cq (xK h3) ?_
 refine aL (CFi .i64) [r2, r4] ?_
 obtain ⟨r6, h5, hm⟩ := bnd hm
 refine aU.callB (r := .v (.int .i64 r6)) Zd Z1 bQ7 (.cons (lto (CFi .i64) Z1 Z3 Z6) aOd.nil) bF4 (aWi h5) ?_
 exact E
def xI (rec1 : aE → List aI → List aD → Int → Int → Option ((List aI))) (s_1 : aE) (yE : List aI) (t19 : List aD) (t20 : Int) (t21 : Int) : Option ((List aI)) :=
 (bif (decide (t21 < t20)) then
  ((idx t19 t21).bind fun x4 =>
  ((idx s_1.Slots x4.U).bind fun x6 =>
  ((idx s_1.Slots x4.V).bind fun x8 =>
  ((app yE [(aI.mk (if x8.Key < x6.Key then x8.Key else x6.Key) (if x6.Key < x8.Key then x8.Key else x6.Key))]).bind fun l10 =>
  rec1 s_1 l10 t19 t20 (IntKind.i64.wrap (t21 + 1))))))
 else
  ((aC7 (fun x => x.length) yE.length (eZ yE (fun x0 x1 => kU x0 x1))).bind fun l12 =>
  some l12))
def mW : Nat → aE → List aI → List aD → Int → Int → Option ((List aI))
 | 0 => fun _ _ _ _ _ => none
 | n + 1 => xI (mW n)
def zS (s_0 : aE) : Option ((List aI)) :=
 ((gL s_0.Graph.Config.N s_0.Graph.Edges s_0.Graph.Config.L).bind fun r2 =>
 mW bF s_0 [] r2 (r2.length : Int) 0)
theorem aOk {s_0 : aE} {r : (List aI)} (hm : zS s_0 = some r) : aZ Tryz.prog 80 [.agg [vi s_0.Graph.Config.N, vi s_0.Graph.Config.L, vi s_0.Graph.Config.R, vl bI s_0.Graph.Hashes, vl aT s_0.Graph.Edges, vl aW s_0.Slots]] (vl bJ r) := by
 refine bd 53 Tryz.func80 ?_
 obtain ⟨r2, h1, hm⟩ := bnd hm
 refine W ?_
 refine cq (oP h1) ?_
 refine W ?_
 refine lp (fun m s => ∃ s_1 yE t19 t20 t21, s = ⟨53, (aF (aF (aF (aF (aF fa 1 (.adr 1 0)) 4 (.own 2 0 yE.length)) 19 (vl aT t19)) 20 (vi t20)) 21 (vi t21)), ⟨(upd (upd aX 1 (.cells 1 [vi s_1.Graph.Config.N, vi s_1.Graph.Config.L, vi s_1.Graph.Config.R, vl bI s_1.Graph.Hashes, vl aT s_1.Graph.Edges, vl aW s_1.Slots] 0)) 2 (.cells 2 (yE.flatMap bJ) 0)), 64⟩⟩ ∧ mW m s_1 yE t19 t20 t21 = some r) ?_ ?_
 ·
  refine ⟨_, ?_, s_0, [], r2, (r2.length : Int), 0, rfl, hm⟩
  refine St.Le.trans (nX 4 900004 2 Z1 Z5) ?_
  exact cn (fun j => bif j == 1 then 0 else bif j == 2 then 900004 else 0)
 rintro n1 s ⟨s_1, yE, t19, t20, t21, rfl, hm⟩
 refine W ?_
 refine cm hm (fun hm => ?_) fun hm => ?_
 ·
  obtain ⟨x4, h3, hm⟩ := bnd hm
  obtain ⟨x6, h5, hm⟩ := bnd hm
  obtain ⟨x8, h7, hm⟩ := bnd hm
  refine W ?_
  refine pu rfl (by simp only [go_sem, Nat.reduceBEq]; exact (by kernel_rfl : cN Tryz.prog 69 [(0, .v (.int .u64 (if x8.Key < x6.Key then x8.Key else x6.Key))), (1, .v (.int .u64 (if x6.Key < x8.Key then x8.Key else x6.Key)))] = some (.agg [.v (.int .u64 (if x8.Key < x6.Key then x8.Key else x6.Key)), .v (.int .u64 (if x6.Key < x8.Key then x8.Key else x6.Key))]))) ?_
  refine aL eN [(aI.mk (if x8.Key < x6.Key then x8.Key else x6.Key) (if x6.Key < x8.Key then x8.Key else x6.Key))] ?_
  obtain ⟨l10, h9, hm⟩ := bnd hm
  refine W ?_
  exact Lr (fun j => bif j == 1 then 1 else bif j == 2 then 265 else 0)
 obtain ⟨l12, h11, hm⟩ := bnd hm
 refine W ?_
 have qh11 := aI6 h11
 refine aU.callM Zd Z1 bSf Z1 (aB8 (aGc h11) aCz bSq (fun h => aKw h) Z3) ?_
 exact E
def iE (s_0 : aE) (zQ : Int) (u_2 : Int) (v_3 : Int) : Option (GA) :=
 ((qC s_0.Graph).bind fun r2 =>
 (bif (zQ == 5) then
  ((mQ s_0.Graph.Edges u_2 v_3).bind fun ⟨r4, r5⟩ =>
  some (GA.b 4 r5))
 else
  (bif (zQ == 6) then
   ((sX s_0 u_2).bind fun r7 =>
   some (GA.i 3 .i64 r7))
  else
   (bif (zQ == 7) then
    ((tN s_0 u_2).bind fun r9 =>
    ((mD s_0 r9).bind fun r11 =>
    some (GA.lu 24 r11)))
   else
    (bif (zQ == 8) then
     ((idx r2 u_2).bind fun x13 =>
     ((idx r2 v_3).bind fun x15 =>
     some (GA.b 4 (x13 == x15))))
    else
     (bif (zQ == 9) then
      ((qH r2 u_2).bind fun r17 =>
      ((mD s_0 r17).bind fun r19 =>
      some (GA.i 3 .i64 (r19.length : Int))))
     else
      (bif (zQ == 10) then
       ((wL s_0 r2).bind fun r21 =>
       some (GA.i 3 .i64 r21))
      else
       (bif (zQ == 11) then
        ((qH r2 u_2).bind fun r23 =>
        ((mD s_0 r23).bind fun r25 =>
        some (GA.lu 24 r25)))
       else
        (bif (zQ == 12) then
         ((zS s_0).bind fun r27 =>
         some (GA.lp 40 r27))
        else
         (bif (zQ == 13) then
          ((vH s_0.Graph).bind fun r29 =>
          some (GA.b 4 r29))
         else
          none))))))))))
theorem aO7 {s_0 : aE} {zQ : Int} {u_2 : Int} {v_3 : Int} {r : GA} (hm : iE s_0 zQ u_2 v_3 = some r) : aZ Tryz.prog 42 [.agg [vi s_0.Graph.Config.N, vi s_0.Graph.Config.L, vi s_0.Graph.Config.R, vl bI s_0.Graph.Hashes, vl aT s_0.Graph.Edges, vl aW s_0.Slots], vi zQ, vi u_2, vi v_3] (GA.av r) := by
 refine bd 98 Tryz.func42 ?_
 obtain ⟨r2, h1, hm⟩ := bnd hm
 refine W ?_
 refine cq (aJu h1) ?_
 refine W ?_
 refine cm hm (fun hm => ?_) fun hm => ?_
 ·
  refine W ?_
  obtain ⟨⟨r4, r5⟩, h3, hm⟩ := bnd hm
  refine cq (wI h3) ?_
  exact E
 refine W ?_
 refine cm hm (fun hm => ?_) fun hm => ?_
 ·
  obtain ⟨r7, h6, hm⟩ := bnd hm
  refine W ?_
  refine cq (aF3 h6) ?_
  exact E
 refine W ?_
 refine cm hm (fun hm => ?_) fun hm => ?_
 ·
  obtain ⟨r9, h8, hm⟩ := bnd hm
  refine W ?_
  refine cq (aJv h8) ?_
  obtain ⟨r11, h10, hm⟩ := bnd hm
  refine cq (aCc h10) ?_
  refine aU.pop Zd (zI Z1 ((CFi .u64).sl _ _ _)) (aMp (a := .sl (r11.flatMap (ci .u64)) r11.length false) Tryz.underlying24 (fun _ => by simp) Z1 ((CFi .u64).sl _ _ _) (fun H => (td rfl ((CFi .u64).sl _ _ _)))) rfl ?_
  exact E
 refine W ?_
 refine cm hm (fun hm => ?_) fun hm => ?_
 ·
  obtain ⟨x13, h12, hm⟩ := bnd hm
  obtain ⟨x15, h14, hm⟩ := bnd hm
  exact E
 refine W ?_
 refine cm hm (fun hm => ?_) fun hm => ?_
 ·
  obtain ⟨r17, h16, hm⟩ := bnd hm
  refine W ?_
  refine cq (aDw h16) ?_
  obtain ⟨r19, h18, hm⟩ := bnd hm
  refine cq (aCc h18) ?_
  exact E
 refine W ?_
 refine cm hm (fun hm => ?_) fun hm => ?_
 ·
  obtain ⟨r21, h20, hm⟩ := bnd hm
  refine W ?_
  refine cq (aNe h20) ?_
  exact E
 refine W ?_
 refine cm hm (fun hm => ?_) fun hm => ?_
 ·
  obtain ⟨r23, h22, hm⟩ := bnd hm
  refine W ?_
  refine cq (aDw h22) ?_
  obtain ⟨r25, h24, hm⟩ := bnd hm
  refine cq (aCc h24) ?_
  refine aU.pop Zd (zI Z1 ((CFi .u64).sl _ _ _)) (aMp (a := .sl (r25.flatMap (ci .u64)) r25.length false) Tryz.underlying24 (fun _ => by simp) Z1 ((CFi .u64).sl _ _ _) (fun H => (td rfl ((CFi .u64).sl _ _ _)))) rfl ?_
  exact E
 refine W ?_
 refine cm hm (fun hm => ?_) fun hm => ?_
 ·
  obtain ⟨r27, h26, hm⟩ := bnd hm
  refine W ?_
  refine cq (aOk h26) ?_
  refine aU.pop Zd (zI Z1 (eN.sl _ _ _)) (aMp (a := .sl (r27.flatMap bJ) r27.length false) Tryz.underlying40 (fun _ => by simp) Z1 (eN.sl _ _ _) (fun H => (td rfl (eN.sl _ _ _)))) rfl ?_
  exact E
 refine W ?_
 refine cm hm (fun hm => ?_) fun hm => ?_
 ·
  obtain ⟨r29, h28, hm⟩ := bnd hm
  refine W ?_
  refine cq (aRg h28) ?_
  exact E
 cases hm
def kS (f_1 : (aM → Option (Bool))) (rec1 : List aM → Int → Int → Option (Int)) (s_0 : List aM) (t7 : Int) (t8 : Int) : Option (Int) :=
 (bif (decide (t8 < t7)) then
  ((idx s_0 t8).bind fun x2 =>
  ((f_1 x2).bind fun r4 =>
  (bif r4 then
   some t8
  else
   rec1 s_0 t7 (IntKind.i64.wrap (t8 + 1)))))
 else
  some (-1))
def dZ (f_1 : (aM → Option (Bool))) : Nat → List aM → Int → Int → Option (Int)
 | 0 => fun _ _ _ => none
 | n + 1 => kS f_1 (dZ f_1 n)
def lL (s_0 : List aM) (f_1 : (aM → Option (Bool))) : Option (Int) :=
 dZ f_1 bF s_0 (s_0.length : Int) 0
theorem aC6 {s_0 : List aM} {f_1 : (aM → Option (Bool))} {r : Int} (hm : lL s_0 f_1 = some r) {aGr : FuncId} {vO : List AV} (aLt : ∀ a, a ∈ vO → AM.Data a) (aY1 : (Program.funcs Tryz.prog)[aGr]?.any (fun fn => fn.body.isSome && fn.name != "runtime.NumGoroutine") = true) (aV6 : ∀ {x0 r}, f_1 x0 = some r → aZ Tryz.prog aGr ([.agg [vb x0.Used, vu x0.Key]] ++ vO) (vb r)) : aZ Tryz.prog 112 [vl aW s_0, .clo (.func aGr) [] vO] (vi r) := by
 refine bd 19 Tryz.func112 ?_
 refine W ?_
 refine lp (fun m s => ∃ s_0 t7 t8, s = ⟨19, (aF (aF (aF (aF fa 0 (vl aW s_0)) 1 (.clo (.func aGr) [] vO)) 7 (vi t7)) 8 (vi t8)), ⟨aX, 64⟩⟩ ∧ dZ f_1 m s_0 t7 t8 = some r) L ?_
 rintro n1 s ⟨s_0, t7, t8, rfl, hm⟩
 refine W ?_
 refine cm hm (fun hm => ?_) fun hm => ?_
 ·
  obtain ⟨x2, h1, hm⟩ := bnd hm
  obtain ⟨r4, h3, hm⟩ := bnd hm
  refine W ?_
  refine aU.callQC (r := .v (.bool r4)) Zd Z1 aLt aY1 (fun H => (cD (.agg _ (dP.dat _)) .nil)) (aV6 h3) ?_
  refine W ?_
  refine cm hm (fun hm => ?_) fun hm => ?_
  · exact E
  exact L
 exact E
def iX (aMv : aM) : Option (Bool) :=
 some (!aMv.Used)
theorem aRn {aMv : aM} {r : Bool} (hm : iX aMv = some r) : aZ Tryz.prog 113 [.agg [vb aMv.Used, vu aMv.Key]] (vb r) := by
 refine bd 6 Tryz.func113 ?_
 exact E
def fT (l : List aM) : Option (List aM) := app [] l
theorem aFe {r : List aM} (hm : some [] = some r) : dI Tryz.prog 114 [.v (.slice none 0 0)] 2 (r.flatMap aW) r.length := by
 refine dI.of_body Tryz.func114 rfl (dP.fmdat r) ?_
 simp only [Tryz.ntmps114, List.length_cons, List.length_nil, Nat.reduceAdd, Nat.reduceSub, fE]
 refine sN 64 (pA ?_)
 refine fs (AWp.seq' (sN 128 (pA ?_)))
 refine pu rfl (uN Z1 Z1 (aH5 Tryz.underlying31)) ?_
 refine fs (AWp.condT Z1 ?_)
 refine sN 192 (pA ?_)
 refine fs (AWp.weaken (nX 2 900002 2 Z1 Z5) ?_)
 refine AWp.ret (jJ ?_)
 cases hm
 exact aHc (.inr rfl) Tryz.results114 Z1 Z3 Z6
theorem aFl {a : Addr} {c : Nat} {r : List aM} (hm : ((app [] []).bind fun l2 =>
some l2) = some r) : dI Tryz.prog 114 [.v (.slice (some a) 0 c)] 2 (r.flatMap aW) r.length := by
 refine dI.of_body Tryz.func114 rfl (dP.fmdat r) ?_
 simp only [Tryz.ntmps114, List.length_cons, List.length_nil, Nat.reduceAdd, Nat.reduceSub, fE]
 refine sN 64 (pA ?_)
 refine fs (AWp.seq' (sN 128 (pA ?_)))
 refine pu rfl (uN Z1 Z1 (aE5 Tryz.underlying31)) ?_
 refine fs (AWp.condF Z1 ?_)
 refine AWp.skip (bX (sN 192 (hp (id := 128) rfl rfl (lT dP (l := []) Tryz.underlying31 bGh bEa Z5 Zd Zd Zd (by simp only [go_sem, Nat.reduceBEq]; try rfl) (by kernel_rfl)) ?_)))
 refine pA ?_
 obtain ⟨l2, h1, hm⟩ := bnd hm
 refine hp (id := 130) rfl rfl (aFw dP Tryz.underlying31 Tryz.underlying31 rfl bFx bFe (by rw [aOy]; decide) (by rw [aOy]; decide) bHl Zd Zd Z1 Z3 Z6 (aL4 Z1) rfl Z5 h1) ?_
 refine pA ?_
 refine fs (AWp.ret ?_)
 cases hm
 exact aHc (.inr rfl) Tryz.results114 Z1 Z3 Z6
theorem aFu {x0 : aM} {l0 : List aM} {r : List aM} (hm : ((app [] (x0 :: l0)).bind fun l2 =>
some l2) = some r) : dI Tryz.prog 114 [.sl ((x0 :: l0).flatMap aW) (x0 :: l0).length false] 2 (r.flatMap aW) r.length := by
 refine dI.of_body Tryz.func114 rfl (dP.fmdat r) ?_
 simp only [Tryz.ntmps114, List.length_cons, List.length_nil, Nat.reduceAdd, Nat.reduceSub, fE]
 refine sN 64 (pA ?_)
 refine fs (AWp.seq' (sN 128 (pA ?_)))
 refine pu rfl (uN Z1 Z1 (aE2 Tryz.underlying31 (by simp))) ?_
 refine fs (AWp.condF Z1 ?_)
 refine AWp.skip (bX (sN 192 (hp (id := 128) rfl rfl (lT dP (l := []) Tryz.underlying31 bGh bEa Z5 Zd Zd Zd (by simp only [go_sem, Nat.reduceBEq]; try rfl) (by kernel_rfl)) ?_)))
 refine pA ?_
 obtain ⟨l2, h1, hm⟩ := bnd hm
 refine hp (id := 130) rfl rfl (aFw dP Tryz.underlying31 Tryz.underlying31 rfl bFx bFe (by rw [aOy]; decide) (by rw [aOy]; decide) bHl Zd Zd Z1 Z3 Z6 (aQ5 dP Z1 rfl) rfl Z5 h1) ?_
 refine pA ?_
 refine fs (AWp.ret ?_)
 cases hm
 exact aHc (.inr rfl) Tryz.results114 Z1 Z3 Z6
theorem zC {l r : List aM} (hm : fT l = some r) : dI Tryz.prog 114 [.sl (l.flatMap aW) l.length false] 2 (r.flatMap aW) r.length := by
 cases l with
 | nil =>
  have hr : r = [] := by unfold fT app at hm; simpa using hm.symm
  subst hr
  exact dI.nil_arg (aFe (r := []) rfl) (fun a c => aFl (r := []) rfl)
 | cons x0 l0 =>
  refine aFu ?_
  show (app [] (x0 :: l0)).bind _ = _
  unfold fT at hm
  rw [hm]; rfl
def aB4 (l_0 : List aM) (eQ : Int) : Option ((List aM) × Int × Int) :=
 ((kK l_0).bind fun ⟨r2, r3⟩ =>
 (bif (!r3) then
  some (l_0, 0, 1)
 else
  ((sH r2 eQ).bind fun ⟨r5, r6⟩ =>
  (bif r6 then
   some (l_0, 0, 4)
  else
   ((lL l_0 (fun x0 => iX x0)).bind fun r8 =>
   (bif (decide (r8 < 0)) then
    some (l_0, 0, 10)
   else
    ((fT l_0).bind fun r10 =>
    ((idx r10 r8).bind fun x12 =>
    ((stt r10 r8 (aM.mk true eQ)).bind fun l14 =>
    some (l14, r8, 0))))))))))
theorem aWv {l_0 : List aM} {eQ : Int} {r : (List aM) × Int × Int} (hm : aB4 l_0 eQ = some r) : aZ Tryz.prog 83 [vl aW l_0, vu eQ] (.tup [vl aW r.1, vi r.2.1, vi r.2.2]) := by
 refine bd 43 Tryz.func83 ?_
 refine W ?_
 obtain ⟨⟨r2, r3⟩, h1, hm⟩ := bnd hm
 refine cq (vY h1) ?_
 refine W ?_
 refine cm hm (fun hm => ?_) fun hm => ?_
 · exact E
 refine W ?_
 obtain ⟨⟨r5, r6⟩, h4, hm⟩ := bnd hm
 refine cq (aDz h4) ?_
 refine W ?_
 refine cm hm (fun hm => ?_) fun hm => ?_
 · exact E
 obtain ⟨r8, h7, hm⟩ := bnd hm
 refine W ?_
 refine aU.callQ (r := .v (.int .i64 r8)) Zd Z1 bT8 (fun H => (cD (dP.sl _ _ _) (cD (bGm aCz) .nil))) (aC6 h7 aCz bS4 (fun h => aRn h)) ?_
 refine W ?_
 refine cm hm (fun hm => ?_) fun hm => ?_
 · exact E
 obtain ⟨r10, h9, hm⟩ := bnd hm
 refine W ?_
 refine aU.callF (id := 449) Zd Z1 bLl (fun H => (cD (dP.sl _ _ _) .nil)) dP Z5 (zC h9) ?_
 refine W ?_
 refine pu rfl (by simp only [go_sem, Nat.reduceBEq]; exact (by kernel_rfl : cN Tryz.prog 104 [(0, .v (.bool true)), (1, .v (.int .u64 eQ))] = some (.agg [.v (.bool true), .v (.int .u64 eQ)]))) ?_
 obtain ⟨x12, h11, hm⟩ := bnd hm
 obtain ⟨l14, h13, hm⟩ := bnd hm
 refine W ?_
 have qh13 := jU h13
 refine aS h13 ?_
 exact E
def tF (l_0 : List aM) (eQ : Int) : Option ((List aM) × Int) :=
 ((kK l_0).bind fun ⟨r2, r3⟩ =>
 (bif (!r3) then
  some (l_0, 1)
 else
  ((sH r2 eQ).bind fun ⟨r5, r6⟩ =>
  (bif (!r6) then
   some (l_0, 7)
  else
   ((fT l_0).bind fun r8 =>
   ((idx r8 r5).bind fun x10 =>
   ((stt r8 r5 (aM.mk false 0)).bind fun l12 =>
   some (l12, 0))))))))
theorem aOb {l_0 : List aM} {eQ : Int} {r : (List aM) × Int} (hm : tF l_0 eQ = some r) : aZ Tryz.prog 84 [vl aW l_0, vu eQ] (.tup [vl aW r.1, vi r.2]) := by
 refine bd 35 Tryz.func84 ?_
 refine W ?_
 obtain ⟨⟨r2, r3⟩, h1, hm⟩ := bnd hm
 refine cq (vY h1) ?_
 refine W ?_
 refine cm hm (fun hm => ?_) fun hm => ?_
 · exact E
 refine W ?_
 obtain ⟨⟨r5, r6⟩, h4, hm⟩ := bnd hm
 refine cq (aDz h4) ?_
 refine W ?_
 refine cm hm (fun hm => ?_) fun hm => ?_
 · exact E
 obtain ⟨r8, h7, hm⟩ := bnd hm
 refine W ?_
 refine aU.callF (id := 321) Zd Z1 bLl (fun H => (cD (dP.sl _ _ _) .nil)) dP Z5 (zC h7) ?_
 refine W ?_
 refine pu rfl (by simp only [go_sem, Nat.reduceBEq]; exact (by kernel_rfl : cN Tryz.prog 104 [] = some (.agg [.v (.bool false), .v (.int .u64 0)]))) ?_
 obtain ⟨x10, h9, hm⟩ := bnd hm
 obtain ⟨l12, h11, hm⟩ := bnd hm
 refine W ?_
 have qh11 := jU h11
 refine aS h11 ?_
 exact E
def fG (s_4 : aE) (t8 : aE) (aMc : Int) : Option (aE × Int) :=
 some (s_4, aMc)
def jR (s_0 : aE) (c_1 : aY) (u_2 : Int) (v_3 : Int) : Option (aE × Int) :=
 (bif (c_1.Do == 1) then
  ((aB4 s_0.Slots c_1.A).bind fun ⟨r2, r3, r4⟩ =>
  fG (aE.mk s_0.Graph r2) (aE.mk (aG.mk (aO.mk 0 0 0) [] []) []) r4)
 else
  (bif (c_1.Do == 2) then
   ((sX s_0 u_2).bind fun r6 =>
   (bif (decide (0 < r6)) then
    some (s_0, 11)
   else
    ((tF s_0.Slots c_1.A).bind fun ⟨r8, r9⟩ =>
    fG (aE.mk s_0.Graph r8) (aE.mk (aG.mk (aO.mk 0 0 0) [] []) []) r9)))
  else
   (bif (c_1.Do == 3) then
    ((sS s_0.Graph u_2 v_3).bind fun ⟨r11, r12⟩ =>
    fG (aE.mk r11 s_0.Slots) (aE.mk (aG.mk (aO.mk 0 0 0) [] []) []) r12)
   else
    (bif (c_1.Do == 4) then
     (bif (u_2 == v_3) then
      some (s_0, 9)
     else
      ((tA s_0.Graph u_2 v_3).bind fun ⟨r14, r15⟩ =>
      fG (aE.mk r14 s_0.Slots) (aE.mk (aG.mk (aO.mk 0 0 0) [] []) []) r15))
    else
     (bif (c_1.Do == 15) then
      none
     else
      fG s_0 (aE.mk (aG.mk (aO.mk 0 0 0) [] []) []) 0)))))
theorem aO3 {s_0 : aE} {c_1 : aY} {u_2 : Int} {v_3 : Int} {r : aE × Int} (hm : jR s_0 c_1 u_2 v_3 = some r) : aZ Tryz.prog 43 [.agg [vi s_0.Graph.Config.N, vi s_0.Graph.Config.L, vi s_0.Graph.Config.R, vl bI s_0.Graph.Hashes, vl aT s_0.Graph.Edges, vl aW s_0.Slots], .agg [vi c_1.Do, vu c_1.A, vu c_1.B, .v (.string c_1.Text)], vi u_2, vi v_3] (.tup [.agg [vi r.1.Graph.Config.N, vi r.1.Graph.Config.L, vi r.1.Graph.Config.R, vl bI r.1.Graph.Hashes, vl aT r.1.Graph.Edges, vl aW r.1.Slots], vi r.2]) := by
 refine bd 76 Tryz.func43 ?_
 refine V ?_
 refine AWp.seqJ (fun s => ∃ s_4 t8 aMc, s = ⟨76, (aF (aF (aF fa 4 (.adr 1 0)) 8 (.adr 2 0)) 10 (vi aMc)), ⟨(upd (upd aX 1 (.cells 1 [vi s_4.Graph.Config.N, vi s_4.Graph.Config.L, vi s_4.Graph.Config.R, vl bI s_4.Graph.Hashes, vl aT s_4.Graph.Edges, vl aW s_4.Slots] 0)) 2 (.cells 1 [vi t8.Graph.Config.N, vi t8.Graph.Config.L, vi t8.Graph.Config.R, vl bI t8.Graph.Hashes, vl aT t8.Graph.Edges, vl aW t8.Slots] 0)), 64⟩⟩ ∧ fG s_4 t8 aMc = some r) ?_ ?_
 ·
  refine W ?_
  refine cm hm (fun hm => ?_) fun hm => ?_
  ·
   refine W ?_
   obtain ⟨⟨r2, r3, r4⟩, h1, hm⟩ := bnd hm
   refine cq (aWv h1) ?_
   refine W ?_
   refine ⟨_, ?_, (aE.mk s_0.Graph r2), (aE.mk (aG.mk (aO.mk 0 0 0) [] []) []), r4, rfl, hm⟩
   refine St.Le.trans (iJ 2 (ys := [.v (.int .i64 ((((aE.mk (aG.mk (aO.mk 0 0 0) [] []) []).Graph).Config).N)), .v (.int .i64 ((((aE.mk (aG.mk (aO.mk 0 0 0) [] []) []).Graph).Config).L)), .v (.int .i64 ((((aE.mk (aG.mk (aO.mk 0 0 0) [] []) []).Graph).Config).R)), .sl ((((aE.mk (aG.mk (aO.mk 0 0 0) [] []) []).Graph).Hashes).flatMap bI) (((aE.mk (aG.mk (aO.mk 0 0 0) [] []) []).Graph).Hashes).length false, .sl ((((aE.mk (aG.mk (aO.mk 0 0 0) [] []) []).Graph).Edges).flatMap aT) (((aE.mk (aG.mk (aO.mk 0 0 0) [] []) []).Graph).Edges).length false, .sl (((aE.mk (aG.mk (aO.mk 0 0 0) [] []) []).Slots).flatMap aW) ((aE.mk (aG.mk (aO.mk 0 0 0) [] []) []).Slots).length false]) Z3 (.cons (.data _ (.v _)) (.cons (.data _ (.v _)) (.cons (.data _ (.v _)) (.cons (.nil false) (.cons (.nil false) (.cons (.nil false) .nil))))))) ?_
   exact cn (fun j => bif j == 1 then 0 else bif j == 2 then 2 else 0)
  refine W ?_
  refine cm hm (fun hm => ?_) fun hm => ?_
  ·
   obtain ⟨r6, h5, hm⟩ := bnd hm
   refine W ?_
   refine cq (aF3 h5) ?_
   refine W ?_
   refine cm hm (fun hm => ?_) fun hm => ?_
   · exact E
   refine W ?_
   obtain ⟨⟨r8, r9⟩, h7, hm⟩ := bnd hm
   refine cq (aOb h7) ?_
   refine W ?_
   refine ⟨_, ?_, (aE.mk s_0.Graph r8), (aE.mk (aG.mk (aO.mk 0 0 0) [] []) []), r9, rfl, hm⟩
   refine St.Le.trans (iJ 2 (ys := [.v (.int .i64 ((((aE.mk (aG.mk (aO.mk 0 0 0) [] []) []).Graph).Config).N)), .v (.int .i64 ((((aE.mk (aG.mk (aO.mk 0 0 0) [] []) []).Graph).Config).L)), .v (.int .i64 ((((aE.mk (aG.mk (aO.mk 0 0 0) [] []) []).Graph).Config).R)), .sl ((((aE.mk (aG.mk (aO.mk 0 0 0) [] []) []).Graph).Hashes).flatMap bI) (((aE.mk (aG.mk (aO.mk 0 0 0) [] []) []).Graph).Hashes).length false, .sl ((((aE.mk (aG.mk (aO.mk 0 0 0) [] []) []).Graph).Edges).flatMap aT) (((aE.mk (aG.mk (aO.mk 0 0 0) [] []) []).Graph).Edges).length false, .sl (((aE.mk (aG.mk (aO.mk 0 0 0) [] []) []).Slots).flatMap aW) ((aE.mk (aG.mk (aO.mk 0 0 0) [] []) []).Slots).length false]) Z3 (.cons (.data _ (.v _)) (.cons (.data _ (.v _)) (.cons (.data _ (.v _)) (.cons (.nil false) (.cons (.nil false) (.cons (.nil false) .nil))))))) ?_
   exact cn (fun j => bif j == 1 then 0 else bif j == 2 then 2 else 0)
  refine W ?_
  refine cm hm (fun hm => ?_) fun hm => ?_
  ·
   refine W ?_
   obtain ⟨⟨r11, r12⟩, h10, hm⟩ := bnd hm
   refine cq (aO4 h10) ?_
   refine W ?_
   refine ⟨_, ?_, (aE.mk r11 s_0.Slots), (aE.mk (aG.mk (aO.mk 0 0 0) [] []) []), r12, rfl, hm⟩
   refine St.Le.trans (iJ 2 (ys := [.v (.int .i64 ((((aE.mk (aG.mk (aO.mk 0 0 0) [] []) []).Graph).Config).N)), .v (.int .i64 ((((aE.mk (aG.mk (aO.mk 0 0 0) [] []) []).Graph).Config).L)), .v (.int .i64 ((((aE.mk (aG.mk (aO.mk 0 0 0) [] []) []).Graph).Config).R)), .sl ((((aE.mk (aG.mk (aO.mk 0 0 0) [] []) []).Graph).Hashes).flatMap bI) (((aE.mk (aG.mk (aO.mk 0 0 0) [] []) []).Graph).Hashes).length false, .sl ((((aE.mk (aG.mk (aO.mk 0 0 0) [] []) []).Graph).Edges).flatMap aT) (((aE.mk (aG.mk (aO.mk 0 0 0) [] []) []).Graph).Edges).length false, .sl (((aE.mk (aG.mk (aO.mk 0 0 0) [] []) []).Slots).flatMap aW) ((aE.mk (aG.mk (aO.mk 0 0 0) [] []) []).Slots).length false]) Z3 (.cons (.data _ (.v _)) (.cons (.data _ (.v _)) (.cons (.data _ (.v _)) (.cons (.nil false) (.cons (.nil false) (.cons (.nil false) .nil))))))) ?_
   exact cn (fun j => bif j == 1 then 0 else bif j == 2 then 2 else 0)
  refine W ?_
  refine cm hm (fun hm => ?_) fun hm => ?_
  ·
   refine W ?_
   refine cm hm (fun hm => ?_) fun hm => ?_
   · exact E
   refine W ?_
   obtain ⟨⟨r14, r15⟩, h13, hm⟩ := bnd hm
   refine cq (aO8 h13) ?_
   refine W ?_
   refine ⟨_, ?_, (aE.mk r14 s_0.Slots), (aE.mk (aG.mk (aO.mk 0 0 0) [] []) []), r15, rfl, hm⟩
   refine St.Le.trans (iJ 2 (ys := [.v (.int .i64 ((((aE.mk (aG.mk (aO.mk 0 0 0) [] []) []).Graph).Config).N)), .v (.int .i64 ((((aE.mk (aG.mk (aO.mk 0 0 0) [] []) []).Graph).Config).L)), .v (.int .i64 ((((aE.mk (aG.mk (aO.mk 0 0 0) [] []) []).Graph).Config).R)), .sl ((((aE.mk (aG.mk (aO.mk 0 0 0) [] []) []).Graph).Hashes).flatMap bI) (((aE.mk (aG.mk (aO.mk 0 0 0) [] []) []).Graph).Hashes).length false, .sl ((((aE.mk (aG.mk (aO.mk 0 0 0) [] []) []).Graph).Edges).flatMap aT) (((aE.mk (aG.mk (aO.mk 0 0 0) [] []) []).Graph).Edges).length false, .sl (((aE.mk (aG.mk (aO.mk 0 0 0) [] []) []).Slots).flatMap aW) ((aE.mk (aG.mk (aO.mk 0 0 0) [] []) []).Slots).length false]) Z3 (.cons (.data _ (.v _)) (.cons (.data _ (.v _)) (.cons (.data _ (.v _)) (.cons (.nil false) (.cons (.nil false) (.cons (.nil false) .nil))))))) ?_
   exact cn (fun j => bif j == 1 then 0 else bif j == 2 then 2 else 0)
  refine W ?_
  refine cm hm (fun hm => ?_) fun hm => ?_
  · cases hm
  refine W ?_
  refine ⟨_, ?_, s_0, (aE.mk (aG.mk (aO.mk 0 0 0) [] []) []), 0, rfl, hm⟩
  refine St.Le.trans (iJ 2 (ys := [.v (.int .i64 ((((aE.mk (aG.mk (aO.mk 0 0 0) [] []) []).Graph).Config).N)), .v (.int .i64 ((((aE.mk (aG.mk (aO.mk 0 0 0) [] []) []).Graph).Config).L)), .v (.int .i64 ((((aE.mk (aG.mk (aO.mk 0 0 0) [] []) []).Graph).Config).R)), .sl ((((aE.mk (aG.mk (aO.mk 0 0 0) [] []) []).Graph).Hashes).flatMap bI) (((aE.mk (aG.mk (aO.mk 0 0 0) [] []) []).Graph).Hashes).length false, .sl ((((aE.mk (aG.mk (aO.mk 0 0 0) [] []) []).Graph).Edges).flatMap aT) (((aE.mk (aG.mk (aO.mk 0 0 0) [] []) []).Graph).Edges).length false, .sl (((aE.mk (aG.mk (aO.mk 0 0 0) [] []) []).Slots).flatMap aW) ((aE.mk (aG.mk (aO.mk 0 0 0) [] []) []).Slots).length false]) Z3 (.cons (.data _ (.v _)) (.cons (.data _ (.v _)) (.cons (.data _ (.v _)) (.cons (.nil false) (.cons (.nil false) (.cons (.nil false) .nil))))))) ?_
  exact cn (fun j => bif j == 1 then 0 else bif j == 2 then 2 else 0)
 rintro s ⟨s_4, t8, aMc, rfl, hm⟩
 exact E
def dK (s_0 : aE) (c_1 : aY) : Option (aE × GA) :=
 ((fC (((decide (c_1.Do < 1)) || (decide (15 < c_1.Do))) == false) false (tI s_0)).bind fun r2 =>
 (bif (((decide (c_1.Do < 1)) || (decide (15 < c_1.Do))) || (!r2)) then
  some (s_0, (GA.i 36 .i64 1))
 else
  ((qK s_0.Slots c_1.A).bind fun ⟨r4, r5⟩ =>
  ((qK s_0.Slots c_1.B).bind fun ⟨r7, r8⟩ =>
  ((vG c_1.Do).bind fun r10 =>
  ((fC ((r10 && (!r5)) == false) false (vP c_1.Do)).bind fun r12 =>
  (bif ((r10 && (!r5)) || (r12 && (!r8))) then
   some (s_0, (GA.i 36 .i64 7))
  else
   (bif ((decide (4 < c_1.Do)) && (c_1.Do != 15)) then
    ((iE s_0 c_1.Do r4 r7).bind fun r14 =>
    some (s_0, r14))
   else
    ((jR s_0 c_1 r4 r7).bind fun ⟨r16, r17⟩ =>
    (bif (r17 != 0) then
     some (s_0, (GA.i 36 .i64 r17))
    else
     some (r16, (GA.i 36 .i64 0))))))))))))
theorem gT {s_0 : aE} {c_1 : aY} {r : aE × GA} (hm : dK s_0 c_1 = some r) : aZ Tryz.prog 15 [.agg [vi s_0.Graph.Config.N, vi s_0.Graph.Config.L, vi s_0.Graph.Config.R, vl bI s_0.Graph.Hashes, vl aT s_0.Graph.Edges, vl aW s_0.Slots], .agg [vi c_1.Do, vu c_1.A, vu c_1.B, .v (.string c_1.Text)]] (.tup [.agg [vi r.1.Graph.Config.N, vi r.1.Graph.Config.L, vi r.1.Graph.Config.R, vl bI r.1.Graph.Hashes, vl aT r.1.Graph.Edges, vl aW r.1.Slots], GA.av r.2]) := by
 refine bd 91 Tryz.func15 ?_
 obtain ⟨r2, h1, hm⟩ := bnd hm
 refine W ?_
 refine cg (fun hb => aSj (cM h1 hb)) ?_
 refine W ?_
 refine cm hm (fun hm => ?_) fun hm => ?_
 · exact E
 refine W ?_
 obtain ⟨⟨r4, r5⟩, h3, hm⟩ := bnd hm
 refine cq (aJd h3) ?_
 refine W ?_
 obtain ⟨⟨r7, r8⟩, h6, hm⟩ := bnd hm
 refine cq (aJd h6) ?_
 obtain ⟨r10, h9, hm⟩ := bnd hm
 refine W ?_
 refine cq (aS4 h9) ?_
 obtain ⟨r12, h11, hm⟩ := bnd hm
 refine W ?_
 refine cg (fun hb => aQc (cM h11 hb)) ?_
 refine W ?_
 refine cm hm (fun hm => ?_) fun hm => ?_
 · exact E
 refine W ?_
 refine cm hm (fun hm => ?_) fun hm => ?_
 ·
  obtain ⟨r14, h13, hm⟩ := bnd hm
  refine W ?_
  refine cq (aO7 h13) ?_
  exact E
 refine W ?_
 obtain ⟨⟨r16, r17⟩, h15, hm⟩ := bnd hm
 refine cq (aO3 h15) ?_
 refine W ?_
 refine cm hm (fun hm => ?_) fun hm => ?_
 · exact E
 exact E
def aA4 (lN : GA) : Option (Int) :=
 ((aIf .i64 36 lN).bind fun r2 =>
 some r2)
theorem aIp {lN : GA} {r : Int} (hm : aA4 lN = some r) : aZ Tryz.prog 38 [GA.av lN] (vi r) := by
 refine bd 5 Tryz.func38 ?_
 obtain ⟨r2, h1, hm⟩ := bnd hm
 refine W ?_
 refine pu rfl (bCa Tryz.underlying36 Z1 h1) ?_
 exact E
def jD : Option (Bool) :=
 ((jQ (aO.mk 2 1 1) (bD.mk [3, 4, 5] 0)).bind fun ⟨r2, r3, r4⟩ =>
 ((dK r2 (aY.mk 1 9 0 ⟨#[]⟩)).bind fun ⟨r6, r7⟩ =>
 ((dK r6 (aY.mk 1 7 0 ⟨#[]⟩)).bind fun ⟨r9, r10⟩ =>
 ((dK r9 (aY.mk 3 7 9 ⟨#[]⟩)).bind fun ⟨r12, r13⟩ =>
 ((dK r12 (aY.mk 11 9 0 ⟨#[]⟩)).bind fun ⟨r15, r16⟩ =>
 ((dK r12 (aY.mk 2 9 0 ⟨#[]⟩)).bind fun ⟨r18, r19⟩ =>
 ((dK r12 (aY.mk 5 9 8 ⟨#[]⟩)).bind fun ⟨r21, r22⟩ =>
 ((dK r12 (aY.mk 0 0 0 ⟨#[]⟩)).bind fun ⟨r24, r25⟩ =>
 ((aVr 24 r16).bind fun ⟨r27, r28⟩ =>
 ((fC (((r4 == 0) && (r3.At == 2)) == true) false (aHo r7 36 .i64 0)).bind fun b30 =>
 ((fC ((((r4 == 0) && (r3.At == 2)) && b30) == true) false (aHo r10 36 .i64 0)).bind fun b32 =>
 ((fC (((((r4 == 0) && (r3.At == 2)) && b30) && b32) == true) false (aHo r13 36 .i64 0)).bind fun b34 =>
 (bif ((((((r4 == 0) && (r3.At == 2)) && b30) && b32) && b34) && r28) then
  ((tL r27 [7, 9]).bind fun r37 =>
  ((fC (r37 == true) false (aHo r19 36 .i64 11)).bind fun b39 =>
  ((fC ((r37 && b39) == true) false (aHo r22 36 .i64 7)).bind fun b41 =>
  ((fC (((r37 && b39) && b41) == true) false (aHo r25 36 .i64 1)).bind fun b43 =>
  ((fC ((bif (((r37 && b39) && b41) && b43) then true else false) == true) 0 (aA4 r25)).bind fun r45 =>
  some ((bif (((r37 && b39) && b41) && b43) then true else false) && (r45 == 1)))))))
 else
  some false)))))))))))))
theorem nP {r : Bool} (hm : jD = some r) : aZ Tryz.prog 14 [] (vb r) := by
 refine bd 124 Tryz.func14 ?_
 refine W ?_
 refine pu rfl (by simp only [go_sem, Nat.reduceBEq]; exact (by kernel_rfl : cN Tryz.prog 23 [(0, .v (.int .i64 2)), (1, .v (.int .i64 1)), (2, .v (.int .i64 1))] = some (.agg [.v (.int .i64 2), .v (.int .i64 1), .v (.int .i64 1)]))) ?_
 refine aU.pop Zd (yT (ps := [(0, .v (.int .u64 3)), (1, .v (.int .u64 4)), (2, .v (.int .u64 5))]) (by simp only [go_sem, Nat.reduceBEq]; try rfl) (rV (.v _) (rV (.v _) (rV (.v _) aLa)))) (aH4 (CFi .u64) (l := [3, 4, 5]) (xs := [.v (.int .u64 3), .v (.int .u64 4), .v (.int .u64 5)]) Tryz.underlying24 aHh bG2 Zd Zd Zd (ps := [(0, .v (.int .u64 3)), (1, .v (.int .u64 4)), (2, .v (.int .u64 5))]) (by simp only [go_sem, Nat.reduceBEq]; try rfl) (by kernel_rfl) (fun H => (.cons (.data _ (.v _)) (.cons (.data _ (.v _)) (.cons (.data _ (.v _)) .nil))))) rfl ?_
 refine pu rfl (by simp only [go_sem, Nat.reduceBEq]; exact (by kernel_rfl : cN Tryz.prog 35 [(0, .sl (([3, 4, 5]).flatMap (ci .u64)) ([3, 4, 5]).length false)] = some (.agg [.sl (([3, 4, 5]).flatMap (ci .u64)) ([3, 4, 5]).length false, .v (.int .i64 0)]))) ?_
 obtain ⟨⟨r2, r3, r4⟩, h1, hm⟩ := bnd hm
 refine cq (aG9 h1) ?_
 refine W ?_
 refine pu rfl (by simp only [go_sem, Nat.reduceBEq]; exact (by kernel_rfl : cN Tryz.prog 45 [(0, .v (.int .i64 1)), (1, .v (.int .u64 9))] = some (.agg [.v (.int .i64 1), .v (.int .u64 9), .v (.int .u64 0), .v (.string ⟨#[]⟩)]))) ?_
 obtain ⟨⟨r6, r7⟩, h5, hm⟩ := bnd hm
 refine cq (gT h5) ?_
 refine W ?_
 refine pu rfl (by simp only [go_sem, Nat.reduceBEq]; exact (by kernel_rfl : cN Tryz.prog 45 [(0, .v (.int .i64 1)), (1, .v (.int .u64 7))] = some (.agg [.v (.int .i64 1), .v (.int .u64 7), .v (.int .u64 0), .v (.string ⟨#[]⟩)]))) ?_
 obtain ⟨⟨r9, r10⟩, h8, hm⟩ := bnd hm
 refine cq (gT h8) ?_
 refine W ?_
 refine pu rfl (by simp only [go_sem, Nat.reduceBEq]; exact (by kernel_rfl : cN Tryz.prog 45 [(0, .v (.int .i64 3)), (1, .v (.int .u64 7)), (2, .v (.int .u64 9))] = some (.agg [.v (.int .i64 3), .v (.int .u64 7), .v (.int .u64 9), .v (.string ⟨#[]⟩)]))) ?_
 obtain ⟨⟨r12, r13⟩, h11, hm⟩ := bnd hm
 refine cq (gT h11) ?_
 refine W ?_
 refine pu rfl (by simp only [go_sem, Nat.reduceBEq]; exact (by kernel_rfl : cN Tryz.prog 45 [(0, .v (.int .i64 11)), (1, .v (.int .u64 9))] = some (.agg [.v (.int .i64 11), .v (.int .u64 9), .v (.int .u64 0), .v (.string ⟨#[]⟩)]))) ?_
 obtain ⟨⟨r15, r16⟩, h14, hm⟩ := bnd hm
 refine cq (gT h14) ?_
 refine W ?_
 refine pu rfl (by simp only [go_sem, Nat.reduceBEq]; exact (by kernel_rfl : cN Tryz.prog 45 [(0, .v (.int .i64 2)), (1, .v (.int .u64 9))] = some (.agg [.v (.int .i64 2), .v (.int .u64 9), .v (.int .u64 0), .v (.string ⟨#[]⟩)]))) ?_
 obtain ⟨⟨r18, r19⟩, h17, hm⟩ := bnd hm
 refine cq (gT h17) ?_
 refine W ?_
 refine pu rfl (by simp only [go_sem, Nat.reduceBEq]; exact (by kernel_rfl : cN Tryz.prog 45 [(0, .v (.int .i64 5)), (1, .v (.int .u64 9)), (2, .v (.int .u64 8))] = some (.agg [.v (.int .i64 5), .v (.int .u64 9), .v (.int .u64 8), .v (.string ⟨#[]⟩)]))) ?_
 obtain ⟨⟨r21, r22⟩, h20, hm⟩ := bnd hm
 refine cq (gT h20) ?_
 refine W ?_
 refine pu rfl (by simp only [go_sem, Nat.reduceBEq]; exact (by kernel_rfl : cN Tryz.prog 45 [] = some (.agg [.v (.int .i64 0), .v (.int .u64 0), .v (.int .u64 0), .v (.string ⟨#[]⟩)]))) ?_
 obtain ⟨⟨r24, r25⟩, h23, hm⟩ := bnd hm
 refine cq (gT h23) ?_
 refine W ?_
 obtain ⟨⟨r27, r28⟩, h26, hm⟩ := bnd hm
 refine aU.pop Zd (zI Z1 (GA.data _)) (aN7 Tryz.underlying24 bIf bJ4 Z1 h26) rfl ?_
 obtain ⟨b30, h29, hm⟩ := bnd hm
 iterate 17 refine S1 ?_
 refine aU.popG Zd rfl Z2 (fun hb => (aFo (Zh hb) (Zh hb) (GA.data _) (.ifc _ _ (.v _)))) (fun hb => (wA Tryz.underlying20 Tryz.underlying36 aX5 (by kernel_rfl) (Zh hb) (Zh hb) (cM h29 hb))) rfl ?_
 obtain ⟨b32, h31, hm⟩ := bnd hm
 iterate 4 refine S1 ?_
 refine aU.popG Zd rfl Z2 (fun hb => (aFo (Zh hb) (Zh hb) (GA.data _) (.ifc _ _ (.v _)))) (fun hb => (wA Tryz.underlying20 Tryz.underlying36 aX5 (by kernel_rfl) (Zh hb) (Zh hb) (cM h31 hb))) rfl ?_
 obtain ⟨b34, h33, hm⟩ := bnd hm
 iterate 4 refine S1 ?_
 refine aU.popG Zd rfl Z2 (fun hb => (aFo (Zh hb) (Zh hb) (GA.data _) (.ifc _ _ (.v _)))) (fun hb => (wA Tryz.underlying20 Tryz.underlying36 aX5 (by kernel_rfl) (Zh hb) (Zh hb) (cM h33 hb))) rfl ?_
 refine W ?_
 refine bKg hm (fun h35 hm => ?_) (fun h35 hm => ?_)
 ·
  refine aU.heapG Zd rfl (by simp only [go_sem, Nat.reduceBEq, h35]; try with_reducible rfl) (id := 667) rfl (lT (CFi .u64) (l := [7, 9]) Tryz.underlying24 aHh bG2 Z5 Zd Zd Zd (by simp only [go_sem, Nat.reduceBEq, h35]; try rfl) (by kernel_rfl)) ?_
  obtain ⟨r37, h36, hm⟩ := bnd hm
  refine aU.callBG (r := .v (.bool r37)) Zd rfl (by simp only [go_sem, Nat.reduceBEq, h35]; try with_reducible rfl) (by try simp only [go_sem, Nat.reduceBEq, h35]; try rfl) bU7 (fun hb => (.cons (ltd fun H => (td (by try simp only [go_sem, Nat.reduceBEq, h35]; try rfl) ((CFi .u64).sl _ _ _))) (.cons (lto (CFi .u64) (by try simp only [go_sem, Nat.reduceBEq, h35]; try rfl) Z3 Z6) aOd.nil))) bF4 (fun hb => aJa h36) ?_
  iterate 4 (first | refine pu rfl (by simp only [go_sem, Nat.reduceBEq, h35]; try with_reducible rfl) ?_ | refine pg rfl rfl (by simp only [go_sem, Nat.reduceBEq, h35]; try with_reducible rfl) (by intro hb; simp only [go_sem, Nat.reduceBEq, h35, hb, Bool.true_and]; try with_reducible rfl) ?_)
  obtain ⟨b39, h38, hm⟩ := bnd hm
  refine aU.popG Zd rfl (by simp only [go_sem, Nat.reduceBEq, h35]; try with_reducible rfl) (fun hb => (aFo (by try simp only [go_sem, Nat.reduceBEq, h35, hb, Bool.true_and]; try rfl) (by try simp only [go_sem, Nat.reduceBEq, h35, hb, Bool.true_and]; try rfl) (GA.data _) (.ifc _ _ (.v _)))) (fun hb => (wA Tryz.underlying20 Tryz.underlying36 aX5 (by kernel_rfl) (by try simp only [go_sem, Nat.reduceBEq, h35, hb, Bool.true_and]; try rfl) (by try simp only [go_sem, Nat.reduceBEq, h35, hb, Bool.true_and]; try rfl) (cM h38 hb))) rfl ?_
  iterate 4 (first | refine pu rfl (by simp only [go_sem, Nat.reduceBEq, h35]; try with_reducible rfl) ?_ | refine pg rfl rfl (by simp only [go_sem, Nat.reduceBEq, h35]; try with_reducible rfl) (by intro hb; simp only [go_sem, Nat.reduceBEq, h35, hb, Bool.true_and]; try with_reducible rfl) ?_)
  obtain ⟨b41, h40, hm⟩ := bnd hm
  refine aU.popG Zd rfl (by simp only [go_sem, Nat.reduceBEq, h35]; try with_reducible rfl) (fun hb => (aFo (by try simp only [go_sem, Nat.reduceBEq, h35, hb, Bool.true_and]; try rfl) (by try simp only [go_sem, Nat.reduceBEq, h35, hb, Bool.true_and]; try rfl) (GA.data _) (.ifc _ _ (.v _)))) (fun hb => (wA Tryz.underlying20 Tryz.underlying36 aX5 (by kernel_rfl) (by try simp only [go_sem, Nat.reduceBEq, h35, hb, Bool.true_and]; try rfl) (by try simp only [go_sem, Nat.reduceBEq, h35, hb, Bool.true_and]; try rfl) (cM h40 hb))) rfl ?_
  iterate 4 (first | refine pu rfl (by simp only [go_sem, Nat.reduceBEq, h35]; try with_reducible rfl) ?_ | refine pg rfl rfl (by simp only [go_sem, Nat.reduceBEq, h35]; try with_reducible rfl) (by intro hb; simp only [go_sem, Nat.reduceBEq, h35, hb, Bool.true_and]; try with_reducible rfl) ?_)
  obtain ⟨b43, h42, hm⟩ := bnd hm
  refine aU.popG Zd rfl (by simp only [go_sem, Nat.reduceBEq, h35]; try with_reducible rfl) (fun hb => (aFo (by try simp only [go_sem, Nat.reduceBEq, h35, hb, Bool.true_and]; try rfl) (by try simp only [go_sem, Nat.reduceBEq, h35, hb, Bool.true_and]; try rfl) (GA.data _) (.ifc _ _ (.v _)))) (fun hb => (wA Tryz.underlying20 Tryz.underlying36 aX5 (by kernel_rfl) (by try simp only [go_sem, Nat.reduceBEq, h35, hb, Bool.true_and]; try rfl) (by try simp only [go_sem, Nat.reduceBEq, h35, hb, Bool.true_and]; try rfl) (cM h42 hb))) rfl ?_
  iterate 5 (first | refine pu rfl (by simp only [go_sem, Nat.reduceBEq, h35]; try with_reducible rfl) ?_ | refine pg rfl rfl (by simp only [go_sem, Nat.reduceBEq, h35]; try with_reducible rfl) (by intro hb; simp only [go_sem, Nat.reduceBEq, h35, hb, Bool.true_and]; try with_reducible rfl) ?_)
  obtain ⟨r45, h44, hm⟩ := bnd hm
  refine aU.callQG (r := .v (.int .i64 r45)) Zd rfl (by simp only [go_sem, Nat.reduceBEq, h35]; try with_reducible rfl) (by try simp only [go_sem, Nat.reduceBEq, h35]; try rfl) bVk (fun hb H => (.cons (td (by try simp only [go_sem, Nat.reduceBEq, h35, hb, Bool.true_and]; try rfl) (GA.data _)) .nil)) (fun hb => aIp (cM h44 hb)) ?_
  iterate 3 (first | refine pu rfl (by simp only [go_sem, Nat.reduceBEq, h35]; try with_reducible rfl) ?_ | refine pg rfl rfl (by simp only [go_sem, Nat.reduceBEq, h35]; try with_reducible rfl) (by intro hb; simp only [go_sem, Nat.reduceBEq, h35, hb, Bool.true_and]; try with_reducible rfl) ?_)
  exact E
 refine aU.skipG Zd rfl (by simp only [go_sem, Nat.reduceBEq, h35]; try with_reducible rfl) ?_
 refine aU.skipG Zd rfl (by simp only [go_sem, Nat.reduceBEq, h35]; try with_reducible rfl) ?_
 iterate 2 refine pu rfl (by simp only [go_sem, Nat.reduceBEq, h35]; try with_reducible rfl) ?_
 refine aU.skipG Zd rfl (by simp only [go_sem, Nat.reduceBEq, h35]; try with_reducible rfl) ?_
 refine aU.skipG Zd rfl (by simp only [go_sem, Nat.reduceBEq, h35]; try with_reducible rfl) ?_
 refine aU.skipG Zd rfl (by simp only [go_sem, Nat.reduceBEq, h35]; try with_reducible rfl) ?_
 iterate 2 refine pu rfl (by simp only [go_sem, Nat.reduceBEq, h35]; try with_reducible rfl) ?_
 refine aU.skipG Zd rfl (by simp only [go_sem, Nat.reduceBEq, h35]; try with_reducible rfl) ?_
 refine aU.skipG Zd rfl (by simp only [go_sem, Nat.reduceBEq, h35]; try with_reducible rfl) ?_
 refine aU.skipG Zd rfl (by simp only [go_sem, Nat.reduceBEq, h35]; try with_reducible rfl) ?_
 iterate 2 refine pu rfl (by simp only [go_sem, Nat.reduceBEq, h35]; try with_reducible rfl) ?_
 refine aU.skipG Zd rfl (by simp only [go_sem, Nat.reduceBEq, h35]; try with_reducible rfl) ?_
 refine aU.skipG Zd rfl (by simp only [go_sem, Nat.reduceBEq, h35]; try with_reducible rfl) ?_
 refine aU.skipG Zd rfl (by simp only [go_sem, Nat.reduceBEq, h35]; try with_reducible rfl) ?_
 iterate 4 refine pu rfl (by simp only [go_sem, Nat.reduceBEq, h35]; try with_reducible rfl) ?_
 refine aU.skipG Zd rfl (by simp only [go_sem, Nat.reduceBEq, h35]; try with_reducible rfl) ?_
 refine aU.skipG Zd rfl (by simp only [go_sem, Nat.reduceBEq, h35]; try with_reducible rfl) ?_
 refine aU.skipG Zd rfl (by simp only [go_sem, Nat.reduceBEq, h35]; try with_reducible rfl) ?_
 iterate 2 refine pu rfl (by simp only [go_sem, Nat.reduceBEq, h35]; try with_reducible rfl) ?_
 exact E
def aBf (rec1 : List Int → Int → Int → Option (Int)) (l_0 : List Int) (k_1 : Int) (i_5 : Int) : Option (Int) :=
 (bif (decide (i_5 < (l_0.length : Int))) then
  ((idx l_0 i_5).bind fun x2 =>
  (bif (x2 == k_1) then
   some i_5
  else
   rec1 l_0 k_1 (IntKind.i64.wrap (i_5 + 1))))
 else
  some (-1))
def rO : Nat → List Int → Int → Int → Option (Int)
 | 0 => fun _ _ _ => none
 | n + 1 => aBf (rO n)
def tJ (l_0 : List Int) (k_1 : Int) : Option (Int) :=
 rO bF l_0 k_1 0
theorem aD4 {l_0 : List Int} {k_1 : Int} {r : Int} (hm : tJ l_0 k_1 = some r) : aZ Tryz.prog 45 [vl (ci .u64) l_0, vu k_1] (vi r) := by
 refine bd 19 Tryz.func45 ?_
 refine W ?_
 refine lp (fun m s => ∃ l_0 k_1 i_5, s = ⟨19, (aF (aF (aF fa 0 (vl (ci .u64) l_0)) 1 (vu k_1)) 5 (vi i_5)), ⟨aX, 64⟩⟩ ∧ rO m l_0 k_1 i_5 = some r) L ?_
 rintro n1 s ⟨l_0, k_1, i_5, rfl, hm⟩
 refine W ?_
 refine cm hm (fun hm => ?_) fun hm => ?_
 ·
  obtain ⟨x2, h1, hm⟩ := bnd hm
  refine W ?_
  refine cm hm (fun hm => ?_) fun hm => ?_
  · exact E
  exact L
 exact E
def rN (rec1 : Int → aC → List Int → Int → Option ((List Int))) (a_1 : Int) (m_2 : aC) (dH : List Int) (i_6 : Int) : Option ((List Int)) :=
 rec1 a_1 m_2 dH (IntKind.i64.wrap (i_6 + 1))
def aAl (rec1 : Int → aC → List Int → Int → Option ((List Int))) (rec2 : Int → aC → List Int → Int → Int → Int → Option ((List Int))) (a_1 : Int) (m_2 : aC) (dH : List Int) (i_6 : Int) (yO : Int) (k_9 : Int) : Option ((List Int)) :=
 ((fC ((decide (k_9 < (dH.length : Int))) == true) 0 (idx dH k_9)).bind fun x4 =>
 (bif ((decide (k_9 < (dH.length : Int))) && (decide (x4 < yO))) then
  rec2 a_1 m_2 dH i_6 yO (IntKind.i64.wrap (k_9 + 1))
 else
  ((slc dH 0 k_9).bind fun l6 =>
  ((app [] l6).bind fun l8 =>
  ((app l8 [yO]).bind fun l10 =>
  ((slc dH k_9 (dH.length : Int)).bind fun l12 =>
  ((app l10 l12).bind fun l14 =>
  rN rec1 a_1 m_2 l14 i_6)))))))
def rT (rec1 : Int → aC → List Int → Int → Option ((List Int))) : Nat → Int → aC → List Int → Int → Int → Int → Option ((List Int))
 | 0 => fun _ _ _ _ _ _ => none
 | n + 1 => aAl rec1 (rT rec1 n)
def aBs (rec1 : Int → aC → List Int → Int → Option ((List Int))) (a_1 : Int) (m_2 : aC) (dH : List Int) (i_6 : Int) : Option ((List Int)) :=
 (bif (decide (i_6 < (m_2.Pairs.length : Int))) then
  ((idx m_2.Pairs i_6).bind fun x2 =>
  (bif ((x2.x0 != a_1) && (x2.x1 != a_1)) then
   rN rec1 a_1 m_2 dH i_6
  else
   rT rec1 bF a_1 m_2 dH i_6 (IntKind.u64.wrap ((IntKind.u64.wrap (x2.x0 + x2.x1)) - a_1)) 0))
 else
  some dH)
def jA : Nat → Int → aC → List Int → Int → Option ((List Int))
 | 0 => fun _ _ _ _ => none
 | n + 1 => aBs (jA n)
def yB (m_0 : aC) (a_1 : Int) : Option ((List Int)) :=
 jA bF a_1 m_0 [] 0
theorem aJg {m_0 : aC} {a_1 : Int} {r : (List Int)} (hm : yB m_0 a_1 = some r) : aZ Tryz.prog 46 [.agg [vi m_0.Most, vl (ci .u64) m_0.Keys, vl bJ m_0.Pairs], vu a_1] (vl (ci .u64) r) := by
 refine bd 69 Tryz.func46 ?_
 refine W ?_
 refine lp (fun m s => ∃ a_1 m_2 dH i_6, s = ⟨69, (aF (aF (aF (aF fa 1 (vu a_1)) 2 (.adr 1 0)) 5 (.own 2 0 dH.length)) 6 (vi i_6)), ⟨(upd (upd aX 1 (.cells 1 [vi m_2.Most, vl (ci .u64) m_2.Keys, vl bJ m_2.Pairs] 0)) 2 (.cells 1 (dH.flatMap (ci .u64)) 0)), 64⟩⟩ ∧ jA m a_1 m_2 dH i_6 = some r) ?_ ?_
 ·
  refine ⟨_, ?_, a_1, m_0, [], 0, rfl, hm⟩
  refine St.Le.trans (nX 5 900005 1 Z1 Z5) ?_
  exact cn (fun j => bif j == 1 then 0 else bif j == 2 then 900005 else 0)
 rintro n1 s ⟨a_1, m_2, dH, i_6, rfl, hm⟩
 refine W ?_
 refine cm hm (fun hm => ?_) fun hm => ?_
 ·
  refine V ?_
  refine AWp.seqJ (fun s => ∃ a_1 m_2 dH i_6, s = ⟨69, (aF (aF (aF (aF fa 1 (vu a_1)) 2 (.adr 1 0)) 5 (.own 2 0 dH.length)) 6 (vi i_6)), ⟨(upd (upd aX 1 (.cells 1 [vi m_2.Most, vl (ci .u64) m_2.Keys, vl bJ m_2.Pairs] 0)) 2 (.cells 1 (dH.flatMap (ci .u64)) 0)), 64⟩⟩ ∧ rN (jA n1) a_1 m_2 dH i_6 = some r) ?_ ?_
  ·
   obtain ⟨x2, h1, hm⟩ := bnd hm
   refine W ?_
   refine cm hm (fun hm => ?_) fun hm => ?_
   ·
    refine W ?_
    exact Lr (fun j => bif j == 1 then 1 else bif j == 2 then 2 else 0)
   refine W ?_
   refine lp (fun m s => ∃ a_1 m_2 dH i_6 yO k_9, s = ⟨69, (aF (aF (aF (aF (aF (aF fa 1 (vu a_1)) 2 (.adr 1 0)) 5 (.own 2 0 dH.length)) 6 (vi i_6)) 8 (vu yO)) 9 (vi k_9)), ⟨(upd (upd aX 1 (.cells 1 [vi m_2.Most, vl (ci .u64) m_2.Keys, vl bJ m_2.Pairs] 0)) 2 (.cells 1 (dH.flatMap (ci .u64)) 0)), 64⟩⟩ ∧ rT (jA n1) m a_1 m_2 dH i_6 yO k_9 = some r) (Lr (fun j => bif j == 1 then 1 else bif j == 2 then 2 else 0)) ?_
   rintro n2 s ⟨a_1, m_2, dH, i_6, yO, k_9, rfl, hm⟩
   obtain ⟨x4, h3, hm⟩ := bnd hm
   refine W ?_
   refine cm hm (fun hm => ?_) fun hm => ?_
   ·
    refine W ?_
    exact Lr (fun j => bif j == 1 then 1 else bif j == 2 then 2 else 0)
   iterate 8 refine S1 ?_
   refine AWp.seq' ?_
   refine AWp.weaken (aEe (CFi .u64) 5 2 Z1 Z3 Z6) ?_
   obtain ⟨l6, h5, hm⟩ := bnd hm
   obtain ⟨l8, h7, hm⟩ := bnd hm
   refine W ?_
   refine aL (CFi .u64) [yO] ?_
   obtain ⟨l10, h9, hm⟩ := bnd hm
   obtain ⟨l12, h11, hm⟩ := bnd hm
   obtain ⟨l14, h13, hm⟩ := bnd hm
   refine W ?_
   exact Lr (fun j => bif j == 1 then 1 else bif j == 2 then 324 else 0)
  rintro s ⟨a_1, m_2, dH, i_6, rfl, hm⟩
  refine W ?_
  exact Lr (fun j => bif j == 1 then 1 else bif j == 2 then 2 else 0)
 exact E
def aBc (a_0 : Int) (b_1 : Int) (t4 : aI) : Option (aI) :=
 some (aI.mk a_0 b_1)
def uA (a_0 : Int) (b_1 : Int) : Option (aI) :=
 (bif (decide (b_1 < a_0)) then
  aBc b_1 a_0 (aI.mk 0 0)
 else
  aBc a_0 b_1 (aI.mk 0 0))
theorem aJm {a_0 : Int} {b_1 : Int} {r : aI} (hm : uA a_0 b_1 = some r) : aZ Tryz.prog 47 [vu a_0, vu b_1] (.agg [vu r.x0, vu r.x1]) := by
 refine bd 13 Tryz.func47 ?_
 refine V ?_
 refine AWp.seqJ (fun s => ∃ a_0 b_1 t4, s = ⟨13, (aF (aF (aF fa 0 (vu a_0)) 1 (vu b_1)) 4 (.adr 1 0)), ⟨(upd aX 1 (.cells 1 [vu t4.x0, vu t4.x1] 0)), 64⟩⟩ ∧ aBc a_0 b_1 t4 = some r) ?_ ?_
 ·
  refine W ?_
  refine cm hm (fun hm => ?_) fun hm => ?_
  ·
   refine W ?_
   exact Lr (fun j => bif j == 1 then 0 else 0)
  refine W ?_
  exact Lr (fun j => bif j == 1 then 0 else 0)
 rintro s ⟨a_0, b_1, t4, rfl, hm⟩
 refine W ?_
 refine pu rfl (by simp only [go_sem, Nat.reduceBEq]; exact (by kernel_rfl : cN Tryz.prog 69 [(0, .v (.int .u64 a_0)), (1, .v (.int .u64 b_1))] = some (.agg [.v (.int .u64 a_0), .v (.int .u64 b_1)]))) ?_
 exact E
def aFa (rec1 : List aI → aI → Int → Option (Int)) (l_0 : List aI) (p_3 : aI) (i_5 : Int) : Option (Int) :=
 (bif (decide (i_5 < (l_0.length : Int))) then
  ((idx l_0 i_5).bind fun x2 =>
  (bif (aNs x2 p_3) then
   some i_5
  else
   rec1 l_0 p_3 (IntKind.i64.wrap (i_5 + 1))))
 else
  some (-1))
def xN : Nat → List aI → aI → Int → Option (Int)
 | 0 => fun _ _ _ => none
 | n + 1 => aFa (xN n)
def aA5 (l_0 : List aI) (p_1 : aI) : Option (Int) :=
 xN bF l_0 p_1 0
theorem aPe {l_0 : List aI} {p_1 : aI} {r : Int} (hm : aA5 l_0 p_1 = some r) : aZ Tryz.prog 48 [vl bJ l_0, .agg [vu p_1.x0, vu p_1.x1]] (vi r) := by
 refine bd 19 Tryz.func48 ?_
 refine W ?_
 refine lp (fun m s => ∃ l_0 p_3 i_5, s = ⟨19, (aF (aF (aF fa 0 (vl bJ l_0)) 3 (.adr 1 0)) 5 (vi i_5)), ⟨(upd aX 1 (.cells 1 [vu p_3.x0, vu p_3.x1] 0)), 64⟩⟩ ∧ xN m l_0 p_3 i_5 = some r) (Lr (fun j => bif j == 1 then 0 else 0)) ?_
 rintro n1 s ⟨l_0, p_3, i_5, rfl, hm⟩
 refine W ?_
 refine cm hm (fun hm => ?_) fun hm => ?_
 ·
  obtain ⟨x2, h1, hm⟩ := bnd hm
  iterate 2 refine S1 ?_
  refine AWp.seq' ?_
  iterate 7 refine S1 ?_
  refine aU.pop Zd (aFo Z1 Z1 (.agg _ (eN.dat x2)) (.agg _ (eN.dat p_3))) (aW4 Tryz.underlying69 Tryz.underlying43 aHh (by kernel_rfl) Z1 Z1) rfl ?_
  refine W ?_
  refine cm hm (fun hm => ?_) fun hm => ?_
  · exact E
  refine W ?_
  exact Lr (fun j => bif j == 1 then 1 else 0)
 exact E
def dN (m_0 : aC) (zQ : Int) (a_2 : Int) (b_3 : Int) : Option (aC × Int) :=
 ((tJ m_0.Keys a_2).bind fun r2 =>
 (bif (zQ == 1) then
  (bif (decide (0 ≤ r2)) then
   some (m_0, 4)
  else
   (bif (decide (m_0.Most ≤ (m_0.Keys.length : Int))) then
    some (m_0, 10)
   else
    ((app [] m_0.Keys).bind fun l4 =>
    ((app l4 [a_2]).bind fun l6 =>
    some ((aC.mk m_0.Most l6 m_0.Pairs), 0)))))
 else
  ((fC (((decide (r2 < 0)) == false) && ((decide (2 < zQ)) == true)) 0 (tJ m_0.Keys b_3)).bind fun r8 =>
  (bif ((decide (r2 < 0)) || ((decide (2 < zQ)) && (decide (r8 < 0)))) then
   some (m_0, 7)
  else
   (bif (zQ == 2) then
    ((yB m_0 a_2).bind fun r10 =>
    (bif (decide (0 < (r10.length : Int))) then
     some (m_0, 11)
    else
     ((slc m_0.Keys 0 r2).bind fun l12 =>
     ((app [] l12).bind fun l14 =>
     ((slc m_0.Keys (IntKind.i64.wrap (r2 + 1)) (m_0.Keys.length : Int)).bind fun l16 =>
     ((app l14 l16).bind fun l18 =>
     some ((aC.mk m_0.Most l18 m_0.Pairs), 0)))))))
   else
    ((uA a_2 b_3).bind fun r20 =>
    ((aA5 m_0.Pairs r20).bind fun r22 =>
    (bif (zQ == 4) then
     (bif (decide (r22 < 0)) then
      some (m_0, 9)
     else
      ((slc m_0.Pairs 0 r22).bind fun l24 =>
      ((app [] l24).bind fun l26 =>
      ((slc m_0.Pairs (IntKind.i64.wrap (r22 + 1)) (m_0.Pairs.length : Int)).bind fun l28 =>
      ((app l26 l28).bind fun l30 =>
      some ((aC.mk m_0.Most m_0.Keys l30), 0))))))
    else
     (bif (a_2 == b_3) then
      some (m_0, 8)
     else
      (bif (decide (0 ≤ r22)) then
       some (m_0, 4)
      else
       ((app [] m_0.Pairs).bind fun l32 =>
       ((app l32 [r20]).bind fun l34 =>
       some ((aC.mk m_0.Most m_0.Keys l34), 0)))))))))))))
theorem aF6 {m_0 : aC} {zQ : Int} {a_2 : Int} {b_3 : Int} {r : aC × Int} (hm : dN m_0 zQ a_2 b_3 = some r) : aZ Tryz.prog 18 [.agg [vi m_0.Most, vl (ci .u64) m_0.Keys, vl bJ m_0.Pairs], vi zQ, vu a_2, vu b_3] (.tup [.agg [vi r.1.Most, vl (ci .u64) r.1.Keys, vl bJ r.1.Pairs], vi r.2]) := by
 refine bd 135 Tryz.func18 ?_
 obtain ⟨r2, h1, hm⟩ := bnd hm
 refine W ?_
 refine cq (aD4 h1) ?_
 refine W ?_
 refine cm hm (fun hm => ?_) fun hm => ?_
 ·
  refine W ?_
  refine cm hm (fun hm => ?_) fun hm => ?_
  · exact E
  refine W ?_
  refine cm hm (fun hm => ?_) fun hm => ?_
  · exact E
  obtain ⟨l4, h3, hm⟩ := bnd hm
  refine W ?_
  refine AWp.regW [(4, 0), (8, 1)] [(36, 0), (42, 0)] [38, 11] 64 mix (by kernel_rfl) (by kernel_rfl) (IV.cons (off := 0) Z1 (IV.cons (off := 0) Z1 IV.nil)) (by intro q hq; simp only [List.mem_cons, List.not_mem_nil, or_false] at hq; rcases hq with rfl | rfl <;> ((try simp only [tR, Nat.reduceBEq, cond_true, cond_false]); first | exact .inl rfl | exact .inr rfl)) (by intro k hk q hq; simp only [List.mem_cons, List.not_mem_nil, or_false] at hk; rcases hk with rfl | rfl <;> (simp only [List.mem_cons, List.not_mem_nil, or_false] at hq; rcases hq with rfl | rfl <;> (try simp only [tR, Nat.reduceBEq, cond_true, cond_false]) <;> (intro h; first | (cases h; done) | (simp [cQ] at h; done)))) (N' := 512) rfl ?_
  refine W ?_
  refine aL (CFi .u64) [a_2] ?_
  obtain ⟨l6, h5, hm⟩ := bnd hm
  refine W ?_
  refine pu rfl (by simp only [go_sem, Nat.reduceBEq]; exact (by kernel_rfl : cN Tryz.prog 42 [(0, .v (.int .i64 m_0.Most)), (1, .own 453 0 l6.length), (2, .sl (m_0.Pairs.flatMap bJ) m_0.Pairs.length false)] = some (.agg [.v (.int .i64 m_0.Most), .own 453 0 l6.length, .sl (m_0.Pairs.flatMap bJ) m_0.Pairs.length false]))) ?_
  exact E
 obtain ⟨r8, h7, hm⟩ := bnd hm
 refine W ?_
 refine cg (fun hb => aD4 (cM h7 hb)) ?_
 refine W ?_
 refine cm hm (fun hm => ?_) fun hm => ?_
 · exact E
 refine W ?_
 refine cm hm (fun hm => ?_) fun hm => ?_
 ·
  obtain ⟨r10, h9, hm⟩ := bnd hm
  refine W ?_
  refine cq (aJg h9) ?_
  refine W ?_
  refine cm hm (fun hm => ?_) fun hm => ?_
  · exact E
  obtain ⟨l12, h11, hm⟩ := bnd hm
  obtain ⟨l14, h13, hm⟩ := bnd hm
  refine W ?_
  refine AWp.regW [(4, 0), (8, 1)] [(73, 0), (76, 0), (82, 0)] [75, 12] 64 mix (by kernel_rfl) (by kernel_rfl) (IV.cons (off := 0) Z1 (IV.cons (off := 0) Z1 IV.nil)) (by intro q hq; simp only [List.mem_cons, List.not_mem_nil, or_false] at hq; rcases hq with rfl | rfl | rfl <;> ((try simp only [tR, Nat.reduceBEq, cond_true, cond_false]); first | exact .inl rfl | exact .inr rfl)) (by intro k hk q hq; simp only [List.mem_cons, List.not_mem_nil, or_false] at hk; rcases hk with rfl | rfl <;> (simp only [List.mem_cons, List.not_mem_nil, or_false] at hq; rcases hq with rfl | rfl <;> (try simp only [tR, Nat.reduceBEq, cond_true, cond_false]) <;> (intro h; first | (cases h; done) | (simp [cQ] at h; done)))) (N' := 576) rfl ?_
  obtain ⟨l16, h15, hm⟩ := bnd hm
  obtain ⟨l18, h17, hm⟩ := bnd hm
  refine W ?_
  refine pu rfl (by simp only [go_sem, Nat.reduceBEq]; exact (by kernel_rfl : cN Tryz.prog 42 [(0, .v (.int .i64 m_0.Most)), (1, .own 520 0 l18.length), (2, .sl (m_0.Pairs.flatMap bJ) m_0.Pairs.length false)] = some (.agg [.v (.int .i64 m_0.Most), .own 520 0 l18.length, .sl (m_0.Pairs.flatMap bJ) m_0.Pairs.length false]))) ?_
  exact E
 obtain ⟨r20, h19, hm⟩ := bnd hm
 refine W ?_
 refine cq (aJm h19) ?_
 obtain ⟨r22, h21, hm⟩ := bnd hm
 refine W ?_
 refine cq (aPe h21) ?_
 refine W ?_
 refine cm hm (fun hm => ?_) fun hm => ?_
 ·
  refine W ?_
  refine cm hm (fun hm => ?_) fun hm => ?_
  · exact E
  obtain ⟨l24, h23, hm⟩ := bnd hm
  obtain ⟨l26, h25, hm⟩ := bnd hm
  refine W ?_
  refine AWp.regW [(4, 0), (8, 1)] [(103, 0), (105, 0), (108, 0)] [107, 15] 64 mix (by kernel_rfl) (by kernel_rfl) (IV.cons (off := 0) Z1 (IV.cons (off := 0) Z1 IV.nil)) (by intro q hq; simp only [List.mem_cons, List.not_mem_nil, or_false] at hq; rcases hq with rfl | rfl | rfl <;> ((try simp only [tR, Nat.reduceBEq, cond_true, cond_false]); first | exact .inl rfl | exact .inr rfl)) (by intro k hk q hq; simp only [List.mem_cons, List.not_mem_nil, or_false] at hk; rcases hk with rfl | rfl <;> (simp only [List.mem_cons, List.not_mem_nil, or_false] at hq; rcases hq with rfl | rfl <;> (try simp only [tR, Nat.reduceBEq, cond_true, cond_false]) <;> (intro h; first | (cases h; done) | (simp [cQ] at h; done)))) (N' := 768) rfl ?_
  obtain ⟨l28, h27, hm⟩ := bnd hm
  obtain ⟨l30, h29, hm⟩ := bnd hm
  refine W ?_
  refine pu rfl (by simp only [go_sem, Nat.reduceBEq]; exact (by kernel_rfl : cN Tryz.prog 42 [(0, .v (.int .i64 m_0.Most)), (1, .sl (m_0.Keys.flatMap (ci .u64)) m_0.Keys.length false), (2, .own 714 0 l30.length)] = some (.agg [.v (.int .i64 m_0.Most), .sl (m_0.Keys.flatMap (ci .u64)) m_0.Keys.length false, .own 714 0 l30.length]))) ?_
  exact E
 refine W ?_
 refine cm hm (fun hm => ?_) fun hm => ?_
 · exact E
 refine W ?_
 refine cm hm (fun hm => ?_) fun hm => ?_
 · exact E
 obtain ⟨l32, h31, hm⟩ := bnd hm
 refine W ?_
 refine AWp.regW [(4, 0), (8, 1), (13, 323)] [(126, 0), (128, 0)] [130, 15] 64 mix (by kernel_rfl) (by kernel_rfl) (IV.cons (off := 0) Z1 (IV.cons (off := 0) Z1 (IV.cons (off := 0) Z1 IV.nil))) (by intro q hq; simp only [List.mem_cons, List.not_mem_nil, or_false] at hq; rcases hq with rfl | rfl <;> ((try simp only [tR, Nat.reduceBEq, cond_true, cond_false]); first | exact .inl rfl | exact .inr rfl)) (by intro k hk q hq; simp only [List.mem_cons, List.not_mem_nil, or_false] at hk; rcases hk with rfl | rfl <;> (simp only [List.mem_cons, List.not_mem_nil, or_false] at hq; rcases hq with rfl | rfl | rfl <;> (try simp only [tR, Nat.reduceBEq, cond_true, cond_false]) <;> (intro h; first | (cases h; done) | (simp [cQ] at h; done)))) (N' := 832) rfl ?_
 refine W ?_
 refine aL eN [r20] ?_
 obtain ⟨l34, h33, hm⟩ := bnd hm
 refine W ?_
 refine pu rfl (by simp only [go_sem, Nat.reduceBEq]; exact (by kernel_rfl : cN Tryz.prog 42 [(0, .v (.int .i64 m_0.Most)), (1, .sl (m_0.Keys.flatMap (ci .u64)) m_0.Keys.length false), (2, .own 775 0 l34.length)] = some (.agg [.v (.int .i64 m_0.Most), .sl (m_0.Keys.flatMap (ci .u64)) m_0.Keys.length false, .own 775 0 l34.length]))) ?_
 exact E
def aAt (m_0 : aC) (a_1 : Int) (b_2 : Int) : Option (Bool) :=
 ((uA a_1 b_2).bind fun r2 =>
 ((aA5 m_0.Pairs r2).bind fun r4 =>
 some (decide (0 ≤ r4))))
theorem aXo {m_0 : aC} {a_1 : Int} {b_2 : Int} {r : Bool} (hm : aAt m_0 a_1 b_2 = some r) : aZ Tryz.prog 26 [.agg [vi m_0.Most, vl (ci .u64) m_0.Keys, vl bJ m_0.Pairs], vu a_1, vu b_2] (vb r) := by
 refine bd 14 Tryz.func26 ?_
 obtain ⟨r2, h1, hm⟩ := bnd hm
 refine W ?_
 refine cq (aJm h1) ?_
 obtain ⟨r4, h3, hm⟩ := bnd hm
 refine cq (aPe h3) ?_
 exact E
def aAc (lN : GA) (aBn : Bool) : Option (Bool) :=
 ((aW6 4 lN).bind fun ⟨r2, r3⟩ =>
 some (r3 && (r2 == aBn)))
theorem aQh {lN : GA} {aBn : Bool} {r : Bool} (hm : aAc lN aBn = some r) : aZ Tryz.prog 29 [GA.av lN, vb aBn] (vb r) := by
 refine bd 18 Tryz.func29 ?_
 refine W ?_
 obtain ⟨⟨r2, r3⟩, h1, hm⟩ := bnd hm
 refine pu rfl (bCy Tryz.underlying4 in4 tz4 Z1 h1) ?_
 exact E
def lX (lN : GA) (aBn : List Int) : Option (Bool) :=
 ((aVr 24 lN).bind fun ⟨r2, r3⟩ =>
 ((fC (r3 == true) false (tL r2 aBn)).bind fun r5 =>
 some (r3 && r5)))
theorem aNa {lN : GA} {aBn : List Int} {r : Bool} (hm : lX lN aBn = some r) : aZ Tryz.prog 27 [GA.av lN, vl (ci .u64) aBn] (vb r) := by
 refine bd 18 Tryz.func27 ?_
 refine W ?_
 obtain ⟨⟨r2, r3⟩, h1, hm⟩ := bnd hm
 refine aU.pop Zd (zI Z1 (GA.data _)) (aN7 Tryz.underlying24 bIf bJ4 Z1 h1) rfl ?_
 obtain ⟨r5, h4, hm⟩ := bnd hm
 refine W ?_
 refine cg (fun hb => aJa (cM h4 hb)) ?_
 exact E
def xH (rec1 : List Int → List Int → Int → Option ((List Int))) (rec2 : List Int → List Int → Int → Int → Option ((List Int))) (l_0 : List Int) (oQ : List Int) (i_4 : Int) (k_5 : Int) : Option ((List Int)) :=
 ((fC ((decide (k_5 < (oQ.length : Int))) == true) 0 (idx oQ k_5)).bind fun x2 =>
 ((fC ((decide (k_5 < (oQ.length : Int))) == true) 0 (idx l_0 i_4)).bind fun x4 =>
 (bif ((decide (k_5 < (oQ.length : Int))) && (decide (x2 < x4))) then
  rec2 l_0 oQ i_4 (IntKind.i64.wrap (k_5 + 1))
 else
  ((slc oQ 0 k_5).bind fun l6 =>
  ((app [] l6).bind fun l8 =>
  ((idx l_0 i_4).bind fun x10 =>
  ((app l8 [x10]).bind fun l12 =>
  ((slc oQ k_5 (oQ.length : Int)).bind fun l14 =>
  ((app l12 l14).bind fun l16 =>
  rec1 l_0 l16 (IntKind.i64.wrap (i_4 + 1)))))))))))
def mU (rec1 : List Int → List Int → Int → Option ((List Int))) : Nat → List Int → List Int → Int → Int → Option ((List Int))
 | 0 => fun _ _ _ _ => none
 | n + 1 => xH rec1 (mU rec1 n)
def wP (rec1 : List Int → List Int → Int → Option ((List Int))) (l_0 : List Int) (oQ : List Int) (i_4 : Int) : Option ((List Int)) :=
 (bif (decide (i_4 < (l_0.length : Int))) then
  mU rec1 bF l_0 oQ i_4 0
 else
  some oQ)
def iN : Nat → List Int → List Int → Int → Option ((List Int))
 | 0 => fun _ _ _ => none
 | n + 1 => wP (iN n)
def zT (l_0 : List Int) : Option ((List Int)) :=
 iN bF l_0 [] 0
theorem aOm {l_0 : List Int} {r : (List Int)} (hm : zT l_0 = some r) : aZ Tryz.prog 66 [vl (ci .u64) l_0] (vl (ci .u64) r) := by
 refine bd 48 Tryz.func66 ?_
 refine W ?_
 refine lp (fun m s => ∃ l_0 oQ i_4, s = ⟨48, (aF (aF (aF fa 0 (vl (ci .u64) l_0)) 3 (.own 1 0 oQ.length)) 4 (vi i_4)), ⟨(upd aX 1 (.cells 1 (oQ.flatMap (ci .u64)) 0)), 64⟩⟩ ∧ iN m l_0 oQ i_4 = some r) ?_ ?_
 ·
  refine ⟨_, ?_, l_0, [], 0, rfl, hm⟩
  refine St.Le.trans (nX 3 900003 1 Z1 Z5) ?_
  exact cn (fun j => bif j == 1 then 900003 else 0)
 rintro n1 s ⟨l_0, oQ, i_4, rfl, hm⟩
 refine W ?_
 refine cm hm (fun hm => ?_) fun hm => ?_
 ·
  refine W ?_
  refine lp (fun m s => ∃ l_0 oQ i_4 k_5, s = ⟨48, (aF (aF (aF (aF fa 0 (vl (ci .u64) l_0)) 3 (.own 1 0 oQ.length)) 4 (vi i_4)) 5 (vi k_5)), ⟨(upd aX 1 (.cells 1 (oQ.flatMap (ci .u64)) 0)), 64⟩⟩ ∧ mU (iN n1) m l_0 oQ i_4 k_5 = some r) (Lr (fun j => bif j == 1 then 1 else 0)) ?_
  rintro n2 s ⟨l_0, oQ, i_4, k_5, rfl, hm⟩
  obtain ⟨x2, h1, hm⟩ := bnd hm
  obtain ⟨x4, h3, hm⟩ := bnd hm
  refine W ?_
  refine cm hm (fun hm => ?_) fun hm => ?_
  ·
   refine W ?_
   exact Lr (fun j => bif j == 1 then 1 else 0)
  iterate 8 refine S1 ?_
  refine AWp.seq' ?_
  refine AWp.weaken (aEe (CFi .u64) 3 1 Z1 Z3 Z6) ?_
  obtain ⟨l6, h5, hm⟩ := bnd hm
  obtain ⟨l8, h7, hm⟩ := bnd hm
  obtain ⟨x10, h9, hm⟩ := bnd hm
  refine W ?_
  refine aL (CFi .u64) [x10] ?_
  obtain ⟨l12, h11, hm⟩ := bnd hm
  obtain ⟨l14, h13, hm⟩ := bnd hm
  obtain ⟨l16, h15, hm⟩ := bnd hm
  refine W ?_
  exact Lr (fun j => bif j == 1 then 324 else 0)
 exact E
end Go.Proofs.YtkdohhmacfoolaaGreat
