/- Facts that the statement's proof is made of. No condition. -/
import Derived.Test.YtkdohhmacfoolaaGreatNdGA1
import Derived.Test.YtkdohhmacfoolaaGreatNdPl
set_option linter.unusedVariables false
set_option linter.unusedSimpArgs false
set_option maxRecDepth 20000
set_option maxHeartbeats 4000000
namespace Go.Proofs.YtkdohhmacfoolaaGreat
open Go Go.AM
structure aM where
 R : Int
 V : Int
 Words : List Int
deriving DecidableEq
def aKw (e : aM) : List AV := [.v (.int .i64 e.R), .v (.int .i64 e.V), .sl (e.Words.flatMap (ci .u64)) e.Words.length false]
theorem aEl (e : aM) (r : List AV) : aKw e ++ r = .v (.int .i64 e.R) :: .v (.int .i64 e.V) :: .sl (e.Words.flatMap (ci .u64)) e.Words.length false :: r := rfl
attribute [go_sem] aEl
theorem aT5 (i o : Nat) : aI Tryz.prog 102 (.adr i o) 0 = some (.adr i (o + 0)) := by kernel_rfl
attribute [go_sem] aT5
theorem aUg (i o : Nat) : aI Tryz.prog 102 (.adr i o) 1 = some (.adr i (o + 1)) := by kernel_rfl
attribute [go_sem] aUg
theorem aV9 (i o : Nat) : aI Tryz.prog 102 (.adr i o) 2 = some (.adr i (o + 2)) := by kernel_rfl
attribute [go_sem] aV9
theorem aTy (i o : Nat) : aI Tryz.prog 120 (.adr i o) 0 = some (.adr i (o + 0)) := by kernel_rfl
attribute [go_sem] aTy
theorem aSr (i o : Nat) : aI Tryz.prog 120 (.adr i o) 1 = some (.adr i (o + 1)) := by kernel_rfl
attribute [go_sem] aSr
theorem aXv (i o : Nat) : aI Tryz.prog 23 (.adr i o) 0 = some (.adr i (o + 0)) := by kernel_rfl
attribute [go_sem] aXv
theorem aZu (i o : Nat) : aI Tryz.prog 23 (.adr i o) 1 = some (.adr i (o + 1)) := by kernel_rfl
attribute [go_sem] aZu
theorem bA6 (i o : Nat) : aI Tryz.prog 23 (.adr i o) 2 = some (.adr i (o + 2)) := by kernel_rfl
attribute [go_sem] bA6
theorem aUj (i o : Nat) : aI Tryz.prog 243 (.adr i o) 0 = some (.adr i (o + 0)) := by kernel_rfl
attribute [go_sem] aUj
theorem aVa (i o : Nat) : aI Tryz.prog 243 (.adr i o) 1 = some (.adr i (o + 1)) := by kernel_rfl
attribute [go_sem] aVa
theorem aVv (i o : Nat) : aI Tryz.prog 243 (.adr i o) 2 = some (.adr i (o + 2)) := by kernel_rfl
attribute [go_sem] aVv
theorem aZm (i o : Nat) : aI Tryz.prog 30 (.adr i o) 0 = some (.adr i (o + 0)) := by kernel_rfl
attribute [go_sem] aZm
theorem bA2 (i o : Nat) : aI Tryz.prog 30 (.adr i o) 1 = some (.adr i (o + 3)) := by kernel_rfl
attribute [go_sem] bA2
theorem aY2 (i o : Nat) : aI Tryz.prog 30 (.adr i o) 2 = some (.adr i (o + 4)) := by kernel_rfl
attribute [go_sem] aY2
theorem bAs (H : aH) (x0 x1 x2 : AV) (xs : List AV) : bP Tryz.prog H 102 (.ptr (x0 :: x1 :: x2 :: xs)) = some (.agg [x0, x1, x2]) := by kernel_rfl
attribute [go_sem] bAs
theorem bCe (H : aH) (x0 x1 : AV) (xs : List AV) : bP Tryz.prog H 120 (.ptr (x0 :: x1 :: xs)) = some (.agg [x0, x1]) := by kernel_rfl
attribute [go_sem] bCe
theorem bEz (H : aH) (x : AV) (xs : List AV) : bP Tryz.prog H 24 (.ptr (x :: xs)) = some x := by kernel_rfl
attribute [go_sem] bEz
theorem bB0 (H : aH) (x0 x1 x2 : AV) (xs : List AV) : bP Tryz.prog H 243 (.ptr (x0 :: x1 :: x2 :: xs)) = some (.agg [x0, x1, x2]) := by kernel_rfl
attribute [go_sem] bB0
theorem bFh (H : aH) (x : AV) (xs : List AV) : bP Tryz.prog H 27 (.ptr (x :: xs)) = some x := by kernel_rfl
attribute [go_sem] bFh
theorem bFg (H : aH) (x : AV) (xs : List AV) : bP Tryz.prog H 28 (.ptr (x :: xs)) = some x := by kernel_rfl
attribute [go_sem] bFg
theorem bHy (H : aH) (x : AV) (xs : List AV) : bP Tryz.prog H 3 (.ptr (x :: xs)) = some x := by kernel_rfl
attribute [go_sem] bHy
theorem bFw (H : aH) (x0 x1 x2 x3 x4 : AV) (xs : List AV) : bP Tryz.prog H 30 (.ptr (x0 :: x1 :: x2 :: x3 :: x4 :: xs)) = some (.agg [x0, x1, x2, x3, x4]) := by kernel_rfl
attribute [go_sem] bFw
theorem bI9 (H : aH) (x : AV) (xs : List AV) : bP Tryz.prog H 4 (.ptr (x :: xs)) = some x := by kernel_rfl
attribute [go_sem] bI9
theorem bFk (H : aH) (x : AV) (xs : List AV) : bP Tryz.prog H 43 (.ptr (x :: xs)) = some x := by kernel_rfl
attribute [go_sem] bFk
theorem aZ3 (H : aH) (k : IntKind) (n : Int) : nH Tryz.prog H 3 43 (.v (.int k n)) = some (.v (.int .u64 (IntKind.u64.wrap n))) := gL Tryz.underlying3 Tryz.underlying43
attribute [go_sem] aZ3
theorem aTe (H : aH) (k : IntKind) (n : Int) : nH Tryz.prog H 3 198 (.v (.int k n)) = some (.v (.int .u64 (IntKind.u64.wrap n))) := gL Tryz.underlying3 Tryz.underlying198
attribute [go_sem] aTe
theorem bCt (H : aH) (k : IntKind) (n : Int) : nH Tryz.prog H 5 3 (.v (.int k n)) = some (.v (.int .i64 (IntKind.i64.wrap n))) := gL Tryz.underlying5 Tryz.underlying3
attribute [go_sem] bCt
theorem aZ8 (H : aH) (k : IntKind) (n : Int) : nH Tryz.prog H 43 3 (.v (.int k n)) = some (.v (.int .i64 (IntKind.i64.wrap n))) := gL Tryz.underlying43 Tryz.underlying3
attribute [go_sem] aZ8
theorem aVz (H : aH) (k : IntKind) (n : Int) : nH Tryz.prog H 214 5 (.v (.int k n)) = some (.v (.int .u8 (IntKind.u8.wrap n))) := gL Tryz.underlying214 Tryz.underlying5
attribute [go_sem] aVz
def aBw (sX : Int) (qX : Int) (y_2 : Int) : Option (Int) :=
 ((chk (y_2 != 0)).bind fun _ =>
 ((wX (Int.tmod sX y_2) qX y_2).bind fun ⟨r3, r4⟩ =>
 some r4))
theorem aQe {sX : Int} {qX : Int} {y_2 : Int} {r : Int} (hm : aBw sX qX y_2 = some r) : aZ Tryz.prog 166 [vu sX, vu qX, vu y_2] (vu r) := by
 refine bd 19 Tryz.func166 ?_
 obtain ⟨_, h1, hm⟩ := bnd hm
 refine W ?_
 obtain ⟨⟨r3, r4⟩, h2, hm⟩ := bnd hm
 refine cq (aRl h2) ?_
 exact E
def aG5 (a_0 : Int) (b_1 : Int) : Option (Int) :=
 ((aA7 a_0).bind fun r2 =>
 ((aA7 b_1).bind fun r4 =>
 ((xG r2 r4).bind fun ⟨r6, r7⟩ =>
 ((aBw r6 r7 2305843009213693951).bind fun r9 =>
 some r9))))
theorem bBg {a_0 : Int} {b_1 : Int} {r : Int} (hm : aG5 a_0 b_1 = some r) : aZ Tryz.prog 139 [vu a_0, vu b_1] (vu r) := by
 refine bd 18 Tryz.func139 ?_
 obtain ⟨r2, h1, hm⟩ := bnd hm
 refine W ?_
 refine cq (aJj h1) ?_
 obtain ⟨r4, h3, hm⟩ := bnd hm
 refine W ?_
 refine cq (aJj h3) ?_
 obtain ⟨⟨r6, r7⟩, h5, hm⟩ := bnd hm
 refine cq (aRf h5) ?_
 obtain ⟨r9, h8, hm⟩ := bnd hm
 refine W ?_
 refine cq (aQe h8) ?_
 exact E
def aBr (n_0 : Int) (l_1 : List aC) (v_2 : Int) : Option ((List Int)) :=
 ((mL n_0 l_1).bind fun r2 =>
 (bif (!r2) then
  some []
 else
  ((pY n_0 l_1).bind fun ⟨r4, r5⟩ =>
  ((oM r4 v_2).bind fun r7 =>
  some r7))))
theorem aR9 {n_0 : Int} {l_1 : List aC} {v_2 : Int} {r : (List Int)} (hm : aBr n_0 l_1 v_2 = some r) : aZ Tryz.prog 197 [vi n_0, vl aT l_1, vi v_2] (vl (ci .i64) r) := by
 refine bd 22 Tryz.func197 ?_
 obtain ⟨r2, h1, hm⟩ := bnd hm
 refine W ?_
 refine cq (aAm h1) ?_
 refine W ?_
 refine cm hm (fun hm => ?_) fun hm => ?_
 · exact E
 refine W ?_
 obtain ⟨⟨r4, r5⟩, h3, hm⟩ := bnd hm
 refine cq (aGd h3) ?_
 obtain ⟨r7, h6, hm⟩ := bnd hm
 refine W ?_
 refine cq (aC4 h6) ?_
 exact E
def nA (g_0 : aG) (cC : Int) (v_2 : Int) : Option ((List Int)) :=
 ((hD g_0.Config.N g_0.Edges cC).bind fun r2 =>
 ((aBr g_0.Config.N r2 v_2).bind fun r4 =>
 some r4))
theorem aDp {g_0 : aG} {cC : Int} {v_2 : Int} {r : (List Int)} (hm : nA g_0 cC v_2 = some r) : aZ Tryz.prog 184 [.agg [vi g_0.Config.N, vi g_0.Config.L, vi g_0.Config.R, vl bH g_0.Hashes, vl aT g_0.Edges], vi cC, vi v_2] (vl (ci .i64) r) := by
 refine bd 19 Tryz.func184 ?_
 obtain ⟨r2, h1, hm⟩ := bnd hm
 refine W ?_
 refine cq (nQ h1) ?_
 obtain ⟨r4, h3, hm⟩ := bnd hm
 refine W ?_
 refine cq (aR9 h3) ?_
 exact E
def qE (g_0 : aG) (cC : Int) (v_2 : Int) : Option ((List Int)) :=
 ((dU g_0).bind fun r2 =>
 (bif (((((!r2) || (decide (cC < 0))) || (decide (g_0.Config.L < cC))) || (decide (v_2 < 0))) || (decide (g_0.Config.N ≤ v_2))) then
  some []
 else
  ((nA g_0 cC v_2).bind fun r4 =>
  some r4)))
theorem aFm {g_0 : aG} {cC : Int} {v_2 : Int} {r : (List Int)} (hm : qE g_0 cC v_2 = some r) : aZ Tryz.prog 168 [.agg [vi g_0.Config.N, vi g_0.Config.L, vi g_0.Config.R, vl bH g_0.Hashes, vl aT g_0.Edges], vi cC, vi v_2] (vl (ci .i64) r) := by
 refine bd 36 Tryz.func168 ?_
 obtain ⟨r2, h1, hm⟩ := bnd hm
 refine W ?_
 refine cq (hY h1) ?_
 refine W ?_
 refine cm hm (fun hm => ?_) fun hm => ?_
 · exact E
 obtain ⟨r4, h3, hm⟩ := bnd hm
 refine W ?_
 refine cq (aDp h3) ?_
 exact E
def lD (g_0 : aG) (cC : Int) (v_2 : Int) : Option (Bool) :=
 ((dU g_0).bind fun r2 =>
 some ((((r2 && (decide (0 ≤ cC))) && (decide (cC < g_0.Config.L))) && (decide (0 ≤ v_2))) && (decide (v_2 < g_0.Config.N))))
theorem aFg {g_0 : aG} {cC : Int} {v_2 : Int} {r : Bool} (hm : lD g_0 cC v_2 = some r) : aZ Tryz.prog 185 [.agg [vi g_0.Config.N, vi g_0.Config.L, vi g_0.Config.R, vl bH g_0.Hashes, vl aT g_0.Edges], vi cC, vi v_2] (vb r) := by
 refine bd 31 Tryz.func185 ?_
 obtain ⟨r2, h1, hm⟩ := bnd hm
 refine W ?_
 refine cq (hY h1) ?_
 exact E
def aEr (rec1 : Int → List Int → Int → Int → Option (Bool)) (n_0 : Int) (t13 : List Int) (t14 : Int) (t15 : Int) : Option (Bool) :=
 (bif (decide (t15 < t14)) then
  ((idx t13 t15).bind fun x4 =>
  (bif ((decide (x4 < 0)) || (decide (n_0 ≤ x4))) then
   some false
  else
   rec1 n_0 t13 t14 (IntKind.i64.wrap (t15 + 1))))
 else
  some true)
def vQ : Nat → Int → List Int → Int → Int → Option (Bool)
 | 0 => fun _ _ _ _ => none
 | n + 1 => aEr (vQ n)
def aGl (n_0 : Int) (l_1 : List aC) (aAv : List Int) : Option (Bool) :=
 ((fY n_0 l_1).bind fun r2 =>
 (bif (!r2) then
  some false
 else
  vQ bK n_0 aAv (aAv.length : Int) 0))
theorem aZb {n_0 : Int} {l_1 : List aC} {aAv : List Int} {r : Bool} (hm : aGl n_0 l_1 aAv = some r) : aZ Tryz.prog 205 [vi n_0, vl aT l_1, vl (ci .i64) aAv] (vb r) := by
 refine bd 27 Tryz.func205 ?_
 obtain ⟨r2, h1, hm⟩ := bnd hm
 refine W ?_
 refine cq (kD h1) ?_
 refine W ?_
 refine cm hm (fun hm => ?_) fun hm => ?_
 · exact E
 refine W ?_
 refine lp (fun m s => ∃ n_0 t13 t14 t15, s = ⟨27, (aF (aF (aF (aF fa 0 (vi n_0)) 13 (vl (ci .i64) t13)) 14 (vi t14)) 15 (vi t15)), ⟨aX, 64⟩⟩ ∧ vQ m n_0 t13 t14 t15 = some r) L ?_
 rintro n1 s ⟨n_0, t13, t14, t15, rfl, hm⟩
 refine W ?_
 refine cm hm (fun hm => ?_) fun hm => ?_
 ·
  obtain ⟨x4, h3, hm⟩ := bnd hm
  refine W ?_
  refine cm hm (fun hm => ?_) fun hm => ?_
  · exact E
  exact L
 exact E
def uL (rec1 : List Bool → List aC → List aC → Int → Int → Option ((List aC))) (jR : List Bool) (dA : List aC) (t8 : List aC) (t9 : Int) (t10 : Int) : Option ((List aC)) :=
 rec1 jR dA t8 t9 (IntKind.i64.wrap (t10 + 1))
def aAn (rec1 : List Bool → List aC → List aC → Int → Int → Option ((List aC))) (jR : List Bool) (dA : List aC) (t8 : List aC) (t9 : Int) (t10 : Int) : Option ((List aC)) :=
 (bif (decide (t10 < t9)) then
  ((idx t8 t10).bind fun x2 =>
  ((idx jR x2.U).bind fun x4 =>
  ((idx jR x2.V).bind fun x6 =>
  (bif (!(x4 == x6)) then
   ((app dA [x2]).bind fun l8 =>
   uL rec1 jR l8 t8 t9 t10)
  else
   uL rec1 jR dA t8 t9 t10))))
 else
  some dA)
def mS : Nat → List Bool → List aC → List aC → Int → Int → Option ((List aC))
 | 0 => fun _ _ _ _ _ => none
 | n + 1 => aAn (mS n)
def aC9 (l_0 : List aC) (jR : List Bool) : Option ((List aC)) :=
 mS bK jR [] l_0 (l_0.length : Int) 0
theorem aR6 {l_0 : List aC} {jR : List Bool} {r : (List aC)} (hm : aC9 l_0 jR = some r) : aZ Tryz.prog 206 [vl aT l_0, vl aI7 jR] (vl aT r) := by
 refine bd 31 Tryz.func206 ?_
 refine W ?_
 refine lp (fun m s => ∃ jR dA t8 t9 t10, s = ⟨31, (aF (aF (aF (aF (aF fa 1 (vl aI7 jR)) 5 (.own 1 0 dA.length)) 8 (vl aT t8)) 9 (vi t9)) 10 (vi t10)), ⟨(upd aX 1 (.cells 3 (dA.flatMap aT) 0)), 64⟩⟩ ∧ mS m jR dA t8 t9 t10 = some r) ?_ ?_
 ·
  refine ⟨_, ?_, jR, [], l_0, (l_0.length : Int), 0, rfl, hm⟩
  refine St.Le.trans (oD 5 900005 3 Z1 Z5) ?_
  exact cn (fun j => bif j == 1 then 900005 else 0)
 rintro n1 s ⟨jR, dA, t8, t9, t10, rfl, hm⟩
 refine W ?_
 refine cm hm (fun hm => ?_) fun hm => ?_
 ·
  refine V ?_
  refine AWp.seqJ (fun s => ∃ jR dA t8 t9 t10, s = ⟨31, (aF (aF (aF (aF (aF fa 1 (vl aI7 jR)) 5 (.own 1 0 dA.length)) 8 (vl aT t8)) 9 (vi t9)) 10 (vi t10)), ⟨(upd aX 1 (.cells 3 (dA.flatMap aT) 0)), 64⟩⟩ ∧ uL (mS n1) jR dA t8 t9 t10 = some r) ?_ ?_
  ·
   obtain ⟨x2, h1, hm⟩ := bnd hm
   obtain ⟨x4, h3, hm⟩ := bnd hm
   obtain ⟨x6, h5, hm⟩ := bnd hm
   refine W ?_
   refine cm hm (fun hm => ?_) fun hm => ?_
   ·
    refine W ?_
    refine aL bV [x2] ?_
    obtain ⟨l8, h7, hm⟩ := bnd hm
    refine W ?_
    exact Lr (fun j => bif j == 1 then 259 else 0)
   refine W ?_
   exact Lr (fun j => bif j == 1 then 1 else 0)
  rintro s ⟨jR, dA, t8, t9, t10, rfl, hm⟩
  refine W ?_
  exact Lr (fun j => bif j == 1 then 1 else 0)
 exact E
def aGr (rec1 : List aC → List Bool → List Int → Int → Int → Option ((List aC) × Int)) (l_1 : List aC) (aSj : List Bool) (t18 : List Int) (t19 : Int) (t20 : Int) : Option ((List aC) × Int) :=
 (bif (decide (t20 < t19)) then
  ((idx t18 t20).bind fun x6 =>
  ((idx aSj x6).bind fun x8 =>
  ((stt aSj x6 true).bind fun l10 =>
  rec1 l_1 l10 t18 t19 (IntKind.i64.wrap (t20 + 1)))))
 else
  ((aC9 l_1 aSj).bind fun r12 =>
  some (r12, 0)))
def yQ : Nat → List aC → List Bool → List Int → Int → Int → Option ((List aC) × Int)
 | 0 => fun _ _ _ _ _ => none
 | n + 1 => aGr (yQ n)
def aFt (n_0 : Int) (l_1 : List aC) (aAv : List Int) : Option ((List aC) × Int) :=
 ((aGl n_0 l_1 aAv).bind fun r2 =>
 (bif (!r2) then
  some ([], 1)
 else
  ((mkc n_0 n_0 false).bind fun l4 =>
  yQ bK l_1 l4 aAv (aAv.length : Int) 0)))
theorem bAi {n_0 : Int} {l_1 : List aC} {aAv : List Int} {r : (List aC) × Int} (hm : aFt n_0 l_1 aAv = some r) : aZ Tryz.prog 198 [vi n_0, vl aT l_1, vl (ci .i64) aAv] (.tup [vl aT r.1, vi r.2]) := by
 refine bd 31 Tryz.func198 ?_
 obtain ⟨r2, h1, hm⟩ := bnd hm
 refine W ?_
 refine cq (aZb h1) ?_
 refine W ?_
 refine cm hm (fun hm => ?_) fun hm => ?_
 · exact E
 obtain ⟨l4, h3, hm⟩ := bnd hm
 refine W ?_
 refine aK CFb h3 ?_
 refine W ?_
 refine lp (fun m s => ∃ l_1 aSj t18 t19 t20, s = ⟨31, (aF (aF (aF (aF (aF fa 1 (vl aT l_1)) 8 (.own 1 0 aSj.length)) 18 (vl (ci .i64) t18)) 19 (vi t19)) 20 (vi t20)), ⟨(upd aX 1 (.cells 1 (aSj.flatMap aI7) 0)), 64⟩⟩ ∧ yQ m l_1 aSj t18 t19 t20 = some r) (Lr (fun j => bif j == 1 then 129 else 0)) ?_
 rintro n1 s ⟨l_1, aSj, t18, t19, t20, rfl, hm⟩
 refine W ?_
 refine cm hm (fun hm => ?_) fun hm => ?_
 ·
  obtain ⟨x6, h5, hm⟩ := bnd hm
  obtain ⟨x8, h7, hm⟩ := bnd hm
  obtain ⟨l10, h9, hm⟩ := bnd hm
  refine W ?_
  have qh9 := jH h9
  refine aS h9 ?_
  refine W ?_
  exact Lr (fun j => bif j == 1 then 1 else 0)
 iterate 5 refine S1 ?_
 refine AWp.seq' ?_
 refine AWp.weaken (aJh CFb 8 1 Z1 Z3 Z6) ?_
 obtain ⟨r12, h11, hm⟩ := bnd hm
 refine W ?_
 refine cq (aR6 h11) ?_
 exact E
def rY (g_0 : aG) (cC : Int) (v_2 : Int) : Option ((List aC)) :=
 ((nA g_0 cC v_2).bind fun r2 =>
 ((aFt g_0.Config.N g_0.Edges r2).bind fun ⟨r4, r5⟩ =>
 some r4))
theorem aMu {g_0 : aG} {cC : Int} {v_2 : Int} {r : (List aC)} (hm : rY g_0 cC v_2 = some r) : aZ Tryz.prog 186 [.agg [vi g_0.Config.N, vi g_0.Config.L, vi g_0.Config.R, vl bH g_0.Hashes, vl aT g_0.Edges], vi cC, vi v_2] (vl aT r) := by
 refine bd 23 Tryz.func186 ?_
 obtain ⟨r2, h1, hm⟩ := bnd hm
 refine W ?_
 refine cq (aDp h1) ?_
 obtain ⟨⟨r4, r5⟩, h3, hm⟩ := bnd hm
 refine cq (bAi h3) ?_
 exact E
def yS (x_0 : Int) : Option (Int) :=
 ((aCf x_0).bind fun r2 =>
 some r2)
theorem aHb {x_0 : Int} {r : Int} (hm : yS x_0 = some r) : aZ Tryz.prog 134 [vu x_0] (vi r) := by
 refine bd 8 Tryz.func134 ?_
 refine W ?_
 refine AWp.condF Z1 ?_
 obtain ⟨r2, h1, hm⟩ := bnd hm
 refine W ?_
 refine cq (aIg h1) ?_
 exact E
def sE (n_0 : Int) : Option (Int) :=
 (bif (decide (n_0 < 1)) then
  some 0
 else
  ((yS (IntKind.u64.wrap (IntKind.i64.wrap (n_0 - 1)))).bind fun r2 =>
  some (IntKind.i64.wrap ((IntKind.i64.wrap (2 * r2)) + 2))))
theorem aM2 {n_0 : Int} {r : Int} (hm : sE n_0 = some r) : aZ Tryz.prog 201 [vi n_0] (vi r) := by
 refine bd 11 Tryz.func201 ?_
 refine W ?_
 refine cm hm (fun hm => ?_) fun hm => ?_
 · exact E
 obtain ⟨r2, h1, hm⟩ := bnd hm
 refine W ?_
 refine cq (aHb h1) ?_
 exact E
def kT (r_0 : Int) (v_1 : Int) : Option (Bool) :=
 some ((((decide (1 ≤ r_0)) && (decide (r_0 ≤ 8))) && (decide (1 ≤ v_1))) && (decide (v_1 ≤ 61)))
theorem aDq {r_0 : Int} {v_1 : Int} {r : Bool} (hm : kT r_0 v_1 = some r) : aZ Tryz.prog 207 [vi r_0, vi v_1] (vb r) := by
 refine bd 19 Tryz.func207 ?_
 exact E
def aBd (r_0 : Int) (v_1 : Int) : Option (aM × Int) :=
 ((kT r_0 v_1).bind fun r2 =>
 (bif (!r2) then
  some ((aM.mk 0 0 []), 1)
 else
  ((mkc (IntKind.i64.wrap (r_0 * v_1)) (IntKind.i64.wrap (r_0 * v_1)) 0).bind fun l4 =>
  some ((aM.mk r_0 v_1 l4), 0))))
theorem aR4 {r_0 : Int} {v_1 : Int} {r : aM × Int} (hm : aBd r_0 v_1 = some r) : aZ Tryz.prog 200 [vi r_0, vi v_1] (.tup [.agg [vi r.1.R, vi r.1.V, vl (ci .u64) r.1.Words], vi r.2]) := by
 refine bd 18 Tryz.func200 ?_
 obtain ⟨r2, h1, hm⟩ := bnd hm
 refine W ?_
 refine cq (aDq h1) ?_
 refine W ?_
 refine cm hm (fun hm => ?_) fun hm => ?_
 ·
  refine W ?_
  refine pu rfl (by simp only [go_sem, Nat.reduceBEq]; exact (by kernel_rfl : cL Tryz.prog 243 [] = some (.agg [.v (.int .i64 0), .v (.int .i64 0), .v (.slice none 0 0)]))) ?_
  exact E
 iterate 2 refine S1 ?_
 refine AWp.seq' ?_
 refine AWp.regC 64 6 (N' := 192) rfl ?_
 obtain ⟨l4, h3, hm⟩ := bnd hm
 refine W ?_
 refine aK (CFi .u64) h3 ?_
 refine aU.cut (aJh (CFi .u64) 16 133 Z1 Z3 Z6) ?_
 refine pu rfl (by simp only [go_sem, Nat.reduceBEq]; exact (by kernel_rfl : cL Tryz.prog 243 [(0, .v (.int .i64 r_0)), (1, .v (.int .i64 v_1)), (2, .sl (l4.flatMap (ci .u64)) l4.length false)] = some (.agg [.v (.int .i64 r_0), .v (.int .i64 v_1), .sl (l4.flatMap (ci .u64)) l4.length false]))) ?_
 exact E
def nZ (g_0 : aG) (cC : Int) : Option ((List bS)) :=
 ((slc g_0.Hashes (IntKind.i64.wrap (cC * g_0.Config.R)) (IntKind.i64.wrap ((IntKind.i64.wrap (cC * g_0.Config.R)) + g_0.Config.R))).bind fun l2 =>
 ((eK l2).bind fun r4 =>
 some r4))
theorem aIv {g_0 : aG} {cC : Int} {r : (List bS)} (hm : nZ g_0 cC = some r) : aZ Tryz.prog 202 [.agg [vi g_0.Config.N, vi g_0.Config.L, vi g_0.Config.R, vl bH g_0.Hashes, vl aT g_0.Edges], vi cC] (vl bH r) := by
 refine bd 21 Tryz.func202 ?_
 obtain ⟨l2, h1, hm⟩ := bnd hm
 obtain ⟨r4, h3, hm⟩ := bnd hm
 refine W ?_
 refine aU.callF (id := 139) Zd Z1 bPo (fun H => (.cons (tdf Z1 (mK.sl _ _ _)) .nil)) mK Z5 (wJ h3) ?_
 exact E
def uA (v_0 : Int) : Option (Bool) :=
 some ((decide (0 ≤ v_0)) && (decide (v_0 < 16777216)))
theorem aFe {v_0 : Int} {r : Bool} (hm : uA v_0 = some r) : aZ Tryz.prog 211 [vi v_0] (vb r) := by
 refine bd 9 Tryz.func211 ?_
 exact E
def aFh (u_0 : Int) (v_1 : Int) : Option (Int × Int) :=
 ((uA u_0).bind fun r2 =>
 ((fE ((!r2) == false) false (uA v_1)).bind fun r4 =>
 (bif ((!r2) || (!r4)) then
  some (0, 1)
 else
  (bif (u_0 == v_1) then
   some (0, 8)
  else
   some ((IntKind.u64.wrap ((IntKind.u64.wrap ((IntKind.u64.wrap (if v_1 < u_0 then v_1 else u_0)) * 16777216)) + (IntKind.u64.wrap (if u_0 < v_1 then v_1 else u_0)))), 0)))))
theorem bCl {u_0 : Int} {v_1 : Int} {r : Int × Int} (hm : aFh u_0 v_1 = some r) : aZ Tryz.prog 208 [vi u_0, vi v_1] (.tup [vu r.1, vi r.2]) := by
 refine bd 27 Tryz.func208 ?_
 obtain ⟨r2, h1, hm⟩ := bnd hm
 refine W ?_
 refine cq (aFe h1) ?_
 obtain ⟨r4, h3, hm⟩ := bnd hm
 refine W ?_
 refine cg (fun hb => aFe (cM h3 hb)) ?_
 refine W ?_
 refine cm hm (fun hm => ?_) fun hm => ?_
 · exact E
 refine W ?_
 refine cm hm (fun hm => ?_) fun hm => ?_
 · exact E
 exact E
def aBt (rec1 : List Int → List aC → Int → Int → Option ((List Int))) (cU : List Int) (t8 : List aC) (t9 : Int) (t10 : Int) : Option ((List Int)) :=
 rec1 cU t8 t9 (IntKind.i64.wrap (t10 + 1))
def xH (rec1 : List Int → List aC → Int → Int → Option ((List Int))) (cU : List Int) (aZv : Int) (t8 : List aC) (t9 : Int) (t10 : Int) : Option ((List Int)) :=
 ((app cU [aZv]).bind fun l7 =>
 aBt rec1 l7 t8 t9 t10)
def aBc (rec1 : List Int → List aC → Int → Int → Option ((List Int))) (cU : List Int) (t8 : List aC) (t9 : Int) (t10 : Int) : Option ((List Int)) :=
 (bif (decide (t10 < t9)) then
  ((idx t8 t10).bind fun x2 =>
  ((aFh x2.U x2.V).bind fun ⟨r4, r5⟩ =>
  (bif (r5 != 0) then
   xH rec1 cU 0 t8 t9 t10
  else
   xH rec1 cU r4 t8 t9 t10)))
 else
  some cU)
def lP : Nat → List Int → List aC → Int → Int → Option ((List Int))
 | 0 => fun _ _ _ _ => none
 | n + 1 => aBc (lP n)
def aAs (l_0 : List aC) : Option ((List Int)) :=
 lP bK [] l_0 (l_0.length : Int) 0
theorem aVh {l_0 : List aC} {r : (List Int)} (hm : aAs l_0 = some r) : aZ Tryz.prog 203 [vl aT l_0] (vl (ci .u64) r) := by
 refine bd 30 Tryz.func203 ?_
 refine W ?_
 refine lp (fun m s => ∃ cU t8 t9 t10, s = ⟨30, (aF (aF (aF (aF fa 3 (.own 1 0 cU.length)) 8 (vl aT t8)) 9 (vi t9)) 10 (vi t10)), ⟨(upd aX 1 (.cells 1 (cU.flatMap (ci .u64)) 0)), 64⟩⟩ ∧ lP m cU t8 t9 t10 = some r) ?_ ?_
 ·
  refine ⟨_, ?_, [], l_0, (l_0.length : Int), 0, rfl, hm⟩
  refine St.Le.trans (oD 3 900003 1 Z1 Z5) ?_
  exact cn (fun j => bif j == 1 then 900003 else 0)
 rintro n1 s ⟨cU, t8, t9, t10, rfl, hm⟩
 refine W ?_
 refine cm hm (fun hm => ?_) fun hm => ?_
 ·
  refine V ?_
  refine AWp.seqJ (fun s => ∃ cU t8 t9 t10, s = ⟨30, (aF (aF (aF (aF fa 3 (.own 1 0 cU.length)) 8 (vl aT t8)) 9 (vi t9)) 10 (vi t10)), ⟨(upd aX 1 (.cells 1 (cU.flatMap (ci .u64)) 0)), 64⟩⟩ ∧ aBt (lP n1) cU t8 t9 t10 = some r) ?_ ?_
  ·
   obtain ⟨x2, h1, hm⟩ := bnd hm
   refine W ?_
   obtain ⟨⟨r4, r5⟩, h3, hm⟩ := bnd hm
   refine cq (bCl h3) ?_
   refine V ?_
   refine AWp.seqJ (fun s => ∃ cU aZv t8 t9 t10, s = ⟨30, (aF (aF (aF (aF (aF fa 3 (.own 1 0 cU.length)) 6 (vu aZv)) 8 (vl aT t8)) 9 (vi t9)) 10 (vi t10)), ⟨(upd aX 1 (.cells 1 (cU.flatMap (ci .u64)) 0)), 64⟩⟩ ∧ xH (lP n1) cU aZv t8 t9 t10 = some r) ?_ ?_
   ·
    refine W ?_
    refine cm hm (fun hm => ?_) fun hm => ?_
    ·
     refine W ?_
     exact Lr (fun j => bif j == 1 then 1 else 0)
    refine W ?_
    exact Lr (fun j => bif j == 1 then 1 else 0)
   rintro s ⟨cU, aZv, t8, t9, t10, rfl, hm⟩
   refine W ?_
   refine aL (CFi .u64) [aZv] ?_
   obtain ⟨l7, h6, hm⟩ := bnd hm
   refine W ?_
   exact Lr (fun j => bif j == 1 then 67 else 0)
  rintro s ⟨cU, t8, t9, t10, rfl, hm⟩
  refine W ?_
  exact Lr (fun j => bif j == 1 then 1 else 0)
 exact E
def nO (s_0 : aM) : Option (Bool) :=
 ((kT s_0.R s_0.V).bind fun r2 =>
 some (r2 && ((s_0.Words.length : Int) == (IntKind.i64.wrap (s_0.R * s_0.V)))))
theorem aDs {s_0 : aM} {r : Bool} (hm : nO s_0 = some r) : aZ Tryz.prog 199 [.agg [vi s_0.R, vi s_0.V, vl (ci .u64) s_0.Words]] (vb r) := by
 refine bd 19 Tryz.func199 ?_
 obtain ⟨r2, h1, hm⟩ := bnd hm
 refine W ?_
 refine cq (aDq h1) ?_
 exact E
def gS (l : List Int) : Option (List Int) := app [] l
theorem aB6 {r : List Int} (hm : some [] = some r) : dB Tryz.prog 209 [.v (.slice none 0 0)] 1 (r.flatMap (ci .u64)) r.length := by
 refine dB.of_body Tryz.func209 rfl ((CFi .u64).fmdat r) ?_
 simp only [Tryz.ntmps209, List.length_cons, List.length_nil, Nat.reduceAdd, Nat.reduceSub, eR]
 refine sN 64 (pA ?_)
 refine fs (AWp.seq' (sN 128 (pA ?_)))
 refine pu rfl (tM Z1 Z1 (aFd Tryz.underlying24)) ?_
 refine fs (AWp.condT Z1 ?_)
 refine sN 192 (pA ?_)
 refine fs (AWp.weaken (oD 2 900002 1 Z1 Z5) ?_)
 refine AWp.ret (jD ?_)
 cases hm
 exact aFn (.inr rfl) Tryz.results209 Z1 Z3 Z6
theorem aBo {a : Addr} {c : Nat} {r : List Int} (hm : ((app [] []).bind fun l2 =>
some l2) = some r) : dB Tryz.prog 209 [.v (.slice (some a) 0 c)] 1 (r.flatMap (ci .u64)) r.length := by
 refine dB.of_body Tryz.func209 rfl ((CFi .u64).fmdat r) ?_
 simp only [Tryz.ntmps209, List.length_cons, List.length_nil, Nat.reduceAdd, Nat.reduceSub, eR]
 refine sN 64 (pA ?_)
 refine fs (AWp.seq' (sN 128 (pA ?_)))
 refine pu rfl (tM Z1 Z1 (aCv Tryz.underlying24)) ?_
 refine fs (AWp.condF Z1 ?_)
 refine AWp.skip (bU (sN 192 (hp (id := 128) rfl rfl (lE (CFi .u64) (l := []) Tryz.underlying24 aF9 bC7 Z5 Zd Zd Zd (by simp only [go_sem, Nat.reduceBEq]; try rfl) (by kernel_rfl)) ?_)))
 refine pA ?_
 obtain ⟨l2, h1, hm⟩ := bnd hm
 refine hp (id := 130) rfl rfl (aE5 (CFi .u64) Tryz.underlying24 Tryz.underlying24 rfl bIm bHu (by rw [aZf]; decide) (by rw [aZf]; decide) bJ6 Zd Zd Z1 Z3 Z6 (aJq Z1) rfl Z5 h1) ?_
 refine pA ?_
 refine fs (AWp.ret ?_)
 cases hm
 exact aFn (.inr rfl) Tryz.results209 Z1 Z3 Z6
theorem aBq {x0 : Int} {l0 : List Int} {r : List Int} (hm : ((app [] (x0 :: l0)).bind fun l2 =>
some l2) = some r) : dB Tryz.prog 209 [.sl ((x0 :: l0).flatMap (ci .u64)) (x0 :: l0).length false] 1 (r.flatMap (ci .u64)) r.length := by
 refine dB.of_body Tryz.func209 rfl ((CFi .u64).fmdat r) ?_
 simp only [Tryz.ntmps209, List.length_cons, List.length_nil, Nat.reduceAdd, Nat.reduceSub, eR]
 refine sN 64 (pA ?_)
 refine fs (AWp.seq' (sN 128 (pA ?_)))
 refine pu rfl (tM Z1 Z1 (aCs Tryz.underlying24 (by simp))) ?_
 refine fs (AWp.condF Z1 ?_)
 refine AWp.skip (bU (sN 192 (hp (id := 128) rfl rfl (lE (CFi .u64) (l := []) Tryz.underlying24 aF9 bC7 Z5 Zd Zd Zd (by simp only [go_sem, Nat.reduceBEq]; try rfl) (by kernel_rfl)) ?_)))
 refine pA ?_
 obtain ⟨l2, h1, hm⟩ := bnd hm
 refine hp (id := 130) rfl rfl (aE5 (CFi .u64) Tryz.underlying24 Tryz.underlying24 rfl bIm bHu (by rw [aZf]; decide) (by rw [aZf]; decide) bJ6 Zd Zd Z1 Z3 Z6 (aN3 (CFi .u64) Z1 rfl) rfl Z5 h1) ?_
 refine pA ?_
 refine fs (AWp.ret ?_)
 cases hm
 exact aFn (.inr rfl) Tryz.results209 Z1 Z3 Z6
theorem aD9 {l r : List Int} (hm : gS l = some r) : dB Tryz.prog 209 [.sl (l.flatMap (ci .u64)) l.length false] 1 (r.flatMap (ci .u64)) r.length := by
 cases l with
 | nil =>
  have hr : r = [] := by unfold gS app at hm; simpa using hm.symm
  subst hr
  exact dB.nil_arg (aB6 (r := []) rfl) (fun a c => aBo (r := []) rfl)
 | cons x0 l0 =>
  refine aBq ?_
  show (app [] (x0 :: l0)).bind _ = _
  unfold gS at hm
  rw [hm]; rfl
def uO (h_0 : bS) (aA8 : Int) : Option (Int) :=
 ((aG5 h_0.A aA8).bind fun r2 =>
 ((aL1 r2 h_0.B).bind fun r4 =>
 some r4))
theorem aP3 {h_0 : bS} {aA8 : Int} {r : Int} (hm : uO h_0 aA8 = some r) : aZ Tryz.prog 212 [.agg [vu h_0.A, vu h_0.B], vu aA8] (vu r) := by
 refine bd 12 Tryz.func212 ?_
 obtain ⟨r2, h1, hm⟩ := bnd hm
 refine W ?_
 refine cq (bBg h1) ?_
 obtain ⟨r4, h3, hm⟩ := bnd hm
 refine W ?_
 refine cq (bB9 h3) ?_
 exact E
def uG (yZ : Int) : Option (Int) :=
 (bif ((decide (yZ < 0)) || (decide (61 ≤ yZ))) then
  some 0
 else
  ((chk (decide (0 ≤ yZ))).bind fun _ =>
  some (shr .u64 2305843009213693951 yZ)))
theorem aPe {yZ : Int} {r : Int} (hm : uG yZ = some r) : aZ Tryz.prog 213 [vi yZ] (vu r) := by
 refine bd 11 Tryz.func213 ?_
 refine W ?_
 refine cm hm (fun hm => ?_) fun hm => ?_
 · exact E
 obtain ⟨_, h1, hm⟩ := bnd hm
 exact E
def zQ (rec1 : Int → Int → Int → Option (Int)) (iS : Int) (aCy : Int) (aA3 : Int) : Option (Int) :=
 ((fE ((decide (aA3 < (if 61 < iS then 61 else iS))) == true) 0 (uG aA3)).bind fun r4 =>
 (bif ((decide (aA3 < (if 61 < iS then 61 else iS))) && (decide (aCy < r4))) then
  rec1 iS aCy (IntKind.i64.wrap (aA3 + 1))
 else
  some aA3))
def kJ : Nat → Int → Int → Int → Option (Int)
 | 0 => fun _ _ _ => none
 | n + 1 => zQ (kJ n)
def xP (h_0 : bS) (aA8 : Int) (iS : Int) : Option (Int) :=
 ((uO h_0 aA8).bind fun r2 =>
 kJ bK iS r2 0)
theorem aRr {h_0 : bS} {aA8 : Int} {iS : Int} {r : Int} (hm : xP h_0 aA8 iS = some r) : aZ Tryz.prog 210 [.agg [vu h_0.A, vu h_0.B], vu aA8, vi iS] (vi r) := by
 refine bd 25 Tryz.func210 ?_
 obtain ⟨r2, h1, hm⟩ := bnd hm
 refine W ?_
 refine cq (aP3 h1) ?_
 refine W ?_
 refine lp (fun m s => ∃ iS aCy aA3, s = ⟨25, (aF (aF (aF fa 2 (vi iS)) 7 (vu aCy)) 8 (vi aA3)), ⟨aX, 64⟩⟩ ∧ kJ m iS aCy aA3 = some r) L ?_
 rintro n1 s ⟨iS, aCy, aA3, rfl, hm⟩
 obtain ⟨r4, h3, hm⟩ := bnd hm
 refine W ?_
 refine cg (fun hb => aPe (cM h3 hb)) ?_
 refine W ?_
 refine cm hm (fun hm => ?_) fun hm => ?_
 · exact L
 exact E
def tO (rec1 : Int → aM → aM → List Int → List bS → Int → Int → Option (aM × Int)) (rec2 : Int → aM → aM → List Int → Int → List bS → Int → Int → Int → Int → Option (aM × Int)) (jO : Int) (s_3 : aM) (t6 : aM) (fZ : List Int) (aI8 : Int) (t26 : List bS) (t27 : Int) (t28 : Int) (t37 : Int) (t38 : Int) : Option (aM × Int) :=
 (bif (decide (t38 < t37)) then
  ((idx fZ (IntKind.i64.wrap ((IntKind.i64.wrap (aI8 * s_3.V)) + t38))).bind fun x10 =>
  ((idx fZ (IntKind.i64.wrap ((IntKind.i64.wrap (aI8 * s_3.V)) + t38))).bind fun x12 =>
  ((stt fZ (IntKind.i64.wrap ((IntKind.i64.wrap (aI8 * s_3.V)) + t38)) (bK8 .u64 x10 jO)).bind fun l14 =>
  rec2 jO s_3 t6 l14 aI8 t26 t27 t28 t37 (IntKind.i64.wrap (t38 + 1)))))
 else
  rec1 jO s_3 t6 fZ t26 t27 (IntKind.i64.wrap (t28 + 1)))
def kK (rec1 : Int → aM → aM → List Int → List bS → Int → Int → Option (aM × Int)) : Nat → Int → aM → aM → List Int → Int → List bS → Int → Int → Int → Int → Option (aM × Int)
 | 0 => fun _ _ _ _ _ _ _ _ _ _ => none
 | n + 1 => tO rec1 (kK rec1 n)
def tD (rec1 : Int → aM → aM → List Int → List bS → Int → Int → Option (aM × Int)) (jO : Int) (s_3 : aM) (t6 : aM) (fZ : List Int) (t26 : List bS) (t27 : Int) (t28 : Int) : Option (aM × Int) :=
 (bif (decide (t28 < t27)) then
  ((idx t26 t28).bind fun x6 =>
  ((xP x6 jO s_3.V).bind fun r8 =>
  kK rec1 bK jO s_3 t6 fZ t28 t26 t27 t28 r8 0))
 else
  some ((aM.mk s_3.R s_3.V fZ), 0))
def gP : Nat → Int → aM → aM → List Int → List bS → Int → Int → Option (aM × Int)
 | 0 => fun _ _ _ _ _ _ _ => none
 | n + 1 => tD (gP n)
def pU (s_0 : aM) (l_1 : List bS) (jO : Int) : Option (aM × Int) :=
 ((nO s_0).bind fun r2 =>
 (bif ((!r2) || ((l_1.length : Int) != s_0.R)) then
  some (s_0, 1)
 else
  ((gS s_0.Words).bind fun r4 =>
  gP bK jO s_0 (aM.mk 0 0 []) r4 l_1 (l_1.length : Int) 0)))
theorem aK3 {s_0 : aM} {l_1 : List bS} {jO : Int} {r : aM × Int} (hm : pU s_0 l_1 jO = some r) : aZ Tryz.prog 204 [.agg [vi s_0.R, vi s_0.V, vl (ci .u64) s_0.Words], vl bH l_1, vu jO] (.tup [.agg [vi r.1.R, vi r.1.V, vl (ci .u64) r.1.Words], vi r.2]) := by
 refine bd 61 Tryz.func204 ?_
 obtain ⟨r2, h1, hm⟩ := bnd hm
 refine W ?_
 refine cq (aDs h1) ?_
 refine W ?_
 refine cm hm (fun hm => ?_) fun hm => ?_
 · exact E
 obtain ⟨r4, h3, hm⟩ := bnd hm
 refine W ?_
 refine aU.callF (id := 130) Zd Z1 bNa (fun H => (cD ((CFi .u64).sl _ _ _) .nil)) (CFi .u64) Z5 (aD9 h3) ?_
 refine W ?_
 refine lp (fun m s => ∃ jO s_3 t6 fZ t26 t27 t28, s = ⟨61, (aF (aF (aF (aF (aF (aF (aF fa 2 (vu jO)) 3 (.adr 1 0)) 6 (.adr 2 0)) 8 (.own 3 0 fZ.length)) 26 (vl bH t26)) 27 (vi t27)) 28 (vi t28)), ⟨(upd (upd (upd aX 1 (.cells 1 [vi s_3.R, vi s_3.V, vl (ci .u64) s_3.Words] 0)) 2 (.cells 1 [vi t6.R, vi t6.V, vl (ci .u64) t6.Words] 0)) 3 (.cells 1 (fZ.flatMap (ci .u64)) 0)), 64⟩⟩ ∧ gP m jO s_3 t6 fZ t26 t27 t28 = some r) ?_ ?_
 ·
  refine ⟨_, ?_, jO, s_0, (aM.mk 0 0 []), r4, l_1, (l_1.length : Int), 0, rfl, hm⟩
  refine St.Le.trans (iT 1 (ys := [.v (.int .i64 ((aM.mk 0 0 []).R)), .v (.int .i64 ((aM.mk 0 0 []).V)), .sl (((aM.mk 0 0 []).Words).flatMap (ci .u64)) ((aM.mk 0 0 []).Words).length false]) Z3 (.cons (.data _ (.v _)) (.cons (.data _ (.v _)) (.cons (.nil false) .nil)))) ?_
  exact cn (fun j => bif j == 1 then 0 else bif j == 2 then 1 else bif j == 3 then 130 else 0)
 rintro n1 s ⟨jO, s_3, t6, fZ, t26, t27, t28, rfl, hm⟩
 refine W ?_
 refine cm hm (fun hm => ?_) fun hm => ?_
 ·
  obtain ⟨x6, h5, hm⟩ := bnd hm
  obtain ⟨r8, h7, hm⟩ := bnd hm
  refine W ?_
  refine cq (aRr h7) ?_
  refine W ?_
  refine lp (fun m s => ∃ jO s_3 t6 fZ aI8 t26 t27 t28 t37 t38, s = ⟨61, (aF (aF (aF (aF (aF (aF (aF (aF (aF (aF fa 2 (vu jO)) 3 (.adr 1 0)) 6 (.adr 2 0)) 8 (.own 3 0 fZ.length)) 9 (vi aI8)) 26 (vl bH t26)) 27 (vi t27)) 28 (vi t28)) 37 (vi t37)) 38 (vi t38)), ⟨(upd (upd (upd aX 1 (.cells 1 [vi s_3.R, vi s_3.V, vl (ci .u64) s_3.Words] 0)) 2 (.cells 1 [vi t6.R, vi t6.V, vl (ci .u64) t6.Words] 0)) 3 (.cells 1 (fZ.flatMap (ci .u64)) 0)), 64⟩⟩ ∧ kK (gP n1) m jO s_3 t6 fZ aI8 t26 t27 t28 t37 t38 = some r) (Lr (fun j => bif j == 1 then 1 else bif j == 2 then 2 else bif j == 3 then 3 else 0)) ?_
  rintro n2 s ⟨jO, s_3, t6, fZ, aI8, t26, t27, t28, t37, t38, rfl, hm⟩
  refine W ?_
  refine cm hm (fun hm => ?_) fun hm => ?_
  ·
   obtain ⟨x10, h9, hm⟩ := bnd hm
   have hm := sb hm h9
   obtain ⟨l14, h13, hm⟩ := bnd hm
   refine W ?_
   have qh13 := jH h13
   refine aS h13 ?_
   refine W ?_
   exact Lr (fun j => bif j == 1 then 1 else bif j == 2 then 2 else bif j == 3 then 3 else 0)
  refine W ?_
  exact Lr (fun j => bif j == 1 then 1 else bif j == 2 then 2 else bif j == 3 then 3 else 0)
 iterate 5 refine S1 ?_
 refine AWp.seq' ?_
 refine AWp.weaken (aJh (CFi .u64) 8 3 Z1 Z3 Z6) ?_
 refine W ?_
 refine pu rfl (by simp only [go_sem, Nat.reduceBEq]; exact (by kernel_rfl : cL Tryz.prog 243 [(0, .v (.int .i64 s_3.R)), (1, .v (.int .i64 s_3.V)), (2, .sl (fZ.flatMap (ci .u64)) fZ.length false)] = some (.agg [.v (.int .i64 s_3.R), .v (.int .i64 s_3.V), .sl (fZ.flatMap (ci .u64)) fZ.length false]))) ?_
 exact E
def vI (rec1 : aM → aM → List bS → List Int → Int → Int → Option (aM)) (t6 : aM) (s_7 : aM) (aZ0 : List bS) (t27 : List Int) (t28 : Int) (t29 : Int) : Option (aM) :=
 (bif (decide (t29 < t28)) then
  ((idx t27 t29).bind fun x11 =>
  ((pU s_7 aZ0 x11).bind fun ⟨r13, r14⟩ =>
  rec1 t6 r13 aZ0 t27 t28 (IntKind.i64.wrap (t29 + 1))))
 else
  some s_7)
def lS : Nat → aM → aM → List bS → List Int → Int → Int → Option (aM)
 | 0 => fun _ _ _ _ _ _ => none
 | n + 1 => vI (lS n)
def sC (g_0 : aG) (cC : Int) (aX4 : List aC) : Option (aM) :=
 ((sE g_0.Config.N).bind fun r2 =>
 ((aBd g_0.Config.R r2).bind fun ⟨r4, r5⟩ =>
 ((nZ g_0 cC).bind fun r7 =>
 ((aAs aX4).bind fun r9 =>
 lS bK (aM.mk 0 0 []) r4 r7 r9 (r9.length : Int) 0))))
theorem aMd {g_0 : aG} {cC : Int} {aX4 : List aC} {r : aM} (hm : sC g_0 cC aX4 = some r) : aZ Tryz.prog 188 [.agg [vi g_0.Config.N, vi g_0.Config.L, vi g_0.Config.R, vl bH g_0.Hashes, vl aT g_0.Edges], vi cC, vl aT aX4] (.agg [vi r.R, vi r.V, vl (ci .u64) r.Words]) := by
 refine bd 42 Tryz.func188 ?_
 obtain ⟨r2, h1, hm⟩ := bnd hm
 refine W ?_
 refine cq (aM2 h1) ?_
 obtain ⟨⟨r4, r5⟩, h3, hm⟩ := bnd hm
 refine cq (aR4 h3) ?_
 obtain ⟨r7, h6, hm⟩ := bnd hm
 refine W ?_
 refine cq (aIv h6) ?_
 obtain ⟨r9, h8, hm⟩ := bnd hm
 refine W ?_
 refine cq (aVh h8) ?_
 refine W ?_
 refine lp (fun m s => ∃ t6 s_7 aZ0 t27 t28 t29, s = ⟨42, (aF (aF (aF (aF (aF (aF fa 6 (.adr 1 0)) 7 (.adr 2 0)) 9 (vl bH aZ0)) 27 (vl (ci .u64) t27)) 28 (vi t28)) 29 (vi t29)), ⟨(upd (upd aX 1 (.cells 1 [vi t6.R, vi t6.V, vl (ci .u64) t6.Words] 0)) 2 (.cells 1 [vi s_7.R, vi s_7.V, vl (ci .u64) s_7.Words] 0)), 64⟩⟩ ∧ lS m t6 s_7 aZ0 t27 t28 t29 = some r) ?_ ?_
 ·
  refine ⟨_, ?_, (aM.mk 0 0 []), r4, r7, r9, (r9.length : Int), 0, rfl, hm⟩
  refine St.Le.trans (iT 1 (ys := [.v (.int .i64 ((aM.mk 0 0 []).R)), .v (.int .i64 ((aM.mk 0 0 []).V)), .sl (((aM.mk 0 0 []).Words).flatMap (ci .u64)) ((aM.mk 0 0 []).Words).length false]) Z3 (.cons (.data _ (.v _)) (.cons (.data _ (.v _)) (.cons (.nil false) .nil)))) ?_
  exact cn (fun j => bif j == 1 then 1 else bif j == 2 then 75 else 0)
 rintro n1 s ⟨t6, s_7, aZ0, t27, t28, t29, rfl, hm⟩
 refine W ?_
 refine cm hm (fun hm => ?_) fun hm => ?_
 ·
  obtain ⟨x11, h10, hm⟩ := bnd hm
  refine W ?_
  obtain ⟨⟨r13, r14⟩, h12, hm⟩ := bnd hm
  refine cq (aK3 h12) ?_
  refine W ?_
  exact Lr (fun j => bif j == 1 then 1 else bif j == 2 then 2 else 0)
 exact E
def vJ (aE4 : Int) : Option (Int × Int × Bool) :=
 (bif (decide ((Int.tmod aE4 16777216) ≤ (IntKind.u64.wrap (Int.tdiv aE4 16777216)))) then
  some (0, 0, false)
 else
  some ((IntKind.i64.wrap (IntKind.u64.wrap (Int.tdiv aE4 16777216))), (IntKind.i64.wrap (Int.tmod aE4 16777216)), true))
theorem aKi {aE4 : Int} {r : Int × Int × Bool} (hm : vJ aE4 = some r) : aZ Tryz.prog 189 [vu aE4] (.tup [vi r.1, vi r.2.1, vb r.2.2]) := by
 refine bd 18 Tryz.func189 ?_
 refine W ?_
 refine cm hm (fun hm => ?_) fun hm => ?_
 · exact E
 exact E
def oV (rec1 : List Int → List Int → Int → Int → Option ((List Int))) (cU : List Int) (t13 : List Int) (t14 : Int) (t15 : Int) : Option ((List Int)) :=
 rec1 cU t13 t14 (IntKind.i64.wrap (t15 + 1))
def vY (rec1 : List Int → List Int → Int → Int → Option ((List Int))) (cU : List Int) (t13 : List Int) (t14 : Int) (t15 : Int) : Option ((List Int)) :=
 (bif (decide (t15 < t14)) then
  ((idx t13 t15).bind fun x4 =>
  ((vJ x4).bind fun ⟨r6, r7, r8⟩ =>
  (bif r8 then
   ((app cU [x4]).bind fun l10 =>
   oV rec1 l10 t13 t14 t15)
  else
   oV rec1 cU t13 t14 t15)))
 else
  some cU)
def jT : Nat → List Int → List Int → Int → Int → Option ((List Int))
 | 0 => fun _ _ _ _ => none
 | n + 1 => vY (jT n)
def rU (s_0 : aM) : Option ((List Int)) :=
 ((nO s_0).bind fun r2 =>
 (bif (!r2) then
  some []
 else
  jT bK [] s_0.Words (s_0.Words.length : Int) 0))
theorem aMq {s_0 : aM} {r : (List Int)} (hm : rU s_0 = some r) : aZ Tryz.prog 187 [.agg [vi s_0.R, vi s_0.V, vl (ci .u64) s_0.Words]] (vl (ci .u64) r) := by
 refine bd 32 Tryz.func187 ?_
 obtain ⟨r2, h1, hm⟩ := bnd hm
 refine W ?_
 refine cq (aDs h1) ?_
 refine W ?_
 refine cm hm (fun hm => ?_) fun hm => ?_
 · exact E
 refine W ?_
 refine lp (fun m s => ∃ cU t13 t14 t15, s = ⟨32, (aF (aF (aF (aF fa 3 (.own 1 0 cU.length)) 13 (vl (ci .u64) t13)) 14 (vi t14)) 15 (vi t15)), ⟨(upd aX 1 (.cells 1 (cU.flatMap (ci .u64)) 0)), 64⟩⟩ ∧ jT m cU t13 t14 t15 = some r) ?_ ?_
 ·
  refine ⟨_, ?_, [], s_0.Words, (s_0.Words.length : Int), 0, rfl, hm⟩
  refine St.Le.trans (oD 3 900003 1 Z1 Z5) ?_
  exact cn (fun j => bif j == 1 then 900003 else 0)
 rintro n1 s ⟨cU, t13, t14, t15, rfl, hm⟩
 refine W ?_
 refine cm hm (fun hm => ?_) fun hm => ?_
 ·
  refine V ?_
  refine AWp.seqJ (fun s => ∃ cU t13 t14 t15, s = ⟨32, (aF (aF (aF (aF fa 3 (.own 1 0 cU.length)) 13 (vl (ci .u64) t13)) 14 (vi t14)) 15 (vi t15)), ⟨(upd aX 1 (.cells 1 (cU.flatMap (ci .u64)) 0)), 64⟩⟩ ∧ oV (jT n1) cU t13 t14 t15 = some r) ?_ ?_
  ·
   obtain ⟨x4, h3, hm⟩ := bnd hm
   refine W ?_
   obtain ⟨⟨r6, r7, r8⟩, h5, hm⟩ := bnd hm
   refine cq (aKi h5) ?_
   refine W ?_
   refine cm hm (fun hm => ?_) fun hm => ?_
   ·
    refine W ?_
    refine aL (CFi .u64) [x4] ?_
    obtain ⟨l10, h9, hm⟩ := bnd hm
    refine W ?_
    exact Lr (fun j => bif j == 1 then 323 else 0)
   refine W ?_
   exact Lr (fun j => bif j == 1 then 1 else 0)
  rintro s ⟨cU, t13, t14, t15, rfl, hm⟩
  refine W ?_
  exact Lr (fun j => bif j == 1 then 1 else 0)
 exact E
def nV (rec1 : aC → List aC → List Int → Int → Int → Option (aC × Bool)) (t6 : aC) (wT : List aC) (t30 : List Int) (t31 : Int) (t32 : Int) : Option (aC × Bool) :=
 rec1 t6 wT t30 t31 (IntKind.i64.wrap (t32 + 1))
def tQ (rec1 : aC → List aC → List Int → Int → Int → Option (aC × Bool)) (t6 : aC) (wT : List aC) (t30 : List Int) (t31 : Int) (t32 : Int) : Option (aC × Bool) :=
 (bif (decide (t32 < t31)) then
  ((idx t30 t32).bind fun x10 =>
  ((vJ x10).bind fun ⟨r12, r13, r14⟩ =>
  (bif (!r14) then
   nV rec1 t6 wT t30 t31 t32
  else
   ((lJ wT r12 r13).bind fun ⟨r16, r17⟩ =>
   (bif r17 then
    ((idx wT r16).bind fun x19 =>
    some (x19, true))
   else
    nV rec1 t6 wT t30 t31 t32)))))
 else
  some ((aC.mk 0 0 0), false))
def iI : Nat → aC → List aC → List Int → Int → Int → Option (aC × Bool)
 | 0 => fun _ _ _ _ _ => none
 | n + 1 => tQ (iI n)
def qS (g_0 : aG) (cC : Int) (v_2 : Int) : Option (aC × Bool) :=
 ((lD g_0 cC v_2).bind fun r2 =>
 (bif (!r2) then
  some ((aC.mk 0 0 0), false)
 else
  ((rY g_0 cC v_2).bind fun r4 =>
  ((sC g_0 cC r4).bind fun r6 =>
  ((rU r6).bind fun r8 =>
  iI bK (aC.mk 0 0 0) r4 r8 (r8.length : Int) 0)))))
theorem aKp {g_0 : aG} {cC : Int} {v_2 : Int} {r : aC × Bool} (hm : qS g_0 cC v_2 = some r) : aZ Tryz.prog 169 [.agg [vi g_0.Config.N, vi g_0.Config.L, vi g_0.Config.R, vl bH g_0.Hashes, vl aT g_0.Edges], vi cC, vi v_2] (.tup [.agg [vi r.1.U, vi r.1.V, vi r.1.Tier], vb r.2]) := by
 refine bd 58 Tryz.func169 ?_
 obtain ⟨r2, h1, hm⟩ := bnd hm
 refine W ?_
 refine cq (aFg h1) ?_
 refine W ?_
 refine cm hm (fun hm => ?_) fun hm => ?_
 ·
  refine W ?_
  refine pu rfl (by simp only [go_sem, Nat.reduceBEq]; exact (by kernel_rfl : cL Tryz.prog 102 [] = some (.agg [.v (.int .i64 0), .v (.int .i64 0), .v (.int .i64 0)]))) ?_
  exact E
 obtain ⟨r4, h3, hm⟩ := bnd hm
 refine W ?_
 refine cq (aMu h3) ?_
 obtain ⟨r6, h5, hm⟩ := bnd hm
 refine W ?_
 refine cq (aMd h5) ?_
 obtain ⟨r8, h7, hm⟩ := bnd hm
 refine cq (aMq h7) ?_
 refine W ?_
 refine lp (fun m s => ∃ t6 wT t30 t31 t32, s = ⟨58, (aF (aF (aF (aF (aF fa 6 (.adr 1 0)) 8 (vl aT wT)) 30 (vl (ci .u64) t30)) 31 (vi t31)) 32 (vi t32)), ⟨(upd aX 1 (.cells 1 [vi t6.U, vi t6.V, vi t6.Tier] 0)), 64⟩⟩ ∧ iI m t6 wT t30 t31 t32 = some r) (Lr (fun j => bif j == 1 then 1 else 0)) ?_
 rintro n1 s ⟨t6, wT, t30, t31, t32, rfl, hm⟩
 refine W ?_
 refine cm hm (fun hm => ?_) fun hm => ?_
 ·
  refine V ?_
  refine AWp.seqJ (fun s => ∃ t6 wT t30 t31 t32, s = ⟨58, (aF (aF (aF (aF (aF fa 6 (.adr 1 0)) 8 (vl aT wT)) 30 (vl (ci .u64) t30)) 31 (vi t31)) 32 (vi t32)), ⟨(upd aX 1 (.cells 1 [vi t6.U, vi t6.V, vi t6.Tier] 0)), 64⟩⟩ ∧ nV (iI n1) t6 wT t30 t31 t32 = some r) ?_ ?_
  ·
   obtain ⟨x10, h9, hm⟩ := bnd hm
   refine W ?_
   obtain ⟨⟨r12, r13, r14⟩, h11, hm⟩ := bnd hm
   refine cq (aKi h11) ?_
   refine W ?_
   refine cm hm (fun hm => ?_) fun hm => ?_
   ·
    refine W ?_
    exact Lr (fun j => bif j == 1 then 1 else 0)
   refine W ?_
   obtain ⟨⟨r16, r17⟩, h15, hm⟩ := bnd hm
   refine cq (wA h15) ?_
   refine W ?_
   refine cm hm (fun hm => ?_) fun hm => ?_
   ·
    obtain ⟨x19, h18, hm⟩ := bnd hm
    exact E
   refine W ?_
   exact Lr (fun j => bif j == 1 then 1 else 0)
  rintro s ⟨t6, wT, t30, t31, t32, rfl, hm⟩
  refine W ?_
  exact Lr (fun j => bif j == 1 then 1 else 0)
 refine W ?_
 refine pu rfl (by simp only [go_sem, Nat.reduceBEq]; exact (by kernel_rfl : cL Tryz.prog 102 [] = some (.agg [.v (.int .i64 0), .v (.int .i64 0), .v (.int .i64 0)]))) ?_
 exact E
def mJ (rec1 : aC → aC → List aC → Int → Int → Option (aC × Bool)) (t2 : aC) (dF : aC) (t15 : List aC) (t16 : Int) (t17 : Int) : Option (aC × Bool) :=
 rec1 t2 dF t15 t16 (IntKind.i64.wrap (t17 + 1))
def rQ (rec1 : aC → aC → List aC → Int → Int → Option (aC × Bool)) (t2 : aC) (dF : aC) (t15 : List aC) (t16 : Int) (t17 : Int) : Option (aC × Bool) :=
 (bif (decide (t17 < t16)) then
  ((idx t15 t17).bind fun x6 =>
  ((fE (((decide (dF.Tier < x6.Tier)) == false) && ((x6.Tier == dF.Tier) == true)) false (rD dF x6)).bind fun r8 =>
  (bif ((decide (dF.Tier < x6.Tier)) || ((x6.Tier == dF.Tier) && r8)) then
   mJ rec1 t2 x6 t15 t16 t17
  else
   mJ rec1 t2 dF t15 t16 t17)))
 else
  some (dF, true))
def hZ : Nat → aC → aC → List aC → Int → Int → Option (aC × Bool)
 | 0 => fun _ _ _ _ _ => none
 | n + 1 => rQ (hZ n)
def kO (l_0 : List aC) : Option (aC × Bool) :=
 (bif ((l_0.length : Int) == 0) then
  some ((aC.mk 0 0 0), false)
 else
  ((idx l_0 0).bind fun x2 =>
  ((slc l_0 1 (l_0.length : Int)).bind fun l4 =>
  hZ bK (aC.mk 0 0 0) x2 l4 (l4.length : Int) 0)))
theorem aJ4 {l_0 : List aC} {r : aC × Bool} (hm : kO l_0 = some r) : aZ Tryz.prog 171 [vl aT l_0] (.tup [.agg [vi r.1.U, vi r.1.V, vi r.1.Tier], vb r.2]) := by
 refine bd 41 Tryz.func171 ?_
 refine W ?_
 refine cm hm (fun hm => ?_) fun hm => ?_
 ·
  refine W ?_
  refine pu rfl (by simp only [go_sem, Nat.reduceBEq]; exact (by kernel_rfl : cL Tryz.prog 102 [] = some (.agg [.v (.int .i64 0), .v (.int .i64 0), .v (.int .i64 0)]))) ?_
  exact E
 obtain ⟨x2, h1, hm⟩ := bnd hm
 obtain ⟨l4, h3, hm⟩ := bnd hm
 refine W ?_
 refine lp (fun m s => ∃ t2 dF t15 t16 t17, s = ⟨41, (aF (aF (aF (aF (aF fa 2 (.adr 1 0)) 4 (.adr 2 0)) 15 (vl aT t15)) 16 (vi t16)) 17 (vi t17)), ⟨(upd (upd aX 1 (.cells 1 [vi t2.U, vi t2.V, vi t2.Tier] 0)) 2 (.cells 1 [vi dF.U, vi dF.V, vi dF.Tier] 0)), 64⟩⟩ ∧ hZ m t2 dF t15 t16 t17 = some r) ?_ ?_
 ·
  refine ⟨_, ?_, (aC.mk 0 0 0), x2, l4, (l4.length : Int), 0, rfl, hm⟩
  refine St.Le.trans (aV1 15 (.sl (l4.flatMap aT) l4.length false) (fun H => (tdf Z1 (bV.sl _ _ _)))) ?_
  exact cn (fun j => bif j == 1 then 0 else bif j == 2 then 131 else 0)
 rintro n1 s ⟨t2, dF, t15, t16, t17, rfl, hm⟩
 refine W ?_
 refine cm hm (fun hm => ?_) fun hm => ?_
 ·
  refine V ?_
  refine AWp.seqJ (fun s => ∃ t2 dF t15 t16 t17, s = ⟨41, (aF (aF (aF (aF (aF fa 2 (.adr 1 0)) 4 (.adr 2 0)) 15 (vl aT t15)) 16 (vi t16)) 17 (vi t17)), ⟨(upd (upd aX 1 (.cells 1 [vi t2.U, vi t2.V, vi t2.Tier] 0)) 2 (.cells 1 [vi dF.U, vi dF.V, vi dF.Tier] 0)), 64⟩⟩ ∧ mJ (hZ n1) t2 dF t15 t16 t17 = some r) ?_ ?_
  ·
   obtain ⟨x6, h5, hm⟩ := bnd hm
   obtain ⟨r8, h7, hm⟩ := bnd hm
   refine W ?_
   refine cg (fun hb => aE2 (cM h7 hb)) ?_
   refine W ?_
   refine cm hm (fun hm => ?_) fun hm => ?_
   ·
    refine W ?_
    exact Lr (fun j => bif j == 1 then 1 else bif j == 2 then 2 else 0)
   refine W ?_
   exact Lr (fun j => bif j == 1 then 1 else bif j == 2 then 2 else 0)
  rintro s ⟨t2, dF, t15, t16, t17, rfl, hm⟩
  refine W ?_
  exact Lr (fun j => bif j == 1 then 1 else bif j == 2 then 2 else 0)
 exact E
def iR (l : List aC) : Option (List aC) := app [] l
theorem aEi {r : List aC} (hm : some [] = some r) : dB Tryz.prog 193 [.v (.slice none 0 0)] 3 (r.flatMap aT) r.length := by
 refine dB.of_body Tryz.func193 rfl (bV.fmdat r) ?_
 simp only [Tryz.ntmps193, List.length_cons, List.length_nil, Nat.reduceAdd, Nat.reduceSub, eR]
 refine sN 64 (pA ?_)
 refine fs (AWp.seq' (sN 128 (pA ?_)))
 refine pu rfl (tM Z1 Z1 (aFd Tryz.underlying28)) ?_
 refine fs (AWp.condT Z1 ?_)
 refine sN 192 (pA ?_)
 refine fs (AWp.weaken (oD 2 900002 3 Z1 Z5) ?_)
 refine AWp.ret (jD ?_)
 cases hm
 exact aFn (.inr rfl) Tryz.results193 Z1 Z3 Z6
theorem aEt {a : Addr} {c : Nat} {r : List aC} (hm : ((app [] []).bind fun l2 =>
some l2) = some r) : dB Tryz.prog 193 [.v (.slice (some a) 0 c)] 3 (r.flatMap aT) r.length := by
 refine dB.of_body Tryz.func193 rfl (bV.fmdat r) ?_
 simp only [Tryz.ntmps193, List.length_cons, List.length_nil, Nat.reduceAdd, Nat.reduceSub, eR]
 refine sN 64 (pA ?_)
 refine fs (AWp.seq' (sN 128 (pA ?_)))
 refine pu rfl (tM Z1 Z1 (aCv Tryz.underlying28)) ?_
 refine fs (AWp.condF Z1 ?_)
 refine AWp.skip (bU (sN 192 (hp (id := 128) rfl rfl (lE bV (l := []) Tryz.underlying28 aC1 aO1 Z5 Zd Zd Zd (by simp only [go_sem, Nat.reduceBEq]; try rfl) (by kernel_rfl)) ?_)))
 refine pA ?_
 obtain ⟨l2, h1, hm⟩ := bnd hm
 refine hp (id := 130) rfl rfl (aE5 bV Tryz.underlying28 Tryz.underlying28 rfl aWj aWi (by rw [aI0]; decide) (by rw [aI0]; decide) aWt Zd Zd Z1 Z3 Z6 (aJq Z1) rfl Z5 h1) ?_
 refine pA ?_
 refine fs (AWp.ret ?_)
 cases hm
 exact aFn (.inr rfl) Tryz.results193 Z1 Z3 Z6
theorem aDz {x0 : aC} {l0 : List aC} {r : List aC} (hm : ((app [] (x0 :: l0)).bind fun l2 =>
some l2) = some r) : dB Tryz.prog 193 [.sl ((x0 :: l0).flatMap aT) (x0 :: l0).length false] 3 (r.flatMap aT) r.length := by
 refine dB.of_body Tryz.func193 rfl (bV.fmdat r) ?_
 simp only [Tryz.ntmps193, List.length_cons, List.length_nil, Nat.reduceAdd, Nat.reduceSub, eR]
 refine sN 64 (pA ?_)
 refine fs (AWp.seq' (sN 128 (pA ?_)))
 refine pu rfl (tM Z1 Z1 (aCs Tryz.underlying28 (by simp))) ?_
 refine fs (AWp.condF Z1 ?_)
 refine AWp.skip (bU (sN 192 (hp (id := 128) rfl rfl (lE bV (l := []) Tryz.underlying28 aC1 aO1 Z5 Zd Zd Zd (by simp only [go_sem, Nat.reduceBEq]; try rfl) (by kernel_rfl)) ?_)))
 refine pA ?_
 obtain ⟨l2, h1, hm⟩ := bnd hm
 refine hp (id := 130) rfl rfl (aE5 bV Tryz.underlying28 Tryz.underlying28 rfl aWj aWi (by rw [aI0]; decide) (by rw [aI0]; decide) aWt Zd Zd Z1 Z3 Z6 (aN3 bV Z1 rfl) rfl Z5 h1) ?_
 refine pA ?_
 refine fs (AWp.ret ?_)
 cases hm
 exact aFn (.inr rfl) Tryz.results193 Z1 Z3 Z6
theorem aFr {l r : List aC} (hm : iR l = some r) : dB Tryz.prog 193 [.sl (l.flatMap aT) l.length false] 3 (r.flatMap aT) r.length := by
 cases l with
 | nil =>
  have hr : r = [] := by unfold iR app at hm; simpa using hm.symm
  subst hr
  exact dB.nil_arg (aEi (r := []) rfl) (fun a c => aEt (r := []) rfl)
 | cons x0 l0 =>
  refine aDz ?_
  show (app [] (x0 :: l0)).bind _ = _
  unfold iR at hm
  rw [hm]; rfl
def vT (n_0 : Int) (l_1 : List aC) (u_2 : Int) (v_3 : Int) (aE9 : Int) : Option ((List aC) × Int) :=
 ((fY n_0 l_1).bind fun r2 =>
 ((fE ((!r2) == false) false (eI n_0 u_2)).bind fun r4 =>
 ((fE (((!r2) || (!r4)) == false) false (eI n_0 v_3)).bind fun r6 =>
 ((fE ((((!r2) || (!r4)) || (!r6)) == false) false (nL aE9)).bind fun r8 =>
 (bif ((((!r2) || (!r4)) || (!r6)) || (!r8)) then
  some (l_1, 1)
 else
  ((lJ l_1 u_2 v_3).bind fun ⟨r10, r11⟩ =>
  (bif (!r11) then
   some (l_1, 9)
  else
   ((iR l_1).bind fun r13 =>
   ((idx r13 r10).bind fun x15 =>
   ((stt r13 r10 (aC.mk x15.U x15.V aE9)).bind fun l17 =>
   some (l17, 0)))))))))))
theorem aLr {n_0 : Int} {l_1 : List aC} {u_2 : Int} {v_3 : Int} {aE9 : Int} {r : (List aC) × Int} (hm : vT n_0 l_1 u_2 v_3 aE9 = some r) : aZ Tryz.prog 172 [vi n_0, vl aT l_1, vi u_2, vi v_3, vi aE9] (.tup [vl aT r.1, vi r.2]) := by
 refine bd 55 Tryz.func172 ?_
 obtain ⟨r2, h1, hm⟩ := bnd hm
 refine W ?_
 refine cq (kD h1) ?_
 obtain ⟨r4, h3, hm⟩ := bnd hm
 refine W ?_
 refine cg (fun hb => jF (cM h3 hb)) ?_
 obtain ⟨r6, h5, hm⟩ := bnd hm
 refine W ?_
 refine cg (fun hb => jF (cM h5 hb)) ?_
 obtain ⟨r8, h7, hm⟩ := bnd hm
 refine W ?_
 refine cg (fun hb => aDe (cM h7 hb)) ?_
 refine W ?_
 refine cm hm (fun hm => ?_) fun hm => ?_
 · exact E
 refine W ?_
 obtain ⟨⟨r10, r11⟩, h9, hm⟩ := bnd hm
 refine cq (wA h9) ?_
 refine W ?_
 refine cm hm (fun hm => ?_) fun hm => ?_
 · exact E
 obtain ⟨r13, h12, hm⟩ := bnd hm
 refine W ?_
 refine aU.callF (id := 257) Zd Z1 bMs (fun H => (cD (bV.sl _ _ _) .nil)) bV Z5 (aFr h12) ?_
 obtain ⟨x15, h14, hm⟩ := bnd hm
 obtain ⟨l17, h16, hm⟩ := bnd hm
 refine W ?_
 have qh16 := jH h16
 refine aU.heap0 (id := 325) rfl (bF5 bV (off := 2) (y := x15) (y' := (aC.mk x15.U x15.V aE9)) (cs := [.v (.int .i64 aE9)]) sz3 Z1 Z1 Z3 rfl h14 rfl Zd Z9 rfl h16) ?_
 exact E
def rW (n_0 : Int) (v_1 : Int) : Option (Bool) :=
 some ((decide (0 ≤ v_1)) && (decide (v_1 < n_0)))
theorem aDh {n_0 : Int} {v_1 : Int} {r : Bool} (hm : rW n_0 v_1 = some r) : aZ Tryz.prog 190 [vi n_0, vi v_1] (vb r) := by
 refine bd 12 Tryz.func190 ?_
 exact E
end Go.Proofs.YtkdohhmacfoolaaGreat
