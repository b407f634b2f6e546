/- Facts that the statement's proof is made of. No condition. -/
import Derived.Test.YtkdohhmacfoolaaGreatNeGA1
import Derived.Test.YtkdohhmacfoolaaGreatNePl
set_option linter.unusedVariables false
set_option linter.unusedSimpArgs false
set_option maxRecDepth 20000
set_option maxHeartbeats 4000000
namespace Go.Proofs.YtkdohhmacfoolaaGreat
open Go Go.AM
structure aN where
 R : Int
 V : Int
 Words : List Int
deriving DecidableEq
def aLm (e : aN) : List AV := [.v (.int .i64 e.R), .v (.int .i64 e.V), .sl (e.Words.flatMap (ci .u64)) e.Words.length false]
theorem aFj (e : aN) (r : List AV) : aLm e ++ r = .v (.int .i64 e.R) :: .v (.int .i64 e.V) :: .sl (e.Words.flatMap (ci .u64)) e.Words.length false :: r := rfl
attribute [go_sem] aFj
theorem aX6 (i o : Nat) : aH Tryz.prog 102 (.adr i o) 0 = some (.adr i (o + 0)) := by kernel_rfl
attribute [go_sem] aX6
theorem aWh (i o : Nat) : aH Tryz.prog 102 (.adr i o) 1 = some (.adr i (o + 1)) := by kernel_rfl
attribute [go_sem] aWh
theorem aXy (i o : Nat) : aH Tryz.prog 102 (.adr i o) 2 = some (.adr i (o + 2)) := by kernel_rfl
attribute [go_sem] aXy
theorem aXn (i o : Nat) : aH Tryz.prog 120 (.adr i o) 0 = some (.adr i (o + 0)) := by kernel_rfl
attribute [go_sem] aXn
theorem aVq (i o : Nat) : aH Tryz.prog 120 (.adr i o) 1 = some (.adr i (o + 1)) := by kernel_rfl
attribute [go_sem] aVq
theorem bD0 (i o : Nat) : aH Tryz.prog 23 (.adr i o) 0 = some (.adr i (o + 0)) := by kernel_rfl
attribute [go_sem] bD0
theorem bBc (i o : Nat) : aH Tryz.prog 23 (.adr i o) 1 = some (.adr i (o + 1)) := by kernel_rfl
attribute [go_sem] bBc
theorem bBb (i o : Nat) : aH Tryz.prog 23 (.adr i o) 2 = some (.adr i (o + 2)) := by kernel_rfl
attribute [go_sem] bBb
theorem aVz (i o : Nat) : aH Tryz.prog 243 (.adr i o) 0 = some (.adr i (o + 0)) := by kernel_rfl
attribute [go_sem] aVz
theorem aYa (i o : Nat) : aH Tryz.prog 243 (.adr i o) 1 = some (.adr i (o + 1)) := by kernel_rfl
attribute [go_sem] aYa
theorem aUt (i o : Nat) : aH Tryz.prog 243 (.adr i o) 2 = some (.adr i (o + 2)) := by kernel_rfl
attribute [go_sem] aUt
theorem bDv (i o : Nat) : aH Tryz.prog 30 (.adr i o) 0 = some (.adr i (o + 0)) := by kernel_rfl
attribute [go_sem] bDv
theorem bCc (i o : Nat) : aH Tryz.prog 30 (.adr i o) 1 = some (.adr i (o + 3)) := by kernel_rfl
attribute [go_sem] bCc
theorem bDp (i o : Nat) : aH Tryz.prog 30 (.adr i o) 2 = some (.adr i (o + 4)) := by kernel_rfl
attribute [go_sem] bDp
theorem bHv (H : aJ) (x0 x1 x2 : AV) (xs : List AV) : bM Tryz.prog H 102 (.ptr (x0 :: x1 :: x2 :: xs)) = some (.agg [x0, x1, x2]) := by kernel_rfl
attribute [go_sem] bHv
theorem bEk (H : aJ) (x0 x1 : AV) (xs : List AV) : bM Tryz.prog H 120 (.ptr (x0 :: x1 :: xs)) = some (.agg [x0, x1]) := by kernel_rfl
attribute [go_sem] bEk
theorem bIj (H : aJ) (x : AV) (xs : List AV) : bM Tryz.prog H 24 (.ptr (x :: xs)) = some x := by kernel_rfl
attribute [go_sem] bIj
theorem bFn (H : aJ) (x0 x1 x2 : AV) (xs : List AV) : bM Tryz.prog H 243 (.ptr (x0 :: x1 :: x2 :: xs)) = some (.agg [x0, x1, x2]) := by kernel_rfl
attribute [go_sem] bFn
theorem bKf (H : aJ) (x : AV) (xs : List AV) : bM Tryz.prog H 27 (.ptr (x :: xs)) = some x := by kernel_rfl
attribute [go_sem] bKf
theorem bId (H : aJ) (x : AV) (xs : List AV) : bM Tryz.prog H 28 (.ptr (x :: xs)) = some x := by kernel_rfl
attribute [go_sem] bId
theorem bMy (H : aJ) (x : AV) (xs : List AV) : bM Tryz.prog H 3 (.ptr (x :: xs)) = some x := by kernel_rfl
attribute [go_sem] bMy
theorem bJ2 (H : aJ) (x0 x1 x2 x3 x4 : AV) (xs : List AV) : bM Tryz.prog H 30 (.ptr (x0 :: x1 :: x2 :: x3 :: x4 :: xs)) = some (.agg [x0, x1, x2, x3, x4]) := by kernel_rfl
attribute [go_sem] bJ2
theorem bNa (H : aJ) (x : AV) (xs : List AV) : bM Tryz.prog H 4 (.ptr (x :: xs)) = some x := by kernel_rfl
attribute [go_sem] bNa
theorem bK8 (H : aJ) (x : AV) (xs : List AV) : bM Tryz.prog H 43 (.ptr (x :: xs)) = some x := by kernel_rfl
attribute [go_sem] bK8
theorem bCi (H : aJ) (k : IntKind) (n : Int) : lU Tryz.prog H 3 43 (.v (.int k n)) = some (.v (.int .u64 (IntKind.u64.wrap n))) := fP Tryz.underlying3 Tryz.underlying43
attribute [go_sem] bCi
theorem aYc (H : aJ) (k : IntKind) (n : Int) : lU Tryz.prog H 3 198 (.v (.int k n)) = some (.v (.int .u64 (IntKind.u64.wrap n))) := fP Tryz.underlying3 Tryz.underlying198
attribute [go_sem] aYc
theorem bEq (H : aJ) (k : IntKind) (n : Int) : lU Tryz.prog H 5 3 (.v (.int k n)) = some (.v (.int .i64 (IntKind.i64.wrap n))) := fP Tryz.underlying5 Tryz.underlying3
attribute [go_sem] bEq
theorem bBs (H : aJ) (k : IntKind) (n : Int) : lU Tryz.prog H 43 3 (.v (.int k n)) = some (.v (.int .i64 (IntKind.i64.wrap n))) := fP Tryz.underlying43 Tryz.underlying3
attribute [go_sem] bBs
theorem aXp (H : aJ) (k : IntKind) (n : Int) : lU Tryz.prog H 214 5 (.v (.int k n)) = some (.v (.int .u8 (IntKind.u8.wrap n))) := fP Tryz.underlying214 Tryz.underlying5
attribute [go_sem] aXp
def aCj (tK : Int) (rX : Int) (y_2 : Int) : Option (Int) :=
 ((chk (y_2 != 0)).bind fun _ =>
 ((yK (Int.tmod tK y_2) rX y_2).bind fun ⟨r3, r4⟩ =>
 some r4))
theorem aTr {tK : Int} {rX : Int} {y_2 : Int} {r : Int} (hm : aCj tK rX y_2 = some r) : aZ Tryz.prog 166 [vu tK, vu rX, vu y_2] (vu r) := by
 refine bd 19 Tryz.func166 ?_
 obtain ⟨_, h1, hm⟩ := bnd hm
 refine W ?_
 obtain ⟨⟨r3, r4⟩, h2, hm⟩ := bnd hm
 refine cq (aU9 h2) ?_
 exact E
def aGi (a_0 : Int) (b_1 : Int) : Option (Int) :=
 ((aAp a_0).bind fun r2 =>
 ((aAp b_1).bind fun r4 =>
 ((zA r2 r4).bind fun ⟨r6, r7⟩ =>
 ((aCj r6 r7 2305843009213693951).bind fun r9 =>
 some r9))))
theorem bHc {a_0 : Int} {b_1 : Int} {r : Int} (hm : aGi a_0 b_1 = some r) : aZ Tryz.prog 139 [vu a_0, vu b_1] (vu r) := by
 refine bd 18 Tryz.func139 ?_
 obtain ⟨r2, h1, hm⟩ := bnd hm
 refine W ?_
 refine cq (aL7 h1) ?_
 obtain ⟨r4, h3, hm⟩ := bnd hm
 refine W ?_
 refine cq (aL7 h3) ?_
 obtain ⟨⟨r6, r7⟩, h5, hm⟩ := bnd hm
 refine cq (aU5 h5) ?_
 obtain ⟨r9, h8, hm⟩ := bnd hm
 refine W ?_
 refine cq (aTr h8) ?_
 exact E
def aCb (n_0 : Int) (l_1 : List aD) (v_2 : Int) : Option ((List Int)) :=
 ((nO n_0 l_1).bind fun r2 =>
 (bif (!r2) then
  some []
 else
  ((qN n_0 l_1).bind fun ⟨r4, r5⟩ =>
  ((qH r4 v_2).bind fun r7 =>
  some r7))))
theorem aSv {n_0 : Int} {l_1 : List aD} {v_2 : Int} {r : (List Int)} (hm : aCb n_0 l_1 v_2 = some r) : aZ Tryz.prog 197 [vi n_0, vl aT l_1, vi v_2] (vl (ci .i64) r) := by
 refine bd 22 Tryz.func197 ?_
 obtain ⟨r2, h1, hm⟩ := bnd hm
 refine W ?_
 refine cq (aAn h1) ?_
 refine W ?_
 refine cm hm (fun hm => ?_) fun hm => ?_
 · exact E
 refine W ?_
 obtain ⟨⟨r4, r5⟩, h3, hm⟩ := bnd hm
 refine cq (aHs h3) ?_
 obtain ⟨r7, h6, hm⟩ := bnd hm
 refine W ?_
 refine cq (aDw h6) ?_
 exact E
def oF (g_0 : aG) (cG : Int) (v_2 : Int) : Option ((List Int)) :=
 ((gL g_0.Config.N g_0.Edges cG).bind fun r2 =>
 ((aCb g_0.Config.N r2 v_2).bind fun r4 =>
 some r4))
theorem aEs {g_0 : aG} {cG : Int} {v_2 : Int} {r : (List Int)} (hm : oF g_0 cG v_2 = some r) : aZ Tryz.prog 184 [.agg [vi g_0.Config.N, vi g_0.Config.L, vi g_0.Config.R, vl bI g_0.Hashes, vl aT g_0.Edges], vi cG, vi v_2] (vl (ci .i64) r) := by
 refine bd 19 Tryz.func184 ?_
 obtain ⟨r2, h1, hm⟩ := bnd hm
 refine W ?_
 refine cq (oP h1) ?_
 obtain ⟨r4, h3, hm⟩ := bnd hm
 refine W ?_
 refine cq (aSv h3) ?_
 exact E
def qQ (g_0 : aG) (cG : Int) (v_2 : Int) : Option ((List Int)) :=
 ((eG g_0).bind fun r2 =>
 (bif (((((!r2) || (decide (cG < 0))) || (decide (g_0.Config.L < cG))) || (decide (v_2 < 0))) || (decide (g_0.Config.N ≤ v_2))) then
  some []
 else
  ((oF g_0 cG v_2).bind fun r4 =>
  some r4)))
theorem aGf {g_0 : aG} {cG : Int} {v_2 : Int} {r : (List Int)} (hm : qQ g_0 cG v_2 = some r) : aZ Tryz.prog 168 [.agg [vi g_0.Config.N, vi g_0.Config.L, vi g_0.Config.R, vl bI g_0.Hashes, vl aT g_0.Edges], vi cG, vi v_2] (vl (ci .i64) r) := by
 refine bd 36 Tryz.func168 ?_
 obtain ⟨r2, h1, hm⟩ := bnd hm
 refine W ?_
 refine cq (iF h1) ?_
 refine W ?_
 refine cm hm (fun hm => ?_) fun hm => ?_
 · exact E
 obtain ⟨r4, h3, hm⟩ := bnd hm
 refine W ?_
 refine cq (aEs h3) ?_
 exact E
def lO (g_0 : aG) (cG : Int) (v_2 : Int) : Option (Bool) :=
 ((eG g_0).bind fun r2 =>
 some ((((r2 && (decide (0 ≤ cG))) && (decide (cG < g_0.Config.L))) && (decide (0 ≤ v_2))) && (decide (v_2 < g_0.Config.N))))
theorem aHn {g_0 : aG} {cG : Int} {v_2 : Int} {r : Bool} (hm : lO g_0 cG v_2 = some r) : aZ Tryz.prog 185 [.agg [vi g_0.Config.N, vi g_0.Config.L, vi g_0.Config.R, vl bI g_0.Hashes, vl aT g_0.Edges], vi cG, vi v_2] (vb r) := by
 refine bd 31 Tryz.func185 ?_
 obtain ⟨r2, h1, hm⟩ := bnd hm
 refine W ?_
 refine cq (iF h1) ?_
 exact E
def aG3 (rec1 : Int → List Int → Int → Int → Option (Bool)) (n_0 : Int) (t13 : List Int) (t14 : Int) (t15 : Int) : Option (Bool) :=
 (bif (decide (t15 < t14)) then
  ((idx t13 t15).bind fun x4 =>
  (bif ((decide (x4 < 0)) || (decide (n_0 ≤ x4))) then
   some false
  else
   rec1 n_0 t13 t14 (IntKind.i64.wrap (t15 + 1))))
 else
  some true)
def wQ : Nat → Int → List Int → Int → Int → Option (Bool)
 | 0 => fun _ _ _ _ => none
 | n + 1 => aG3 (wQ n)
def aIe (n_0 : Int) (l_1 : List aD) (aC4 : List Int) : Option (Bool) :=
 ((gH n_0 l_1).bind fun r2 =>
 (bif (!r2) then
  some false
 else
  wQ bF n_0 aC4 (aC4.length : Int) 0))
theorem bDs {n_0 : Int} {l_1 : List aD} {aC4 : List Int} {r : Bool} (hm : aIe n_0 l_1 aC4 = some r) : aZ Tryz.prog 205 [vi n_0, vl aT l_1, vl (ci .i64) aC4] (vb r) := by
 refine bd 27 Tryz.func205 ?_
 obtain ⟨r2, h1, hm⟩ := bnd hm
 refine W ?_
 refine cq (kL h1) ?_
 refine W ?_
 refine cm hm (fun hm => ?_) fun hm => ?_
 · exact E
 refine W ?_
 refine lp (fun m s => ∃ n_0 t13 t14 t15, s = ⟨27, (aF (aF (aF (aF fa 0 (vi n_0)) 13 (vl (ci .i64) t13)) 14 (vi t14)) 15 (vi t15)), ⟨aX, 64⟩⟩ ∧ wQ m n_0 t13 t14 t15 = some r) L ?_
 rintro n1 s ⟨n_0, t13, t14, t15, rfl, hm⟩
 refine W ?_
 refine cm hm (fun hm => ?_) fun hm => ?_
 ·
  obtain ⟨x4, h3, hm⟩ := bnd hm
  refine W ?_
  refine cm hm (fun hm => ?_) fun hm => ?_
  · exact E
  exact L
 exact E
def vE (rec1 : List Bool → List aD → List aD → Int → Int → Option ((List aD))) (jY : List Bool) (dH : List aD) (t8 : List aD) (t9 : Int) (t10 : Int) : Option ((List aD)) :=
 rec1 jY dH t8 t9 (IntKind.i64.wrap (t10 + 1))
def aAf (rec1 : List Bool → List aD → List aD → Int → Int → Option ((List aD))) (jY : List Bool) (dH : List aD) (t8 : List aD) (t9 : Int) (t10 : Int) : Option ((List aD)) :=
 (bif (decide (t10 < t9)) then
  ((idx t8 t10).bind fun x2 =>
  ((idx jY x2.U).bind fun x4 =>
  ((idx jY x2.V).bind fun x6 =>
  (bif (!(x4 == x6)) then
   ((app dH [x2]).bind fun l8 =>
   vE rec1 jY l8 t8 t9 t10)
  else
   vE rec1 jY dH t8 t9 t10))))
 else
  some dH)
def nC : Nat → List Bool → List aD → List aD → Int → Int → Option ((List aD))
 | 0 => fun _ _ _ _ _ => none
 | n + 1 => aAf (nC n)
def aCr (l_0 : List aD) (jY : List Bool) : Option ((List aD)) :=
 nC bF jY [] l_0 (l_0.length : Int) 0
theorem aTa {l_0 : List aD} {jY : List Bool} {r : (List aD)} (hm : aCr l_0 jY = some r) : aZ Tryz.prog 206 [vl aT l_0, vl aJl jY] (vl aT r) := by
 refine bd 31 Tryz.func206 ?_
 refine W ?_
 refine lp (fun m s => ∃ jY dH t8 t9 t10, s = ⟨31, (aF (aF (aF (aF (aF fa 1 (vl aJl jY)) 5 (.own 1 0 dH.length)) 8 (vl aT t8)) 9 (vi t9)) 10 (vi t10)), ⟨(upd aX 1 (.cells 3 (dH.flatMap aT) 0)), 64⟩⟩ ∧ nC m jY dH t8 t9 t10 = some r) ?_ ?_
 ·
  refine ⟨_, ?_, jY, [], l_0, (l_0.length : Int), 0, rfl, hm⟩
  refine St.Le.trans (nX 5 900005 3 Z1 Z5) ?_
  exact cn (fun j => bif j == 1 then 900005 else 0)
 rintro n1 s ⟨jY, dH, t8, t9, t10, rfl, hm⟩
 refine W ?_
 refine cm hm (fun hm => ?_) fun hm => ?_
 ·
  refine V ?_
  refine AWp.seqJ (fun s => ∃ jY dH t8 t9 t10, s = ⟨31, (aF (aF (aF (aF (aF fa 1 (vl aJl jY)) 5 (.own 1 0 dH.length)) 8 (vl aT t8)) 9 (vi t9)) 10 (vi t10)), ⟨(upd aX 1 (.cells 3 (dH.flatMap aT) 0)), 64⟩⟩ ∧ vE (nC n1) jY dH t8 t9 t10 = some r) ?_ ?_
  ·
   obtain ⟨x2, h1, hm⟩ := bnd hm
   obtain ⟨x4, h3, hm⟩ := bnd hm
   obtain ⟨x6, h5, hm⟩ := bnd hm
   refine W ?_
   refine cm hm (fun hm => ?_) fun hm => ?_
   ·
    refine W ?_
    refine aL bY [x2] ?_
    obtain ⟨l8, h7, hm⟩ := bnd hm
    refine W ?_
    exact Lr (fun j => bif j == 1 then 259 else 0)
   refine W ?_
   exact Lr (fun j => bif j == 1 then 1 else 0)
  rintro s ⟨jY, dH, t8, t9, t10, rfl, hm⟩
  refine W ?_
  exact Lr (fun j => bif j == 1 then 1 else 0)
 exact E
def aIx (rec1 : List aD → List Bool → List Int → Int → Int → Option ((List aD) × Int)) (l_1 : List aD) (aTn : List Bool) (t18 : List Int) (t19 : Int) (t20 : Int) : Option ((List aD) × Int) :=
 (bif (decide (t20 < t19)) then
  ((idx t18 t20).bind fun x6 =>
  ((idx aTn x6).bind fun x8 =>
  ((stt aTn x6 true).bind fun l10 =>
  rec1 l_1 l10 t18 t19 (IntKind.i64.wrap (t20 + 1)))))
 else
  ((aCr l_1 aTn).bind fun r12 =>
  some (r12, 0)))
def aAa : Nat → List aD → List Bool → List Int → Int → Int → Option ((List aD) × Int)
 | 0 => fun _ _ _ _ _ => none
 | n + 1 => aIx (aAa n)
def aHz (n_0 : Int) (l_1 : List aD) (aC4 : List Int) : Option ((List aD) × Int) :=
 ((aIe n_0 l_1 aC4).bind fun r2 =>
 (bif (!r2) then
  some ([], 1)
 else
  ((mkc n_0 n_0 false).bind fun l4 =>
  aAa bF l_1 l4 aC4 (aC4.length : Int) 0)))
theorem bHo {n_0 : Int} {l_1 : List aD} {aC4 : List Int} {r : (List aD) × Int} (hm : aHz n_0 l_1 aC4 = some r) : aZ Tryz.prog 198 [vi n_0, vl aT l_1, vl (ci .i64) aC4] (.tup [vl aT r.1, vi r.2]) := by
 refine bd 31 Tryz.func198 ?_
 obtain ⟨r2, h1, hm⟩ := bnd hm
 refine W ?_
 refine cq (bDs h1) ?_
 refine W ?_
 refine cm hm (fun hm => ?_) fun hm => ?_
 · exact E
 obtain ⟨l4, h3, hm⟩ := bnd hm
 refine W ?_
 refine aK CFb h3 ?_
 refine W ?_
 refine lp (fun m s => ∃ l_1 aTn t18 t19 t20, s = ⟨31, (aF (aF (aF (aF (aF fa 1 (vl aT l_1)) 8 (.own 1 0 aTn.length)) 18 (vl (ci .i64) t18)) 19 (vi t19)) 20 (vi t20)), ⟨(upd aX 1 (.cells 1 (aTn.flatMap aJl) 0)), 64⟩⟩ ∧ aAa m l_1 aTn t18 t19 t20 = some r) (Lr (fun j => bif j == 1 then 129 else 0)) ?_
 rintro n1 s ⟨l_1, aTn, t18, t19, t20, rfl, hm⟩
 refine W ?_
 refine cm hm (fun hm => ?_) fun hm => ?_
 ·
  obtain ⟨x6, h5, hm⟩ := bnd hm
  obtain ⟨x8, h7, hm⟩ := bnd hm
  obtain ⟨l10, h9, hm⟩ := bnd hm
  refine W ?_
  have qh9 := jU h9
  refine aS h9 ?_
  refine W ?_
  exact Lr (fun j => bif j == 1 then 1 else 0)
 iterate 5 refine S1 ?_
 refine AWp.seq' ?_
 refine AWp.weaken (aEe CFb 8 1 Z1 Z3 Z6) ?_
 obtain ⟨r12, h11, hm⟩ := bnd hm
 refine W ?_
 refine cq (aTa h11) ?_
 exact E
def tC (g_0 : aG) (cG : Int) (v_2 : Int) : Option ((List aD)) :=
 ((oF g_0 cG v_2).bind fun r2 =>
 ((aHz g_0.Config.N g_0.Edges r2).bind fun ⟨r4, r5⟩ =>
 some r4))
theorem aOf {g_0 : aG} {cG : Int} {v_2 : Int} {r : (List aD)} (hm : tC g_0 cG v_2 = some r) : aZ Tryz.prog 186 [.agg [vi g_0.Config.N, vi g_0.Config.L, vi g_0.Config.R, vl bI g_0.Hashes, vl aT g_0.Edges], vi cG, vi v_2] (vl aT r) := by
 refine bd 23 Tryz.func186 ?_
 obtain ⟨r2, h1, hm⟩ := bnd hm
 refine W ?_
 refine cq (aEs h1) ?_
 obtain ⟨⟨r4, r5⟩, h3, hm⟩ := bnd hm
 refine cq (bHo h3) ?_
 exact E
def zY (x_0 : Int) : Option (Int) :=
 ((aCe x_0).bind fun r2 =>
 some r2)
theorem aIg {x_0 : Int} {r : Int} (hm : zY x_0 = some r) : aZ Tryz.prog 134 [vu x_0] (vi r) := by
 refine bd 8 Tryz.func134 ?_
 refine W ?_
 refine AWp.condF Z1 ?_
 obtain ⟨r2, h1, hm⟩ := bnd hm
 refine W ?_
 refine cq (aK9 h1) ?_
 exact E
def tG (n_0 : Int) : Option (Int) :=
 (bif (decide (n_0 < 1)) then
  some 0
 else
  ((zY (IntKind.u64.wrap (IntKind.i64.wrap (n_0 - 1)))).bind fun r2 =>
  some (IntKind.i64.wrap ((IntKind.i64.wrap (2 * r2)) + 2))))
theorem aOg {n_0 : Int} {r : Int} (hm : tG n_0 = some r) : aZ Tryz.prog 201 [vi n_0] (vi r) := by
 refine bd 11 Tryz.func201 ?_
 refine W ?_
 refine cm hm (fun hm => ?_) fun hm => ?_
 · exact E
 obtain ⟨r2, h1, hm⟩ := bnd hm
 refine W ?_
 refine cq (aIg h1) ?_
 exact E
def lJ (r_0 : Int) (v_1 : Int) : Option (Bool) :=
 some ((((decide (1 ≤ r_0)) && (decide (r_0 ≤ 8))) && (decide (1 ≤ v_1))) && (decide (v_1 ≤ 61)))
theorem aEu {r_0 : Int} {v_1 : Int} {r : Bool} (hm : lJ r_0 v_1 = some r) : aZ Tryz.prog 207 [vi r_0, vi v_1] (vb r) := by
 refine bd 19 Tryz.func207 ?_
 exact E
def aCm (r_0 : Int) (v_1 : Int) : Option (aN × Int) :=
 ((lJ r_0 v_1).bind fun r2 =>
 (bif (!r2) then
  some ((aN.mk 0 0 []), 1)
 else
  ((mkc (IntKind.i64.wrap (r_0 * v_1)) (IntKind.i64.wrap (r_0 * v_1)) 0).bind fun l4 =>
  some ((aN.mk r_0 v_1 l4), 0))))
theorem aTs {r_0 : Int} {v_1 : Int} {r : aN × Int} (hm : aCm r_0 v_1 = some r) : aZ Tryz.prog 200 [vi r_0, vi v_1] (.tup [.agg [vi r.1.R, vi r.1.V, vl (ci .u64) r.1.Words], vi r.2]) := by
 refine bd 18 Tryz.func200 ?_
 obtain ⟨r2, h1, hm⟩ := bnd hm
 refine W ?_
 refine cq (aEu h1) ?_
 refine W ?_
 refine cm hm (fun hm => ?_) fun hm => ?_
 ·
  refine W ?_
  refine pu rfl (by simp only [go_sem, Nat.reduceBEq]; exact (by kernel_rfl : cN Tryz.prog 243 [] = some (.agg [.v (.int .i64 0), .v (.int .i64 0), .v (.slice none 0 0)]))) ?_
  exact E
 iterate 2 refine S1 ?_
 refine AWp.seq' ?_
 refine AWp.regC 64 6 (N' := 192) rfl ?_
 obtain ⟨l4, h3, hm⟩ := bnd hm
 refine W ?_
 refine aK (CFi .u64) h3 ?_
 refine aU.cut (aEe (CFi .u64) 16 133 Z1 Z3 Z6) ?_
 refine pu rfl (by simp only [go_sem, Nat.reduceBEq]; exact (by kernel_rfl : cN Tryz.prog 243 [(0, .v (.int .i64 r_0)), (1, .v (.int .i64 v_1)), (2, .sl (l4.flatMap (ci .u64)) l4.length false)] = some (.agg [.v (.int .i64 r_0), .v (.int .i64 v_1), .sl (l4.flatMap (ci .u64)) l4.length false]))) ?_
 exact E
def oX (g_0 : aG) (cG : Int) : Option ((List bT)) :=
 ((slc g_0.Hashes (IntKind.i64.wrap (cG * g_0.Config.R)) (IntKind.i64.wrap ((IntKind.i64.wrap (cG * g_0.Config.R)) + g_0.Config.R))).bind fun l2 =>
 ((fD l2).bind fun r4 =>
 some r4))
theorem aKt {g_0 : aG} {cG : Int} {r : (List bT)} (hm : oX g_0 cG = some r) : aZ Tryz.prog 202 [.agg [vi g_0.Config.N, vi g_0.Config.L, vi g_0.Config.R, vl bI g_0.Hashes, vl aT g_0.Edges], vi cG] (vl bI r) := by
 refine bd 21 Tryz.func202 ?_
 obtain ⟨l2, h1, hm⟩ := bnd hm
 obtain ⟨r4, h3, hm⟩ := bnd hm
 refine W ?_
 refine aU.callF (id := 139) Zd Z1 bUa (fun H => (.cons (tdf Z1 (nG.sl _ _ _)) .nil)) nG Z5 (yG h3) ?_
 exact E
def vN (v_0 : Int) : Option (Bool) :=
 some ((decide (0 ≤ v_0)) && (decide (v_0 < 16777216)))
theorem aHy {v_0 : Int} {r : Bool} (hm : vN v_0 = some r) : aZ Tryz.prog 211 [vi v_0] (vb r) := by
 refine bd 9 Tryz.func211 ?_
 exact E
def aHq (u_0 : Int) (v_1 : Int) : Option (Int × Int) :=
 ((vN u_0).bind fun r2 =>
 ((fC ((!r2) == false) false (vN v_1)).bind fun r4 =>
 (bif ((!r2) || (!r4)) then
  some (0, 1)
 else
  (bif (u_0 == v_1) then
   some (0, 8)
  else
   some ((IntKind.u64.wrap ((IntKind.u64.wrap ((IntKind.u64.wrap (if v_1 < u_0 then v_1 else u_0)) * 16777216)) + (IntKind.u64.wrap (if u_0 < v_1 then v_1 else u_0)))), 0)))))
theorem bHr {u_0 : Int} {v_1 : Int} {r : Int × Int} (hm : aHq u_0 v_1 = some r) : aZ Tryz.prog 208 [vi u_0, vi v_1] (.tup [vu r.1, vi r.2]) := by
 refine bd 27 Tryz.func208 ?_
 obtain ⟨r2, h1, hm⟩ := bnd hm
 refine W ?_
 refine cq (aHy h1) ?_
 obtain ⟨r4, h3, hm⟩ := bnd hm
 refine W ?_
 refine cg (fun hb => aHy (cM h3 hb)) ?_
 refine W ?_
 refine cm hm (fun hm => ?_) fun hm => ?_
 · exact E
 refine W ?_
 refine cm hm (fun hm => ?_) fun hm => ?_
 · exact E
 exact E
def aDg (rec1 : List Int → List aD → Int → Int → Option ((List Int))) (dA : List Int) (t8 : List aD) (t9 : Int) (t10 : Int) : Option ((List Int)) :=
 rec1 dA t8 t9 (IntKind.i64.wrap (t10 + 1))
def yL (rec1 : List Int → List aD → Int → Int → Option ((List Int))) (dA : List Int) (bDk : Int) (t8 : List aD) (t9 : Int) (t10 : Int) : Option ((List Int)) :=
 ((app dA [bDk]).bind fun l7 =>
 aDg rec1 l7 t8 t9 t10)
def aCg (rec1 : List Int → List aD → Int → Int → Option ((List Int))) (dA : List Int) (t8 : List aD) (t9 : Int) (t10 : Int) : Option ((List Int)) :=
 (bif (decide (t10 < t9)) then
  ((idx t8 t10).bind fun x2 =>
  ((aHq x2.U x2.V).bind fun ⟨r4, r5⟩ =>
  (bif (r5 != 0) then
   yL rec1 dA 0 t8 t9 t10
  else
   yL rec1 dA r4 t8 t9 t10)))
 else
  some dA)
def mT : Nat → List Int → List aD → Int → Int → Option ((List Int))
 | 0 => fun _ _ _ _ => none
 | n + 1 => aCg (mT n)
def aBz (l_0 : List aD) : Option ((List Int)) :=
 mT bF [] l_0 (l_0.length : Int) 0
theorem aX2 {l_0 : List aD} {r : (List Int)} (hm : aBz l_0 = some r) : aZ Tryz.prog 203 [vl aT l_0] (vl (ci .u64) r) := by
 refine bd 30 Tryz.func203 ?_
 refine W ?_
 refine lp (fun m s => ∃ dA t8 t9 t10, s = ⟨30, (aF (aF (aF (aF fa 3 (.own 1 0 dA.length)) 8 (vl aT t8)) 9 (vi t9)) 10 (vi t10)), ⟨(upd aX 1 (.cells 1 (dA.flatMap (ci .u64)) 0)), 64⟩⟩ ∧ mT m dA t8 t9 t10 = some r) ?_ ?_
 ·
  refine ⟨_, ?_, [], l_0, (l_0.length : Int), 0, rfl, hm⟩
  refine St.Le.trans (nX 3 900003 1 Z1 Z5) ?_
  exact cn (fun j => bif j == 1 then 900003 else 0)
 rintro n1 s ⟨dA, t8, t9, t10, rfl, hm⟩
 refine W ?_
 refine cm hm (fun hm => ?_) fun hm => ?_
 ·
  refine V ?_
  refine AWp.seqJ (fun s => ∃ dA t8 t9 t10, s = ⟨30, (aF (aF (aF (aF fa 3 (.own 1 0 dA.length)) 8 (vl aT t8)) 9 (vi t9)) 10 (vi t10)), ⟨(upd aX 1 (.cells 1 (dA.flatMap (ci .u64)) 0)), 64⟩⟩ ∧ aDg (mT n1) dA t8 t9 t10 = some r) ?_ ?_
  ·
   obtain ⟨x2, h1, hm⟩ := bnd hm
   refine W ?_
   obtain ⟨⟨r4, r5⟩, h3, hm⟩ := bnd hm
   refine cq (bHr h3) ?_
   refine V ?_
   refine AWp.seqJ (fun s => ∃ dA bDk t8 t9 t10, s = ⟨30, (aF (aF (aF (aF (aF fa 3 (.own 1 0 dA.length)) 6 (vu bDk)) 8 (vl aT t8)) 9 (vi t9)) 10 (vi t10)), ⟨(upd aX 1 (.cells 1 (dA.flatMap (ci .u64)) 0)), 64⟩⟩ ∧ yL (mT n1) dA bDk t8 t9 t10 = some r) ?_ ?_
   ·
    refine W ?_
    refine cm hm (fun hm => ?_) fun hm => ?_
    ·
     refine W ?_
     exact Lr (fun j => bif j == 1 then 1 else 0)
    refine W ?_
    exact Lr (fun j => bif j == 1 then 1 else 0)
   rintro s ⟨dA, bDk, t8, t9, t10, rfl, hm⟩
   refine W ?_
   refine aL (CFi .u64) [bDk] ?_
   obtain ⟨l7, h6, hm⟩ := bnd hm
   refine W ?_
   exact Lr (fun j => bif j == 1 then 67 else 0)
  rintro s ⟨dA, t8, t9, t10, rfl, hm⟩
  refine W ?_
  exact Lr (fun j => bif j == 1 then 1 else 0)
 exact E
def oN (s_0 : aN) : Option (Bool) :=
 ((lJ s_0.R s_0.V).bind fun r2 =>
 some (r2 && ((s_0.Words.length : Int) == (IntKind.i64.wrap (s_0.R * s_0.V)))))
theorem aEz {s_0 : aN} {r : Bool} (hm : oN s_0 = some r) : aZ Tryz.prog 199 [.agg [vi s_0.R, vi s_0.V, vl (ci .u64) s_0.Words]] (vb r) := by
 refine bd 19 Tryz.func199 ?_
 obtain ⟨r2, h1, hm⟩ := bnd hm
 refine W ?_
 refine cq (aEu h1) ?_
 exact E
def hZ (l : List Int) : Option (List Int) := app [] l
theorem aCo {r : List Int} (hm : some [] = some r) : dI Tryz.prog 209 [.v (.slice none 0 0)] 1 (r.flatMap (ci .u64)) r.length := by
 refine dI.of_body Tryz.func209 rfl ((CFi .u64).fmdat r) ?_
 simp only [Tryz.ntmps209, List.length_cons, List.length_nil, Nat.reduceAdd, Nat.reduceSub, fE]
 refine sN 64 (pA ?_)
 refine fs (AWp.seq' (sN 128 (pA ?_)))
 refine pu rfl (uN Z1 Z1 (aH5 Tryz.underlying24)) ?_
 refine fs (AWp.condT Z1 ?_)
 refine sN 192 (pA ?_)
 refine fs (AWp.weaken (nX 2 900002 1 Z1 Z5) ?_)
 refine AWp.ret (jJ ?_)
 cases hm
 exact aHc (.inr rfl) Tryz.results209 Z1 Z3 Z6
theorem aDh {a : Addr} {c : Nat} {r : List Int} (hm : ((app [] []).bind fun l2 =>
some l2) = some r) : dI Tryz.prog 209 [.v (.slice (some a) 0 c)] 1 (r.flatMap (ci .u64)) r.length := by
 refine dI.of_body Tryz.func209 rfl ((CFi .u64).fmdat r) ?_
 simp only [Tryz.ntmps209, List.length_cons, List.length_nil, Nat.reduceAdd, Nat.reduceSub, fE]
 refine sN 64 (pA ?_)
 refine fs (AWp.seq' (sN 128 (pA ?_)))
 refine pu rfl (uN Z1 Z1 (aE5 Tryz.underlying24)) ?_
 refine fs (AWp.condF Z1 ?_)
 refine AWp.skip (bX (sN 192 (hp (id := 128) rfl rfl (lT (CFi .u64) (l := []) Tryz.underlying24 aHh bG2 Z5 Zd Zd Zd (by simp only [go_sem, Nat.reduceBEq]; try rfl) (by kernel_rfl)) ?_)))
 refine pA ?_
 obtain ⟨l2, h1, hm⟩ := bnd hm
 refine hp (id := 130) rfl rfl (aFw (CFi .u64) Tryz.underlying24 Tryz.underlying24 rfl bN5 bNe (by rw [bAf]; decide) (by rw [bAf]; decide) bN0 Zd Zd Z1 Z3 Z6 (aL4 Z1) rfl Z5 h1) ?_
 refine pA ?_
 refine fs (AWp.ret ?_)
 cases hm
 exact aHc (.inr rfl) Tryz.results209 Z1 Z3 Z6
theorem aCx {x0 : Int} {l0 : List Int} {r : List Int} (hm : ((app [] (x0 :: l0)).bind fun l2 =>
some l2) = some r) : dI Tryz.prog 209 [.sl ((x0 :: l0).flatMap (ci .u64)) (x0 :: l0).length false] 1 (r.flatMap (ci .u64)) r.length := by
 refine dI.of_body Tryz.func209 rfl ((CFi .u64).fmdat r) ?_
 simp only [Tryz.ntmps209, List.length_cons, List.length_nil, Nat.reduceAdd, Nat.reduceSub, fE]
 refine sN 64 (pA ?_)
 refine fs (AWp.seq' (sN 128 (pA ?_)))
 refine pu rfl (uN Z1 Z1 (aE2 Tryz.underlying24 (by simp))) ?_
 refine fs (AWp.condF Z1 ?_)
 refine AWp.skip (bX (sN 192 (hp (id := 128) rfl rfl (lT (CFi .u64) (l := []) Tryz.underlying24 aHh bG2 Z5 Zd Zd Zd (by simp only [go_sem, Nat.reduceBEq]; try rfl) (by kernel_rfl)) ?_)))
 refine pA ?_
 obtain ⟨l2, h1, hm⟩ := bnd hm
 refine hp (id := 130) rfl rfl (aFw (CFi .u64) Tryz.underlying24 Tryz.underlying24 rfl bN5 bNe (by rw [bAf]; decide) (by rw [bAf]; decide) bN0 Zd Zd Z1 Z3 Z6 (aQ5 (CFi .u64) Z1 rfl) rfl Z5 h1) ?_
 refine pA ?_
 refine fs (AWp.ret ?_)
 cases hm
 exact aHc (.inr rfl) Tryz.results209 Z1 Z3 Z6
theorem aEq {l r : List Int} (hm : hZ l = some r) : dI Tryz.prog 209 [.sl (l.flatMap (ci .u64)) l.length false] 1 (r.flatMap (ci .u64)) r.length := by
 cases l with
 | nil =>
  have hr : r = [] := by unfold hZ app at hm; simpa using hm.symm
  subst hr
  exact dI.nil_arg (aCo (r := []) rfl) (fun a c => aDh (r := []) rfl)
 | cons x0 l0 =>
  refine aCx ?_
  show (app [] (x0 :: l0)).bind _ = _
  unfold hZ at hm
  rw [hm]; rfl
def vI (h_0 : bT) (aAe : Int) : Option (Int) :=
 ((aGi h_0.A aAe).bind fun r2 =>
 ((aNd r2 h_0.B).bind fun r4 =>
 some r4))
theorem aR2 {h_0 : bT} {aAe : Int} {r : Int} (hm : vI h_0 aAe = some r) : aZ Tryz.prog 212 [.agg [vu h_0.A, vu h_0.B], vu aAe] (vu r) := by
 refine bd 12 Tryz.func212 ?_
 obtain ⟨r2, h1, hm⟩ := bnd hm
 refine W ?_
 refine cq (bHc h1) ?_
 obtain ⟨r4, h3, hm⟩ := bnd hm
 refine W ?_
 refine cq (bHq h3) ?_
 exact E
def vV (aBy : Int) : Option (Int) :=
 (bif ((decide (aBy < 0)) || (decide (61 ≤ aBy))) then
  some 0
 else
  ((chk (decide (0 ≤ aBy))).bind fun _ =>
  some (shr .u64 2305843009213693951 aBy)))
theorem aS9 {aBy : Int} {r : Int} (hm : vV aBy = some r) : aZ Tryz.prog 213 [vi aBy] (vu r) := by
 refine bd 11 Tryz.func213 ?_
 refine W ?_
 refine cm hm (fun hm => ?_) fun hm => ?_
 · exact E
 obtain ⟨_, h1, hm⟩ := bnd hm
 exact E
def aBk (rec1 : Int → Int → Int → Option (Int)) (jH : Int) (aE7 : Int) (aAs : Int) : Option (Int) :=
 ((fC ((decide (aAs < (if 61 < jH then 61 else jH))) == true) 0 (vV aAs)).bind fun r4 =>
 (bif ((decide (aAs < (if 61 < jH then 61 else jH))) && (decide (aE7 < r4))) then
  rec1 jH aE7 (IntKind.i64.wrap (aAs + 1))
 else
  some aAs))
def kR : Nat → Int → Int → Int → Option (Int)
 | 0 => fun _ _ _ => none
 | n + 1 => aBk (kR n)
def yH (h_0 : bT) (aAe : Int) (jH : Int) : Option (Int) :=
 ((vI h_0 aAe).bind fun r2 =>
 kR bF jH r2 0)
theorem aUr {h_0 : bT} {aAe : Int} {jH : Int} {r : Int} (hm : yH h_0 aAe jH = some r) : aZ Tryz.prog 210 [.agg [vu h_0.A, vu h_0.B], vu aAe, vi jH] (vi r) := by
 refine bd 25 Tryz.func210 ?_
 obtain ⟨r2, h1, hm⟩ := bnd hm
 refine W ?_
 refine cq (aR2 h1) ?_
 refine W ?_
 refine lp (fun m s => ∃ jH aE7 aAs, s = ⟨25, (aF (aF (aF fa 2 (vi jH)) 7 (vu aE7)) 8 (vi aAs)), ⟨aX, 64⟩⟩ ∧ kR m jH aE7 aAs = some r) L ?_
 rintro n1 s ⟨jH, aE7, aAs, rfl, hm⟩
 obtain ⟨r4, h3, hm⟩ := bnd hm
 refine W ?_
 refine cg (fun hb => aS9 (cM h3 hb)) ?_
 refine W ?_
 refine cm hm (fun hm => ?_) fun hm => ?_
 · exact L
 exact E
def uX (rec1 : Int → aN → aN → List Int → List bT → Int → Int → Option (aN × Int)) (rec2 : Int → aN → aN → List Int → Int → List bT → Int → Int → Int → Int → Option (aN × Int)) (jW : Int) (s_3 : aN) (t6 : aN) (gG : List Int) (aJx : Int) (t26 : List bT) (t27 : Int) (t28 : Int) (t37 : Int) (t38 : Int) : Option (aN × Int) :=
 (bif (decide (t38 < t37)) then
  ((idx gG (IntKind.i64.wrap ((IntKind.i64.wrap (aJx * s_3.V)) + t38))).bind fun x10 =>
  ((idx gG (IntKind.i64.wrap ((IntKind.i64.wrap (aJx * s_3.V)) + t38))).bind fun x12 =>
  ((stt gG (IntKind.i64.wrap ((IntKind.i64.wrap (aJx * s_3.V)) + t38)) (bTk .u64 x10 jW)).bind fun l14 =>
  rec2 jW s_3 t6 l14 aJx t26 t27 t28 t37 (IntKind.i64.wrap (t38 + 1)))))
 else
  rec1 jW s_3 t6 gG t26 t27 (IntKind.i64.wrap (t28 + 1)))
def kV (rec1 : Int → aN → aN → List Int → List bT → Int → Int → Option (aN × Int)) : Nat → Int → aN → aN → List Int → Int → List bT → Int → Int → Int → Int → Option (aN × Int)
 | 0 => fun _ _ _ _ _ _ _ _ _ _ => none
 | n + 1 => uX rec1 (kV rec1 n)
def uY (rec1 : Int → aN → aN → List Int → List bT → Int → Int → Option (aN × Int)) (jW : Int) (s_3 : aN) (t6 : aN) (gG : List Int) (t26 : List bT) (t27 : Int) (t28 : Int) : Option (aN × Int) :=
 (bif (decide (t28 < t27)) then
  ((idx t26 t28).bind fun x6 =>
  ((yH x6 jW s_3.V).bind fun r8 =>
  kV rec1 bF jW s_3 t6 gG t28 t26 t27 t28 r8 0))
 else
  some ((aN.mk s_3.R s_3.V gG), 0))
def gZ : Nat → Int → aN → aN → List Int → List bT → Int → Int → Option (aN × Int)
 | 0 => fun _ _ _ _ _ _ _ => none
 | n + 1 => uY (gZ n)
def qM (s_0 : aN) (l_1 : List bT) (jW : Int) : Option (aN × Int) :=
 ((oN s_0).bind fun r2 =>
 (bif ((!r2) || ((l_1.length : Int) != s_0.R)) then
  some (s_0, 1)
 else
  ((hZ s_0.Words).bind fun r4 =>
  gZ bF jW s_0 (aN.mk 0 0 []) r4 l_1 (l_1.length : Int) 0)))
theorem aNh {s_0 : aN} {l_1 : List bT} {jW : Int} {r : aN × Int} (hm : qM s_0 l_1 jW = some r) : aZ Tryz.prog 204 [.agg [vi s_0.R, vi s_0.V, vl (ci .u64) s_0.Words], vl bI l_1, vu jW] (.tup [.agg [vi r.1.R, vi r.1.V, vl (ci .u64) r.1.Words], vi r.2]) := by
 refine bd 61 Tryz.func204 ?_
 obtain ⟨r2, h1, hm⟩ := bnd hm
 refine W ?_
 refine cq (aEz h1) ?_
 refine W ?_
 refine cm hm (fun hm => ?_) fun hm => ?_
 · exact E
 obtain ⟨r4, h3, hm⟩ := bnd hm
 refine W ?_
 refine aU.callF (id := 130) Zd Z1 bTi (fun H => (cD ((CFi .u64).sl _ _ _) .nil)) (CFi .u64) Z5 (aEq h3) ?_
 refine W ?_
 refine lp (fun m s => ∃ jW s_3 t6 gG t26 t27 t28, s = ⟨61, (aF (aF (aF (aF (aF (aF (aF fa 2 (vu jW)) 3 (.adr 1 0)) 6 (.adr 2 0)) 8 (.own 3 0 gG.length)) 26 (vl bI t26)) 27 (vi t27)) 28 (vi t28)), ⟨(upd (upd (upd aX 1 (.cells 1 [vi s_3.R, vi s_3.V, vl (ci .u64) s_3.Words] 0)) 2 (.cells 1 [vi t6.R, vi t6.V, vl (ci .u64) t6.Words] 0)) 3 (.cells 1 (gG.flatMap (ci .u64)) 0)), 64⟩⟩ ∧ gZ m jW s_3 t6 gG t26 t27 t28 = some r) ?_ ?_
 ·
  refine ⟨_, ?_, jW, s_0, (aN.mk 0 0 []), r4, l_1, (l_1.length : Int), 0, rfl, hm⟩
  refine St.Le.trans (iJ 1 (ys := [.v (.int .i64 ((aN.mk 0 0 []).R)), .v (.int .i64 ((aN.mk 0 0 []).V)), .sl (((aN.mk 0 0 []).Words).flatMap (ci .u64)) ((aN.mk 0 0 []).Words).length false]) Z3 (.cons (.data _ (.v _)) (.cons (.data _ (.v _)) (.cons (.nil false) .nil)))) ?_
  exact cn (fun j => bif j == 1 then 0 else bif j == 2 then 1 else bif j == 3 then 130 else 0)
 rintro n1 s ⟨jW, s_3, t6, gG, t26, t27, t28, rfl, hm⟩
 refine W ?_
 refine cm hm (fun hm => ?_) fun hm => ?_
 ·
  obtain ⟨x6, h5, hm⟩ := bnd hm
  obtain ⟨r8, h7, hm⟩ := bnd hm
  refine W ?_
  refine cq (aUr h7) ?_
  refine W ?_
  refine lp (fun m s => ∃ jW s_3 t6 gG aJx t26 t27 t28 t37 t38, s = ⟨61, (aF (aF (aF (aF (aF (aF (aF (aF (aF (aF fa 2 (vu jW)) 3 (.adr 1 0)) 6 (.adr 2 0)) 8 (.own 3 0 gG.length)) 9 (vi aJx)) 26 (vl bI t26)) 27 (vi t27)) 28 (vi t28)) 37 (vi t37)) 38 (vi t38)), ⟨(upd (upd (upd aX 1 (.cells 1 [vi s_3.R, vi s_3.V, vl (ci .u64) s_3.Words] 0)) 2 (.cells 1 [vi t6.R, vi t6.V, vl (ci .u64) t6.Words] 0)) 3 (.cells 1 (gG.flatMap (ci .u64)) 0)), 64⟩⟩ ∧ kV (gZ n1) m jW s_3 t6 gG aJx t26 t27 t28 t37 t38 = some r) (Lr (fun j => bif j == 1 then 1 else bif j == 2 then 2 else bif j == 3 then 3 else 0)) ?_
  rintro n2 s ⟨jW, s_3, t6, gG, aJx, t26, t27, t28, t37, t38, rfl, hm⟩
  refine W ?_
  refine cm hm (fun hm => ?_) fun hm => ?_
  ·
   obtain ⟨x10, h9, hm⟩ := bnd hm
   have hm := sb hm h9
   obtain ⟨l14, h13, hm⟩ := bnd hm
   refine W ?_
   have qh13 := jU h13
   refine aS h13 ?_
   refine W ?_
   exact Lr (fun j => bif j == 1 then 1 else bif j == 2 then 2 else bif j == 3 then 3 else 0)
  refine W ?_
  exact Lr (fun j => bif j == 1 then 1 else bif j == 2 then 2 else bif j == 3 then 3 else 0)
 iterate 5 refine S1 ?_
 refine AWp.seq' ?_
 refine AWp.weaken (aEe (CFi .u64) 8 3 Z1 Z3 Z6) ?_
 refine W ?_
 refine pu rfl (by simp only [go_sem, Nat.reduceBEq]; exact (by kernel_rfl : cN Tryz.prog 243 [(0, .v (.int .i64 s_3.R)), (1, .v (.int .i64 s_3.V)), (2, .sl (gG.flatMap (ci .u64)) gG.length false)] = some (.agg [.v (.int .i64 s_3.R), .v (.int .i64 s_3.V), .sl (gG.flatMap (ci .u64)) gG.length false]))) ?_
 exact E
def xX (rec1 : aN → aN → List bT → List Int → Int → Int → Option (aN)) (t6 : aN) (s_7 : aN) (bAd : List bT) (t27 : List Int) (t28 : Int) (t29 : Int) : Option (aN) :=
 (bif (decide (t29 < t28)) then
  ((idx t27 t29).bind fun x11 =>
  ((qM s_7 bAd x11).bind fun ⟨r13, r14⟩ =>
  rec1 t6 r13 bAd t27 t28 (IntKind.i64.wrap (t29 + 1))))
 else
  some s_7)
def mI : Nat → aN → aN → List bT → List Int → Int → Int → Option (aN)
 | 0 => fun _ _ _ _ _ _ => none
 | n + 1 => xX (mI n)
def sY (g_0 : aG) (cG : Int) (aZ3 : List aD) : Option (aN) :=
 ((tG g_0.Config.N).bind fun r2 =>
 ((aCm g_0.Config.R r2).bind fun ⟨r4, r5⟩ =>
 ((oX g_0 cG).bind fun r7 =>
 ((aBz aZ3).bind fun r9 =>
 mI bF (aN.mk 0 0 []) r4 r7 r9 (r9.length : Int) 0))))
theorem aOl {g_0 : aG} {cG : Int} {aZ3 : List aD} {r : aN} (hm : sY g_0 cG aZ3 = some r) : aZ Tryz.prog 188 [.agg [vi g_0.Config.N, vi g_0.Config.L, vi g_0.Config.R, vl bI g_0.Hashes, vl aT g_0.Edges], vi cG, vl aT aZ3] (.agg [vi r.R, vi r.V, vl (ci .u64) r.Words]) := by
 refine bd 42 Tryz.func188 ?_
 obtain ⟨r2, h1, hm⟩ := bnd hm
 refine W ?_
 refine cq (aOg h1) ?_
 obtain ⟨⟨r4, r5⟩, h3, hm⟩ := bnd hm
 refine cq (aTs h3) ?_
 obtain ⟨r7, h6, hm⟩ := bnd hm
 refine W ?_
 refine cq (aKt h6) ?_
 obtain ⟨r9, h8, hm⟩ := bnd hm
 refine W ?_
 refine cq (aX2 h8) ?_
 refine W ?_
 refine lp (fun m s => ∃ t6 s_7 bAd t27 t28 t29, s = ⟨42, (aF (aF (aF (aF (aF (aF fa 6 (.adr 1 0)) 7 (.adr 2 0)) 9 (vl bI bAd)) 27 (vl (ci .u64) t27)) 28 (vi t28)) 29 (vi t29)), ⟨(upd (upd aX 1 (.cells 1 [vi t6.R, vi t6.V, vl (ci .u64) t6.Words] 0)) 2 (.cells 1 [vi s_7.R, vi s_7.V, vl (ci .u64) s_7.Words] 0)), 64⟩⟩ ∧ mI m t6 s_7 bAd t27 t28 t29 = some r) ?_ ?_
 ·
  refine ⟨_, ?_, (aN.mk 0 0 []), r4, r7, r9, (r9.length : Int), 0, rfl, hm⟩
  refine St.Le.trans (iJ 1 (ys := [.v (.int .i64 ((aN.mk 0 0 []).R)), .v (.int .i64 ((aN.mk 0 0 []).V)), .sl (((aN.mk 0 0 []).Words).flatMap (ci .u64)) ((aN.mk 0 0 []).Words).length false]) Z3 (.cons (.data _ (.v _)) (.cons (.data _ (.v _)) (.cons (.nil false) .nil)))) ?_
  exact cn (fun j => bif j == 1 then 1 else bif j == 2 then 75 else 0)
 rintro n1 s ⟨t6, s_7, bAd, t27, t28, t29, rfl, hm⟩
 refine W ?_
 refine cm hm (fun hm => ?_) fun hm => ?_
 ·
  obtain ⟨x11, h10, hm⟩ := bnd hm
  refine W ?_
  obtain ⟨⟨r13, r14⟩, h12, hm⟩ := bnd hm
  refine cq (aNh h12) ?_
  refine W ?_
  exact Lr (fun j => bif j == 1 then 1 else bif j == 2 then 2 else 0)
 exact E
def xL (aFt : Int) : Option (Int × Int × Bool) :=
 (bif (decide ((Int.tmod aFt 16777216) ≤ (IntKind.u64.wrap (Int.tdiv aFt 16777216)))) then
  some (0, 0, false)
 else
  some ((IntKind.i64.wrap (IntKind.u64.wrap (Int.tdiv aFt 16777216))), (IntKind.i64.wrap (Int.tmod aFt 16777216)), true))
theorem aNk {aFt : Int} {r : Int × Int × Bool} (hm : xL aFt = some r) : aZ Tryz.prog 189 [vu aFt] (.tup [vi r.1, vi r.2.1, vb r.2.2]) := by
 refine bd 18 Tryz.func189 ?_
 refine W ?_
 refine cm hm (fun hm => ?_) fun hm => ?_
 · exact E
 exact E
def qV (rec1 : List Int → List Int → Int → Int → Option ((List Int))) (dA : List Int) (t13 : List Int) (t14 : Int) (t15 : Int) : Option ((List Int)) :=
 rec1 dA t13 t14 (IntKind.i64.wrap (t15 + 1))
def wU (rec1 : List Int → List Int → Int → Int → Option ((List Int))) (dA : List Int) (t13 : List Int) (t14 : Int) (t15 : Int) : Option ((List Int)) :=
 (bif (decide (t15 < t14)) then
  ((idx t13 t15).bind fun x4 =>
  ((xL x4).bind fun ⟨r6, r7, r8⟩ =>
  (bif r8 then
   ((app dA [x4]).bind fun l10 =>
   qV rec1 l10 t13 t14 t15)
  else
   qV rec1 dA t13 t14 t15)))
 else
  some dA)
def kA : Nat → List Int → List Int → Int → Int → Option ((List Int))
 | 0 => fun _ _ _ _ => none
 | n + 1 => wU (kA n)
def sV (s_0 : aN) : Option ((List Int)) :=
 ((oN s_0).bind fun r2 =>
 (bif (!r2) then
  some []
 else
  kA bF [] s_0.Words (s_0.Words.length : Int) 0))
theorem aOr {s_0 : aN} {r : (List Int)} (hm : sV s_0 = some r) : aZ Tryz.prog 187 [.agg [vi s_0.R, vi s_0.V, vl (ci .u64) s_0.Words]] (vl (ci .u64) r) := by
 refine bd 32 Tryz.func187 ?_
 obtain ⟨r2, h1, hm⟩ := bnd hm
 refine W ?_
 refine cq (aEz h1) ?_
 refine W ?_
 refine cm hm (fun hm => ?_) fun hm => ?_
 · exact E
 refine W ?_
 refine lp (fun m s => ∃ dA t13 t14 t15, s = ⟨32, (aF (aF (aF (aF fa 3 (.own 1 0 dA.length)) 13 (vl (ci .u64) t13)) 14 (vi t14)) 15 (vi t15)), ⟨(upd aX 1 (.cells 1 (dA.flatMap (ci .u64)) 0)), 64⟩⟩ ∧ kA m dA t13 t14 t15 = some r) ?_ ?_
 ·
  refine ⟨_, ?_, [], s_0.Words, (s_0.Words.length : Int), 0, rfl, hm⟩
  refine St.Le.trans (nX 3 900003 1 Z1 Z5) ?_
  exact cn (fun j => bif j == 1 then 900003 else 0)
 rintro n1 s ⟨dA, t13, t14, t15, rfl, hm⟩
 refine W ?_
 refine cm hm (fun hm => ?_) fun hm => ?_
 ·
  refine V ?_
  refine AWp.seqJ (fun s => ∃ dA t13 t14 t15, s = ⟨32, (aF (aF (aF (aF fa 3 (.own 1 0 dA.length)) 13 (vl (ci .u64) t13)) 14 (vi t14)) 15 (vi t15)), ⟨(upd aX 1 (.cells 1 (dA.flatMap (ci .u64)) 0)), 64⟩⟩ ∧ qV (kA n1) dA t13 t14 t15 = some r) ?_ ?_
  ·
   obtain ⟨x4, h3, hm⟩ := bnd hm
   refine W ?_
   obtain ⟨⟨r6, r7, r8⟩, h5, hm⟩ := bnd hm
   refine cq (aNk h5) ?_
   refine W ?_
   refine cm hm (fun hm => ?_) fun hm => ?_
   ·
    refine W ?_
    refine aL (CFi .u64) [x4] ?_
    obtain ⟨l10, h9, hm⟩ := bnd hm
    refine W ?_
    exact Lr (fun j => bif j == 1 then 323 else 0)
   refine W ?_
   exact Lr (fun j => bif j == 1 then 1 else 0)
  rintro s ⟨dA, t13, t14, t15, rfl, hm⟩
  refine W ?_
  exact Lr (fun j => bif j == 1 then 1 else 0)
 exact E
def oU (rec1 : aD → List aD → List Int → Int → Int → Option (aD × Bool)) (t6 : aD) (yN : List aD) (t30 : List Int) (t31 : Int) (t32 : Int) : Option (aD × Bool) :=
 rec1 t6 yN t30 t31 (IntKind.i64.wrap (t32 + 1))
def uS (rec1 : aD → List aD → List Int → Int → Int → Option (aD × Bool)) (t6 : aD) (yN : List aD) (t30 : List Int) (t31 : Int) (t32 : Int) : Option (aD × Bool) :=
 (bif (decide (t32 < t31)) then
  ((idx t30 t32).bind fun x10 =>
  ((xL x10).bind fun ⟨r12, r13, r14⟩ =>
  (bif (!r14) then
   oU rec1 t6 yN t30 t31 t32
  else
   ((mQ yN r12 r13).bind fun ⟨r16, r17⟩ =>
   (bif r17 then
    ((idx yN r16).bind fun x19 =>
    some (x19, true))
   else
    oU rec1 t6 yN t30 t31 t32)))))
 else
  some ((aD.mk 0 0 0), false))
def iR : Nat → aD → List aD → List Int → Int → Int → Option (aD × Bool)
 | 0 => fun _ _ _ _ _ => none
 | n + 1 => uS (iR n)
def qX (g_0 : aG) (cG : Int) (v_2 : Int) : Option (aD × Bool) :=
 ((lO g_0 cG v_2).bind fun r2 =>
 (bif (!r2) then
  some ((aD.mk 0 0 0), false)
 else
  ((tC g_0 cG v_2).bind fun r4 =>
  ((sY g_0 cG r4).bind fun r6 =>
  ((sV r6).bind fun r8 =>
  iR bF (aD.mk 0 0 0) r4 r8 (r8.length : Int) 0)))))
theorem aMy {g_0 : aG} {cG : Int} {v_2 : Int} {r : aD × Bool} (hm : qX g_0 cG v_2 = some r) : aZ Tryz.prog 169 [.agg [vi g_0.Config.N, vi g_0.Config.L, vi g_0.Config.R, vl bI g_0.Hashes, vl aT g_0.Edges], vi cG, vi v_2] (.tup [.agg [vi r.1.U, vi r.1.V, vi r.1.Tier], vb r.2]) := by
 refine bd 58 Tryz.func169 ?_
 obtain ⟨r2, h1, hm⟩ := bnd hm
 refine W ?_
 refine cq (aHn h1) ?_
 refine W ?_
 refine cm hm (fun hm => ?_) fun hm => ?_
 ·
  refine W ?_
  refine pu rfl (by simp only [go_sem, Nat.reduceBEq]; exact (by kernel_rfl : cN Tryz.prog 102 [] = some (.agg [.v (.int .i64 0), .v (.int .i64 0), .v (.int .i64 0)]))) ?_
  exact E
 obtain ⟨r4, h3, hm⟩ := bnd hm
 refine W ?_
 refine cq (aOf h3) ?_
 obtain ⟨r6, h5, hm⟩ := bnd hm
 refine W ?_
 refine cq (aOl h5) ?_
 obtain ⟨r8, h7, hm⟩ := bnd hm
 refine cq (aOr h7) ?_
 refine W ?_
 refine lp (fun m s => ∃ t6 yN t30 t31 t32, s = ⟨58, (aF (aF (aF (aF (aF fa 6 (.adr 1 0)) 8 (vl aT yN)) 30 (vl (ci .u64) t30)) 31 (vi t31)) 32 (vi t32)), ⟨(upd aX 1 (.cells 1 [vi t6.U, vi t6.V, vi t6.Tier] 0)), 64⟩⟩ ∧ iR m t6 yN t30 t31 t32 = some r) (Lr (fun j => bif j == 1 then 1 else 0)) ?_
 rintro n1 s ⟨t6, yN, t30, t31, t32, rfl, hm⟩
 refine W ?_
 refine cm hm (fun hm => ?_) fun hm => ?_
 ·
  refine V ?_
  refine AWp.seqJ (fun s => ∃ t6 yN t30 t31 t32, s = ⟨58, (aF (aF (aF (aF (aF fa 6 (.adr 1 0)) 8 (vl aT yN)) 30 (vl (ci .u64) t30)) 31 (vi t31)) 32 (vi t32)), ⟨(upd aX 1 (.cells 1 [vi t6.U, vi t6.V, vi t6.Tier] 0)), 64⟩⟩ ∧ oU (iR n1) t6 yN t30 t31 t32 = some r) ?_ ?_
  ·
   obtain ⟨x10, h9, hm⟩ := bnd hm
   refine W ?_
   obtain ⟨⟨r12, r13, r14⟩, h11, hm⟩ := bnd hm
   refine cq (aNk h11) ?_
   refine W ?_
   refine cm hm (fun hm => ?_) fun hm => ?_
   ·
    refine W ?_
    exact Lr (fun j => bif j == 1 then 1 else 0)
   refine W ?_
   obtain ⟨⟨r16, r17⟩, h15, hm⟩ := bnd hm
   refine cq (wI h15) ?_
   refine W ?_
   refine cm hm (fun hm => ?_) fun hm => ?_
   ·
    obtain ⟨x19, h18, hm⟩ := bnd hm
    exact E
   refine W ?_
   exact Lr (fun j => bif j == 1 then 1 else 0)
  rintro s ⟨t6, yN, t30, t31, t32, rfl, hm⟩
  refine W ?_
  exact Lr (fun j => bif j == 1 then 1 else 0)
 refine W ?_
 refine pu rfl (by simp only [go_sem, Nat.reduceBEq]; exact (by kernel_rfl : cN Tryz.prog 102 [] = some (.agg [.v (.int .i64 0), .v (.int .i64 0), .v (.int .i64 0)]))) ?_
 exact E
def nE (rec1 : aD → aD → List aD → Int → Int → Option (aD × Bool)) (t2 : aD) (dM : aD) (t15 : List aD) (t16 : Int) (t17 : Int) : Option (aD × Bool) :=
 rec1 t2 dM t15 t16 (IntKind.i64.wrap (t17 + 1))
def sO (rec1 : aD → aD → List aD → Int → Int → Option (aD × Bool)) (t2 : aD) (dM : aD) (t15 : List aD) (t16 : Int) (t17 : Int) : Option (aD × Bool) :=
 (bif (decide (t17 < t16)) then
  ((idx t15 t17).bind fun x6 =>
  ((fC (((decide (dM.Tier < x6.Tier)) == false) && ((x6.Tier == dM.Tier) == true)) false (sC dM x6)).bind fun r8 =>
  (bif ((decide (dM.Tier < x6.Tier)) || ((x6.Tier == dM.Tier) && r8)) then
   nE rec1 t2 x6 t15 t16 t17
  else
   nE rec1 t2 dM t15 t16 t17)))
 else
  some (dM, true))
def iG : Nat → aD → aD → List aD → Int → Int → Option (aD × Bool)
 | 0 => fun _ _ _ _ _ => none
 | n + 1 => sO (iG n)
def kZ (l_0 : List aD) : Option (aD × Bool) :=
 (bif ((l_0.length : Int) == 0) then
  some ((aD.mk 0 0 0), false)
 else
  ((idx l_0 0).bind fun x2 =>
  ((slc l_0 1 (l_0.length : Int)).bind fun l4 =>
  iG bF (aD.mk 0 0 0) x2 l4 (l4.length : Int) 0)))
theorem aKn {l_0 : List aD} {r : aD × Bool} (hm : kZ l_0 = some r) : aZ Tryz.prog 171 [vl aT l_0] (.tup [.agg [vi r.1.U, vi r.1.V, vi r.1.Tier], vb r.2]) := by
 refine bd 41 Tryz.func171 ?_
 refine W ?_
 refine cm hm (fun hm => ?_) fun hm => ?_
 ·
  refine W ?_
  refine pu rfl (by simp only [go_sem, Nat.reduceBEq]; exact (by kernel_rfl : cN Tryz.prog 102 [] = some (.agg [.v (.int .i64 0), .v (.int .i64 0), .v (.int .i64 0)]))) ?_
  exact E
 obtain ⟨x2, h1, hm⟩ := bnd hm
 obtain ⟨l4, h3, hm⟩ := bnd hm
 refine W ?_
 refine lp (fun m s => ∃ t2 dM t15 t16 t17, s = ⟨41, (aF (aF (aF (aF (aF fa 2 (.adr 1 0)) 4 (.adr 2 0)) 15 (vl aT t15)) 16 (vi t16)) 17 (vi t17)), ⟨(upd (upd aX 1 (.cells 1 [vi t2.U, vi t2.V, vi t2.Tier] 0)) 2 (.cells 1 [vi dM.U, vi dM.V, vi dM.Tier] 0)), 64⟩⟩ ∧ iG m t2 dM t15 t16 t17 = some r) ?_ ?_
 ·
  refine ⟨_, ?_, (aD.mk 0 0 0), x2, l4, (l4.length : Int), 0, rfl, hm⟩
  refine St.Le.trans (aRc 15 (.sl (l4.flatMap aT) l4.length false) (fun H => (tdf Z1 (bY.sl _ _ _)))) ?_
  exact cn (fun j => bif j == 1 then 0 else bif j == 2 then 131 else 0)
 rintro n1 s ⟨t2, dM, t15, t16, t17, rfl, hm⟩
 refine W ?_
 refine cm hm (fun hm => ?_) fun hm => ?_
 ·
  refine V ?_
  refine AWp.seqJ (fun s => ∃ t2 dM t15 t16 t17, s = ⟨41, (aF (aF (aF (aF (aF fa 2 (.adr 1 0)) 4 (.adr 2 0)) 15 (vl aT t15)) 16 (vi t16)) 17 (vi t17)), ⟨(upd (upd aX 1 (.cells 1 [vi t2.U, vi t2.V, vi t2.Tier] 0)) 2 (.cells 1 [vi dM.U, vi dM.V, vi dM.Tier] 0)), 64⟩⟩ ∧ nE (iG n1) t2 dM t15 t16 t17 = some r) ?_ ?_
  ·
   obtain ⟨x6, h5, hm⟩ := bnd hm
   obtain ⟨r8, h7, hm⟩ := bnd hm
   refine W ?_
   refine cg (fun hb => aFq (cM h7 hb)) ?_
   refine W ?_
   refine cm hm (fun hm => ?_) fun hm => ?_
   ·
    refine W ?_
    exact Lr (fun j => bif j == 1 then 1 else bif j == 2 then 2 else 0)
   refine W ?_
   exact Lr (fun j => bif j == 1 then 1 else bif j == 2 then 2 else 0)
  rintro s ⟨t2, dM, t15, t16, t17, rfl, hm⟩
  refine W ?_
  exact Lr (fun j => bif j == 1 then 1 else bif j == 2 then 2 else 0)
 exact E
def iW (l : List aD) : Option (List aD) := app [] l
theorem aFc {r : List aD} (hm : some [] = some r) : dI Tryz.prog 193 [.v (.slice none 0 0)] 3 (r.flatMap aT) r.length := by
 refine dI.of_body Tryz.func193 rfl (bY.fmdat r) ?_
 simp only [Tryz.ntmps193, List.length_cons, List.length_nil, Nat.reduceAdd, Nat.reduceSub, fE]
 refine sN 64 (pA ?_)
 refine fs (AWp.seq' (sN 128 (pA ?_)))
 refine pu rfl (uN Z1 Z1 (aH5 Tryz.underlying28)) ?_
 refine fs (AWp.condT Z1 ?_)
 refine sN 192 (pA ?_)
 refine fs (AWp.weaken (nX 2 900002 3 Z1 Z5) ?_)
 refine AWp.ret (jJ ?_)
 cases hm
 exact aHc (.inr rfl) Tryz.results193 Z1 Z3 Z6
theorem aFv {a : Addr} {c : Nat} {r : List aD} (hm : ((app [] []).bind fun l2 =>
some l2) = some r) : dI Tryz.prog 193 [.v (.slice (some a) 0 c)] 3 (r.flatMap aT) r.length := by
 refine dI.of_body Tryz.func193 rfl (bY.fmdat r) ?_
 simp only [Tryz.ntmps193, List.length_cons, List.length_nil, Nat.reduceAdd, Nat.reduceSub, fE]
 refine sN 64 (pA ?_)
 refine fs (AWp.seq' (sN 128 (pA ?_)))
 refine pu rfl (uN Z1 Z1 (aE5 Tryz.underlying28)) ?_
 refine fs (AWp.condF Z1 ?_)
 refine AWp.skip (bX (sN 192 (hp (id := 128) rfl rfl (lT bY (l := []) Tryz.underlying28 aDv aPa Z5 Zd Zd Zd (by simp only [go_sem, Nat.reduceBEq]; try rfl) (by kernel_rfl)) ?_)))
 refine pA ?_
 obtain ⟨l2, h1, hm⟩ := bnd hm
 refine hp (id := 130) rfl rfl (aFw bY Tryz.underlying28 Tryz.underlying28 rfl bA3 aZp (by rw [aK7]; decide) (by rw [aK7]; decide) aZl Zd Zd Z1 Z3 Z6 (aL4 Z1) rfl Z5 h1) ?_
 refine pA ?_
 refine fs (AWp.ret ?_)
 cases hm
 exact aHc (.inr rfl) Tryz.results193 Z1 Z3 Z6
theorem aFz {x0 : aD} {l0 : List aD} {r : List aD} (hm : ((app [] (x0 :: l0)).bind fun l2 =>
some l2) = some r) : dI Tryz.prog 193 [.sl ((x0 :: l0).flatMap aT) (x0 :: l0).length false] 3 (r.flatMap aT) r.length := by
 refine dI.of_body Tryz.func193 rfl (bY.fmdat r) ?_
 simp only [Tryz.ntmps193, List.length_cons, List.length_nil, Nat.reduceAdd, Nat.reduceSub, fE]
 refine sN 64 (pA ?_)
 refine fs (AWp.seq' (sN 128 (pA ?_)))
 refine pu rfl (uN Z1 Z1 (aE2 Tryz.underlying28 (by simp))) ?_
 refine fs (AWp.condF Z1 ?_)
 refine AWp.skip (bX (sN 192 (hp (id := 128) rfl rfl (lT bY (l := []) Tryz.underlying28 aDv aPa Z5 Zd Zd Zd (by simp only [go_sem, Nat.reduceBEq]; try rfl) (by kernel_rfl)) ?_)))
 refine pA ?_
 obtain ⟨l2, h1, hm⟩ := bnd hm
 refine hp (id := 130) rfl rfl (aFw bY Tryz.underlying28 Tryz.underlying28 rfl bA3 aZp (by rw [aK7]; decide) (by rw [aK7]; decide) aZl Zd Zd Z1 Z3 Z6 (aQ5 bY Z1 rfl) rfl Z5 h1) ?_
 refine pA ?_
 refine fs (AWp.ret ?_)
 cases hm
 exact aHc (.inr rfl) Tryz.results193 Z1 Z3 Z6
theorem aGk {l r : List aD} (hm : iW l = some r) : dI Tryz.prog 193 [.sl (l.flatMap aT) l.length false] 3 (r.flatMap aT) r.length := by
 cases l with
 | nil =>
  have hr : r = [] := by unfold iW app at hm; simpa using hm.symm
  subst hr
  exact dI.nil_arg (aFc (r := []) rfl) (fun a c => aFv (r := []) rfl)
 | cons x0 l0 =>
  refine aFz ?_
  show (app [] (x0 :: l0)).bind _ = _
  unfold iW at hm
  rw [hm]; rfl
def xB (n_0 : Int) (l_1 : List aD) (u_2 : Int) (v_3 : Int) (aG6 : Int) : Option ((List aD) × Int) :=
 ((gH n_0 l_1).bind fun r2 =>
 ((fC ((!r2) == false) false (eW n_0 u_2)).bind fun r4 =>
 ((fC (((!r2) || (!r4)) == false) false (eW n_0 v_3)).bind fun r6 =>
 ((fC ((((!r2) || (!r4)) || (!r6)) == false) false (oR aG6)).bind fun r8 =>
 (bif ((((!r2) || (!r4)) || (!r6)) || (!r8)) then
  some (l_1, 1)
 else
  ((mQ l_1 u_2 v_3).bind fun ⟨r10, r11⟩ =>
  (bif (!r11) then
   some (l_1, 9)
  else
   ((iW l_1).bind fun r13 =>
   ((idx r13 r10).bind fun x15 =>
   ((stt r13 r10 (aD.mk x15.U x15.V aG6)).bind fun l17 =>
   some (l17, 0)))))))))))
theorem aLv {n_0 : Int} {l_1 : List aD} {u_2 : Int} {v_3 : Int} {aG6 : Int} {r : (List aD) × Int} (hm : xB n_0 l_1 u_2 v_3 aG6 = some r) : aZ Tryz.prog 172 [vi n_0, vl aT l_1, vi u_2, vi v_3, vi aG6] (.tup [vl aT r.1, vi r.2]) := by
 refine bd 55 Tryz.func172 ?_
 obtain ⟨r2, h1, hm⟩ := bnd hm
 refine W ?_
 refine cq (kL h1) ?_
 obtain ⟨r4, h3, hm⟩ := bnd hm
 refine W ?_
 refine cg (fun hb => jS (cM h3 hb)) ?_
 obtain ⟨r6, h5, hm⟩ := bnd hm
 refine W ?_
 refine cg (fun hb => jS (cM h5 hb)) ?_
 obtain ⟨r8, h7, hm⟩ := bnd hm
 refine W ?_
 refine cg (fun hb => aF8 (cM h7 hb)) ?_
 refine W ?_
 refine cm hm (fun hm => ?_) fun hm => ?_
 · exact E
 refine W ?_
 obtain ⟨⟨r10, r11⟩, h9, hm⟩ := bnd hm
 refine cq (wI h9) ?_
 refine W ?_
 refine cm hm (fun hm => ?_) fun hm => ?_
 · exact E
 obtain ⟨r13, h12, hm⟩ := bnd hm
 refine W ?_
 refine aU.callF (id := 257) Zd Z1 bP6 (fun H => (cD (bY.sl _ _ _) .nil)) bY Z5 (aGk h12) ?_
 obtain ⟨x15, h14, hm⟩ := bnd hm
 obtain ⟨l17, h16, hm⟩ := bnd hm
 refine W ?_
 have qh16 := jU h16
 refine aU.heap0 (id := 325) rfl (bIa bY (off := 2) (y := x15) (y' := (aD.mk x15.U x15.V aG6)) (cs := [.v (.int .i64 aG6)]) sz3 Z1 Z1 Z3 rfl h14 rfl Zd Z9 rfl h16) ?_
 exact E
def sW (n_0 : Int) (v_1 : Int) : Option (Bool) :=
 some ((decide (0 ≤ v_1)) && (decide (v_1 < n_0)))
theorem aF2 {n_0 : Int} {v_1 : Int} {r : Bool} (hm : sW n_0 v_1 = some r) : aZ Tryz.prog 190 [vi n_0, vi v_1] (vb r) := by
 refine bd 12 Tryz.func190 ?_
 exact E
end Go.Proofs.YtkdohhmacfoolaaGreat
