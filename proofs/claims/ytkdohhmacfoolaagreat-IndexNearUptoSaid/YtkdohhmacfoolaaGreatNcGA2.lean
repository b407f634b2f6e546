/- Facts that the statement's proof is made of. No condition. -/
import Derived.Test.YtkdohhmacfoolaaGreatNcGA1
import Derived.Test.YtkdohhmacfoolaaGreatNcPl
set_option linter.unusedVariables false
set_option linter.unusedSimpArgs false
set_option maxRecDepth 20000
set_option maxHeartbeats 4000000
namespace Go.Proofs.YtkdohhmacfoolaaGreat
open Go Go.AM
structure aJ where
 R : Int
 V : Int
 Words : List Int
deriving DecidableEq
def aKi (e : aJ) : List AV := [.v (.int .i64 e.R), .v (.int .i64 e.V), .sl (e.Words.flatMap (ci .u64)) e.Words.length false]
theorem aDx (e : aJ) (r : List AV) : aKi e ++ r = .v (.int .i64 e.R) :: .v (.int .i64 e.V) :: .sl (e.Words.flatMap (ci .u64)) e.Words.length false :: r := rfl
attribute [go_sem] aDx
theorem aT9 (i o : Nat) : aI Tryz.prog 102 (.adr i o) 0 = some (.adr i (o + 0)) := by kernel_rfl
attribute [go_sem] aT9
theorem aUo (i o : Nat) : aI Tryz.prog 102 (.adr i o) 1 = some (.adr i (o + 1)) := by kernel_rfl
attribute [go_sem] aUo
theorem aVc (i o : Nat) : aI Tryz.prog 102 (.adr i o) 2 = some (.adr i (o + 2)) := by kernel_rfl
attribute [go_sem] aVc
theorem aUb (i o : Nat) : aI Tryz.prog 120 (.adr i o) 0 = some (.adr i (o + 0)) := by kernel_rfl
attribute [go_sem] aUb
theorem aVe (i o : Nat) : aI Tryz.prog 120 (.adr i o) 1 = some (.adr i (o + 1)) := by kernel_rfl
attribute [go_sem] aVe
theorem aYr (i o : Nat) : aI Tryz.prog 23 (.adr i o) 0 = some (.adr i (o + 0)) := by kernel_rfl
attribute [go_sem] aYr
theorem aXk (i o : Nat) : aI Tryz.prog 23 (.adr i o) 1 = some (.adr i (o + 1)) := by kernel_rfl
attribute [go_sem] aXk
theorem aY3 (i o : Nat) : aI Tryz.prog 23 (.adr i o) 2 = some (.adr i (o + 2)) := by kernel_rfl
attribute [go_sem] aY3
theorem aSr (i o : Nat) : aI Tryz.prog 243 (.adr i o) 0 = some (.adr i (o + 0)) := by kernel_rfl
attribute [go_sem] aSr
theorem aVn (i o : Nat) : aI Tryz.prog 243 (.adr i o) 1 = some (.adr i (o + 1)) := by kernel_rfl
attribute [go_sem] aVn
theorem aUc (i o : Nat) : aI Tryz.prog 243 (.adr i o) 2 = some (.adr i (o + 2)) := by kernel_rfl
attribute [go_sem] aUc
theorem aZc (i o : Nat) : aI Tryz.prog 30 (.adr i o) 0 = some (.adr i (o + 0)) := by kernel_rfl
attribute [go_sem] aZc
theorem aYe (i o : Nat) : aI Tryz.prog 30 (.adr i o) 1 = some (.adr i (o + 3)) := by kernel_rfl
attribute [go_sem] aYe
theorem aXh (i o : Nat) : aI Tryz.prog 30 (.adr i o) 2 = some (.adr i (o + 4)) := by kernel_rfl
attribute [go_sem] aXh
theorem bD9 (H : aH) (x0 x1 x2 : AV) (xs : List AV) : bP Tryz.prog H 102 (.ptr (x0 :: x1 :: x2 :: xs)) = some (.agg [x0, x1, x2]) := by kernel_rfl
attribute [go_sem] bD9
theorem bBj (H : aH) (x0 x1 : AV) (xs : List AV) : bP Tryz.prog H 120 (.ptr (x0 :: x1 :: xs)) = some (.agg [x0, x1]) := by kernel_rfl
attribute [go_sem] bBj
theorem bDu (H : aH) (x : AV) (xs : List AV) : bP Tryz.prog H 24 (.ptr (x :: xs)) = some x := by kernel_rfl
attribute [go_sem] bDu
theorem bCk (H : aH) (x0 x1 x2 : AV) (xs : List AV) : bP Tryz.prog H 243 (.ptr (x0 :: x1 :: x2 :: xs)) = some (.agg [x0, x1, x2]) := by kernel_rfl
attribute [go_sem] bCk
theorem bFs (H : aH) (x : AV) (xs : List AV) : bP Tryz.prog H 27 (.ptr (x :: xs)) = some x := by kernel_rfl
attribute [go_sem] bFs
theorem bDs (H : aH) (x : AV) (xs : List AV) : bP Tryz.prog H 28 (.ptr (x :: xs)) = some x := by kernel_rfl
attribute [go_sem] bDs
theorem bIw (H : aH) (x : AV) (xs : List AV) : bP Tryz.prog H 3 (.ptr (x :: xs)) = some x := by kernel_rfl
attribute [go_sem] bIw
theorem bEk (H : aH) (x0 x1 x2 x3 x4 : AV) (xs : List AV) : bP Tryz.prog H 30 (.ptr (x0 :: x1 :: x2 :: x3 :: x4 :: xs)) = some (.agg [x0, x1, x2, x3, x4]) := by kernel_rfl
attribute [go_sem] bEk
theorem bHs (H : aH) (x : AV) (xs : List AV) : bP Tryz.prog H 4 (.ptr (x :: xs)) = some x := by kernel_rfl
attribute [go_sem] bHs
theorem bGo (H : aH) (x : AV) (xs : List AV) : bP Tryz.prog H 43 (.ptr (x :: xs)) = some x := by kernel_rfl
attribute [go_sem] bGo
theorem aZ2 (H : aH) (k : IntKind) (n : Int) : nG Tryz.prog H 3 43 (.v (.int k n)) = some (.v (.int .u64 (IntKind.u64.wrap n))) := gH Tryz.underlying3 Tryz.underlying43
attribute [go_sem] aZ2
theorem aVg (H : aH) (k : IntKind) (n : Int) : nG Tryz.prog H 3 198 (.v (.int k n)) = some (.v (.int .u64 (IntKind.u64.wrap n))) := gH Tryz.underlying3 Tryz.underlying198
attribute [go_sem] aVg
theorem bA5 (H : aH) (k : IntKind) (n : Int) : nG Tryz.prog H 5 3 (.v (.int k n)) = some (.v (.int .i64 (IntKind.i64.wrap n))) := gH Tryz.underlying5 Tryz.underlying3
attribute [go_sem] bA5
theorem aY9 (H : aH) (k : IntKind) (n : Int) : nG Tryz.prog H 43 3 (.v (.int k n)) = some (.v (.int .i64 (IntKind.i64.wrap n))) := gH Tryz.underlying43 Tryz.underlying3
attribute [go_sem] aY9
theorem aSg (H : aH) (k : IntKind) (n : Int) : nG Tryz.prog H 214 5 (.v (.int k n)) = some (.v (.int .u8 (IntKind.u8.wrap n))) := gH Tryz.underlying214 Tryz.underlying5
attribute [go_sem] aSg
def aBf (sG : Int) (qT : Int) (y_2 : Int) : Option (Int) :=
 ((chk (y_2 != 0)).bind fun _ =>
 ((wM (Int.tmod sG y_2) qT y_2).bind fun ⟨r3, r4⟩ =>
 some r4))
theorem aR8 {sG : Int} {qT : Int} {y_2 : Int} {r : Int} (hm : aBf sG qT y_2 = some r) : aZ Tryz.prog 166 [vu sG, vu qT, vu y_2] (vu r) := by
 refine bd 19 Tryz.func166 ?_
 obtain ⟨_, h1, hm⟩ := bnd hm
 refine W ?_
 obtain ⟨⟨r3, r4⟩, h2, hm⟩ := bnd hm
 refine cq (aQ4 h2) ?_
 exact E
def aF1 (a_0 : Int) (b_1 : Int) : Option (Int) :=
 ((aAg a_0).bind fun r2 =>
 ((aAg b_1).bind fun r4 =>
 ((wC r2 r4).bind fun ⟨r6, r7⟩ =>
 ((aBf r6 r7 2305843009213693951).bind fun r9 =>
 some r9))))
theorem bCx {a_0 : Int} {b_1 : Int} {r : Int} (hm : aF1 a_0 b_1 = some r) : aZ Tryz.prog 139 [vu a_0, vu b_1] (vu r) := by
 refine bd 18 Tryz.func139 ?_
 obtain ⟨r2, h1, hm⟩ := bnd hm
 refine W ?_
 refine cq (aJ9 h1) ?_
 obtain ⟨r4, h3, hm⟩ := bnd hm
 refine W ?_
 refine cq (aJ9 h3) ?_
 obtain ⟨⟨r6, r7⟩, h5, hm⟩ := bnd hm
 refine cq (aS7 h5) ?_
 obtain ⟨r9, h8, hm⟩ := bnd hm
 refine W ?_
 refine cq (aR8 h8) ?_
 exact E
def aCc (n_0 : Int) (l_1 : List aC) (v_2 : Int) : Option ((List Int)) :=
 ((mD n_0 l_1).bind fun r2 =>
 (bif (!r2) then
  some []
 else
  ((oS n_0 l_1).bind fun ⟨r4, r5⟩ =>
  ((oL r4 v_2).bind fun r7 =>
  some r7))))
theorem aS6 {n_0 : Int} {l_1 : List aC} {v_2 : Int} {r : (List Int)} (hm : aCc n_0 l_1 v_2 = some r) : aZ Tryz.prog 197 [vi n_0, vl aT l_1, vi v_2] (vl (ci .i64) r) := by
 refine bd 22 Tryz.func197 ?_
 obtain ⟨r2, h1, hm⟩ := bnd hm
 refine W ?_
 refine cq (zM h1) ?_
 refine W ?_
 refine cm hm (fun hm => ?_) fun hm => ?_
 · exact E
 refine W ?_
 obtain ⟨⟨r4, r5⟩, h3, hm⟩ := bnd hm
 refine cq (aG2 h3) ?_
 obtain ⟨r7, h6, hm⟩ := bnd hm
 refine W ?_
 refine cq (aBh h6) ?_
 exact E
def nI (g_0 : aG) (cC : Int) (v_2 : Int) : Option ((List Int)) :=
 ((gQ g_0.Config.N g_0.Edges cC).bind fun r2 =>
 ((aCc g_0.Config.N r2 v_2).bind fun r4 =>
 some r4))
theorem aDc {g_0 : aG} {cC : Int} {v_2 : Int} {r : (List Int)} (hm : nI g_0 cC v_2 = some r) : aZ Tryz.prog 184 [.agg [vi g_0.Config.N, vi g_0.Config.L, vi g_0.Config.R, vl bH g_0.Hashes, vl aT g_0.Edges], vi cC, vi v_2] (vl (ci .i64) r) := by
 refine bd 19 Tryz.func184 ?_
 obtain ⟨r2, h1, hm⟩ := bnd hm
 refine W ?_
 refine cq (nL h1) ?_
 obtain ⟨r4, h3, hm⟩ := bnd hm
 refine W ?_
 refine cq (aS6 h3) ?_
 exact E
def qM (g_0 : aG) (cC : Int) (v_2 : Int) : Option ((List Int)) :=
 ((dV g_0).bind fun r2 =>
 (bif (((((!r2) || (decide (cC < 0))) || (decide (g_0.Config.L < cC))) || (decide (v_2 < 0))) || (decide (g_0.Config.N ≤ v_2))) then
  some []
 else
  ((nI g_0 cC v_2).bind fun r4 =>
  some r4)))
theorem aEy {g_0 : aG} {cC : Int} {v_2 : Int} {r : (List Int)} (hm : qM g_0 cC v_2 = some r) : aZ Tryz.prog 168 [.agg [vi g_0.Config.N, vi g_0.Config.L, vi g_0.Config.R, vl bH g_0.Hashes, vl aT g_0.Edges], vi cC, vi v_2] (vl (ci .i64) r) := by
 refine bd 36 Tryz.func168 ?_
 obtain ⟨r2, h1, hm⟩ := bnd hm
 refine W ?_
 refine cq (gR h1) ?_
 refine W ?_
 refine cm hm (fun hm => ?_) fun hm => ?_
 · exact E
 obtain ⟨r4, h3, hm⟩ := bnd hm
 refine W ?_
 refine cq (aDc h3) ?_
 exact E
def kY (g_0 : aG) (cC : Int) (v_2 : Int) : Option (Bool) :=
 ((dV g_0).bind fun r2 =>
 some ((((r2 && (decide (0 ≤ cC))) && (decide (cC < g_0.Config.L))) && (decide (0 ≤ v_2))) && (decide (v_2 < g_0.Config.N))))
theorem aF4 {g_0 : aG} {cC : Int} {v_2 : Int} {r : Bool} (hm : kY g_0 cC v_2 = some r) : aZ Tryz.prog 185 [.agg [vi g_0.Config.N, vi g_0.Config.L, vi g_0.Config.R, vl bH g_0.Hashes, vl aT g_0.Edges], vi cC, vi v_2] (vb r) := by
 refine bd 31 Tryz.func185 ?_
 obtain ⟨r2, h1, hm⟩ := bnd hm
 refine W ?_
 refine cq (gR h1) ?_
 exact E
def aDy (rec1 : Int → List Int → Int → Int → Option (Bool)) (n_0 : Int) (t13 : List Int) (t14 : Int) (t15 : Int) : Option (Bool) :=
 (bif (decide (t15 < t14)) then
  ((idx t13 t15).bind fun x4 =>
  (bif ((decide (x4 < 0)) || (decide (n_0 ≤ x4))) then
   some false
  else
   rec1 n_0 t13 t14 (IntKind.i64.wrap (t15 + 1))))
 else
  some true)
def vN : Nat → Int → List Int → Int → Int → Option (Bool)
 | 0 => fun _ _ _ _ => none
 | n + 1 => aDy (vN n)
def aH5 (n_0 : Int) (l_1 : List aC) (aAq : List Int) : Option (Bool) :=
 ((gC n_0 l_1).bind fun r2 =>
 (bif (!r2) then
  some false
 else
  vN bK n_0 aAq (aAq.length : Int) 0))
theorem aXy {n_0 : Int} {l_1 : List aC} {aAq : List Int} {r : Bool} (hm : aH5 n_0 l_1 aAq = some r) : aZ Tryz.prog 205 [vi n_0, vl aT l_1, vl (ci .i64) aAq] (vb r) := by
 refine bd 27 Tryz.func205 ?_
 obtain ⟨r2, h1, hm⟩ := bnd hm
 refine W ?_
 refine cq (jX h1) ?_
 refine W ?_
 refine cm hm (fun hm => ?_) fun hm => ?_
 · exact E
 refine W ?_
 refine lp (fun m s => ∃ n_0 t13 t14 t15, s = ⟨27, (aF (aF (aF (aF fa 0 (vi n_0)) 13 (vl (ci .i64) t13)) 14 (vi t14)) 15 (vi t15)), ⟨aX, 64⟩⟩ ∧ vN m n_0 t13 t14 t15 = some r) L ?_
 rintro n1 s ⟨n_0, t13, t14, t15, rfl, hm⟩
 refine W ?_
 refine cm hm (fun hm => ?_) fun hm => ?_
 ·
  obtain ⟨x4, h3, hm⟩ := bnd hm
  refine W ?_
  refine cm hm (fun hm => ?_) fun hm => ?_
  · exact E
  exact L
 exact E
def tU (rec1 : List Bool → List aC → List aC → Int → Int → Option ((List aC))) (jM : List Bool) (cZ : List aC) (t8 : List aC) (t9 : Int) (t10 : Int) : Option ((List aC)) :=
 rec1 jM cZ t8 t9 (IntKind.i64.wrap (t10 + 1))
def zE (rec1 : List Bool → List aC → List aC → Int → Int → Option ((List aC))) (jM : List Bool) (cZ : List aC) (t8 : List aC) (t9 : Int) (t10 : Int) : Option ((List aC)) :=
 (bif (decide (t10 < t9)) then
  ((idx t8 t10).bind fun x2 =>
  ((idx jM x2.U).bind fun x4 =>
  ((idx jM x2.V).bind fun x6 =>
  (bif (!(x4 == x6)) then
   ((app cZ [x2]).bind fun l8 =>
   tU rec1 jM l8 t8 t9 t10)
  else
   tU rec1 jM cZ t8 t9 t10))))
 else
  some cZ)
def lZ : Nat → List Bool → List aC → List aC → Int → Int → Option ((List aC))
 | 0 => fun _ _ _ _ _ => none
 | n + 1 => zE (lZ n)
def aC3 (l_0 : List aC) (jM : List Bool) : Option ((List aC)) :=
 lZ bK jM [] l_0 (l_0.length : Int) 0
theorem aRd {l_0 : List aC} {jM : List Bool} {r : (List aC)} (hm : aC3 l_0 jM = some r) : aZ Tryz.prog 206 [vl aT l_0, vl aI6 jM] (vl aT r) := by
 refine bd 31 Tryz.func206 ?_
 refine W ?_
 refine lp (fun m s => ∃ jM cZ t8 t9 t10, s = ⟨31, (aF (aF (aF (aF (aF fa 1 (vl aI6 jM)) 5 (.own 1 0 cZ.length)) 8 (vl aT t8)) 9 (vi t9)) 10 (vi t10)), ⟨(upd aX 1 (.cells 3 (cZ.flatMap aT) 0)), 64⟩⟩ ∧ lZ m jM cZ t8 t9 t10 = some r) ?_ ?_
 ·
  refine ⟨_, ?_, jM, [], l_0, (l_0.length : Int), 0, rfl, hm⟩
  refine St.Le.trans (nX 5 900005 3 Z1 Z5) ?_
  exact cn (fun j => bif j == 1 then 900005 else 0)
 rintro n1 s ⟨jM, cZ, t8, t9, t10, rfl, hm⟩
 refine W ?_
 refine cm hm (fun hm => ?_) fun hm => ?_
 ·
  refine V ?_
  refine AWp.seqJ (fun s => ∃ jM cZ t8 t9 t10, s = ⟨31, (aF (aF (aF (aF (aF fa 1 (vl aI6 jM)) 5 (.own 1 0 cZ.length)) 8 (vl aT t8)) 9 (vi t9)) 10 (vi t10)), ⟨(upd aX 1 (.cells 3 (cZ.flatMap aT) 0)), 64⟩⟩ ∧ tU (lZ n1) jM cZ t8 t9 t10 = some r) ?_ ?_
  ·
   obtain ⟨x2, h1, hm⟩ := bnd hm
   obtain ⟨x4, h3, hm⟩ := bnd hm
   obtain ⟨x6, h5, hm⟩ := bnd hm
   refine W ?_
   refine cm hm (fun hm => ?_) fun hm => ?_
   ·
    refine W ?_
    refine aL bU [x2] ?_
    obtain ⟨l8, h7, hm⟩ := bnd hm
    refine W ?_
    exact Lr (fun j => bif j == 1 then 259 else 0)
   refine W ?_
   exact Lr (fun j => bif j == 1 then 1 else 0)
  rintro s ⟨jM, cZ, t8, t9, t10, rfl, hm⟩
  refine W ?_
  exact Lr (fun j => bif j == 1 then 1 else 0)
 exact E
def aH2 (rec1 : List aC → List Bool → List Int → Int → Int → Option ((List aC) × Int)) (l_1 : List aC) (aQd : List Bool) (t18 : List Int) (t19 : Int) (t20 : Int) : Option ((List aC) × Int) :=
 (bif (decide (t20 < t19)) then
  ((idx t18 t20).bind fun x6 =>
  ((idx aQd x6).bind fun x8 =>
  ((stt aQd x6 true).bind fun l10 =>
  rec1 l_1 l10 t18 t19 (IntKind.i64.wrap (t20 + 1)))))
 else
  ((aC3 l_1 aQd).bind fun r12 =>
  some (r12, 0)))
def yF : Nat → List aC → List Bool → List Int → Int → Int → Option ((List aC) × Int)
 | 0 => fun _ _ _ _ _ => none
 | n + 1 => aH2 (yF n)
def aEo (n_0 : Int) (l_1 : List aC) (aAq : List Int) : Option ((List aC) × Int) :=
 ((aH5 n_0 l_1 aAq).bind fun r2 =>
 (bif (!r2) then
  some ([], 1)
 else
  ((mkc n_0 n_0 false).bind fun l4 =>
  yF bK l_1 l4 aAq (aAq.length : Int) 0)))
theorem bCv {n_0 : Int} {l_1 : List aC} {aAq : List Int} {r : (List aC) × Int} (hm : aEo n_0 l_1 aAq = some r) : aZ Tryz.prog 198 [vi n_0, vl aT l_1, vl (ci .i64) aAq] (.tup [vl aT r.1, vi r.2]) := by
 refine bd 31 Tryz.func198 ?_
 obtain ⟨r2, h1, hm⟩ := bnd hm
 refine W ?_
 refine cq (aXy h1) ?_
 refine W ?_
 refine cm hm (fun hm => ?_) fun hm => ?_
 · exact E
 obtain ⟨l4, h3, hm⟩ := bnd hm
 refine W ?_
 refine aK CFb h3 ?_
 refine W ?_
 refine lp (fun m s => ∃ l_1 aQd t18 t19 t20, s = ⟨31, (aF (aF (aF (aF (aF fa 1 (vl aT l_1)) 8 (.own 1 0 aQd.length)) 18 (vl (ci .i64) t18)) 19 (vi t19)) 20 (vi t20)), ⟨(upd aX 1 (.cells 1 (aQd.flatMap aI6) 0)), 64⟩⟩ ∧ yF m l_1 aQd t18 t19 t20 = some r) (Lr (fun j => bif j == 1 then 129 else 0)) ?_
 rintro n1 s ⟨l_1, aQd, t18, t19, t20, rfl, hm⟩
 refine W ?_
 refine cm hm (fun hm => ?_) fun hm => ?_
 ·
  obtain ⟨x6, h5, hm⟩ := bnd hm
  obtain ⟨x8, h7, hm⟩ := bnd hm
  obtain ⟨l10, h9, hm⟩ := bnd hm
  refine W ?_
  have qh9 := jC h9
  refine aS h9 ?_
  refine W ?_
  exact Lr (fun j => bif j == 1 then 1 else 0)
 iterate 5 refine S1 ?_
 refine AWp.seq' ?_
 refine AWp.weaken (aJb CFb 8 1 Z1 Z3 Z6) ?_
 obtain ⟨r12, h11, hm⟩ := bnd hm
 refine W ?_
 refine cq (aRd h11) ?_
 exact E
def rW (g_0 : aG) (cC : Int) (v_2 : Int) : Option ((List aC)) :=
 ((nI g_0 cC v_2).bind fun r2 =>
 ((aEo g_0.Config.N g_0.Edges r2).bind fun ⟨r4, r5⟩ =>
 some r4))
theorem aMf {g_0 : aG} {cC : Int} {v_2 : Int} {r : (List aC)} (hm : rW g_0 cC v_2 = some r) : aZ Tryz.prog 186 [.agg [vi g_0.Config.N, vi g_0.Config.L, vi g_0.Config.R, vl bH g_0.Hashes, vl aT g_0.Edges], vi cC, vi v_2] (vl aT r) := by
 refine bd 23 Tryz.func186 ?_
 obtain ⟨r2, h1, hm⟩ := bnd hm
 refine W ?_
 refine cq (aDc h1) ?_
 obtain ⟨⟨r4, r5⟩, h3, hm⟩ := bnd hm
 refine cq (bCv h3) ?_
 exact E
def yB (x_0 : Int) : Option (Int) :=
 ((aAz x_0).bind fun r2 =>
 some r2)
theorem aGg {x_0 : Int} {r : Int} (hm : yB x_0 = some r) : aZ Tryz.prog 134 [vu x_0] (vi r) := by
 refine bd 8 Tryz.func134 ?_
 refine W ?_
 refine AWp.condF Z1 ?_
 obtain ⟨r2, h1, hm⟩ := bnd hm
 refine W ?_
 refine cq (aIf h1) ?_
 exact E
def rY (n_0 : Int) : Option (Int) :=
 (bif (decide (n_0 < 1)) then
  some 0
 else
  ((yB (IntKind.u64.wrap (IntKind.i64.wrap (n_0 - 1)))).bind fun r2 =>
  some (IntKind.i64.wrap ((IntKind.i64.wrap (2 * r2)) + 2))))
theorem aLz {n_0 : Int} {r : Int} (hm : rY n_0 = some r) : aZ Tryz.prog 201 [vi n_0] (vi r) := by
 refine bd 11 Tryz.func201 ?_
 refine W ?_
 refine cm hm (fun hm => ?_) fun hm => ?_
 · exact E
 obtain ⟨r2, h1, hm⟩ := bnd hm
 refine W ?_
 refine cq (aGg h1) ?_
 exact E
def kO (r_0 : Int) (v_1 : Int) : Option (Bool) :=
 some ((((decide (1 ≤ r_0)) && (decide (r_0 ≤ 8))) && (decide (1 ≤ v_1))) && (decide (v_1 ≤ 61)))
theorem aDe {r_0 : Int} {v_1 : Int} {r : Bool} (hm : kO r_0 v_1 = some r) : aZ Tryz.prog 207 [vi r_0, vi v_1] (vb r) := by
 refine bd 19 Tryz.func207 ?_
 exact E
def aBl (r_0 : Int) (v_1 : Int) : Option (aJ × Int) :=
 ((kO r_0 v_1).bind fun r2 =>
 (bif (!r2) then
  some ((aJ.mk 0 0 []), 1)
 else
  ((mkc (IntKind.i64.wrap (r_0 * v_1)) (IntKind.i64.wrap (r_0 * v_1)) 0).bind fun l4 =>
  some ((aJ.mk r_0 v_1 l4), 0))))
theorem aR5 {r_0 : Int} {v_1 : Int} {r : aJ × Int} (hm : aBl r_0 v_1 = some r) : aZ Tryz.prog 200 [vi r_0, vi v_1] (.tup [.agg [vi r.1.R, vi r.1.V, vl (ci .u64) r.1.Words], vi r.2]) := by
 refine bd 18 Tryz.func200 ?_
 obtain ⟨r2, h1, hm⟩ := bnd hm
 refine W ?_
 refine cq (aDe h1) ?_
 refine W ?_
 refine cm hm (fun hm => ?_) fun hm => ?_
 ·
  refine W ?_
  refine pu rfl (by simp only [go_sem, Nat.reduceBEq]; exact (by kernel_rfl : cL Tryz.prog 243 [] = some (.agg [.v (.int .i64 0), .v (.int .i64 0), .v (.slice none 0 0)]))) ?_
  exact E
 iterate 2 refine S1 ?_
 refine AWp.seq' ?_
 refine AWp.regC 64 6 (N' := 192) rfl ?_
 obtain ⟨l4, h3, hm⟩ := bnd hm
 refine W ?_
 refine aK (CFi .u64) h3 ?_
 refine aV.cut (aJb (CFi .u64) 16 133 Z1 Z3 Z6) ?_
 refine pu rfl (by simp only [go_sem, Nat.reduceBEq]; exact (by kernel_rfl : cL Tryz.prog 243 [(0, .v (.int .i64 r_0)), (1, .v (.int .i64 v_1)), (2, .sl (l4.flatMap (ci .u64)) l4.length false)] = some (.agg [.v (.int .i64 r_0), .v (.int .i64 v_1), .sl (l4.flatMap (ci .u64)) l4.length false]))) ?_
 exact E
def nS (g_0 : aG) (cC : Int) : Option ((List bQ)) :=
 ((slc g_0.Hashes (IntKind.i64.wrap (cC * g_0.Config.R)) (IntKind.i64.wrap ((IntKind.i64.wrap (cC * g_0.Config.R)) + g_0.Config.R))).bind fun l2 =>
 ((eJ l2).bind fun r4 =>
 some r4))
theorem aJ3 {g_0 : aG} {cC : Int} {r : (List bQ)} (hm : nS g_0 cC = some r) : aZ Tryz.prog 202 [.agg [vi g_0.Config.N, vi g_0.Config.L, vi g_0.Config.R, vl bH g_0.Hashes, vl aT g_0.Edges], vi cC] (vl bH r) := by
 refine bd 21 Tryz.func202 ?_
 obtain ⟨l2, h1, hm⟩ := bnd hm
 obtain ⟨r4, h3, hm⟩ := bnd hm
 refine W ?_
 refine aV.callF (id := 139) Zd Z1 bRv (fun H => (.cons (tdf Z1 (lV.sl _ _ _)) .nil)) lV Z5 (wA h3) ?_
 exact E
def tV (v_0 : Int) : Option (Bool) :=
 some ((decide (0 ≤ v_0)) && (decide (v_0 < 16777216)))
theorem aFr {v_0 : Int} {r : Bool} (hm : tV v_0 = some r) : aZ Tryz.prog 211 [vi v_0] (vb r) := by
 refine bd 9 Tryz.func211 ?_
 exact E
def aFq (u_0 : Int) (v_1 : Int) : Option (Int × Int) :=
 ((tV u_0).bind fun r2 =>
 ((fF ((!r2) == false) false (tV v_1)).bind fun r4 =>
 (bif ((!r2) || (!r4)) then
  some (0, 1)
 else
  (bif (u_0 == v_1) then
   some (0, 8)
  else
   some ((IntKind.u64.wrap ((IntKind.u64.wrap ((IntKind.u64.wrap (if v_1 < u_0 then v_1 else u_0)) * 16777216)) + (IntKind.u64.wrap (if u_0 < v_1 then v_1 else u_0)))), 0)))))
theorem bBv {u_0 : Int} {v_1 : Int} {r : Int × Int} (hm : aFq u_0 v_1 = some r) : aZ Tryz.prog 208 [vi u_0, vi v_1] (.tup [vu r.1, vi r.2]) := by
 refine bd 27 Tryz.func208 ?_
 obtain ⟨r2, h1, hm⟩ := bnd hm
 refine W ?_
 refine cq (aFr h1) ?_
 obtain ⟨r4, h3, hm⟩ := bnd hm
 refine W ?_
 refine cg (fun hb => aFr (cJ h3 hb)) ?_
 refine W ?_
 refine cm hm (fun hm => ?_) fun hm => ?_
 · exact E
 refine W ?_
 refine cm hm (fun hm => ?_) fun hm => ?_
 · exact E
 exact E
def aCf (rec1 : List Int → List aC → Int → Int → Option ((List Int))) (cU : List Int) (t8 : List aC) (t9 : Int) (t10 : Int) : Option ((List Int)) :=
 rec1 cU t8 t9 (IntKind.i64.wrap (t10 + 1))
def xC (rec1 : List Int → List aC → Int → Int → Option ((List Int))) (cU : List Int) (aZd : Int) (t8 : List aC) (t9 : Int) (t10 : Int) : Option ((List Int)) :=
 ((app cU [aZd]).bind fun l7 =>
 aCf rec1 l7 t8 t9 t10)
def aBv (rec1 : List Int → List aC → Int → Int → Option ((List Int))) (cU : List Int) (t8 : List aC) (t9 : Int) (t10 : Int) : Option ((List Int)) :=
 (bif (decide (t10 < t9)) then
  ((idx t8 t10).bind fun x2 =>
  ((aFq x2.U x2.V).bind fun ⟨r4, r5⟩ =>
  (bif (r5 != 0) then
   xC rec1 cU 0 t8 t9 t10
  else
   xC rec1 cU r4 t8 t9 t10)))
 else
  some cU)
def kZ : Nat → List Int → List aC → Int → Int → Option ((List Int))
 | 0 => fun _ _ _ _ => none
 | n + 1 => aBv (kZ n)
def aAc (l_0 : List aC) : Option ((List Int)) :=
 kZ bK [] l_0 (l_0.length : Int) 0
theorem aUg {l_0 : List aC} {r : (List Int)} (hm : aAc l_0 = some r) : aZ Tryz.prog 203 [vl aT l_0] (vl (ci .u64) r) := by
 refine bd 30 Tryz.func203 ?_
 refine W ?_
 refine lp (fun m s => ∃ cU t8 t9 t10, s = ⟨30, (aF (aF (aF (aF fa 3 (.own 1 0 cU.length)) 8 (vl aT t8)) 9 (vi t9)) 10 (vi t10)), ⟨(upd aX 1 (.cells 1 (cU.flatMap (ci .u64)) 0)), 64⟩⟩ ∧ kZ m cU t8 t9 t10 = some r) ?_ ?_
 ·
  refine ⟨_, ?_, [], l_0, (l_0.length : Int), 0, rfl, hm⟩
  refine St.Le.trans (nX 3 900003 1 Z1 Z5) ?_
  exact cn (fun j => bif j == 1 then 900003 else 0)
 rintro n1 s ⟨cU, t8, t9, t10, rfl, hm⟩
 refine W ?_
 refine cm hm (fun hm => ?_) fun hm => ?_
 ·
  refine V ?_
  refine AWp.seqJ (fun s => ∃ cU t8 t9 t10, s = ⟨30, (aF (aF (aF (aF fa 3 (.own 1 0 cU.length)) 8 (vl aT t8)) 9 (vi t9)) 10 (vi t10)), ⟨(upd aX 1 (.cells 1 (cU.flatMap (ci .u64)) 0)), 64⟩⟩ ∧ aCf (kZ n1) cU t8 t9 t10 = some r) ?_ ?_
  ·
   obtain ⟨x2, h1, hm⟩ := bnd hm
   refine W ?_
   obtain ⟨⟨r4, r5⟩, h3, hm⟩ := bnd hm
   refine cq (bBv h3) ?_
   refine V ?_
   refine AWp.seqJ (fun s => ∃ cU aZd t8 t9 t10, s = ⟨30, (aF (aF (aF (aF (aF fa 3 (.own 1 0 cU.length)) 6 (vu aZd)) 8 (vl aT t8)) 9 (vi t9)) 10 (vi t10)), ⟨(upd aX 1 (.cells 1 (cU.flatMap (ci .u64)) 0)), 64⟩⟩ ∧ xC (kZ n1) cU aZd t8 t9 t10 = some r) ?_ ?_
   ·
    refine W ?_
    refine cm hm (fun hm => ?_) fun hm => ?_
    ·
     refine W ?_
     exact Lr (fun j => bif j == 1 then 1 else 0)
    refine W ?_
    exact Lr (fun j => bif j == 1 then 1 else 0)
   rintro s ⟨cU, aZd, t8, t9, t10, rfl, hm⟩
   refine W ?_
   refine aL (CFi .u64) [aZd] ?_
   obtain ⟨l7, h6, hm⟩ := bnd hm
   refine W ?_
   exact Lr (fun j => bif j == 1 then 67 else 0)
  rintro s ⟨cU, t8, t9, t10, rfl, hm⟩
  refine W ?_
  exact Lr (fun j => bif j == 1 then 1 else 0)
 exact E
def mU (s_0 : aJ) : Option (Bool) :=
 ((kO s_0.R s_0.V).bind fun r2 =>
 some (r2 && ((s_0.Words.length : Int) == (IntKind.i64.wrap (s_0.R * s_0.V)))))
theorem aDl {s_0 : aJ} {r : Bool} (hm : mU s_0 = some r) : aZ Tryz.prog 199 [.agg [vi s_0.R, vi s_0.V, vl (ci .u64) s_0.Words]] (vb r) := by
 refine bd 19 Tryz.func199 ?_
 obtain ⟨r2, h1, hm⟩ := bnd hm
 refine W ?_
 refine cq (aDe h1) ?_
 exact E
def gN (l : List Int) : Option (List Int) := app [] l
theorem aB9 {r : List Int} (hm : some [] = some r) : dA Tryz.prog 209 [.v (.slice none 0 0)] 1 (r.flatMap (ci .u64)) r.length := by
 refine dA.of_body Tryz.func209 rfl ((CFi .u64).fmdat r) ?_
 simp only [Tryz.ntmps209, List.length_cons, List.length_nil, Nat.reduceAdd, Nat.reduceSub, eR]
 refine sN 64 (pA ?_)
 refine fs (AWp.seq' (sN 128 (pA ?_)))
 refine pu rfl (tG Z1 Z1 (aF9 Tryz.underlying24)) ?_
 refine fs (AWp.condT Z1 ?_)
 refine sN 192 (pA ?_)
 refine fs (AWp.weaken (nX 2 900002 1 Z1 Z5) ?_)
 refine AWp.ret (lC ?_)
 cases hm
 exact aEz (.inr rfl) Tryz.results209 Z1 Z3 Z6
theorem aB1 {a : Addr} {c : Nat} {r : List Int} (hm : ((app [] []).bind fun l2 =>
some l2) = some r) : dA Tryz.prog 209 [.v (.slice (some a) 0 c)] 1 (r.flatMap (ci .u64)) r.length := by
 refine dA.of_body Tryz.func209 rfl ((CFi .u64).fmdat r) ?_
 simp only [Tryz.ntmps209, List.length_cons, List.length_nil, Nat.reduceAdd, Nat.reduceSub, eR]
 refine sN 64 (pA ?_)
 refine fs (AWp.seq' (sN 128 (pA ?_)))
 refine pu rfl (tG Z1 Z1 (aCm Tryz.underlying24)) ?_
 refine fs (AWp.condF Z1 ?_)
 refine AWp.skip (bY (sN 192 (hp (id := 128) rfl rfl (kW (CFi .u64) (l := []) Tryz.underlying24 aFa bC2 Z5 Zd Zd Zd (by simp only [go_sem, Nat.reduceBEq]; try rfl) (by kernel_rfl)) ?_)))
 refine pA ?_
 obtain ⟨l2, h1, hm⟩ := bnd hm
 refine hp (id := 130) rfl rfl (aDq (CFi .u64) Tryz.underlying24 Tryz.underlying24 rfl bId bI3 (by rw [bA3]; decide) (by rw [bA3]; decide) bIh Zd Zd Z1 Z3 Z6 (aJd Z1) rfl Z5 h1) ?_
 refine pA ?_
 refine fs (AWp.ret ?_)
 cases hm
 exact aEz (.inr rfl) Tryz.results209 Z1 Z3 Z6
theorem aBr {x0 : Int} {l0 : List Int} {r : List Int} (hm : ((app [] (x0 :: l0)).bind fun l2 =>
some l2) = some r) : dA Tryz.prog 209 [.sl ((x0 :: l0).flatMap (ci .u64)) (x0 :: l0).length false] 1 (r.flatMap (ci .u64)) r.length := by
 refine dA.of_body Tryz.func209 rfl ((CFi .u64).fmdat r) ?_
 simp only [Tryz.ntmps209, List.length_cons, List.length_nil, Nat.reduceAdd, Nat.reduceSub, eR]
 refine sN 64 (pA ?_)
 refine fs (AWp.seq' (sN 128 (pA ?_)))
 refine pu rfl (tG Z1 Z1 (aCn Tryz.underlying24 (by simp))) ?_
 refine fs (AWp.condF Z1 ?_)
 refine AWp.skip (bY (sN 192 (hp (id := 128) rfl rfl (kW (CFi .u64) (l := []) Tryz.underlying24 aFa bC2 Z5 Zd Zd Zd (by simp only [go_sem, Nat.reduceBEq]; try rfl) (by kernel_rfl)) ?_)))
 refine pA ?_
 obtain ⟨l2, h1, hm⟩ := bnd hm
 refine hp (id := 130) rfl rfl (aDq (CFi .u64) Tryz.underlying24 Tryz.underlying24 rfl bId bI3 (by rw [bA3]; decide) (by rw [bA3]; decide) bIh Zd Zd Z1 Z3 Z6 (aNv (CFi .u64) Z1 rfl) rfl Z5 h1) ?_
 refine pA ?_
 refine fs (AWp.ret ?_)
 cases hm
 exact aEz (.inr rfl) Tryz.results209 Z1 Z3 Z6
theorem aD4 {l r : List Int} (hm : gN l = some r) : dA Tryz.prog 209 [.sl (l.flatMap (ci .u64)) l.length false] 1 (r.flatMap (ci .u64)) r.length := by
 cases l with
 | nil =>
  have hr : r = [] := by unfold gN app at hm; simpa using hm.symm
  subst hr
  exact dA.nil_arg (aB9 (r := []) rfl) (fun a c => aB1 (r := []) rfl)
 | cons x0 l0 =>
  refine aBr ?_
  show (app [] (x0 :: l0)).bind _ = _
  unfold gN at hm
  rw [hm]; rfl
def tZ (h_0 : bQ) (zS : Int) : Option (Int) :=
 ((aF1 h_0.A zS).bind fun r2 =>
 ((aKl r2 h_0.B).bind fun r4 =>
 some r4))
theorem aOr {h_0 : bQ} {zS : Int} {r : Int} (hm : tZ h_0 zS = some r) : aZ Tryz.prog 212 [.agg [vu h_0.A, vu h_0.B], vu zS] (vu r) := by
 refine bd 12 Tryz.func212 ?_
 obtain ⟨r2, h1, hm⟩ := bnd hm
 refine W ?_
 refine cq (bCx h1) ?_
 obtain ⟨r4, h3, hm⟩ := bnd hm
 refine W ?_
 refine cq (bDl h3) ?_
 exact E
def tP (zR : Int) : Option (Int) :=
 (bif ((decide (zR < 0)) || (decide (61 ≤ zR))) then
  some 0
 else
  ((chk (decide (0 ≤ zR))).bind fun _ =>
  some (shr .u64 2305843009213693951 zR)))
theorem aOy {zR : Int} {r : Int} (hm : tP zR = some r) : aZ Tryz.prog 213 [vi zR] (vu r) := by
 refine bd 11 Tryz.func213 ?_
 refine W ?_
 refine cm hm (fun hm => ?_) fun hm => ?_
 · exact E
 obtain ⟨_, h1, hm⟩ := bnd hm
 exact E
def aA0 (rec1 : Int → Int → Int → Option (Int)) (iL : Int) (aCo : Int) (zC : Int) : Option (Int) :=
 ((fF ((decide (zC < (if 61 < iL then 61 else iL))) == true) 0 (tP zC)).bind fun r4 =>
 (bif ((decide (zC < (if 61 < iL then 61 else iL))) && (decide (aCo < r4))) then
  rec1 iL aCo (IntKind.i64.wrap (zC + 1))
 else
  some zC))
def kC : Nat → Int → Int → Int → Option (Int)
 | 0 => fun _ _ _ => none
 | n + 1 => aA0 (kC n)
def wZ (h_0 : bQ) (zS : Int) (iL : Int) : Option (Int) :=
 ((tZ h_0 zS).bind fun r2 =>
 kC bK iL r2 0)
theorem aQy {h_0 : bQ} {zS : Int} {iL : Int} {r : Int} (hm : wZ h_0 zS iL = some r) : aZ Tryz.prog 210 [.agg [vu h_0.A, vu h_0.B], vu zS, vi iL] (vi r) := by
 refine bd 25 Tryz.func210 ?_
 obtain ⟨r2, h1, hm⟩ := bnd hm
 refine W ?_
 refine cq (aOr h1) ?_
 refine W ?_
 refine lp (fun m s => ∃ iL aCo zC, s = ⟨25, (aF (aF (aF fa 2 (vi iL)) 7 (vu aCo)) 8 (vi zC)), ⟨aX, 64⟩⟩ ∧ kC m iL aCo zC = some r) L ?_
 rintro n1 s ⟨iL, aCo, zC, rfl, hm⟩
 obtain ⟨r4, h3, hm⟩ := bnd hm
 refine W ?_
 refine cg (fun hb => aOy (cJ h3 hb)) ?_
 refine W ?_
 refine cm hm (fun hm => ?_) fun hm => ?_
 · exact L
 exact E
def sX (rec1 : Int → aJ → aJ → List Int → List bQ → Int → Int → Option (aJ × Int)) (rec2 : Int → aJ → aJ → List Int → Int → List bQ → Int → Int → Int → Int → Option (aJ × Int)) (jJ : Int) (s_3 : aJ) (t6 : aJ) (gA : List Int) (aIi : Int) (t26 : List bQ) (t27 : Int) (t28 : Int) (t37 : Int) (t38 : Int) : Option (aJ × Int) :=
 (bif (decide (t38 < t37)) then
  ((idx gA (IntKind.i64.wrap ((IntKind.i64.wrap (aIi * s_3.V)) + t38))).bind fun x10 =>
  ((idx gA (IntKind.i64.wrap ((IntKind.i64.wrap (aIi * s_3.V)) + t38))).bind fun x12 =>
  ((stt gA (IntKind.i64.wrap ((IntKind.i64.wrap (aIi * s_3.V)) + t38)) (bJd .u64 x10 jJ)).bind fun l14 =>
  rec2 jJ s_3 t6 l14 aIi t26 t27 t28 t37 (IntKind.i64.wrap (t38 + 1)))))
 else
  rec1 jJ s_3 t6 gA t26 t27 (IntKind.i64.wrap (t28 + 1)))
def kI (rec1 : Int → aJ → aJ → List Int → List bQ → Int → Int → Option (aJ × Int)) : Nat → Int → aJ → aJ → List Int → Int → List bQ → Int → Int → Int → Int → Option (aJ × Int)
 | 0 => fun _ _ _ _ _ _ _ _ _ _ => none
 | n + 1 => sX rec1 (kI rec1 n)
def sY (rec1 : Int → aJ → aJ → List Int → List bQ → Int → Int → Option (aJ × Int)) (jJ : Int) (s_3 : aJ) (t6 : aJ) (gA : List Int) (t26 : List bQ) (t27 : Int) (t28 : Int) : Option (aJ × Int) :=
 (bif (decide (t28 < t27)) then
  ((idx t26 t28).bind fun x6 =>
  ((wZ x6 jJ s_3.V).bind fun r8 =>
  kI rec1 bK jJ s_3 t6 gA t28 t26 t27 t28 r8 0))
 else
  some ((aJ.mk s_3.R s_3.V gA), 0))
def gI : Nat → Int → aJ → aJ → List Int → List bQ → Int → Int → Option (aJ × Int)
 | 0 => fun _ _ _ _ _ _ _ => none
 | n + 1 => sY (gI n)
def qR (s_0 : aJ) (l_1 : List bQ) (jJ : Int) : Option (aJ × Int) :=
 ((mU s_0).bind fun r2 =>
 (bif ((!r2) || ((l_1.length : Int) != s_0.R)) then
  some (s_0, 1)
 else
  ((gN s_0.Words).bind fun r4 =>
  gI bK jJ s_0 (aJ.mk 0 0 []) r4 l_1 (l_1.length : Int) 0)))
theorem aLd {s_0 : aJ} {l_1 : List bQ} {jJ : Int} {r : aJ × Int} (hm : qR s_0 l_1 jJ = some r) : aZ Tryz.prog 204 [.agg [vi s_0.R, vi s_0.V, vl (ci .u64) s_0.Words], vl bH l_1, vu jJ] (.tup [.agg [vi r.1.R, vi r.1.V, vl (ci .u64) r.1.Words], vi r.2]) := by
 refine bd 61 Tryz.func204 ?_
 obtain ⟨r2, h1, hm⟩ := bnd hm
 refine W ?_
 refine cq (aDl h1) ?_
 refine W ?_
 refine cm hm (fun hm => ?_) fun hm => ?_
 · exact E
 obtain ⟨r4, h3, hm⟩ := bnd hm
 refine W ?_
 refine aV.callF (id := 130) Zd Z1 bK5 (fun H => (cD ((CFi .u64).sl _ _ _) .nil)) (CFi .u64) Z5 (aD4 h3) ?_
 refine W ?_
 refine lp (fun m s => ∃ jJ s_3 t6 gA t26 t27 t28, s = ⟨61, (aF (aF (aF (aF (aF (aF (aF fa 2 (vu jJ)) 3 (.adr 1 0)) 6 (.adr 2 0)) 8 (.own 3 0 gA.length)) 26 (vl bH t26)) 27 (vi t27)) 28 (vi t28)), ⟨(upd (upd (upd aX 1 (.cells 1 [vi s_3.R, vi s_3.V, vl (ci .u64) s_3.Words] 0)) 2 (.cells 1 [vi t6.R, vi t6.V, vl (ci .u64) t6.Words] 0)) 3 (.cells 1 (gA.flatMap (ci .u64)) 0)), 64⟩⟩ ∧ gI m jJ s_3 t6 gA t26 t27 t28 = some r) ?_ ?_
 ·
  refine ⟨_, ?_, jJ, s_0, (aJ.mk 0 0 []), r4, l_1, (l_1.length : Int), 0, rfl, hm⟩
  refine St.Le.trans (iI 1 (ys := [.v (.int .i64 ((aJ.mk 0 0 []).R)), .v (.int .i64 ((aJ.mk 0 0 []).V)), .sl (((aJ.mk 0 0 []).Words).flatMap (ci .u64)) ((aJ.mk 0 0 []).Words).length false]) Z3 (.cons (.data _ (.v _)) (.cons (.data _ (.v _)) (.cons (.nil false) .nil)))) ?_
  exact cn (fun j => bif j == 1 then 0 else bif j == 2 then 1 else bif j == 3 then 130 else 0)
 rintro n1 s ⟨jJ, s_3, t6, gA, t26, t27, t28, rfl, hm⟩
 refine W ?_
 refine cm hm (fun hm => ?_) fun hm => ?_
 ·
  obtain ⟨x6, h5, hm⟩ := bnd hm
  obtain ⟨r8, h7, hm⟩ := bnd hm
  refine W ?_
  refine cq (aQy h7) ?_
  refine W ?_
  refine lp (fun m s => ∃ jJ s_3 t6 gA aIi t26 t27 t28 t37 t38, s = ⟨61, (aF (aF (aF (aF (aF (aF (aF (aF (aF (aF fa 2 (vu jJ)) 3 (.adr 1 0)) 6 (.adr 2 0)) 8 (.own 3 0 gA.length)) 9 (vi aIi)) 26 (vl bH t26)) 27 (vi t27)) 28 (vi t28)) 37 (vi t37)) 38 (vi t38)), ⟨(upd (upd (upd aX 1 (.cells 1 [vi s_3.R, vi s_3.V, vl (ci .u64) s_3.Words] 0)) 2 (.cells 1 [vi t6.R, vi t6.V, vl (ci .u64) t6.Words] 0)) 3 (.cells 1 (gA.flatMap (ci .u64)) 0)), 64⟩⟩ ∧ kI (gI n1) m jJ s_3 t6 gA aIi t26 t27 t28 t37 t38 = some r) (Lr (fun j => bif j == 1 then 1 else bif j == 2 then 2 else bif j == 3 then 3 else 0)) ?_
  rintro n2 s ⟨jJ, s_3, t6, gA, aIi, t26, t27, t28, t37, t38, rfl, hm⟩
  refine W ?_
  refine cm hm (fun hm => ?_) fun hm => ?_
  ·
   obtain ⟨x10, h9, hm⟩ := bnd hm
   have hm := sb hm h9
   obtain ⟨l14, h13, hm⟩ := bnd hm
   refine W ?_
   have qh13 := jC h13
   refine aS h13 ?_
   refine W ?_
   exact Lr (fun j => bif j == 1 then 1 else bif j == 2 then 2 else bif j == 3 then 3 else 0)
  refine W ?_
  exact Lr (fun j => bif j == 1 then 1 else bif j == 2 then 2 else bif j == 3 then 3 else 0)
 iterate 5 refine S1 ?_
 refine AWp.seq' ?_
 refine AWp.weaken (aJb (CFi .u64) 8 3 Z1 Z3 Z6) ?_
 refine W ?_
 refine pu rfl (by simp only [go_sem, Nat.reduceBEq]; exact (by kernel_rfl : cL Tryz.prog 243 [(0, .v (.int .i64 s_3.R)), (1, .v (.int .i64 s_3.V)), (2, .sl (gA.flatMap (ci .u64)) gA.length false)] = some (.agg [.v (.int .i64 s_3.R), .v (.int .i64 s_3.V), .sl (gA.flatMap (ci .u64)) gA.length false]))) ?_
 exact E
def vO (rec1 : aJ → aJ → List bQ → List Int → Int → Int → Option (aJ)) (t6 : aJ) (s_7 : aJ) (aXm : List bQ) (t27 : List Int) (t28 : Int) (t29 : Int) : Option (aJ) :=
 (bif (decide (t29 < t28)) then
  ((idx t27 t29).bind fun x11 =>
  ((qR s_7 aXm x11).bind fun ⟨r13, r14⟩ =>
  rec1 t6 r13 aXm t27 t28 (IntKind.i64.wrap (t29 + 1))))
 else
  some s_7)
def lO : Nat → aJ → aJ → List bQ → List Int → Int → Int → Option (aJ)
 | 0 => fun _ _ _ _ _ _ => none
 | n + 1 => vO (lO n)
def rU (g_0 : aG) (cC : Int) (aWa : List aC) : Option (aJ) :=
 ((rY g_0.Config.N).bind fun r2 =>
 ((aBl g_0.Config.R r2).bind fun ⟨r4, r5⟩ =>
 ((nS g_0 cC).bind fun r7 =>
 ((aAc aWa).bind fun r9 =>
 lO bK (aJ.mk 0 0 []) r4 r7 r9 (r9.length : Int) 0))))
theorem aMm {g_0 : aG} {cC : Int} {aWa : List aC} {r : aJ} (hm : rU g_0 cC aWa = some r) : aZ Tryz.prog 188 [.agg [vi g_0.Config.N, vi g_0.Config.L, vi g_0.Config.R, vl bH g_0.Hashes, vl aT g_0.Edges], vi cC, vl aT aWa] (.agg [vi r.R, vi r.V, vl (ci .u64) r.Words]) := by
 refine bd 42 Tryz.func188 ?_
 obtain ⟨r2, h1, hm⟩ := bnd hm
 refine W ?_
 refine cq (aLz h1) ?_
 obtain ⟨⟨r4, r5⟩, h3, hm⟩ := bnd hm
 refine cq (aR5 h3) ?_
 obtain ⟨r7, h6, hm⟩ := bnd hm
 refine W ?_
 refine cq (aJ3 h6) ?_
 obtain ⟨r9, h8, hm⟩ := bnd hm
 refine W ?_
 refine cq (aUg h8) ?_
 refine W ?_
 refine lp (fun m s => ∃ t6 s_7 aXm t27 t28 t29, s = ⟨42, (aF (aF (aF (aF (aF (aF fa 6 (.adr 1 0)) 7 (.adr 2 0)) 9 (vl bH aXm)) 27 (vl (ci .u64) t27)) 28 (vi t28)) 29 (vi t29)), ⟨(upd (upd aX 1 (.cells 1 [vi t6.R, vi t6.V, vl (ci .u64) t6.Words] 0)) 2 (.cells 1 [vi s_7.R, vi s_7.V, vl (ci .u64) s_7.Words] 0)), 64⟩⟩ ∧ lO m t6 s_7 aXm t27 t28 t29 = some r) ?_ ?_
 ·
  refine ⟨_, ?_, (aJ.mk 0 0 []), r4, r7, r9, (r9.length : Int), 0, rfl, hm⟩
  refine St.Le.trans (iI 1 (ys := [.v (.int .i64 ((aJ.mk 0 0 []).R)), .v (.int .i64 ((aJ.mk 0 0 []).V)), .sl (((aJ.mk 0 0 []).Words).flatMap (ci .u64)) ((aJ.mk 0 0 []).Words).length false]) Z3 (.cons (.data _ (.v _)) (.cons (.data _ (.v _)) (.cons (.nil false) .nil)))) ?_
  exact cn (fun j => bif j == 1 then 1 else bif j == 2 then 75 else 0)
 rintro n1 s ⟨t6, s_7, aXm, t27, t28, t29, rfl, hm⟩
 refine W ?_
 refine cm hm (fun hm => ?_) fun hm => ?_
 ·
  obtain ⟨x11, h10, hm⟩ := bnd hm
  refine W ?_
  obtain ⟨⟨r13, r14⟩, h12, hm⟩ := bnd hm
  refine cq (aLd h12) ?_
  refine W ?_
  exact Lr (fun j => bif j == 1 then 1 else bif j == 2 then 2 else 0)
 exact E
def vJ (aEf : Int) : Option (Int × Int × Bool) :=
 (bif (decide ((Int.tmod aEf 16777216) ≤ (IntKind.u64.wrap (Int.tdiv aEf 16777216)))) then
  some (0, 0, false)
 else
  some ((IntKind.i64.wrap (IntKind.u64.wrap (Int.tdiv aEf 16777216))), (IntKind.i64.wrap (Int.tmod aEf 16777216)), true))
theorem aK6 {aEf : Int} {r : Int × Int × Bool} (hm : vJ aEf = some r) : aZ Tryz.prog 189 [vu aEf] (.tup [vi r.1, vi r.2.1, vb r.2.2]) := by
 refine bd 18 Tryz.func189 ?_
 refine W ?_
 refine cm hm (fun hm => ?_) fun hm => ?_
 · exact E
 exact E
def oZ (rec1 : List Int → List Int → Int → Int → Option ((List Int))) (cU : List Int) (t13 : List Int) (t14 : Int) (t15 : Int) : Option ((List Int)) :=
 rec1 cU t13 t14 (IntKind.i64.wrap (t15 + 1))
def uW (rec1 : List Int → List Int → Int → Int → Option ((List Int))) (cU : List Int) (t13 : List Int) (t14 : Int) (t15 : Int) : Option ((List Int)) :=
 (bif (decide (t15 < t14)) then
  ((idx t13 t15).bind fun x4 =>
  ((vJ x4).bind fun ⟨r6, r7, r8⟩ =>
  (bif r8 then
   ((app cU [x4]).bind fun l10 =>
   oZ rec1 l10 t13 t14 t15)
  else
   oZ rec1 cU t13 t14 t15)))
 else
  some cU)
def jP : Nat → List Int → List Int → Int → Int → Option ((List Int))
 | 0 => fun _ _ _ _ => none
 | n + 1 => uW (jP n)
def rS (s_0 : aJ) : Option ((List Int)) :=
 ((mU s_0).bind fun r2 =>
 (bif (!r2) then
  some []
 else
  jP bK [] s_0.Words (s_0.Words.length : Int) 0))
theorem aMp {s_0 : aJ} {r : (List Int)} (hm : rS s_0 = some r) : aZ Tryz.prog 187 [.agg [vi s_0.R, vi s_0.V, vl (ci .u64) s_0.Words]] (vl (ci .u64) r) := by
 refine bd 32 Tryz.func187 ?_
 obtain ⟨r2, h1, hm⟩ := bnd hm
 refine W ?_
 refine cq (aDl h1) ?_
 refine W ?_
 refine cm hm (fun hm => ?_) fun hm => ?_
 · exact E
 refine W ?_
 refine lp (fun m s => ∃ cU t13 t14 t15, s = ⟨32, (aF (aF (aF (aF fa 3 (.own 1 0 cU.length)) 13 (vl (ci .u64) t13)) 14 (vi t14)) 15 (vi t15)), ⟨(upd aX 1 (.cells 1 (cU.flatMap (ci .u64)) 0)), 64⟩⟩ ∧ jP m cU t13 t14 t15 = some r) ?_ ?_
 ·
  refine ⟨_, ?_, [], s_0.Words, (s_0.Words.length : Int), 0, rfl, hm⟩
  refine St.Le.trans (nX 3 900003 1 Z1 Z5) ?_
  exact cn (fun j => bif j == 1 then 900003 else 0)
 rintro n1 s ⟨cU, t13, t14, t15, rfl, hm⟩
 refine W ?_
 refine cm hm (fun hm => ?_) fun hm => ?_
 ·
  refine V ?_
  refine AWp.seqJ (fun s => ∃ cU t13 t14 t15, s = ⟨32, (aF (aF (aF (aF fa 3 (.own 1 0 cU.length)) 13 (vl (ci .u64) t13)) 14 (vi t14)) 15 (vi t15)), ⟨(upd aX 1 (.cells 1 (cU.flatMap (ci .u64)) 0)), 64⟩⟩ ∧ oZ (jP n1) cU t13 t14 t15 = some r) ?_ ?_
  ·
   obtain ⟨x4, h3, hm⟩ := bnd hm
   refine W ?_
   obtain ⟨⟨r6, r7, r8⟩, h5, hm⟩ := bnd hm
   refine cq (aK6 h5) ?_
   refine W ?_
   refine cm hm (fun hm => ?_) fun hm => ?_
   ·
    refine W ?_
    refine aL (CFi .u64) [x4] ?_
    obtain ⟨l10, h9, hm⟩ := bnd hm
    refine W ?_
    exact Lr (fun j => bif j == 1 then 323 else 0)
   refine W ?_
   exact Lr (fun j => bif j == 1 then 1 else 0)
  rintro s ⟨cU, t13, t14, t15, rfl, hm⟩
  refine W ?_
  exact Lr (fun j => bif j == 1 then 1 else 0)
 exact E
def nN (rec1 : aC → List aC → List Int → Int → Int → Option (aC × Bool)) (t6 : aC) (wQ : List aC) (t30 : List Int) (t31 : Int) (t32 : Int) : Option (aC × Bool) :=
 rec1 t6 wQ t30 t31 (IntKind.i64.wrap (t32 + 1))
def sW (rec1 : aC → List aC → List Int → Int → Int → Option (aC × Bool)) (t6 : aC) (wQ : List aC) (t30 : List Int) (t31 : Int) (t32 : Int) : Option (aC × Bool) :=
 (bif (decide (t32 < t31)) then
  ((idx t30 t32).bind fun x10 =>
  ((vJ x10).bind fun ⟨r12, r13, r14⟩ =>
  (bif (!r14) then
   nN rec1 t6 wQ t30 t31 t32
  else
   ((lQ wQ r12 r13).bind fun ⟨r16, r17⟩ =>
   (bif r17 then
    ((idx wQ r16).bind fun x19 =>
    some (x19, true))
   else
    nN rec1 t6 wQ t30 t31 t32)))))
 else
  some ((aC.mk 0 0 0), false))
def iB : Nat → aC → List aC → List Int → Int → Int → Option (aC × Bool)
 | 0 => fun _ _ _ _ _ => none
 | n + 1 => sW (iB n)
def qK (g_0 : aG) (cC : Int) (v_2 : Int) : Option (aC × Bool) :=
 ((kY g_0 cC v_2).bind fun r2 =>
 (bif (!r2) then
  some ((aC.mk 0 0 0), false)
 else
  ((rW g_0 cC v_2).bind fun r4 =>
  ((rU g_0 cC r4).bind fun r6 =>
  ((rS r6).bind fun r8 =>
  iB bK (aC.mk 0 0 0) r4 r8 (r8.length : Int) 0)))))
theorem aJu {g_0 : aG} {cC : Int} {v_2 : Int} {r : aC × Bool} (hm : qK g_0 cC v_2 = some r) : aZ Tryz.prog 169 [.agg [vi g_0.Config.N, vi g_0.Config.L, vi g_0.Config.R, vl bH g_0.Hashes, vl aT g_0.Edges], vi cC, vi v_2] (.tup [.agg [vi r.1.U, vi r.1.V, vi r.1.Tier], vb r.2]) := by
 refine bd 58 Tryz.func169 ?_
 obtain ⟨r2, h1, hm⟩ := bnd hm
 refine W ?_
 refine cq (aF4 h1) ?_
 refine W ?_
 refine cm hm (fun hm => ?_) fun hm => ?_
 ·
  refine W ?_
  refine pu rfl (by simp only [go_sem, Nat.reduceBEq]; exact (by kernel_rfl : cL Tryz.prog 102 [] = some (.agg [.v (.int .i64 0), .v (.int .i64 0), .v (.int .i64 0)]))) ?_
  exact E
 obtain ⟨r4, h3, hm⟩ := bnd hm
 refine W ?_
 refine cq (aMf h3) ?_
 obtain ⟨r6, h5, hm⟩ := bnd hm
 refine W ?_
 refine cq (aMm h5) ?_
 obtain ⟨r8, h7, hm⟩ := bnd hm
 refine cq (aMp h7) ?_
 refine W ?_
 refine lp (fun m s => ∃ t6 wQ t30 t31 t32, s = ⟨58, (aF (aF (aF (aF (aF fa 6 (.adr 1 0)) 8 (vl aT wQ)) 30 (vl (ci .u64) t30)) 31 (vi t31)) 32 (vi t32)), ⟨(upd aX 1 (.cells 1 [vi t6.U, vi t6.V, vi t6.Tier] 0)), 64⟩⟩ ∧ iB m t6 wQ t30 t31 t32 = some r) (Lr (fun j => bif j == 1 then 1 else 0)) ?_
 rintro n1 s ⟨t6, wQ, t30, t31, t32, rfl, hm⟩
 refine W ?_
 refine cm hm (fun hm => ?_) fun hm => ?_
 ·
  refine V ?_
  refine AWp.seqJ (fun s => ∃ t6 wQ t30 t31 t32, s = ⟨58, (aF (aF (aF (aF (aF fa 6 (.adr 1 0)) 8 (vl aT wQ)) 30 (vl (ci .u64) t30)) 31 (vi t31)) 32 (vi t32)), ⟨(upd aX 1 (.cells 1 [vi t6.U, vi t6.V, vi t6.Tier] 0)), 64⟩⟩ ∧ nN (iB n1) t6 wQ t30 t31 t32 = some r) ?_ ?_
  ·
   obtain ⟨x10, h9, hm⟩ := bnd hm
   refine W ?_
   obtain ⟨⟨r12, r13, r14⟩, h11, hm⟩ := bnd hm
   refine cq (aK6 h11) ?_
   refine W ?_
   refine cm hm (fun hm => ?_) fun hm => ?_
   ·
    refine W ?_
    exact Lr (fun j => bif j == 1 then 1 else 0)
   refine W ?_
   obtain ⟨⟨r16, r17⟩, h15, hm⟩ := bnd hm
   refine cq (vV h15) ?_
   refine W ?_
   refine cm hm (fun hm => ?_) fun hm => ?_
   ·
    obtain ⟨x19, h18, hm⟩ := bnd hm
    exact E
   refine W ?_
   exact Lr (fun j => bif j == 1 then 1 else 0)
  rintro s ⟨t6, wQ, t30, t31, t32, rfl, hm⟩
  refine W ?_
  exact Lr (fun j => bif j == 1 then 1 else 0)
 refine W ?_
 refine pu rfl (by simp only [go_sem, Nat.reduceBEq]; exact (by kernel_rfl : cL Tryz.prog 102 [] = some (.agg [.v (.int .i64 0), .v (.int .i64 0), .v (.int .i64 0)]))) ?_
 exact E
def mG (rec1 : aC → aC → List aC → Int → Int → Option (aC × Bool)) (t2 : aC) (dD : aC) (t15 : List aC) (t16 : Int) (t17 : Int) : Option (aC × Bool) :=
 rec1 t2 dD t15 t16 (IntKind.i64.wrap (t17 + 1))
def rH (rec1 : aC → aC → List aC → Int → Int → Option (aC × Bool)) (t2 : aC) (dD : aC) (t15 : List aC) (t16 : Int) (t17 : Int) : Option (aC × Bool) :=
 (bif (decide (t17 < t16)) then
  ((idx t15 t17).bind fun x6 =>
  ((fF (((decide (dD.Tier < x6.Tier)) == false) && ((x6.Tier == dD.Tier) == true)) false (qX dD x6)).bind fun r8 =>
  (bif ((decide (dD.Tier < x6.Tier)) || ((x6.Tier == dD.Tier) && r8)) then
   mG rec1 t2 x6 t15 t16 t17
  else
   mG rec1 t2 dD t15 t16 t17)))
 else
  some (dD, true))
def gT : Nat → aC → aC → List aC → Int → Int → Option (aC × Bool)
 | 0 => fun _ _ _ _ _ => none
 | n + 1 => rH (gT n)
def kK (l_0 : List aC) : Option (aC × Bool) :=
 (bif ((l_0.length : Int) == 0) then
  some ((aC.mk 0 0 0), false)
 else
  ((idx l_0 0).bind fun x2 =>
  ((slc l_0 1 (l_0.length : Int)).bind fun l4 =>
  gT bK (aC.mk 0 0 0) x2 l4 (l4.length : Int) 0)))
theorem aIs {l_0 : List aC} {r : aC × Bool} (hm : kK l_0 = some r) : aZ Tryz.prog 171 [vl aT l_0] (.tup [.agg [vi r.1.U, vi r.1.V, vi r.1.Tier], vb r.2]) := by
 refine bd 41 Tryz.func171 ?_
 refine W ?_
 refine cm hm (fun hm => ?_) fun hm => ?_
 ·
  refine W ?_
  refine pu rfl (by simp only [go_sem, Nat.reduceBEq]; exact (by kernel_rfl : cL Tryz.prog 102 [] = some (.agg [.v (.int .i64 0), .v (.int .i64 0), .v (.int .i64 0)]))) ?_
  exact E
 obtain ⟨x2, h1, hm⟩ := bnd hm
 obtain ⟨l4, h3, hm⟩ := bnd hm
 refine W ?_
 refine lp (fun m s => ∃ t2 dD t15 t16 t17, s = ⟨41, (aF (aF (aF (aF (aF fa 2 (.adr 1 0)) 4 (.adr 2 0)) 15 (vl aT t15)) 16 (vi t16)) 17 (vi t17)), ⟨(upd (upd aX 1 (.cells 1 [vi t2.U, vi t2.V, vi t2.Tier] 0)) 2 (.cells 1 [vi dD.U, vi dD.V, vi dD.Tier] 0)), 64⟩⟩ ∧ gT m t2 dD t15 t16 t17 = some r) ?_ ?_
 ·
  refine ⟨_, ?_, (aC.mk 0 0 0), x2, l4, (l4.length : Int), 0, rfl, hm⟩
  refine St.Le.trans (aVr 15 (.sl (l4.flatMap aT) l4.length false) (fun H => (tdf Z1 (bU.sl _ _ _)))) ?_
  exact cn (fun j => bif j == 1 then 0 else bif j == 2 then 131 else 0)
 rintro n1 s ⟨t2, dD, t15, t16, t17, rfl, hm⟩
 refine W ?_
 refine cm hm (fun hm => ?_) fun hm => ?_
 ·
  refine V ?_
  refine AWp.seqJ (fun s => ∃ t2 dD t15 t16 t17, s = ⟨41, (aF (aF (aF (aF (aF fa 2 (.adr 1 0)) 4 (.adr 2 0)) 15 (vl aT t15)) 16 (vi t16)) 17 (vi t17)), ⟨(upd (upd aX 1 (.cells 1 [vi t2.U, vi t2.V, vi t2.Tier] 0)) 2 (.cells 1 [vi dD.U, vi dD.V, vi dD.Tier] 0)), 64⟩⟩ ∧ mG (gT n1) t2 dD t15 t16 t17 = some r) ?_ ?_
  ·
   obtain ⟨x6, h5, hm⟩ := bnd hm
   obtain ⟨r8, h7, hm⟩ := bnd hm
   refine W ?_
   refine cg (fun hb => aDw (cJ h7 hb)) ?_
   refine W ?_
   refine cm hm (fun hm => ?_) fun hm => ?_
   ·
    refine W ?_
    exact Lr (fun j => bif j == 1 then 1 else bif j == 2 then 2 else 0)
   refine W ?_
   exact Lr (fun j => bif j == 1 then 1 else bif j == 2 then 2 else 0)
  rintro s ⟨t2, dD, t15, t16, t17, rfl, hm⟩
  refine W ?_
  exact Lr (fun j => bif j == 1 then 1 else bif j == 2 then 2 else 0)
 exact E
def iE (l : List aC) : Option (List aC) := app [] l
theorem aEm {r : List aC} (hm : some [] = some r) : dA Tryz.prog 193 [.v (.slice none 0 0)] 3 (r.flatMap aT) r.length := by
 refine dA.of_body Tryz.func193 rfl (bU.fmdat r) ?_
 simp only [Tryz.ntmps193, List.length_cons, List.length_nil, Nat.reduceAdd, Nat.reduceSub, eR]
 refine sN 64 (pA ?_)
 refine fs (AWp.seq' (sN 128 (pA ?_)))
 refine pu rfl (tG Z1 Z1 (aF9 Tryz.underlying28)) ?_
 refine fs (AWp.condT Z1 ?_)
 refine sN 192 (pA ?_)
 refine fs (AWp.weaken (nX 2 900002 3 Z1 Z5) ?_)
 refine AWp.ret (lC ?_)
 cases hm
 exact aEz (.inr rfl) Tryz.results193 Z1 Z3 Z6
theorem aE5 {a : Addr} {c : Nat} {r : List aC} (hm : ((app [] []).bind fun l2 =>
some l2) = some r) : dA Tryz.prog 193 [.v (.slice (some a) 0 c)] 3 (r.flatMap aT) r.length := by
 refine dA.of_body Tryz.func193 rfl (bU.fmdat r) ?_
 simp only [Tryz.ntmps193, List.length_cons, List.length_nil, Nat.reduceAdd, Nat.reduceSub, eR]
 refine sN 64 (pA ?_)
 refine fs (AWp.seq' (sN 128 (pA ?_)))
 refine pu rfl (tG Z1 Z1 (aCm Tryz.underlying28)) ?_
 refine fs (AWp.condF Z1 ?_)
 refine AWp.skip (bY (sN 192 (hp (id := 128) rfl rfl (kW bU (l := []) Tryz.underlying28 aC6 aMt Z5 Zd Zd Zd (by simp only [go_sem, Nat.reduceBEq]; try rfl) (by kernel_rfl)) ?_)))
 refine pA ?_
 obtain ⟨l2, h1, hm⟩ := bnd hm
 refine hp (id := 130) rfl rfl (aDq bU Tryz.underlying28 Tryz.underlying28 rfl aWu aW7 (by rw [aI2]; decide) (by rw [aI2]; decide) aWn Zd Zd Z1 Z3 Z6 (aJd Z1) rfl Z5 h1) ?_
 refine pA ?_
 refine fs (AWp.ret ?_)
 cases hm
 exact aEz (.inr rfl) Tryz.results193 Z1 Z3 Z6
theorem aDt {x0 : aC} {l0 : List aC} {r : List aC} (hm : ((app [] (x0 :: l0)).bind fun l2 =>
some l2) = some r) : dA Tryz.prog 193 [.sl ((x0 :: l0).flatMap aT) (x0 :: l0).length false] 3 (r.flatMap aT) r.length := by
 refine dA.of_body Tryz.func193 rfl (bU.fmdat r) ?_
 simp only [Tryz.ntmps193, List.length_cons, List.length_nil, Nat.reduceAdd, Nat.reduceSub, eR]
 refine sN 64 (pA ?_)
 refine fs (AWp.seq' (sN 128 (pA ?_)))
 refine pu rfl (tG Z1 Z1 (aCn Tryz.underlying28 (by simp))) ?_
 refine fs (AWp.condF Z1 ?_)
 refine AWp.skip (bY (sN 192 (hp (id := 128) rfl rfl (kW bU (l := []) Tryz.underlying28 aC6 aMt Z5 Zd Zd Zd (by simp only [go_sem, Nat.reduceBEq]; try rfl) (by kernel_rfl)) ?_)))
 refine pA ?_
 obtain ⟨l2, h1, hm⟩ := bnd hm
 refine hp (id := 130) rfl rfl (aDq bU Tryz.underlying28 Tryz.underlying28 rfl aWu aW7 (by rw [aI2]; decide) (by rw [aI2]; decide) aWn Zd Zd Z1 Z3 Z6 (aNv bU Z1 rfl) rfl Z5 h1) ?_
 refine pA ?_
 refine fs (AWp.ret ?_)
 cases hm
 exact aEz (.inr rfl) Tryz.results193 Z1 Z3 Z6
theorem aFn {l r : List aC} (hm : iE l = some r) : dA Tryz.prog 193 [.sl (l.flatMap aT) l.length false] 3 (r.flatMap aT) r.length := by
 cases l with
 | nil =>
  have hr : r = [] := by unfold iE app at hm; simpa using hm.symm
  subst hr
  exact dA.nil_arg (aEm (r := []) rfl) (fun a c => aE5 (r := []) rfl)
 | cons x0 l0 =>
  refine aDt ?_
  show (app [] (x0 :: l0)).bind _ = _
  unfold iE at hm
  rw [hm]; rfl
def uZ (n_0 : Int) (l_1 : List aC) (u_2 : Int) (v_3 : Int) (aE8 : Int) : Option ((List aC) × Int) :=
 ((gC n_0 l_1).bind fun r2 =>
 ((fF ((!r2) == false) false (eG n_0 u_2)).bind fun r4 =>
 ((fF (((!r2) || (!r4)) == false) false (eG n_0 v_3)).bind fun r6 =>
 ((fF ((((!r2) || (!r4)) || (!r6)) == false) false (nB aE8)).bind fun r8 =>
 (bif ((((!r2) || (!r4)) || (!r6)) || (!r8)) then
  some (l_1, 1)
 else
  ((lQ l_1 u_2 v_3).bind fun ⟨r10, r11⟩ =>
  (bif (!r11) then
   some (l_1, 9)
  else
   ((iE l_1).bind fun r13 =>
   ((idx r13 r10).bind fun x15 =>
   ((stt r13 r10 (aC.mk x15.U x15.V aE8)).bind fun l17 =>
   some (l17, 0)))))))))))
theorem aJp {n_0 : Int} {l_1 : List aC} {u_2 : Int} {v_3 : Int} {aE8 : Int} {r : (List aC) × Int} (hm : uZ n_0 l_1 u_2 v_3 aE8 = some r) : aZ Tryz.prog 172 [vi n_0, vl aT l_1, vi u_2, vi v_3, vi aE8] (.tup [vl aT r.1, vi r.2]) := by
 refine bd 55 Tryz.func172 ?_
 obtain ⟨r2, h1, hm⟩ := bnd hm
 refine W ?_
 refine cq (jX h1) ?_
 obtain ⟨r4, h3, hm⟩ := bnd hm
 refine W ?_
 refine cg (fun hb => jB (cJ h3 hb)) ?_
 obtain ⟨r6, h5, hm⟩ := bnd hm
 refine W ?_
 refine cg (fun hb => jB (cJ h5 hb)) ?_
 obtain ⟨r8, h7, hm⟩ := bnd hm
 refine W ?_
 refine cg (fun hb => aDf (cJ h7 hb)) ?_
 refine W ?_
 refine cm hm (fun hm => ?_) fun hm => ?_
 · exact E
 refine W ?_
 obtain ⟨⟨r10, r11⟩, h9, hm⟩ := bnd hm
 refine cq (vV h9) ?_
 refine W ?_
 refine cm hm (fun hm => ?_) fun hm => ?_
 · exact E
 obtain ⟨r13, h12, hm⟩ := bnd hm
 refine W ?_
 refine aV.callF (id := 257) Zd Z1 bO5 (fun H => (cD (bU.sl _ _ _) .nil)) bU Z5 (aFn h12) ?_
 obtain ⟨x15, h14, hm⟩ := bnd hm
 obtain ⟨l17, h16, hm⟩ := bnd hm
 refine W ?_
 have qh16 := jC h16
 refine aV.heap0 (id := 325) rfl (bF2 bU (off := 2) (y := x15) (y' := (aC.mk x15.U x15.V aE8)) (cs := [.v (.int .i64 aE8)]) sz3 Z1 Z1 Z3 rfl h14 rfl Zd Z9 rfl h16) ?_
 exact E
def rR (n_0 : Int) (v_1 : Int) : Option (Bool) :=
 some ((decide (0 ≤ v_1)) && (decide (v_1 < n_0)))
theorem aD8 {n_0 : Int} {v_1 : Int} {r : Bool} (hm : rR n_0 v_1 = some r) : aZ Tryz.prog 190 [vi n_0, vi v_1] (vb r) := by
 refine bd 12 Tryz.func190 ?_
 exact E
end Go.Proofs.YtkdohhmacfoolaaGreat
