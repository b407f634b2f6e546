/- Facts. No condition. -/
import Derived.Test.YtkdohhmacfoolaaGreatNgGA1
set_option linter.unusedVariables false
set_option linter.unusedSimpArgs false
set_option maxRecDepth 20000
set_option maxHeartbeats 4000000
namespace Go.Proofs.YtkdohhmacfoolaaGreat
open Go.Proofs.Tryz Go Go.AM
structure aR where
 R : Int
 V : Int
 Words : List Int
deriving DecidableEq
def aPd (e : aR) : List AV := [.v (.int .i64 e.R), .v (.int .i64 e.V), .sl (e.Words.flatMap (ci .u64)) e.Words.length false]
@[go_sem] theorem aIf (e : aR) (r : List AV) : aPd e ++ r = .v (.int .i64 e.R) :: .v (.int .i64 e.V) :: .sl (e.Words.flatMap (ci .u64)) e.Words.length false :: r := rfl
@[go_sem] theorem bAx (i o : Nat) : aJ prog 102 (.adr i o) 0 = some (.adr i (o + 0)) := by kernel_rfl
@[go_sem] theorem bB4 (i o : Nat) : aJ prog 102 (.adr i o) 1 = some (.adr i (o + 1)) := by kernel_rfl
@[go_sem] theorem bBb (i o : Nat) : aJ prog 102 (.adr i o) 2 = some (.adr i (o + 2)) := by kernel_rfl
@[go_sem] theorem bBk (i o : Nat) : aJ prog 120 (.adr i o) 0 = some (.adr i (o + 0)) := by kernel_rfl
@[go_sem] theorem bBn (i o : Nat) : aJ prog 120 (.adr i o) 1 = some (.adr i (o + 1)) := by kernel_rfl
@[go_sem] theorem bFu (i o : Nat) : aJ prog 23 (.adr i o) 0 = some (.adr i (o + 0)) := by kernel_rfl
@[go_sem] theorem bG0 (i o : Nat) : aJ prog 23 (.adr i o) 1 = some (.adr i (o + 1)) := by kernel_rfl
@[go_sem] theorem bG6 (i o : Nat) : aJ prog 23 (.adr i o) 2 = some (.adr i (o + 2)) := by kernel_rfl
@[go_sem] theorem bBu (i o : Nat) : aJ prog 243 (.adr i o) 0 = some (.adr i (o + 0)) := by kernel_rfl
@[go_sem] theorem bBv (i o : Nat) : aJ prog 243 (.adr i o) 1 = some (.adr i (o + 1)) := by kernel_rfl
@[go_sem] theorem bBw (i o : Nat) : aJ prog 243 (.adr i o) 2 = some (.adr i (o + 2)) := by kernel_rfl
@[go_sem] theorem bGb (i o : Nat) : aJ prog 30 (.adr i o) 0 = some (.adr i (o + 0)) := by kernel_rfl
@[go_sem] theorem bGh (i o : Nat) : aJ prog 30 (.adr i o) 1 = some (.adr i (o + 3)) := by kernel_rfl
@[go_sem] theorem bGl (i o : Nat) : aJ prog 30 (.adr i o) 2 = some (.adr i (o + 4)) := by kernel_rfl
@[go_sem] theorem bKe (H : aN) (x0 x1 x2 : AV) (xs : List AV) : bS prog H 102 (.ptr (x0 :: x1 :: x2 :: xs)) = some (.agg [x0, x1, x2]) := by kernel_rfl
@[go_sem] theorem bKm (H : aN) (x0 x1 : AV) (xs : List AV) : bS prog H 120 (.ptr (x0 :: x1 :: xs)) = some (.agg [x0, x1]) := by kernel_rfl
@[go_sem] theorem bNr (H : aN) (x : AV) (xs : List AV) : bS prog H 24 (.ptr (x :: xs)) = some x := by kernel_rfl
@[go_sem] theorem bKu (H : aN) (x0 x1 x2 : AV) (xs : List AV) : bS prog H 243 (.ptr (x0 :: x1 :: x2 :: xs)) = some (.agg [x0, x1, x2]) := by kernel_rfl
@[go_sem] theorem bNw (H : aN) (x : AV) (xs : List AV) : bS prog H 27 (.ptr (x :: xs)) = some x := by kernel_rfl
@[go_sem] theorem bO0 (H : aN) (x : AV) (xs : List AV) : bS prog H 28 (.ptr (x :: xs)) = some x := by kernel_rfl
@[go_sem] theorem bRa (H : aN) (x : AV) (xs : List AV) : bS prog H 3 (.ptr (x :: xs)) = some x := by kernel_rfl
@[go_sem] theorem bO6 (H : aN) (x0 x1 x2 x3 x4 : AV) (xs : List AV) : bS prog H 30 (.ptr (x0 :: x1 :: x2 :: x3 :: x4 :: xs)) = some (.agg [x0, x1, x2, x3, x4]) := by kernel_rfl
@[go_sem] theorem bRg (H : aN) (x : AV) (xs : List AV) : bS prog H 4 (.ptr (x :: xs)) = some x := by kernel_rfl
@[go_sem] theorem bOo (H : aN) (x : AV) (xs : List AV) : bS prog H 43 (.ptr (x :: xs)) = some x := by kernel_rfl
@[go_sem] theorem bFe (H : aN) (k : IntKind) (n : Int) : mU prog H 3 43 (.v (.int k n)) = some (.v (.int .u64 (IntKind.u64.wrap n))) := gO underlying3 underlying43
@[go_sem] theorem bA5 (H : aN) (k : IntKind) (n : Int) : mU prog H 3 198 (.v (.int k n)) = some (.v (.int .u64 (IntKind.u64.wrap n))) := gO underlying3 underlying198
@[go_sem] theorem bJl (H : aN) (k : IntKind) (n : Int) : mU prog H 5 3 (.v (.int k n)) = some (.v (.int .i64 (IntKind.i64.wrap n))) := gO underlying5 underlying3
@[go_sem] theorem bFh (H : aN) (k : IntKind) (n : Int) : mU prog H 43 3 (.v (.int k n)) = some (.v (.int .i64 (IntKind.i64.wrap n))) := gO underlying43 underlying3
@[go_sem] theorem bA3 (H : aN) (k : IntKind) (n : Int) : mU prog H 214 5 (.v (.int k n)) = some (.v (.int .u8 (IntKind.u8.wrap n))) := gO underlying214 underlying5
def aFb (vZ : Int) (uA : Int) (y_2 : Int) : Option (Int) :=
 ((chk (y_2 != 0)).bind fun _ =>
 ((aAj (Int.tmod vZ y_2) uA y_2).bind fun ⟨r3, r4⟩ =>
 some r4))
theorem aWy {vZ : Int} {uA : Int} {y_2 : Int} {r : Int} (hm : aFb vZ uA y_2 = some r) : bC prog 166 [vu vZ, vu uA, vu y_2] (vu r) := by
 refine bd 19 func166 ?_
 obtain ⟨_, h1, hm⟩ := bnd hm
 refine W ?_
 obtain ⟨⟨r3, r4⟩, h2, hm⟩ := bnd hm
 refine cq (aWw h2) ?_
 exact E
def aG0 (a_0 : Int) (b_1 : Int) : Option (Int) :=
 ((aAo a_0).bind fun r2 =>
 ((aAo b_1).bind fun r4 =>
 ((aAk r2 r4).bind fun ⟨r6, r7⟩ =>
 ((aFb r6 r7 2305843009213693951).bind fun r9 =>
 some r9))))
theorem aY2 {a_0 : Int} {b_1 : Int} {r : Int} (hm : aG0 a_0 b_1 = some r) : bC prog 139 [vu a_0, vu b_1] (vu r) := by
 refine bd 18 func139 ?_
 obtain ⟨r2, h1, hm⟩ := bnd hm
 refine W ?_
 refine cq (aOt h1) ?_
 obtain ⟨r4, h3, hm⟩ := bnd hm
 refine W ?_
 refine cq (aOt h3) ?_
 obtain ⟨⟨r6, r7⟩, h5, hm⟩ := bnd hm
 refine cq (aWx h5) ?_
 obtain ⟨r9, h8, hm⟩ := bnd hm
 refine W ?_
 refine cq (aWy h8) ?_
 exact E
def aFq (n_0 : Int) (l_1 : List aC) (v_2 : Int) : Option ((List Int)) :=
 ((oL n_0 l_1).bind fun r2 =>
 (bif (!r2) then
  some []
 else
  ((sX n_0 l_1).bind fun ⟨r4, r5⟩ =>
  ((rV r4 v_2).bind fun r7 =>
  some r7))))
theorem aXh {n_0 : Int} {l_1 : List aC} {v_2 : Int} {r : (List Int)} (hm : aFq n_0 l_1 v_2 = some r) : bC prog 197 [vi n_0, vl aO l_1, vi v_2] (vl (ci .i64) r) := by
 refine bd 22 func197 ?_
 obtain ⟨r2, h1, hm⟩ := bnd hm
 refine W ?_
 refine cq (aD2 h1) ?_
 refine W ?_
 refine cm hm (fun hm => ?_) fun hm => ?_
 · exact E
 refine W ?_
 obtain ⟨⟨r4, r5⟩, h3, hm⟩ := bnd hm
 refine cq (aKj h3) ?_
 obtain ⟨r7, h6, hm⟩ := bnd hm
 refine W ?_
 refine cq (aG6 h6) ?_
 exact E
def qO (g_0 : aI) (cC : Int) (v_2 : Int) : Option ((List Int)) :=
 ((gZ g_0.Config.N g_0.Edges cC).bind fun r2 =>
 ((aFq g_0.Config.N r2 v_2).bind fun r4 =>
 some r4))
theorem aHz {g_0 : aI} {cC : Int} {v_2 : Int} {r : (List Int)} (hm : qO g_0 cC v_2 = some r) : bC prog 184 [.agg [vi g_0.Config.N, vi g_0.Config.L, vi g_0.Config.R, vl bE g_0.Hashes, vl aO g_0.Edges], vi cC, vi v_2] (vl (ci .i64) r) := by
 refine bd 19 func184 ?_
 obtain ⟨r2, h1, hm⟩ := bnd hm
 refine W ?_
 refine cq (qS h1) ?_
 obtain ⟨r4, h3, hm⟩ := bnd hm
 refine W ?_
 refine cq (aXh h3) ?_
 exact E
def tQ (g_0 : aI) (cC : Int) (v_2 : Int) : Option ((List Int)) :=
 ((eW g_0).bind fun r2 =>
 (bif (((((!r2) || (decide (cC < 0))) || (decide (g_0.Config.L < cC))) || (decide (v_2 < 0))) || (decide (g_0.Config.N ≤ v_2))) then
  some []
 else
  ((qO g_0 cC v_2).bind fun r4 =>
  some r4)))
theorem aKv {g_0 : aI} {cC : Int} {v_2 : Int} {r : (List Int)} (hm : tQ g_0 cC v_2 = some r) : bC prog 168 [.agg [vi g_0.Config.N, vi g_0.Config.L, vi g_0.Config.R, vl bE g_0.Hashes, vl aO g_0.Edges], vi cC, vi v_2] (vl (ci .i64) r) := by
 refine bd 36 func168 ?_
 obtain ⟨r2, h1, hm⟩ := bnd hm
 refine W ?_
 refine cq (iX h1) ?_
 refine W ?_
 refine cm hm (fun hm => ?_) fun hm => ?_
 · exact E
 obtain ⟨r4, h3, hm⟩ := bnd hm
 refine W ?_
 refine cq (aHz h3) ?_
 exact E
def mS (g_0 : aI) (cC : Int) (v_2 : Int) : Option (Bool) :=
 ((eW g_0).bind fun r2 =>
 some ((((r2 && (decide (0 ≤ cC))) && (decide (cC < g_0.Config.L))) && (decide (0 ≤ v_2))) && (decide (v_2 < g_0.Config.N))))
theorem aKu {g_0 : aI} {cC : Int} {v_2 : Int} {r : Bool} (hm : mS g_0 cC v_2 = some r) : bC prog 185 [.agg [vi g_0.Config.N, vi g_0.Config.L, vi g_0.Config.R, vl bE g_0.Hashes, vl aO g_0.Edges], vi cC, vi v_2] (vb r) := by
 refine bd 31 func185 ?_
 obtain ⟨r2, h1, hm⟩ := bnd hm
 refine W ?_
 refine cq (iX h1) ?_
 exact E
def aIi (rec1 : Int → List Int → Int → Int → Option (Bool)) (n_0 : Int) (t13 : List Int) (t14 : Int) (t15 : Int) : Option (Bool) :=
 (bif (decide (t15 < t14)) then
  ((idx t13 t15).bind fun x4 =>
  (bif ((decide (x4 < 0)) || (decide (n_0 ≤ x4))) then
   some false
  else
   rec1 n_0 t13 t14 (IntKind.i64.wrap (t15 + 1))))
 else
  some true)
def zH : Nat → Int → List Int → Int → Int → Option (Bool)
 | 0 => fun _ _ _ _ => none
 | n + 1 => aIi (zH n)
def aLo (n_0 : Int) (l_1 : List aC) (aEz : List Int) : Option (Bool) :=
 ((hY n_0 l_1).bind fun r2 =>
 (bif (!r2) then
  some false
 else
  zH bF n_0 aEz (aEz.length : Int) 0))
theorem bFc {n_0 : Int} {l_1 : List aC} {aEz : List Int} {r : Bool} (hm : aLo n_0 l_1 aEz = some r) : bC prog 205 [vi n_0, vl aO l_1, vl (ci .i64) aEz] (vb r) := by
 refine bd 27 func205 ?_
 obtain ⟨r2, h1, hm⟩ := bnd hm
 refine W ?_
 refine cq (lR h1) ?_
 refine W ?_
 refine cm hm (fun hm => ?_) fun hm => ?_
 · exact E
 refine W ?_
 refine lp (fun m s => ∃ n_0 t13 t14 t15, s = ⟨27, (aE (aE (aE (aE fa 0 (vi n_0)) 13 (vl (ci .i64) t13)) 14 (vi t14)) 15 (vi t15)), ⟨aV, 64⟩⟩ ∧ zH m n_0 t13 t14 t15 = some r) L ?_
 rintro n1 s ⟨n_0, t13, t14, t15, rfl, hm⟩
 refine W ?_
 refine cm hm (fun hm => ?_) fun hm => ?_
 ·
  obtain ⟨x4, h3, hm⟩ := bnd hm
  refine W ?_
  refine cm hm (fun hm => ?_) fun hm => ?_
  · exact E
  exact L
 exact E
def yE (rec1 : List Bool → List aC → List aC → Int → Int → Option ((List aC))) (kP : List Bool) (cJ : List aC) (t8 : List aC) (t9 : Int) (t10 : Int) : Option ((List aC)) :=
 rec1 kP cJ t8 t9 (IntKind.i64.wrap (t10 + 1))
def aCx (rec1 : List Bool → List aC → List aC → Int → Int → Option ((List aC))) (kP : List Bool) (cJ : List aC) (t8 : List aC) (t9 : Int) (t10 : Int) : Option ((List aC)) :=
 (bif (decide (t10 < t9)) then
  ((idx t8 t10).bind fun x2 =>
  ((idx kP x2.U).bind fun x4 =>
  ((idx kP x2.V).bind fun x6 =>
  (bif (!(x4 == x6)) then
   ((app cJ [x2]).bind fun l8 =>
   yE rec1 kP l8 t8 t9 t10)
  else
   yE rec1 kP cJ t8 t9 t10))))
 else
  some cJ)
def oJ : Nat → List Bool → List aC → List aC → Int → Int → Option ((List aC))
 | 0 => fun _ _ _ _ _ => none
 | n + 1 => aCx (oJ n)
def aFk (l_0 : List aC) (kP : List Bool) : Option ((List aC)) :=
 oJ bF kP [] l_0 (l_0.length : Int) 0
theorem aX8 {l_0 : List aC} {kP : List Bool} {r : (List aC)} (hm : aFk l_0 kP = some r) : bC prog 206 [vl aO l_0, vl aMv kP] (vl aO r) := by
 refine bd 31 func206 ?_
 refine W ?_
 refine lp (fun m s => ∃ kP cJ t8 t9 t10, s = ⟨31, (aE (aE (aE (aE (aE fa 1 (vl aMv kP)) 5 (.own 1 0 cJ.length)) 8 (vl aO t8)) 9 (vi t9)) 10 (vi t10)), ⟨(upd aV 1 (.cells 3 (cJ.flatMap aO) 0)), 64⟩⟩ ∧ oJ m kP cJ t8 t9 t10 = some r) ?_ ?_
 ·
  refine ⟨_, ?_, kP, [], l_0, (l_0.length : Int), 0, rfl, hm⟩
  refine St.Le.trans (kH 5 900005 3 Z1 Z5) ?_
  exact cn (fun j => bif j == 1 then 900005 else 0)
 rintro n1 s ⟨kP, cJ, t8, t9, t10, rfl, hm⟩
 refine W ?_
 refine cm hm (fun hm => ?_) fun hm => ?_
 ·
  refine V ?_
  refine AWp.seqJ (fun s => ∃ kP cJ t8 t9 t10, s = ⟨31, (aE (aE (aE (aE (aE fa 1 (vl aMv kP)) 5 (.own 1 0 cJ.length)) 8 (vl aO t8)) 9 (vi t9)) 10 (vi t10)), ⟨(upd aV 1 (.cells 3 (cJ.flatMap aO) 0)), 64⟩⟩ ∧ yE (oJ n1) kP cJ t8 t9 t10 = some r) ?_ ?_
  ·
   obtain ⟨x2, h1, hm⟩ := bnd hm
   obtain ⟨x4, h3, hm⟩ := bnd hm
   obtain ⟨x6, h5, hm⟩ := bnd hm
   refine W ?_
   refine cm hm (fun hm => ?_) fun hm => ?_
   ·
    refine W ?_
    refine aL cE [x2] ?_
    obtain ⟨l8, h7, hm⟩ := bnd hm
    refine W ?_
    exact Lr (fun j => bif j == 1 then 259 else 0)
   refine W ?_
   exact Lr (fun j => bif j == 1 then 1 else 0)
  rintro s ⟨kP, cJ, t8, t9, t10, rfl, hm⟩
  refine W ?_
  exact Lr (fun j => bif j == 1 then 1 else 0)
 exact E
def aLn (rec1 : List aC → List Bool → List Int → Int → Int → Option ((List aC) × Int)) (l_1 : List aC) (aXk : List Bool) (t18 : List Int) (t19 : Int) (t20 : Int) : Option ((List aC) × Int) :=
 (bif (decide (t20 < t19)) then
  ((idx t18 t20).bind fun x6 =>
  ((idx aXk x6).bind fun x8 =>
  ((stt aXk x6 true).bind fun l10 =>
  rec1 l_1 l10 t18 t19 (IntKind.i64.wrap (t20 + 1)))))
 else
  ((aFk l_1 aXk).bind fun r12 =>
  some (r12, 0)))
def aC1 : Nat → List aC → List Bool → List Int → Int → Int → Option ((List aC) × Int)
 | 0 => fun _ _ _ _ _ => none
 | n + 1 => aLn (aC1 n)
def aJt (n_0 : Int) (l_1 : List aC) (aEz : List Int) : Option ((List aC) × Int) :=
 ((aLo n_0 l_1 aEz).bind fun r2 =>
 (bif (!r2) then
  some ([], 1)
 else
  ((mkc n_0 n_0 false).bind fun l4 =>
  aC1 bF l_1 l4 aEz (aEz.length : Int) 0)))
theorem bJg {n_0 : Int} {l_1 : List aC} {aEz : List Int} {r : (List aC) × Int} (hm : aJt n_0 l_1 aEz = some r) : bC prog 198 [vi n_0, vl aO l_1, vl (ci .i64) aEz] (.tup [vl aO r.1, vi r.2]) := by
 refine bd 31 func198 ?_
 obtain ⟨r2, h1, hm⟩ := bnd hm
 refine W ?_
 refine cq (bFc h1) ?_
 refine W ?_
 refine cm hm (fun hm => ?_) fun hm => ?_
 · exact E
 obtain ⟨l4, h3, hm⟩ := bnd hm
 refine W ?_
 refine aK CFb h3 ?_
 refine W ?_
 refine lp (fun m s => ∃ l_1 aXk t18 t19 t20, s = ⟨31, (aE (aE (aE (aE (aE fa 1 (vl aO l_1)) 8 (.own 1 0 aXk.length)) 18 (vl (ci .i64) t18)) 19 (vi t19)) 20 (vi t20)), ⟨(upd aV 1 (.cells 1 (aXk.flatMap aMv) 0)), 64⟩⟩ ∧ aC1 m l_1 aXk t18 t19 t20 = some r) (Lr (fun j => bif j == 1 then 129 else 0)) ?_
 rintro n1 s ⟨l_1, aXk, t18, t19, t20, rfl, hm⟩
 refine W ?_
 refine cm hm (fun hm => ?_) fun hm => ?_
 ·
  obtain ⟨x6, h5, hm⟩ := bnd hm
  obtain ⟨x8, h7, hm⟩ := bnd hm
  obtain ⟨l10, h9, hm⟩ := bnd hm
  refine W ?_
  have qh9 := jI h9
  refine aS h9 ?_
  refine W ?_
  exact Lr (fun j => bif j == 1 then 1 else 0)
 iterate 5 refine S1 ?_
 refine AWp.seq' ?_
 refine AWp.weaken (aDb CFb 8 1 Z1 Z3 Z6) ?_
 obtain ⟨r12, h11, hm⟩ := bnd hm
 refine W ?_
 refine cq (aX8 h11) ?_
 exact E
def vH (g_0 : aI) (cC : Int) (v_2 : Int) : Option ((List aC)) :=
 ((qO g_0 cC v_2).bind fun r2 =>
 ((aJt g_0.Config.N g_0.Edges r2).bind fun ⟨r4, r5⟩ =>
 some r4))
theorem aSb {g_0 : aI} {cC : Int} {v_2 : Int} {r : (List aC)} (hm : vH g_0 cC v_2 = some r) : bC prog 186 [.agg [vi g_0.Config.N, vi g_0.Config.L, vi g_0.Config.R, vl bE g_0.Hashes, vl aO g_0.Edges], vi cC, vi v_2] (vl aO r) := by
 refine bd 23 func186 ?_
 obtain ⟨r2, h1, hm⟩ := bnd hm
 refine W ?_
 refine cq (aHz h1) ?_
 obtain ⟨⟨r4, r5⟩, h3, hm⟩ := bnd hm
 refine cq (bJg h3) ?_
 exact E
def aBx (x_0 : Int) : Option (Int) :=
 ((aFa x_0).bind fun r2 =>
 some r2)
theorem aLi {x_0 : Int} {r : Int} (hm : aBx x_0 = some r) : bC prog 134 [vu x_0] (vi r) := by
 refine bd 8 func134 ?_
 refine W ?_
 refine AWp.condF Z1 ?_
 obtain ⟨r2, h1, hm⟩ := bnd hm
 refine W ?_
 refine cq (aMt h1) ?_
 exact E
def uZ (n_0 : Int) : Option (Int) :=
 (bif (decide (n_0 < 1)) then
  some 0
 else
  ((aBx (IntKind.u64.wrap (IntKind.i64.wrap (n_0 - 1)))).bind fun r2 =>
  some (IntKind.i64.wrap ((IntKind.i64.wrap (2 * r2)) + 2))))
theorem aS1 {n_0 : Int} {r : Int} (hm : uZ n_0 = some r) : bC prog 201 [vi n_0] (vi r) := by
 refine bd 11 func201 ?_
 refine W ?_
 refine cm hm (fun hm => ?_) fun hm => ?_
 · exact E
 obtain ⟨r2, h1, hm⟩ := bnd hm
 refine W ?_
 refine cq (aLi h1) ?_
 exact E
def mK (r_0 : Int) (v_1 : Int) : Option (Bool) :=
 some ((((decide (1 ≤ r_0)) && (decide (r_0 ≤ 8))) && (decide (1 ≤ v_1))) && (decide (v_1 ≤ 61)))
theorem aI4 {r_0 : Int} {v_1 : Int} {r : Bool} (hm : mK r_0 v_1 = some r) : bC prog 207 [vi r_0, vi v_1] (vb r) := by
 refine bd 19 func207 ?_
 exact E
def aGm (r_0 : Int) (v_1 : Int) : Option (aR × Int) :=
 ((mK r_0 v_1).bind fun r2 =>
 (bif (!r2) then
  some ((aR.mk 0 0 []), 1)
 else
  ((mkc (IntKind.i64.wrap (r_0 * v_1)) (IntKind.i64.wrap (r_0 * v_1)) 0).bind fun l4 =>
  some ((aR.mk r_0 v_1 l4), 0))))
theorem aYu {r_0 : Int} {v_1 : Int} {r : aR × Int} (hm : aGm r_0 v_1 = some r) : bC prog 200 [vi r_0, vi v_1] (.tup [.agg [vi r.1.R, vi r.1.V, vl (ci .u64) r.1.Words], vi r.2]) := by
 refine bd 18 func200 ?_
 obtain ⟨r2, h1, hm⟩ := bnd hm
 refine W ?_
 refine cq (aI4 h1) ?_
 refine W ?_
 refine cm hm (fun hm => ?_) fun hm => ?_
 ·
  refine W ?_
  refine bU (.agg [vi 0, vi 0, .v (.slice none 0 0)]) ?_
  exact E
 iterate 2 refine S1 ?_
 refine AWp.seq' ?_
 refine AWp.regC 64 6 (N' := 192) rfl ?_
 obtain ⟨l4, h3, hm⟩ := bnd hm
 refine W ?_
 refine aK (CFi .u64) h3 ?_
 refine aW.cut (aDb (CFi .u64) 16 133 Z1 Z3 Z6) ?_
 refine bU (.agg [vi r_0, vi v_1, vl (ci .u64) l4]) ?_
 exact E
def rF (g_0 : aI) (cC : Int) : Option ((List bV)) :=
 ((slc g_0.Hashes (IntKind.i64.wrap (cC * g_0.Config.R)) (IntKind.i64.wrap ((IntKind.i64.wrap (cC * g_0.Config.R)) + g_0.Config.R))).bind fun l2 =>
 ((fP l2).bind fun r4 =>
 some r4))
theorem aOh {g_0 : aI} {cC : Int} {r : (List bV)} (hm : rF g_0 cC = some r) : bC prog 202 [.agg [vi g_0.Config.N, vi g_0.Config.L, vi g_0.Config.R, vl bE g_0.Hashes, vl aO g_0.Edges], vi cC] (vl bE r) := by
 refine bd 21 func202 ?_
 obtain ⟨l2, h1, hm⟩ := bnd hm
 obtain ⟨r4, h3, hm⟩ := bnd hm
 refine W ?_
 refine aW.callF (id := 139) Zd Z1 bZ3 (fun H => (.cons (tdf Z1 (mP.sl _ _ _)) .nil)) mP Z5 (aB5 h3) ?_
 exact E
def yI (v_0 : Int) : Option (Bool) :=
 some ((decide (0 ≤ v_0)) && (decide (v_0 < 16777216)))
theorem aKd {v_0 : Int} {r : Bool} (hm : yI v_0 = some r) : bC prog 211 [vi v_0] (vb r) := by
 refine bd 9 func211 ?_
 exact E
def aKc (u_0 : Int) (v_1 : Int) : Option (Int × Int) :=
 ((yI u_0).bind fun r2 =>
 ((eP ((!r2) == false) false (yI v_1)).bind fun r4 =>
 (bif ((!r2) || (!r4)) then
  some (0, 1)
 else
  (bif (u_0 == v_1) then
   some (0, 8)
  else
   some ((IntKind.u64.wrap ((IntKind.u64.wrap ((IntKind.u64.wrap (if v_1 < u_0 then v_1 else u_0)) * 16777216)) + (IntKind.u64.wrap (if u_0 < v_1 then v_1 else u_0)))), 0)))))
theorem bL3 {u_0 : Int} {v_1 : Int} {r : Int × Int} (hm : aKc u_0 v_1 = some r) : bC prog 208 [vi u_0, vi v_1] (.tup [vu r.1, vi r.2]) := by
 refine bd 27 func208 ?_
 obtain ⟨r2, h1, hm⟩ := bnd hm
 refine W ?_
 refine cq (aKd h1) ?_
 obtain ⟨r4, h3, hm⟩ := bnd hm
 refine W ?_
 refine cg (fun hb => aKd (cK h3 hb)) ?_
 refine W ?_
 refine cm hm (fun hm => ?_) fun hm => ?_
 · exact E
 refine W ?_
 refine cm hm (fun hm => ?_) fun hm => ?_
 · exact E
 exact E
def aFi (rec1 : List Int → List aC → Int → Int → Option ((List Int))) (dB : List Int) (t8 : List aC) (t9 : Int) (t10 : Int) : Option ((List Int)) :=
 rec1 dB t8 t9 (IntKind.i64.wrap (t10 + 1))
def aAl (rec1 : List Int → List aC → Int → Int → Option ((List Int))) (dB : List Int) (bHu : Int) (t8 : List aC) (t9 : Int) (t10 : Int) : Option ((List Int)) :=
 ((app dB [bHu]).bind fun l7 =>
 aFi rec1 l7 t8 t9 t10)
def aFh (rec1 : List Int → List aC → Int → Int → Option ((List Int))) (dB : List Int) (t8 : List aC) (t9 : Int) (t10 : Int) : Option ((List Int)) :=
 (bif (decide (t10 < t9)) then
  ((idx t8 t10).bind fun x2 =>
  ((aKc x2.U x2.V).bind fun ⟨r4, r5⟩ =>
  (bif (r5 != 0) then
   aAl rec1 dB 0 t8 t9 t10
  else
   aAl rec1 dB r4 t8 t9 t10)))
 else
  some dB)
def nB : Nat → List Int → List aC → Int → Int → Option ((List Int))
 | 0 => fun _ _ _ _ => none
 | n + 1 => aFh (nB n)
def aCw (l_0 : List aC) : Option ((List Int)) :=
 nB bF [] l_0 (l_0.length : Int) 0
theorem bA1 {l_0 : List aC} {r : (List Int)} (hm : aCw l_0 = some r) : bC prog 203 [vl aO l_0] (vl (ci .u64) r) := by
 refine bd 30 func203 ?_
 refine W ?_
 refine lp (fun m s => ∃ dB t8 t9 t10, s = ⟨30, (aE (aE (aE (aE fa 3 (.own 1 0 dB.length)) 8 (vl aO t8)) 9 (vi t9)) 10 (vi t10)), ⟨(upd aV 1 (.cells 1 (dB.flatMap (ci .u64)) 0)), 64⟩⟩ ∧ nB m dB t8 t9 t10 = some r) ?_ ?_
 ·
  refine ⟨_, ?_, [], l_0, (l_0.length : Int), 0, rfl, hm⟩
  refine St.Le.trans (kH 3 900003 1 Z1 Z5) ?_
  exact cn (fun j => bif j == 1 then 900003 else 0)
 rintro n1 s ⟨dB, t8, t9, t10, rfl, hm⟩
 refine W ?_
 refine cm hm (fun hm => ?_) fun hm => ?_
 ·
  refine V ?_
  refine AWp.seqJ (fun s => ∃ dB t8 t9 t10, s = ⟨30, (aE (aE (aE (aE fa 3 (.own 1 0 dB.length)) 8 (vl aO t8)) 9 (vi t9)) 10 (vi t10)), ⟨(upd aV 1 (.cells 1 (dB.flatMap (ci .u64)) 0)), 64⟩⟩ ∧ aFi (nB n1) dB t8 t9 t10 = some r) ?_ ?_
  ·
   obtain ⟨x2, h1, hm⟩ := bnd hm
   refine W ?_
   obtain ⟨⟨r4, r5⟩, h3, hm⟩ := bnd hm
   refine cq (bL3 h3) ?_
   refine V ?_
   refine AWp.seqJ (fun s => ∃ dB bHu t8 t9 t10, s = ⟨30, (aE (aE (aE (aE (aE fa 3 (.own 1 0 dB.length)) 6 (vu bHu)) 8 (vl aO t8)) 9 (vi t9)) 10 (vi t10)), ⟨(upd aV 1 (.cells 1 (dB.flatMap (ci .u64)) 0)), 64⟩⟩ ∧ aAl (nB n1) dB bHu t8 t9 t10 = some r) ?_ ?_
   ·
    refine W ?_
    refine cm hm (fun hm => ?_) fun hm => ?_
    ·
     refine W ?_
     exact Lr (fun j => bif j == 1 then 1 else 0)
    refine W ?_
    exact Lr (fun j => bif j == 1 then 1 else 0)
   rintro s ⟨dB, bHu, t8, t9, t10, rfl, hm⟩
   refine W ?_
   refine aL (CFi .u64) [bHu] ?_
   obtain ⟨l7, h6, hm⟩ := bnd hm
   refine W ?_
   exact Lr (fun j => bif j == 1 then 67 else 0)
  rintro s ⟨dB, t8, t9, t10, rfl, hm⟩
  refine W ?_
  exact Lr (fun j => bif j == 1 then 1 else 0)
 exact E
def qQ (s_0 : aR) : Option (Bool) :=
 ((mK s_0.R s_0.V).bind fun r2 =>
 some (r2 && ((s_0.Words.length : Int) == (IntKind.i64.wrap (s_0.R * s_0.V)))))
theorem aI3 {s_0 : aR} {r : Bool} (hm : qQ s_0 = some r) : bC prog 199 [.agg [vi s_0.R, vi s_0.V, vl (ci .u64) s_0.Words]] (vb r) := by
 refine bd 19 func199 ?_
 obtain ⟨r2, h1, hm⟩ := bnd hm
 refine W ?_
 refine cq (aI4 h1) ?_
 exact E
def iO (l : List Int) : Option (List Int) := app [] l
theorem aGn {r : List Int} (hm : some [] = some r) : dO prog 209 [.v (.slice none 0 0)] 1 (r.flatMap (ci .u64)) r.length := by
 refine dO.of_body func209 rfl ((CFi .u64).fmdat r) ?_
 simp only [ntmps209, List.length_cons, List.length_nil, Nat.reduceAdd, Nat.reduceSub, fL]
 refine sN 64 (pA ?_)
 refine fs (AWp.seq' (sN 128 (pA ?_)))
 refine pu rfl (xB Z1 Z1 (aJk underlying24)) ?_
 refine fs (AWp.condT Z1 ?_)
 refine sN 192 (pA ?_)
 refine fs (AWp.weaken (kH 2 900002 1 Z1 Z5) ?_)
 refine AWp.ret (kJ ?_)
 cases hm
 exact aKq (.inr rfl) Tryz.results209 Z1 Z3 Z6
theorem aGo {a : Addr} {c : Nat} {r : List Int} (hm : ((app [] []).bind fun l2 =>
some l2) = some r) : dO prog 209 [.v (.slice (some a) 0 c)] 1 (r.flatMap (ci .u64)) r.length := by
 refine dO.of_body func209 rfl ((CFi .u64).fmdat r) ?_
 simp only [ntmps209, List.length_cons, List.length_nil, Nat.reduceAdd, Nat.reduceSub, fL]
 refine sN 64 (pA ?_)
 refine fs (AWp.seq' (sN 128 (pA ?_)))
 refine pu rfl (xB Z1 Z1 (aH2 underlying24)) ?_
 refine fs (AWp.condF Z1 ?_)
 refine AWp.skip (cG (sN 192 (hp (id := 128) rfl rfl (lF (CFi .u64) (l := []) underlying24 aJb bMb Z5 Zd Zd Zd (by simp only [go_sem, Nat.reduceBEq]; try rfl) (by kernel_rfl)) ?_)))
 refine pA ?_
 obtain ⟨l2, h1, hm⟩ := bnd hm
 refine hp (id := 130) rfl rfl (aBb (CFi .u64) underlying24 underlying24 rfl bR6 bS2 (by rw [bI6]; decide) (by rw [bI6]; decide) bS4 Zd Zd Z1 Z3 Z6 (aOl Z1) rfl Z5 h1) ?_
 refine pA ?_
 refine fs (AWp.ret ?_)
 cases hm
 exact aKq (.inr rfl) Tryz.results209 Z1 Z3 Z6
theorem aGp {x0 : Int} {l0 : List Int} {r : List Int} (hm : ((app [] (x0 :: l0)).bind fun l2 =>
some l2) = some r) : dO prog 209 [.sl ((x0 :: l0).flatMap (ci .u64)) (x0 :: l0).length false] 1 (r.flatMap (ci .u64)) r.length := by
 refine dO.of_body func209 rfl ((CFi .u64).fmdat r) ?_
 simp only [ntmps209, List.length_cons, List.length_nil, Nat.reduceAdd, Nat.reduceSub, fL]
 refine sN 64 (pA ?_)
 refine fs (AWp.seq' (sN 128 (pA ?_)))
 refine pu rfl (xB Z1 Z1 (aH1 underlying24 (by simp))) ?_
 refine fs (AWp.condF Z1 ?_)
 refine AWp.skip (cG (sN 192 (hp (id := 128) rfl rfl (lF (CFi .u64) (l := []) underlying24 aJb bMb Z5 Zd Zd Zd (by simp only [go_sem, Nat.reduceBEq]; try rfl) (by kernel_rfl)) ?_)))
 refine pA ?_
 obtain ⟨l2, h1, hm⟩ := bnd hm
 refine hp (id := 130) rfl rfl (aBb (CFi .u64) underlying24 underlying24 rfl bR6 bS2 (by rw [bI6]; decide) (by rw [bI6]; decide) bS4 Zd Zd Z1 Z3 Z6 (aMs (CFi .u64) Z1 rfl) rfl Z5 h1) ?_
 refine pA ?_
 refine fs (AWp.ret ?_)
 cases hm
 exact aKq (.inr rfl) Tryz.results209 Z1 Z3 Z6
theorem aHk {l r : List Int} (hm : iO l = some r) : dO prog 209 [.sl (l.flatMap (ci .u64)) l.length false] 1 (r.flatMap (ci .u64)) r.length := by
 cases l with
 | nil =>
  have hr : r = [] := by unfold iO app at hm; simpa using hm.symm
  subst hr
  exact dO.nil_arg (aGn (r := []) rfl) (fun a c => aGo (r := []) rfl)
 | cons x0 l0 =>
  refine aGp ?_
  show (app [] (x0 :: l0)).bind _ = _
  unfold iO at hm
  rw [hm]; rfl
def yH (h_0 : bV) (aDh : Int) : Option (Int) :=
 ((aG0 h_0.A aDh).bind fun r2 =>
 ((aFz r2 h_0.B).bind fun r4 =>
 some r4))
theorem aVd {h_0 : bV} {aDh : Int} {r : Int} (hm : yH h_0 aDh = some r) : bC prog 212 [.agg [vu h_0.A, vu h_0.B], vu aDh] (vu r) := by
 refine bd 12 func212 ?_
 obtain ⟨r2, h1, hm⟩ := bnd hm
 refine W ?_
 refine cq (aY2 h1) ?_
 obtain ⟨r4, h3, hm⟩ := bnd hm
 refine W ?_
 refine cq (aY1 h3) ?_
 exact E
def yG (aDe : Int) : Option (Int) :=
 (bif ((decide (aDe < 0)) || (decide (61 ≤ aDe))) then
  some 0
 else
  ((chk (decide (0 ≤ aDe))).bind fun _ =>
  some (shr .u64 2305843009213693951 aDe)))
theorem aVb {aDe : Int} {r : Int} (hm : yG aDe = some r) : bC prog 213 [vi aDe] (vu r) := by
 refine bd 11 func213 ?_
 refine W ?_
 refine cm hm (fun hm => ?_) fun hm => ?_
 · exact E
 obtain ⟨_, h1, hm⟩ := bnd hm
 exact E
def aDd (rec1 : Int → Int → Int → Option (Int)) (jR : Int) (aHh : Int) (aCy : Int) : Option (Int) :=
 ((eP ((decide (aCy < (if 61 < jR then 61 else jR))) == true) 0 (yG aCy)).bind fun r4 =>
 (bif ((decide (aCy < (if 61 < jR then 61 else jR))) && (decide (aHh < r4))) then
  rec1 jR aHh (IntKind.i64.wrap (aCy + 1))
 else
  some aCy))
def lK : Nat → Int → Int → Int → Option (Int)
 | 0 => fun _ _ _ => none
 | n + 1 => aDd (lK n)
def aAn (h_0 : bV) (aDh : Int) (jR : Int) : Option (Int) :=
 ((yH h_0 aDh).bind fun r2 =>
 lK bF jR r2 0)
theorem aXw {h_0 : bV} {aDh : Int} {jR : Int} {r : Int} (hm : aAn h_0 aDh jR = some r) : bC prog 210 [.agg [vu h_0.A, vu h_0.B], vu aDh, vi jR] (vi r) := by
 refine bd 25 func210 ?_
 obtain ⟨r2, h1, hm⟩ := bnd hm
 refine W ?_
 refine cq (aVd h1) ?_
 refine W ?_
 refine lp (fun m s => ∃ jR aHh aCy, s = ⟨25, (aE (aE (aE fa 2 (vi jR)) 7 (vu aHh)) 8 (vi aCy)), ⟨aV, 64⟩⟩ ∧ lK m jR aHh aCy = some r) L ?_
 rintro n1 s ⟨jR, aHh, aCy, rfl, hm⟩
 obtain ⟨r4, h3, hm⟩ := bnd hm
 refine W ?_
 refine cg (fun hb => aVb (cK h3 hb)) ?_
 refine W ?_
 refine cm hm (fun hm => ?_) fun hm => ?_
 · exact L
 exact E
def xT (rec1 : Int → aR → aR → List Int → List bV → Int → Int → Option (aR × Int)) (rec2 : Int → aR → aR → List Int → Int → List bV → Int → Int → Int → Int → Option (aR × Int)) (kQ : Int) (s_3 : aR) (t6 : aR) (jJ : List Int) (aNm : Int) (t26 : List bV) (t27 : Int) (t28 : Int) (t37 : Int) (t38 : Int) : Option (aR × Int) :=
 (bif (decide (t38 < t37)) then
  ((idx jJ (IntKind.i64.wrap ((IntKind.i64.wrap (aNm * s_3.V)) + t38))).bind fun x10 =>
  ((idx jJ (IntKind.i64.wrap ((IntKind.i64.wrap (aNm * s_3.V)) + t38))).bind fun x12 =>
  ((stt jJ (IntKind.i64.wrap ((IntKind.i64.wrap (aNm * s_3.V)) + t38)) (bSl .u64 x10 kQ)).bind fun l14 =>
  rec2 kQ s_3 t6 l14 aNm t26 t27 t28 t37 (IntKind.i64.wrap (t38 + 1)))))
 else
  rec1 kQ s_3 t6 jJ t26 t27 (IntKind.i64.wrap (t28 + 1)))
def mB (rec1 : Int → aR → aR → List Int → List bV → Int → Int → Option (aR × Int)) : Nat → Int → aR → aR → List Int → Int → List bV → Int → Int → Int → Int → Option (aR × Int)
 | 0 => fun _ _ _ _ _ _ _ _ _ _ => none
 | n + 1 => xT rec1 (mB rec1 n)
def xS (rec1 : Int → aR → aR → List Int → List bV → Int → Int → Option (aR × Int)) (kQ : Int) (s_3 : aR) (t6 : aR) (jJ : List Int) (t26 : List bV) (t27 : Int) (t28 : Int) : Option (aR × Int) :=
 (bif (decide (t28 < t27)) then
  ((idx t26 t28).bind fun x6 =>
  ((aAn x6 kQ s_3.V).bind fun r8 =>
  mB rec1 bF kQ s_3 t6 jJ t28 t26 t27 t28 r8 0))
 else
  some ((aR.mk s_3.R s_3.V jJ), 0))
def iL : Nat → Int → aR → aR → List Int → List bV → Int → Int → Option (aR × Int)
 | 0 => fun _ _ _ _ _ _ _ => none
 | n + 1 => xS (iL n)
def tT (s_0 : aR) (l_1 : List bV) (kQ : Int) : Option (aR × Int) :=
 ((qQ s_0).bind fun r2 =>
 (bif ((!r2) || ((l_1.length : Int) != s_0.R)) then
  some (s_0, 1)
 else
  ((iO s_0.Words).bind fun r4 =>
  iL bF kQ s_0 (aR.mk 0 0 []) r4 l_1 (l_1.length : Int) 0)))
theorem aR0 {s_0 : aR} {l_1 : List bV} {kQ : Int} {r : aR × Int} (hm : tT s_0 l_1 kQ = some r) : bC prog 204 [.agg [vi s_0.R, vi s_0.V, vl (ci .u64) s_0.Words], vl bE l_1, vu kQ] (.tup [.agg [vi r.1.R, vi r.1.V, vl (ci .u64) r.1.Words], vi r.2]) := by
 refine bd 61 func204 ?_
 obtain ⟨r2, h1, hm⟩ := bnd hm
 refine W ?_
 refine cq (aI3 h1) ?_
 refine W ?_
 refine cm hm (fun hm => ?_) fun hm => ?_
 · exact E
 obtain ⟨r4, h3, hm⟩ := bnd hm
 refine W ?_
 refine aW.callF (id := 130) Zd Z1 bTa (fun H => (cD ((CFi .u64).sl _ _ _) .nil)) (CFi .u64) Z5 (aHk h3) ?_
 refine W ?_
 refine lp (fun m s => ∃ kQ s_3 t6 jJ t26 t27 t28, s = ⟨61, (aE (aE (aE (aE (aE (aE (aE fa 2 (vu kQ)) 3 (.adr 1 0)) 6 (.adr 2 0)) 8 (.own 3 0 jJ.length)) 26 (vl bE t26)) 27 (vi t27)) 28 (vi t28)), ⟨(upd (upd (upd aV 1 (.cells 1 [vi s_3.R, vi s_3.V, vl (ci .u64) s_3.Words] 0)) 2 (.cells 1 [vi t6.R, vi t6.V, vl (ci .u64) t6.Words] 0)) 3 (.cells 1 (jJ.flatMap (ci .u64)) 0)), 64⟩⟩ ∧ iL m kQ s_3 t6 jJ t26 t27 t28 = some r) ?_ ?_
 ·
  refine ⟨_, ?_, kQ, s_0, (aR.mk 0 0 []), r4, l_1, (l_1.length : Int), 0, rfl, hm⟩
  refine St.Le.trans (jQ 1 (ys := [.v (.int .i64 ((aR.mk 0 0 []).R)), .v (.int .i64 ((aR.mk 0 0 []).V)), .sl (((aR.mk 0 0 []).Words).flatMap (ci .u64)) ((aR.mk 0 0 []).Words).length false]) Z3 (.cons (.data _ (.v _)) (.cons (.data _ (.v _)) (.cons (.nil false) .nil)))) ?_
  exact cn (fun j => bif j == 1 then 0 else bif j == 2 then 1 else bif j == 3 then 130 else 0)
 rintro n1 s ⟨kQ, s_3, t6, jJ, t26, t27, t28, rfl, hm⟩
 refine W ?_
 refine cm hm (fun hm => ?_) fun hm => ?_
 ·
  obtain ⟨x6, h5, hm⟩ := bnd hm
  obtain ⟨r8, h7, hm⟩ := bnd hm
  refine W ?_
  refine cq (aXw h7) ?_
  refine W ?_
  refine lp (fun m s => ∃ kQ s_3 t6 jJ aNm t26 t27 t28 t37 t38, s = ⟨61, (aE (aE (aE (aE (aE (aE (aE (aE (aE (aE fa 2 (vu kQ)) 3 (.adr 1 0)) 6 (.adr 2 0)) 8 (.own 3 0 jJ.length)) 9 (vi aNm)) 26 (vl bE t26)) 27 (vi t27)) 28 (vi t28)) 37 (vi t37)) 38 (vi t38)), ⟨(upd (upd (upd aV 1 (.cells 1 [vi s_3.R, vi s_3.V, vl (ci .u64) s_3.Words] 0)) 2 (.cells 1 [vi t6.R, vi t6.V, vl (ci .u64) t6.Words] 0)) 3 (.cells 1 (jJ.flatMap (ci .u64)) 0)), 64⟩⟩ ∧ mB (iL n1) m kQ s_3 t6 jJ aNm t26 t27 t28 t37 t38 = some r) (Lr (fun j => bif j == 1 then 1 else bif j == 2 then 2 else bif j == 3 then 3 else 0)) ?_
  rintro n2 s ⟨kQ, s_3, t6, jJ, aNm, t26, t27, t28, t37, t38, rfl, hm⟩
  refine W ?_
  refine cm hm (fun hm => ?_) fun hm => ?_
  ·
   obtain ⟨x10, h9, hm⟩ := bnd hm
   have hm := sb hm h9
   obtain ⟨l14, h13, hm⟩ := bnd hm
   refine W ?_
   have qh13 := jI h13
   refine aS h13 ?_
   refine W ?_
   exact Lr (fun j => bif j == 1 then 1 else bif j == 2 then 2 else bif j == 3 then 3 else 0)
  refine W ?_
  exact Lr (fun j => bif j == 1 then 1 else bif j == 2 then 2 else bif j == 3 then 3 else 0)
 iterate 5 refine S1 ?_
 refine AWp.seq' ?_
 refine AWp.weaken (aDb (CFi .u64) 8 3 Z1 Z3 Z6) ?_
 refine W ?_
 refine bU (.agg [vi s_3.R, vi s_3.V, vl (ci .u64) jJ]) ?_
 exact E
def aA4 (rec1 : aR → aR → List bV → List Int → Int → Int → Option (aR)) (t6 : aR) (s_7 : aR) (bF7 : List bV) (t27 : List Int) (t28 : Int) (t29 : Int) : Option (aR) :=
 (bif (decide (t29 < t28)) then
  ((idx t27 t29).bind fun x11 =>
  ((tT s_7 bF7 x11).bind fun ⟨r13, r14⟩ =>
  rec1 t6 r13 bF7 t27 t28 (IntKind.i64.wrap (t29 + 1))))
 else
  some s_7)
def nQ : Nat → aR → aR → List bV → List Int → Int → Int → Option (aR)
 | 0 => fun _ _ _ _ _ _ => none
 | n + 1 => aA4 (nQ n)
def vI (g_0 : aI) (cC : Int) (bE7 : List aC) : Option (aR) :=
 ((uZ g_0.Config.N).bind fun r2 =>
 ((aGm g_0.Config.R r2).bind fun ⟨r4, r5⟩ =>
 ((rF g_0 cC).bind fun r7 =>
 ((aCw bE7).bind fun r9 =>
 nQ bF (aR.mk 0 0 []) r4 r7 r9 (r9.length : Int) 0))))
theorem aSc {g_0 : aI} {cC : Int} {bE7 : List aC} {r : aR} (hm : vI g_0 cC bE7 = some r) : bC prog 188 [.agg [vi g_0.Config.N, vi g_0.Config.L, vi g_0.Config.R, vl bE g_0.Hashes, vl aO g_0.Edges], vi cC, vl aO bE7] (.agg [vi r.R, vi r.V, vl (ci .u64) r.Words]) := by
 refine bd 42 func188 ?_
 obtain ⟨r2, h1, hm⟩ := bnd hm
 refine W ?_
 refine cq (aS1 h1) ?_
 obtain ⟨⟨r4, r5⟩, h3, hm⟩ := bnd hm
 refine cq (aYu h3) ?_
 obtain ⟨r7, h6, hm⟩ := bnd hm
 refine W ?_
 refine cq (aOh h6) ?_
 obtain ⟨r9, h8, hm⟩ := bnd hm
 refine W ?_
 refine cq (bA1 h8) ?_
 refine W ?_
 refine lp (fun m s => ∃ t6 s_7 bF7 t27 t28 t29, s = ⟨42, (aE (aE (aE (aE (aE (aE fa 6 (.adr 1 0)) 7 (.adr 2 0)) 9 (vl bE bF7)) 27 (vl (ci .u64) t27)) 28 (vi t28)) 29 (vi t29)), ⟨(upd (upd aV 1 (.cells 1 [vi t6.R, vi t6.V, vl (ci .u64) t6.Words] 0)) 2 (.cells 1 [vi s_7.R, vi s_7.V, vl (ci .u64) s_7.Words] 0)), 64⟩⟩ ∧ nQ m t6 s_7 bF7 t27 t28 t29 = some r) ?_ ?_
 ·
  refine ⟨_, ?_, (aR.mk 0 0 []), r4, r7, r9, (r9.length : Int), 0, rfl, hm⟩
  refine St.Le.trans (jQ 1 (ys := [.v (.int .i64 ((aR.mk 0 0 []).R)), .v (.int .i64 ((aR.mk 0 0 []).V)), .sl (((aR.mk 0 0 []).Words).flatMap (ci .u64)) ((aR.mk 0 0 []).Words).length false]) Z3 (.cons (.data _ (.v _)) (.cons (.data _ (.v _)) (.cons (.nil false) .nil)))) ?_
  exact cn (fun j => bif j == 1 then 1 else bif j == 2 then 75 else 0)
 rintro n1 s ⟨t6, s_7, bF7, t27, t28, t29, rfl, hm⟩
 refine W ?_
 refine cm hm (fun hm => ?_) fun hm => ?_
 ·
  obtain ⟨x11, h10, hm⟩ := bnd hm
  refine W ?_
  obtain ⟨⟨r13, r14⟩, h12, hm⟩ := bnd hm
  refine cq (aR0 h12) ?_
  refine W ?_
  exact Lr (fun j => bif j == 1 then 1 else bif j == 2 then 2 else 0)
 exact E
def zQ (aIs : Int) : Option (Int × Int × Bool) :=
 (bif (decide ((Int.tmod aIs 16777216) ≤ (IntKind.u64.wrap (Int.tdiv aIs 16777216)))) then
  some (0, 0, false)
 else
  some ((IntKind.i64.wrap (IntKind.u64.wrap (Int.tdiv aIs 16777216))), (IntKind.i64.wrap (Int.tmod aIs 16777216)), true))
theorem aQa {aIs : Int} {r : Int × Int × Bool} (hm : zQ aIs = some r) : bC prog 189 [vu aIs] (.tup [vi r.1, vi r.2.1, vb r.2.2]) := by
 refine bd 18 func189 ?_
 refine W ?_
 refine cm hm (fun hm => ?_) fun hm => ?_
 · exact E
 exact E
def tS (rec1 : List Int → List Int → Int → Int → Option ((List Int))) (dB : List Int) (t13 : List Int) (t14 : Int) (t15 : Int) : Option ((List Int)) :=
 rec1 dB t13 t14 (IntKind.i64.wrap (t15 + 1))
def aA9 (rec1 : List Int → List Int → Int → Int → Option ((List Int))) (dB : List Int) (t13 : List Int) (t14 : Int) (t15 : Int) : Option ((List Int)) :=
 (bif (decide (t15 < t14)) then
  ((idx t13 t15).bind fun x4 =>
  ((zQ x4).bind fun ⟨r6, r7, r8⟩ =>
  (bif r8 then
   ((app dB [x4]).bind fun l10 =>
   tS rec1 l10 t13 t14 t15)
  else
   tS rec1 dB t13 t14 t15)))
 else
  some dB)
def kV : Nat → List Int → List Int → Int → Int → Option ((List Int))
 | 0 => fun _ _ _ _ => none
 | n + 1 => aA9 (kV n)
def vJ (s_0 : aR) : Option ((List Int)) :=
 ((qQ s_0).bind fun r2 =>
 (bif (!r2) then
  some []
 else
  kV bF [] s_0.Words (s_0.Words.length : Int) 0))
theorem aSd {s_0 : aR} {r : (List Int)} (hm : vJ s_0 = some r) : bC prog 187 [.agg [vi s_0.R, vi s_0.V, vl (ci .u64) s_0.Words]] (vl (ci .u64) r) := by
 refine bd 32 func187 ?_
 obtain ⟨r2, h1, hm⟩ := bnd hm
 refine W ?_
 refine cq (aI3 h1) ?_
 refine W ?_
 refine cm hm (fun hm => ?_) fun hm => ?_
 · exact E
 refine W ?_
 refine lp (fun m s => ∃ dB t13 t14 t15, s = ⟨32, (aE (aE (aE (aE fa 3 (.own 1 0 dB.length)) 13 (vl (ci .u64) t13)) 14 (vi t14)) 15 (vi t15)), ⟨(upd aV 1 (.cells 1 (dB.flatMap (ci .u64)) 0)), 64⟩⟩ ∧ kV m dB t13 t14 t15 = some r) ?_ ?_
 ·
  refine ⟨_, ?_, [], s_0.Words, (s_0.Words.length : Int), 0, rfl, hm⟩
  refine St.Le.trans (kH 3 900003 1 Z1 Z5) ?_
  exact cn (fun j => bif j == 1 then 900003 else 0)
 rintro n1 s ⟨dB, t13, t14, t15, rfl, hm⟩
 refine W ?_
 refine cm hm (fun hm => ?_) fun hm => ?_
 ·
  refine V ?_
  refine AWp.seqJ (fun s => ∃ dB t13 t14 t15, s = ⟨32, (aE (aE (aE (aE fa 3 (.own 1 0 dB.length)) 13 (vl (ci .u64) t13)) 14 (vi t14)) 15 (vi t15)), ⟨(upd aV 1 (.cells 1 (dB.flatMap (ci .u64)) 0)), 64⟩⟩ ∧ tS (kV n1) dB t13 t14 t15 = some r) ?_ ?_
  ·
   obtain ⟨x4, h3, hm⟩ := bnd hm
   refine W ?_
   obtain ⟨⟨r6, r7, r8⟩, h5, hm⟩ := bnd hm
   refine cq (aQa h5) ?_
   refine W ?_
   refine cm hm (fun hm => ?_) fun hm => ?_
   ·
    refine W ?_
    refine aL (CFi .u64) [x4] ?_
    obtain ⟨l10, h9, hm⟩ := bnd hm
    refine W ?_
    exact Lr (fun j => bif j == 1 then 323 else 0)
   refine W ?_
   exact Lr (fun j => bif j == 1 then 1 else 0)
  rintro s ⟨dB, t13, t14, t15, rfl, hm⟩
  refine W ?_
  exact Lr (fun j => bif j == 1 then 1 else 0)
 exact E
def rG (rec1 : aC → List aC → List Int → Int → Int → Option (aC × Bool)) (t6 : aC) (aAr : List aC) (t30 : List Int) (t31 : Int) (t32 : Int) : Option (aC × Bool) :=
 rec1 t6 aAr t30 t31 (IntKind.i64.wrap (t32 + 1))
def xQ (rec1 : aC → List aC → List Int → Int → Int → Option (aC × Bool)) (t6 : aC) (aAr : List aC) (t30 : List Int) (t31 : Int) (t32 : Int) : Option (aC × Bool) :=
 (bif (decide (t32 < t31)) then
  ((idx t30 t32).bind fun x10 =>
  ((zQ x10).bind fun ⟨r12, r13, r14⟩ =>
  (bif (!r14) then
   rG rec1 t6 aAr t30 t31 t32
  else
   ((nK aAr r12 r13).bind fun ⟨r16, r17⟩ =>
   (bif r17 then
    ((idx aAr r16).bind fun x19 =>
    some (x19, true))
   else
    rG rec1 t6 aAr t30 t31 t32)))))
 else
  some ((aC.mk 0 0 0), false))
def jL : Nat → aC → List aC → List Int → Int → Int → Option (aC × Bool)
 | 0 => fun _ _ _ _ _ => none
 | n + 1 => xQ (jL n)
def tP (g_0 : aI) (cC : Int) (v_2 : Int) : Option (aC × Bool) :=
 ((mS g_0 cC v_2).bind fun r2 =>
 (bif (!r2) then
  some ((aC.mk 0 0 0), false)
 else
  ((vH g_0 cC v_2).bind fun r4 =>
  ((vI g_0 cC r4).bind fun r6 =>
  ((vJ r6).bind fun r8 =>
  jL bF (aC.mk 0 0 0) r4 r8 (r8.length : Int) 0)))))
theorem aQx {g_0 : aI} {cC : Int} {v_2 : Int} {r : aC × Bool} (hm : tP g_0 cC v_2 = some r) : bC prog 169 [.agg [vi g_0.Config.N, vi g_0.Config.L, vi g_0.Config.R, vl bE g_0.Hashes, vl aO g_0.Edges], vi cC, vi v_2] (.tup [.agg [vi r.1.U, vi r.1.V, vi r.1.Tier], vb r.2]) := by
 refine bd 58 func169 ?_
 obtain ⟨r2, h1, hm⟩ := bnd hm
 refine W ?_
 refine cq (aKu h1) ?_
 refine W ?_
 refine cm hm (fun hm => ?_) fun hm => ?_
 ·
  refine W ?_
  refine bU (.agg [vi 0, vi 0, vi 0]) ?_
  exact E
 obtain ⟨r4, h3, hm⟩ := bnd hm
 refine W ?_
 refine cq (aSb h3) ?_
 obtain ⟨r6, h5, hm⟩ := bnd hm
 refine W ?_
 refine cq (aSc h5) ?_
 obtain ⟨r8, h7, hm⟩ := bnd hm
 refine cq (aSd h7) ?_
 refine W ?_
 refine lp (fun m s => ∃ t6 aAr t30 t31 t32, s = ⟨58, (aE (aE (aE (aE (aE fa 6 (.adr 1 0)) 8 (vl aO aAr)) 30 (vl (ci .u64) t30)) 31 (vi t31)) 32 (vi t32)), ⟨(upd aV 1 (.cells 1 [vi t6.U, vi t6.V, vi t6.Tier] 0)), 64⟩⟩ ∧ jL m t6 aAr t30 t31 t32 = some r) (Lr (fun j => bif j == 1 then 1 else 0)) ?_
 rintro n1 s ⟨t6, aAr, t30, t31, t32, rfl, hm⟩
 refine W ?_
 refine cm hm (fun hm => ?_) fun hm => ?_
 ·
  refine V ?_
  refine AWp.seqJ (fun s => ∃ t6 aAr t30 t31 t32, s = ⟨58, (aE (aE (aE (aE (aE fa 6 (.adr 1 0)) 8 (vl aO aAr)) 30 (vl (ci .u64) t30)) 31 (vi t31)) 32 (vi t32)), ⟨(upd aV 1 (.cells 1 [vi t6.U, vi t6.V, vi t6.Tier] 0)), 64⟩⟩ ∧ rG (jL n1) t6 aAr t30 t31 t32 = some r) ?_ ?_
  ·
   obtain ⟨x10, h9, hm⟩ := bnd hm
   refine W ?_
   obtain ⟨⟨r12, r13, r14⟩, h11, hm⟩ := bnd hm
   refine cq (aQa h11) ?_
   refine W ?_
   refine cm hm (fun hm => ?_) fun hm => ?_
   ·
    refine W ?_
    exact Lr (fun j => bif j == 1 then 1 else 0)
   refine W ?_
   obtain ⟨⟨r16, r17⟩, h15, hm⟩ := bnd hm
   refine cq (zR h15) ?_
   refine W ?_
   refine cm hm (fun hm => ?_) fun hm => ?_
   ·
    obtain ⟨x19, h18, hm⟩ := bnd hm
    exact E
   refine W ?_
   exact Lr (fun j => bif j == 1 then 1 else 0)
  rintro s ⟨t6, aAr, t30, t31, t32, rfl, hm⟩
  refine W ?_
  exact Lr (fun j => bif j == 1 then 1 else 0)
 refine W ?_
 refine bU (.agg [vi 0, vi 0, vi 0]) ?_
 exact E
def oK (rec1 : aC → aC → List aC → Int → Int → Option (aC × Bool)) (t2 : aC) (dT : aC) (t15 : List aC) (t16 : Int) (t17 : Int) : Option (aC × Bool) :=
 rec1 t2 dT t15 t16 (IntKind.i64.wrap (t17 + 1))
def uI (rec1 : aC → aC → List aC → Int → Int → Option (aC × Bool)) (t2 : aC) (dT : aC) (t15 : List aC) (t16 : Int) (t17 : Int) : Option (aC × Bool) :=
 (bif (decide (t17 < t16)) then
  ((idx t15 t17).bind fun x6 =>
  ((eP (((decide (dT.Tier < x6.Tier)) == false) && ((x6.Tier == dT.Tier) == true)) false (uO dT x6)).bind fun r8 =>
  (bif ((decide (dT.Tier < x6.Tier)) || ((x6.Tier == dT.Tier) && r8)) then
   oK rec1 t2 x6 t15 t16 t17
  else
   oK rec1 t2 dT t15 t16 t17)))
 else
  some (dT, true))
def iZ : Nat → aC → aC → List aC → Int → Int → Option (aC × Bool)
 | 0 => fun _ _ _ _ _ => none
 | n + 1 => uI (iZ n)
def lV (l_0 : List aC) : Option (aC × Bool) :=
 (bif ((l_0.length : Int) == 0) then
  some ((aC.mk 0 0 0), false)
 else
  ((idx l_0 0).bind fun x2 =>
  ((slc l_0 1 (l_0.length : Int)).bind fun l4 =>
  iZ bF (aC.mk 0 0 0) x2 l4 (l4.length : Int) 0)))
theorem aO5 {l_0 : List aC} {r : aC × Bool} (hm : lV l_0 = some r) : bC prog 171 [vl aO l_0] (.tup [.agg [vi r.1.U, vi r.1.V, vi r.1.Tier], vb r.2]) := by
 refine bd 41 func171 ?_
 refine W ?_
 refine cm hm (fun hm => ?_) fun hm => ?_
 ·
  refine W ?_
  refine bU (.agg [vi 0, vi 0, vi 0]) ?_
  exact E
 obtain ⟨x2, h1, hm⟩ := bnd hm
 obtain ⟨l4, h3, hm⟩ := bnd hm
 refine W ?_
 refine lp (fun m s => ∃ t2 dT t15 t16 t17, s = ⟨41, (aE (aE (aE (aE (aE fa 2 (.adr 1 0)) 4 (.adr 2 0)) 15 (vl aO t15)) 16 (vi t16)) 17 (vi t17)), ⟨(upd (upd aV 1 (.cells 1 [vi t2.U, vi t2.V, vi t2.Tier] 0)) 2 (.cells 1 [vi dT.U, vi dT.V, vi dT.Tier] 0)), 64⟩⟩ ∧ iZ m t2 dT t15 t16 t17 = some r) ?_ ?_
 ·
  refine ⟨_, ?_, (aC.mk 0 0 0), x2, l4, (l4.length : Int), 0, rfl, hm⟩
  refine St.Le.trans (bCe 15 (.sl (l4.flatMap aO) l4.length false) (fun H => (tdf Z1 (cE.sl _ _ _)))) ?_
  exact cn (fun j => bif j == 1 then 0 else bif j == 2 then 131 else 0)
 rintro n1 s ⟨t2, dT, t15, t16, t17, rfl, hm⟩
 refine W ?_
 refine cm hm (fun hm => ?_) fun hm => ?_
 ·
  refine V ?_
  refine AWp.seqJ (fun s => ∃ t2 dT t15 t16 t17, s = ⟨41, (aE (aE (aE (aE (aE fa 2 (.adr 1 0)) 4 (.adr 2 0)) 15 (vl aO t15)) 16 (vi t16)) 17 (vi t17)), ⟨(upd (upd aV 1 (.cells 1 [vi t2.U, vi t2.V, vi t2.Tier] 0)) 2 (.cells 1 [vi dT.U, vi dT.V, vi dT.Tier] 0)), 64⟩⟩ ∧ oK (iZ n1) t2 dT t15 t16 t17 = some r) ?_ ?_
  ·
   obtain ⟨x6, h5, hm⟩ := bnd hm
   obtain ⟨r8, h7, hm⟩ := bnd hm
   refine W ?_
   refine cg (fun hb => aIr (cK h7 hb)) ?_
   refine W ?_
   refine cm hm (fun hm => ?_) fun hm => ?_
   ·
    refine W ?_
    exact Lr (fun j => bif j == 1 then 1 else bif j == 2 then 2 else 0)
   refine W ?_
   exact Lr (fun j => bif j == 1 then 1 else bif j == 2 then 2 else 0)
  rintro s ⟨t2, dT, t15, t16, t17, rfl, hm⟩
  refine W ?_
  exact Lr (fun j => bif j == 1 then 1 else bif j == 2 then 2 else 0)
 exact E
def jW (l : List aC) : Option (List aC) := app [] l
theorem aJ0 {r : List aC} (hm : some [] = some r) : dO prog 193 [.v (.slice none 0 0)] 3 (r.flatMap aO) r.length := by
 refine dO.of_body func193 rfl (cE.fmdat r) ?_
 simp only [ntmps193, List.length_cons, List.length_nil, Nat.reduceAdd, Nat.reduceSub, fL]
 refine sN 64 (pA ?_)
 refine fs (AWp.seq' (sN 128 (pA ?_)))
 refine pu rfl (xB Z1 Z1 (aJk underlying28)) ?_
 refine fs (AWp.condT Z1 ?_)
 refine sN 192 (pA ?_)
 refine fs (AWp.weaken (kH 2 900002 3 Z1 Z5) ?_)
 refine AWp.ret (kJ ?_)
 cases hm
 exact aKq (.inr rfl) Tryz.results193 Z1 Z3 Z6
theorem aJ1 {a : Addr} {c : Nat} {r : List aC} (hm : ((app [] []).bind fun l2 =>
some l2) = some r) : dO prog 193 [.v (.slice (some a) 0 c)] 3 (r.flatMap aO) r.length := by
 refine dO.of_body func193 rfl (cE.fmdat r) ?_
 simp only [ntmps193, List.length_cons, List.length_nil, Nat.reduceAdd, Nat.reduceSub, fL]
 refine sN 64 (pA ?_)
 refine fs (AWp.seq' (sN 128 (pA ?_)))
 refine pu rfl (xB Z1 Z1 (aH2 underlying28)) ?_
 refine fs (AWp.condF Z1 ?_)
 refine AWp.skip (cG (sN 192 (hp (id := 128) rfl rfl (lF cE (l := []) underlying28 aCi aTy Z5 Zd Zd Zd (by simp only [go_sem, Nat.reduceBEq]; try rfl) (by kernel_rfl)) ?_)))
 refine pA ?_
 obtain ⟨l2, h1, hm⟩ := bnd hm
 refine hp (id := 130) rfl rfl (aBb cE underlying28 underlying28 rfl bDv bEq (by rw [aNt]; decide) (by rw [aNt]; decide) bEr Zd Zd Z1 Z3 Z6 (aOl Z1) rfl Z5 h1) ?_
 refine pA ?_
 refine fs (AWp.ret ?_)
 cases hm
 exact aKq (.inr rfl) Tryz.results193 Z1 Z3 Z6
theorem aJ2 {x0 : aC} {l0 : List aC} {r : List aC} (hm : ((app [] (x0 :: l0)).bind fun l2 =>
some l2) = some r) : dO prog 193 [.sl ((x0 :: l0).flatMap aO) (x0 :: l0).length false] 3 (r.flatMap aO) r.length := by
 refine dO.of_body func193 rfl (cE.fmdat r) ?_
 simp only [ntmps193, List.length_cons, List.length_nil, Nat.reduceAdd, Nat.reduceSub, fL]
 refine sN 64 (pA ?_)
 refine fs (AWp.seq' (sN 128 (pA ?_)))
 refine pu rfl (xB Z1 Z1 (aH1 underlying28 (by simp))) ?_
 refine fs (AWp.condF Z1 ?_)
 refine AWp.skip (cG (sN 192 (hp (id := 128) rfl rfl (lF cE (l := []) underlying28 aCi aTy Z5 Zd Zd Zd (by simp only [go_sem, Nat.reduceBEq]; try rfl) (by kernel_rfl)) ?_)))
 refine pA ?_
 obtain ⟨l2, h1, hm⟩ := bnd hm
 refine hp (id := 130) rfl rfl (aBb cE underlying28 underlying28 rfl bDv bEq (by rw [aNt]; decide) (by rw [aNt]; decide) bEr Zd Zd Z1 Z3 Z6 (aMs cE Z1 rfl) rfl Z5 h1) ?_
 refine pA ?_
 refine fs (AWp.ret ?_)
 cases hm
 exact aKq (.inr rfl) Tryz.results193 Z1 Z3 Z6
theorem aKy {l r : List aC} (hm : jW l = some r) : dO prog 193 [.sl (l.flatMap aO) l.length false] 3 (r.flatMap aO) r.length := by
 cases l with
 | nil =>
  have hr : r = [] := by unfold jW app at hm; simpa using hm.symm
  subst hr
  exact dO.nil_arg (aJ0 (r := []) rfl) (fun a c => aJ1 (r := []) rfl)
 | cons x0 l0 =>
  refine aJ2 ?_
  show (app [] (x0 :: l0)).bind _ = _
  unfold jW at hm
  rw [hm]; rfl
def aAd (n_0 : Int) (l_1 : List aC) (u_2 : Int) (v_3 : Int) (aJd : Int) : Option ((List aC) × Int) :=
 ((hY n_0 l_1).bind fun r2 =>
 ((eP ((!r2) == false) false (fH n_0 u_2)).bind fun r4 =>
 ((eP (((!r2) || (!r4)) == false) false (fH n_0 v_3)).bind fun r6 =>
 ((eP ((((!r2) || (!r4)) || (!r6)) == false) false (qU aJd)).bind fun r8 =>
 (bif ((((!r2) || (!r4)) || (!r6)) || (!r8)) then
  some (l_1, 1)
 else
  ((nK l_1 u_2 v_3).bind fun ⟨r10, r11⟩ =>
  (bif (!r11) then
   some (l_1, 9)
  else
   ((jW l_1).bind fun r13 =>
   ((idx r13 r10).bind fun x15 =>
   ((stt r13 r10 (aC.mk x15.U x15.V aJd)).bind fun l17 =>
   some (l17, 0)))))))))))
theorem aRb {n_0 : Int} {l_1 : List aC} {u_2 : Int} {v_3 : Int} {aJd : Int} {r : (List aC) × Int} (hm : aAd n_0 l_1 u_2 v_3 aJd = some r) : bC prog 172 [vi n_0, vl aO l_1, vi u_2, vi v_3, vi aJd] (.tup [vl aO r.1, vi r.2]) := by
 refine bd 55 func172 ?_
 obtain ⟨r2, h1, hm⟩ := bnd hm
 refine W ?_
 refine cq (lR h1) ?_
 obtain ⟨r4, h3, hm⟩ := bnd hm
 refine W ?_
 refine cg (fun hb => kL (cK h3 hb)) ?_
 obtain ⟨r6, h5, hm⟩ := bnd hm
 refine W ?_
 refine cg (fun hb => kL (cK h5 hb)) ?_
 obtain ⟨r8, h7, hm⟩ := bnd hm
 refine W ?_
 refine cg (fun hb => aI6 (cK h7 hb)) ?_
 refine W ?_
 refine cm hm (fun hm => ?_) fun hm => ?_
 · exact E
 refine W ?_
 obtain ⟨⟨r10, r11⟩, h9, hm⟩ := bnd hm
 refine cq (zR h9) ?_
 refine W ?_
 refine cm hm (fun hm => ?_) fun hm => ?_
 · exact E
 obtain ⟨r13, h12, hm⟩ := bnd hm
 refine W ?_
 refine aW.callF (id := 257) Zd Z1 bT9 (fun H => (cD (cE.sl _ _ _) .nil)) cE Z5 (aKy h12) ?_
 obtain ⟨x15, h14, hm⟩ := bnd hm
 obtain ⟨l17, h16, hm⟩ := bnd hm
 refine W ?_
 have qh16 := jI h16
 refine aW.heap0 (id := 325) rfl (bMk cE (off := 2) (y := x15) (y' := (aC.mk x15.U x15.V aJd)) (cs := [.v (.int .i64 aJd)]) sz3 Z1 Z1 Z3 rfl h14 rfl Zd Z9 rfl h16) ?_
 exact E
def uY (n_0 : Int) (v_1 : Int) : Option (Bool) :=
 some ((decide (0 ≤ v_1)) && (decide (v_1 < n_0)))
theorem aHr {n_0 : Int} {v_1 : Int} {r : Bool} (hm : uY n_0 v_1 = some r) : bC prog 190 [vi n_0, vi v_1] (vb r) := by
 refine bd 12 func190 ?_
 exact E
end Go.Proofs.YtkdohhmacfoolaaGreat
