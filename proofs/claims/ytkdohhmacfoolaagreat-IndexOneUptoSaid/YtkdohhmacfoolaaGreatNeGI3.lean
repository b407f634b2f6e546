/- Facts that the statement's proof is made of. No condition. -/
import Derived.Test.YtkdohhmacfoolaaGreatNeGI2
import Derived.Test.YtkdohhmacfoolaaGreatNePl
set_option linter.unusedVariables false
set_option linter.unusedSimpArgs false
set_option maxRecDepth 20000
set_option maxHeartbeats 4000000
namespace Go.Proofs.YtkdohhmacfoolaaGreat
open Go Go.AM
structure aR where
 List : List Int
 At : Int
deriving DecidableEq
def aD7 (e : aR) : List AV := [.sl (e.List.flatMap (ci .u64)) e.List.length false, .v (.int .i64 e.At)]
theorem zU (e : aR) (r : List AV) : aD7 e ++ r = .sl (e.List.flatMap (ci .u64)) e.List.length false :: .v (.int .i64 e.At) :: r := rfl
attribute [go_sem] zU
theorem aVt (xs : List AV) : aH Tryz.prog 120 (.ptr (xs)) 0 = some (.ptr xs) := by kernel_rfl
attribute [go_sem] aVt
theorem aW1 (x0 : AV) (xs : List AV) : aH Tryz.prog 120 (.ptr (x0 :: xs)) 1 = some (.ptr xs) := by kernel_rfl
attribute [go_sem] aW1
theorem aV8 (xs : List AV) : aH Tryz.prog 151 (.ptr (xs)) 0 = some (.ptr xs) := by kernel_rfl
attribute [go_sem] aV8
theorem aV4 (x0 : AV) (xs : List AV) : aH Tryz.prog 151 (.ptr (x0 :: xs)) 1 = some (.ptr xs) := by kernel_rfl
attribute [go_sem] aV4
theorem aX4 (i o : Nat) : aH Tryz.prog 102 (.adr i o) 0 = some (.adr i (o + 0)) := by kernel_rfl
attribute [go_sem] aX4
theorem aY9 (i o : Nat) : aH Tryz.prog 102 (.adr i o) 1 = some (.adr i (o + 1)) := by kernel_rfl
attribute [go_sem] aY9
theorem aWu (i o : Nat) : aH Tryz.prog 102 (.adr i o) 2 = some (.adr i (o + 2)) := by kernel_rfl
attribute [go_sem] aWu
theorem bCf (i o : Nat) : aH Tryz.prog 23 (.adr i o) 0 = some (.adr i (o + 0)) := by kernel_rfl
attribute [go_sem] bCf
theorem bCx (i o : Nat) : aH Tryz.prog 23 (.adr i o) 1 = some (.adr i (o + 1)) := by kernel_rfl
attribute [go_sem] bCx
theorem bC7 (i o : Nat) : aH Tryz.prog 23 (.adr i o) 2 = some (.adr i (o + 2)) := by kernel_rfl
attribute [go_sem] bC7
theorem bD4 (i o : Nat) : aH Tryz.prog 30 (.adr i o) 0 = some (.adr i (o + 0)) := by kernel_rfl
attribute [go_sem] bD4
theorem bAh (i o : Nat) : aH Tryz.prog 30 (.adr i o) 1 = some (.adr i (o + 3)) := by kernel_rfl
attribute [go_sem] bAh
theorem bAt (i o : Nat) : aH Tryz.prog 30 (.adr i o) 2 = some (.adr i (o + 4)) := by kernel_rfl
attribute [go_sem] bAt
theorem bDr (i o : Nat) : aH Tryz.prog 33 (.adr i o) 0 = some (.adr i (o + 0)) := by kernel_rfl
attribute [go_sem] bDr
theorem bAg (i o : Nat) : aH Tryz.prog 33 (.adr i o) 1 = some (.adr i (o + 5)) := by kernel_rfl
attribute [go_sem] bAg
theorem bBv (i o : Nat) : aH Tryz.prog 35 (.adr i o) 1 = some (.adr i (o + 1)) := by kernel_rfl
attribute [go_sem] bBv
theorem bDd (i o : Nat) : aH Tryz.prog 42 (.adr i o) 1 = some (.adr i (o + 1)) := by kernel_rfl
attribute [go_sem] bDd
theorem bB7 (i o : Nat) : aH Tryz.prog 45 (.adr i o) 0 = some (.adr i (o + 0)) := by kernel_rfl
attribute [go_sem] bB7
theorem bCn (i o : Nat) : aH Tryz.prog 45 (.adr i o) 1 = some (.adr i (o + 1)) := by kernel_rfl
attribute [go_sem] bCn
theorem bC6 (i o : Nat) : aH Tryz.prog 45 (.adr i o) 2 = some (.adr i (o + 2)) := by kernel_rfl
attribute [go_sem] bC6
theorem bD8 (i o : Nat) : aH Tryz.prog 56 (.adr i o) 0 = some (.adr i (o + 0)) := by kernel_rfl
attribute [go_sem] bD8
theorem bDi (i o : Nat) : aH Tryz.prog 56 (.adr i o) 1 = some (.adr i (o + 5)) := by kernel_rfl
attribute [go_sem] bDi
theorem bCb (i o : Nat) : aH Tryz.prog 60 (.adr i o) 0 = some (.adr i (o + 0)) := by kernel_rfl
attribute [go_sem] bCb
theorem bAu (i o : Nat) : aH Tryz.prog 60 (.adr i o) 1 = some (.adr i (o + 1)) := by kernel_rfl
attribute [go_sem] bAu
theorem bCd (i o : Nat) (k : IntKind) : gC Tryz.prog 69 (.adr i o) (.v (.int k 0)) = some (.adr i o) := by kernel_rfl
theorem bDh (i o : Nat) (k : IntKind) : gC Tryz.prog 69 (.adr i o) (.v (.int k 1)) = some (.adr i (o + 1)) := by kernel_rfl
attribute [go_sem] bCd bDh
theorem bGv (H : aJ) (x0 x1 x2 : AV) (xs : List AV) : bM Tryz.prog H 102 (.ptr (x0 :: x1 :: x2 :: xs)) = some (.agg [x0, x1, x2]) := by kernel_rfl
attribute [go_sem] bGv
theorem bIk (H : aJ) (x0 x1 x2 : AV) (xs : List AV) : bM Tryz.prog H 23 (.ptr (x0 :: x1 :: x2 :: xs)) = some (.agg [x0, x1, x2]) := by kernel_rfl
attribute [go_sem] bIk
theorem bL9 (H : aJ) (x : AV) (xs : List AV) : bM Tryz.prog H 24 (.ptr (x :: xs)) = some x := by kernel_rfl
attribute [go_sem] bL9
theorem bKh (H : aJ) (x : AV) (xs : List AV) : bM Tryz.prog H 27 (.ptr (x :: xs)) = some x := by kernel_rfl
attribute [go_sem] bKh
theorem bL5 (H : aJ) (x : AV) (xs : List AV) : bM Tryz.prog H 28 (.ptr (x :: xs)) = some x := by kernel_rfl
attribute [go_sem] bL5
theorem bN2 (H : aJ) (x : AV) (xs : List AV) : bM Tryz.prog H 3 (.ptr (x :: xs)) = some x := by kernel_rfl
attribute [go_sem] bN2
theorem bKz (H : aJ) (x0 x1 x2 x3 x4 : AV) (xs : List AV) : bM Tryz.prog H 30 (.ptr (x0 :: x1 :: x2 :: x3 :: x4 :: xs)) = some (.agg [x0, x1, x2, x3, x4]) := by kernel_rfl
attribute [go_sem] bKz
theorem bK5 (H : aJ) (x : AV) (xs : List AV) : bM Tryz.prog H 31 (.ptr (x :: xs)) = some x := by kernel_rfl
attribute [go_sem] bK5
theorem bJn (H : aJ) (x0 x1 x2 x3 x4 x5 : AV) (xs : List AV) : bM Tryz.prog H 33 (.ptr (x0 :: x1 :: x2 :: x3 :: x4 :: x5 :: xs)) = some (.agg [x0, x1, x2, x3, x4, x5]) := by kernel_rfl
attribute [go_sem] bJn
theorem bMu (H : aJ) (x : AV) (xs : List AV) : bM Tryz.prog H 4 (.ptr (x :: xs)) = some x := by kernel_rfl
attribute [go_sem] bMu
theorem bJa (H : aJ) (x0 x1 x2 : AV) (xs : List AV) : bM Tryz.prog H 42 (.ptr (x0 :: x1 :: x2 :: xs)) = some (.agg [x0, x1, x2]) := by kernel_rfl
attribute [go_sem] bJa
theorem bL2 (H : aJ) (x : AV) (xs : List AV) : bM Tryz.prog H 43 (.ptr (x :: xs)) = some x := by kernel_rfl
attribute [go_sem] bL2
theorem bIq (H : aJ) (x0 x1 x2 x3 : AV) (xs : List AV) : bM Tryz.prog H 45 (.ptr (x0 :: x1 :: x2 :: x3 :: xs)) = some (.agg [x0, x1, x2, x3]) := by kernel_rfl
attribute [go_sem] bIq
theorem bIn (H : aJ) (x : AV) (xs : List AV) : bM Tryz.prog H 54 (.ptr (x :: xs)) = some x := by kernel_rfl
attribute [go_sem] bIn
theorem bJc (H : aJ) (x0 x1 x2 x3 x4 x5 : AV) (xs : List AV) : bM Tryz.prog H 56 (.ptr (x0 :: x1 :: x2 :: x3 :: x4 :: x5 :: xs)) = some (.agg [x0, x1, x2, x3, x4, x5]) := by kernel_rfl
attribute [go_sem] bJc
theorem bLb (H : aJ) (x0 x1 : AV) (xs : List AV) : bM Tryz.prog H 60 (.ptr (x0 :: x1 :: xs)) = some (.agg [x0, x1]) := by kernel_rfl
attribute [go_sem] bLb
theorem bKy (H : aJ) (x0 x1 : AV) (xs : List AV) : bM Tryz.prog H 69 (.ptr (x0 :: x1 :: xs)) = some (.agg [x0, x1]) := by kernel_rfl
attribute [go_sem] bKy
theorem bD7 (H : aJ) (k : IntKind) (n : Int) : lU Tryz.prog H 3 43 (.v (.int k n)) = some (.v (.int .u64 (IntKind.u64.wrap n))) := fP Tryz.underlying3 Tryz.underlying43
attribute [go_sem] bD7
theorem bDo (H : aJ) (k : IntKind) (n : Int) : lU Tryz.prog H 5 43 (.v (.int k n)) = some (.v (.int .u64 (IntKind.u64.wrap n))) := fP Tryz.underlying5 Tryz.underlying43
attribute [go_sem] bDo
theorem bAm (H : aJ) (k : IntKind) (n : Int) : lU Tryz.prog H 43 5 (.v (.int k n)) = some (.v (.int .u8 (IntKind.u8.wrap n))) := fP Tryz.underlying43 Tryz.underlying5
attribute [go_sem] bAm
def aB3 (w_0 : aR) : Option (Bool) :=
 some ((decide (0 ≤ w_0.At)) && (decide (w_0.At ≤ (w_0.List.length : Int))))
def aO9 (rec1 : aR → aR → Int → Option (Int × aR × Int)) (w_1 : aR) (t3 : aR) (aGb : Int) : Option (Int × aR × Int) :=
 (bif (decide (aGb < (w_1.List.length : Int))) then
  ((idx w_1.List aGb).bind fun x4 =>
  (bif ((Int.tmod x4 2305843009213693952) != 2305843009213693951) then
   some ((Int.tmod x4 2305843009213693952), (aR.mk w_1.List (IntKind.i64.wrap (aGb + 1))), 0)
  else
   rec1 w_1 t3 (IntKind.i64.wrap (aGb + 1))))
 else
  some (0, w_1, 5))
def aEy : Nat → aR → aR → Int → Option (Int × aR × Int)
 | 0 => fun _ _ _ => none
 | n + 1 => aO9 (aEy n)
def aRr (w_0 : aR) : Option (Int × aR × Int) :=
 ((aB3 w_0).bind fun r2 =>
 (bif (!r2) then
  some (0, w_0, 1)
 else
  aEy bF w_0 (aR.mk [] 0) w_0.At))
def aMi (rec2 : Int → aR → List Int → aR → List bT → Int → Option ((List bT) × aR × Int)) (n_1 : Int) (t5 : aR) (aLi : List Int) (v_8 : aR) (bFw : List bT) (bIt : Int) : Option ((List bT) × aR × Int) :=
 (bif (decide (bIt < n_1)) then
  ((idx aLi (IntKind.i64.wrap (2 * bIt))).bind fun x10 =>
  ((idx aLi (IntKind.i64.wrap ((IntKind.i64.wrap (2 * bIt)) + 1))).bind fun x12 =>
  ((app bFw [(bT.mk x10 x12)]).bind fun l14 =>
  rec2 n_1 t5 aLi v_8 l14 (IntKind.i64.wrap (bIt + 1)))))
 else
  some (bFw, v_8, 0))
def aCi : Nat → Int → aR → List Int → aR → List bT → Int → Option ((List bT) × aR × Int)
 | 0 => fun _ _ _ _ _ _ => none
 | n + 1 => aMi (aCi n)
def aMm (rec1 : Int → aR → aR → List Int → aR → Option ((List bT) × aR × Int)) (n_1 : Int) (w_2 : aR) (t5 : aR) (aLi : List Int) (v_8 : aR) : Option ((List bT) × aR × Int) :=
 (bif (decide ((aLi.length : Int) < (IntKind.i64.wrap (2 * n_1)))) then
  ((aRr v_8).bind fun ⟨r4, r5, r6⟩ =>
  (bif (r6 != 0) then
   some ([], w_2, r6)
  else
   ((app aLi [r4]).bind fun l8 =>
   rec1 n_1 w_2 t5 l8 r5)))
 else
  aCi bF n_1 t5 aLi v_8 [] 0)
def aCu : Nat → Int → aR → aR → List Int → aR → Option ((List bT) × aR × Int)
 | 0 => fun _ _ _ _ _ => none
 | n + 1 => aMm (aCu n)
def aEv (w_0 : aR) (n_1 : Int) : Option ((List bT) × aR × Int) :=
 ((aB3 w_0).bind fun r2 =>
 (bif (((!r2) || (decide (n_1 < 0))) || (decide (128 < n_1))) then
  some ([], w_0, 1)
 else
  aCu bF n_1 w_0 (aR.mk [] 0) [] w_0))
def tB (rec1 : aC → List Int → Int → Option ((List Int))) (rec2 : aC → List Int → Int → List Int → Int → Option ((List Int))) (m_2 : aC) (tY : List Int) (i_6 : Int) (fF : List Int) (k_8 : Int) : Option ((List Int)) :=
 rec2 m_2 tY i_6 fF (IntKind.i64.wrap (k_8 + 1))
def zG (rec1 : aC → List Int → Int → Option ((List Int))) (rec2 : aC → List Int → Int → List Int → Int → Option ((List Int))) (m_2 : aC) (tY : List Int) (i_6 : Int) (fF : List Int) (k_8 : Int) : Option ((List Int)) :=
 (bif (decide (k_8 < (fF.length : Int))) then
  ((idx fF k_8).bind fun x6 =>
  ((tJ tY x6).bind fun r8 =>
  (bif (decide (r8 < 0)) then
   ((idx fF k_8).bind fun x10 =>
   ((app tY [x10]).bind fun l12 =>
   tB rec1 rec2 m_2 l12 i_6 fF k_8))
  else
   tB rec1 rec2 m_2 tY i_6 fF k_8)))
 else
  rec1 m_2 tY (IntKind.i64.wrap (i_6 + 1)))
def lF (rec1 : aC → List Int → Int → Option ((List Int))) : Nat → aC → List Int → Int → List Int → Int → Option ((List Int))
 | 0 => fun _ _ _ _ _ => none
 | n + 1 => zG rec1 (lF rec1 n)
def zK (rec1 : aC → List Int → Int → Option ((List Int))) (m_2 : aC) (tY : List Int) (i_6 : Int) : Option ((List Int)) :=
 (bif (decide (i_6 < (tY.length : Int))) then
  ((idx tY i_6).bind fun x2 =>
  ((yB m_2 x2).bind fun r4 =>
  lF rec1 bF m_2 tY i_6 r4 0))
 else
  ((zT tY).bind fun r14 =>
  some r14))
def gF : Nat → aC → List Int → Int → Option ((List Int))
 | 0 => fun _ _ _ => none
 | n + 1 => zK (gF n)
def vL (m_0 : aC) (a_1 : Int) : Option ((List Int)) :=
 gF bF m_0 [a_1] 0
theorem aGv {m_0 : aC} {a_1 : Int} {r : (List Int)} (hm : vL m_0 a_1 = some r) : aZ Tryz.prog 25 [.agg [vi m_0.Most, vl (ci .u64) m_0.Keys, vl bJ m_0.Pairs], vu a_1] (vl (ci .u64) r) := by
 refine bd 45 Tryz.func25 ?_
 refine W ?_
 refine aL (CFi .u64) [a_1] ?_
 refine W ?_
 refine lp (fun m s => ∃ m_2 tY i_6, s = ⟨45, (aF (aF (aF fa 2 (.adr 1 0)) 5 (.own 2 0 tY.length)) 6 (vi i_6)), ⟨(upd (upd aX 1 (.cells 1 [vi m_2.Most, vl (ci .u64) m_2.Keys, vl bJ m_2.Pairs] 0)) 2 (.cells 1 (tY.flatMap (ci .u64)) 0)), 64⟩⟩ ∧ gF m m_2 tY i_6 = some r) (Lr (fun j => bif j == 1 then 0 else bif j == 2 then 65 else 0)) ?_
 rintro n1 s ⟨m_2, tY, i_6, rfl, hm⟩
 refine W ?_
 refine cm hm (fun hm => ?_) fun hm => ?_
 ·
  obtain ⟨x2, h1, hm⟩ := bnd hm
  obtain ⟨r4, h3, hm⟩ := bnd hm
  refine W ?_
  refine cq (aJg h3) ?_
  refine W ?_
  refine lp (fun m s => ∃ m_2 tY i_6 fF k_8, s = ⟨45, (aF (aF (aF (aF (aF fa 2 (.adr 1 0)) 5 (.own 2 0 tY.length)) 6 (vi i_6)) 7 (vl (ci .u64) fF)) 8 (vi k_8)), ⟨(upd (upd aX 1 (.cells 1 [vi m_2.Most, vl (ci .u64) m_2.Keys, vl bJ m_2.Pairs] 0)) 2 (.cells 1 (tY.flatMap (ci .u64)) 0)), 64⟩⟩ ∧ lF (gF n1) m m_2 tY i_6 fF k_8 = some r) (Lr (fun j => bif j == 1 then 1 else bif j == 2 then 2 else 0)) ?_
  rintro n2 s ⟨m_2, tY, i_6, fF, k_8, rfl, hm⟩
  refine W ?_
  refine cm hm (fun hm => ?_) fun hm => ?_
  ·
   refine V ?_
   refine AWp.seqJ (fun s => ∃ m_2 tY i_6 fF k_8, s = ⟨45, (aF (aF (aF (aF (aF fa 2 (.adr 1 0)) 5 (.own 2 0 tY.length)) 6 (vi i_6)) 7 (vl (ci .u64) fF)) 8 (vi k_8)), ⟨(upd (upd aX 1 (.cells 1 [vi m_2.Most, vl (ci .u64) m_2.Keys, vl bJ m_2.Pairs] 0)) 2 (.cells 1 (tY.flatMap (ci .u64)) 0)), 64⟩⟩ ∧ tB (gF n1) (lF (gF n1) n2) m_2 tY i_6 fF k_8 = some r) ?_ ?_
   ·
    obtain ⟨x6, h5, hm⟩ := bnd hm
    obtain ⟨r8, h7, hm⟩ := bnd hm
    refine W ?_
    refine aU.callB (r := .v (.int .i64 r8)) Zd Z1 bUf (.cons (lto (CFi .u64) Z1 Z3 Z6) (.cons (ltd fun H => (td Z1 (.v _))) aOd.nil)) bF4 (aD4 h7) ?_
    refine W ?_
    refine cm hm (fun hm => ?_) fun hm => ?_
    ·
     have hm := sb hm h5
     refine W ?_
     refine aL (CFi .u64) [x6] ?_
     obtain ⟨l12, h11, hm⟩ := bnd hm
     refine W ?_
     exact Lr (fun j => bif j == 1 then 1 else bif j == 2 then 198 else 0)
    refine W ?_
    exact Lr (fun j => bif j == 1 then 1 else bif j == 2 then 2 else 0)
   rintro s ⟨m_2, tY, i_6, fF, k_8, rfl, hm⟩
   refine W ?_
   exact Lr (fun j => bif j == 1 then 1 else bif j == 2 then 2 else 0)
  refine W ?_
  exact Lr (fun j => bif j == 1 then 1 else bif j == 2 then 2 else 0)
 iterate 5 refine S1 ?_
 refine AWp.seq' ?_
 refine AWp.weaken (aEe (CFi .u64) 5 2 Z1 Z3 Z6) ?_
 obtain ⟨r14, h13, hm⟩ := bnd hm
 refine W ?_
 refine cq (aOm h13) ?_
 exact E
def yI (rec2 : aE → aC → Int → List Int → Int → Int → Option (Bool)) (s_8 : aE) (eC : aC) (bV : Int) (t92 : List Int) (t93 : Int) (t94 : Int) : Option (Bool) :=
 rec2 s_8 eC bV t92 t93 (IntKind.i64.wrap (t94 + 1))
def aD6 (rec2 : aE → aC → Int → List Int → Int → Int → Option (Bool)) (rec3 : aE → aC → Int → Int → List Int → List Int → Int → Int → List Int → Int → Int → Option (Bool)) (rec4 : aE → aC → Int → Int → List Int → Int → Bool → List Int → Int → Int → List Int → Int → Int → List Int → Int → Int → Option (Bool)) (s_8 : aE) (eC : aC) (bV : Int) (aIs : Int) (xG : List Int) (bBg : Int) (aPq : Bool) (t92 : List Int) (t93 : Int) (t94 : Int) (t127 : List Int) (t128 : Int) (t129 : Int) (t133 : List Int) (t134 : Int) (t135 : Int) : Option (Bool) :=
 (bif (decide (t135 < t134)) then
  ((idx t133 t135).bind fun x34 =>
  rec4 s_8 eC bV aIs xG bBg (aPq || (bBg == x34)) t92 t93 t94 t127 t128 t129 t133 t134 (IntKind.i64.wrap (t135 + 1)))
 else
  (bif (!aPq) then
   some false
  else
   rec3 s_8 eC bV aIs xG t92 t93 t94 t127 t128 (IntKind.i64.wrap (t129 + 1))))
def uC (rec2 : aE → aC → Int → List Int → Int → Int → Option (Bool)) (rec3 : aE → aC → Int → Int → List Int → List Int → Int → Int → List Int → Int → Int → Option (Bool)) : Nat → aE → aC → Int → Int → List Int → Int → Bool → List Int → Int → Int → List Int → Int → Int → List Int → Int → Int → Option (Bool)
 | 0 => fun _ _ _ _ _ _ _ _ _ _ _ _ _ _ _ _ => none
 | n + 1 => aD6 rec2 rec3 (uC rec2 rec3 n)
def aDm (rec2 : aE → aC → Int → List Int → Int → Int → Option (Bool)) (rec3 : aE → aC → Int → Int → List Int → List Int → Int → Int → List Int → Int → Int → Option (Bool)) (s_8 : aE) (eC : aC) (bV : Int) (aIs : Int) (xG : List Int) (t92 : List Int) (t93 : Int) (t94 : Int) (t127 : List Int) (t128 : Int) (t129 : Int) : Option (Bool) :=
 (bif (decide (t129 < t128)) then
  ((idx t127 t129).bind fun x32 =>
  uC rec2 rec3 bF s_8 eC bV aIs xG x32 false t92 t93 t94 t127 t128 t129 xG (xG.length : Int) 0)
 else
  ((idx xG 0).bind fun x36 =>
  (bif (x36 == aIs) then
   yI rec2 s_8 eC (IntKind.i64.wrap (bV + 1)) t92 t93 t94
  else
   yI rec2 s_8 eC bV t92 t93 t94)))
def mF (rec2 : aE → aC → Int → List Int → Int → Int → Option (Bool)) : Nat → aE → aC → Int → Int → List Int → List Int → Int → Int → List Int → Int → Int → Option (Bool)
 | 0 => fun _ _ _ _ _ _ _ _ _ _ _ => none
 | n + 1 => aDm rec2 (mF rec2 n)
def aDu (rec5 : aC → Int → Int → Bool → List aI → Bool → List aI → Int → Int → Option (Bool)) (eC : aC) (bV : Int) (vR : Int) (aLz : Bool) (xZ : List aI) (aLl : Bool) (t179 : List aI) (t180 : Int) (t181 : Int) : Option (Bool) :=
 (bif (decide (t181 < t180)) then
  ((idx t179 t181).bind fun x53 =>
  ((fC ((decide (x53.x1 ≤ x53.x0)) == false) false (aAt eC x53.x0 x53.x1)).bind fun r55 =>
  (bif ((decide (x53.x1 ≤ x53.x0)) || (!r55)) then
   some false
  else
   rec5 eC bV vR aLz xZ aLl t179 t180 (IntKind.i64.wrap (t181 + 1)))))
 else
  ((fC ((((aLz && aLl) && (decide (bV ≤ vR))) && ((xZ.length : Int) == (IntKind.i64.wrap ((eC.Keys.length : Int) - vR)))) == true) false (jD )).bind fun r57 =>
  some ((((aLz && aLl) && (decide (bV ≤ vR))) && ((xZ.length : Int) == (IntKind.i64.wrap ((eC.Keys.length : Int) - vR)))) && r57)))
def tU : Nat → aC → Int → Int → Bool → List aI → Bool → List aI → Int → Int → Option (Bool)
 | 0 => fun _ _ _ _ _ _ _ _ _ => none
 | n + 1 => aDu (tU n)
def aCl (rec2 : aE → aC → Int → List Int → Int → Int → Option (Bool)) (s_8 : aE) (eC : aC) (bV : Int) (t92 : List Int) (t93 : Int) (t94 : Int) : Option (Bool) :=
 (bif (decide (t94 < t93)) then
  ((idx t92 t94).bind fun x22 =>
  ((dK s_8 (aY.mk 11 x22 0 ⟨#[]⟩)).bind fun ⟨r24, r25⟩ =>
  ((aVr 24 r25).bind fun ⟨r27, r28⟩ =>
  ((vL eC x22).bind fun r30 =>
  (bif (((!r28) || (decide ((r30.length : Int) < (r27.length : Int)))) || ((r27.length : Int) == 0)) then
   some false
  else
   mF rec2 bF s_8 eC bV x22 r30 t92 t93 t94 r27 (r27.length : Int) 0)))))
 else
  ((dK s_8 (aY.mk 10 0 0 ⟨#[]⟩)).bind fun ⟨r38, r39⟩ =>
  ((aZ1 .i64 3 r39).bind fun ⟨r44, r45⟩ =>
  ((dK s_8 (aY.mk 12 0 0 ⟨#[]⟩)).bind fun ⟨r47, r48⟩ =>
  ((bJk 40 r48).bind fun ⟨r50, r51⟩ =>
  tU bF eC bV r44 r45 r50 r51 r50 (r50.length : Int) 0)))))
def iC : Nat → aE → aC → Int → List Int → Int → Int → Option (Bool)
 | 0 => fun _ _ _ _ _ _ => none
 | n + 1 => aCl (iC n)
def aCf (rec1 : aE → aC → List aY → Int → Int → Option (Bool)) (s_8 : aE) (eC : aC) (t58 : List aY) (t59 : Int) (t60 : Int) : Option (Bool) :=
 (bif (decide (t60 < t59)) then
  ((idx t58 t60).bind fun x12 =>
  (bif ((decide (x12.Do < 1)) || (decide (4 < x12.Do))) then
   ((jD ).bind fun r14 =>
   some r14)
  else
   ((dK s_8 x12).bind fun ⟨r16, r17⟩ =>
   ((dN eC x12.Do x12.A x12.B).bind fun ⟨r19, r20⟩ =>
   rec1 r16 r19 t58 t59 (IntKind.i64.wrap (t60 + 1))))))
 else
  iC bF s_8 eC 0 eC.Keys (eC.Keys.length : Int) 0)
def tV : Nat → aE → aC → List aY → Int → Int → Option (Bool)
 | 0 => fun _ _ _ _ _ => none
 | n + 1 => aCf (tV n)
def aBm (c_0 : aO) (jC : List Int) (l_2 : List aY) : Option (Bool) :=
 ((mN c_0 l_2 30).bind fun r2 =>
 ((jQ c_0 (bD.mk jC 0)).bind fun ⟨r4, r5, r6⟩ =>
 (bif ((decide (r2 < 0)) || (r6 != 0)) then
  ((jD ).bind fun r8 =>
  some r8)
 else
  ((slc l_2 0 r2).bind fun l10 =>
  tV bF r4 (aC.mk c_0.N [] []) l10 (l10.length : Int) 0))))
theorem aXv {c_0 : aO} {jC : List Int} {l_2 : List aY} {r : Bool} (hm : aBm c_0 jC l_2 = some r) : aZ Tryz.prog 5 [.agg [vi c_0.N, vi c_0.L, vi c_0.R], vl (ci .u64) jC, vl cP l_2] (vb r) := by
 refine bd 222 Tryz.func5 ?_
 obtain ⟨r2, h1, hm⟩ := bnd hm
 refine W ?_
 refine cq (aLs h1) ?_
 refine W ?_
 refine pu rfl (by simp only [go_sem, Nat.reduceBEq]; exact (by kernel_rfl : cN Tryz.prog 35 [(0, .sl (jC.flatMap (ci .u64)) jC.length false)] = some (.agg [.sl (jC.flatMap (ci .u64)) jC.length false, .v (.int .i64 0)]))) ?_
 obtain ⟨⟨r4, r5, r6⟩, h3, hm⟩ := bnd hm
 refine cq (aG9 h3) ?_
 refine W ?_
 refine cm hm (fun hm => ?_) fun hm => ?_
 ·
  obtain ⟨r8, h7, hm⟩ := bnd hm
  refine W ?_
  refine cq (nP h7) ?_
  exact E
 refine W ?_
 refine pu rfl (by simp only [go_sem, Nat.reduceBEq]; exact (by kernel_rfl : cN Tryz.prog 42 [(0, .v (.int .i64 c_0.N))] = some (.agg [.v (.int .i64 c_0.N), .v (.slice none 0 0), .v (.slice none 0 0)]))) ?_
 obtain ⟨l10, h9, hm⟩ := bnd hm
 refine W ?_
 refine lp (fun m s => ∃ s_8 eC t58 t59 t60, s = ⟨222, (aF (aF (aF (aF (aF fa 8 (.adr 1 0)) 11 (.adr 2 0)) 58 (vl cP t58)) 59 (vi t59)) 60 (vi t60)), ⟨(upd (upd aX 1 (.cells 1 [vi s_8.Graph.Config.N, vi s_8.Graph.Config.L, vi s_8.Graph.Config.R, vl bI s_8.Graph.Hashes, vl aT s_8.Graph.Edges, vl aW s_8.Slots] 0)) 2 (.cells 1 [vi eC.Most, vl (ci .u64) eC.Keys, vl bJ eC.Pairs] 0)), 64⟩⟩ ∧ tV m s_8 eC t58 t59 t60 = some r) ?_ ?_
 ·
  refine ⟨_, ?_, r4, (aC.mk c_0.N [] []), l10, (l10.length : Int), 0, rfl, hm⟩
  refine St.Le.trans (aRc 58 (.sl (l10.flatMap cP) l10.length false) (fun H => (tdf Z1 (iS.sl _ _ _)))) ?_
  refine St.Le.trans (iJ 259 (ys := [.v (.int .i64 ((aC.mk c_0.N [] []).Most)), .sl (((aC.mk c_0.N [] []).Keys).flatMap (ci .u64)) ((aC.mk c_0.N [] []).Keys).length false, .sl (((aC.mk c_0.N [] []).Pairs).flatMap bJ) ((aC.mk c_0.N [] []).Pairs).length false]) Z3 (.cons (.data _ (.v _)) (.cons (.nil false) (.cons (.nil false) .nil)))) ?_
  exact cn (fun j => bif j == 1 then 136 else bif j == 2 then 259 else 0)
 rintro n1 s ⟨s_8, eC, t58, t59, t60, rfl, hm⟩
 refine W ?_
 refine cm hm (fun hm => ?_) fun hm => ?_
 ·
  obtain ⟨x12, h11, hm⟩ := bnd hm
  refine W ?_
  refine cm hm (fun hm => ?_) fun hm => ?_
  ·
   obtain ⟨r14, h13, hm⟩ := bnd hm
   refine W ?_
   refine cq (nP h13) ?_
   exact E
  refine W ?_
  obtain ⟨⟨r16, r17⟩, h15, hm⟩ := bnd hm
  refine cq (gT h15) ?_
  refine W ?_
  obtain ⟨⟨r19, r20⟩, h18, hm⟩ := bnd hm
  refine cq (aF6 h18) ?_
  refine W ?_
  exact Lr (fun j => bif j == 1 then 1 else bif j == 2 then 2 else 0)
 refine W ?_
 refine lp (fun m s => ∃ s_8 eC bV t92 t93 t94, s = ⟨222, (aF (aF (aF (aF (aF (aF fa 8 (.adr 1 0)) 11 (.adr 2 0)) 14 (vi bV)) 92 (vl (ci .u64) t92)) 93 (vi t93)) 94 (vi t94)), ⟨(upd (upd aX 1 (.cells 1 [vi s_8.Graph.Config.N, vi s_8.Graph.Config.L, vi s_8.Graph.Config.R, vl bI s_8.Graph.Hashes, vl aT s_8.Graph.Edges, vl aW s_8.Slots] 0)) 2 (.cells 1 [vi eC.Most, vl (ci .u64) eC.Keys, vl bJ eC.Pairs] 0)), 64⟩⟩ ∧ iC m s_8 eC bV t92 t93 t94 = some r) (Lr (fun j => bif j == 1 then 1 else bif j == 2 then 2 else 0)) ?_
 rintro n2 s ⟨s_8, eC, bV, t92, t93, t94, rfl, hm⟩
 refine W ?_
 refine cm hm (fun hm => ?_) fun hm => ?_
 ·
  refine V ?_
  refine AWp.seqJ (fun s => ∃ s_8 eC bV t92 t93 t94, s = ⟨222, (aF (aF (aF (aF (aF (aF fa 8 (.adr 1 0)) 11 (.adr 2 0)) 14 (vi bV)) 92 (vl (ci .u64) t92)) 93 (vi t93)) 94 (vi t94)), ⟨(upd (upd aX 1 (.cells 1 [vi s_8.Graph.Config.N, vi s_8.Graph.Config.L, vi s_8.Graph.Config.R, vl bI s_8.Graph.Hashes, vl aT s_8.Graph.Edges, vl aW s_8.Slots] 0)) 2 (.cells 1 [vi eC.Most, vl (ci .u64) eC.Keys, vl bJ eC.Pairs] 0)), 64⟩⟩ ∧ yI (iC n2) s_8 eC bV t92 t93 t94 = some r) ?_ ?_
  ·
   obtain ⟨x22, h21, hm⟩ := bnd hm
   refine W ?_
   refine pu rfl (by simp only [go_sem, Nat.reduceBEq]; exact (by kernel_rfl : cN Tryz.prog 45 [(0, .v (.int .i64 11)), (1, .v (.int .u64 x22))] = some (.agg [.v (.int .i64 11), .v (.int .u64 x22), .v (.int .u64 0), .v (.string ⟨#[]⟩)]))) ?_
   obtain ⟨⟨r24, r25⟩, h23, hm⟩ := bnd hm
   refine cq (gT h23) ?_
   refine W ?_
   obtain ⟨⟨r27, r28⟩, h26, hm⟩ := bnd hm
   refine aU.pop Zd (zI Z1 (GA.data _)) (aN7 Tryz.underlying24 bIf bJ4 Z1 h26) rfl ?_
   obtain ⟨r30, h29, hm⟩ := bnd hm
   refine W ?_
   refine cq (aGv h29) ?_
   refine W ?_
   refine cm hm (fun hm => ?_) fun hm => ?_
   · exact E
   refine W ?_
   refine lp (fun m s => ∃ s_8 eC bV aIs xG t92 t93 t94 t127 t128 t129, s = ⟨222, (aF (aF (aF (aF (aF (aF (aF (aF (aF (aF (aF fa 8 (.adr 1 0)) 11 (.adr 2 0)) 14 (vi bV)) 16 (vu aIs)) 21 (vl (ci .u64) xG)) 92 (vl (ci .u64) t92)) 93 (vi t93)) 94 (vi t94)) 127 (vl (ci .u64) t127)) 128 (vi t128)) 129 (vi t129)), ⟨(upd (upd aX 1 (.cells 1 [vi s_8.Graph.Config.N, vi s_8.Graph.Config.L, vi s_8.Graph.Config.R, vl bI s_8.Graph.Hashes, vl aT s_8.Graph.Edges, vl aW s_8.Slots] 0)) 2 (.cells 1 [vi eC.Most, vl (ci .u64) eC.Keys, vl bJ eC.Pairs] 0)), 64⟩⟩ ∧ mF (iC n2) m s_8 eC bV aIs xG t92 t93 t94 t127 t128 t129 = some r) (Lr (fun j => bif j == 1 then 1 else bif j == 2 then 2 else 0)) ?_
   rintro n3 s ⟨s_8, eC, bV, aIs, xG, t92, t93, t94, t127, t128, t129, rfl, hm⟩
   refine W ?_
   refine cm hm (fun hm => ?_) fun hm => ?_
   ·
    obtain ⟨x32, h31, hm⟩ := bnd hm
    refine W ?_
    refine lp (fun m s => ∃ s_8 eC bV aIs xG bBg aPq t92 t93 t94 t127 t128 t129 t133 t134 t135, s = ⟨222, (aF (aF (aF (aF (aF (aF (aF (aF (aF (aF (aF (aF (aF (aF (aF (aF fa 8 (.adr 1 0)) 11 (.adr 2 0)) 14 (vi bV)) 16 (vu aIs)) 21 (vl (ci .u64) xG)) 23 (vu bBg)) 24 (vb aPq)) 92 (vl (ci .u64) t92)) 93 (vi t93)) 94 (vi t94)) 127 (vl (ci .u64) t127)) 128 (vi t128)) 129 (vi t129)) 133 (vl (ci .u64) t133)) 134 (vi t134)) 135 (vi t135)), ⟨(upd (upd aX 1 (.cells 1 [vi s_8.Graph.Config.N, vi s_8.Graph.Config.L, vi s_8.Graph.Config.R, vl bI s_8.Graph.Hashes, vl aT s_8.Graph.Edges, vl aW s_8.Slots] 0)) 2 (.cells 1 [vi eC.Most, vl (ci .u64) eC.Keys, vl bJ eC.Pairs] 0)), 64⟩⟩ ∧ uC (iC n2) (mF (iC n2) n3) m s_8 eC bV aIs xG bBg aPq t92 t93 t94 t127 t128 t129 t133 t134 t135 = some r) (Lr (fun j => bif j == 1 then 1 else bif j == 2 then 2 else 0)) ?_
    rintro n4 s ⟨s_8, eC, bV, aIs, xG, bBg, aPq, t92, t93, t94, t127, t128, t129, t133, t134, t135, rfl, hm⟩
    refine W ?_
    refine cm hm (fun hm => ?_) fun hm => ?_
    ·
     obtain ⟨x34, h33, hm⟩ := bnd hm
     refine W ?_
     exact Lr (fun j => bif j == 1 then 1 else bif j == 2 then 2 else 0)
    refine W ?_
    refine cm hm (fun hm => ?_) fun hm => ?_
    · exact E
    refine W ?_
    exact Lr (fun j => bif j == 1 then 1 else bif j == 2 then 2 else 0)
   obtain ⟨x36, h35, hm⟩ := bnd hm
   refine W ?_
   refine cm hm (fun hm => ?_) fun hm => ?_
   ·
    refine W ?_
    exact Lr (fun j => bif j == 1 then 1 else bif j == 2 then 2 else 0)
   refine W ?_
   exact Lr (fun j => bif j == 1 then 1 else bif j == 2 then 2 else 0)
  rintro s ⟨s_8, eC, bV, t92, t93, t94, rfl, hm⟩
  refine W ?_
  exact Lr (fun j => bif j == 1 then 1 else bif j == 2 then 2 else 0)
 refine W ?_
 refine pu rfl (by simp only [go_sem, Nat.reduceBEq]; exact (by kernel_rfl : cN Tryz.prog 45 [(0, .v (.int .i64 10))] = some (.agg [.v (.int .i64 10), .v (.int .u64 0), .v (.int .u64 0), .v (.string ⟨#[]⟩)]))) ?_
 obtain ⟨⟨r38, r39⟩, h37, hm⟩ := bnd hm
 refine cq (gT h37) ?_
 refine W ?_
 obtain ⟨⟨r44, r45⟩, h43, hm⟩ := bnd hm
 refine pu rfl (bHb Tryz.underlying3 in3 tz3 Z1 h43) ?_
 refine W ?_
 refine pu rfl (by simp only [go_sem, Nat.reduceBEq]; exact (by kernel_rfl : cN Tryz.prog 45 [(0, .v (.int .i64 12))] = some (.agg [.v (.int .i64 12), .v (.int .u64 0), .v (.int .u64 0), .v (.string ⟨#[]⟩)]))) ?_
 obtain ⟨⟨r47, r48⟩, h46, hm⟩ := bnd hm
 refine cq (gT h46) ?_
 refine W ?_
 obtain ⟨⟨r50, r51⟩, h49, hm⟩ := bnd hm
 refine aU.pop Zd (zI Z1 (GA.data _)) (bG6 Tryz.underlying40 bSn bS3 Z1 h49) rfl ?_
 refine W ?_
 refine lp (fun m s => ∃ eC bV vR aLz xZ aLl t179 t180 t181, s = ⟨222, (aF (aF (aF (aF (aF (aF (aF (aF (aF fa 11 (.adr 1 0)) 14 (vi bV)) 29 (vi vR)) 30 (vb aLz)) 31 (vl bJ xZ)) 32 (vb aLl)) 179 (vl bJ t179)) 180 (vi t180)) 181 (vi t181)), ⟨(upd aX 1 (.cells 1 [vi eC.Most, vl (ci .u64) eC.Keys, vl bJ eC.Pairs] 0)), 64⟩⟩ ∧ tU m eC bV vR aLz xZ aLl t179 t180 t181 = some r) (Lr (fun j => bif j == 1 then 2 else 0)) ?_
 rintro n5 s ⟨eC, bV, vR, aLz, xZ, aLl, t179, t180, t181, rfl, hm⟩
 refine W ?_
 refine cm hm (fun hm => ?_) fun hm => ?_
 ·
  obtain ⟨x53, h52, hm⟩ := bnd hm
  obtain ⟨r55, h54, hm⟩ := bnd hm
  refine W ?_
  refine cg (fun hb => aXo (cM h54 hb)) ?_
  refine W ?_
  refine cm hm (fun hm => ?_) fun hm => ?_
  · exact E
  refine W ?_
  exact Lr (fun j => bif j == 1 then 1 else 0)
 obtain ⟨r57, h56, hm⟩ := bnd hm
 refine W ?_
 refine cg (fun hb => nP (cM h56 hb)) ?_
 exact E
end Go.Proofs.YtkdohhmacfoolaaGreat
