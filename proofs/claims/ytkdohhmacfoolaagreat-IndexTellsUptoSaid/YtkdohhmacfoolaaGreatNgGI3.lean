/- Facts. No condition. -/
import Derived.Test.YtkdohhmacfoolaaGreatNgGI2
set_option linter.unusedVariables false
set_option linter.unusedSimpArgs false
set_option maxRecDepth 20000
set_option maxHeartbeats 4000000
namespace Go.Proofs.YtkdohhmacfoolaaGreat
open Go.Proofs.Tryz Go Go.AM
structure aU where
 List : List Int
 At : Int
deriving DecidableEq
def aFc (e : aU) : List AV := [.sl (e.List.flatMap (ci .u64)) e.List.length false, .v (.int .i64 e.At)]
@[go_sem] theorem aBc (e : aU) (r : List AV) : aFc e ++ r = .sl (e.List.flatMap (ci .u64)) e.List.length false :: .v (.int .i64 e.At) :: r := rfl
@[go_sem] theorem bAd (xs : List AV) : aJ prog 102 (.ptr (xs)) 0 = some (.ptr xs) := by kernel_rfl
@[go_sem] theorem bAf (x0 : AV) (xs : List AV) : aJ prog 102 (.ptr (x0 :: xs)) 1 = some (.ptr xs) := by kernel_rfl
@[go_sem] theorem bAk (xs : List AV) : aJ prog 120 (.ptr (xs)) 0 = some (.ptr xs) := by kernel_rfl
@[go_sem] theorem bAl (x0 : AV) (xs : List AV) : aJ prog 120 (.ptr (x0 :: xs)) 1 = some (.ptr xs) := by kernel_rfl
@[go_sem] theorem bAn (xs : List AV) : aJ prog 151 (.ptr (xs)) 0 = some (.ptr xs) := by kernel_rfl
@[go_sem] theorem bAo (x0 : AV) (xs : List AV) : aJ prog 151 (.ptr (x0 :: xs)) 1 = some (.ptr xs) := by kernel_rfl
@[go_sem] theorem bB1 (i o : Nat) : aJ prog 102 (.adr i o) 0 = some (.adr i (o + 0)) := by kernel_rfl
@[go_sem] theorem bB8 (i o : Nat) : aJ prog 102 (.adr i o) 1 = some (.adr i (o + 1)) := by kernel_rfl
@[go_sem] theorem bBe (i o : Nat) : aJ prog 102 (.adr i o) 2 = some (.adr i (o + 2)) := by kernel_rfl
@[go_sem] theorem bBq (i o : Nat) : aJ prog 151 (.adr i o) 0 = some (.adr i (o + 0)) := by kernel_rfl
@[go_sem] theorem bBr (i o : Nat) : aJ prog 151 (.adr i o) 1 = some (.adr i (o + 1)) := by kernel_rfl
@[go_sem] theorem bFy (i o : Nat) : aJ prog 23 (.adr i o) 0 = some (.adr i (o + 0)) := by kernel_rfl
@[go_sem] theorem bG4 (i o : Nat) : aJ prog 23 (.adr i o) 1 = some (.adr i (o + 1)) := by kernel_rfl
@[go_sem] theorem bG9 (i o : Nat) : aJ prog 23 (.adr i o) 2 = some (.adr i (o + 2)) := by kernel_rfl
@[go_sem] theorem bGf (i o : Nat) : aJ prog 30 (.adr i o) 0 = some (.adr i (o + 0)) := by kernel_rfl
@[go_sem] theorem bGj (i o : Nat) : aJ prog 30 (.adr i o) 1 = some (.adr i (o + 3)) := by kernel_rfl
@[go_sem] theorem bGp (i o : Nat) : aJ prog 30 (.adr i o) 2 = some (.adr i (o + 4)) := by kernel_rfl
@[go_sem] theorem bGs (i o : Nat) : aJ prog 33 (.adr i o) 0 = some (.adr i (o + 0)) := by kernel_rfl
@[go_sem] theorem bGv (i o : Nat) : aJ prog 33 (.adr i o) 1 = some (.adr i (o + 5)) := by kernel_rfl
@[go_sem] theorem bGz (i o : Nat) : aJ prog 35 (.adr i o) 1 = some (.adr i (o + 1)) := by kernel_rfl
@[go_sem] theorem bH2 (i o : Nat) : aJ prog 42 (.adr i o) 1 = some (.adr i (o + 1)) := by kernel_rfl
@[go_sem] theorem bH4 (i o : Nat) : aJ prog 42 (.adr i o) 2 = some (.adr i (o + 2)) := by kernel_rfl
@[go_sem] theorem bH6 (i o : Nat) : aJ prog 45 (.adr i o) 0 = some (.adr i (o + 0)) := by kernel_rfl
@[go_sem] theorem bH8 (i o : Nat) : aJ prog 45 (.adr i o) 1 = some (.adr i (o + 1)) := by kernel_rfl
@[go_sem] theorem bHa (i o : Nat) : aJ prog 45 (.adr i o) 2 = some (.adr i (o + 2)) := by kernel_rfl
@[go_sem] theorem bHe (i o : Nat) : aJ prog 56 (.adr i o) 0 = some (.adr i (o + 0)) := by kernel_rfl
@[go_sem] theorem bHg (i o : Nat) : aJ prog 56 (.adr i o) 1 = some (.adr i (o + 5)) := by kernel_rfl
@[go_sem] theorem bHh (i o : Nat) : aJ prog 60 (.adr i o) 0 = some (.adr i (o + 0)) := by kernel_rfl
@[go_sem] theorem bHi (i o : Nat) : aJ prog 60 (.adr i o) 1 = some (.adr i (o + 1)) := by kernel_rfl
theorem bHn (i o : Nat) (k : IntKind) : iF prog 69 (.adr i o) (.v (.int k 0)) = some (.adr i o) := by kernel_rfl
theorem bHp (i o : Nat) (k : IntKind) : iF prog 69 (.adr i o) (.v (.int k 1)) = some (.adr i (o + 1)) := by kernel_rfl
attribute [go_sem] bHn bHp
@[go_sem] theorem bKi (H : aN) (x0 x1 x2 : AV) (xs : List AV) : bS prog H 102 (.ptr (x0 :: x1 :: x2 :: xs)) = some (.agg [x0, x1, x2]) := by kernel_rfl
@[go_sem] theorem bKs (H : aN) (x0 x1 : AV) (xs : List AV) : bS prog H 151 (.ptr (x0 :: x1 :: xs)) = some (.agg [x0, x1]) := by kernel_rfl
@[go_sem] theorem bNq (H : aN) (x0 x1 x2 : AV) (xs : List AV) : bS prog H 23 (.ptr (x0 :: x1 :: x2 :: xs)) = some (.agg [x0, x1, x2]) := by kernel_rfl
@[go_sem] theorem bNu (H : aN) (x : AV) (xs : List AV) : bS prog H 24 (.ptr (x :: xs)) = some x := by kernel_rfl
@[go_sem] theorem bNy (H : aN) (x : AV) (xs : List AV) : bS prog H 27 (.ptr (x :: xs)) = some x := by kernel_rfl
@[go_sem] theorem bO4 (H : aN) (x : AV) (xs : List AV) : bS prog H 28 (.ptr (x :: xs)) = some x := by kernel_rfl
@[go_sem] theorem bRe (H : aN) (x : AV) (xs : List AV) : bS prog H 3 (.ptr (x :: xs)) = some x := by kernel_rfl
@[go_sem] theorem bOa (H : aN) (x0 x1 x2 x3 x4 : AV) (xs : List AV) : bS prog H 30 (.ptr (x0 :: x1 :: x2 :: x3 :: x4 :: xs)) = some (.agg [x0, x1, x2, x3, x4]) := by kernel_rfl
@[go_sem] theorem bOd (H : aN) (x : AV) (xs : List AV) : bS prog H 31 (.ptr (x :: xs)) = some x := by kernel_rfl
@[go_sem] theorem bOg (H : aN) (x0 x1 x2 x3 x4 x5 : AV) (xs : List AV) : bS prog H 33 (.ptr (x0 :: x1 :: x2 :: x3 :: x4 :: x5 :: xs)) = some (.agg [x0, x1, x2, x3, x4, x5]) := by kernel_rfl
@[go_sem] theorem bRj (H : aN) (x : AV) (xs : List AV) : bS prog H 4 (.ptr (x :: xs)) = some x := by kernel_rfl
@[go_sem] theorem bOk (H : aN) (x : AV) (xs : List AV) : bS prog H 40 (.ptr (x :: xs)) = some x := by kernel_rfl
@[go_sem] theorem bOm (H : aN) (x0 x1 x2 : AV) (xs : List AV) : bS prog H 42 (.ptr (x0 :: x1 :: x2 :: xs)) = some (.agg [x0, x1, x2]) := by kernel_rfl
@[go_sem] theorem bOr (H : aN) (x : AV) (xs : List AV) : bS prog H 43 (.ptr (x :: xs)) = some x := by kernel_rfl
@[go_sem] theorem bOu (H : aN) (x0 x1 x2 x3 : AV) (xs : List AV) : bS prog H 45 (.ptr (x0 :: x1 :: x2 :: x3 :: xs)) = some (.agg [x0, x1, x2, x3]) := by kernel_rfl
@[go_sem] theorem bOw (H : aN) (x : AV) (xs : List AV) : bS prog H 54 (.ptr (x :: xs)) = some x := by kernel_rfl
@[go_sem] theorem bOy (H : aN) (x0 x1 x2 x3 x4 x5 : AV) (xs : List AV) : bS prog H 56 (.ptr (x0 :: x1 :: x2 :: x3 :: x4 :: x5 :: xs)) = some (.agg [x0, x1, x2, x3, x4, x5]) := by kernel_rfl
@[go_sem] theorem bOz (H : aN) (x0 x1 : AV) (xs : List AV) : bS prog H 60 (.ptr (x0 :: x1 :: xs)) = some (.agg [x0, x1]) := by kernel_rfl
@[go_sem] theorem bP2 (H : aN) (x0 x1 : AV) (xs : List AV) : bS prog H 69 (.ptr (x0 :: x1 :: xs)) = some (.agg [x0, x1]) := by kernel_rfl
@[go_sem] theorem bFg (H : aN) (k : IntKind) (n : Int) : mU prog H 3 43 (.v (.int k n)) = some (.v (.int .u64 (IntKind.u64.wrap n))) := gO underlying3 underlying43
@[go_sem] theorem bFl (H : aN) (k : IntKind) (n : Int) : mU prog H 5 43 (.v (.int k n)) = some (.v (.int .u64 (IntKind.u64.wrap n))) := gO underlying5 underlying43
@[go_sem] theorem bFj (H : aN) (k : IntKind) (n : Int) : mU prog H 43 5 (.v (.int k n)) = some (.v (.int .u8 (IntKind.u8.wrap n))) := gO underlying43 underlying5
def tL (m_0 : aF) (a_1 : Int) : Option (Bool) :=
 ((wT m_0.Keys a_1).bind fun r2 =>
 some (decide (0 ≤ r2)))
theorem aKo {m_0 : aF} {a_1 : Int} {r : Bool} (hm : tL m_0 a_1 = some r) : bC prog 51 [.agg [vi m_0.Most, vl (ci .u64) m_0.Keys, vl bO m_0.Pairs], vu a_1] (vb r) := by
 refine bd 10 func51 ?_
 obtain ⟨r2, h1, hm⟩ := bnd hm
 refine W ?_
 refine cq (aGf h1) ?_
 exact E
def aE7 (m_0 : aF) (a_1 : Int) (b_2 : Int) : Option (Bool) :=
 ((rY a_1 b_2).bind fun r2 =>
 ((aCe m_0.Pairs r2).bind fun r4 =>
 some (decide (0 ≤ r4))))
theorem bCw {m_0 : aF} {a_1 : Int} {b_2 : Int} {r : Bool} (hm : aE7 m_0 a_1 b_2 = some r) : bC prog 26 [.agg [vi m_0.Most, vl (ci .u64) m_0.Keys, vl bO m_0.Pairs], vu a_1, vu b_2] (vb r) := by
 refine bd 14 func26 ?_
 obtain ⟨r2, h1, hm⟩ := bnd hm
 refine W ?_
 refine cq (aGi h1) ?_
 obtain ⟨r4, h3, hm⟩ := bnd hm
 refine cq (aTf h3) ?_
 exact E
def oO (fZ : GA) (tY : Bool) : Option (Bool) :=
 ((bBy 4 fZ).bind fun ⟨r2, r3⟩ =>
 some (r3 && (r2 == tY)))
theorem aDa {fZ : GA} {tY : Bool} {r : Bool} (hm : oO fZ tY = some r) : bC prog 29 [GA.av fZ, vb tY] (vb r) := by
 refine bd 18 func29 ?_
 refine W ?_
 obtain ⟨⟨r2, r3⟩, h1, hm⟩ := bnd hm
 refine pu rfl (bEy underlying4 in4 tz4 Z1 h1) ?_
 exact E
def qJ (fZ : GA) (tY : Int) : Option (Bool) :=
 ((bDr .i64 3 fZ).bind fun ⟨r5, r6⟩ =>
 some (r6 && (r5 == tY)))
theorem aBj {fZ : GA} {tY : Int} {r : Bool} (hm : qJ fZ tY = some r) : bC prog 28 [GA.av fZ, vi tY] (vb r) := by
 refine bd 18 func28 ?_
 refine W ?_
 obtain ⟨⟨r5, r6⟩, h4, hm⟩ := bnd hm
 refine pu rfl (aWn underlying3 in3 tz3 Z1 h4) ?_
 exact E
def nF (fZ : GA) (tY : List Int) : Option (Bool) :=
 ((bJw 24 fZ).bind fun ⟨r2, r3⟩ =>
 ((eP (r3 == true) false (wP r2 tY)).bind fun r5 =>
 some (r3 && r5)))
theorem aFv {fZ : GA} {tY : List Int} {r : Bool} (hm : nF fZ tY = some r) : bC prog 27 [GA.av fZ, vl (ci .u64) tY] (vb r) := by
 refine bd 18 func27 ?_
 refine W ?_
 obtain ⟨⟨r2, r3⟩, h1, hm⟩ := bnd hm
 refine aW.pop Zd (aDi Z1 (GA.data _)) (aY9 underlying24 bR5 bS3 Z1 h1) rfl ?_
 obtain ⟨r5, h4, hm⟩ := bnd hm
 refine W ?_
 refine cg (fun hb => aNf (cK h4 hb)) ?_
 exact E
def aIm (rec1 : Int → List bD → Int → Int → Option (Int)) (dS : Int) (t8 : List bD) (t9 : Int) (t10 : Int) : Option (Int) :=
 (bif (decide (t10 < t9)) then
  ((idx t8 t10).bind fun x2 =>
  (bif (x2.Used && (x2.Key == dS)) then
   some t10
  else
   rec1 dS t8 t9 (IntKind.i64.wrap (t10 + 1))))
 else
  some 0)
def zO : Nat → Int → List bD → Int → Int → Option (Int)
 | 0 => fun _ _ _ _ => none
 | n + 1 => aIm (zO n)
def aC5 (s_0 : aH) (dS : Int) : Option (Int) :=
 zO bF dS s_0.Slots (s_0.Slots.length : Int) 0
theorem aLv {s_0 : aH} {dS : Int} {r : Int} (hm : aC5 s_0 dS = some r) : bC prog 53 [.agg [vi s_0.Graph.Config.N, vi s_0.Graph.Config.L, vi s_0.Graph.Config.R, vl bE s_0.Graph.Hashes, vl aO s_0.Graph.Edges, vl aX s_0.Slots], vu dS] (vi r) := by
 refine bd 25 func53 ?_
 refine W ?_
 refine lp (fun m s => ∃ dS t8 t9 t10, s = ⟨25, (aE (aE (aE (aE fa 1 (vu dS)) 8 (vl aX t8)) 9 (vi t9)) 10 (vi t10)), ⟨aV, 64⟩⟩ ∧ zO m dS t8 t9 t10 = some r) L ?_
 rintro n1 s ⟨dS, t8, t9, t10, rfl, hm⟩
 refine W ?_
 refine cm hm (fun hm => ?_) fun hm => ?_
 ·
  obtain ⟨x2, h1, hm⟩ := bnd hm
  refine W ?_
  refine cm hm (fun hm => ?_) fun hm => ?_
  · exact E
  exact L
 exact E
def aA2 (rec1 : List Int → List Int → Int → Option ((List Int))) (rec2 : List Int → List Int → Int → Int → Option ((List Int))) (l_0 : List Int) (jS : List Int) (i_4 : Int) (k_5 : Int) : Option ((List Int)) :=
 ((eP ((decide (k_5 < (jS.length : Int))) == true) 0 (idx jS k_5)).bind fun x2 =>
 ((eP ((decide (k_5 < (jS.length : Int))) == true) 0 (idx l_0 i_4)).bind fun x4 =>
 (bif ((decide (k_5 < (jS.length : Int))) && (decide (x2 < x4))) then
  rec2 l_0 jS i_4 (IntKind.i64.wrap (k_5 + 1))
 else
  ((slc jS 0 k_5).bind fun l6 =>
  ((app [] l6).bind fun l8 =>
  ((idx l_0 i_4).bind fun x10 =>
  ((app l8 [x10]).bind fun l12 =>
  ((slc jS k_5 (jS.length : Int)).bind fun l14 =>
  ((app l12 l14).bind fun l16 =>
  rec1 l_0 l16 (IntKind.i64.wrap (i_4 + 1)))))))))))
def nO (rec1 : List Int → List Int → Int → Option ((List Int))) : Nat → List Int → List Int → Int → Int → Option ((List Int))
 | 0 => fun _ _ _ _ => none
 | n + 1 => aA2 rec1 (nO rec1 n)
def aA1 (rec1 : List Int → List Int → Int → Option ((List Int))) (l_0 : List Int) (jS : List Int) (i_4 : Int) : Option ((List Int)) :=
 (bif (decide (i_4 < (l_0.length : Int))) then
  nO rec1 bF l_0 jS i_4 0
 else
  some jS)
def jE : Nat → List Int → List Int → Int → Option ((List Int))
 | 0 => fun _ _ _ => none
 | n + 1 => aA1 (jE n)
def vF (l_0 : List Int) : Option ((List Int)) :=
 jE bF l_0 [] 0
theorem aS9 {l_0 : List Int} {r : (List Int)} (hm : vF l_0 = some r) : bC prog 66 [vl (ci .u64) l_0] (vl (ci .u64) r) := by
 refine bd 48 func66 ?_
 refine W ?_
 refine lp (fun m s => ∃ l_0 jS i_4, s = ⟨48, (aE (aE (aE fa 0 (vl (ci .u64) l_0)) 3 (.own 1 0 jS.length)) 4 (vi i_4)), ⟨(upd aV 1 (.cells 1 (jS.flatMap (ci .u64)) 0)), 64⟩⟩ ∧ jE m l_0 jS i_4 = some r) ?_ ?_
 ·
  refine ⟨_, ?_, l_0, [], 0, rfl, hm⟩
  refine St.Le.trans (kH 3 900003 1 Z1 Z5) ?_
  exact cn (fun j => bif j == 1 then 900003 else 0)
 rintro n1 s ⟨l_0, jS, i_4, rfl, hm⟩
 refine W ?_
 refine cm hm (fun hm => ?_) fun hm => ?_
 ·
  refine W ?_
  refine lp (fun m s => ∃ l_0 jS i_4 k_5, s = ⟨48, (aE (aE (aE (aE fa 0 (vl (ci .u64) l_0)) 3 (.own 1 0 jS.length)) 4 (vi i_4)) 5 (vi k_5)), ⟨(upd aV 1 (.cells 1 (jS.flatMap (ci .u64)) 0)), 64⟩⟩ ∧ nO (jE n1) m l_0 jS i_4 k_5 = some r) (Lr (fun j => bif j == 1 then 1 else 0)) ?_
  rintro n2 s ⟨l_0, jS, i_4, k_5, rfl, hm⟩
  obtain ⟨x2, h1, hm⟩ := bnd hm
  obtain ⟨x4, h3, hm⟩ := bnd hm
  refine W ?_
  refine cm hm (fun hm => ?_) fun hm => ?_
  ·
   refine W ?_
   exact Lr (fun j => bif j == 1 then 1 else 0)
  iterate 8 refine S1 ?_
  refine AWp.seq' ?_
  refine AWp.weaken (aDb (CFi .u64) 3 1 Z1 Z3 Z6) ?_
  obtain ⟨l6, h5, hm⟩ := bnd hm
  obtain ⟨l8, h7, hm⟩ := bnd hm
  obtain ⟨x10, h9, hm⟩ := bnd hm
  refine W ?_
  refine aL (CFi .u64) [x10] ?_
  obtain ⟨l12, h11, hm⟩ := bnd hm
  obtain ⟨l14, h13, hm⟩ := bnd hm
  obtain ⟨l16, h15, hm⟩ := bnd hm
  refine W ?_
  exact Lr (fun j => bif j == 1 then 324 else 0)
 exact E
def rE (rec1 : Int → aH → List Int → List Int → Int → Option ((List Int))) (v_1 : Int) (s_2 : aH) (p_5 : List Int) (zS : List Int) (i_7 : Int) : Option ((List Int)) :=
 rec1 v_1 s_2 p_5 zS (IntKind.i64.wrap (i_7 + 1))
def xN (rec1 : Int → aH → List Int → List Int → Int → Option ((List Int))) (v_1 : Int) (s_2 : aH) (p_5 : List Int) (zS : List Int) (i_7 : Int) : Option ((List Int)) :=
 (bif (decide (i_7 < (p_5.length : Int))) then
  ((idx p_5 i_7).bind fun x4 =>
  ((idx p_5 v_1).bind fun x6 =>
  ((eP ((x4 == x6) == true) (bD.mk false 0) (idx s_2.Slots i_7)).bind fun x8 =>
  (bif ((x4 == x6) && x8.Used) then
   ((idx s_2.Slots i_7).bind fun x10 =>
   ((app zS [x10.Key]).bind fun l12 =>
   rE rec1 v_1 s_2 p_5 l12 i_7))
  else
   rE rec1 v_1 s_2 p_5 zS i_7))))
 else
  ((vF zS).bind fun r14 =>
  some r14))
def iK : Nat → Int → aH → List Int → List Int → Int → Option ((List Int))
 | 0 => fun _ _ _ _ _ => none
 | n + 1 => xN (iK n)
def kT (s_0 : aH) (v_1 : Int) : Option ((List Int)) :=
 ((jU s_0.Graph).bind fun r2 =>
 iK bF v_1 s_0 r2 [] 0)
theorem aA0 {s_0 : aH} {v_1 : Int} {r : (List Int)} (hm : kT s_0 v_1 = some r) : bC prog 52 [.agg [vi s_0.Graph.Config.N, vi s_0.Graph.Config.L, vi s_0.Graph.Config.R, vl bE s_0.Graph.Hashes, vl aO s_0.Graph.Edges, vl aX s_0.Slots], vi v_1] (vl (ci .u64) r) := by
 refine bd 45 func52 ?_
 obtain ⟨r2, h1, hm⟩ := bnd hm
 refine W ?_
 refine cq (aGc h1) ?_
 refine W ?_
 refine lp (fun m s => ∃ v_1 s_2 p_5 zS i_7, s = ⟨45, (aE (aE (aE (aE (aE fa 1 (vi v_1)) 2 (.adr 1 0)) 5 (vl (ci .i64) p_5)) 6 (.own 2 0 zS.length)) 7 (vi i_7)), ⟨(upd (upd aV 1 (.cells 1 [vi s_2.Graph.Config.N, vi s_2.Graph.Config.L, vi s_2.Graph.Config.R, vl bE s_2.Graph.Hashes, vl aO s_2.Graph.Edges, vl aX s_2.Slots] 0)) 2 (.cells 1 (zS.flatMap (ci .u64)) 0)), 64⟩⟩ ∧ iK m v_1 s_2 p_5 zS i_7 = some r) ?_ ?_
 ·
  refine ⟨_, ?_, v_1, s_0, r2, [], 0, rfl, hm⟩
  refine St.Le.trans (kH 6 900006 1 Z1 Z5) ?_
  exact cn (fun j => bif j == 1 then 0 else bif j == 2 then 900006 else 0)
 rintro n1 s ⟨v_1, s_2, p_5, zS, i_7, rfl, hm⟩
 refine W ?_
 refine cm hm (fun hm => ?_) fun hm => ?_
 ·
  refine V ?_
  refine AWp.seqJ (fun s => ∃ v_1 s_2 p_5 zS i_7, s = ⟨45, (aE (aE (aE (aE (aE fa 1 (vi v_1)) 2 (.adr 1 0)) 5 (vl (ci .i64) p_5)) 6 (.own 2 0 zS.length)) 7 (vi i_7)), ⟨(upd (upd aV 1 (.cells 1 [vi s_2.Graph.Config.N, vi s_2.Graph.Config.L, vi s_2.Graph.Config.R, vl bE s_2.Graph.Hashes, vl aO s_2.Graph.Edges, vl aX s_2.Slots] 0)) 2 (.cells 1 (zS.flatMap (ci .u64)) 0)), 64⟩⟩ ∧ rE (iK n1) v_1 s_2 p_5 zS i_7 = some r) ?_ ?_
  ·
   obtain ⟨x4, h3, hm⟩ := bnd hm
   obtain ⟨x6, h5, hm⟩ := bnd hm
   obtain ⟨x8, h7, hm⟩ := bnd hm
   refine W ?_
   refine cm hm (fun hm => ?_) fun hm => ?_
   ·
    obtain ⟨x10, h9, hm⟩ := bnd hm
    refine W ?_
    refine aL (CFi .u64) [x10.Key] ?_
    obtain ⟨l12, h11, hm⟩ := bnd hm
    refine W ?_
    exact Lr (fun j => bif j == 1 then 1 else bif j == 2 then 200 else 0)
   refine W ?_
   exact Lr (fun j => bif j == 1 then 1 else bif j == 2 then 2 else 0)
  rintro s ⟨v_1, s_2, p_5, zS, i_7, rfl, hm⟩
  refine W ?_
  exact Lr (fun j => bif j == 1 then 1 else bif j == 2 then 2 else 0)
 iterate 5 refine S1 ?_
 refine AWp.seq' ?_
 refine AWp.weaken (aDb (CFi .u64) 6 2 Z1 Z3 Z6) ?_
 obtain ⟨r14, h13, hm⟩ := bnd hm
 refine W ?_
 refine cq (aS9 h13) ?_
 exact E
def vD (rec1 : aH → List Int → Int → Int → Option (Int)) (s_1 : aH) (p_3 : List Int) (n_4 : Int) (i_5 : Int) : Option (Int) :=
 rec1 s_1 p_3 n_4 (IntKind.i64.wrap (i_5 + 1))
def vE (rec1 : aH → List Int → Int → Int → Option (Int)) (rec2 : aH → List Int → Int → Int → Bool → Int → Option (Int)) (s_1 : aH) (p_3 : List Int) (n_4 : Int) (i_5 : Int) (qZ : Bool) (k_7 : Int) : Option (Int) :=
 rec2 s_1 p_3 n_4 i_5 qZ (IntKind.i64.wrap (k_7 + 1))
def aBo (rec1 : aH → List Int → Int → Int → Option (Int)) (rec2 : aH → List Int → Int → Int → Bool → Int → Option (Int)) (s_1 : aH) (p_3 : List Int) (n_4 : Int) (i_5 : Int) (qZ : Bool) (k_7 : Int) : Option (Int) :=
 (bif (decide (k_7 < i_5)) then
  ((idx p_3 k_7).bind fun x6 =>
  ((idx p_3 i_5).bind fun x8 =>
  ((eP ((x6 == x8) == true) (bD.mk false 0) (idx s_1.Slots k_7)).bind fun x10 =>
  (bif ((x6 == x8) && x10.Used) then
   vE rec1 rec2 s_1 p_3 n_4 i_5 false k_7
  else
   vE rec1 rec2 s_1 p_3 n_4 i_5 qZ k_7))))
 else
  (bif qZ then
   vD rec1 s_1 p_3 (IntKind.i64.wrap (n_4 + 1)) i_5
  else
   vD rec1 s_1 p_3 n_4 i_5))
def mI (rec1 : aH → List Int → Int → Int → Option (Int)) : Nat → aH → List Int → Int → Int → Bool → Int → Option (Int)
 | 0 => fun _ _ _ _ _ _ => none
 | n + 1 => aBo rec1 (mI rec1 n)
def aBn (rec1 : aH → List Int → Int → Int → Option (Int)) (s_1 : aH) (p_3 : List Int) (n_4 : Int) (i_5 : Int) : Option (Int) :=
 (bif (decide (i_5 < (p_3.length : Int))) then
  ((idx s_1.Slots i_5).bind fun x4 =>
  mI rec1 bF s_1 p_3 n_4 i_5 x4.Used 0)
 else
  some n_4)
def gA : Nat → aH → List Int → Int → Int → Option (Int)
 | 0 => fun _ _ _ _ => none
 | n + 1 => aBn (gA n)
def yK (s_0 : aH) : Option (Int) :=
 ((jU s_0.Graph).bind fun r2 =>
 gA bF s_0 r2 0 0)
theorem aVv {s_0 : aH} {r : Int} (hm : yK s_0 = some r) : bC prog 54 [.agg [vi s_0.Graph.Config.N, vi s_0.Graph.Config.L, vi s_0.Graph.Config.R, vl bE s_0.Graph.Hashes, vl aO s_0.Graph.Edges, vl aX s_0.Slots]] (vi r) := by
 refine bd 49 func54 ?_
 obtain ⟨r2, h1, hm⟩ := bnd hm
 refine W ?_
 refine cq (aGc h1) ?_
 refine W ?_
 refine lp (fun m s => ∃ s_1 p_3 n_4 i_5, s = ⟨49, (aE (aE (aE (aE fa 1 (.adr 1 0)) 3 (vl (ci .i64) p_3)) 4 (vi n_4)) 5 (vi i_5)), ⟨(upd aV 1 (.cells 1 [vi s_1.Graph.Config.N, vi s_1.Graph.Config.L, vi s_1.Graph.Config.R, vl bE s_1.Graph.Hashes, vl aO s_1.Graph.Edges, vl aX s_1.Slots] 0)), 64⟩⟩ ∧ gA m s_1 p_3 n_4 i_5 = some r) (Lr (fun j => bif j == 1 then 0 else 0)) ?_
 rintro n1 s ⟨s_1, p_3, n_4, i_5, rfl, hm⟩
 refine W ?_
 refine cm hm (fun hm => ?_) fun hm => ?_
 ·
  refine V ?_
  refine AWp.seqJ (fun s => ∃ s_1 p_3 n_4 i_5, s = ⟨49, (aE (aE (aE (aE fa 1 (.adr 1 0)) 3 (vl (ci .i64) p_3)) 4 (vi n_4)) 5 (vi i_5)), ⟨(upd aV 1 (.cells 1 [vi s_1.Graph.Config.N, vi s_1.Graph.Config.L, vi s_1.Graph.Config.R, vl bE s_1.Graph.Hashes, vl aO s_1.Graph.Edges, vl aX s_1.Slots] 0)), 64⟩⟩ ∧ vD (gA n1) s_1 p_3 n_4 i_5 = some r) ?_ ?_
  ·
   obtain ⟨x4, h3, hm⟩ := bnd hm
   refine W ?_
   refine lp (fun m s => ∃ s_1 p_3 n_4 i_5 qZ k_7, s = ⟨49, (aE (aE (aE (aE (aE (aE fa 1 (.adr 1 0)) 3 (vl (ci .i64) p_3)) 4 (vi n_4)) 5 (vi i_5)) 6 (vb qZ)) 7 (vi k_7)), ⟨(upd aV 1 (.cells 1 [vi s_1.Graph.Config.N, vi s_1.Graph.Config.L, vi s_1.Graph.Config.R, vl bE s_1.Graph.Hashes, vl aO s_1.Graph.Edges, vl aX s_1.Slots] 0)), 64⟩⟩ ∧ mI (gA n1) m s_1 p_3 n_4 i_5 qZ k_7 = some r) (Lr (fun j => bif j == 1 then 1 else 0)) ?_
   rintro n2 s ⟨s_1, p_3, n_4, i_5, qZ, k_7, rfl, hm⟩
   refine W ?_
   refine cm hm (fun hm => ?_) fun hm => ?_
   ·
    refine V ?_
    refine AWp.seqJ (fun s => ∃ s_1 p_3 n_4 i_5 qZ k_7, s = ⟨49, (aE (aE (aE (aE (aE (aE fa 1 (.adr 1 0)) 3 (vl (ci .i64) p_3)) 4 (vi n_4)) 5 (vi i_5)) 6 (vb qZ)) 7 (vi k_7)), ⟨(upd aV 1 (.cells 1 [vi s_1.Graph.Config.N, vi s_1.Graph.Config.L, vi s_1.Graph.Config.R, vl bE s_1.Graph.Hashes, vl aO s_1.Graph.Edges, vl aX s_1.Slots] 0)), 64⟩⟩ ∧ vE (gA n1) (mI (gA n1) n2) s_1 p_3 n_4 i_5 qZ k_7 = some r) ?_ ?_
    ·
     obtain ⟨x6, h5, hm⟩ := bnd hm
     obtain ⟨x8, h7, hm⟩ := bnd hm
     obtain ⟨x10, h9, hm⟩ := bnd hm
     refine W ?_
     refine cm hm (fun hm => ?_) fun hm => ?_
     ·
      refine W ?_
      exact Lr (fun j => bif j == 1 then 1 else 0)
     refine W ?_
     exact Lr (fun j => bif j == 1 then 1 else 0)
    rintro s ⟨s_1, p_3, n_4, i_5, qZ, k_7, rfl, hm⟩
    refine W ?_
    exact Lr (fun j => bif j == 1 then 1 else 0)
   refine W ?_
   refine cm hm (fun hm => ?_) fun hm => ?_
   ·
    refine W ?_
    exact Lr (fun j => bif j == 1 then 1 else 0)
   refine W ?_
   exact Lr (fun j => bif j == 1 then 1 else 0)
  rintro s ⟨s_1, p_3, n_4, i_5, rfl, hm⟩
  refine W ?_
  exact Lr (fun j => bif j == 1 then 1 else 0)
 exact E
def nN (rec1 : aH → List aC → List aG → Int → Option ((List aG))) (rec2 : aH → List aC → List aG → Int → aG → Int → Option ((List aG))) (s_1 : aH) (f_3 : List aC) (kN : List aG) (i_5 : Int) (p_6 : aG) (k_7 : Int) : Option ((List aG)) :=
 ((eP ((decide (k_7 < (kN.length : Int))) == true) (aG.mk 0 0) (idx kN k_7)).bind fun x14 =>
 ((eP (((decide (k_7 < (kN.length : Int))) == true) && ((decide (x14.x0 < p_6.x0)) == false)) (aG.mk 0 0) (idx kN k_7)).bind fun x16 =>
 ((eP ((((decide (k_7 < (kN.length : Int))) == true) && ((decide (x14.x0 < p_6.x0)) == false)) && ((x16.x0 == p_6.x0) == true)) (aG.mk 0 0) (idx kN k_7)).bind fun x18 =>
 (bif ((decide (k_7 < (kN.length : Int))) && ((decide (x14.x0 < p_6.x0)) || ((x16.x0 == p_6.x0) && (decide (x18.x1 < p_6.x1))))) then
  rec2 s_1 f_3 kN i_5 p_6 (IntKind.i64.wrap (k_7 + 1))
 else
  ((slc kN 0 k_7).bind fun l20 =>
  ((app [] l20).bind fun l22 =>
  ((app l22 [p_6]).bind fun l24 =>
  ((slc kN k_7 (kN.length : Int)).bind fun l26 =>
  ((app l24 l26).bind fun l28 =>
  rec1 s_1 f_3 l28 (IntKind.i64.wrap (i_5 + 1)))))))))))
def kS (rec1 : aH → List aC → List aG → Int → Option ((List aG))) : Nat → aH → List aC → List aG → Int → aG → Int → Option ((List aG))
 | 0 => fun _ _ _ _ _ _ => none
 | n + 1 => nN rec1 (kS rec1 n)
def nM (rec1 : aH → List aC → List aG → Int → Option ((List aG))) (s_1 : aH) (f_3 : List aC) (kN : List aG) (i_5 : Int) : Option ((List aG)) :=
 (bif (decide (i_5 < (f_3.length : Int))) then
  ((idx f_3 i_5).bind fun x4 =>
  ((idx s_1.Slots x4.U).bind fun x6 =>
  ((idx f_3 i_5).bind fun x8 =>
  ((idx s_1.Slots x8.V).bind fun x10 =>
  ((rY x6.Key x10.Key).bind fun r12 =>
  kS rec1 bF s_1 f_3 kN i_5 r12 0)))))
 else
  some kN)
def fT : Nat → aH → List aC → List aG → Int → Option ((List aG))
 | 0 => fun _ _ _ _ => none
 | n + 1 => nM (fT n)
def qM (s_0 : aH) : Option ((List aG)) :=
 ((mH s_0.Graph.Edges s_0.Graph.Config.L).bind fun r2 =>
 fT bF s_0 r2 [] 0)
theorem aS8 {s_0 : aH} {r : (List aG)} (hm : qM s_0 = some r) : bC prog 56 [.agg [.v (.int .i64 s_0.Graph.Config.N), .v (.int .i64 s_0.Graph.Config.L), .v (.int .i64 s_0.Graph.Config.R), .sl (s_0.Graph.Hashes.flatMap bE) s_0.Graph.Hashes.length false, .sl (s_0.Graph.Edges.flatMap aO) s_0.Graph.Edges.length false, .sl (s_0.Slots.flatMap aX) s_0.Slots.length false]] (.sl (r.flatMap bO) r.length false) := by
 refine bC.of_body func56 rfl ?_
 simp only [ntmps56, List.length_cons, List.length_nil, Nat.reduceAdd, Nat.reduceSub, fL]
 unfold qM at hm
 refine sN 64 (hp (id := 0) rfl rfl (aLd Z1 Z5) ?_)
 refine pA ?_
 refine fs (sN 128 ?_)
 iterate 2 refine pA ?_
 refine pu rfl (kC Z1 Z3 Z4) ?_
 iterate 3 refine pA ?_
 refine pu rfl (kC Z1 Z3 Z4) ?_
 obtain ⟨r2, h1, hm⟩ := bnd hm
 refine aW.callQ (r := .sl (r2.flatMap aO) r2.length false) Zd Z1 bZ4 (fun H => (cD (cE.sl _ _ _) (cV .nil))) (aHx h1) ?_
 refine pA ?_
 refine fs (sN 192 (pA ?_))
 refine fs (AWp.seq' (sN 256 (pA ?_)))
 refine fs (AWp.block (AWp.loopM (fun m s => ∃ (s_1 : aH) (f_3 : List aC) (kN : List aG) (i_5 : Int), s = (⟨95, (aE (aE (aE (aE (fun _ => AV.any) 1 (.adr 1 0)) 3 (.sl (f_3.flatMap aO) f_3.length false)) 4 (.own 2 0 kN.length)) 5 (.v (.int .i64 i_5))), ⟨(upd (upd aV 1 (.cells 1 [.v (.int .i64 s_1.Graph.Config.N), .v (.int .i64 s_1.Graph.Config.L), .v (.int .i64 s_1.Graph.Config.R), .sl (s_1.Graph.Hashes.flatMap bE) s_1.Graph.Hashes.length false, .sl (s_1.Graph.Edges.flatMap aO) s_1.Graph.Edges.length false, .sl (s_1.Slots.flatMap aX) s_1.Slots.length false] 0)) 2 (.cells 2 (kN.flatMap bO) 0)), 64⟩⟩ : St) ∧ fT m s_1 f_3 kN i_5 = some r) bF ?_ ?_ ?_))
 ·
  rintro s ⟨_, _, _, _, _, h⟩
  cases h
 ·
  refine ⟨_, ?_, s_0, r2, [], 0, rfl, hm⟩
  refine St.Le.trans (kH 4 900004 2 Z1 Z5) ?_
  exact dV (fun j => bif j == 1 then 0 else bif j == 2 then 900004 else 0) (wV (wO (wD (cE.sl _ _ _) (cF _ _ (aJg Z1 rfl Z7) fE)))) (hW (eU bY (fQ (iG Z3 (Nat.le_refl _) (Nat.zero_le _) (gN.dat s_0)) gC)))
 ·
  rintro n1 s ⟨s_1, f_3, kN, i_5, rfl, hm⟩
  replace hm : nM (fT n1) s_1 f_3 kN i_5 = some r := hm
  unfold nM at hm
  refine AWp.seq' (sN 128 ?_)
  iterate 4 refine pA ?_
  refine fs (AWp.condM hm Z1 (fun _ hm => ?_) (fun _ hm => ?_))
  ·
   refine AWp.skip (cG (AWp.seq' (AWp.block (sd mix (by kernel_rfl) (N' := 192) rfl ?_))))
   refine pA ?_
   refine pu rfl (kC Z1 Z3 Z4) ?_
   iterate 2 refine pA ?_
   obtain ⟨x4, h3, hm⟩ := bnd hm
   refine pu rfl (zB cE Zd underlying28 aCi Z1 rfl Z1 h3) ?_
   iterate 2 refine pA ?_
   obtain ⟨x6, h5, hm⟩ := bnd hm
   refine pu rfl (zB fF Zd underlying54 bM1 Z1 rfl Z1 h5) ?_
   iterate 3 refine pA ?_
   refine pu rfl (kC Z1 Z3 Z4) ?_
   iterate 2 refine pA ?_
   obtain ⟨x8, h7, hm⟩ := bnd hm
   refine pu rfl (zB cE Zd underlying28 aCi Z1 rfl Z1 h7) ?_
   iterate 2 refine pA ?_
   obtain ⟨x10, h9, hm⟩ := bnd hm
   refine pu rfl (zB fF Zd underlying54 bM1 Z1 rfl Z1 h9) ?_
   iterate 2 refine pA ?_
   obtain ⟨r12, h11, hm⟩ := bnd hm
   refine aW.callQ (r := .agg [.v (.int .u64 r12.x0), .v (.int .u64 r12.x1)]) Zd Z1 bZ2 (fun H => (cV (cV .nil))) (aGi h11) ?_
   refine hp (id := 149) rfl rfl (yA bSb Z5) ?_
   refine aW.heap0 (id := 150) rfl (aLc (ys := [.v (.int .u64 r12.x0), .v (.int .u64 r12.x1)]) aHl Z1 Z1 Z3 rfl (lB rfl) Z9 rfl) ?_
   refine fs (sN 256 (pA ?_))
   refine fs (AWp.seq' (AWp.block (AWp.loopM (fun m s => ∃ (s_1 : aH) (f_3 : List aC) (kN : List aG) (i_5 : Int) (p_6 : aG) (k_7 : Int), s = (⟨95, (aE (aE (aE (aE (aE (aE (fun _ => AV.any) 1 (.adr 1 0)) 3 (.sl (f_3.flatMap aO) f_3.length false)) 4 (.own 2 0 kN.length)) 5 (.v (.int .i64 i_5))) 6 (.adr 3 0)) 7 (.v (.int .i64 k_7))), ⟨(upd (upd (upd aV 1 (.cells 1 [.v (.int .i64 s_1.Graph.Config.N), .v (.int .i64 s_1.Graph.Config.L), .v (.int .i64 s_1.Graph.Config.R), .sl (s_1.Graph.Hashes.flatMap bE) s_1.Graph.Hashes.length false, .sl (s_1.Graph.Edges.flatMap aO) s_1.Graph.Edges.length false, .sl (s_1.Slots.flatMap aX) s_1.Slots.length false] 0)) 2 (.cells 2 (kN.flatMap bO) 0)) 3 (.cells 1 [.v (.int .u64 p_6.x0), .v (.int .u64 p_6.x1)] 0)), 64⟩⟩ : St) ∧ kS (fT n1) m s_1 f_3 kN i_5 p_6 k_7 = some r) bF ?_ ?_ ?_)))
   ·
    rintro s ⟨_, _, _, _, _, _, _, h⟩
    cases h
   ·
    refine ⟨_, ?_, s_1, f_3, kN, i_5, r12, 0, rfl, hm⟩
    exact dV (fun j => bif j == 1 then 1 else bif j == 2 then 2 else bif j == 3 then 149 else 0) (wV (cF _ _ (aJg Z1 rfl Z7) (wV (wO (wD (cE.sl _ _ _) (cF _ _ (aJg Z1 rfl Z7) fE)))))) (fR _ (fQ (iG Z3 (Nat.le_refl _) (Nat.zero_le _) (bY.dat r12)) (eU bY (fQ (iG Z3 (Nat.le_refl _) (Nat.zero_le _) (gN.dat s_1)) gC))) Z8)
   ·
    rintro n2 s ⟨s_1, f_3, kN, i_5, p_6, k_7, rfl, hm⟩
    replace hm : nN (fT n1) (kS (fT n1) n2) s_1 f_3 kN i_5 p_6 k_7 = some r := hm
    unfold nN at hm
    refine AWp.seq' (sd mix (by kernel_rfl) (N' := 128) rfl ?_)
    iterate 7 first | refine pA ?_ | refine pB ?_
    obtain ⟨x14, h13, hm⟩ := bnd hm
    refine pg rfl rfl Z2 (fun hb => (dQ underlying40 aHl (Zh hb) Z3 Z6 (Zh hb) (cK h13 hb))) ?_
    refine pB ?_
    refine pg rfl rfl Z2 (fun hb => (aUc bY (off := 0) (Zh hb) Z3 (cK h13 hb) (fun _ => by simp only [go_sem, Nat.reduceBEq, Nat.reduceAdd]; try with_reducible rfl))) ?_
    refine pB ?_
    refine pg rfl rfl Z2 (fun hb => (kC (Zh hb) Z3 Z4)) ?_
    iterate 4 refine pB ?_
    obtain ⟨x16, h15, hm⟩ := bnd hm
    refine pg rfl rfl Z2 (fun hb => (dQ underlying40 aHl (Zh hb) Z3 Z6 (Zh hb) (cK h15 hb))) ?_
    refine pB ?_
    refine pg rfl rfl Z2 (fun hb => (aUc bY (off := 0) (Zh hb) Z3 (cK h15 hb) (fun _ => by simp only [go_sem, Nat.reduceBEq, Nat.reduceAdd]; try with_reducible rfl))) ?_
    refine pB ?_
    refine pg rfl rfl Z2 (fun hb => (kC (Zh hb) Z3 Z4)) ?_
    iterate 4 refine pB ?_
    obtain ⟨x18, h17, hm⟩ := bnd hm
    refine pg rfl rfl Z2 (fun hb => (dQ underlying40 aHl (Zh hb) Z3 Z6 (Zh hb) (cK h17 hb))) ?_
    refine pB ?_
    refine pg rfl rfl Z2 (fun hb => (aUc bY (off := 1) (Zh hb) Z3 (cK h17 hb) (fun _ => by simp only [go_sem, Nat.reduceBEq, Nat.reduceAdd]; try with_reducible rfl))) ?_
    refine pB ?_
    refine pg rfl rfl Z2 (fun hb => (kC (Zh hb) Z3 Z4)) ?_
    iterate 4 first | refine pA ?_ | refine pB ?_
    refine fs (AWp.condM hm Z1 (fun _ hm => ?_) (fun _ hm => ?_))
    ·
     refine AWp.skip (cG (AWp.block (AWp.reg 64 (N' := 192) rfl ?_)))
     iterate 3 refine pA ?_
     refine aW.fin (kI (fX ?_))
     refine ⟨_, ?_, s_1, f_3, kN, i_5, p_6, (IntKind.i64.wrap (k_7 + 1)), rfl, hm⟩
     exact dV (fun j => bif j == 1 then 1 else bif j == 2 then 2 else bif j == 3 then 3 else 0) (wV (cF _ _ (aJg Z1 rfl Z7) (wV (wO (wD (cE.sl _ _ _) (cF _ _ (aJg Z1 rfl Z7) fE)))))) (fR _ (fQ (iG Z3 (Nat.le_refl _) (Nat.zero_le _) (bY.dat p_6)) (eU bY (fQ (iG Z3 (Nat.le_refl _) (Nat.zero_le _) (gN.dat s_1)) gC))) Z8)
    ·
     refine AWp.exit (iQ (gE (gD (cG (sN 192 (pA ?_))))))
     refine fs (AWp.seq' (AWp.weaken (aDb bY 4 2 Z1 Z3 Z6) ?_))
     refine AWp.reg 64 (N' := 256) rfl ?_
     iterate 3 refine pA ?_
     obtain ⟨l20, h19, hm⟩ := bnd hm
     refine pu rfl (aP4 bY underlying40 aHl Z1 rfl aOz (aH0 Z1 (aTl h19).2) h19) ?_
     obtain ⟨l22, h21, hm⟩ := bnd hm
     refine hp (id := 196) rfl rfl (bDd bY underlying40 underlying40 rfl bNi bPr (by rw [aZ0]; decide) (by rw [aZ0]; decide) bPs Zd Zd Z1 (aMs bY Z1 rfl) rfl Z5 h21) ?_
     refine pA ?_
     refine fs (sN 320 (pA ?_))
     refine pu rfl (kC Z1 Z3 Z2) ?_
     refine hp (id := 258) rfl rfl (lF bY (l := [p_6]) underlying40 aHl bSb Z5 Zd Zd Zd (by simp only [go_sem, Nat.reduceBEq]; try rfl) (by kernel_rfl)) ?_
     obtain ⟨l24, h23, hm⟩ := bnd hm
     refine hp (id := 259) rfl rfl (aBb bY underlying40 underlying40 rfl bNi bPr (by rw [aZ0]; decide) (by rw [aZ0]; decide) bPs Zd Zd Z1 Z3 Z6 (aId bY Z1 Z3 Z6) rfl Z5 h23) ?_
     refine pA ?_
     refine fs (AWp.reg 64 (N' := 384) rfl ?_)
     iterate 3 refine pA ?_
     obtain ⟨l26, h25, hm⟩ := bnd hm
     refine pu rfl (aP4 bY underlying40 aHl Z1 rfl (aH0 Z1 (aTl h25).1) (aU5 _) h25) ?_
     obtain ⟨l28, h27, hm⟩ := bnd hm
     refine hp (id := 324) rfl rfl (aBb bY underlying40 underlying40 rfl bNi bPr (by rw [aZ0]; decide) (by rw [aZ0]; decide) bPs Zd Zd Z1 Z3 Z6 (aMs bY Z1 rfl) rfl Z5 h27) ?_
     refine pA ?_
     refine aW.fin (kI (cG (AWp.reg 64 (N' := 448) rfl ?_)))
     iterate 3 refine pA ?_
     refine aW.fin (fX ?_)
     refine ⟨_, ?_, s_1, f_3, l28, (IntKind.i64.wrap (i_5 + 1)), rfl, hm⟩
     exact dV (fun j => bif j == 1 then 1 else bif j == 2 then 324 else 0) (wV (wO (wD (cE.sl _ _ _) (cF _ _ (aJg Z1 rfl Z7) fE)))) (hW (eU bY (fQ (iG Z3 (Nat.le_refl _) (Nat.zero_le _) (gN.dat s_1)) gC)))
  ·
   refine AWp.exit (iQ (gE (gD (cG (sN 192 ?_)))))
   iterate 2 refine pA ?_
   refine fs (AWp.ret ?_)
   cases hm
   exact aKp (.inr rfl) Tryz.results56 (tdo bY Z1 Z3 Z6)
def aBp (rec1 : List aG → List aG → Int → Option (Bool)) (a_0 : List aG) (b_1 : List aG) (i_5 : Int) : Option (Bool) :=
 (bif (decide (i_5 < (a_0.length : Int))) then
  ((idx a_0 i_5).bind fun x2 =>
  ((idx b_1 i_5).bind fun x4 =>
  (bif (!aFo x2 x4) then
   some false
  else
   rec1 a_0 b_1 (IntKind.i64.wrap (i_5 + 1)))))
 else
  some true)
def qN : Nat → List aG → List aG → Int → Option (Bool)
 | 0 => fun _ _ _ => none
 | n + 1 => aBp (qN n)
def yL (a_0 : List aG) (b_1 : List aG) : Option (Bool) :=
 (bif ((a_0.length : Int) != (b_1.length : Int)) then
  some false
 else
  qN bF a_0 b_1 0)
theorem aVw {a_0 : List aG} {b_1 : List aG} {r : Bool} (hm : yL a_0 b_1 = some r) : bC prog 55 [vl bO a_0, vl bO b_1] (vb r) := by
 refine bd 26 func55 ?_
 refine W ?_
 refine cm hm (fun hm => ?_) fun hm => ?_
 · exact E
 refine W ?_
 refine lp (fun m s => ∃ a_0 b_1 i_5, s = ⟨26, (aE (aE (aE fa 0 (vl bO a_0)) 1 (vl bO b_1)) 5 (vi i_5)), ⟨aV, 64⟩⟩ ∧ qN m a_0 b_1 i_5 = some r) L ?_
 rintro n1 s ⟨a_0, b_1, i_5, rfl, hm⟩
 refine W ?_
 refine cm hm (fun hm => ?_) fun hm => ?_
 ·
  obtain ⟨x2, h1, hm⟩ := bnd hm
  obtain ⟨x4, h3, hm⟩ := bnd hm
  iterate 2 refine S1 ?_
  refine AWp.seq' ?_
  iterate 10 refine S1 ?_
  refine aW.pop Zd (aDj Z1 Z1 (.agg _ (bY.dat x2)) (.agg _ (bY.dat x4))) (bCo underlying69 underlying43 aJb (by kernel_rfl) Z1 Z1) rfl ?_
  refine W ?_
  refine cm hm (fun hm => ?_) fun hm => ?_
  · exact E
  exact L
 exact E
def aBm (rec1 : Int → Int → ByteArray → Int → Option (ByteArray)) (n_0 : Int) (aA8 : Int) (s_5 : ByteArray) (i_6 : Int) : Option (ByteArray) :=
 (bif (decide (i_6 < aA8)) then
  ((aEe s_5 (lU [(IntKind.u8.wrap (Int.tmod n_0 256))])).bind fun s2 =>
  rec1 (IntKind.u64.wrap (Int.tdiv n_0 256)) aA8 s2 (IntKind.i64.wrap (i_6 + 1)))
 else
  some s_5)
def qL : Nat → Int → Int → ByteArray → Int → Option (ByteArray)
 | 0 => fun _ _ _ _ => none
 | n + 1 => aBm (qL n)
def eQ (n_0 : Int) (aA8 : Int) : Option (ByteArray) :=
 qL bF n_0 aA8 ⟨#[]⟩ 0
theorem fJ {n_0 : Int} {aA8 : Int} {r : ByteArray} (hm : eQ n_0 aA8 = some r) : bC prog 94 [vu n_0, vi aA8] (.v (.string r)) := by
 refine bd 22 func94 ?_
 refine W ?_
 refine lp (fun m s => ∃ n_0 aA8 s_5 i_6, s = ⟨22, (aE (aE (aE (aE fa 0 (vu n_0)) 1 (vi aA8)) 5 (.v (.string s_5))) 6 (vi i_6)), ⟨aV, 64⟩⟩ ∧ qL m n_0 aA8 s_5 i_6 = some r) L ?_
 rintro n1 s ⟨n_0, aA8, s_5, i_6, rfl, hm⟩
 refine W ?_
 refine cm hm (fun hm => ?_) fun hm => ?_
 ·
  refine W ?_
  refine aL (CFi .u8) [(IntKind.u8.wrap (Int.tmod n_0 256))] ?_
  refine pu rfl (aP3 underlying172 underlying9 underlying5 Z1 Z3 Z6) ?_
  obtain ⟨s2, h1, hm⟩ := bnd hm
  exact L
 exact E
def aGe (rec1 : ByteArray → Int → Int → Option (Int)) (b_0 : ByteArray) (n_3 : Int) (i_4 : Int) : Option (Int) :=
 (bif (decide (i_4 < (b_0.size : Int))) then
  ((aDs n_3 257).bind fun r2 =>
  ((aYt b_0 i_4).bind fun b4 =>
  ((uP r2 (IntKind.u64.wrap ((IntKind.u64.wrap b4) + 1))).bind fun r6 =>
  rec1 b_0 r6 (IntKind.i64.wrap (i_4 + 1)))))
 else
  some n_3)
def wR : Nat → ByteArray → Int → Int → Option (Int)
 | 0 => fun _ _ _ => none
 | n + 1 => aGe (wR n)
def aIw (b_0 : ByteArray) : Option (Int) :=
 wR bF b_0 1 0
theorem bCu {b_0 : ByteArray} {r : Int} (hm : aIw b_0 = some r) : bC prog 95 [.v (.string b_0)] (vu r) := by
 refine bd 20 func95 ?_
 refine W ?_
 refine lp (fun m s => ∃ b_0 n_3 i_4, s = ⟨20, (aE (aE (aE fa 0 (.v (.string b_0))) 3 (vu n_3)) 4 (vi i_4)), ⟨aV, 64⟩⟩ ∧ wR m b_0 n_3 i_4 = some r) L ?_
 rintro n1 s ⟨b_0, n_3, i_4, rfl, hm⟩
 refine W ?_
 refine cm hm (fun hm => ?_) fun hm => ?_
 ·
  refine W ?_
  refine AWp.regD 64 mix (by kernel_rfl) (N' := 192) rfl ?_
  obtain ⟨r2, h1, hm⟩ := bnd hm
  refine W ?_
  refine cq (bCt h1) ?_
  obtain ⟨b4, h3, hm⟩ := bnd hm
  obtain ⟨r6, h5, hm⟩ := bnd hm
  refine W ?_
  refine cq (aIu h5) ?_
  exact L
 exact E
def aE5 (rec2 : aH → ByteArray → Int → Option (ByteArray)) (s_1 : aH) (b_4 : ByteArray) (i_6 : Int) : Option (ByteArray) :=
 rec2 s_1 b_4 (IntKind.i64.wrap (i_6 + 1))
def tG (rec2 : aH → ByteArray → Int → Option (ByteArray)) (s_1 : aH) (b_4 : ByteArray) (i_6 : Int) : Option (ByteArray) :=
 ((idx s_1.Slots i_6).bind fun x26 =>
 ((eQ x26.Key 8).bind fun r28 =>
 ((aEe b_4 r28).bind fun s30 =>
 aE5 rec2 s_1 s30 i_6)))
def aE4 (rec3 : aH → ByteArray → Int → Option (ByteArray)) (s_1 : aH) (b_4 : ByteArray) (i_7 : Int) : Option (ByteArray) :=
 (bif (decide (i_7 < (s_1.Graph.Edges.length : Int))) then
  ((idx s_1.Graph.Edges i_7).bind fun x46 =>
  ((eQ (IntKind.u64.wrap x46.U) 2).bind fun r48 =>
  ((aEe b_4 r48).bind fun s50 =>
  ((eQ (IntKind.u64.wrap x46.V) 2).bind fun r52 =>
  ((aEe s50 r52).bind fun s54 =>
  ((eQ (IntKind.u64.wrap x46.Tier) 1).bind fun r56 =>
  ((aEe s54 r56).bind fun s58 =>
  rec3 s_1 s58 (IntKind.i64.wrap (i_7 + 1)))))))))
 else
  ((aIw b_4).bind fun r60 =>
  ((eQ r60 8).bind fun r62 =>
  ((aEe b_4 r62).bind fun s64 =>
  some s64))))
def oT : Nat → aH → ByteArray → Int → Option (ByteArray)
 | 0 => fun _ _ _ => none
 | n + 1 => aE4 (oT n)
def aE3 (rec2 : aH → ByteArray → Int → Option (ByteArray)) (s_1 : aH) (b_4 : ByteArray) (i_6 : Int) : Option (ByteArray) :=
 (bif (decide (i_6 < (s_1.Slots.length : Int))) then
  ((idx s_1.Slots i_6).bind fun x32 =>
  (bif x32.Used then
   ((eQ 1 1).bind fun r34 =>
   ((aEe b_4 r34).bind fun s36 =>
   tG rec2 s_1 s36 i_6))
  else
   ((eQ 0 1).bind fun r38 =>
   ((aEe b_4 r38).bind fun s40 =>
   tG rec2 s_1 s40 i_6))))
 else
  ((eQ (IntKind.u64.wrap (s_1.Graph.Edges.length : Int)) 4).bind fun r42 =>
  ((aEe b_4 r42).bind fun s44 =>
  oT bF s_1 s44 0)))
def gU : Nat → aH → ByteArray → Int → Option (ByteArray)
 | 0 => fun _ _ _ => none
 | n + 1 => aE3 (gU n)
def aE2 (rec1 : aH → ByteArray → Int → Option (ByteArray)) (s_1 : aH) (b_4 : ByteArray) (i_5 : Int) : Option (ByteArray) :=
 (bif (decide (i_5 < (s_1.Graph.Hashes.length : Int))) then
  ((idx s_1.Graph.Hashes i_5).bind fun x14 =>
  ((eQ x14.A 8).bind fun r16 =>
  ((aEe b_4 r16).bind fun s18 =>
  ((idx s_1.Graph.Hashes i_5).bind fun x20 =>
  ((eQ x20.B 8).bind fun r22 =>
  ((aEe s18 r22).bind fun s24 =>
  rec1 s_1 s24 (IntKind.i64.wrap (i_5 + 1))))))))
 else
  gU bF s_1 b_4 0)
def tH : Nat → aH → ByteArray → Int → Option (ByteArray)
 | 0 => fun _ _ _ => none
 | n + 1 => aE2 (tH n)
def wQ (s_0 : aH) : Option (ByteArray) :=
 ((eQ (IntKind.u64.wrap s_0.Graph.Config.N) 2).bind fun r2 =>
 ((aEe ⟨#[82, 65, 70, 84]⟩ r2).bind fun s4 =>
 ((eQ (IntKind.u64.wrap s_0.Graph.Config.L) 2).bind fun r6 =>
 ((aEe s4 r6).bind fun s8 =>
 ((eQ (IntKind.u64.wrap s_0.Graph.Config.R) 2).bind fun r10 =>
 ((aEe s8 r10).bind fun s12 =>
 tH bF s_0 s12 0))))))
theorem aYj {s_0 : aH} {r : ByteArray} (hm : wQ s_0 = some r) : bC prog 60 [.agg [vi s_0.Graph.Config.N, vi s_0.Graph.Config.L, vi s_0.Graph.Config.R, vl bE s_0.Graph.Hashes, vl aO s_0.Graph.Edges, vl aX s_0.Slots]] (.v (.string r)) := by
 refine bd 125 func60 ?_
 obtain ⟨r2, h1, hm⟩ := bnd hm
 refine W ?_
 refine cq (fJ h1) ?_
 obtain ⟨s4, h3, hm⟩ := bnd hm
 obtain ⟨r6, h5, hm⟩ := bnd hm
 refine W ?_
 refine cq (fJ h5) ?_
 obtain ⟨s8, h7, hm⟩ := bnd hm
 obtain ⟨r10, h9, hm⟩ := bnd hm
 refine W ?_
 refine cq (fJ h9) ?_
 obtain ⟨s12, h11, hm⟩ := bnd hm
 refine W ?_
 refine lp (fun m s => ∃ s_1 b_4 i_5, s = ⟨125, (aE (aE (aE fa 1 (.adr 1 0)) 4 (.v (.string b_4))) 5 (vi i_5)), ⟨(upd aV 1 (.cells 1 [vi s_1.Graph.Config.N, vi s_1.Graph.Config.L, vi s_1.Graph.Config.R, vl bE s_1.Graph.Hashes, vl aO s_1.Graph.Edges, vl aX s_1.Slots] 0)), 64⟩⟩ ∧ tH m s_1 b_4 i_5 = some r) (Lr (fun j => bif j == 1 then 0 else 0)) ?_
 rintro n1 s ⟨s_1, b_4, i_5, rfl, hm⟩
 refine W ?_
 refine cm hm (fun hm => ?_) fun hm => ?_
 ·
  refine W ?_
  refine AWp.regD 64 mix (by kernel_rfl) (N' := 192) rfl ?_
  obtain ⟨x14, h13, hm⟩ := bnd hm
  obtain ⟨r16, h15, hm⟩ := bnd hm
  refine W ?_
  refine cq (fJ h15) ?_
  obtain ⟨s18, h17, hm⟩ := bnd hm
  have hm := sb hm h13
  obtain ⟨r22, h21, hm⟩ := bnd hm
  refine W ?_
  refine cq (fJ h21) ?_
  obtain ⟨s24, h23, hm⟩ := bnd hm
  refine W ?_
  exact Lr (fun j => bif j == 1 then 1 else 0)
 refine W ?_
 refine lp (fun m s => ∃ s_1 b_4 i_6, s = ⟨125, (aE (aE (aE fa 1 (.adr 1 0)) 4 (.v (.string b_4))) 6 (vi i_6)), ⟨(upd aV 1 (.cells 1 [vi s_1.Graph.Config.N, vi s_1.Graph.Config.L, vi s_1.Graph.Config.R, vl bE s_1.Graph.Hashes, vl aO s_1.Graph.Edges, vl aX s_1.Slots] 0)), 64⟩⟩ ∧ gU m s_1 b_4 i_6 = some r) (Lr (fun j => bif j == 1 then 1 else 0)) ?_
 rintro n2 s ⟨s_1, b_4, i_6, rfl, hm⟩
 refine W ?_
 refine cm hm (fun hm => ?_) fun hm => ?_
 ·
  refine V ?_
  refine AWp.seqJ (fun s => ∃ s_1 b_4 i_6, s = ⟨125, (aE (aE (aE fa 1 (.adr 1 0)) 4 (.v (.string b_4))) 6 (vi i_6)), ⟨(upd aV 1 (.cells 1 [vi s_1.Graph.Config.N, vi s_1.Graph.Config.L, vi s_1.Graph.Config.R, vl bE s_1.Graph.Hashes, vl aO s_1.Graph.Edges, vl aX s_1.Slots] 0)), 64⟩⟩ ∧ aE5 (gU n2) s_1 b_4 i_6 = some r) ?_ ?_
  ·
   refine V ?_
   refine AWp.seqJ (fun s => ∃ s_1 b_4 i_6, s = ⟨125, (aE (aE (aE fa 1 (.adr 1 0)) 4 (.v (.string b_4))) 6 (vi i_6)), ⟨(upd aV 1 (.cells 1 [vi s_1.Graph.Config.N, vi s_1.Graph.Config.L, vi s_1.Graph.Config.R, vl bE s_1.Graph.Hashes, vl aO s_1.Graph.Edges, vl aX s_1.Slots] 0)), 64⟩⟩ ∧ tG (gU n2) s_1 b_4 i_6 = some r) ?_ ?_
   ·
    obtain ⟨x32, h31, hm⟩ := bnd hm
    refine W ?_
    refine cm hm (fun hm => ?_) fun hm => ?_
    ·
     obtain ⟨r34, h33, hm⟩ := bnd hm
     refine W ?_
     refine cq (fJ h33) ?_
     obtain ⟨s36, h35, hm⟩ := bnd hm
     refine W ?_
     exact Lr (fun j => bif j == 1 then 1 else 0)
    obtain ⟨r38, h37, hm⟩ := bnd hm
    refine W ?_
    refine cq (fJ h37) ?_
    obtain ⟨s40, h39, hm⟩ := bnd hm
    refine W ?_
    exact Lr (fun j => bif j == 1 then 1 else 0)
   rintro s ⟨s_1, b_4, i_6, rfl, hm⟩
   obtain ⟨x26, h25, hm⟩ := bnd hm
   obtain ⟨r28, h27, hm⟩ := bnd hm
   refine W ?_
   refine cq (fJ h27) ?_
   obtain ⟨s30, h29, hm⟩ := bnd hm
   refine W ?_
   exact Lr (fun j => bif j == 1 then 1 else 0)
  rintro s ⟨s_1, b_4, i_6, rfl, hm⟩
  refine W ?_
  exact Lr (fun j => bif j == 1 then 1 else 0)
 obtain ⟨r42, h41, hm⟩ := bnd hm
 refine W ?_
 refine cq (fJ h41) ?_
 obtain ⟨s44, h43, hm⟩ := bnd hm
 refine W ?_
 refine lp (fun m s => ∃ s_1 b_4 i_7, s = ⟨125, (aE (aE (aE fa 1 (.adr 1 0)) 4 (.v (.string b_4))) 7 (vi i_7)), ⟨(upd aV 1 (.cells 1 [vi s_1.Graph.Config.N, vi s_1.Graph.Config.L, vi s_1.Graph.Config.R, vl bE s_1.Graph.Hashes, vl aO s_1.Graph.Edges, vl aX s_1.Slots] 0)), 64⟩⟩ ∧ oT m s_1 b_4 i_7 = some r) (Lr (fun j => bif j == 1 then 1 else 0)) ?_
 rintro n3 s ⟨s_1, b_4, i_7, rfl, hm⟩
 refine W ?_
 refine cm hm (fun hm => ?_) fun hm => ?_
 ·
  obtain ⟨x46, h45, hm⟩ := bnd hm
  refine W ?_
  refine AWp.regD 64 mix (by kernel_rfl) (N' := 256) rfl ?_
  obtain ⟨r48, h47, hm⟩ := bnd hm
  refine W ?_
  refine cq (fJ h47) ?_
  obtain ⟨s50, h49, hm⟩ := bnd hm
  obtain ⟨r52, h51, hm⟩ := bnd hm
  refine W ?_
  refine cq (fJ h51) ?_
  obtain ⟨s54, h53, hm⟩ := bnd hm
  obtain ⟨r56, h55, hm⟩ := bnd hm
  refine W ?_
  refine cq (fJ h55) ?_
  obtain ⟨s58, h57, hm⟩ := bnd hm
  refine W ?_
  exact Lr (fun j => bif j == 1 then 1 else 0)
 obtain ⟨r60, h59, hm⟩ := bnd hm
 refine W ?_
 refine cq (bCu h59) ?_
 obtain ⟨r62, h61, hm⟩ := bnd hm
 refine cq (fJ h61) ?_
 obtain ⟨s64, h63, hm⟩ := bnd hm
 exact E
def aBi (rec1 : GA → bH → Bool → List Int → Int → Int → Option (Bool)) (gV : GA) (c_6 : bH) (aT2 : Bool) (t93 : List Int) (t94 : Int) (t95 : Int) : Option (Bool) :=
 (bif (decide (t95 < t94)) then
  ((idx t93 t95).bind fun x24 =>
  rec1 gV c_6 (aT2 || (x24 == c_6.B)) t93 t94 (IntKind.i64.wrap (t95 + 1)))
 else
  ((oO gV aT2).bind fun r26 =>
  some r26))
def qI : Nat → GA → bH → Bool → List Int → Int → Int → Option (Bool)
 | 0 => fun _ _ _ _ _ _ => none
 | n + 1 => aBi (qI n)
def jP (s_0 : aH) (m_1 : aF) (c_2 : bH) (gV : GA) : Option (Bool) :=
 ((tL m_1 c_2.A).bind fun r2 =>
 ((tL m_1 c_2.B).bind fun r4 =>
 (bif ((((decide (c_2.Do < 10)) || (c_2.Do == 11)) && (!r2)) || (((c_2.Do == 5) || (c_2.Do == 8)) && (!r4))) then
  ((oN gV).bind fun r6 =>
  some (r6 == 7))
 else
  (bif (c_2.Do == 5) then
   ((aE7 m_1 c_2.A c_2.B).bind fun r8 =>
   ((oO gV r8).bind fun r10 =>
   some r10))
  else
   (bif (c_2.Do == 6) then
    ((wU m_1 c_2.A).bind fun r12 =>
    ((qJ gV (r12.length : Int)).bind fun r14 =>
    some r14))
   else
    (bif (c_2.Do == 7) then
     ((wU m_1 c_2.A).bind fun r16 =>
     ((nF gV r16).bind fun r18 =>
     some r18))
    else
     (bif (c_2.Do == 8) then
      ((aC5 s_0 c_2.A).bind fun r20 =>
      ((kT s_0 r20).bind fun r22 =>
      qI bF gV c_2 false r22 (r22.length : Int) 0))
     else
      (bif (c_2.Do == 9) then
       ((aC5 s_0 c_2.A).bind fun r28 =>
       ((kT s_0 r28).bind fun r30 =>
       ((qJ gV (r30.length : Int)).bind fun r32 =>
       some r32)))
      else
       (bif (c_2.Do == 10) then
        ((yK s_0).bind fun r34 =>
        ((qJ gV r34).bind fun r36 =>
        some r36))
       else
        (bif (c_2.Do == 11) then
         ((aC5 s_0 c_2.A).bind fun r38 =>
         ((kT s_0 r38).bind fun r40 =>
         ((nF gV r40).bind fun r42 =>
         some r42)))
        else
         (bif (c_2.Do == 12) then
          ((bNb 40 gV).bind fun ⟨r44, r45⟩ =>
          ((eP (r45 == true) [] (qM s_0)).bind fun r47 =>
          ((eP (r45 == true) false (yL r44 r47)).bind fun r49 =>
          some (r45 && r49))))
         else
          (bif (c_2.Do == 13) then
           ((jU s_0.Graph).bind fun r51 =>
           ((aCd s_0.Graph).bind fun r53 =>
           ((aAx r51 r53).bind fun r55 =>
           ((oO gV r55).bind fun r57 =>
           some r57))))
          else
           ((bDs 9 gV).bind fun ⟨r62, r63⟩ =>
           ((eP (r63 == true) ⟨#[]⟩ (wQ s_0)).bind fun r65 =>
           some (r63 && (decide (r62 = r65)))))))))))))))))
theorem aV9 {s_0 : aH} {m_1 : aF} {c_2 : bH} {gV : GA} {r : Bool} (hm : jP s_0 m_1 c_2 gV = some r) : bC prog 20 [.agg [vi s_0.Graph.Config.N, vi s_0.Graph.Config.L, vi s_0.Graph.Config.R, vl bE s_0.Graph.Hashes, vl aO s_0.Graph.Edges, vl aX s_0.Slots], .agg [vi m_1.Most, vl (ci .u64) m_1.Keys, vl bO m_1.Pairs], .agg [vi c_2.Do, vu c_2.A, vu c_2.B, .v (.string c_2.Text)], GA.av gV] (vb r) := by
 refine bd 174 func20 ?_
 obtain ⟨r2, h1, hm⟩ := bnd hm
 refine W ?_
 refine cq (aKo h1) ?_
 obtain ⟨r4, h3, hm⟩ := bnd hm
 refine W ?_
 refine cq (aKo h3) ?_
 refine W ?_
 refine cm hm (fun hm => ?_) fun hm => ?_
 ·
  obtain ⟨r6, h5, hm⟩ := bnd hm
  refine W ?_
  refine cq (aD9 h5) ?_
  exact E
 refine W ?_
 refine cm hm (fun hm => ?_) fun hm => ?_
 ·
  obtain ⟨r8, h7, hm⟩ := bnd hm
  refine W ?_
  refine cq (bCw h7) ?_
  obtain ⟨r10, h9, hm⟩ := bnd hm
  refine cq (aDa h9) ?_
  exact E
 refine W ?_
 refine cm hm (fun hm => ?_) fun hm => ?_
 ·
  obtain ⟨r12, h11, hm⟩ := bnd hm
  refine W ?_
  refine cq (aGh h11) ?_
  obtain ⟨r14, h13, hm⟩ := bnd hm
  refine W ?_
  refine cq (aBj h13) ?_
  exact E
 refine W ?_
 refine cm hm (fun hm => ?_) fun hm => ?_
 ·
  obtain ⟨r16, h15, hm⟩ := bnd hm
  refine W ?_
  refine cq (aGh h15) ?_
  obtain ⟨r18, h17, hm⟩ := bnd hm
  refine cq (aFv h17) ?_
  exact E
 refine W ?_
 refine cm hm (fun hm => ?_) fun hm => ?_
 ·
  obtain ⟨r20, h19, hm⟩ := bnd hm
  refine W ?_
  refine cq (aLv h19) ?_
  obtain ⟨r22, h21, hm⟩ := bnd hm
  refine cq (aA0 h21) ?_
  refine W ?_
  refine lp (fun m s => ∃ gV c_6 aT2 t93 t94 t95, s = ⟨174, (aE (aE (aE (aE (aE (aE fa 3 (GA.av gV)) 6 (.adr 1 0)) 12 (vb aT2)) 93 (vl (ci .u64) t93)) 94 (vi t94)) 95 (vi t95)), ⟨(upd aV 1 (.cells 1 [vi c_6.Do, vu c_6.A, vu c_6.B, .v (.string c_6.Text)] 0)), 64⟩⟩ ∧ qI m gV c_6 aT2 t93 t94 t95 = some r) (Lr (fun j => bif j == 1 then 2 else 0)) ?_
  rintro n1 s ⟨gV, c_6, aT2, t93, t94, t95, rfl, hm⟩
  refine W ?_
  refine cm hm (fun hm => ?_) fun hm => ?_
  ·
   obtain ⟨x24, h23, hm⟩ := bnd hm
   refine W ?_
   exact Lr (fun j => bif j == 1 then 1 else 0)
  obtain ⟨r26, h25, hm⟩ := bnd hm
  refine W ?_
  refine cq (aDa h25) ?_
  exact E
 refine W ?_
 refine cm hm (fun hm => ?_) fun hm => ?_
 ·
  obtain ⟨r28, h27, hm⟩ := bnd hm
  refine W ?_
  refine cq (aLv h27) ?_
  obtain ⟨r30, h29, hm⟩ := bnd hm
  refine cq (aA0 h29) ?_
  obtain ⟨r32, h31, hm⟩ := bnd hm
  refine W ?_
  refine cq (aBj h31) ?_
  exact E
 refine W ?_
 refine cm hm (fun hm => ?_) fun hm => ?_
 ·
  obtain ⟨r34, h33, hm⟩ := bnd hm
  refine W ?_
  refine cq (aVv h33) ?_
  obtain ⟨r36, h35, hm⟩ := bnd hm
  refine cq (aBj h35) ?_
  exact E
 refine W ?_
 refine cm hm (fun hm => ?_) fun hm => ?_
 ·
  obtain ⟨r38, h37, hm⟩ := bnd hm
  refine W ?_
  refine cq (aLv h37) ?_
  obtain ⟨r40, h39, hm⟩ := bnd hm
  refine cq (aA0 h39) ?_
  obtain ⟨r42, h41, hm⟩ := bnd hm
  refine cq (aFv h41) ?_
  exact E
 refine W ?_
 refine cm hm (fun hm => ?_) fun hm => ?_
 ·
  refine W ?_
  obtain ⟨⟨r44, r45⟩, h43, hm⟩ := bnd hm
  refine aW.pop Zd (aDi Z1 (GA.data _)) (bLe underlying40 bTe bYo Z1 h43) rfl ?_
  obtain ⟨r47, h46, hm⟩ := bnd hm
  refine W ?_
  refine cg (fun hb => aS8 (cK h46 hb)) ?_
  obtain ⟨r49, h48, hm⟩ := bnd hm
  refine cg (fun hb => aVw (cK h48 hb)) ?_
  exact E
 refine W ?_
 refine cm hm (fun hm => ?_) fun hm => ?_
 ·
  obtain ⟨r51, h50, hm⟩ := bnd hm
  refine W ?_
  refine cq (aGc h50) ?_
  obtain ⟨r53, h52, hm⟩ := bnd hm
  refine W ?_
  refine cq (bHz h52) ?_
  obtain ⟨r55, h54, hm⟩ := bnd hm
  refine cq (aYe h54) ?_
  obtain ⟨r57, h56, hm⟩ := bnd hm
  refine cq (aDa h56) ?_
  exact E
 refine W ?_
 obtain ⟨⟨r62, r63⟩, h61, hm⟩ := bnd hm
 refine pu rfl (bIo underlying9 in9 tz9 Z1 h61) ?_
 obtain ⟨r65, h64, hm⟩ := bnd hm
 refine W ?_
 refine cg (fun hb => aYj (cK h64 hb)) ?_
 exact E
def aB9 (rec1 : aD → aF → List bH → Int → Int → Option (Bool)) (s_8 : aD) (wH : aF) (t41 : List bH) (t42 : Int) (t43 : Int) : Option (Bool) :=
 rec1 s_8 wH t41 t42 (IntKind.i64.wrap (t43 + 1))
def pU (rec1 : aD → aF → List bH → Int → Int → Option (Bool)) (s_8 : aD) (wH : aF) (aSg : aD) (t41 : List bH) (t42 : Int) (t43 : Int) : Option (Bool) :=
 aB9 rec1 aSg wH t41 t42 t43
def aB8 (rec1 : aD → aF → List bH → Int → Int → Option (Bool)) (s_8 : aD) (wH : aF) (t41 : List bH) (t42 : Int) (t43 : Int) : Option (Bool) :=
 (bif (decide (t43 < t42)) then
  ((idx t41 t43).bind fun x12 =>
  (bif (x12.Do == 15) then
   ((sV ).bind fun r14 =>
   some r14)
  else
   ((cU s_8 x12).bind fun ⟨r16, r17⟩ =>
   (bif ((decide (x12.Do < 1)) || (decide (15 < x12.Do))) then
    ((oN r17).bind fun r19 =>
    ((eP ((r19 != 1) == false) false (nG s_8 r16)).bind fun r21 =>
    (bif ((r19 != 1) || (!r21)) then
     some false
    else
     pU rec1 s_8 wH r16 t41 t42 t43)))
   else
    (bif (decide (x12.Do ≤ 4)) then
     ((eF wH x12.Do x12.A x12.B).bind fun ⟨r23, r24⟩ =>
     ((oN r17).bind fun r26 =>
     ((eP (((r26 != r24) == false) && ((r24 != 0) == true)) false (nG s_8 r16)).bind fun r28 =>
     ((eP (((r26 != r24) || ((r24 != 0) && (!r28))) == false) false (lD r16)).bind fun r30 =>
     (bif (((r26 != r24) || ((r24 != 0) && (!r28))) || (!r30)) then
      some false
     else
      pU rec1 s_8 r23 r16 t41 t42 t43)))))
    else
     ((nG s_8 r16).bind fun r32 =>
     ((eP ((!r32) == false) (aH.mk (aI.mk (aT.mk 0 0 0) [] []) []) (rJ s_8)).bind fun r34 =>
     ((eP ((!r32) == false) false (jP r34 wH x12 r17)).bind fun r36 =>
     (bif ((!r32) || (!r36)) then
      some false
     else
      pU rec1 s_8 wH r16 t41 t42 t43)))))))))
 else
  ((sV ).bind fun r38 =>
  some r38))
def iT : Nat → aD → aF → List bH → Int → Int → Option (Bool)
 | 0 => fun _ _ _ _ _ => none
 | n + 1 => aB8 (iT n)
def xZ (c_0 : aT) (aL9 : List Int) (l_2 : List bH) : Option (Bool) :=
 ((uL c_0 l_2 40).bind fun r2 =>
 ((lI c_0 (bI.mk aL9 0)).bind fun ⟨r4, r5, r6⟩ =>
 (bif ((decide (r2 < 0)) || (r6 != 0)) then
  ((sV ).bind fun r8 =>
  some r8)
 else
  ((slc l_2 0 r2).bind fun l10 =>
  iT bF r4 (aF.mk c_0.N [] []) l10 (l10.length : Int) 0))))
theorem aTz {c_0 : aT} {aL9 : List Int} {l_2 : List bH} {r : Bool} (hm : xZ c_0 aL9 l_2 = some r) : bC prog 3 [.agg [vi c_0.N, vi c_0.L, vi c_0.R], vl (ci .u64) aL9, vl dR l_2] (vb r) := by
 refine bd 126 func3 ?_
 obtain ⟨r2, h1, hm⟩ := bnd hm
 refine W ?_
 refine cq (bCb h1) ?_
 refine W ?_
 refine bU (.agg [vl (ci .u64) aL9, vi 0]) ?_
 obtain ⟨⟨r4, r5, r6⟩, h3, hm⟩ := bnd hm
 refine cq (aQ1 h3) ?_
 refine W ?_
 refine cm hm (fun hm => ?_) fun hm => ?_
 ·
  obtain ⟨r8, h7, hm⟩ := bnd hm
  refine W ?_
  refine cq (aD8 h7) ?_
  exact E
 refine W ?_
 refine bU (.agg [vi c_0.N, .v (.slice none 0 0), .v (.slice none 0 0)]) ?_
 obtain ⟨l10, h9, hm⟩ := bnd hm
 refine W ?_
 refine lp (fun m s => ∃ s_8 wH t41 t42 t43, s = ⟨126, (aE (aE (aE (aE (aE fa 8 (.adr 1 0)) 11 (.adr 2 0)) 41 (vl dR t41)) 42 (vi t42)) 43 (vi t43)), ⟨(upd (upd aV 1 (.cells 1 [vi s_8.Graph.Config.N, vi s_8.Graph.Config.L, vi s_8.Graph.Config.R, vl bE s_8.Graph.Hashes, vl aO s_8.Graph.Edges, vl aY s_8.Slots] 0)) 2 (.cells 1 [vi wH.Most, vl (ci .u64) wH.Keys, vl bO wH.Pairs] 0)), 64⟩⟩ ∧ iT m s_8 wH t41 t42 t43 = some r) ?_ ?_
 ·
  refine ⟨_, ?_, r4, (aF.mk c_0.N [] []), l10, (l10.length : Int), 0, rfl, hm⟩
  refine St.Le.trans (bCe 41 (.sl (l10.flatMap dR) l10.length false) (fun H => (tdf Z1 (qX.sl _ _ _)))) ?_
  refine St.Le.trans (jQ 259 (ys := [.v (.int .i64 ((aF.mk c_0.N [] []).Most)), .sl (((aF.mk c_0.N [] []).Keys).flatMap (ci .u64)) ((aF.mk c_0.N [] []).Keys).length false, .sl (((aF.mk c_0.N [] []).Pairs).flatMap bO) ((aF.mk c_0.N [] []).Pairs).length false]) Z3 (.cons (.data _ (.v _)) (.cons (.nil false) (.cons (.nil false) .nil)))) ?_
  exact cn (fun j => bif j == 1 then 136 else bif j == 2 then 259 else 0)
 rintro n1 s ⟨s_8, wH, t41, t42, t43, rfl, hm⟩
 refine W ?_
 refine cm hm (fun hm => ?_) fun hm => ?_
 ·
  refine V ?_
  refine AWp.seqJ (fun s => ∃ s_8 wH t41 t42 t43, s = ⟨126, (aE (aE (aE (aE (aE fa 8 (.adr 1 0)) 11 (.adr 2 0)) 41 (vl dR t41)) 42 (vi t42)) 43 (vi t43)), ⟨(upd (upd aV 1 (.cells 1 [vi s_8.Graph.Config.N, vi s_8.Graph.Config.L, vi s_8.Graph.Config.R, vl bE s_8.Graph.Hashes, vl aO s_8.Graph.Edges, vl aY s_8.Slots] 0)) 2 (.cells 1 [vi wH.Most, vl (ci .u64) wH.Keys, vl bO wH.Pairs] 0)), 64⟩⟩ ∧ aB9 (iT n1) s_8 wH t41 t42 t43 = some r) ?_ ?_
  ·
   obtain ⟨x12, h11, hm⟩ := bnd hm
   refine W ?_
   refine cm hm (fun hm => ?_) fun hm => ?_
   ·
    obtain ⟨r14, h13, hm⟩ := bnd hm
    refine W ?_
    refine cq (aD8 h13) ?_
    exact E
   refine W ?_
   obtain ⟨⟨r16, r17⟩, h15, hm⟩ := bnd hm
   refine cq (rU h15) ?_
   refine V ?_
   refine AWp.seqJ (fun s => ∃ s_8 wH aSg t41 t42 t43, s = ⟨126, (aE (aE (aE (aE (aE (aE fa 8 (.adr 1 0)) 11 (.adr 2 0)) 14 (.adr 3 0)) 41 (vl dR t41)) 42 (vi t42)) 43 (vi t43)), ⟨(upd (upd (upd aV 1 (.cells 1 [vi s_8.Graph.Config.N, vi s_8.Graph.Config.L, vi s_8.Graph.Config.R, vl bE s_8.Graph.Hashes, vl aO s_8.Graph.Edges, vl aY s_8.Slots] 0)) 2 (.cells 1 [vi wH.Most, vl (ci .u64) wH.Keys, vl bO wH.Pairs] 0)) 3 (.cells 1 [vi aSg.Graph.Config.N, vi aSg.Graph.Config.L, vi aSg.Graph.Config.R, vl bE aSg.Graph.Hashes, vl aO aSg.Graph.Edges, vl aY aSg.Slots] 0)), 64⟩⟩ ∧ pU (iT n1) s_8 wH aSg t41 t42 t43 = some r) ?_ ?_
   ·
    refine W ?_
    refine cm hm (fun hm => ?_) fun hm => ?_
    ·
     obtain ⟨r19, h18, hm⟩ := bnd hm
     refine W ?_
     refine cq (aD9 h18) ?_
     obtain ⟨r21, h20, hm⟩ := bnd hm
     refine W ?_
     refine cg (fun hb => aFw (cK h20 hb)) ?_
     refine W ?_
     refine cm hm (fun hm => ?_) fun hm => ?_
     · exact E
     refine W ?_
     exact Lr (fun j => bif j == 1 then 1 else bif j == 2 then 2 else bif j == 3 then 262 else 0)
    refine W ?_
    refine cm hm (fun hm => ?_) fun hm => ?_
    ·
     refine W ?_
     obtain ⟨⟨r23, r24⟩, h22, hm⟩ := bnd hm
     refine cq (aS6 h22) ?_
     obtain ⟨r26, h25, hm⟩ := bnd hm
     refine W ?_
     refine cq (aD9 h25) ?_
     obtain ⟨r28, h27, hm⟩ := bnd hm
     refine W ?_
     refine cg (fun hb => aFw (cK h27 hb)) ?_
     obtain ⟨r30, h29, hm⟩ := bnd hm
     refine W ?_
     refine cg (fun hb => aGq (cK h29 hb)) ?_
     refine W ?_
     refine cm hm (fun hm => ?_) fun hm => ?_
     · exact E
     refine W ?_
     exact Lr (fun j => bif j == 1 then 1 else bif j == 2 then 2 else bif j == 3 then 262 else 0)
    obtain ⟨r32, h31, hm⟩ := bnd hm
    refine W ?_
    refine cq (aFw h31) ?_
    obtain ⟨r34, h33, hm⟩ := bnd hm
    refine W ?_
    refine cg (fun hb => aIl (cK h33 hb)) ?_
    obtain ⟨r36, h35, hm⟩ := bnd hm
    refine W ?_
    refine cg (fun hb => aV9 (cK h35 hb)) ?_
    refine W ?_
    refine cm hm (fun hm => ?_) fun hm => ?_
    · exact E
    refine W ?_
    exact Lr (fun j => bif j == 1 then 1 else bif j == 2 then 2 else bif j == 3 then 262 else 0)
   rintro s ⟨s_8, wH, aSg, t41, t42, t43, rfl, hm⟩
   refine W ?_
   exact Lr (fun j => bif j == 1 then 1 else bif j == 2 then 2 else 0)
  rintro s ⟨s_8, wH, t41, t42, t43, rfl, hm⟩
  refine W ?_
  exact Lr (fun j => bif j == 1 then 1 else bif j == 2 then 2 else 0)
 obtain ⟨r38, h37, hm⟩ := bnd hm
 refine W ?_
 refine cq (aD8 h37) ?_
 exact E
def aDt (w_0 : aU) : Option (Bool) :=
 some ((decide (0 ≤ w_0.At)) && (decide (w_0.At ≤ (w_0.List.length : Int))))
def aS5 (rec1 : aU → aU → Int → Option (Int × aU × Int)) (w_1 : aU) (t3 : aU) (aJo : Int) : Option (Int × aU × Int) :=
 (bif (decide (aJo < (w_1.List.length : Int))) then
  ((idx w_1.List aJo).bind fun x4 =>
  (bif ((Int.tmod x4 2305843009213693952) != 2305843009213693951) then
   some ((Int.tmod x4 2305843009213693952), (aU.mk w_1.List (IntKind.i64.wrap (aJo + 1))), 0)
  else
   rec1 w_1 t3 (IntKind.i64.wrap (aJo + 1))))
 else
  some (0, w_1, 5))
def aHv : Nat → aU → aU → Int → Option (Int × aU × Int)
 | 0 => fun _ _ _ => none
 | n + 1 => aS5 (aHv n)
def aVo (w_0 : aU) : Option (Int × aU × Int) :=
 ((aDt w_0).bind fun r2 =>
 (bif (!r2) then
  some (0, w_0, 1)
 else
  aHv bF w_0 (aU.mk [] 0) w_0.At))
def aQm (rec2 : Int → aU → List Int → aU → List bV → Int → Option ((List bV) × aU × Int)) (n_1 : Int) (t5 : aU) (aP2 : List Int) (v_8 : aU) (bLb : List bV) (bNh : Int) : Option ((List bV) × aU × Int) :=
 (bif (decide (bNh < n_1)) then
  ((idx aP2 (IntKind.i64.wrap (2 * bNh))).bind fun x10 =>
  ((idx aP2 (IntKind.i64.wrap ((IntKind.i64.wrap (2 * bNh)) + 1))).bind fun x12 =>
  ((app bLb [(bV.mk x10 x12)]).bind fun l14 =>
  rec2 n_1 t5 aP2 v_8 l14 (IntKind.i64.wrap (bNh + 1)))))
 else
  some (bLb, v_8, 0))
def aGa : Nat → Int → aU → List Int → aU → List bV → Int → Option ((List bV) × aU × Int)
 | 0 => fun _ _ _ _ _ _ => none
 | n + 1 => aQm (aGa n)
def aQl (rec1 : Int → aU → aU → List Int → aU → Option ((List bV) × aU × Int)) (n_1 : Int) (w_2 : aU) (t5 : aU) (aP2 : List Int) (v_8 : aU) : Option ((List bV) × aU × Int) :=
 (bif (decide ((aP2.length : Int) < (IntKind.i64.wrap (2 * n_1)))) then
  ((aVo v_8).bind fun ⟨r4, r5, r6⟩ =>
  (bif (r6 != 0) then
   some ([], w_2, r6)
  else
   ((app aP2 [r4]).bind fun l8 =>
   rec1 n_1 w_2 t5 l8 r5)))
 else
  aGa bF n_1 t5 aP2 v_8 [] 0)
def aG9 : Nat → Int → aU → aU → List Int → aU → Option ((List bV) × aU × Int)
 | 0 => fun _ _ _ _ _ => none
 | n + 1 => aQl (aG9 n)
def aHw (w_0 : aU) (n_1 : Int) : Option ((List bV) × aU × Int) :=
 ((aDt w_0).bind fun r2 =>
 (bif (((!r2) || (decide (n_1 < 0))) || (decide (128 < n_1))) then
  some ([], w_0, 1)
 else
  aG9 bF n_1 w_0 (aU.mk [] 0) [] w_0))
end Go.Proofs.YtkdohhmacfoolaaGreat
