/- Facts. No condition. -/
import Derived.Test.YtkdohhmacfoolaaGreatNgGI1
set_option linter.unusedVariables false
set_option linter.unusedSimpArgs false
set_option maxRecDepth 20000
set_option maxHeartbeats 4000000
namespace Go.Proofs.YtkdohhmacfoolaaGreat
open Go.Proofs.Tryz Go Go.AM
structure bD where
 Used : Bool
 Key : Int
deriving DecidableEq
def aX (e : bD) : List AV := [.v (.bool e.Used), .v (.int .u64 e.Key)]
theorem fF : CF aX 2 := ⟨fun _ => rfl, fun a x hx => by
 simp only [aX, List.mem_cons, List.not_mem_nil, or_false] at hx
 rcases hx with rfl | rfl
 ·
  exact (.v _)
 ·
  exact (.v _), fun _ => rfl⟩
instance : CC aX 2 := ⟨fF⟩
@[go_sem] theorem aBz (e : bD) (r : List AV) : aX e ++ r = .v (.bool e.Used) :: .v (.int .u64 e.Key) :: r := rfl
structure aH where
 Graph : aI
 Slots : List bD
deriving DecidableEq
def jO (e : aH) : List AV := [.v (.int .i64 e.Graph.Config.N), .v (.int .i64 e.Graph.Config.L), .v (.int .i64 e.Graph.Config.R), .sl (e.Graph.Hashes.flatMap bE) e.Graph.Hashes.length false, .sl (e.Graph.Edges.flatMap aO) e.Graph.Edges.length false, .sl (e.Slots.flatMap aX) e.Slots.length false]
theorem gN : CF jO 6 := ⟨fun _ => rfl, fun a x hx => by
 simp only [jO, List.mem_cons, List.not_mem_nil, or_false] at hx
 rcases hx with rfl | rfl | rfl | rfl | rfl | rfl
 ·
  exact (.v _)
 ·
  exact (.v _)
 ·
  exact (.v _)
 ·
  exact (mP.sl _ _ _)
 ·
  exact (cE.sl _ _ _)
 ·
  exact (fF.sl _ _ _), fun _ => rfl⟩
instance : CC jO 6 := ⟨gN⟩
@[go_sem] theorem aBd (e : aH) (r : List AV) : jO e ++ r = .v (.int .i64 e.Graph.Config.N) :: .v (.int .i64 e.Graph.Config.L) :: .v (.int .i64 e.Graph.Config.R) :: .sl (e.Graph.Hashes.flatMap bE) e.Graph.Hashes.length false :: .sl (e.Graph.Edges.flatMap aO) e.Graph.Edges.length false :: .sl (e.Slots.flatMap aX) e.Slots.length false :: r := rfl
structure aF where
 Most : Int
 Keys : List Int
 Pairs : List aG
deriving DecidableEq
def aFd (e : aF) : List AV := [.v (.int .i64 e.Most), .sl (e.Keys.flatMap (ci .u64)) e.Keys.length false, .sl (e.Pairs.flatMap bO) e.Pairs.length false]
@[go_sem] theorem aBe (e : aF) (r : List AV) : aFd e ++ r = .v (.int .i64 e.Most) :: .sl (e.Keys.flatMap (ci .u64)) e.Keys.length false :: .sl (e.Pairs.flatMap bO) e.Pairs.length false :: r := rfl
@[go_sem] theorem bAj (x0 : AV) (xs : List AV) : aJ prog 104 (.ptr (x0 :: xs)) 1 = some (.ptr xs) := by kernel_rfl
@[go_sem] theorem bB0 (i o : Nat) : aJ prog 102 (.adr i o) 0 = some (.adr i (o + 0)) := by kernel_rfl
@[go_sem] theorem bB7 (i o : Nat) : aJ prog 102 (.adr i o) 1 = some (.adr i (o + 1)) := by kernel_rfl
@[go_sem] theorem bBd (i o : Nat) : aJ prog 102 (.adr i o) 2 = some (.adr i (o + 2)) := by kernel_rfl
@[go_sem] theorem bBg (i o : Nat) : aJ prog 104 (.adr i o) 0 = some (.adr i (o + 0)) := by kernel_rfl
@[go_sem] theorem bBi (i o : Nat) : aJ prog 104 (.adr i o) 1 = some (.adr i (o + 1)) := by kernel_rfl
@[go_sem] theorem bBl (i o : Nat) : aJ prog 120 (.adr i o) 0 = some (.adr i (o + 0)) := by kernel_rfl
@[go_sem] theorem bBo (i o : Nat) : aJ prog 120 (.adr i o) 1 = some (.adr i (o + 1)) := by kernel_rfl
@[go_sem] theorem bFx (i o : Nat) : aJ prog 23 (.adr i o) 0 = some (.adr i (o + 0)) := by kernel_rfl
@[go_sem] theorem bG3 (i o : Nat) : aJ prog 23 (.adr i o) 1 = some (.adr i (o + 1)) := by kernel_rfl
@[go_sem] theorem bG8 (i o : Nat) : aJ prog 23 (.adr i o) 2 = some (.adr i (o + 2)) := by kernel_rfl
@[go_sem] theorem bGe (i o : Nat) : aJ prog 30 (.adr i o) 0 = some (.adr i (o + 0)) := by kernel_rfl
@[go_sem] theorem bGi (i o : Nat) : aJ prog 30 (.adr i o) 1 = some (.adr i (o + 3)) := by kernel_rfl
@[go_sem] theorem bGo (i o : Nat) : aJ prog 30 (.adr i o) 2 = some (.adr i (o + 4)) := by kernel_rfl
@[go_sem] theorem bGr (i o : Nat) : aJ prog 33 (.adr i o) 0 = some (.adr i (o + 0)) := by kernel_rfl
@[go_sem] theorem bGu (i o : Nat) : aJ prog 33 (.adr i o) 1 = some (.adr i (o + 5)) := by kernel_rfl
@[go_sem] theorem bGy (i o : Nat) : aJ prog 35 (.adr i o) 1 = some (.adr i (o + 1)) := by kernel_rfl
@[go_sem] theorem bH0 (i o : Nat) : aJ prog 42 (.adr i o) 0 = some (.adr i (o + 0)) := by kernel_rfl
@[go_sem] theorem bH1 (i o : Nat) : aJ prog 42 (.adr i o) 1 = some (.adr i (o + 1)) := by kernel_rfl
@[go_sem] theorem bH3 (i o : Nat) : aJ prog 42 (.adr i o) 2 = some (.adr i (o + 2)) := by kernel_rfl
@[go_sem] theorem bH5 (i o : Nat) : aJ prog 45 (.adr i o) 0 = some (.adr i (o + 0)) := by kernel_rfl
@[go_sem] theorem bH7 (i o : Nat) : aJ prog 45 (.adr i o) 1 = some (.adr i (o + 1)) := by kernel_rfl
@[go_sem] theorem bH9 (i o : Nat) : aJ prog 45 (.adr i o) 2 = some (.adr i (o + 2)) := by kernel_rfl
@[go_sem] theorem bHc (i o : Nat) : aJ prog 45 (.adr i o) 3 = some (.adr i (o + 3)) := by kernel_rfl
@[go_sem] theorem bHd (i o : Nat) : aJ prog 56 (.adr i o) 0 = some (.adr i (o + 0)) := by kernel_rfl
@[go_sem] theorem bHf (i o : Nat) : aJ prog 56 (.adr i o) 1 = some (.adr i (o + 5)) := by kernel_rfl
theorem bHm (i o : Nat) (k : IntKind) : iF prog 69 (.adr i o) (.v (.int k 0)) = some (.adr i o) := by kernel_rfl
theorem bHo (i o : Nat) (k : IntKind) : iF prog 69 (.adr i o) (.v (.int k 1)) = some (.adr i (o + 1)) := by kernel_rfl
attribute [go_sem] bHm bHo
@[go_sem] theorem bKh (H : aN) (x0 x1 x2 : AV) (xs : List AV) : bS prog H 102 (.ptr (x0 :: x1 :: x2 :: xs)) = some (.agg [x0, x1, x2]) := by kernel_rfl
@[go_sem] theorem bKk (H : aN) (x0 x1 : AV) (xs : List AV) : bS prog H 104 (.ptr (x0 :: x1 :: xs)) = some (.agg [x0, x1]) := by kernel_rfl
@[go_sem] theorem bKn (H : aN) (x0 x1 : AV) (xs : List AV) : bS prog H 120 (.ptr (x0 :: x1 :: xs)) = some (.agg [x0, x1]) := by kernel_rfl
@[go_sem] theorem bKq (H : aN) (x0 : AV) (xs : List AV) : bS prog H 130 (.ptr (x0 :: xs)) = some (.agg [x0]) := by kernel_rfl
@[go_sem] theorem bKr (H : aN) (x0 x1 : AV) (xs : List AV) : bS prog H 151 (.ptr (x0 :: x1 :: xs)) = some (.agg [x0, x1]) := by kernel_rfl
@[go_sem] theorem bNp (H : aN) (x0 x1 x2 : AV) (xs : List AV) : bS prog H 23 (.ptr (x0 :: x1 :: x2 :: xs)) = some (.agg [x0, x1, x2]) := by kernel_rfl
@[go_sem] theorem bNt (H : aN) (x : AV) (xs : List AV) : bS prog H 24 (.ptr (x :: xs)) = some x := by kernel_rfl
@[go_sem] theorem bNx (H : aN) (x : AV) (xs : List AV) : bS prog H 27 (.ptr (x :: xs)) = some x := by kernel_rfl
@[go_sem] theorem bO3 (H : aN) (x : AV) (xs : List AV) : bS prog H 28 (.ptr (x :: xs)) = some x := by kernel_rfl
@[go_sem] theorem bRd (H : aN) (x : AV) (xs : List AV) : bS prog H 3 (.ptr (x :: xs)) = some x := by kernel_rfl
@[go_sem] theorem bO9 (H : aN) (x0 x1 x2 x3 x4 : AV) (xs : List AV) : bS prog H 30 (.ptr (x0 :: x1 :: x2 :: x3 :: x4 :: xs)) = some (.agg [x0, x1, x2, x3, x4]) := by kernel_rfl
@[go_sem] theorem bOc (H : aN) (x : AV) (xs : List AV) : bS prog H 31 (.ptr (x :: xs)) = some x := by kernel_rfl
@[go_sem] theorem bOf (H : aN) (x0 x1 x2 x3 x4 x5 : AV) (xs : List AV) : bS prog H 33 (.ptr (x0 :: x1 :: x2 :: x3 :: x4 :: x5 :: xs)) = some (.agg [x0, x1, x2, x3, x4, x5]) := by kernel_rfl
@[go_sem] theorem bRi (H : aN) (x : AV) (xs : List AV) : bS prog H 4 (.ptr (x :: xs)) = some x := by kernel_rfl
@[go_sem] theorem bOj (H : aN) (x : AV) (xs : List AV) : bS prog H 40 (.ptr (x :: xs)) = some x := by kernel_rfl
@[go_sem] theorem bOl (H : aN) (x0 x1 x2 : AV) (xs : List AV) : bS prog H 42 (.ptr (x0 :: x1 :: x2 :: xs)) = some (.agg [x0, x1, x2]) := by kernel_rfl
@[go_sem] theorem bOq (H : aN) (x : AV) (xs : List AV) : bS prog H 43 (.ptr (x :: xs)) = some x := by kernel_rfl
@[go_sem] theorem bOt (H : aN) (x0 x1 x2 x3 : AV) (xs : List AV) : bS prog H 45 (.ptr (x0 :: x1 :: x2 :: x3 :: xs)) = some (.agg [x0, x1, x2, x3]) := by kernel_rfl
@[go_sem] theorem bOv (H : aN) (x : AV) (xs : List AV) : bS prog H 54 (.ptr (x :: xs)) = some x := by kernel_rfl
@[go_sem] theorem bOx (H : aN) (x0 x1 x2 x3 x4 x5 : AV) (xs : List AV) : bS prog H 56 (.ptr (x0 :: x1 :: x2 :: x3 :: x4 :: x5 :: xs)) = some (.agg [x0, x1, x2, x3, x4, x5]) := by kernel_rfl
@[go_sem] theorem bP1 (H : aN) (x0 x1 : AV) (xs : List AV) : bS prog H 69 (.ptr (x0 :: x1 :: xs)) = some (.agg [x0, x1]) := by kernel_rfl
@[go_sem] theorem bRl (H : aN) (x : AV) (xs : List AV) : bS prog H 9 (.ptr (x :: xs)) = some x := by kernel_rfl
@[go_sem] theorem bFf (H : aN) (k : IntKind) (n : Int) : mU prog H 3 43 (.v (.int k n)) = some (.v (.int .u64 (IntKind.u64.wrap n))) := gO underlying3 underlying43
@[go_sem] theorem bFk (H : aN) (k : IntKind) (n : Int) : mU prog H 5 43 (.v (.int k n)) = some (.v (.int .u64 (IntKind.u64.wrap n))) := gO underlying5 underlying43
def mY (rec1 : Int → List Int → Int → Int → Option (Int)) (aJi : Int) (t6 : List Int) (t7 : Int) (t8 : Int) : Option (Int) :=
 (bif (decide (t8 < t7)) then
  ((idx t6 t8).bind fun x2 =>
  (bif (x2 != aJi) then
   some x2
  else
   rec1 aJi t6 t7 (IntKind.i64.wrap (t8 + 1))))
 else
  some aJi)
def rQ : Nat → Int → List Int → Int → Int → Option (Int)
 | 0 => fun _ _ _ _ => none
 | n + 1 => mY (rQ n)
def aCv (aRh : List Int) : Option (Int) :=
 rQ bF 0 aRh (aRh.length : Int) 0
theorem aZz {aRh : List Int} {r : Int} (hm : aCv aRh = some r) : bC prog 106 [vl (ci .i64) aRh] (vi r) := by
 refine bd 18 func106 ?_
 refine W ?_
 refine lp (fun m s => ∃ aJi t6 t7 t8, s = ⟨18, (aE (aE (aE (aE fa 3 (vi aJi)) 6 (vl (ci .i64) t6)) 7 (vi t7)) 8 (vi t8)), ⟨aV, 64⟩⟩ ∧ rQ m aJi t6 t7 t8 = some r) L ?_
 rintro n1 s ⟨aJi, t6, t7, t8, rfl, hm⟩
 refine W ?_
 refine cm hm (fun hm => ?_) fun hm => ?_
 ·
  obtain ⟨x2, h1, hm⟩ := bnd hm
  refine W ?_
  refine cm hm (fun hm => ?_) fun hm => ?_
  · exact E
  exact L
 exact E
def lW (p_0 : aG) (q_1 : aG) : Option (Int) :=
 ((jB p_0.x0 q_1.x0).bind fun r2 =>
 ((jB p_0.x1 q_1.x1).bind fun r4 =>
 ((aCv [r2, r4]).bind fun r6 =>
 some r6)))
theorem aO6 {p_0 : aG} {q_1 : aG} {r : Int} (hm : lW p_0 q_1 = some r) : bC prog 105 [.agg [vu p_0.x0, vu p_0.x1], .agg [vu q_1.x0, vu q_1.x1]] (vi r) := by
 refine bd 17 func105 ?_
 obtain ⟨r2, h1, hm⟩ := bnd hm
 refine W ?_
 refine cq (zF h1) ?_
 obtain ⟨r4, h3, hm⟩ := bnd hm
 refine W ?_
 refine cq (zF h3) ?_
 refine aL (CFi .i64) [r2, r4] ?_
 obtain ⟨r6, h5, hm⟩ := bnd hm
 refine aW.callB (r := .v (.int .i64 r6)) Zd Z1 bSw (.cons (lto (CFi .i64) Z1 Z3 Z6) aU2.nil) bQd (aZz h5) ?_
 exact E
def zM (rec1 : aD → List aG → List aC → Int → Int → Option ((List aG))) (s_1 : aD) (aAs : List aG) (t19 : List aC) (t20 : Int) (t21 : Int) : Option ((List aG)) :=
 (bif (decide (t21 < t20)) then
  ((idx t19 t21).bind fun x4 =>
  ((idx s_1.Slots x4.U).bind fun x6 =>
  ((idx s_1.Slots x4.V).bind fun x8 =>
  ((app aAs [(aG.mk (if x8.Key < x6.Key then x8.Key else x6.Key) (if x6.Key < x8.Key then x8.Key else x6.Key))]).bind fun l10 =>
  rec1 s_1 l10 t19 t20 (IntKind.i64.wrap (t21 + 1))))))
 else
  ((aF1 (fun x => x.length) aAs.length (fK aAs (fun x0 x1 => lW x0 x1))).bind fun l12 =>
  some l12))
def nD : Nat → aD → List aG → List aC → Int → Int → Option ((List aG))
 | 0 => fun _ _ _ _ _ => none
 | n + 1 => zM (nD n)
def aBh (s_0 : aD) : Option ((List aG)) :=
 ((gZ s_0.Graph.Config.N s_0.Graph.Edges s_0.Graph.Config.L).bind fun r2 =>
 nD bF s_0 [] r2 (r2.length : Int) 0)
theorem aRy {s_0 : aD} {r : (List aG)} (hm : aBh s_0 = some r) : bC prog 80 [.agg [vi s_0.Graph.Config.N, vi s_0.Graph.Config.L, vi s_0.Graph.Config.R, vl bE s_0.Graph.Hashes, vl aO s_0.Graph.Edges, vl aY s_0.Slots]] (vl bO r) := by
 refine bd 53 func80 ?_
 obtain ⟨r2, h1, hm⟩ := bnd hm
 refine W ?_
 refine cq (qS h1) ?_
 refine W ?_
 refine lp (fun m s => ∃ s_1 aAs t19 t20 t21, s = ⟨53, (aE (aE (aE (aE (aE fa 1 (.adr 1 0)) 4 (.own 2 0 aAs.length)) 19 (vl aO t19)) 20 (vi t20)) 21 (vi t21)), ⟨(upd (upd aV 1 (.cells 1 [vi s_1.Graph.Config.N, vi s_1.Graph.Config.L, vi s_1.Graph.Config.R, vl bE s_1.Graph.Hashes, vl aO s_1.Graph.Edges, vl aY s_1.Slots] 0)) 2 (.cells 2 (aAs.flatMap bO) 0)), 64⟩⟩ ∧ nD m s_1 aAs t19 t20 t21 = some r) ?_ ?_
 ·
  refine ⟨_, ?_, s_0, [], r2, (r2.length : Int), 0, rfl, hm⟩
  refine St.Le.trans (kH 4 900004 2 Z1 Z5) ?_
  exact cn (fun j => bif j == 1 then 0 else bif j == 2 then 900004 else 0)
 rintro n1 s ⟨s_1, aAs, t19, t20, t21, rfl, hm⟩
 refine W ?_
 refine cm hm (fun hm => ?_) fun hm => ?_
 ·
  obtain ⟨x4, h3, hm⟩ := bnd hm
  obtain ⟨x6, h5, hm⟩ := bnd hm
  obtain ⟨x8, h7, hm⟩ := bnd hm
  refine W ?_
  refine bU (.agg [.v (.int .u64 (if x8.Key < x6.Key then x8.Key else x6.Key)), .v (.int .u64 (if x6.Key < x8.Key then x8.Key else x6.Key))]) ?_
  refine aL bY [(aG.mk (if x8.Key < x6.Key then x8.Key else x6.Key) (if x6.Key < x8.Key then x8.Key else x6.Key))] ?_
  obtain ⟨l10, h9, hm⟩ := bnd hm
  refine W ?_
  exact Lr (fun j => bif j == 1 then 1 else bif j == 2 then 265 else 0)
 obtain ⟨l12, h11, hm⟩ := bnd hm
 refine W ?_
 have qh11 := aLx h11
 refine aW.callM Zd Z1 bSu Z1 (aEh (aIo h11) aFl bSv (fun h => aO6 h) Z3) ?_
 exact E
def aJa (rec1 : ByteArray → Int → Int → Option (Int)) (b_0 : ByteArray) (aTr : Int) (i_4 : Int) : Option (Int) :=
 (bif (decide (i_4 < (b_0.size : Int))) then
  ((aG0 aTr 257).bind fun r2 =>
  ((aYt b_0 i_4).bind fun b4 =>
  ((aFz r2 (IntKind.u64.wrap ((IntKind.u64.wrap b4) + 1))).bind fun r6 =>
  rec1 b_0 r6 (IntKind.i64.wrap (i_4 + 1)))))
 else
  some aTr)
def aAb : Nat → ByteArray → Int → Int → Option (Int)
 | 0 => fun _ _ _ => none
 | n + 1 => aJa (aAb n)
def aMc (b_0 : ByteArray) : Option (Int) :=
 aAb bF b_0 1 0
theorem bI2 {b_0 : ByteArray} {r : Int} (hm : aMc b_0 = some r) : bC prog 111 [.v (.string b_0)] (vu r) := by
 refine bd 20 func111 ?_
 refine W ?_
 refine lp (fun m s => ∃ b_0 aTr i_4, s = ⟨20, (aE (aE (aE fa 0 (.v (.string b_0))) 3 (vu aTr)) 4 (vi i_4)), ⟨aV, 64⟩⟩ ∧ aAb m b_0 aTr i_4 = some r) L ?_
 rintro n1 s ⟨b_0, aTr, i_4, rfl, hm⟩
 refine W ?_
 refine cm hm (fun hm => ?_) fun hm => ?_
 ·
  refine W ?_
  refine AWp.regD 64 mix (by kernel_rfl) (N' := 192) rfl ?_
  obtain ⟨r2, h1, hm⟩ := bnd hm
  refine W ?_
  refine cq (aY2 h1) ?_
  obtain ⟨b4, h3, hm⟩ := bnd hm
  obtain ⟨r6, h5, hm⟩ := bnd hm
  refine W ?_
  refine cq (aY1 h5) ?_
  exact L
 exact E
def aGu (rec3 : aD → List Int → List aM → Int → Int → Option (ByteArray × Int)) (s_1 : aD) (b_5 : List Int) (t58 : List aM) (t59 : Int) (t60 : Int) : Option (ByteArray × Int) :=
 rec3 s_1 b_5 t58 t59 (IntKind.i64.wrap (t60 + 1))
def wX (rec3 : aD → List Int → List aM → Int → Int → Option (ByteArray × Int)) (s_1 : aD) (b_5 : List Int) (aHe : aM) (aL6 : Int) (t58 : List aM) (t59 : Int) (t60 : Int) : Option (ByteArray × Int) :=
 ((iD b_5 aL6 1).bind fun l16 =>
 ((iD l16 aHe.Key 8).bind fun l18 =>
 aGu rec3 s_1 l18 t58 t59 t60))
def aGt (rec4 : List Int → List aC → Int → Int → Option (ByteArray × Int)) (b_5 : List Int) (t83 : List aC) (t84 : Int) (t85 : Int) : Option (ByteArray × Int) :=
 (bif (decide (t85 < t84)) then
  ((idx t83 t85).bind fun x22 =>
  ((iD b_5 (IntKind.u64.wrap x22.U) 2).bind fun l24 =>
  ((iD l24 (IntKind.u64.wrap x22.V) 2).bind fun l26 =>
  ((iD l26 (IntKind.u64.wrap x22.Tier) 1).bind fun l28 =>
  rec4 l28 t83 t84 (IntKind.i64.wrap (t85 + 1))))))
 else
  ((aMc (lU b_5)).bind fun r30 =>
  ((iD b_5 r30 8).bind fun l32 =>
  some ((lU l32), 0))))
def sA : Nat → List Int → List aC → Int → Int → Option (ByteArray × Int)
 | 0 => fun _ _ _ _ => none
 | n + 1 => aGt (sA n)
def aGs (rec3 : aD → List Int → List aM → Int → Int → Option (ByteArray × Int)) (s_1 : aD) (b_5 : List Int) (t58 : List aM) (t59 : Int) (t60 : Int) : Option (ByteArray × Int) :=
 (bif (decide (t60 < t59)) then
  ((idx t58 t60).bind fun x14 =>
  (bif x14.Used then
   wX rec3 s_1 b_5 x14 1 t58 t59 t60
  else
   wX rec3 s_1 b_5 x14 0 t58 t59 t60))
 else
  ((iD b_5 (IntKind.u64.wrap (s_1.Graph.Edges.length : Int)) 4).bind fun l20 =>
  sA bF l20 s_1.Graph.Edges (s_1.Graph.Edges.length : Int) 0))
def iY : Nat → aD → List Int → List aM → Int → Int → Option (ByteArray × Int)
 | 0 => fun _ _ _ _ _ => none
 | n + 1 => aGs (iY n)
def aGr (rec2 : aD → List Int → List bV → Int → Int → Option (ByteArray × Int)) (s_1 : aD) (b_5 : List Int) (t42 : List bV) (t43 : Int) (t44 : Int) : Option (ByteArray × Int) :=
 (bif (decide (t44 < t43)) then
  ((idx t42 t44).bind fun x8 =>
  ((iD b_5 x8.A 8).bind fun l10 =>
  ((iD l10 x8.B 8).bind fun l12 =>
  rec2 s_1 l12 t42 t43 (IntKind.i64.wrap (t44 + 1)))))
 else
  iY bF s_1 b_5 s_1.Slots (s_1.Slots.length : Int) 0)
def nX : Nat → aD → List Int → List bV → Int → Int → Option (ByteArray × Int)
 | 0 => fun _ _ _ _ _ => none
 | n + 1 => aGr (nX n)
def wW (rec1 : aD → List Int → List Int → Int → Int → Option (ByteArray × Int)) (s_1 : aD) (b_5 : List Int) (t29 : List Int) (t30 : Int) (t31 : Int) : Option (ByteArray × Int) :=
 (bif (decide (t31 < t30)) then
  ((idx t29 t31).bind fun x4 =>
  ((iD b_5 (IntKind.u64.wrap x4) 2).bind fun l6 =>
  rec1 s_1 l6 t29 t30 (IntKind.i64.wrap (t31 + 1))))
 else
  nX bF s_1 b_5 s_1.Graph.Hashes (s_1.Graph.Hashes.length : Int) 0)
def jZ : Nat → aD → List Int → List Int → Int → Int → Option (ByteArray × Int)
 | 0 => fun _ _ _ _ _ => none
 | n + 1 => wW (jZ n)
def aEj (s_0 : aD) : Option (ByteArray × Int) :=
 ((lD s_0).bind fun r2 =>
 (bif (!r2) then
  some (⟨#[]⟩, 1)
 else
  jZ bF s_0 [82, 65, 70, 84] [s_0.Graph.Config.N, s_0.Graph.Config.L, s_0.Graph.Config.R] (([s_0.Graph.Config.N, s_0.Graph.Config.L, s_0.Graph.Config.R]).length : Int) 0))
theorem bCz {s_0 : aD} {r : ByteArray × Int} (hm : aEj s_0 = some r) : bC prog 82 [.agg [vi s_0.Graph.Config.N, vi s_0.Graph.Config.L, vi s_0.Graph.Config.R, vl bE s_0.Graph.Hashes, vl aO s_0.Graph.Edges, vl aY s_0.Slots]] (.tup [.v (.string r.1), vi r.2]) := by
 refine bd 111 func82 ?_
 obtain ⟨r2, h1, hm⟩ := bnd hm
 refine W ?_
 refine cq (aGq h1) ?_
 refine W ?_
 refine cm hm (fun hm => ?_) fun hm => ?_
 · exact E
 iterate 9 refine S1 ?_
 refine AWp.seq' ?_
 refine AWp.regL (N' := 256) [82, 65, 70, 84] rfl rfl underlying172 underlying5 sz5 zc5 Z5 Zd Zd rfl (by simp only [go_sem, Nat.reduceBEq]; try rfl) (by kernel_rfl) rfl rfl ?_
 refine W ?_
 refine aL (CFi .i64) [s_0.Graph.Config.N, s_0.Graph.Config.L, s_0.Graph.Config.R] ?_
 refine W ?_
 refine lp (fun m s => ∃ s_1 b_5 t29 t30 t31, s = ⟨111, (aE (aE (aE (aE (aE fa 1 (.adr 1 0)) 5 (.own 2 0 b_5.length)) 29 (.own 3 0 t29.length)) 30 (vi t30)) 31 (vi t31)), ⟨(upd (upd (upd aV 1 (.cells 1 [vi s_1.Graph.Config.N, vi s_1.Graph.Config.L, vi s_1.Graph.Config.R, vl bE s_1.Graph.Hashes, vl aO s_1.Graph.Edges, vl aY s_1.Slots] 0)) 2 (.cells 1 (b_5.flatMap (ci .u8)) 0)) 3 (.cells 1 (t29.flatMap (ci .i64)) 0)), 64⟩⟩ ∧ jZ m s_1 b_5 t29 t30 t31 = some r) (Lr (fun j => bif j == 1 then 0 else bif j == 2 then 192 else bif j == 3 then 262 else 0)) ?_
 rintro n1 s ⟨s_1, b_5, t29, t30, t31, rfl, hm⟩
 refine W ?_
 refine cm hm (fun hm => ?_) fun hm => ?_
 ·
  obtain ⟨x4, h3, hm⟩ := bnd hm
  obtain ⟨l6, h5, hm⟩ := bnd hm
  refine W ?_
  refine aW.callA Zd Z1 aHp Z1 (mL h5 (J := 195) Z3 (aHq Z5) Zd Zd KF DF) ?_
  refine W ?_
  exact Lr (fun j => bif j == 1 then 1 else bif j == 2 then 195 else bif j == 3 then 3 else 0)
 refine W ?_
 refine lp (fun m s => ∃ s_1 b_5 t42 t43 t44, s = ⟨111, (aE (aE (aE (aE (aE fa 1 (.adr 1 0)) 5 (.own 2 0 b_5.length)) 42 (vl bE t42)) 43 (vi t43)) 44 (vi t44)), ⟨(upd (upd aV 1 (.cells 1 [vi s_1.Graph.Config.N, vi s_1.Graph.Config.L, vi s_1.Graph.Config.R, vl bE s_1.Graph.Hashes, vl aO s_1.Graph.Edges, vl aY s_1.Slots] 0)) 2 (.cells 1 (b_5.flatMap (ci .u8)) 0)), 64⟩⟩ ∧ nX m s_1 b_5 t42 t43 t44 = some r) (Lr (fun j => bif j == 1 then 1 else bif j == 2 then 2 else 0)) ?_
 rintro n2 s ⟨s_1, b_5, t42, t43, t44, rfl, hm⟩
 refine W ?_
 refine cm hm (fun hm => ?_) fun hm => ?_
 ·
  obtain ⟨x8, h7, hm⟩ := bnd hm
  obtain ⟨l10, h9, hm⟩ := bnd hm
  refine W ?_
  refine aW.callA Zd Z1 aHp Z1 (mL h9 (J := 195) Z3 (aHq Z5) Zd Zd KF DF) ?_
  obtain ⟨l12, h11, hm⟩ := bnd hm
  refine W ?_
  refine aW.callA Zd Z1 aHp Z1 (mL h11 (J := 259) Z3 (aHq Z5) Zd Zd KF DF) ?_
  refine W ?_
  exact Lr (fun j => bif j == 1 then 1 else bif j == 2 then 259 else 0)
 refine W ?_
 refine lp (fun m s => ∃ s_1 b_5 t58 t59 t60, s = ⟨111, (aE (aE (aE (aE (aE fa 1 (.adr 1 0)) 5 (.own 2 0 b_5.length)) 58 (vl aY t58)) 59 (vi t59)) 60 (vi t60)), ⟨(upd (upd aV 1 (.cells 1 [vi s_1.Graph.Config.N, vi s_1.Graph.Config.L, vi s_1.Graph.Config.R, vl bE s_1.Graph.Hashes, vl aO s_1.Graph.Edges, vl aY s_1.Slots] 0)) 2 (.cells 1 (b_5.flatMap (ci .u8)) 0)), 64⟩⟩ ∧ iY m s_1 b_5 t58 t59 t60 = some r) (Lr (fun j => bif j == 1 then 1 else bif j == 2 then 2 else 0)) ?_
 rintro n3 s ⟨s_1, b_5, t58, t59, t60, rfl, hm⟩
 refine W ?_
 refine cm hm (fun hm => ?_) fun hm => ?_
 ·
  refine V ?_
  refine AWp.seqJ (fun s => ∃ s_1 b_5 t58 t59 t60, s = ⟨111, (aE (aE (aE (aE (aE fa 1 (.adr 1 0)) 5 (.own 2 0 b_5.length)) 58 (vl aY t58)) 59 (vi t59)) 60 (vi t60)), ⟨(upd (upd aV 1 (.cells 1 [vi s_1.Graph.Config.N, vi s_1.Graph.Config.L, vi s_1.Graph.Config.R, vl bE s_1.Graph.Hashes, vl aO s_1.Graph.Edges, vl aY s_1.Slots] 0)) 2 (.cells 1 (b_5.flatMap (ci .u8)) 0)), 64⟩⟩ ∧ aGu (iY n3) s_1 b_5 t58 t59 t60 = some r) ?_ ?_
  ·
   obtain ⟨x14, h13, hm⟩ := bnd hm
   refine V ?_
   refine AWp.seqJ (fun s => ∃ s_1 b_5 aHe aL6 t58 t59 t60, s = ⟨111, (aE (aE (aE (aE (aE (aE (aE fa 1 (.adr 1 0)) 5 (.own 2 0 b_5.length)) 11 (.adr 3 0)) 12 (vu aL6)) 58 (vl aY t58)) 59 (vi t59)) 60 (vi t60)), ⟨(upd (upd (upd aV 1 (.cells 1 [vi s_1.Graph.Config.N, vi s_1.Graph.Config.L, vi s_1.Graph.Config.R, vl bE s_1.Graph.Hashes, vl aO s_1.Graph.Edges, vl aY s_1.Slots] 0)) 2 (.cells 1 (b_5.flatMap (ci .u8)) 0)) 3 (.cells 1 [vb aHe.Used, vu aHe.Key] 0)), 64⟩⟩ ∧ wX (iY n3) s_1 b_5 aHe aL6 t58 t59 t60 = some r) ?_ ?_
   ·
    refine W ?_
    refine cm hm (fun hm => ?_) fun hm => ?_
    ·
     refine W ?_
     exact Lr (fun j => bif j == 1 then 1 else bif j == 2 then 2 else bif j == 3 then 130 else 0)
    refine W ?_
    exact Lr (fun j => bif j == 1 then 1 else bif j == 2 then 2 else bif j == 3 then 130 else 0)
   rintro s ⟨s_1, b_5, aHe, aL6, t58, t59, t60, rfl, hm⟩
   obtain ⟨l16, h15, hm⟩ := bnd hm
   refine W ?_
   refine aW.callA Zd Z1 aHp Z1 (mL h15 (J := 66) Z3 (aHq Z5) Zd Zd KF DF) ?_
   obtain ⟨l18, h17, hm⟩ := bnd hm
   refine W ?_
   refine aW.callA Zd Z1 aHp Z1 (mL h17 (J := 131) Z3 (aHq Z5) Zd Zd KF DF) ?_
   refine W ?_
   exact Lr (fun j => bif j == 1 then 1 else bif j == 2 then 131 else 0)
  rintro s ⟨s_1, b_5, t58, t59, t60, rfl, hm⟩
  refine W ?_
  exact Lr (fun j => bif j == 1 then 1 else bif j == 2 then 2 else 0)
 obtain ⟨l20, h19, hm⟩ := bnd hm
 refine W ?_
 refine aW.callA Zd Z1 aHp Z1 (mL h19 (J := 134) Z3 (aHq Z5) Zd Zd KF DF) ?_
 refine W ?_
 refine lp (fun m s => ∃ b_5 t83 t84 t85, s = ⟨111, (aE (aE (aE (aE fa 5 (.own 1 0 b_5.length)) 83 (vl aO t83)) 84 (vi t84)) 85 (vi t85)), ⟨(upd aV 1 (.cells 1 (b_5.flatMap (ci .u8)) 0)), 64⟩⟩ ∧ sA m b_5 t83 t84 t85 = some r) (Lr (fun j => bif j == 1 then 134 else 0)) ?_
 rintro n4 s ⟨b_5, t83, t84, t85, rfl, hm⟩
 refine W ?_
 refine cm hm (fun hm => ?_) fun hm => ?_
 ·
  obtain ⟨x22, h21, hm⟩ := bnd hm
  obtain ⟨l24, h23, hm⟩ := bnd hm
  refine W ?_
  refine aW.callA Zd Z1 aHp Z1 (mL h23 (J := 196) Z3 (aHq Z5) Zd Zd KF DF) ?_
  obtain ⟨l26, h25, hm⟩ := bnd hm
  refine W ?_
  refine aW.callA Zd Z1 aHp Z1 (mL h25 (J := 260) Z3 (aHq Z5) Zd Zd KF DF) ?_
  obtain ⟨l28, h27, hm⟩ := bnd hm
  refine W ?_
  refine aW.callA Zd Z1 aHp Z1 (mL h27 (J := 324) Z3 (aHq Z5) Zd Zd KF DF) ?_
  refine W ?_
  exact Lr (fun j => bif j == 1 then 324 else 0)
 refine W ?_
 refine pu rfl (aP3 underlying172 underlying9 underlying5 Z1 Z3 Z6) ?_
 obtain ⟨r30, h29, hm⟩ := bnd hm
 refine cq (bI2 h29) ?_
 obtain ⟨l32, h31, hm⟩ := bnd hm
 refine aW.callA Zd Z1 aHp Z1 (mL h31 (J := 132) Z3 (aHq Z5) Zd Zd KF DF) ?_
 refine pu rfl (aP3 underlying172 underlying9 underlying5 Z1 Z3 Z6) ?_
 exact E
def eE (s_0 : aD) (aBf : Int) (u_2 : Int) (v_3 : Int) : Option (GA) :=
 ((nZ s_0.Graph).bind fun r2 =>
 (bif (aBf == 5) then
  ((nK s_0.Graph.Edges u_2 v_3).bind fun ⟨r4, r5⟩ =>
  some (GA.b 4 r5))
 else
  (bif (aBf == 6) then
   ((qH s_0 u_2).bind fun r7 =>
   some (GA.i 3 .i64 r7))
  else
   (bif (aBf == 7) then
    ((wA s_0 u_2).bind fun r9 =>
    ((nE s_0 r9).bind fun r11 =>
    some (GA.lu 24 r11)))
   else
    (bif (aBf == 8) then
     ((idx r2 u_2).bind fun x13 =>
     ((idx r2 v_3).bind fun x15 =>
     some (GA.b 4 (x13 == x15))))
    else
     (bif (aBf == 9) then
      ((rV r2 u_2).bind fun r17 =>
      ((nE s_0 r17).bind fun r19 =>
      some (GA.i 3 .i64 (r19.length : Int))))
     else
      (bif (aBf == 10) then
       ((zL s_0 r2).bind fun r21 =>
       some (GA.i 3 .i64 r21))
      else
       (bif (aBf == 11) then
        ((rV r2 u_2).bind fun r23 =>
        ((nE s_0 r23).bind fun r25 =>
        some (GA.lu 24 r25)))
       else
        (bif (aBf == 12) then
         ((aBh s_0).bind fun r27 =>
         some (GA.lp 40 r27))
        else
         (bif (aBf == 13) then
          ((yB s_0.Graph).bind fun r29 =>
          some (GA.b 4 r29))
         else
          ((aEj s_0).bind fun ⟨r31, r32⟩ =>
          some (GA.s 9 r31))))))))))))
theorem aRw {s_0 : aD} {aBf : Int} {u_2 : Int} {v_3 : Int} {r : GA} (hm : eE s_0 aBf u_2 v_3 = some r) : bC prog 42 [.agg [vi s_0.Graph.Config.N, vi s_0.Graph.Config.L, vi s_0.Graph.Config.R, vl bE s_0.Graph.Hashes, vl aO s_0.Graph.Edges, vl aY s_0.Slots], vi aBf, vi u_2, vi v_3] (GA.av r) := by
 refine bd 98 func42 ?_
 obtain ⟨r2, h1, hm⟩ := bnd hm
 refine W ?_
 refine cq (aNv h1) ?_
 refine W ?_
 refine cm hm (fun hm => ?_) fun hm => ?_
 ·
  refine W ?_
  obtain ⟨⟨r4, r5⟩, h3, hm⟩ := bnd hm
  refine cq (zR h3) ?_
  exact E
 refine W ?_
 refine cm hm (fun hm => ?_) fun hm => ?_
 ·
  obtain ⟨r7, h6, hm⟩ := bnd hm
  refine W ?_
  refine cq (aHs h6) ?_
  exact E
 refine W ?_
 refine cm hm (fun hm => ?_) fun hm => ?_
 ·
  obtain ⟨r9, h8, hm⟩ := bnd hm
  refine W ?_
  refine cq (aN5 h8) ?_
  obtain ⟨r11, h10, hm⟩ := bnd hm
  refine cq (aFr h10) ?_
  refine aW.pop Zd (aDi Z1 ((CFi .u64).sl _ _ _)) (aQg (a := .sl (r11.flatMap (ci .u64)) r11.length false) underlying24 (fun _ => by simp) Z1 ((CFi .u64).sl _ _ _) (fun H => (td rfl ((CFi .u64).sl _ _ _)))) rfl ?_
  exact E
 refine W ?_
 refine cm hm (fun hm => ?_) fun hm => ?_
 ·
  obtain ⟨x13, h12, hm⟩ := bnd hm
  obtain ⟨x15, h14, hm⟩ := bnd hm
  exact E
 refine W ?_
 refine cm hm (fun hm => ?_) fun hm => ?_
 ·
  obtain ⟨r17, h16, hm⟩ := bnd hm
  refine W ?_
  refine cq (aG6 h16) ?_
  obtain ⟨r19, h18, hm⟩ := bnd hm
  refine cq (aFr h18) ?_
  exact E
 refine W ?_
 refine cm hm (fun hm => ?_) fun hm => ?_
 ·
  obtain ⟨r21, h20, hm⟩ := bnd hm
  refine W ?_
  refine cq (aQ0 h20) ?_
  exact E
 refine W ?_
 refine cm hm (fun hm => ?_) fun hm => ?_
 ·
  obtain ⟨r23, h22, hm⟩ := bnd hm
  refine W ?_
  refine cq (aG6 h22) ?_
  obtain ⟨r25, h24, hm⟩ := bnd hm
  refine cq (aFr h24) ?_
  refine aW.pop Zd (aDi Z1 ((CFi .u64).sl _ _ _)) (aQg (a := .sl (r25.flatMap (ci .u64)) r25.length false) underlying24 (fun _ => by simp) Z1 ((CFi .u64).sl _ _ _) (fun H => (td rfl ((CFi .u64).sl _ _ _)))) rfl ?_
  exact E
 refine W ?_
 refine cm hm (fun hm => ?_) fun hm => ?_
 ·
  obtain ⟨r27, h26, hm⟩ := bnd hm
  refine W ?_
  refine cq (aRy h26) ?_
  refine aW.pop Zd (aDi Z1 (bY.sl _ _ _)) (aQg (a := .sl (r27.flatMap bO) r27.length false) underlying40 (fun _ => by simp) Z1 (bY.sl _ _ _) (fun H => (td rfl (bY.sl _ _ _)))) rfl ?_
  exact E
 refine W ?_
 refine cm hm (fun hm => ?_) fun hm => ?_
 ·
  obtain ⟨r29, h28, hm⟩ := bnd hm
  refine W ?_
  refine cq (aUh h28) ?_
  exact E
 refine W ?_
 obtain ⟨⟨r31, r32⟩, h30, hm⟩ := bnd hm
 refine cq (bCz h30) ?_
 exact E
def lP (f_1 : (aM → Option (Bool))) (rec1 : List aM → Int → Int → Option (Int)) (s_0 : List aM) (t7 : Int) (t8 : Int) : Option (Int) :=
 (bif (decide (t8 < t7)) then
  ((idx s_0 t8).bind fun x2 =>
  ((f_1 x2).bind fun r4 =>
  (bif r4 then
   some t8
  else
   rec1 s_0 t7 (IntKind.i64.wrap (t8 + 1)))))
 else
  some (-1))
def eR (f_1 : (aM → Option (Bool))) : Nat → List aM → Int → Int → Option (Int)
 | 0 => fun _ _ _ => none
 | n + 1 => lP f_1 (eR f_1 n)
def mN (s_0 : List aM) (f_1 : (aM → Option (Bool))) : Option (Int) :=
 eR f_1 bF s_0 (s_0.length : Int) 0
theorem aF2 {s_0 : List aM} {f_1 : (aM → Option (Bool))} {r : Int} (hm : mN s_0 f_1 = some r) {aK2 : FuncId} {yC : List AV} (aPx : ∀ a, a ∈ yC → AM.Data a) (bC1 : (Program.funcs prog)[aK2]?.any (fun fn => fn.body.isSome && fn.name != "runtime.NumGoroutine") = true) (bC5 : ∀ {x0 r}, f_1 x0 = some r → bC prog aK2 ([.agg [vb x0.Used, vu x0.Key]] ++ yC) (vb r)) : bC prog 112 [vl aY s_0, .clo (.func aK2) [] yC] (vi r) := by
 refine bd 19 func112 ?_
 refine W ?_
 refine lp (fun m s => ∃ s_0 t7 t8, s = ⟨19, (aE (aE (aE (aE fa 0 (vl aY s_0)) 1 (.clo (.func aK2) [] yC)) 7 (vi t7)) 8 (vi t8)), ⟨aV, 64⟩⟩ ∧ eR f_1 m s_0 t7 t8 = some r) L ?_
 rintro n1 s ⟨s_0, t7, t8, rfl, hm⟩
 refine W ?_
 refine cm hm (fun hm => ?_) fun hm => ?_
 ·
  obtain ⟨x2, h1, hm⟩ := bnd hm
  obtain ⟨r4, h3, hm⟩ := bnd hm
  refine W ?_
  refine aW.callQC (r := .v (.bool r4)) Zd Z1 aPx bC1 (fun H => (cD (.agg _ (dX.dat _)) .nil)) (bC5 h3) ?_
  refine W ?_
  refine cm hm (fun hm => ?_) fun hm => ?_
  · exact E
  exact L
 exact E
def kA (aR2 : aM) : Option (Bool) :=
 some (!aR2.Used)
theorem aW7 {aR2 : aM} {r : Bool} (hm : kA aR2 = some r) : bC prog 113 [.agg [vb aR2.Used, vu aR2.Key]] (vb r) := by
 refine bd 6 func113 ?_
 exact E
def gG (l : List aM) : Option (List aM) := app [] l
theorem aJ6 {r : List aM} (hm : some [] = some r) : dO prog 114 [.v (.slice none 0 0)] 2 (r.flatMap aY) r.length := by
 refine dO.of_body func114 rfl (dX.fmdat r) ?_
 simp only [ntmps114, List.length_cons, List.length_nil, Nat.reduceAdd, Nat.reduceSub, fL]
 refine sN 64 (pA ?_)
 refine fs (AWp.seq' (sN 128 (pA ?_)))
 refine pu rfl (xB Z1 Z1 (aJk underlying31)) ?_
 refine fs (AWp.condT Z1 ?_)
 refine sN 192 (pA ?_)
 refine fs (AWp.weaken (kH 2 900002 2 Z1 Z5) ?_)
 refine AWp.ret (kJ ?_)
 cases hm
 exact aKq (.inr rfl) Tryz.results114 Z1 Z3 Z6
theorem aJ7 {a : Addr} {c : Nat} {r : List aM} (hm : ((app [] []).bind fun l2 =>
some l2) = some r) : dO prog 114 [.v (.slice (some a) 0 c)] 2 (r.flatMap aY) r.length := by
 refine dO.of_body func114 rfl (dX.fmdat r) ?_
 simp only [ntmps114, List.length_cons, List.length_nil, Nat.reduceAdd, Nat.reduceSub, fL]
 refine sN 64 (pA ?_)
 refine fs (AWp.seq' (sN 128 (pA ?_)))
 refine pu rfl (xB Z1 Z1 (aH2 underlying31)) ?_
 refine fs (AWp.condF Z1 ?_)
 refine AWp.skip (cG (sN 192 (hp (id := 128) rfl rfl (lF dX (l := []) underlying31 bLz bM9 Z5 Zd Zd Zd (by simp only [go_sem, Nat.reduceBEq]; try rfl) (by kernel_rfl)) ?_)))
 refine pA ?_
 obtain ⟨l2, h1, hm⟩ := bnd hm
 refine hp (id := 130) rfl rfl (aBb dX underlying31 underlying31 rfl bK8 bM3 (by rw [aTs]; decide) (by rw [aTs]; decide) bM5 Zd Zd Z1 Z3 Z6 (aOl Z1) rfl Z5 h1) ?_
 refine pA ?_
 refine fs (AWp.ret ?_)
 cases hm
 exact aKq (.inr rfl) Tryz.results114 Z1 Z3 Z6
theorem aJ8 {x0 : aM} {l0 : List aM} {r : List aM} (hm : ((app [] (x0 :: l0)).bind fun l2 =>
some l2) = some r) : dO prog 114 [.sl ((x0 :: l0).flatMap aY) (x0 :: l0).length false] 2 (r.flatMap aY) r.length := by
 refine dO.of_body func114 rfl (dX.fmdat r) ?_
 simp only [ntmps114, List.length_cons, List.length_nil, Nat.reduceAdd, Nat.reduceSub, fL]
 refine sN 64 (pA ?_)
 refine fs (AWp.seq' (sN 128 (pA ?_)))
 refine pu rfl (xB Z1 Z1 (aH1 underlying31 (by simp))) ?_
 refine fs (AWp.condF Z1 ?_)
 refine AWp.skip (cG (sN 192 (hp (id := 128) rfl rfl (lF dX (l := []) underlying31 bLz bM9 Z5 Zd Zd Zd (by simp only [go_sem, Nat.reduceBEq]; try rfl) (by kernel_rfl)) ?_)))
 refine pA ?_
 obtain ⟨l2, h1, hm⟩ := bnd hm
 refine hp (id := 130) rfl rfl (aBb dX underlying31 underlying31 rfl bK8 bM3 (by rw [aTs]; decide) (by rw [aTs]; decide) bM5 Zd Zd Z1 Z3 Z6 (aMs dX Z1 rfl) rfl Z5 h1) ?_
 refine pA ?_
 refine fs (AWp.ret ?_)
 cases hm
 exact aKq (.inr rfl) Tryz.results114 Z1 Z3 Z6
theorem aB6 {l r : List aM} (hm : gG l = some r) : dO prog 114 [.sl (l.flatMap aY) l.length false] 2 (r.flatMap aY) r.length := by
 cases l with
 | nil =>
  have hr : r = [] := by unfold gG app at hm; simpa using hm.symm
  subst hr
  exact dO.nil_arg (aJ6 (r := []) rfl) (fun a c => aJ7 (r := []) rfl)
 | cons x0 l0 =>
  refine aJ8 ?_
  show (app [] (x0 :: l0)).bind _ = _
  unfold gG at hm
  rw [hm]; rfl
def aEs (l_0 : List aM) (dS : Int) : Option ((List aM) × Int × Int) :=
 ((lT l_0).bind fun ⟨r2, r3⟩ =>
 (bif (!r3) then
  some (l_0, 0, 1)
 else
  ((uF r2 dS).bind fun ⟨r5, r6⟩ =>
  (bif r6 then
   some (l_0, 0, 4)
  else
   ((mN l_0 (fun x0 => kA x0)).bind fun r8 =>
   (bif (decide (r8 < 0)) then
    some (l_0, 0, 10)
   else
    ((gG l_0).bind fun r10 =>
    ((idx r10 r8).bind fun x12 =>
    ((stt r10 r8 (aM.mk true dS)).bind fun l14 =>
    some (l14, r8, 0))))))))))
theorem bD5 {l_0 : List aM} {dS : Int} {r : (List aM) × Int × Int} (hm : aEs l_0 dS = some r) : bC prog 83 [vl aY l_0, vu dS] (.tup [vl aY r.1, vi r.2.1, vi r.2.2]) := by
 refine bd 43 func83 ?_
 refine W ?_
 obtain ⟨⟨r2, r3⟩, h1, hm⟩ := bnd hm
 refine cq (yP h1) ?_
 refine W ?_
 refine cm hm (fun hm => ?_) fun hm => ?_
 · exact E
 refine W ?_
 obtain ⟨⟨r5, r6⟩, h4, hm⟩ := bnd hm
 refine cq (aH6 h4) ?_
 refine W ?_
 refine cm hm (fun hm => ?_) fun hm => ?_
 · exact E
 obtain ⟨r8, h7, hm⟩ := bnd hm
 refine W ?_
 refine aW.callQ (r := .v (.int .i64 r8)) Zd Z1 bSx (fun H => (cD (dX.sl _ _ _) (cD (bJn aFl) .nil))) (aF2 h7 aFl bSy (fun h => aW7 h)) ?_
 refine W ?_
 refine cm hm (fun hm => ?_) fun hm => ?_
 · exact E
 obtain ⟨r10, h9, hm⟩ := bnd hm
 refine W ?_
 refine aW.callF (id := 449) Zd Z1 bQ2 (fun H => (cD (dX.sl _ _ _) .nil)) dX Z5 (aB6 h9) ?_
 refine W ?_
 refine bU (.agg [vb true, vu dS]) ?_
 obtain ⟨x12, h11, hm⟩ := bnd hm
 obtain ⟨l14, h13, hm⟩ := bnd hm
 refine W ?_
 have qh13 := jI h13
 refine aS h13 ?_
 exact E
def vQ (l_0 : List aM) (dS : Int) : Option ((List aM) × Int) :=
 ((lT l_0).bind fun ⟨r2, r3⟩ =>
 (bif (!r3) then
  some (l_0, 1)
 else
  ((uF r2 dS).bind fun ⟨r5, r6⟩ =>
  (bif (!r6) then
   some (l_0, 7)
  else
   ((gG l_0).bind fun r8 =>
   ((idx r8 r5).bind fun x10 =>
   ((stt r8 r5 (aM.mk false 0)).bind fun l12 =>
   some (l12, 0))))))))
theorem aSk {l_0 : List aM} {dS : Int} {r : (List aM) × Int} (hm : vQ l_0 dS = some r) : bC prog 84 [vl aY l_0, vu dS] (.tup [vl aY r.1, vi r.2]) := by
 refine bd 35 func84 ?_
 refine W ?_
 obtain ⟨⟨r2, r3⟩, h1, hm⟩ := bnd hm
 refine cq (yP h1) ?_
 refine W ?_
 refine cm hm (fun hm => ?_) fun hm => ?_
 · exact E
 refine W ?_
 obtain ⟨⟨r5, r6⟩, h4, hm⟩ := bnd hm
 refine cq (aH6 h4) ?_
 refine W ?_
 refine cm hm (fun hm => ?_) fun hm => ?_
 · exact E
 obtain ⟨r8, h7, hm⟩ := bnd hm
 refine W ?_
 refine aW.callF (id := 321) Zd Z1 bQ2 (fun H => (cD (dX.sl _ _ _) .nil)) dX Z5 (aB6 h7) ?_
 refine W ?_
 refine bU (.agg [vb false, vu 0]) ?_
 obtain ⟨x10, h9, hm⟩ := bnd hm
 obtain ⟨l12, h11, hm⟩ := bnd hm
 refine W ?_
 have qh11 := jI h11
 refine aS h11 ?_
 exact E
def fS (s_4 : aD) (t8 : aD) (aPr : Int) : Option (aD × Int) :=
 some (s_4, aPr)
def kF (s_0 : aD) (c_1 : bH) (u_2 : Int) (v_3 : Int) : Option (aD × Int) :=
 (bif (c_1.Do == 1) then
  ((aEs s_0.Slots c_1.A).bind fun ⟨r2, r3, r4⟩ =>
  fS (aD.mk s_0.Graph r2) (aD.mk (aI.mk (aT.mk 0 0 0) [] []) []) r4)
 else
  (bif (c_1.Do == 2) then
   ((qH s_0 u_2).bind fun r6 =>
   (bif (decide (0 < r6)) then
    some (s_0, 11)
   else
    ((vQ s_0.Slots c_1.A).bind fun ⟨r8, r9⟩ =>
    fS (aD.mk s_0.Graph r8) (aD.mk (aI.mk (aT.mk 0 0 0) [] []) []) r9)))
  else
   (bif (c_1.Do == 3) then
    ((vN s_0.Graph u_2 v_3).bind fun ⟨r11, r12⟩ =>
    fS (aD.mk r11 s_0.Slots) (aD.mk (aI.mk (aT.mk 0 0 0) [] []) []) r12)
   else
    (bif (c_1.Do == 4) then
     (bif (u_2 == v_3) then
      some (s_0, 9)
     else
      ((vM s_0.Graph u_2 v_3).bind fun ⟨r14, r15⟩ =>
      fS (aD.mk r14 s_0.Slots) (aD.mk (aI.mk (aT.mk 0 0 0) [] []) []) r15))
    else
     (bif (c_1.Do == 15) then
      none
     else
      fS s_0 (aD.mk (aI.mk (aT.mk 0 0 0) [] []) []) 0)))))
theorem aRx {s_0 : aD} {c_1 : bH} {u_2 : Int} {v_3 : Int} {r : aD × Int} (hm : kF s_0 c_1 u_2 v_3 = some r) : bC prog 43 [.agg [vi s_0.Graph.Config.N, vi s_0.Graph.Config.L, vi s_0.Graph.Config.R, vl bE s_0.Graph.Hashes, vl aO s_0.Graph.Edges, vl aY s_0.Slots], .agg [vi c_1.Do, vu c_1.A, vu c_1.B, .v (.string c_1.Text)], vi u_2, vi v_3] (.tup [.agg [vi r.1.Graph.Config.N, vi r.1.Graph.Config.L, vi r.1.Graph.Config.R, vl bE r.1.Graph.Hashes, vl aO r.1.Graph.Edges, vl aY r.1.Slots], vi r.2]) := by
 refine bd 76 func43 ?_
 refine V ?_
 refine AWp.seqJ (fun s => ∃ s_4 t8 aPr, s = ⟨76, (aE (aE (aE fa 4 (.adr 1 0)) 8 (.adr 2 0)) 10 (vi aPr)), ⟨(upd (upd aV 1 (.cells 1 [vi s_4.Graph.Config.N, vi s_4.Graph.Config.L, vi s_4.Graph.Config.R, vl bE s_4.Graph.Hashes, vl aO s_4.Graph.Edges, vl aY s_4.Slots] 0)) 2 (.cells 1 [vi t8.Graph.Config.N, vi t8.Graph.Config.L, vi t8.Graph.Config.R, vl bE t8.Graph.Hashes, vl aO t8.Graph.Edges, vl aY t8.Slots] 0)), 64⟩⟩ ∧ fS s_4 t8 aPr = some r) ?_ ?_
 ·
  refine W ?_
  refine cm hm (fun hm => ?_) fun hm => ?_
  ·
   refine W ?_
   obtain ⟨⟨r2, r3, r4⟩, h1, hm⟩ := bnd hm
   refine cq (bD5 h1) ?_
   refine W ?_
   refine ⟨_, ?_, (aD.mk s_0.Graph r2), (aD.mk (aI.mk (aT.mk 0 0 0) [] []) []), r4, rfl, hm⟩
   refine St.Le.trans (jQ 2 (ys := [.v (.int .i64 ((((aD.mk (aI.mk (aT.mk 0 0 0) [] []) []).Graph).Config).N)), .v (.int .i64 ((((aD.mk (aI.mk (aT.mk 0 0 0) [] []) []).Graph).Config).L)), .v (.int .i64 ((((aD.mk (aI.mk (aT.mk 0 0 0) [] []) []).Graph).Config).R)), .sl ((((aD.mk (aI.mk (aT.mk 0 0 0) [] []) []).Graph).Hashes).flatMap bE) (((aD.mk (aI.mk (aT.mk 0 0 0) [] []) []).Graph).Hashes).length false, .sl ((((aD.mk (aI.mk (aT.mk 0 0 0) [] []) []).Graph).Edges).flatMap aO) (((aD.mk (aI.mk (aT.mk 0 0 0) [] []) []).Graph).Edges).length false, .sl (((aD.mk (aI.mk (aT.mk 0 0 0) [] []) []).Slots).flatMap aY) ((aD.mk (aI.mk (aT.mk 0 0 0) [] []) []).Slots).length false]) Z3 (.cons (.data _ (.v _)) (.cons (.data _ (.v _)) (.cons (.data _ (.v _)) (.cons (.nil false) (.cons (.nil false) (.cons (.nil false) .nil))))))) ?_
   exact cn (fun j => bif j == 1 then 0 else bif j == 2 then 2 else 0)
  refine W ?_
  refine cm hm (fun hm => ?_) fun hm => ?_
  ·
   obtain ⟨r6, h5, hm⟩ := bnd hm
   refine W ?_
   refine cq (aHs h5) ?_
   refine W ?_
   refine cm hm (fun hm => ?_) fun hm => ?_
   · exact E
   refine W ?_
   obtain ⟨⟨r8, r9⟩, h7, hm⟩ := bnd hm
   refine cq (aSk h7) ?_
   refine W ?_
   refine ⟨_, ?_, (aD.mk s_0.Graph r8), (aD.mk (aI.mk (aT.mk 0 0 0) [] []) []), r9, rfl, hm⟩
   refine St.Le.trans (jQ 2 (ys := [.v (.int .i64 ((((aD.mk (aI.mk (aT.mk 0 0 0) [] []) []).Graph).Config).N)), .v (.int .i64 ((((aD.mk (aI.mk (aT.mk 0 0 0) [] []) []).Graph).Config).L)), .v (.int .i64 ((((aD.mk (aI.mk (aT.mk 0 0 0) [] []) []).Graph).Config).R)), .sl ((((aD.mk (aI.mk (aT.mk 0 0 0) [] []) []).Graph).Hashes).flatMap bE) (((aD.mk (aI.mk (aT.mk 0 0 0) [] []) []).Graph).Hashes).length false, .sl ((((aD.mk (aI.mk (aT.mk 0 0 0) [] []) []).Graph).Edges).flatMap aO) (((aD.mk (aI.mk (aT.mk 0 0 0) [] []) []).Graph).Edges).length false, .sl (((aD.mk (aI.mk (aT.mk 0 0 0) [] []) []).Slots).flatMap aY) ((aD.mk (aI.mk (aT.mk 0 0 0) [] []) []).Slots).length false]) Z3 (.cons (.data _ (.v _)) (.cons (.data _ (.v _)) (.cons (.data _ (.v _)) (.cons (.nil false) (.cons (.nil false) (.cons (.nil false) .nil))))))) ?_
   exact cn (fun j => bif j == 1 then 0 else bif j == 2 then 2 else 0)
  refine W ?_
  refine cm hm (fun hm => ?_) fun hm => ?_
  ·
   refine W ?_
   obtain ⟨⟨r11, r12⟩, h10, hm⟩ := bnd hm
   refine cq (aSj h10) ?_
   refine W ?_
   refine ⟨_, ?_, (aD.mk r11 s_0.Slots), (aD.mk (aI.mk (aT.mk 0 0 0) [] []) []), r12, rfl, hm⟩
   refine St.Le.trans (jQ 2 (ys := [.v (.int .i64 ((((aD.mk (aI.mk (aT.mk 0 0 0) [] []) []).Graph).Config).N)), .v (.int .i64 ((((aD.mk (aI.mk (aT.mk 0 0 0) [] []) []).Graph).Config).L)), .v (.int .i64 ((((aD.mk (aI.mk (aT.mk 0 0 0) [] []) []).Graph).Config).R)), .sl ((((aD.mk (aI.mk (aT.mk 0 0 0) [] []) []).Graph).Hashes).flatMap bE) (((aD.mk (aI.mk (aT.mk 0 0 0) [] []) []).Graph).Hashes).length false, .sl ((((aD.mk (aI.mk (aT.mk 0 0 0) [] []) []).Graph).Edges).flatMap aO) (((aD.mk (aI.mk (aT.mk 0 0 0) [] []) []).Graph).Edges).length false, .sl (((aD.mk (aI.mk (aT.mk 0 0 0) [] []) []).Slots).flatMap aY) ((aD.mk (aI.mk (aT.mk 0 0 0) [] []) []).Slots).length false]) Z3 (.cons (.data _ (.v _)) (.cons (.data _ (.v _)) (.cons (.data _ (.v _)) (.cons (.nil false) (.cons (.nil false) (.cons (.nil false) .nil))))))) ?_
   exact cn (fun j => bif j == 1 then 0 else bif j == 2 then 2 else 0)
  refine W ?_
  refine cm hm (fun hm => ?_) fun hm => ?_
  ·
   refine W ?_
   refine cm hm (fun hm => ?_) fun hm => ?_
   · exact E
   refine W ?_
   obtain ⟨⟨r14, r15⟩, h13, hm⟩ := bnd hm
   refine cq (aSi h13) ?_
   refine W ?_
   refine ⟨_, ?_, (aD.mk r14 s_0.Slots), (aD.mk (aI.mk (aT.mk 0 0 0) [] []) []), r15, rfl, hm⟩
   refine St.Le.trans (jQ 2 (ys := [.v (.int .i64 ((((aD.mk (aI.mk (aT.mk 0 0 0) [] []) []).Graph).Config).N)), .v (.int .i64 ((((aD.mk (aI.mk (aT.mk 0 0 0) [] []) []).Graph).Config).L)), .v (.int .i64 ((((aD.mk (aI.mk (aT.mk 0 0 0) [] []) []).Graph).Config).R)), .sl ((((aD.mk (aI.mk (aT.mk 0 0 0) [] []) []).Graph).Hashes).flatMap bE) (((aD.mk (aI.mk (aT.mk 0 0 0) [] []) []).Graph).Hashes).length false, .sl ((((aD.mk (aI.mk (aT.mk 0 0 0) [] []) []).Graph).Edges).flatMap aO) (((aD.mk (aI.mk (aT.mk 0 0 0) [] []) []).Graph).Edges).length false, .sl (((aD.mk (aI.mk (aT.mk 0 0 0) [] []) []).Slots).flatMap aY) ((aD.mk (aI.mk (aT.mk 0 0 0) [] []) []).Slots).length false]) Z3 (.cons (.data _ (.v _)) (.cons (.data _ (.v _)) (.cons (.data _ (.v _)) (.cons (.nil false) (.cons (.nil false) (.cons (.nil false) .nil))))))) ?_
   exact cn (fun j => bif j == 1 then 0 else bif j == 2 then 2 else 0)
  refine W ?_
  refine cm hm (fun hm => ?_) fun hm => ?_
  · cases hm
  refine W ?_
  refine ⟨_, ?_, s_0, (aD.mk (aI.mk (aT.mk 0 0 0) [] []) []), 0, rfl, hm⟩
  refine St.Le.trans (jQ 2 (ys := [.v (.int .i64 ((((aD.mk (aI.mk (aT.mk 0 0 0) [] []) []).Graph).Config).N)), .v (.int .i64 ((((aD.mk (aI.mk (aT.mk 0 0 0) [] []) []).Graph).Config).L)), .v (.int .i64 ((((aD.mk (aI.mk (aT.mk 0 0 0) [] []) []).Graph).Config).R)), .sl ((((aD.mk (aI.mk (aT.mk 0 0 0) [] []) []).Graph).Hashes).flatMap bE) (((aD.mk (aI.mk (aT.mk 0 0 0) [] []) []).Graph).Hashes).length false, .sl ((((aD.mk (aI.mk (aT.mk 0 0 0) [] []) []).Graph).Edges).flatMap aO) (((aD.mk (aI.mk (aT.mk 0 0 0) [] []) []).Graph).Edges).length false, .sl (((aD.mk (aI.mk (aT.mk 0 0 0) [] []) []).Slots).flatMap aY) ((aD.mk (aI.mk (aT.mk 0 0 0) [] []) []).Slots).length false]) Z3 (.cons (.data _ (.v _)) (.cons (.data _ (.v _)) (.cons (.data _ (.v _)) (.cons (.nil false) (.cons (.nil false) (.cons (.nil false) .nil))))))) ?_
  exact cn (fun j => bif j == 1 then 0 else bif j == 2 then 2 else 0)
 rintro s ⟨s_4, t8, aPr, rfl, hm⟩
 exact E
def cU (s_0 : aD) (c_1 : bH) : Option (aD × GA) :=
 ((eP (((decide (c_1.Do < 1)) || (decide (15 < c_1.Do))) == false) false (lD s_0)).bind fun r2 =>
 (bif (((decide (c_1.Do < 1)) || (decide (15 < c_1.Do))) || (!r2)) then
  some (s_0, (GA.i 36 .i64 1))
 else
  ((sB s_0.Slots c_1.A).bind fun ⟨r4, r5⟩ =>
  ((sB s_0.Slots c_1.B).bind fun ⟨r7, r8⟩ =>
  ((sS c_1.Do).bind fun r10 =>
  ((eP ((r10 && (!r5)) == false) false (sT c_1.Do)).bind fun r12 =>
  (bif ((r10 && (!r5)) || (r12 && (!r8))) then
   some (s_0, (GA.i 36 .i64 7))
  else
   (bif ((decide (4 < c_1.Do)) && (c_1.Do != 15)) then
    ((eE s_0 c_1.Do r4 r7).bind fun r14 =>
    some (s_0, r14))
   else
    ((kF s_0 c_1 r4 r7).bind fun ⟨r16, r17⟩ =>
    (bif (r17 != 0) then
     some (s_0, (GA.i 36 .i64 r17))
    else
     some (r16, (GA.i 36 .i64 0))))))))))))
theorem rU {s_0 : aD} {c_1 : bH} {r : aD × GA} (hm : cU s_0 c_1 = some r) : bC prog 15 [.agg [vi s_0.Graph.Config.N, vi s_0.Graph.Config.L, vi s_0.Graph.Config.R, vl bE s_0.Graph.Hashes, vl aO s_0.Graph.Edges, vl aY s_0.Slots], .agg [vi c_1.Do, vu c_1.A, vu c_1.B, .v (.string c_1.Text)]] (.tup [.agg [vi r.1.Graph.Config.N, vi r.1.Graph.Config.L, vi r.1.Graph.Config.R, vl bE r.1.Graph.Hashes, vl aO r.1.Graph.Edges, vl aY r.1.Slots], GA.av r.2]) := by
 refine bd 91 func15 ?_
 obtain ⟨r2, h1, hm⟩ := bnd hm
 refine W ?_
 refine cg (fun hb => aGq (cK h1 hb)) ?_
 refine W ?_
 refine cm hm (fun hm => ?_) fun hm => ?_
 · exact E
 refine W ?_
 obtain ⟨⟨r4, r5⟩, h3, hm⟩ := bnd hm
 refine cq (aNx h3) ?_
 refine W ?_
 obtain ⟨⟨r7, r8⟩, h6, hm⟩ := bnd hm
 refine cq (aNx h6) ?_
 obtain ⟨r10, h9, hm⟩ := bnd hm
 refine W ?_
 refine cq (aV3 h9) ?_
 obtain ⟨r12, h11, hm⟩ := bnd hm
 refine W ?_
 refine cg (fun hb => aV4 (cK h11 hb)) ?_
 refine W ?_
 refine cm hm (fun hm => ?_) fun hm => ?_
 · exact E
 refine W ?_
 refine cm hm (fun hm => ?_) fun hm => ?_
 ·
  obtain ⟨r14, h13, hm⟩ := bnd hm
  refine W ?_
  refine cq (aRw h13) ?_
  exact E
 refine W ?_
 obtain ⟨⟨r16, r17⟩, h15, hm⟩ := bnd hm
 refine cq (aRx h15) ?_
 refine W ?_
 refine cm hm (fun hm => ?_) fun hm => ?_
 · exact E
 exact E
def aC3 (fZ : GA) : Option (Int) :=
 ((aLq .i64 36 fZ).bind fun r2 =>
 some r2)
theorem aLt {fZ : GA} {r : Int} (hm : aC3 fZ = some r) : bC prog 38 [GA.av fZ] (vi r) := by
 refine bd 5 func38 ?_
 obtain ⟨r2, h1, hm⟩ := bnd hm
 refine W ?_
 refine pu rfl (bEx underlying36 Z1 h1) ?_
 exact E
def sV : Option (Bool) :=
 ((lI (aT.mk 2 1 1) (bI.mk [3, 4, 5] 0)).bind fun ⟨r2, r3, r4⟩ =>
 ((cU r2 (bH.mk 1 9 0 ⟨#[]⟩)).bind fun ⟨r6, r7⟩ =>
 ((cU r6 (bH.mk 1 7 0 ⟨#[]⟩)).bind fun ⟨r9, r10⟩ =>
 ((cU r9 (bH.mk 3 7 9 ⟨#[]⟩)).bind fun ⟨r12, r13⟩ =>
 ((cU r12 (bH.mk 11 9 0 ⟨#[]⟩)).bind fun ⟨r15, r16⟩ =>
 ((cU r12 (bH.mk 2 9 0 ⟨#[]⟩)).bind fun ⟨r18, r19⟩ =>
 ((cU r12 (bH.mk 5 9 8 ⟨#[]⟩)).bind fun ⟨r21, r22⟩ =>
 ((cU r12 (bH.mk 0 0 0 ⟨#[]⟩)).bind fun ⟨r24, r25⟩ =>
 ((bJw 24 r16).bind fun ⟨r27, r28⟩ =>
 ((eP (((r4 == 0) && (r3.At == 2)) == true) false (aK3 r7 36 .i64 0)).bind fun b30 =>
 ((eP ((((r4 == 0) && (r3.At == 2)) && b30) == true) false (aK3 r10 36 .i64 0)).bind fun b32 =>
 ((eP (((((r4 == 0) && (r3.At == 2)) && b30) && b32) == true) false (aK3 r13 36 .i64 0)).bind fun b34 =>
 (bif ((((((r4 == 0) && (r3.At == 2)) && b30) && b32) && b34) && r28) then
  ((wP r27 [7, 9]).bind fun r37 =>
  ((eP (r37 == true) false (aK3 r19 36 .i64 11)).bind fun b39 =>
  ((eP ((r37 && b39) == true) false (aK3 r22 36 .i64 7)).bind fun b41 =>
  ((eP (((r37 && b39) && b41) == true) false (aK3 r25 36 .i64 1)).bind fun b43 =>
  ((eP ((bif (((r37 && b39) && b41) && b43) then true else false) == true) 0 (aC3 r25)).bind fun r45 =>
  some ((bif (((r37 && b39) && b41) && b43) then true else false) && (r45 == 1)))))))
 else
  some false)))))))))))))
theorem aD8 {r : Bool} (hm : sV = some r) : bC prog 14 [] (vb r) := by
 refine bd 124 func14 ?_
 refine W ?_
 refine bU (.agg [vi 2, vi 1, vi 1]) ?_
 refine aW.pop Zd (aAp (ps := [(0, .v (.int .u64 3)), (1, .v (.int .u64 4)), (2, .v (.int .u64 5))]) (by simp only [go_sem, Nat.reduceBEq]; try rfl) (sL (.v _) (sL (.v _) (sL (.v _) aOn)))) (aKl (CFi .u64) (l := [3, 4, 5]) (xs := [.v (.int .u64 3), .v (.int .u64 4), .v (.int .u64 5)]) underlying24 aJb bMb Zd Zd Zd (ps := [(0, .v (.int .u64 3)), (1, .v (.int .u64 4)), (2, .v (.int .u64 5))]) (by simp only [go_sem, Nat.reduceBEq]; try rfl) (by kernel_rfl) (fun H => (.cons (.data _ (.v _)) (.cons (.data _ (.v _)) (.cons (.data _ (.v _)) .nil))))) rfl ?_
 refine bU (.agg [.sl (([3, 4, 5]).flatMap (ci .u64)) ([3, 4, 5]).length false, vi 0]) ?_
 obtain ⟨⟨r2, r3, r4⟩, h1, hm⟩ := bnd hm
 refine cq (aQ1 h1) ?_
 refine W ?_
 refine bU (.agg [vi 1, vu 9, vu 0, .v (.string ⟨#[]⟩)]) ?_
 obtain ⟨⟨r6, r7⟩, h5, hm⟩ := bnd hm
 refine cq (rU h5) ?_
 refine W ?_
 refine bU (.agg [vi 1, vu 7, vu 0, .v (.string ⟨#[]⟩)]) ?_
 obtain ⟨⟨r9, r10⟩, h8, hm⟩ := bnd hm
 refine cq (rU h8) ?_
 refine W ?_
 refine bU (.agg [vi 3, vu 7, vu 9, .v (.string ⟨#[]⟩)]) ?_
 obtain ⟨⟨r12, r13⟩, h11, hm⟩ := bnd hm
 refine cq (rU h11) ?_
 refine W ?_
 refine bU (.agg [vi 11, vu 9, vu 0, .v (.string ⟨#[]⟩)]) ?_
 obtain ⟨⟨r15, r16⟩, h14, hm⟩ := bnd hm
 refine cq (rU h14) ?_
 refine W ?_
 refine bU (.agg [vi 2, vu 9, vu 0, .v (.string ⟨#[]⟩)]) ?_
 obtain ⟨⟨r18, r19⟩, h17, hm⟩ := bnd hm
 refine cq (rU h17) ?_
 refine W ?_
 refine bU (.agg [vi 5, vu 9, vu 8, .v (.string ⟨#[]⟩)]) ?_
 obtain ⟨⟨r21, r22⟩, h20, hm⟩ := bnd hm
 refine cq (rU h20) ?_
 refine W ?_
 refine bU (.agg [vi 0, vu 0, vu 0, .v (.string ⟨#[]⟩)]) ?_
 obtain ⟨⟨r24, r25⟩, h23, hm⟩ := bnd hm
 refine cq (rU h23) ?_
 refine W ?_
 obtain ⟨⟨r27, r28⟩, h26, hm⟩ := bnd hm
 refine aW.pop Zd (aDi Z1 (GA.data _)) (aY9 underlying24 bR5 bS3 Z1 h26) rfl ?_
 obtain ⟨b30, h29, hm⟩ := bnd hm
 iterate 17 refine S1 ?_
 refine aW.popG Zd rfl Z2 (fun hb => (aDj (Zh hb) (Zh hb) (GA.data _) (.ifc _ _ (.v _)))) (fun hb => (yV underlying20 underlying36 aXi (by kernel_rfl) (Zh hb) (Zh hb) (cK h29 hb))) rfl ?_
 obtain ⟨b32, h31, hm⟩ := bnd hm
 iterate 4 refine S1 ?_
 refine aW.popG Zd rfl Z2 (fun hb => (aDj (Zh hb) (Zh hb) (GA.data _) (.ifc _ _ (.v _)))) (fun hb => (yV underlying20 underlying36 aXi (by kernel_rfl) (Zh hb) (Zh hb) (cK h31 hb))) rfl ?_
 obtain ⟨b34, h33, hm⟩ := bnd hm
 iterate 4 refine S1 ?_
 refine aW.popG Zd rfl Z2 (fun hb => (aDj (Zh hb) (Zh hb) (GA.data _) (.ifc _ _ (.v _)))) (fun hb => (yV underlying20 underlying36 aXi (by kernel_rfl) (Zh hb) (Zh hb) (cK h33 hb))) rfl ?_
 refine W ?_
 refine bPm hm (fun h35 hm => ?_) (fun h35 hm => ?_)
 ·
  refine aW.heapG Zd rfl (by simp only [go_sem, Nat.reduceBEq, h35]; try with_reducible rfl) (id := 667) rfl (lF (CFi .u64) (l := [7, 9]) underlying24 aJb bMb Z5 Zd Zd Zd (by simp only [go_sem, Nat.reduceBEq, h35]; try rfl) (by kernel_rfl)) ?_
  obtain ⟨r37, h36, hm⟩ := bnd hm
  refine aW.callBG (r := .v (.bool r37)) Zd rfl (by simp only [go_sem, Nat.reduceBEq, h35]; try with_reducible rfl) (by try simp only [go_sem, Nat.reduceBEq, h35]; try rfl) bZ0 (fun hb => (.cons (ltd fun H => (td (by try simp only [go_sem, Nat.reduceBEq, h35]; try rfl) ((CFi .u64).sl _ _ _))) (.cons (lto (CFi .u64) (by try simp only [go_sem, Nat.reduceBEq, h35]; try rfl) Z3 Z6) aU2.nil))) bQd (fun hb => aNf h36) ?_
  iterate 4 (first | refine pu rfl (by simp only [go_sem, Nat.reduceBEq, h35]; try with_reducible rfl) ?_ | refine pg rfl rfl (by simp only [go_sem, Nat.reduceBEq, h35]; try with_reducible rfl) (by intro hb; simp only [go_sem, Nat.reduceBEq, h35, hb, Bool.true_and]; try with_reducible rfl) ?_)
  obtain ⟨b39, h38, hm⟩ := bnd hm
  refine aW.popG Zd rfl (by simp only [go_sem, Nat.reduceBEq, h35]; try with_reducible rfl) (fun hb => (aDj (by try simp only [go_sem, Nat.reduceBEq, h35, hb, Bool.true_and]; try rfl) (by try simp only [go_sem, Nat.reduceBEq, h35, hb, Bool.true_and]; try rfl) (GA.data _) (.ifc _ _ (.v _)))) (fun hb => (yV underlying20 underlying36 aXi (by kernel_rfl) (by try simp only [go_sem, Nat.reduceBEq, h35, hb, Bool.true_and]; try rfl) (by try simp only [go_sem, Nat.reduceBEq, h35, hb, Bool.true_and]; try rfl) (cK h38 hb))) rfl ?_
  iterate 4 (first | refine pu rfl (by simp only [go_sem, Nat.reduceBEq, h35]; try with_reducible rfl) ?_ | refine pg rfl rfl (by simp only [go_sem, Nat.reduceBEq, h35]; try with_reducible rfl) (by intro hb; simp only [go_sem, Nat.reduceBEq, h35, hb, Bool.true_and]; try with_reducible rfl) ?_)
  obtain ⟨b41, h40, hm⟩ := bnd hm
  refine aW.popG Zd rfl (by simp only [go_sem, Nat.reduceBEq, h35]; try with_reducible rfl) (fun hb => (aDj (by try simp only [go_sem, Nat.reduceBEq, h35, hb, Bool.true_and]; try rfl) (by try simp only [go_sem, Nat.reduceBEq, h35, hb, Bool.true_and]; try rfl) (GA.data _) (.ifc _ _ (.v _)))) (fun hb => (yV underlying20 underlying36 aXi (by kernel_rfl) (by try simp only [go_sem, Nat.reduceBEq, h35, hb, Bool.true_and]; try rfl) (by try simp only [go_sem, Nat.reduceBEq, h35, hb, Bool.true_and]; try rfl) (cK h40 hb))) rfl ?_
  iterate 4 (first | refine pu rfl (by simp only [go_sem, Nat.reduceBEq, h35]; try with_reducible rfl) ?_ | refine pg rfl rfl (by simp only [go_sem, Nat.reduceBEq, h35]; try with_reducible rfl) (by intro hb; simp only [go_sem, Nat.reduceBEq, h35, hb, Bool.true_and]; try with_reducible rfl) ?_)
  obtain ⟨b43, h42, hm⟩ := bnd hm
  refine aW.popG Zd rfl (by simp only [go_sem, Nat.reduceBEq, h35]; try with_reducible rfl) (fun hb => (aDj (by try simp only [go_sem, Nat.reduceBEq, h35, hb, Bool.true_and]; try rfl) (by try simp only [go_sem, Nat.reduceBEq, h35, hb, Bool.true_and]; try rfl) (GA.data _) (.ifc _ _ (.v _)))) (fun hb => (yV underlying20 underlying36 aXi (by kernel_rfl) (by try simp only [go_sem, Nat.reduceBEq, h35, hb, Bool.true_and]; try rfl) (by try simp only [go_sem, Nat.reduceBEq, h35, hb, Bool.true_and]; try rfl) (cK h42 hb))) rfl ?_
  iterate 5 (first | refine pu rfl (by simp only [go_sem, Nat.reduceBEq, h35]; try with_reducible rfl) ?_ | refine pg rfl rfl (by simp only [go_sem, Nat.reduceBEq, h35]; try with_reducible rfl) (by intro hb; simp only [go_sem, Nat.reduceBEq, h35, hb, Bool.true_and]; try with_reducible rfl) ?_)
  obtain ⟨r45, h44, hm⟩ := bnd hm
  refine aW.callQG (r := .v (.int .i64 r45)) Zd rfl (by simp only [go_sem, Nat.reduceBEq, h35]; try with_reducible rfl) (by try simp only [go_sem, Nat.reduceBEq, h35]; try rfl) bZ1 (fun hb H => (.cons (td (by try simp only [go_sem, Nat.reduceBEq, h35, hb, Bool.true_and]; try rfl) (GA.data _)) .nil)) (fun hb => aLt (cK h44 hb)) ?_
  iterate 3 (first | refine pu rfl (by simp only [go_sem, Nat.reduceBEq, h35]; try with_reducible rfl) ?_ | refine pg rfl rfl (by simp only [go_sem, Nat.reduceBEq, h35]; try with_reducible rfl) (by intro hb; simp only [go_sem, Nat.reduceBEq, h35, hb, Bool.true_and]; try with_reducible rfl) ?_)
  exact E
 refine aW.skipG Zd rfl (by simp only [go_sem, Nat.reduceBEq, h35]; try with_reducible rfl) ?_
 refine aW.skipG Zd rfl (by simp only [go_sem, Nat.reduceBEq, h35]; try with_reducible rfl) ?_
 iterate 2 refine pu rfl (by simp only [go_sem, Nat.reduceBEq, h35]; try with_reducible rfl) ?_
 refine aW.skipG Zd rfl (by simp only [go_sem, Nat.reduceBEq, h35]; try with_reducible rfl) ?_
 refine aW.skipG Zd rfl (by simp only [go_sem, Nat.reduceBEq, h35]; try with_reducible rfl) ?_
 refine aW.skipG Zd rfl (by simp only [go_sem, Nat.reduceBEq, h35]; try with_reducible rfl) ?_
 iterate 2 refine pu rfl (by simp only [go_sem, Nat.reduceBEq, h35]; try with_reducible rfl) ?_
 refine aW.skipG Zd rfl (by simp only [go_sem, Nat.reduceBEq, h35]; try with_reducible rfl) ?_
 refine aW.skipG Zd rfl (by simp only [go_sem, Nat.reduceBEq, h35]; try with_reducible rfl) ?_
 refine aW.skipG Zd rfl (by simp only [go_sem, Nat.reduceBEq, h35]; try with_reducible rfl) ?_
 iterate 2 refine pu rfl (by simp only [go_sem, Nat.reduceBEq, h35]; try with_reducible rfl) ?_
 refine aW.skipG Zd rfl (by simp only [go_sem, Nat.reduceBEq, h35]; try with_reducible rfl) ?_
 refine aW.skipG Zd rfl (by simp only [go_sem, Nat.reduceBEq, h35]; try with_reducible rfl) ?_
 refine aW.skipG Zd rfl (by simp only [go_sem, Nat.reduceBEq, h35]; try with_reducible rfl) ?_
 iterate 4 refine pu rfl (by simp only [go_sem, Nat.reduceBEq, h35]; try with_reducible rfl) ?_
 refine aW.skipG Zd rfl (by simp only [go_sem, Nat.reduceBEq, h35]; try with_reducible rfl) ?_
 refine aW.skipG Zd rfl (by simp only [go_sem, Nat.reduceBEq, h35]; try with_reducible rfl) ?_
 refine aW.skipG Zd rfl (by simp only [go_sem, Nat.reduceBEq, h35]; try with_reducible rfl) ?_
 iterate 2 refine pu rfl (by simp only [go_sem, Nat.reduceBEq, h35]; try with_reducible rfl) ?_
 exact E
def oN (fZ : GA) : Option (Int) :=
 ((bDr .i64 36 fZ).bind fun ⟨r5, r6⟩ =>
 (bif r6 then
  some r5
 else
  some (-1)))
theorem aD9 {fZ : GA} {r : Int} (hm : oN fZ = some r) : bC prog 16 [GA.av fZ] (vi r) := by
 refine bd 12 func16 ?_
 refine W ?_
 obtain ⟨⟨r5, r6⟩, h4, hm⟩ := bnd hm
 refine pu rfl (aWn underlying36 aXi bYn Z1 h4) ?_
 refine W ?_
 refine cm hm (fun hm => ?_) fun hm => ?_
 · exact E
 exact E
def aD6 (rec1 : List bD → List aM → Int → Int → Option ((List bD))) (jS : List bD) (t6 : List aM) (t7 : Int) (t8 : Int) : Option ((List bD)) :=
 (bif (decide (t8 < t7)) then
  ((idx t6 t8).bind fun x2 =>
  ((app jS [(bD.mk x2.Used x2.Key)]).bind fun l4 =>
  rec1 l4 t6 t7 (IntKind.i64.wrap (t8 + 1))))
 else
  some jS)
def sU : Nat → List bD → List aM → Int → Int → Option ((List bD))
 | 0 => fun _ _ _ _ => none
 | n + 1 => aD6 (sU n)
def aFt (l_0 : List aM) : Option ((List bD)) :=
 sU bF [] l_0 (l_0.length : Int) 0
theorem aXp {l_0 : List aM} {r : (List bD)} (hm : aFt l_0 = some r) : bC prog 61 [vl aY l_0] (vl aX r) := by
 refine bd 18 func61 ?_
 refine W ?_
 refine lp (fun m s => ∃ jS t6 t7 t8, s = ⟨18, (aE (aE (aE (aE fa 3 (.own 1 0 jS.length)) 6 (vl aY t6)) 7 (vi t7)) 8 (vi t8)), ⟨(upd aV 1 (.cells 2 (jS.flatMap aX) 0)), 64⟩⟩ ∧ sU m jS t6 t7 t8 = some r) ?_ ?_
 ·
  refine ⟨_, ?_, [], l_0, (l_0.length : Int), 0, rfl, hm⟩
  refine St.Le.trans (kH 3 900003 2 Z1 Z5) ?_
  exact cn (fun j => bif j == 1 then 900003 else 0)
 rintro n1 s ⟨jS, t6, t7, t8, rfl, hm⟩
 refine W ?_
 refine cm hm (fun hm => ?_) fun hm => ?_
 ·
  obtain ⟨x2, h1, hm⟩ := bnd hm
  refine W ?_
  refine aL fF [(bD.mk x2.Used x2.Key)] ?_
  obtain ⟨l4, h3, hm⟩ := bnd hm
  refine W ?_
  exact Lr (fun j => bif j == 1 then 195 else 0)
 exact E
def rJ (s_0 : aD) : Option (aH) :=
 ((aFt s_0.Slots).bind fun r2 =>
 some (aH.mk s_0.Graph r2))
theorem aIl {s_0 : aD} {r : aH} (hm : rJ s_0 = some r) : bC prog 21 [.agg [vi s_0.Graph.Config.N, vi s_0.Graph.Config.L, vi s_0.Graph.Config.R, vl bE s_0.Graph.Hashes, vl aO s_0.Graph.Edges, vl aY s_0.Slots]] (.agg [vi r.Graph.Config.N, vi r.Graph.Config.L, vi r.Graph.Config.R, vl bE r.Graph.Hashes, vl aO r.Graph.Edges, vl aX r.Slots]) := by
 refine bd 9 func21 ?_
 obtain ⟨r2, h1, hm⟩ := bnd hm
 refine W ?_
 refine cq (aXp h1) ?_
 refine bU (.agg [vi s_0.Graph.Config.N, vi s_0.Graph.Config.L, vi s_0.Graph.Config.R, vl bE s_0.Graph.Hashes, vl aO s_0.Graph.Edges, vl aX r2]) ?_
 exact E
def aDz (rec1 : List bD → List bD → Int → Option (Bool)) (a_0 : List bD) (b_1 : List bD) (i_5 : Int) : Option (Bool) :=
 (bif (decide (i_5 < (a_0.length : Int))) then
  ((idx a_0 i_5).bind fun x2 =>
  ((idx b_1 i_5).bind fun x4 =>
  (bif (!((x2.Used == x4.Used) && ((x2.Key == x4.Key) && true))) then
   some false
  else
   rec1 a_0 b_1 (IntKind.i64.wrap (i_5 + 1)))))
 else
  some true)
def tD : Nat → List bD → List bD → Int → Option (Bool)
 | 0 => fun _ _ _ => none
 | n + 1 => aDz (tD n)
def aAy (a_0 : List bD) (b_1 : List bD) : Option (Bool) :=
 (bif ((a_0.length : Int) != (b_1.length : Int)) then
  some false
 else
  tD bF a_0 b_1 0)
theorem aYf {a_0 : List bD} {b_1 : List bD} {r : Bool} (hm : aAy a_0 b_1 = some r) : bC prog 88 [vl aX a_0, vl aX b_1] (vb r) := by
 refine bd 26 func88 ?_
 refine W ?_
 refine cm hm (fun hm => ?_) fun hm => ?_
 · exact E
 refine W ?_
 refine lp (fun m s => ∃ a_0 b_1 i_5, s = ⟨26, (aE (aE (aE fa 0 (vl aX a_0)) 1 (vl aX b_1)) 5 (vi i_5)), ⟨aV, 64⟩⟩ ∧ tD m a_0 b_1 i_5 = some r) L ?_
 rintro n1 s ⟨a_0, b_1, i_5, rfl, hm⟩
 refine W ?_
 refine cm hm (fun hm => ?_) fun hm => ?_
 ·
  obtain ⟨x2, h1, hm⟩ := bnd hm
  obtain ⟨x4, h3, hm⟩ := bnd hm
  iterate 2 refine S1 ?_
  refine AWp.seq' ?_
  iterate 10 refine S1 ?_
  refine aW.pop Zd (aDj Z1 Z1 (.agg _ (fF.dat x2)) (.agg _ (fF.dat x4))) (bHw (xs := [.v (.bool x2.Used), .v (.int .u64 x2.Key)]) (ys := [.v (.bool x4.Used), .v (.int .u64 x4.Key)]) (b := ((x2.Used == x4.Used) && ((x2.Key == x4.Key) && true))) underlying151 (by kernel_rfl) (by kernel_rfl) Z1 Z1 (by kernel_rfl)) rfl ?_
  refine W ?_
  refine cm hm (fun hm => ?_) fun hm => ?_
  · exact E
  exact L
 exact E
def aGd (a_0 : aH) (b_1 : aH) : Option (Bool) :=
 ((aB0 a_0.Graph b_1.Graph).bind fun r2 =>
 ((aAy a_0.Slots b_1.Slots).bind fun r4 =>
 some (r2 && r4)))
theorem aYi {a_0 : aH} {b_1 : aH} {r : Bool} (hm : aGd a_0 b_1 = some r) : bC prog 44 [.agg [vi a_0.Graph.Config.N, vi a_0.Graph.Config.L, vi a_0.Graph.Config.R, vl bE a_0.Graph.Hashes, vl aO a_0.Graph.Edges, vl aX a_0.Slots], .agg [vi b_1.Graph.Config.N, vi b_1.Graph.Config.L, vi b_1.Graph.Config.R, vl bE b_1.Graph.Hashes, vl aO b_1.Graph.Edges, vl aX b_1.Slots]] (vb r) := by
 refine bd 21 func44 ?_
 obtain ⟨r2, h1, hm⟩ := bnd hm
 refine W ?_
 refine cq (aYh h1) ?_
 obtain ⟨r4, h3, hm⟩ := bnd hm
 refine W ?_
 refine cq (aYf h3) ?_
 exact E
def nG (a_0 : aD) (b_1 : aD) : Option (Bool) :=
 ((rJ a_0).bind fun r2 =>
 ((rJ b_1).bind fun r4 =>
 ((aGd r2 r4).bind fun r6 =>
 some r6)))
theorem aFw {a_0 : aD} {b_1 : aD} {r : Bool} (hm : nG a_0 b_1 = some r) : bC prog 17 [.agg [vi a_0.Graph.Config.N, vi a_0.Graph.Config.L, vi a_0.Graph.Config.R, vl bE a_0.Graph.Hashes, vl aO a_0.Graph.Edges, vl aY a_0.Slots], .agg [vi b_1.Graph.Config.N, vi b_1.Graph.Config.L, vi b_1.Graph.Config.R, vl bE b_1.Graph.Hashes, vl aO b_1.Graph.Edges, vl aY b_1.Slots]] (vb r) := by
 refine bd 10 func17 ?_
 obtain ⟨r2, h1, hm⟩ := bnd hm
 refine W ?_
 refine cq (aIl h1) ?_
 obtain ⟨r4, h3, hm⟩ := bnd hm
 refine W ?_
 refine cq (aIl h3) ?_
 obtain ⟨r6, h5, hm⟩ := bnd hm
 refine cq (aYi h5) ?_
 exact E
def aE6 (rec1 : List Int → Int → Int → Option (Int)) (l_0 : List Int) (k_1 : Int) (i_5 : Int) : Option (Int) :=
 (bif (decide (i_5 < (l_0.length : Int))) then
  ((idx l_0 i_5).bind fun x2 =>
  (bif (x2 == k_1) then
   some i_5
  else
   rec1 l_0 k_1 (IntKind.i64.wrap (i_5 + 1))))
 else
  some (-1))
def tI : Nat → List Int → Int → Int → Option (Int)
 | 0 => fun _ _ _ => none
 | n + 1 => aE6 (tI n)
def wT (l_0 : List Int) (k_1 : Int) : Option (Int) :=
 tI bF l_0 k_1 0
theorem aGf {l_0 : List Int} {k_1 : Int} {r : Int} (hm : wT l_0 k_1 = some r) : bC prog 45 [vl (ci .u64) l_0, vu k_1] (vi r) := by
 refine bd 19 func45 ?_
 refine W ?_
 refine lp (fun m s => ∃ l_0 k_1 i_5, s = ⟨19, (aE (aE (aE fa 0 (vl (ci .u64) l_0)) 1 (vu k_1)) 5 (vi i_5)), ⟨aV, 64⟩⟩ ∧ tI m l_0 k_1 i_5 = some r) L ?_
 rintro n1 s ⟨l_0, k_1, i_5, rfl, hm⟩
 refine W ?_
 refine cm hm (fun hm => ?_) fun hm => ?_
 ·
  obtain ⟨x2, h1, hm⟩ := bnd hm
  refine W ?_
  refine cm hm (fun hm => ?_) fun hm => ?_
  · exact E
  exact L
 exact E
def tJ (rec1 : Int → aF → List Int → Int → Option ((List Int))) (a_1 : Int) (m_2 : aF) (cJ : List Int) (i_6 : Int) : Option ((List Int)) :=
 rec1 a_1 m_2 cJ (IntKind.i64.wrap (i_6 + 1))
def aE9 (rec1 : Int → aF → List Int → Int → Option ((List Int))) (rec2 : Int → aF → List Int → Int → Int → Int → Option ((List Int))) (a_1 : Int) (m_2 : aF) (cJ : List Int) (i_6 : Int) (aAq : Int) (k_9 : Int) : Option ((List Int)) :=
 ((eP ((decide (k_9 < (cJ.length : Int))) == true) 0 (idx cJ k_9)).bind fun x4 =>
 (bif ((decide (k_9 < (cJ.length : Int))) && (decide (x4 < aAq))) then
  rec2 a_1 m_2 cJ i_6 aAq (IntKind.i64.wrap (k_9 + 1))
 else
  ((slc cJ 0 k_9).bind fun l6 =>
  ((app [] l6).bind fun l8 =>
  ((app l8 [aAq]).bind fun l10 =>
  ((slc cJ k_9 (cJ.length : Int)).bind fun l12 =>
  ((app l10 l12).bind fun l14 =>
  tJ rec1 a_1 m_2 l14 i_6)))))))
def tK (rec1 : Int → aF → List Int → Int → Option ((List Int))) : Nat → Int → aF → List Int → Int → Int → Int → Option ((List Int))
 | 0 => fun _ _ _ _ _ _ => none
 | n + 1 => aE9 rec1 (tK rec1 n)
def aE8 (rec1 : Int → aF → List Int → Int → Option ((List Int))) (a_1 : Int) (m_2 : aF) (cJ : List Int) (i_6 : Int) : Option ((List Int)) :=
 (bif (decide (i_6 < (m_2.Pairs.length : Int))) then
  ((idx m_2.Pairs i_6).bind fun x2 =>
  (bif ((x2.x0 != a_1) && (x2.x1 != a_1)) then
   tJ rec1 a_1 m_2 cJ i_6
  else
   tK rec1 bF a_1 m_2 cJ i_6 (IntKind.u64.wrap ((IntKind.u64.wrap (x2.x0 + x2.x1)) - a_1)) 0))
 else
  some cJ)
def jV : Nat → Int → aF → List Int → Int → Option ((List Int))
 | 0 => fun _ _ _ _ => none
 | n + 1 => aE8 (jV n)
def wU (m_0 : aF) (a_1 : Int) : Option ((List Int)) :=
 jV bF a_1 m_0 [] 0
theorem aGh {m_0 : aF} {a_1 : Int} {r : (List Int)} (hm : wU m_0 a_1 = some r) : bC prog 46 [.agg [vi m_0.Most, vl (ci .u64) m_0.Keys, vl bO m_0.Pairs], vu a_1] (vl (ci .u64) r) := by
 refine bd 69 func46 ?_
 refine W ?_
 refine lp (fun m s => ∃ a_1 m_2 cJ i_6, s = ⟨69, (aE (aE (aE (aE fa 1 (vu a_1)) 2 (.adr 1 0)) 5 (.own 2 0 cJ.length)) 6 (vi i_6)), ⟨(upd (upd aV 1 (.cells 1 [vi m_2.Most, vl (ci .u64) m_2.Keys, vl bO m_2.Pairs] 0)) 2 (.cells 1 (cJ.flatMap (ci .u64)) 0)), 64⟩⟩ ∧ jV m a_1 m_2 cJ i_6 = some r) ?_ ?_
 ·
  refine ⟨_, ?_, a_1, m_0, [], 0, rfl, hm⟩
  refine St.Le.trans (kH 5 900005 1 Z1 Z5) ?_
  exact cn (fun j => bif j == 1 then 0 else bif j == 2 then 900005 else 0)
 rintro n1 s ⟨a_1, m_2, cJ, i_6, rfl, hm⟩
 refine W ?_
 refine cm hm (fun hm => ?_) fun hm => ?_
 ·
  refine V ?_
  refine AWp.seqJ (fun s => ∃ a_1 m_2 cJ i_6, s = ⟨69, (aE (aE (aE (aE fa 1 (vu a_1)) 2 (.adr 1 0)) 5 (.own 2 0 cJ.length)) 6 (vi i_6)), ⟨(upd (upd aV 1 (.cells 1 [vi m_2.Most, vl (ci .u64) m_2.Keys, vl bO m_2.Pairs] 0)) 2 (.cells 1 (cJ.flatMap (ci .u64)) 0)), 64⟩⟩ ∧ tJ (jV n1) a_1 m_2 cJ i_6 = some r) ?_ ?_
  ·
   obtain ⟨x2, h1, hm⟩ := bnd hm
   refine W ?_
   refine cm hm (fun hm => ?_) fun hm => ?_
   ·
    refine W ?_
    exact Lr (fun j => bif j == 1 then 1 else bif j == 2 then 2 else 0)
   refine W ?_
   refine lp (fun m s => ∃ a_1 m_2 cJ i_6 aAq k_9, s = ⟨69, (aE (aE (aE (aE (aE (aE fa 1 (vu a_1)) 2 (.adr 1 0)) 5 (.own 2 0 cJ.length)) 6 (vi i_6)) 8 (vu aAq)) 9 (vi k_9)), ⟨(upd (upd aV 1 (.cells 1 [vi m_2.Most, vl (ci .u64) m_2.Keys, vl bO m_2.Pairs] 0)) 2 (.cells 1 (cJ.flatMap (ci .u64)) 0)), 64⟩⟩ ∧ tK (jV n1) m a_1 m_2 cJ i_6 aAq k_9 = some r) (Lr (fun j => bif j == 1 then 1 else bif j == 2 then 2 else 0)) ?_
   rintro n2 s ⟨a_1, m_2, cJ, i_6, aAq, k_9, rfl, hm⟩
   obtain ⟨x4, h3, hm⟩ := bnd hm
   refine W ?_
   refine cm hm (fun hm => ?_) fun hm => ?_
   ·
    refine W ?_
    exact Lr (fun j => bif j == 1 then 1 else bif j == 2 then 2 else 0)
   iterate 8 refine S1 ?_
   refine AWp.seq' ?_
   refine AWp.weaken (aDb (CFi .u64) 5 2 Z1 Z3 Z6) ?_
   obtain ⟨l6, h5, hm⟩ := bnd hm
   obtain ⟨l8, h7, hm⟩ := bnd hm
   refine W ?_
   refine aL (CFi .u64) [aAq] ?_
   obtain ⟨l10, h9, hm⟩ := bnd hm
   obtain ⟨l12, h11, hm⟩ := bnd hm
   obtain ⟨l14, h13, hm⟩ := bnd hm
   refine W ?_
   exact Lr (fun j => bif j == 1 then 1 else bif j == 2 then 324 else 0)
  rintro s ⟨a_1, m_2, cJ, i_6, rfl, hm⟩
  refine W ?_
  exact Lr (fun j => bif j == 1 then 1 else bif j == 2 then 2 else 0)
 exact E
def aEb (a_0 : Int) (b_1 : Int) (t4 : aG) : Option (aG) :=
 some (aG.mk a_0 b_1)
def rY (a_0 : Int) (b_1 : Int) : Option (aG) :=
 (bif (decide (b_1 < a_0)) then
  aEb b_1 a_0 (aG.mk 0 0)
 else
  aEb a_0 b_1 (aG.mk 0 0))
theorem aGi {a_0 : Int} {b_1 : Int} {r : aG} (hm : rY a_0 b_1 = some r) : bC prog 47 [vu a_0, vu b_1] (.agg [vu r.x0, vu r.x1]) := by
 refine bd 13 func47 ?_
 refine V ?_
 refine AWp.seqJ (fun s => ∃ a_0 b_1 t4, s = ⟨13, (aE (aE (aE fa 0 (vu a_0)) 1 (vu b_1)) 4 (.adr 1 0)), ⟨(upd aV 1 (.cells 1 [vu t4.x0, vu t4.x1] 0)), 64⟩⟩ ∧ aEb a_0 b_1 t4 = some r) ?_ ?_
 ·
  refine W ?_
  refine cm hm (fun hm => ?_) fun hm => ?_
  ·
   refine W ?_
   exact Lr (fun j => bif j == 1 then 0 else 0)
  refine W ?_
  exact Lr (fun j => bif j == 1 then 0 else 0)
 rintro s ⟨a_0, b_1, t4, rfl, hm⟩
 refine W ?_
 refine bU (.agg [vu a_0, vu b_1]) ?_
 exact E
def aIx (rec1 : List aG → aG → Int → Option (Int)) (l_0 : List aG) (p_3 : aG) (i_5 : Int) : Option (Int) :=
 (bif (decide (i_5 < (l_0.length : Int))) then
  ((idx l_0 i_5).bind fun x2 =>
  (bif (aFo x2 p_3) then
   some i_5
  else
   rec1 l_0 p_3 (IntKind.i64.wrap (i_5 + 1))))
 else
  some (-1))
def zZ : Nat → List aG → aG → Int → Option (Int)
 | 0 => fun _ _ _ => none
 | n + 1 => aIx (zZ n)
def aCe (l_0 : List aG) (p_1 : aG) : Option (Int) :=
 zZ bF l_0 p_1 0
theorem aTf {l_0 : List aG} {p_1 : aG} {r : Int} (hm : aCe l_0 p_1 = some r) : bC prog 48 [vl bO l_0, .agg [vu p_1.x0, vu p_1.x1]] (vi r) := by
 refine bd 19 func48 ?_
 refine W ?_
 refine lp (fun m s => ∃ l_0 p_3 i_5, s = ⟨19, (aE (aE (aE fa 0 (vl bO l_0)) 3 (.adr 1 0)) 5 (vi i_5)), ⟨(upd aV 1 (.cells 1 [vu p_3.x0, vu p_3.x1] 0)), 64⟩⟩ ∧ zZ m l_0 p_3 i_5 = some r) (Lr (fun j => bif j == 1 then 0 else 0)) ?_
 rintro n1 s ⟨l_0, p_3, i_5, rfl, hm⟩
 refine W ?_
 refine cm hm (fun hm => ?_) fun hm => ?_
 ·
  obtain ⟨x2, h1, hm⟩ := bnd hm
  iterate 2 refine S1 ?_
  refine AWp.seq' ?_
  iterate 7 refine S1 ?_
  refine aW.pop Zd (aDj Z1 Z1 (.agg _ (bY.dat x2)) (.agg _ (bY.dat p_3))) (bCn underlying69 underlying43 aJb (by kernel_rfl) Z1 Z1) rfl ?_
  refine W ?_
  refine cm hm (fun hm => ?_) fun hm => ?_
  · exact E
  refine W ?_
  exact Lr (fun j => bif j == 1 then 1 else 0)
 exact E
def eF (m_0 : aF) (aBf : Int) (a_2 : Int) (b_3 : Int) : Option (aF × Int) :=
 ((wT m_0.Keys a_2).bind fun r2 =>
 (bif (aBf == 1) then
  (bif (decide (0 ≤ r2)) then
   some (m_0, 4)
  else
   (bif (decide (m_0.Most ≤ (m_0.Keys.length : Int))) then
    some (m_0, 10)
   else
    ((app [] m_0.Keys).bind fun l4 =>
    ((app l4 [a_2]).bind fun l6 =>
    some ((aF.mk m_0.Most l6 m_0.Pairs), 0)))))
 else
  ((eP (((decide (r2 < 0)) == false) && ((decide (2 < aBf)) == true)) 0 (wT m_0.Keys b_3)).bind fun r8 =>
  (bif ((decide (r2 < 0)) || ((decide (2 < aBf)) && (decide (r8 < 0)))) then
   some (m_0, 7)
  else
   (bif (aBf == 2) then
    ((wU m_0 a_2).bind fun r10 =>
    (bif (decide (0 < (r10.length : Int))) then
     some (m_0, 11)
    else
     ((slc m_0.Keys 0 r2).bind fun l12 =>
     ((app [] l12).bind fun l14 =>
     ((slc m_0.Keys (IntKind.i64.wrap (r2 + 1)) (m_0.Keys.length : Int)).bind fun l16 =>
     ((app l14 l16).bind fun l18 =>
     some ((aF.mk m_0.Most l18 m_0.Pairs), 0)))))))
   else
    ((rY a_2 b_3).bind fun r20 =>
    ((aCe m_0.Pairs r20).bind fun r22 =>
    (bif (aBf == 4) then
     (bif (decide (r22 < 0)) then
      some (m_0, 9)
     else
      ((slc m_0.Pairs 0 r22).bind fun l24 =>
      ((app [] l24).bind fun l26 =>
      ((slc m_0.Pairs (IntKind.i64.wrap (r22 + 1)) (m_0.Pairs.length : Int)).bind fun l28 =>
      ((app l26 l28).bind fun l30 =>
      some ((aF.mk m_0.Most m_0.Keys l30), 0))))))
    else
     (bif (a_2 == b_3) then
      some (m_0, 8)
     else
      (bif (decide (0 ≤ r22)) then
       some (m_0, 4)
      else
       ((app [] m_0.Pairs).bind fun l32 =>
       ((app l32 [r20]).bind fun l34 =>
       some ((aF.mk m_0.Most m_0.Keys l34), 0)))))))))))))
theorem aS6 {m_0 : aF} {aBf : Int} {a_2 : Int} {b_3 : Int} {r : aF × Int} (hm : eF m_0 aBf a_2 b_3 = some r) : bC prog 18 [.agg [vi m_0.Most, vl (ci .u64) m_0.Keys, vl bO m_0.Pairs], vi aBf, vu a_2, vu b_3] (.tup [.agg [vi r.1.Most, vl (ci .u64) r.1.Keys, vl bO r.1.Pairs], vi r.2]) := by
 refine bd 135 func18 ?_
 obtain ⟨r2, h1, hm⟩ := bnd hm
 refine W ?_
 refine cq (aGf h1) ?_
 refine W ?_
 refine cm hm (fun hm => ?_) fun hm => ?_
 ·
  refine W ?_
  refine cm hm (fun hm => ?_) fun hm => ?_
  · exact E
  refine W ?_
  refine cm hm (fun hm => ?_) fun hm => ?_
  · exact E
  obtain ⟨l4, h3, hm⟩ := bnd hm
  refine W ?_
  refine AWp.regW [(4, 0), (8, 1)] [(36, 0), (42, 0)] [38, 11] 64 mix (by kernel_rfl) (by kernel_rfl) (IV.cons (off := 0) Z1 (IV.cons (off := 0) Z1 IV.nil)) (by intro q hq; simp only [List.mem_cons, List.not_mem_nil, or_false] at hq; rcases hq with rfl | rfl <;> ((try simp only [vX, Nat.reduceBEq, cond_true, cond_false]); first | exact .inl rfl | exact .inr rfl)) (by intro k hk q hq; simp only [List.mem_cons, List.not_mem_nil, or_false] at hk; rcases hk with rfl | rfl <;> (simp only [List.mem_cons, List.not_mem_nil, or_false] at hq; rcases hq with rfl | rfl <;> (try simp only [vX, Nat.reduceBEq, cond_true, cond_false]) <;> (intro h; first | (cases h; done) | (simp [dH] at h; done)))) (N' := 512) rfl ?_
  refine W ?_
  refine aL (CFi .u64) [a_2] ?_
  obtain ⟨l6, h5, hm⟩ := bnd hm
  refine W ?_
  refine bU (.agg [vi m_0.Most, .own 453 0 l6.length, vl bO m_0.Pairs]) ?_
  exact E
 obtain ⟨r8, h7, hm⟩ := bnd hm
 refine W ?_
 refine cg (fun hb => aGf (cK h7 hb)) ?_
 refine W ?_
 refine cm hm (fun hm => ?_) fun hm => ?_
 · exact E
 refine W ?_
 refine cm hm (fun hm => ?_) fun hm => ?_
 ·
  obtain ⟨r10, h9, hm⟩ := bnd hm
  refine W ?_
  refine cq (aGh h9) ?_
  refine W ?_
  refine cm hm (fun hm => ?_) fun hm => ?_
  · exact E
  obtain ⟨l12, h11, hm⟩ := bnd hm
  obtain ⟨l14, h13, hm⟩ := bnd hm
  refine W ?_
  refine AWp.regW [(4, 0), (8, 1)] [(73, 0), (76, 0), (82, 0)] [75, 12] 64 mix (by kernel_rfl) (by kernel_rfl) (IV.cons (off := 0) Z1 (IV.cons (off := 0) Z1 IV.nil)) (by intro q hq; simp only [List.mem_cons, List.not_mem_nil, or_false] at hq; rcases hq with rfl | rfl | rfl <;> ((try simp only [vX, Nat.reduceBEq, cond_true, cond_false]); first | exact .inl rfl | exact .inr rfl)) (by intro k hk q hq; simp only [List.mem_cons, List.not_mem_nil, or_false] at hk; rcases hk with rfl | rfl <;> (simp only [List.mem_cons, List.not_mem_nil, or_false] at hq; rcases hq with rfl | rfl <;> (try simp only [vX, Nat.reduceBEq, cond_true, cond_false]) <;> (intro h; first | (cases h; done) | (simp [dH] at h; done)))) (N' := 576) rfl ?_
  obtain ⟨l16, h15, hm⟩ := bnd hm
  obtain ⟨l18, h17, hm⟩ := bnd hm
  refine W ?_
  refine bU (.agg [vi m_0.Most, .own 520 0 l18.length, vl bO m_0.Pairs]) ?_
  exact E
 obtain ⟨r20, h19, hm⟩ := bnd hm
 refine W ?_
 refine cq (aGi h19) ?_
 obtain ⟨r22, h21, hm⟩ := bnd hm
 refine W ?_
 refine cq (aTf h21) ?_
 refine W ?_
 refine cm hm (fun hm => ?_) fun hm => ?_
 ·
  refine W ?_
  refine cm hm (fun hm => ?_) fun hm => ?_
  · exact E
  obtain ⟨l24, h23, hm⟩ := bnd hm
  obtain ⟨l26, h25, hm⟩ := bnd hm
  refine W ?_
  refine AWp.regW [(4, 0), (8, 1)] [(103, 0), (105, 0), (108, 0)] [107, 15] 64 mix (by kernel_rfl) (by kernel_rfl) (IV.cons (off := 0) Z1 (IV.cons (off := 0) Z1 IV.nil)) (by intro q hq; simp only [List.mem_cons, List.not_mem_nil, or_false] at hq; rcases hq with rfl | rfl | rfl <;> ((try simp only [vX, Nat.reduceBEq, cond_true, cond_false]); first | exact .inl rfl | exact .inr rfl)) (by intro k hk q hq; simp only [List.mem_cons, List.not_mem_nil, or_false] at hk; rcases hk with rfl | rfl <;> (simp only [List.mem_cons, List.not_mem_nil, or_false] at hq; rcases hq with rfl | rfl <;> (try simp only [vX, Nat.reduceBEq, cond_true, cond_false]) <;> (intro h; first | (cases h; done) | (simp [dH] at h; done)))) (N' := 768) rfl ?_
  obtain ⟨l28, h27, hm⟩ := bnd hm
  obtain ⟨l30, h29, hm⟩ := bnd hm
  refine W ?_
  refine bU (.agg [vi m_0.Most, vl (ci .u64) m_0.Keys, .own 714 0 l30.length]) ?_
  exact E
 refine W ?_
 refine cm hm (fun hm => ?_) fun hm => ?_
 · exact E
 refine W ?_
 refine cm hm (fun hm => ?_) fun hm => ?_
 · exact E
 obtain ⟨l32, h31, hm⟩ := bnd hm
 refine W ?_
 refine AWp.regW [(4, 0), (8, 1), (13, 323)] [(126, 0), (128, 0)] [130, 15] 64 mix (by kernel_rfl) (by kernel_rfl) (IV.cons (off := 0) Z1 (IV.cons (off := 0) Z1 (IV.cons (off := 0) Z1 IV.nil))) (by intro q hq; simp only [List.mem_cons, List.not_mem_nil, or_false] at hq; rcases hq with rfl | rfl <;> ((try simp only [vX, Nat.reduceBEq, cond_true, cond_false]); first | exact .inl rfl | exact .inr rfl)) (by intro k hk q hq; simp only [List.mem_cons, List.not_mem_nil, or_false] at hk; rcases hk with rfl | rfl <;> (simp only [List.mem_cons, List.not_mem_nil, or_false] at hq; rcases hq with rfl | rfl | rfl <;> (try simp only [vX, Nat.reduceBEq, cond_true, cond_false]) <;> (intro h; first | (cases h; done) | (simp [dH] at h; done)))) (N' := 832) rfl ?_
 refine W ?_
 refine aL bY [r20] ?_
 obtain ⟨l34, h33, hm⟩ := bnd hm
 refine W ?_
 refine bU (.agg [vi m_0.Most, vl (ci .u64) m_0.Keys, .own 775 0 l34.length]) ?_
 exact E
end Go.Proofs.YtkdohhmacfoolaaGreat
