/- Facts that the statement's proof is made of. No condition. -/
import Derived.Test.YtkdohhmacfoolaaGreatNbGI1
set_option linter.unusedVariables false
set_option linter.unusedSimpArgs false
set_option maxRecDepth 20000
set_option maxHeartbeats 4000000
namespace Go.Proofs.YtkdohhmacfoolaaGreat
open Go Go.AM
structure bI where
 Used : Bool
 Key : Int
deriving DecidableEq
def bX (e : bI) : List AV := [.v (.bool e.Used), .v (.int .u64 e.Key)]
theorem cE : CF bX 2 := ⟨fun _ => rfl, fun a x hx => by
 simp only [bX, List.mem_cons, List.not_mem_nil, or_false] at hx
 rcases hx with rfl | rfl
 ·
  exact (.v _)
 ·
  exact (.v _), fun _ => rfl⟩
theorem uN (e : bI) (r : List AV) : bX e ++ r = .v (.bool e.Used) :: .v (.int .u64 e.Key) :: r := rfl
attribute [go_sem] uN
structure dM where
 Graph : aJ
 Slots : List bI
deriving DecidableEq
def kR (e : dM) : List AV := [.v (.int .i64 e.Graph.Config.N), .v (.int .i64 e.Graph.Config.L), .v (.int .i64 e.Graph.Config.R), .sl (e.Graph.Hashes.flatMap bA) e.Graph.Hashes.length false, .sl (e.Graph.Edges.flatMap aL) e.Graph.Edges.length false, .sl (e.Slots.flatMap bX) e.Slots.length false]
theorem jS : CF kR 6 := ⟨fun _ => rfl, fun a x hx => by
 simp only [kR, List.mem_cons, List.not_mem_nil, or_false] at hx
 rcases hx with rfl | rfl | rfl | rfl | rfl | rfl
 ·
  exact (.v _)
 ·
  exact (.v _)
 ·
  exact (.v _)
 ·
  exact (cN.sl _ _ _)
 ·
  exact (aG.sl _ _ _)
 ·
  exact (cE.sl _ _ _), fun _ => rfl⟩
theorem uJ (e : dM) (r : List AV) : kR e ++ r = .v (.int .i64 e.Graph.Config.N) :: .v (.int .i64 e.Graph.Config.L) :: .v (.int .i64 e.Graph.Config.R) :: .sl (e.Graph.Hashes.flatMap bA) e.Graph.Hashes.length false :: .sl (e.Graph.Edges.flatMap aL) e.Graph.Edges.length false :: .sl (e.Slots.flatMap bX) e.Slots.length false :: r := rfl
attribute [go_sem] uJ
structure qF where
 Most : Int
 Keys : List Int
 Pairs : List bJ
deriving DecidableEq
def xW (e : qF) : List AV := [.v (.int .i64 e.Most), .sl (e.Keys.flatMap (ci .u64)) e.Keys.length false, .sl (e.Pairs.flatMap eG) e.Pairs.length false]
theorem tZ (e : qF) (r : List AV) : xW e ++ r = .v (.int .i64 e.Most) :: .sl (e.Keys.flatMap (ci .u64)) e.Keys.length false :: .sl (e.Pairs.flatMap eG) e.Pairs.length false :: r := rfl
attribute [go_sem] tZ
theorem aM7 (xs : List AV) : aM Tryz.prog 102 (.ptr (xs)) 0 = some (.ptr xs) := by kernel_rfl
attribute [go_sem] aM7
theorem aOj (x0 : AV) (xs : List AV) : aM Tryz.prog 102 (.ptr (x0 :: xs)) 1 = some (.ptr xs) := by kernel_rfl
attribute [go_sem] aOj
theorem aO5 (x0 : AV) (xs : List AV) : aM Tryz.prog 104 (.ptr (x0 :: xs)) 1 = some (.ptr xs) := by kernel_rfl
attribute [go_sem] aO5
theorem aLj (xs : List AV) : aM Tryz.prog 151 (.ptr (xs)) 0 = some (.ptr xs) := by kernel_rfl
attribute [go_sem] aLj
theorem aMa (x0 : AV) (xs : List AV) : aM Tryz.prog 151 (.ptr (x0 :: xs)) 1 = some (.ptr xs) := by kernel_rfl
attribute [go_sem] aMa
theorem aMe (i o : Nat) : aM Tryz.prog 102 (.adr i o) 0 = some (.adr i (o + 0)) := by kernel_rfl
attribute [go_sem] aMe
theorem aOh (i o : Nat) : aM Tryz.prog 102 (.adr i o) 1 = some (.adr i (o + 1)) := by kernel_rfl
attribute [go_sem] aOh
theorem aNg (i o : Nat) : aM Tryz.prog 104 (.adr i o) 0 = some (.adr i (o + 0)) := by kernel_rfl
attribute [go_sem] aNg
theorem aMj (i o : Nat) : aM Tryz.prog 151 (.adr i o) 0 = some (.adr i (o + 0)) := by kernel_rfl
attribute [go_sem] aMj
theorem aNt (i o : Nat) : aM Tryz.prog 151 (.adr i o) 1 = some (.adr i (o + 1)) := by kernel_rfl
attribute [go_sem] aNt
theorem aS2 (i o : Nat) : aM Tryz.prog 23 (.adr i o) 0 = some (.adr i (o + 0)) := by kernel_rfl
attribute [go_sem] aS2
theorem aSf (i o : Nat) : aM Tryz.prog 23 (.adr i o) 1 = some (.adr i (o + 1)) := by kernel_rfl
attribute [go_sem] aSf
theorem aSy (i o : Nat) : aM Tryz.prog 23 (.adr i o) 2 = some (.adr i (o + 2)) := by kernel_rfl
attribute [go_sem] aSy
theorem aQ5 (i o : Nat) : aM Tryz.prog 30 (.adr i o) 0 = some (.adr i (o + 0)) := by kernel_rfl
attribute [go_sem] aQ5
theorem aSb (i o : Nat) : aM Tryz.prog 30 (.adr i o) 1 = some (.adr i (o + 3)) := by kernel_rfl
attribute [go_sem] aSb
theorem aQz (i o : Nat) : aM Tryz.prog 30 (.adr i o) 2 = some (.adr i (o + 4)) := by kernel_rfl
attribute [go_sem] aQz
theorem aRu (i o : Nat) : aM Tryz.prog 33 (.adr i o) 0 = some (.adr i (o + 0)) := by kernel_rfl
attribute [go_sem] aRu
theorem aRs (i o : Nat) : aM Tryz.prog 33 (.adr i o) 1 = some (.adr i (o + 5)) := by kernel_rfl
attribute [go_sem] aRs
theorem aRl (i o : Nat) : aM Tryz.prog 35 (.adr i o) 1 = some (.adr i (o + 1)) := by kernel_rfl
attribute [go_sem] aRl
theorem aRp (i o : Nat) : aM Tryz.prog 42 (.adr i o) 0 = some (.adr i (o + 0)) := by kernel_rfl
attribute [go_sem] aRp
theorem aSk (i o : Nat) : aM Tryz.prog 42 (.adr i o) 1 = some (.adr i (o + 1)) := by kernel_rfl
attribute [go_sem] aSk
theorem aSi (i o : Nat) : aM Tryz.prog 42 (.adr i o) 2 = some (.adr i (o + 2)) := by kernel_rfl
attribute [go_sem] aSi
theorem aSg (i o : Nat) : aM Tryz.prog 45 (.adr i o) 0 = some (.adr i (o + 0)) := by kernel_rfl
attribute [go_sem] aSg
theorem aRe (i o : Nat) : aM Tryz.prog 45 (.adr i o) 1 = some (.adr i (o + 1)) := by kernel_rfl
attribute [go_sem] aRe
theorem aQ1 (i o : Nat) : aM Tryz.prog 45 (.adr i o) 2 = some (.adr i (o + 2)) := by kernel_rfl
attribute [go_sem] aQ1
theorem aS8 (i o : Nat) : aM Tryz.prog 45 (.adr i o) 3 = some (.adr i (o + 3)) := by kernel_rfl
attribute [go_sem] aS8
theorem aRy (i o : Nat) : aM Tryz.prog 56 (.adr i o) 0 = some (.adr i (o + 0)) := by kernel_rfl
attribute [go_sem] aRy
theorem aQ4 (i o : Nat) : aM Tryz.prog 56 (.adr i o) 1 = some (.adr i (o + 5)) := by kernel_rfl
attribute [go_sem] aQ4
theorem aSn (i o : Nat) (k : IntKind) : fN Tryz.prog 69 (.adr i o) (.v (.int k 0)) = some (.adr i o) := by kernel_rfl
theorem aSe (i o : Nat) (k : IntKind) : fN Tryz.prog 69 (.adr i o) (.v (.int k 1)) = some (.adr i (o + 1)) := by kernel_rfl
attribute [go_sem] aSn aSe
theorem aTs (H : aP) (x0 x1 x2 : AV) (xs : List AV) : cF Tryz.prog H 102 (.ptr (x0 :: x1 :: x2 :: xs)) = some (.agg [x0, x1, x2]) := by kernel_rfl
attribute [go_sem] aTs
theorem aUl (H : aP) (x0 x1 : AV) (xs : List AV) : cF Tryz.prog H 104 (.ptr (x0 :: x1 :: xs)) = some (.agg [x0, x1]) := by kernel_rfl
attribute [go_sem] aUl
theorem aTe (H : aP) (x0 : AV) (xs : List AV) : cF Tryz.prog H 130 (.ptr (x0 :: xs)) = some (.agg [x0]) := by kernel_rfl
attribute [go_sem] aTe
theorem aVp (H : aP) (x0 x1 : AV) (xs : List AV) : cF Tryz.prog H 151 (.ptr (x0 :: x1 :: xs)) = some (.agg [x0, x1]) := by kernel_rfl
attribute [go_sem] aVp
theorem aXs (H : aP) (x0 x1 x2 : AV) (xs : List AV) : cF Tryz.prog H 23 (.ptr (x0 :: x1 :: x2 :: xs)) = some (.agg [x0, x1, x2]) := by kernel_rfl
attribute [go_sem] aXs
theorem aWf (H : aP) (x : AV) (xs : List AV) : cF Tryz.prog H 24 (.ptr (x :: xs)) = some x := by kernel_rfl
attribute [go_sem] aWf
theorem aY0 (H : aP) (x : AV) (xs : List AV) : cF Tryz.prog H 27 (.ptr (x :: xs)) = some x := by kernel_rfl
attribute [go_sem] aY0
theorem aWe (H : aP) (x : AV) (xs : List AV) : cF Tryz.prog H 28 (.ptr (x :: xs)) = some x := by kernel_rfl
attribute [go_sem] aWe
theorem aZn (H : aP) (x : AV) (xs : List AV) : cF Tryz.prog H 3 (.ptr (x :: xs)) = some x := by kernel_rfl
attribute [go_sem] aZn
theorem aW3 (H : aP) (x0 x1 x2 x3 x4 : AV) (xs : List AV) : cF Tryz.prog H 30 (.ptr (x0 :: x1 :: x2 :: x3 :: x4 :: xs)) = some (.agg [x0, x1, x2, x3, x4]) := by kernel_rfl
attribute [go_sem] aW3
theorem aXl (H : aP) (x : AV) (xs : List AV) : cF Tryz.prog H 31 (.ptr (x :: xs)) = some x := by kernel_rfl
attribute [go_sem] aXl
theorem aWg (H : aP) (x0 x1 x2 x3 x4 x5 : AV) (xs : List AV) : cF Tryz.prog H 33 (.ptr (x0 :: x1 :: x2 :: x3 :: x4 :: x5 :: xs)) = some (.agg [x0, x1, x2, x3, x4, x5]) := by kernel_rfl
attribute [go_sem] aWg
theorem bA5 (H : aP) (x : AV) (xs : List AV) : cF Tryz.prog H 4 (.ptr (x :: xs)) = some x := by kernel_rfl
attribute [go_sem] bA5
theorem aYe (H : aP) (x : AV) (xs : List AV) : cF Tryz.prog H 40 (.ptr (x :: xs)) = some x := by kernel_rfl
attribute [go_sem] aYe
theorem aXw (H : aP) (x0 x1 x2 : AV) (xs : List AV) : cF Tryz.prog H 42 (.ptr (x0 :: x1 :: x2 :: xs)) = some (.agg [x0, x1, x2]) := by kernel_rfl
attribute [go_sem] aXw
theorem aWn (H : aP) (x : AV) (xs : List AV) : cF Tryz.prog H 43 (.ptr (x :: xs)) = some x := by kernel_rfl
attribute [go_sem] aWn
theorem aWx (H : aP) (x0 x1 x2 x3 : AV) (xs : List AV) : cF Tryz.prog H 45 (.ptr (x0 :: x1 :: x2 :: x3 :: xs)) = some (.agg [x0, x1, x2, x3]) := by kernel_rfl
attribute [go_sem] aWx
theorem aW5 (H : aP) (x : AV) (xs : List AV) : cF Tryz.prog H 54 (.ptr (x :: xs)) = some x := by kernel_rfl
attribute [go_sem] aW5
theorem aXk (H : aP) (x0 x1 x2 x3 x4 x5 : AV) (xs : List AV) : cF Tryz.prog H 56 (.ptr (x0 :: x1 :: x2 :: x3 :: x4 :: x5 :: xs)) = some (.agg [x0, x1, x2, x3, x4, x5]) := by kernel_rfl
attribute [go_sem] aXk
theorem aXa (H : aP) (x0 x1 : AV) (xs : List AV) : cF Tryz.prog H 69 (.ptr (x0 :: x1 :: xs)) = some (.agg [x0, x1]) := by kernel_rfl
attribute [go_sem] aXa
theorem aZt (H : aP) (x : AV) (xs : List AV) : cF Tryz.prog H 9 (.ptr (x :: xs)) = some x := by kernel_rfl
attribute [go_sem] aZt
theorem aR2 (H : aP) (k : IntKind) (n : Int) : jX Tryz.prog H 3 43 (.v (.int k n)) = some (.v (.int .u64 (IntKind.u64.wrap n))) := eY Tryz.underlying3 Tryz.underlying43
attribute [go_sem] aR2
theorem aPy (H : aP) (k : IntKind) (n : Int) : jX Tryz.prog H 5 43 (.v (.int k n)) = some (.v (.int .u64 (IntKind.u64.wrap n))) := eY Tryz.underlying5 Tryz.underlying43
attribute [go_sem] aPy
theorem aS4 (H : aP) (k : IntKind) (n : Int) : jX Tryz.prog H 43 3 (.v (.int k n)) = some (.v (.int .i64 (IntKind.i64.wrap n))) := eY Tryz.underlying43 Tryz.underlying3
attribute [go_sem] aS4
theorem aS9 (H : aP) (k : IntKind) (n : Int) : jX Tryz.prog H 43 5 (.v (.int k n)) = some (.v (.int .u8 (IntKind.u8.wrap n))) := eY Tryz.underlying43 Tryz.underlying5
attribute [go_sem] aS9
def wY (rec1 : Int → List Int → Int → Int → Option (Int)) (zero_3 : Int) (t6 : List Int) (t7 : Int) (t8 : Int) : Option (Int) :=
 (bif (decide (t8 < t7)) then
  ((idx t6 t8).bind fun x2 =>
  (bif (x2 != zero_3) then
   some x2
  else
   rec1 zero_3 t6 t7 (IntKind.i64.wrap (t8 + 1))))
 else
  some zero_3)
def tK : Nat → Int → List Int → Int → Int → Option (Int)
 | 0 => fun _ _ _ _ => none
 | n + 1 => wY (tK n)
def aA2 (vals_0 : List Int) : Option (Int) :=
 tK bY 0 vals_0 (vals_0.length : Int) 0
theorem aOp {vals_0 : List Int} {r : Int} (hm : aA2 vals_0 = some r) : aT Tryz.prog 106 [.sl (vals_0.flatMap (ci .i64)) vals_0.length false] (.v (.int .i64 r)) := by
 refine aT.of_body Tryz.func106 rfl ?_
 simp only [Tryz.ntmps106, List.length_cons, List.length_nil, Nat.reduceAdd, Nat.reduceSub, aQ]
 unfold aA2 at hm
 refine sr (N' := 64) rfl ?_
 refine pA ?_
 refine fs ?_
 refine sr (N' := 128) rfl ?_
 refine pA ?_
 refine fs ?_
 refine AWp.seq' ?_
 refine sr (N' := 192) rfl ?_
 iterate 3 refine pA ?_
 refine fs ?_
 refine AWp.block ?_
 refine AWp.loopM (fun m s => ∃ (zero_3 : Int) (t6 : List Int) (t7 : Int) (t8 : Int), s = (⟨18, (aK (aK (aK (aK (fun _ => AV.any) 3 (.v (.int .i64 zero_3))) 6 (.sl (t6.flatMap (ci .i64)) t6.length false)) 7 (.v (.int .i64 t7))) 8 (.v (.int .i64 t8))), ⟨bL, 64⟩⟩ : St) ∧ tK m zero_3 t6 t7 t8 = some r) bY ?_ ?_ ?_
 ·
  rintro s ⟨_, _, _, _, _, h⟩
  cases h
 ·
  refine ⟨_, ?_, 0, vals_0, (vals_0.length : Int), 0, rfl, hm⟩
  exact aN id (wV (wV (wD ((CFi .i64).sl _ _ _) (wV aU)))) cT
 ·
  rintro n1 s ⟨zero_3, t6, t7, t8, rfl, hm⟩
  replace hm : wY (tK n1) zero_3 t6 t7 t8 = some r := hm
  unfold wY at hm
  refine sr (N' := 128) rfl ?_
  refine pA ?_
  refine fs ?_
  refine AWp.seq' ?_
  refine AWp.condM hm Z1 (fun _ hm => ?_) (fun _ hm => ?_)
  ·
   refine AWp.skip ?_
   refine aF ?_
   refine AWp.seq' ?_
   refine AWp.block ?_
   refine sr (N' := 192) rfl ?_
   obtain ⟨x2, h1, hm⟩ := bnd hm
   refine pu rfl (cP (CFi .i64) Zd Tryz.underlying112 sz3 Z1 rfl Z1 h1) ?_
   iterate 2 refine pA ?_
   refine fs ?_
   refine sr (N' := 256) rfl ?_
   iterate 3 refine pA ?_
   refine fs ?_
   refine AWp.condM hm Z1 (fun _ hm => ?_) (fun _ hm => ?_)
   ·
    refine sr (N' := 320) rfl ?_
    iterate 2 refine pA ?_
    refine fs ?_
    refine AWp.ret ?_
    refine dB ?_
    refine bB ?_
    refine eD ?_
    refine dB ?_
    refine bB ?_
    cases hm
    exact bM (.inr rfl) Tryz.results106 (td Z1 (.v _))
   ·
    refine AWp.skip ?_
    refine cA ?_
    refine aF ?_
    refine AWp.reg 64 (N' := 320) rfl ?_
    iterate 2 refine pA ?_
    refine aE.fin ?_
    refine bU ?_
    refine ⟨_, ?_, zero_3, t6, t7, (IntKind.i64.wrap (t8 + 1)), rfl, hm⟩
    exact aN id (wV (wV (wD ((CFi .i64).sl _ _ _) (wV aU)))) cT
  ·
   refine AWp.exit ?_
   refine cH ?_
   refine bW ?_
   refine bT ?_
   refine aF ?_
   refine sr (N' := 192) rfl ?_
   iterate 2 refine pA ?_
   refine fs ?_
   refine AWp.ret ?_
   cases hm
   exact bM (.inr rfl) Tryz.results106 (td Z1 (.v _))
def pQ (p_0 : bJ) (q_1 : bJ) : Option (Int) :=
 ((jB p_0.x0 q_1.x0).bind fun r2 =>
 ((jB p_0.x1 q_1.x1).bind fun r4 =>
 ((aA2 [r2, r4]).bind fun r6 =>
 some r6)))
theorem aE5 {p_0 : bJ} {q_1 : bJ} {r : Int} (hm : pQ p_0 q_1 = some r) : aT Tryz.prog 105 [.agg [.v (.int .u64 p_0.x0), .v (.int .u64 p_0.x1)], .agg [.v (.int .u64 q_1.x0), .v (.int .u64 q_1.x1)]] (.v (.int .i64 r)) := by
 refine aT.of_body Tryz.func105 rfl ?_
 simp only [Tryz.ntmps105, List.length_cons, List.length_nil, Nat.reduceAdd, Nat.reduceSub, aQ]
 unfold pQ at hm
 refine sr (N' := 64) rfl ?_
 refine hp (id := 0) rfl rfl (bO Z1 Z5) ?_
 refine hp (id := 1) rfl rfl (bO Z1 Z5) ?_
 refine pA ?_
 refine fs ?_
 refine sd mix (by kernel_rfl) (N' := 128) rfl ?_
 refine pA ?_
 refine pu rfl (aD Z1 Z3 Z4) ?_
 refine pA ?_
 refine pu rfl (aD Z1 Z3 Z4) ?_
 obtain ⟨r2, h1, hm⟩ := bnd hm
 refine aE.callQ (r := .v (.int .i64 r2)) Zd Z1 aZ2 (fun H => (cV (cV .nil))) (rR h1) ?_
 refine pA ?_
 refine pu rfl (aD Z1 Z3 Z4) ?_
 refine pA ?_
 refine pu rfl (aD Z1 Z3 Z4) ?_
 obtain ⟨r4, h3, hm⟩ := bnd hm
 refine aE.callQ (r := .v (.int .i64 r4)) Zd Z1 aZ2 (fun H => (cV (cV .nil))) (rR h3) ?_
 refine hp (id := 74) rfl rfl (eE (CFi .i64) (l := [r2, r4]) Tryz.underlying112 sz3 zc3 Z5 Zd Zd Zd (by simp only [go_sem, Nat.reduceBEq]; try rfl) (by kernel_rfl)) ?_
 obtain ⟨r6, h5, hm⟩ := bnd hm
 refine aE.callB (r := .v (.int .i64 r6)) Zd Z1 bCh (.cons (lto (CFi .i64) Z1 Z3 Z6) aIx.nil) aYk (aOp h5) ?_
 refine pA ?_
 refine fs ?_
 refine AWp.ret ?_
 cases hm
 exact bM (.inr rfl) Tryz.results105 (td Z1 (.v _))
def rX (rec1 : aI → List bJ → List aC → Int → Int → Option ((List bJ))) (s_1 : aI) (pairs_4 : List bJ) (t19 : List aC) (t20 : Int) (t21 : Int) : Option ((List bJ)) :=
 (bif (decide (t21 < t20)) then
  ((idx t19 t21).bind fun x4 =>
  ((idx s_1.Slots x4.U).bind fun x6 =>
  ((idx s_1.Slots x4.V).bind fun x8 =>
  ((app pairs_4 [(bJ.mk (if x8.Key < x6.Key then x8.Key else x6.Key) (if x6.Key < x8.Key then x8.Key else x6.Key))]).bind fun l10 =>
  rec1 s_1 l10 t19 t20 (IntKind.i64.wrap (t21 + 1))))))
 else
  ((aGt (fun x => x.length) pairs_4.length (iO pairs_4 (fun x0 x1 => pQ x0 x1))).bind fun l12 =>
  some l12))
def nM : Nat → aI → List bJ → List aC → Int → Int → Option ((List bJ))
 | 0 => fun _ _ _ _ _ => none
 | n + 1 => rX (nM n)
def tP (s_0 : aI) : Option ((List bJ)) :=
 ((fQ s_0.Graph.Config.N s_0.Graph.Edges s_0.Graph.Config.L).bind fun r2 =>
 nM bY s_0 [] r2 (r2.length : Int) 0)
theorem aHa {s_0 : aI} {r : (List bJ)} (hm : tP s_0 = some r) : aT Tryz.prog 80 [.agg [.v (.int .i64 s_0.Graph.Config.N), .v (.int .i64 s_0.Graph.Config.L), .v (.int .i64 s_0.Graph.Config.R), .sl (s_0.Graph.Hashes.flatMap bA) s_0.Graph.Hashes.length false, .sl (s_0.Graph.Edges.flatMap aL) s_0.Graph.Edges.length false, .sl (s_0.Slots.flatMap aS) s_0.Slots.length false]] (.sl (r.flatMap eG) r.length false) := by
 refine aT.of_body Tryz.func80 rfl ?_
 simp only [Tryz.ntmps80, List.length_cons, List.length_nil, Nat.reduceAdd, Nat.reduceSub, aQ]
 unfold tP at hm
 refine sr (N' := 64) rfl ?_
 refine hp (id := 0) rfl rfl (bO Z1 Z5) ?_
 refine pA ?_
 refine fs ?_
 refine sr (N' := 128) rfl ?_
 iterate 2 refine pA ?_
 refine pu rfl (aD Z1 Z3 Z4) ?_
 refine hp (id := 67) rfl rfl (aY bEp Z5) ?_
 refine aE.heap0 (id := 68) rfl (bG (ys := [.v (.int .i64 s_0.Graph.Config.N), .v (.int .i64 s_0.Graph.Config.L), .v (.int .i64 s_0.Graph.Config.R)]) bAi Z1 Z1 Z3 rfl (Nat.le_of_ble_eq_true rfl) Z9 rfl) ?_
 refine fs ?_
 refine sr (N' := 192) rfl ?_
 refine pA ?_
 refine fs ?_
 refine AWp.seq' ?_
 refine sr (N' := 256) rfl ?_
 refine pA ?_
 refine pu rfl (aD Z1 Z3 Z4) ?_
 iterate 2 refine pA ?_
 refine pu rfl (aD Z1 Z3 Z4) ?_
 refine pA ?_
 refine pu rfl (aD Z1 Z3 Z4) ?_
 obtain ⟨r2, h1, hm⟩ := bnd hm
 refine aE.callQ (r := .sl (r2.flatMap aL) r2.length false) Zd Z1 aTn (fun H => (cV (cD (aG.sl _ _ _) (cV .nil)))) (lO h1) ?_
 iterate 2 refine pA ?_
 refine fs ?_
 refine AWp.block ?_
 refine AWp.loopM (fun m s => ∃ (s_1 : aI) (pairs_4 : List bJ) (t19 : List aC) (t20 : Int) (t21 : Int), s = (⟨53, (aK (aK (aK (aK (aK (fun _ => AV.any) 1 (.adr 1 0)) 4 (.own 2 0 pairs_4.length)) 19 (.sl (t19.flatMap aL) t19.length false)) 20 (.v (.int .i64 t20))) 21 (.v (.int .i64 t21))), ⟨(upd (upd bL 1 (.cells 1 [.v (.int .i64 s_1.Graph.Config.N), .v (.int .i64 s_1.Graph.Config.L), .v (.int .i64 s_1.Graph.Config.R), .sl (s_1.Graph.Hashes.flatMap bA) s_1.Graph.Hashes.length false, .sl (s_1.Graph.Edges.flatMap aL) s_1.Graph.Edges.length false, .sl (s_1.Slots.flatMap aS) s_1.Slots.length false] 0)) 2 (.cells 2 (pairs_4.flatMap eG) 0)), 64⟩⟩ : St) ∧ nM m s_1 pairs_4 t19 t20 t21 = some r) bY ?_ ?_ ?_
 ·
  rintro s ⟨_, _, _, _, _, _, h⟩
  cases h
 ·
  refine ⟨_, ?_, s_0, [], r2, (r2.length : Int), 0, rfl, hm⟩
  refine St.Le.trans (kA 4 900004 2 Z1 Z5) ?_
  exact aN (fun j => bif j == 1 then 0 else bif j == 2 then 900004 else 0) (wV (wV (wD (aG.sl _ _ _) (wO (aX _ _ (bQ Z1 rfl Z7) aU))))) (hW (eU eB (aV (aO Z3 (Nat.le_refl _) (Nat.zero_le _) (bE.dat s_0)) aR)))
 ·
  rintro n1 s ⟨s_1, pairs_4, t19, t20, t21, rfl, hm⟩
  replace hm : rX (nM n1) s_1 pairs_4 t19 t20 t21 = some r := hm
  unfold rX at hm
  refine sr (N' := 128) rfl ?_
  refine pA ?_
  refine fs ?_
  refine AWp.seq' ?_
  refine AWp.condM hm Z1 (fun _ hm => ?_) (fun _ hm => ?_)
  ·
   refine AWp.skip ?_
   refine aF ?_
   refine AWp.seq' ?_
   refine AWp.block ?_
   refine sr (N' := 192) rfl ?_
   obtain ⟨x4, h3, hm⟩ := bnd hm
   refine pu rfl (cP aG Zd Tryz.underlying28 dQ Z1 rfl Z1 h3) ?_
   refine pA ?_
   refine hp (id := 130) rfl rfl (aY jI Z5) ?_
   refine aE.heap0 (id := 131) rfl (bG (ys := [.v (.int .i64 x4.U), .v (.int .i64 x4.V), .v (.int .i64 x4.Tier)]) dQ Z1 Z1 Z3 rfl (Nat.le_of_ble_eq_true rfl) Z9 rfl) ?_
   refine fs ?_
   refine sd mix (by kernel_rfl) (N' := 256) rfl ?_
   refine pA ?_
   refine pu rfl (aD Z1 Z3 Z4) ?_
   refine pA ?_
   refine pu rfl (aD Z1 Z3 Z4) ?_
   obtain ⟨x6, h5, hm⟩ := bnd hm
   refine pu rfl (cP bF Zd Tryz.underlying31 mV Z1 rfl Z1 h5) ?_
   iterate 3 refine pA ?_
   refine pu rfl (aD Z1 Z3 Z4) ?_
   refine pA ?_
   refine pu rfl (aD Z1 Z3 Z4) ?_
   obtain ⟨x8, h7, hm⟩ := bnd hm
   refine pu rfl (cP bF Zd Tryz.underlying31 mV Z1 rfl Z1 h7) ?_
   iterate 4 refine pA ?_
   refine fs ?_
   refine AWp.reg 64 (N' := 320) rfl ?_
   iterate 7 refine pA ?_
   refine pu rfl (by simp only [go_sem, Nat.reduceBEq]; exact (by kernel_rfl : dJ Tryz.prog 69 [(0, .v (.int .u64 (if x8.Key < x6.Key then x8.Key else x6.Key))), (1, .v (.int .u64 (if x6.Key < x8.Key then x8.Key else x6.Key)))] = some (.agg [.v (.int .u64 (if x8.Key < x6.Key then x8.Key else x6.Key)), .v (.int .u64 (if x6.Key < x8.Key then x8.Key else x6.Key))]))) ?_
   refine hp (id := 264) rfl rfl (eE eB (l := [(bJ.mk (if x8.Key < x6.Key then x8.Key else x6.Key) (if x6.Key < x8.Key then x8.Key else x6.Key))]) Tryz.underlying40 aHc bJ3 Z5 Zd Zd Zd (by simp only [go_sem, Nat.reduceBEq]; try rfl) (by kernel_rfl)) ?_
   obtain ⟨l10, h9, hm⟩ := bnd hm
   refine hp (id := 265) rfl rfl (iI eB Tryz.underlying40 Tryz.underlying40 rfl bKz bIj (by rw [bB6]; decide) (by rw [bB6]; decide) bL2 Zd Zd Z1 Z3 Z6 (lM eB Z1 Z3 Z6) rfl Z5 h9) ?_
   refine pA ?_
   refine aE.fin ?_
   refine cA ?_
   refine aF ?_
   refine AWp.reg 64 (N' := 384) rfl ?_
   iterate 2 refine pA ?_
   refine aE.fin ?_
   refine bU ?_
   refine ⟨_, ?_, s_1, l10, t19, t20, (IntKind.i64.wrap (t21 + 1)), rfl, hm⟩
   exact aN (fun j => bif j == 1 then 1 else bif j == 2 then 265 else 0) (wV (wV (wD (aG.sl _ _ _) (wO (aX _ _ (bQ Z1 rfl Z7) aU))))) (hW (eU eB (aV (aO Z3 (Nat.le_refl _) (Nat.zero_le _) (bE.dat s_1)) aR)))
  ·
   refine AWp.exit ?_
   refine cH ?_
   refine bW ?_
   refine bT ?_
   refine aF ?_
   refine sr (N' := 192) rfl ?_
   refine pA ?_
   obtain ⟨l12, h11, hm⟩ := bnd hm
   have qh11 := aCz h11
   refine aE.callM Zd Z1 bDf Z1 (vX (aAf h11) aAq bDi (fun h => aE5 h) Z3) ?_
   refine fs ?_
   refine sr (N' := 256) rfl ?_
   iterate 2 refine pA ?_
   refine fs ?_
   refine AWp.ret ?_
   cases hm
   exact bM (.inr rfl) Tryz.results80 (tdo eB Z1 Z3 Z6)
def uG (s_0 : aI) (do_1 : Int) (u_2 : Int) (v_3 : Int) : Option (GA) :=
 ((sY s_0.Graph).bind fun r2 =>
 (bif (do_1 == 5) then
  ((mE s_0.Graph.Edges u_2 v_3).bind fun ⟨r4, r5⟩ =>
  some (GA.b 4 r5))
 else
  (bif (do_1 == 6) then
   ((oM s_0 u_2).bind fun r7 =>
   some (GA.i 3 .i64 r7))
  else
   (bif (do_1 == 7) then
    ((sV s_0 u_2).bind fun r9 =>
    ((pK s_0 r9).bind fun r11 =>
    some (GA.lu 24 r11)))
   else
    (bif (do_1 == 8) then
     ((idx r2 u_2).bind fun x13 =>
     ((idx r2 v_3).bind fun x15 =>
     some (GA.b 4 (x13 == x15))))
    else
     (bif (do_1 == 9) then
      ((pH r2 u_2).bind fun r17 =>
      ((pK s_0 r17).bind fun r19 =>
      some (GA.i 3 .i64 (r19.length : Int))))
     else
      (bif (do_1 == 10) then
       ((sB s_0 r2).bind fun r21 =>
       some (GA.i 3 .i64 r21))
      else
       (bif (do_1 == 11) then
        ((pH r2 u_2).bind fun r23 =>
        ((pK s_0 r23).bind fun r25 =>
        some (GA.lu 24 r25)))
       else
        (bif (do_1 == 12) then
         ((tP s_0).bind fun r27 =>
         some (GA.lp 40 r27))
        else
         (bif (do_1 == 13) then
          ((wE s_0.Graph).bind fun r29 =>
          some (GA.b 4 r29))
         else
          none))))))))))
theorem aGj {s_0 : aI} {do_1 : Int} {u_2 : Int} {v_3 : Int} {r : GA} (hm : uG s_0 do_1 u_2 v_3 = some r) : aT Tryz.prog 42 [.agg [.v (.int .i64 s_0.Graph.Config.N), .v (.int .i64 s_0.Graph.Config.L), .v (.int .i64 s_0.Graph.Config.R), .sl (s_0.Graph.Hashes.flatMap bA) s_0.Graph.Hashes.length false, .sl (s_0.Graph.Edges.flatMap aL) s_0.Graph.Edges.length false, .sl (s_0.Slots.flatMap aS) s_0.Slots.length false], .v (.int .i64 do_1), .v (.int .i64 u_2), .v (.int .i64 v_3)] (GA.av r) := by
 refine aT.of_body Tryz.func42 rfl ?_
 simp only [Tryz.ntmps42, List.length_cons, List.length_nil, Nat.reduceAdd, Nat.reduceSub, aQ]
 unfold uG at hm
 refine sr (N' := 64) rfl ?_
 refine hp (id := 0) rfl rfl (bO Z1 Z5) ?_
 refine pA ?_
 refine fs ?_
 refine sr (N' := 128) rfl ?_
 refine pA ?_
 refine pu rfl (aD Z1 Z3 Z4) ?_
 obtain ⟨r2, h1, hm⟩ := bnd hm
 refine aE.callQ (r := .sl (r2.flatMap (ci .i64)) r2.length false) Zd Z1 bGr (fun H => (cD (.agg _ (cB.dat _)) .nil)) (aDl h1) ?_
 refine pA ?_
 refine fs ?_
 refine AWp.seq' ?_
 refine sr (N' := 192) rfl ?_
 refine pA ?_
 refine fs ?_
 refine AWp.block ?_
 refine sr (N' := 256) rfl ?_
 iterate 2 refine pA ?_
 refine fs ?_
 refine AWp.condM hm Z1 (fun _ hm => ?_) (fun _ hm => ?_)
 ·
  refine sr (N' := 320) rfl ?_
  iterate 2 refine pA ?_
  refine pu rfl (aD Z1 Z3 Z4) ?_
  iterate 2 refine pA ?_
  obtain ⟨⟨r4, r5⟩, h3, hm⟩ := bnd hm
  refine aE.callQ (r := .tup [.v (.int .i64 r4), .v (.bool r5)]) Zd Z1 aUc (fun H => (cD (aG.sl _ _ _) (cV (cV .nil)))) (sA h3) ?_
  iterate 5 refine pA ?_
  refine fs ?_
  refine sr (N' := 384) rfl ?_
  iterate 3 refine pA ?_
  refine fs ?_
  refine AWp.ret ?_
  refine dB ?_
  refine bB ?_
  cases hm
  exact bM (.inr rfl) Tryz.results42 (td Z1 (GA.data _))
 ·
  refine sr (N' := 320) rfl ?_
  iterate 2 refine pA ?_
  refine fs ?_
  refine AWp.condM hm Z1 (fun _ hm => ?_) (fun _ hm => ?_)
  ·
   refine sr (N' := 384) rfl ?_
   refine pu rfl (aD Z1 Z3 Z2) ?_
   refine pA ?_
   obtain ⟨r7, h6, hm⟩ := bnd hm
   refine aE.callQ (r := .v (.int .i64 r7)) Zd Z1 bDh (fun H => (cD (.agg _ (bE.dat _)) (cV .nil))) (zV h6) ?_
   iterate 2 refine pA ?_
   refine fs ?_
   refine AWp.ret ?_
   refine dB ?_
   refine bB ?_
   cases hm
   exact bM (.inr rfl) Tryz.results42 (td Z1 (GA.data _))
  ·
   refine sr (N' := 384) rfl ?_
   iterate 2 refine pA ?_
   refine fs ?_
   refine AWp.condM hm Z1 (fun _ hm => ?_) (fun _ hm => ?_)
   ·
    refine sd mix (by kernel_rfl) (N' := 448) rfl ?_
    refine pu rfl (aD Z1 Z3 Z2) ?_
    refine pu rfl (aD Z1 Z3 Z2) ?_
    refine pA ?_
    obtain ⟨r9, h8, hm⟩ := bnd hm
    refine aE.callQ (r := .sl (r9.flatMap (ci .i64)) r9.length false) Zd Z1 bEm (fun H => (cD (.agg _ (bE.dat _)) (cV .nil))) (aD2 h8) ?_
    obtain ⟨r11, h10, hm⟩ := bnd hm
    refine aE.callQ (r := .sl (r11.flatMap (ci .u64)) r11.length false) Zd Z1 aZu (fun H => (cD (.agg _ (bE.dat _)) (cD ((CFi .i64).sl _ _ _) .nil))) (xQ h10) ?_
    refine aE.pop Zd (aA8 Z1 ((CFi .u64).sl _ _ _)) (aFg (a := .sl (r11.flatMap (ci .u64)) r11.length false) Tryz.underlying24 (fun _ => by simp) Z1 ((CFi .u64).sl _ _ _) (fun H => (td rfl ((CFi .u64).sl _ _ _)))) rfl ?_
    refine pA ?_
    refine fs ?_
    refine AWp.ret ?_
    refine dB ?_
    refine bB ?_
    cases hm
    exact bM (.inr rfl) Tryz.results42 (td Z1 (GA.data _))
   ·
    refine sr (N' := 448) rfl ?_
    iterate 2 refine pA ?_
    refine fs ?_
    refine AWp.condM hm Z1 (fun _ hm => ?_) (fun _ hm => ?_)
    ·
     refine sd mix (by kernel_rfl) (N' := 512) rfl ?_
     iterate 2 refine pA ?_
     obtain ⟨x13, h12, hm⟩ := bnd hm
     refine pu rfl (cP (CFi .i64) Zd Tryz.underlying112 sz3 Z1 rfl Z1 h12) ?_
     iterate 3 refine pA ?_
     obtain ⟨x15, h14, hm⟩ := bnd hm
     refine pu rfl (cP (CFi .i64) Zd Tryz.underlying112 sz3 Z1 rfl Z1 h14) ?_
     iterate 4 refine pA ?_
     refine fs ?_
     refine AWp.ret ?_
     refine dB ?_
     refine bB ?_
     cases hm
     exact bM (.inr rfl) Tryz.results42 (td Z1 (GA.data _))
    ·
     refine sr (N' := 512) rfl ?_
     iterate 2 refine pA ?_
     refine fs ?_
     refine AWp.condM hm Z1 (fun _ hm => ?_) (fun _ hm => ?_)
     ·
      refine sd mix (by kernel_rfl) (N' := 576) rfl ?_
      refine pu rfl (aD Z1 Z3 Z2) ?_
      iterate 2 refine pA ?_
      obtain ⟨r17, h16, hm⟩ := bnd hm
      refine aE.callQ (r := .sl (r17.flatMap (ci .i64)) r17.length false) Zd Z1 bA1 (fun H => (cD ((CFi .i64).sl _ _ _) (cV .nil))) (xC h16) ?_
      obtain ⟨r19, h18, hm⟩ := bnd hm
      refine aE.callQ (r := .sl (r19.flatMap (ci .u64)) r19.length false) Zd Z1 aZu (fun H => (cD (.agg _ (bE.dat _)) (cD ((CFi .i64).sl _ _ _) .nil))) (xQ h18) ?_
      iterate 3 refine pA ?_
      refine fs ?_
      refine AWp.ret ?_
      refine dB ?_
      refine bB ?_
      cases hm
      exact bM (.inr rfl) Tryz.results42 (td Z1 (GA.data _))
     ·
      refine sr (N' := 576) rfl ?_
      iterate 2 refine pA ?_
      refine fs ?_
      refine AWp.condM hm Z1 (fun _ hm => ?_) (fun _ hm => ?_)
      ·
       refine sr (N' := 640) rfl ?_
       refine pu rfl (aD Z1 Z3 Z2) ?_
       refine pA ?_
       obtain ⟨r21, h20, hm⟩ := bnd hm
       refine aE.callQ (r := .v (.int .i64 r21)) Zd Z1 bKx (fun H => (cD (.agg _ (bE.dat _)) (cD ((CFi .i64).sl _ _ _) .nil))) (aF2 h20) ?_
       iterate 2 refine pA ?_
       refine fs ?_
       refine AWp.ret ?_
       refine dB ?_
       refine bB ?_
       cases hm
       exact bM (.inr rfl) Tryz.results42 (td Z1 (GA.data _))
      ·
       refine sr (N' := 640) rfl ?_
       iterate 2 refine pA ?_
       refine fs ?_
       refine AWp.condM hm Z1 (fun _ hm => ?_) (fun _ hm => ?_)
       ·
        refine sd mix (by kernel_rfl) (N' := 704) rfl ?_
        refine pu rfl (aD Z1 Z3 Z2) ?_
        iterate 2 refine pA ?_
        obtain ⟨r23, h22, hm⟩ := bnd hm
        refine aE.callQ (r := .sl (r23.flatMap (ci .i64)) r23.length false) Zd Z1 bA1 (fun H => (cD ((CFi .i64).sl _ _ _) (cV .nil))) (xC h22) ?_
        obtain ⟨r25, h24, hm⟩ := bnd hm
        refine aE.callQ (r := .sl (r25.flatMap (ci .u64)) r25.length false) Zd Z1 aZu (fun H => (cD (.agg _ (bE.dat _)) (cD ((CFi .i64).sl _ _ _) .nil))) (xQ h24) ?_
        refine aE.pop Zd (aA8 Z1 ((CFi .u64).sl _ _ _)) (aFg (a := .sl (r25.flatMap (ci .u64)) r25.length false) Tryz.underlying24 (fun _ => by simp) Z1 ((CFi .u64).sl _ _ _) (fun H => (td rfl ((CFi .u64).sl _ _ _)))) rfl ?_
        refine pA ?_
        refine fs ?_
        refine AWp.ret ?_
        refine dB ?_
        refine bB ?_
        cases hm
        exact bM (.inr rfl) Tryz.results42 (td Z1 (GA.data _))
       ·
        refine sr (N' := 704) rfl ?_
        iterate 2 refine pA ?_
        refine fs ?_
        refine AWp.condM hm Z1 (fun _ hm => ?_) (fun _ hm => ?_)
        ·
         refine sr (N' := 768) rfl ?_
         refine pu rfl (aD Z1 Z3 Z2) ?_
         obtain ⟨r27, h26, hm⟩ := bnd hm
         refine aE.callQ (r := .sl (r27.flatMap eG) r27.length false) Zd Z1 bJt (fun H => (cD (.agg _ (bE.dat _)) .nil)) (aHa h26) ?_
         refine aE.pop Zd (aA8 Z1 (eB.sl _ _ _)) (aFg (a := .sl (r27.flatMap eG) r27.length false) Tryz.underlying40 (fun _ => by simp) Z1 (eB.sl _ _ _) (fun H => (td rfl (eB.sl _ _ _)))) rfl ?_
         refine pA ?_
         refine fs ?_
         refine AWp.ret ?_
         refine dB ?_
         refine bB ?_
         cases hm
         exact bM (.inr rfl) Tryz.results42 (td Z1 (GA.data _))
        ·
         refine sr (N' := 768) rfl ?_
         iterate 2 refine pA ?_
         refine fs ?_
         refine AWp.condM hm Z1 (fun _ hm => ?_) (fun _ hm => ?_)
         ·
          refine sr (N' := 832) rfl ?_
          refine pA ?_
          refine pu rfl (aD Z1 Z3 Z4) ?_
          obtain ⟨r29, h28, hm⟩ := bnd hm
          refine aE.callQ (r := .v (.bool r29)) Zd Z1 bJ8 (fun H => (cD (.agg _ (cB.dat _)) .nil)) (aIm h28) ?_
          iterate 2 refine pA ?_
          refine fs ?_
          refine AWp.ret ?_
          refine dB ?_
          refine bB ?_
          cases hm
          exact bM (.inr rfl) Tryz.results42 (td Z1 (GA.data _))
         ·
          cases hm
def iR (f_1 : (bC → Option (Bool))) (rec1 : List bC → Int → Int → Option (Int)) (s_0 : List bC) (t7 : Int) (t8 : Int) : Option (Int) :=
 (bif (decide (t8 < t7)) then
  ((idx s_0 t8).bind fun x2 =>
  ((f_1 x2).bind fun r4 =>
  (bif r4 then
   some t8
  else
   rec1 s_0 t7 (IntKind.i64.wrap (t8 + 1)))))
 else
  some (-1))
def gB (f_1 : (bC → Option (Bool))) : Nat → List bC → Int → Int → Option (Int)
 | 0 => fun _ _ _ => none
 | n + 1 => iR f_1 (gB f_1 n)
def jQ (s_0 : List bC) (f_1 : (bC → Option (Bool))) : Option (Int) :=
 gB f_1 bY s_0 (s_0.length : Int) 0
theorem wR {s_0 : List bC} {f_1 : (bC → Option (Bool))} {r : Int} (hm : jQ s_0 f_1 = some r) {g_f_1 : FuncId} {cap_f_1 : List AV} (hcap_f_1 : ∀ a, a ∈ cap_f_1 → AM.Data a) (hb_f_1 : (Program.funcs Tryz.prog)[g_f_1]?.any (fun fn => fn.body.isSome && fn.name != "runtime.NumGoroutine") = true) (hf_f_1 : ∀ {x0 r}, f_1 x0 = some r → aT Tryz.prog g_f_1 ([.agg [.v (.bool x0.Used), .v (.int .u64 x0.Key)]] ++ cap_f_1) (.v (.bool r))) : aT Tryz.prog 112 [.sl (s_0.flatMap aS) s_0.length false, .clo (.func g_f_1) [] cap_f_1] (.v (.int .i64 r)) := by
 refine aT.of_body Tryz.func112 rfl ?_
 simp only [Tryz.ntmps112, List.length_cons, List.length_nil, Nat.reduceAdd, Nat.reduceSub, aQ]
 unfold jQ at hm
 refine sr (N' := 64) rfl ?_
 refine pA ?_
 refine fs ?_
 refine AWp.seq' ?_
 refine sr (N' := 128) rfl ?_
 iterate 3 refine pA ?_
 refine fs ?_
 refine AWp.block ?_
 refine AWp.loopM (fun m s => ∃ (s_0 : List bC) (t7 : Int) (t8 : Int), s = (⟨19, (aK (aK (aK (aK (fun _ => AV.any) 0 (.sl (s_0.flatMap aS) s_0.length false)) 1 (.clo (.func g_f_1) [] cap_f_1)) 7 (.v (.int .i64 t7))) 8 (.v (.int .i64 t8))), ⟨bL, 64⟩⟩ : St) ∧ gB f_1 m s_0 t7 t8 = some r) bY ?_ ?_ ?_
 ·
  rintro s ⟨_, _, _, _, h⟩
  cases h
 ·
  refine ⟨_, ?_, s_0, (s_0.length : Int), 0, rfl, hm⟩
  exact aN id (wV (wV (wD (aMo hcap_f_1) (wD (bF.sl _ _ _) aU)))) cT
 ·
  rintro n1 s ⟨s_0, t7, t8, rfl, hm⟩
  replace hm : iR f_1 (gB f_1 n1) s_0 t7 t8 = some r := hm
  unfold iR at hm
  refine sr (N' := 128) rfl ?_
  refine pA ?_
  refine fs ?_
  refine AWp.seq' ?_
  refine AWp.condM hm Z1 (fun _ hm => ?_) (fun _ hm => ?_)
  ·
   refine AWp.skip ?_
   refine aF ?_
   refine AWp.seq' ?_
   refine AWp.block ?_
   refine sr (N' := 192) rfl ?_
   iterate 2 refine pA ?_
   refine fs ?_
   refine sr (N' := 256) rfl ?_
   iterate 3 refine pA ?_
   obtain ⟨x2, h1, hm⟩ := bnd hm
   refine pu rfl (cP bF Zd Tryz.underlying31 mV Z1 rfl Z1 h1) ?_
   refine pA ?_
   obtain ⟨r4, h3, hm⟩ := bnd hm
   refine aE.callQC (r := .v (.bool r4)) Zd Z1 hcap_f_1 hb_f_1 (fun H => (cD (.agg _ (bF.dat _)) .nil)) (hf_f_1 h3) ?_
   refine fs ?_
   refine AWp.condM hm Z1 (fun _ hm => ?_) (fun _ hm => ?_)
   ·
    refine sr (N' := 320) rfl ?_
    iterate 2 refine pA ?_
    refine fs ?_
    refine AWp.ret ?_
    refine dB ?_
    refine bB ?_
    refine eD ?_
    refine dB ?_
    refine bB ?_
    cases hm
    exact bM (.inr rfl) Tryz.results112 (td Z1 (.v _))
   ·
    refine AWp.skip ?_
    refine cA ?_
    refine aF ?_
    refine AWp.reg 64 (N' := 320) rfl ?_
    iterate 2 refine pA ?_
    refine aE.fin ?_
    refine bU ?_
    refine ⟨_, ?_, s_0, t7, (IntKind.i64.wrap (t8 + 1)), rfl, hm⟩
    exact aN id (wV (wV (wD (aMo hcap_f_1) (wD (bF.sl _ _ _) aU)))) cT
  ·
   refine AWp.exit ?_
   refine cH ?_
   refine bW ?_
   refine bT ?_
   refine aF ?_
   refine sr (N' := 192) rfl ?_
   refine pA ?_
   refine fs ?_
   refine AWp.ret ?_
   cases hm
   exact bM (.inr rfl) Tryz.results112 (td Z1 (.v _))
def vL (slot_0 : bC) : Option (Bool) :=
 some (!slot_0.Used)
theorem aIk {slot_0 : bC} {r : Bool} (hm : vL slot_0 = some r) : aT Tryz.prog 113 [.agg [.v (.bool slot_0.Used), .v (.int .u64 slot_0.Key)]] (.v (.bool r)) := by
 refine aT.of_body Tryz.func113 rfl ?_
 simp only [Tryz.ntmps113, List.length_cons, List.length_nil, Nat.reduceAdd, Nat.reduceSub, aQ]
 unfold vL at hm
 refine sr (N' := 64) rfl ?_
 refine hp (id := 0) rfl rfl (bO Z1 Z5) ?_
 refine pA ?_
 refine fs ?_
 refine sr (N' := 128) rfl ?_
 refine pA ?_
 refine pu rfl (aD Z1 Z3 Z4) ?_
 iterate 2 refine pA ?_
 refine fs ?_
 refine AWp.ret ?_
 cases hm
 exact bM (.inr rfl) Tryz.results113 (td Z1 (.v _))
def gU (l : List bC) : Option (List bC) := app [] l
theorem aAt {r : List bC} (hm : some [] = some r) : dO Tryz.prog 114 [.v (.slice none 0 0)] 2 (r.flatMap aS) r.length := by
 refine dO.of_body Tryz.func114 rfl (bF.fmdat r) ?_
 simp only [Tryz.ntmps114, List.length_cons, List.length_nil, Nat.reduceAdd, Nat.reduceSub, aQ]
 refine sr (N' := 64) rfl ?_
 refine pA ?_
 refine fs ?_
 refine AWp.seq' ?_
 refine sr (N' := 128) rfl ?_
 refine pA ?_
 refine pu rfl (pP Z1 Z1 (aB3 Tryz.underlying31)) ?_
 refine fs ?_
 refine AWp.condT Z1 ?_
 refine sr (N' := 192) rfl ?_
 refine pA ?_
 refine fs ?_
 refine AWp.weaken (kA 2 900002 2 Z1 Z5) ?_
 refine AWp.ret ?_
 refine bB ?_
 cases hm
 exact aC8 (.inr rfl) Tryz.results114 Z1 Z3 Z6
theorem aAd {a : Addr} {c : Nat} {r : List bC} (hm : ((app [] []).bind fun l2 =>
some l2) = some r) : dO Tryz.prog 114 [.v (.slice (some a) 0 c)] 2 (r.flatMap aS) r.length := by
 refine dO.of_body Tryz.func114 rfl (bF.fmdat r) ?_
 simp only [Tryz.ntmps114, List.length_cons, List.length_nil, Nat.reduceAdd, Nat.reduceSub, aQ]
 refine sr (N' := 64) rfl ?_
 refine pA ?_
 refine fs ?_
 refine AWp.seq' ?_
 refine sr (N' := 128) rfl ?_
 refine pA ?_
 refine pu rfl (pP Z1 Z1 (zB Tryz.underlying31)) ?_
 refine fs ?_
 refine AWp.condF Z1 ?_
 refine AWp.skip ?_
 refine aF ?_
 refine sr (N' := 192) rfl ?_
 refine hp (id := 128) rfl rfl (eE bF (l := []) Tryz.underlying31 mV aKi Z5 Zd Zd Zd (by simp only [go_sem, Nat.reduceBEq]; try rfl) (by kernel_rfl)) ?_
 refine pA ?_
 obtain ⟨l2, h1, hm⟩ := bnd hm
 refine hp (id := 130) rfl rfl (iI bF Tryz.underlying31 Tryz.underlying31 rfl aVq aUu (by rw [aKu]; decide) (by rw [aKu]; decide) aZ5 Zd Zd Z1 Z3 Z6 (aEq Z1) rfl Z5 h1) ?_
 refine pA ?_
 refine fs ?_
 refine AWp.ret ?_
 cases hm
 exact aC8 (.inr rfl) Tryz.results114 Z1 Z3 Z6
theorem aAb {x0 : bC} {l0 : List bC} {r : List bC} (hm : ((app [] (x0 :: l0)).bind fun l2 =>
some l2) = some r) : dO Tryz.prog 114 [.sl ((x0 :: l0).flatMap aS) (x0 :: l0).length false] 2 (r.flatMap aS) r.length := by
 refine dO.of_body Tryz.func114 rfl (bF.fmdat r) ?_
 simp only [Tryz.ntmps114, List.length_cons, List.length_nil, Nat.reduceAdd, Nat.reduceSub, aQ]
 refine sr (N' := 64) rfl ?_
 refine pA ?_
 refine fs ?_
 refine AWp.seq' ?_
 refine sr (N' := 128) rfl ?_
 refine pA ?_
 refine pu rfl (pP Z1 Z1 (yU Tryz.underlying31 (by simp))) ?_
 refine fs ?_
 refine AWp.condF Z1 ?_
 refine AWp.skip ?_
 refine aF ?_
 refine sr (N' := 192) rfl ?_
 refine hp (id := 128) rfl rfl (eE bF (l := []) Tryz.underlying31 mV aKi Z5 Zd Zd Zd (by simp only [go_sem, Nat.reduceBEq]; try rfl) (by kernel_rfl)) ?_
 refine pA ?_
 obtain ⟨l2, h1, hm⟩ := bnd hm
 refine hp (id := 130) rfl rfl (iI bF Tryz.underlying31 Tryz.underlying31 rfl aVq aUu (by rw [aKu]; decide) (by rw [aKu]; decide) aZ5 Zd Zd Z1 Z3 Z6 (aJx bF Z1 rfl) rfl Z5 h1) ?_
 refine pA ?_
 refine fs ?_
 refine AWp.ret ?_
 cases hm
 exact aC8 (.inr rfl) Tryz.results114 Z1 Z3 Z6
theorem tE {l r : List bC} (hm : gU l = some r) : dO Tryz.prog 114 [.sl (l.flatMap aS) l.length false] 2 (r.flatMap aS) r.length := by
 cases l with
 | nil =>
  have hr : r = [] := by unfold gU app at hm; simpa using hm.symm
  subst hr
  exact dO.nil_arg (aAt (r := []) rfl) (fun a c => aAd (r := []) rfl)
 | cons x0 l0 =>
  refine aAb ?_
  show (app [] (x0 :: l0)).bind _ = _
  unfold gU at hm
  rw [hm]; rfl
def aAo (l_0 : List bC) (key_1 : Int) : Option ((List bC) × Int × Int) :=
 ((gV l_0).bind fun ⟨r2, r3⟩ =>
 (bif (!r3) then
  some (l_0, 0, 1)
 else
  ((mM r2 key_1).bind fun ⟨r5, r6⟩ =>
  (bif r6 then
   some (l_0, 0, 4)
  else
   ((jQ l_0 (fun x0 => vL x0)).bind fun r8 =>
   (bif (decide (r8 < 0)) then
    some (l_0, 0, 10)
   else
    ((gU l_0).bind fun r10 =>
    ((idx r10 r8).bind fun x12 =>
    ((stt r10 r8 (bC.mk true key_1)).bind fun l14 =>
    some (l14, r8, 0))))))))))
theorem aNe {l_0 : List bC} {key_1 : Int} {r : (List bC) × Int × Int} (hm : aAo l_0 key_1 = some r) : aT Tryz.prog 83 [.sl (l_0.flatMap aS) l_0.length false, .v (.int .u64 key_1)] (.tup [.sl (r.1.flatMap aS) r.1.length false, .v (.int .i64 r.2.1), .v (.int .i64 r.2.2)]) := by
 refine aT.of_body Tryz.func83 rfl ?_
 simp only [Tryz.ntmps83, List.length_cons, List.length_nil, Nat.reduceAdd, Nat.reduceSub, aQ]
 unfold aAo at hm
 refine sr (N' := 64) rfl ?_
 iterate 3 refine pA ?_
 refine fs ?_
 refine sr (N' := 128) rfl ?_
 refine pA ?_
 obtain ⟨⟨r2, r3⟩, h1, hm⟩ := bnd hm
 refine aE.callQ (r := .tup [.agg [aA.av r2.s], .v (.bool r3)]) Zd Z1 aX0 (fun H => (cD (bF.sl _ _ _) .nil)) (qG h1) ?_
 iterate 3 refine pA ?_
 refine hp (id := 69) rfl rfl (aY aDk Z5) ?_
 refine aE.heap0 (id := 70) rfl (bG (ys := [aA.av r2.s]) yH Z1 Z1 Z3 rfl (Nat.le_of_ble_eq_true rfl) (by simp only [List.all_cons, List.all_nil, Bool.and_true, aA.one]; try rfl) rfl) ?_
 refine pA ?_
 refine fs ?_
 refine AWp.seq' ?_
 refine sr (N' := 192) rfl ?_
 iterate 2 refine pA ?_
 refine fs ?_
 refine AWp.condM hm Z1 (fun _ hm => ?_) (fun _ hm => ?_)
 ·
  refine sr (N' := 256) rfl ?_
  iterate 4 refine pA ?_
  refine fs ?_
  refine AWp.ret ?_
  refine bB ?_
  cases hm
  exact aHg (.inr rfl) Tryz.results83 (td Z1 (bF.sl _ _ _)) (td Z1 (.v _)) (td Z1 (.v _))
 ·
  refine AWp.skip ?_
  refine aF ?_
  refine AWp.seq' ?_
  refine sr (N' := 256) rfl ?_
  refine pu rfl (aD Z1 Z3 Z2) ?_
  refine pA ?_
  obtain ⟨⟨r5, r6⟩, h4, hm⟩ := bnd hm
  refine aE.callQ (r := .tup [.v (.int .i64 r5), .v (.bool r6)]) Zd Z1 aWr (fun H => (cD (.agg _ (cX.dat _)) (cV .nil))) (yT h4) ?_
  iterate 5 refine pA ?_
  refine fs ?_
  refine sr (N' := 320) rfl ?_
  refine pA ?_
  refine fs ?_
  refine AWp.condM hm Z1 (fun _ hm => ?_) (fun _ hm => ?_)
  ·
   refine sr (N' := 384) rfl ?_
   iterate 4 refine pA ?_
   refine fs ?_
   refine AWp.ret ?_
   refine bB ?_
   cases hm
   exact aHg (.inr rfl) Tryz.results83 (td Z1 (bF.sl _ _ _)) (td Z1 (.v _)) (td Z1 (.v _))
  ·
   refine AWp.skip ?_
   refine aF ?_
   refine sr (N' := 384) rfl ?_
   refine pA ?_
   obtain ⟨r8, h7, hm⟩ := bnd hm
   refine aE.callQ (r := .v (.int .i64 r8)) Zd Z1 bBh (fun H => (cD (bF.sl _ _ _) (cD (aMo aAq) .nil))) (wR h7 aAq bDg (fun h => aIk h)) ?_
   refine pA ?_
   refine fs ?_
   refine AWp.seq' ?_
   refine sr (N' := 448) rfl ?_
   iterate 2 refine pA ?_
   refine fs ?_
   refine AWp.condM hm Z1 (fun _ hm => ?_) (fun _ hm => ?_)
   ·
    refine sr (N' := 512) rfl ?_
    iterate 4 refine pA ?_
    refine fs ?_
    refine AWp.ret ?_
    refine bB ?_
    cases hm
    exact aHg (.inr rfl) Tryz.results83 (td Z1 (bF.sl _ _ _)) (td Z1 (.v _)) (td Z1 (.v _))
   ·
    refine AWp.skip ?_
    refine aF ?_
    refine sr (N' := 512) rfl ?_
    refine pA ?_
    obtain ⟨r10, h9, hm⟩ := bnd hm
    refine aE.callF (id := 449) Zd Z1 aZ7 (fun H => (cD (bF.sl _ _ _) .nil)) bF Z5 (tE h9) ?_
    refine pA ?_
    refine fs ?_
    refine sr (N' := 576) rfl ?_
    iterate 3 refine pA ?_
    refine pu rfl (by simp only [go_sem, Nat.reduceBEq]; exact (by kernel_rfl : dJ Tryz.prog 104 [(0, .v (.bool true)), (1, .v (.int .u64 key_1))] = some (.agg [.v (.bool true), .v (.int .u64 key_1)]))) ?_
    obtain ⟨x12, h11, hm⟩ := bnd hm
    refine pu rfl (dD Tryz.underlying31 mV Z1 Z3 Z6 Z1 h11) ?_
    obtain ⟨l14, h13, hm⟩ := bnd hm
    have qh13 := iC h13
    refine aE.heap0 (id := 517) rfl (mC bF mV Z1 Z1 Z3 rfl h13) ?_
    refine fs ?_
    refine sr (N' := 640) rfl ?_
    iterate 5 refine pA ?_
    refine fs ?_
    refine AWp.ret ?_
    cases hm
    exact aHg (.inr rfl) Tryz.results83 (tdo bF Z1 Z3 Z6) (td Z1 (.v _)) (td Z1 (.v _))
def uB (l_0 : List bC) (key_1 : Int) : Option ((List bC) × Int) :=
 ((gV l_0).bind fun ⟨r2, r3⟩ =>
 (bif (!r3) then
  some (l_0, 1)
 else
  ((mM r2 key_1).bind fun ⟨r5, r6⟩ =>
  (bif (!r6) then
   some (l_0, 7)
  else
   ((gU l_0).bind fun r8 =>
   ((idx r8 r5).bind fun x10 =>
   ((stt r8 r5 (bC.mk false 0)).bind fun l12 =>
   some (l12, 0))))))))
theorem aGu {l_0 : List bC} {key_1 : Int} {r : (List bC) × Int} (hm : uB l_0 key_1 = some r) : aT Tryz.prog 84 [.sl (l_0.flatMap aS) l_0.length false, .v (.int .u64 key_1)] (.tup [.sl (r.1.flatMap aS) r.1.length false, .v (.int .i64 r.2)]) := by
 refine aT.of_body Tryz.func84 rfl ?_
 simp only [Tryz.ntmps84, List.length_cons, List.length_nil, Nat.reduceAdd, Nat.reduceSub, aQ]
 unfold uB at hm
 refine sr (N' := 64) rfl ?_
 iterate 2 refine pA ?_
 refine fs ?_
 refine sr (N' := 128) rfl ?_
 refine pA ?_
 obtain ⟨⟨r2, r3⟩, h1, hm⟩ := bnd hm
 refine aE.callQ (r := .tup [.agg [aA.av r2.s], .v (.bool r3)]) Zd Z1 aX0 (fun H => (cD (bF.sl _ _ _) .nil)) (qG h1) ?_
 iterate 3 refine pA ?_
 refine hp (id := 69) rfl rfl (aY aDk Z5) ?_
 refine aE.heap0 (id := 70) rfl (bG (ys := [aA.av r2.s]) yH Z1 Z1 Z3 rfl (Nat.le_of_ble_eq_true rfl) (by simp only [List.all_cons, List.all_nil, Bool.and_true, aA.one]; try rfl) rfl) ?_
 refine pA ?_
 refine fs ?_
 refine AWp.seq' ?_
 refine sr (N' := 192) rfl ?_
 iterate 2 refine pA ?_
 refine fs ?_
 refine AWp.condM hm Z1 (fun _ hm => ?_) (fun _ hm => ?_)
 ·
  refine sr (N' := 256) rfl ?_
  iterate 3 refine pA ?_
  refine fs ?_
  refine AWp.ret ?_
  refine bB ?_
  cases hm
  exact fE (.inr rfl) Tryz.results84 (td Z1 (bF.sl _ _ _)) (td Z1 (.v _))
 ·
  refine AWp.skip ?_
  refine aF ?_
  refine sr (N' := 256) rfl ?_
  refine pu rfl (aD Z1 Z3 Z2) ?_
  refine pA ?_
  obtain ⟨⟨r5, r6⟩, h4, hm⟩ := bnd hm
  refine aE.callQ (r := .tup [.v (.int .i64 r5), .v (.bool r6)]) Zd Z1 aWr (fun H => (cD (.agg _ (cX.dat _)) (cV .nil))) (yT h4) ?_
  iterate 5 refine pA ?_
  refine fs ?_
  refine AWp.seq' ?_
  refine sr (N' := 320) rfl ?_
  iterate 2 refine pA ?_
  refine fs ?_
  refine AWp.condM hm Z1 (fun _ hm => ?_) (fun _ hm => ?_)
  ·
   refine sr (N' := 384) rfl ?_
   iterate 3 refine pA ?_
   refine fs ?_
   refine AWp.ret ?_
   refine bB ?_
   cases hm
   exact fE (.inr rfl) Tryz.results84 (td Z1 (bF.sl _ _ _)) (td Z1 (.v _))
  ·
   refine AWp.skip ?_
   refine aF ?_
   refine sr (N' := 384) rfl ?_
   refine pA ?_
   obtain ⟨r8, h7, hm⟩ := bnd hm
   refine aE.callF (id := 321) Zd Z1 aZ7 (fun H => (cD (bF.sl _ _ _) .nil)) bF Z5 (tE h7) ?_
   refine pA ?_
   refine fs ?_
   refine sr (N' := 448) rfl ?_
   iterate 2 refine pA ?_
   refine pu rfl (by simp only [go_sem, Nat.reduceBEq]; exact (by kernel_rfl : dJ Tryz.prog 104 [] = some (.agg [.v (.bool false), .v (.int .u64 0)]))) ?_
   obtain ⟨x10, h9, hm⟩ := bnd hm
   refine pu rfl (dD Tryz.underlying31 mV Z1 Z3 Z6 Z1 h9) ?_
   obtain ⟨l12, h11, hm⟩ := bnd hm
   have qh11 := iC h11
   refine aE.heap0 (id := 388) rfl (mC bF mV Z1 Z1 Z3 rfl h11) ?_
   refine fs ?_
   refine sr (N' := 512) rfl ?_
   iterate 3 refine pA ?_
   refine fs ?_
   refine AWp.ret ?_
   cases hm
   exact fE (.inr rfl) Tryz.results84 (tdo bF Z1 Z3 Z6) (td Z1 (.v _))
def gH (s_4 : aI) (t8 : aI) (err_10 : Int) : Option (aI × Int) :=
 some (s_4, err_10)
def tS (s_0 : aI) (c_1 : cY) (u_2 : Int) (v_3 : Int) : Option (aI × Int) :=
 (bif (c_1.Do == 1) then
  ((aAo s_0.Slots c_1.A).bind fun ⟨r2, r3, r4⟩ =>
  gH (aI.mk s_0.Graph r2) (aI.mk (aJ.mk (aZ.mk 0 0 0) [] []) []) r4)
 else
  (bif (c_1.Do == 2) then
   ((oM s_0 u_2).bind fun r6 =>
   (bif (decide (0 < r6)) then
    some (s_0, 11)
   else
    ((uB s_0.Slots c_1.A).bind fun ⟨r8, r9⟩ =>
    gH (aI.mk s_0.Graph r8) (aI.mk (aJ.mk (aZ.mk 0 0 0) [] []) []) r9)))
  else
   (bif (c_1.Do == 3) then
    ((tU s_0.Graph u_2 v_3).bind fun ⟨r11, r12⟩ =>
    gH (aI.mk r11 s_0.Slots) (aI.mk (aJ.mk (aZ.mk 0 0 0) [] []) []) r12)
   else
    (bif (c_1.Do == 4) then
     (bif (u_2 == v_3) then
      some (s_0, 9)
     else
      ((tW s_0.Graph u_2 v_3).bind fun ⟨r14, r15⟩ =>
      gH (aI.mk r14 s_0.Slots) (aI.mk (aJ.mk (aZ.mk 0 0 0) [] []) []) r15))
    else
     (bif (c_1.Do == 15) then
      none
     else
      gH s_0 (aI.mk (aJ.mk (aZ.mk 0 0 0) [] []) []) 0)))))
theorem aGw {s_0 : aI} {c_1 : cY} {u_2 : Int} {v_3 : Int} {r : aI × Int} (hm : tS s_0 c_1 u_2 v_3 = some r) : aT Tryz.prog 43 [.agg [.v (.int .i64 s_0.Graph.Config.N), .v (.int .i64 s_0.Graph.Config.L), .v (.int .i64 s_0.Graph.Config.R), .sl (s_0.Graph.Hashes.flatMap bA) s_0.Graph.Hashes.length false, .sl (s_0.Graph.Edges.flatMap aL) s_0.Graph.Edges.length false, .sl (s_0.Slots.flatMap aS) s_0.Slots.length false], .agg [.v (.int .i64 c_1.Do), .v (.int .u64 c_1.A), .v (.int .u64 c_1.B), .v (.string c_1.Text)], .v (.int .i64 u_2), .v (.int .i64 v_3)] (.tup [.agg [.v (.int .i64 r.1.Graph.Config.N), .v (.int .i64 r.1.Graph.Config.L), .v (.int .i64 r.1.Graph.Config.R), .sl (r.1.Graph.Hashes.flatMap bA) r.1.Graph.Hashes.length false, .sl (r.1.Graph.Edges.flatMap aL) r.1.Graph.Edges.length false, .sl (r.1.Slots.flatMap aS) r.1.Slots.length false], .v (.int .i64 r.2)]) := by
 refine aT.of_body Tryz.func43 rfl ?_
 simp only [Tryz.ntmps43, List.length_cons, List.length_nil, Nat.reduceAdd, Nat.reduceSub, aQ]
 unfold tS at hm
 refine sr (N' := 64) rfl ?_
 refine hp (id := 0) rfl rfl (bO Z1 Z5) ?_
 refine hp (id := 1) rfl rfl (bO Z1 Z5) ?_
 refine hp (id := 2) rfl rfl (aY aH7 Z5) ?_
 refine pA ?_
 refine fs ?_
 refine sr (N' := 128) rfl ?_
 refine pA ?_
 refine fs ?_
 refine AWp.seqJ (fun s => ∃ (s_4 : aI) (t8 : aI) (err_10 : Int), s = (⟨76, (aK (aK (aK (fun _ => AV.any) 4 (.adr 1 0)) 8 (.adr 2 0)) 10 (.v (.int .i64 err_10))), ⟨(upd (upd bL 1 (.cells 1 [.v (.int .i64 s_4.Graph.Config.N), .v (.int .i64 s_4.Graph.Config.L), .v (.int .i64 s_4.Graph.Config.R), .sl (s_4.Graph.Hashes.flatMap bA) s_4.Graph.Hashes.length false, .sl (s_4.Graph.Edges.flatMap aL) s_4.Graph.Edges.length false, .sl (s_4.Slots.flatMap aS) s_4.Slots.length false] 0)) 2 (.cells 1 [.v (.int .i64 t8.Graph.Config.N), .v (.int .i64 t8.Graph.Config.L), .v (.int .i64 t8.Graph.Config.R), .sl (t8.Graph.Hashes.flatMap bA) t8.Graph.Hashes.length false, .sl (t8.Graph.Edges.flatMap aL) t8.Graph.Edges.length false, .sl (t8.Slots.flatMap aS) t8.Slots.length false] 0)), 64⟩⟩ : St) ∧ gH s_4 t8 err_10 = some r) ?_ ?_
 ·
  refine sr (N' := 192) rfl ?_
  refine pA ?_
  refine pu rfl (aD Z1 Z3 Z4) ?_
  refine fs ?_
  refine AWp.block ?_
  refine sr (N' := 256) rfl ?_
  iterate 2 refine pA ?_
  refine fs ?_
  refine AWp.condM hm Z1 (fun _ hm => ?_) (fun _ hm => ?_)
  ·
   refine AWp.reg 64 (N' := 320) rfl ?_
   refine pA ?_
   refine pu rfl (aD Z1 Z3 Z4) ?_
   refine pA ?_
   refine pu rfl (aD Z1 Z3 Z4) ?_
   obtain ⟨⟨r2, r3, r4⟩, h1, hm⟩ := bnd hm
   refine aE.callQ (r := .tup [.sl (r2.flatMap aS) r2.length false, .v (.int .i64 r3), .v (.int .i64 r4)]) Zd Z1 bJe (fun H => (cD (bF.sl _ _ _) (cV .nil))) (aNe h1) ?_
   iterate 5 refine pA ?_
   refine aE.heap0 (id := 266) rfl (bG (ys := [.v (.int .i64 s_0.Graph.Config.N), .v (.int .i64 s_0.Graph.Config.L), .v (.int .i64 s_0.Graph.Config.R), .sl (s_0.Graph.Hashes.flatMap bA) s_0.Graph.Hashes.length false, .sl (s_0.Graph.Edges.flatMap aL) s_0.Graph.Edges.length false, .sl (r2.flatMap aS) r2.length false]) aZz Z1 Z1 Z3 rfl (Nat.le_of_ble_eq_true rfl) Z9 rfl) ?_
   refine pA ?_
   refine aE.fin ?_
   refine cA ?_
   refine dY ?_
   refine ⟨_, ?_, (aI.mk s_0.Graph r2), (aI.mk (aJ.mk (aZ.mk 0 0 0) [] []) []), r4, rfl, hm⟩
   refine St.Le.trans (gP 2 (ys := [.v (.int .i64 ((((aI.mk (aJ.mk (aZ.mk 0 0 0) [] []) []).Graph).Config).N)), .v (.int .i64 ((((aI.mk (aJ.mk (aZ.mk 0 0 0) [] []) []).Graph).Config).L)), .v (.int .i64 ((((aI.mk (aJ.mk (aZ.mk 0 0 0) [] []) []).Graph).Config).R)), .sl ((((aI.mk (aJ.mk (aZ.mk 0 0 0) [] []) []).Graph).Hashes).flatMap bA) (((aI.mk (aJ.mk (aZ.mk 0 0 0) [] []) []).Graph).Hashes).length false, .sl ((((aI.mk (aJ.mk (aZ.mk 0 0 0) [] []) []).Graph).Edges).flatMap aL) (((aI.mk (aJ.mk (aZ.mk 0 0 0) [] []) []).Graph).Edges).length false, .sl (((aI.mk (aJ.mk (aZ.mk 0 0 0) [] []) []).Slots).flatMap aS) ((aI.mk (aJ.mk (aZ.mk 0 0 0) [] []) []).Slots).length false]) Z3 (.cons (.data _ (.v _)) (.cons (.data _ (.v _)) (.cons (.data _ (.v _)) (.cons (.nil false) (.cons (.nil false) (.cons (.nil false) .nil))))))) ?_
   exact aN (fun j => bif j == 1 then 0 else bif j == 2 then 2 else 0) (wV (aX _ _ (bQ Z1 rfl Z7) (aX _ _ (bQ Z1 rfl Z7) aU))) (cL _ (aV (aO Z3 (Nat.le_refl _) (Nat.zero_le _) (bE.dat (aI.mk (aJ.mk (aZ.mk 0 0 0) [] []) []))) (aV (aO Z3 (Nat.le_refl _) (Nat.zero_le _) (bE.dat (aI.mk s_0.Graph r2))) aR)) Z8)
  ·
   refine sr (N' := 320) rfl ?_
   iterate 2 refine pA ?_
   refine fs ?_
   refine AWp.condM hm Z1 (fun _ hm => ?_) (fun _ hm => ?_)
   ·
    refine AWp.seq' ?_
    refine sr (N' := 384) rfl ?_
    refine pu rfl (aD Z1 Z3 Z2) ?_
    refine pA ?_
    obtain ⟨r6, h5, hm⟩ := bnd hm
    refine aE.callQ (r := .v (.int .i64 r6)) Zd Z1 bDh (fun H => (cD (.agg _ (bE.dat _)) (cV .nil))) (zV h5) ?_
    refine pA ?_
    refine fs ?_
    refine AWp.condM hm Z1 (fun _ hm => ?_) (fun _ hm => ?_)
    ·
     refine sr (N' := 448) rfl ?_
     refine pu rfl (aD Z1 Z3 Z2) ?_
     refine aE.heap0 (id := 385) rfl (bG (ys := [.v (.int .i64 s_0.Graph.Config.N), .v (.int .i64 s_0.Graph.Config.L), .v (.int .i64 s_0.Graph.Config.R), .sl (s_0.Graph.Hashes.flatMap bA) s_0.Graph.Hashes.length false, .sl (s_0.Graph.Edges.flatMap aL) s_0.Graph.Edges.length false, .sl (s_0.Slots.flatMap aS) s_0.Slots.length false]) qV Z1 Z1 Z3 rfl (Nat.le_of_ble_eq_true rfl) Z9 rfl) ?_
     refine pA ?_
     refine fs ?_
     refine AWp.ret ?_
     refine bB ?_
     refine dB ?_
     refine aT9 ?_
     cases hm
     exact fK (.inr rfl) (by rw [Tryz.results43]) (.cell (cG Z1 Z3 Z2) (.tmp Z1 .nil)) rfl (tdt (.cons (td rfl (.agg _ (bE.dat _))) (.cons (td rfl (.v _)) .nil)))
    ·
     refine AWp.skip ?_
     refine aF ?_
     refine AWp.reg 64 (N' := 448) rfl ?_
     refine pA ?_
     refine pu rfl (aD Z1 Z3 Z4) ?_
     refine pA ?_
     refine pu rfl (aD Z1 Z3 Z4) ?_
     obtain ⟨⟨r8, r9⟩, h7, hm⟩ := bnd hm
     refine aE.callQ (r := .tup [.sl (r8.flatMap aS) r8.length false, .v (.int .i64 r9)]) Zd Z1 bJg (fun H => (cD (bF.sl _ _ _) (cV .nil))) (aGu h7) ?_
     iterate 4 refine pA ?_
     refine aE.heap0 (id := 393) rfl (bG (ys := [.v (.int .i64 s_0.Graph.Config.N), .v (.int .i64 s_0.Graph.Config.L), .v (.int .i64 s_0.Graph.Config.R), .sl (s_0.Graph.Hashes.flatMap bA) s_0.Graph.Hashes.length false, .sl (s_0.Graph.Edges.flatMap aL) s_0.Graph.Edges.length false, .sl (r8.flatMap aS) r8.length false]) aZz Z1 Z1 Z3 rfl (Nat.le_of_ble_eq_true rfl) Z9 rfl) ?_
     refine pA ?_
     refine aE.fin ?_
     refine cA ?_
     refine dY ?_
     refine ⟨_, ?_, (aI.mk s_0.Graph r8), (aI.mk (aJ.mk (aZ.mk 0 0 0) [] []) []), r9, rfl, hm⟩
     refine St.Le.trans (gP 2 (ys := [.v (.int .i64 ((((aI.mk (aJ.mk (aZ.mk 0 0 0) [] []) []).Graph).Config).N)), .v (.int .i64 ((((aI.mk (aJ.mk (aZ.mk 0 0 0) [] []) []).Graph).Config).L)), .v (.int .i64 ((((aI.mk (aJ.mk (aZ.mk 0 0 0) [] []) []).Graph).Config).R)), .sl ((((aI.mk (aJ.mk (aZ.mk 0 0 0) [] []) []).Graph).Hashes).flatMap bA) (((aI.mk (aJ.mk (aZ.mk 0 0 0) [] []) []).Graph).Hashes).length false, .sl ((((aI.mk (aJ.mk (aZ.mk 0 0 0) [] []) []).Graph).Edges).flatMap aL) (((aI.mk (aJ.mk (aZ.mk 0 0 0) [] []) []).Graph).Edges).length false, .sl (((aI.mk (aJ.mk (aZ.mk 0 0 0) [] []) []).Slots).flatMap aS) ((aI.mk (aJ.mk (aZ.mk 0 0 0) [] []) []).Slots).length false]) Z3 (.cons (.data _ (.v _)) (.cons (.data _ (.v _)) (.cons (.data _ (.v _)) (.cons (.nil false) (.cons (.nil false) (.cons (.nil false) .nil))))))) ?_
     exact aN (fun j => bif j == 1 then 0 else bif j == 2 then 2 else 0) (wV (aX _ _ (bQ Z1 rfl Z7) (aX _ _ (bQ Z1 rfl Z7) aU))) (cL _ (aV (aO Z3 (Nat.le_refl _) (Nat.zero_le _) (bE.dat (aI.mk (aJ.mk (aZ.mk 0 0 0) [] []) []))) (aV (aO Z3 (Nat.le_refl _) (Nat.zero_le _) (bE.dat (aI.mk s_0.Graph r8))) aR)) Z8)
   ·
    refine sr (N' := 384) rfl ?_
    iterate 2 refine pA ?_
    refine fs ?_
    refine AWp.condM hm Z1 (fun _ hm => ?_) (fun _ hm => ?_)
    ·
     refine AWp.reg 64 (N' := 448) rfl ?_
     refine pA ?_
     refine pu rfl (aD Z1 Z3 Z4) ?_
     iterate 2 refine pA ?_
     obtain ⟨⟨r11, r12⟩, h10, hm⟩ := bnd hm
     refine aE.callQ (r := .tup [.agg [.v (.int .i64 r11.Config.N), .v (.int .i64 r11.Config.L), .v (.int .i64 r11.Config.R), .sl (r11.Hashes.flatMap bA) r11.Hashes.length false, .sl (r11.Edges.flatMap aL) r11.Edges.length false], .v (.int .i64 r12)]) Zd Z1 bLz (fun H => (cD (.agg _ (cB.dat _)) (cV (cV .nil)))) (aGs h10) ?_
     iterate 4 refine pA ?_
     refine aE.heap0 (id := 393) rfl (bG (ys := [.v (.int .i64 r11.Config.N), .v (.int .i64 r11.Config.L), .v (.int .i64 r11.Config.R), .sl (r11.Hashes.flatMap bA) r11.Hashes.length false, .sl (r11.Edges.flatMap aL) r11.Edges.length false, .sl (s_0.Slots.flatMap aS) s_0.Slots.length false]) wH Z1 Z1 Z3 rfl (Nat.le_of_ble_eq_true rfl) Z9 rfl) ?_
     refine pA ?_
     refine aE.fin ?_
     refine cA ?_
     refine dY ?_
     refine ⟨_, ?_, (aI.mk r11 s_0.Slots), (aI.mk (aJ.mk (aZ.mk 0 0 0) [] []) []), r12, rfl, hm⟩
     refine St.Le.trans (gP 2 (ys := [.v (.int .i64 ((((aI.mk (aJ.mk (aZ.mk 0 0 0) [] []) []).Graph).Config).N)), .v (.int .i64 ((((aI.mk (aJ.mk (aZ.mk 0 0 0) [] []) []).Graph).Config).L)), .v (.int .i64 ((((aI.mk (aJ.mk (aZ.mk 0 0 0) [] []) []).Graph).Config).R)), .sl ((((aI.mk (aJ.mk (aZ.mk 0 0 0) [] []) []).Graph).Hashes).flatMap bA) (((aI.mk (aJ.mk (aZ.mk 0 0 0) [] []) []).Graph).Hashes).length false, .sl ((((aI.mk (aJ.mk (aZ.mk 0 0 0) [] []) []).Graph).Edges).flatMap aL) (((aI.mk (aJ.mk (aZ.mk 0 0 0) [] []) []).Graph).Edges).length false, .sl (((aI.mk (aJ.mk (aZ.mk 0 0 0) [] []) []).Slots).flatMap aS) ((aI.mk (aJ.mk (aZ.mk 0 0 0) [] []) []).Slots).length false]) Z3 (.cons (.data _ (.v _)) (.cons (.data _ (.v _)) (.cons (.data _ (.v _)) (.cons (.nil false) (.cons (.nil false) (.cons (.nil false) .nil))))))) ?_
     exact aN (fun j => bif j == 1 then 0 else bif j == 2 then 2 else 0) (wV (aX _ _ (bQ Z1 rfl Z7) (aX _ _ (bQ Z1 rfl Z7) aU))) (cL _ (aV (aO Z3 (Nat.le_refl _) (Nat.zero_le _) (bE.dat (aI.mk (aJ.mk (aZ.mk 0 0 0) [] []) []))) (aV (aO Z3 (Nat.le_refl _) (Nat.zero_le _) (bE.dat (aI.mk r11 s_0.Slots))) aR)) Z8)
    ·
     refine sr (N' := 448) rfl ?_
     iterate 2 refine pA ?_
     refine fs ?_
     refine AWp.condM hm Z1 (fun _ hm => ?_) (fun _ hm => ?_)
     ·
      refine AWp.seq' ?_
      refine sr (N' := 512) rfl ?_
      iterate 3 refine pA ?_
      refine fs ?_
      refine AWp.condM hm Z1 (fun _ hm => ?_) (fun _ hm => ?_)
      ·
       refine sr (N' := 576) rfl ?_
       refine pu rfl (aD Z1 Z3 Z2) ?_
       refine aE.heap0 (id := 513) rfl (bG (ys := [.v (.int .i64 s_0.Graph.Config.N), .v (.int .i64 s_0.Graph.Config.L), .v (.int .i64 s_0.Graph.Config.R), .sl (s_0.Graph.Hashes.flatMap bA) s_0.Graph.Hashes.length false, .sl (s_0.Graph.Edges.flatMap aL) s_0.Graph.Edges.length false, .sl (s_0.Slots.flatMap aS) s_0.Slots.length false]) qV Z1 Z1 Z3 rfl (Nat.le_of_ble_eq_true rfl) Z9 rfl) ?_
       refine pA ?_
       refine fs ?_
       refine AWp.ret ?_
       refine bB ?_
       refine dB ?_
       refine aT9 ?_
       cases hm
       exact fK (.inr rfl) (by rw [Tryz.results43]) (.cell (cG Z1 Z3 Z2) (.tmp Z1 .nil)) rfl (tdt (.cons (td rfl (.agg _ (bE.dat _))) (.cons (td rfl (.v _)) .nil)))
      ·
       refine AWp.skip ?_
       refine aF ?_
       refine AWp.reg 64 (N' := 576) rfl ?_
       refine pA ?_
       refine pu rfl (aD Z1 Z3 Z4) ?_
       iterate 2 refine pA ?_
       obtain ⟨⟨r14, r15⟩, h13, hm⟩ := bnd hm
       refine aE.callQ (r := .tup [.agg [.v (.int .i64 r14.Config.N), .v (.int .i64 r14.Config.L), .v (.int .i64 r14.Config.R), .sl (r14.Hashes.flatMap bA) r14.Hashes.length false, .sl (r14.Edges.flatMap aL) r14.Edges.length false], .v (.int .i64 r15)]) Zd Z1 bIz (fun H => (cD (.agg _ (cB.dat _)) (cV (cV .nil)))) (aGm h13) ?_
       iterate 4 refine pA ?_
       refine aE.heap0 (id := 521) rfl (bG (ys := [.v (.int .i64 r14.Config.N), .v (.int .i64 r14.Config.L), .v (.int .i64 r14.Config.R), .sl (r14.Hashes.flatMap bA) r14.Hashes.length false, .sl (r14.Edges.flatMap aL) r14.Edges.length false, .sl (s_0.Slots.flatMap aS) s_0.Slots.length false]) wH Z1 Z1 Z3 rfl (Nat.le_of_ble_eq_true rfl) Z9 rfl) ?_
       refine pA ?_
       refine aE.fin ?_
       refine cA ?_
       refine dY ?_
       refine ⟨_, ?_, (aI.mk r14 s_0.Slots), (aI.mk (aJ.mk (aZ.mk 0 0 0) [] []) []), r15, rfl, hm⟩
       refine St.Le.trans (gP 2 (ys := [.v (.int .i64 ((((aI.mk (aJ.mk (aZ.mk 0 0 0) [] []) []).Graph).Config).N)), .v (.int .i64 ((((aI.mk (aJ.mk (aZ.mk 0 0 0) [] []) []).Graph).Config).L)), .v (.int .i64 ((((aI.mk (aJ.mk (aZ.mk 0 0 0) [] []) []).Graph).Config).R)), .sl ((((aI.mk (aJ.mk (aZ.mk 0 0 0) [] []) []).Graph).Hashes).flatMap bA) (((aI.mk (aJ.mk (aZ.mk 0 0 0) [] []) []).Graph).Hashes).length false, .sl ((((aI.mk (aJ.mk (aZ.mk 0 0 0) [] []) []).Graph).Edges).flatMap aL) (((aI.mk (aJ.mk (aZ.mk 0 0 0) [] []) []).Graph).Edges).length false, .sl (((aI.mk (aJ.mk (aZ.mk 0 0 0) [] []) []).Slots).flatMap aS) ((aI.mk (aJ.mk (aZ.mk 0 0 0) [] []) []).Slots).length false]) Z3 (.cons (.data _ (.v _)) (.cons (.data _ (.v _)) (.cons (.data _ (.v _)) (.cons (.nil false) (.cons (.nil false) (.cons (.nil false) .nil))))))) ?_
       exact aN (fun j => bif j == 1 then 0 else bif j == 2 then 2 else 0) (wV (aX _ _ (bQ Z1 rfl Z7) (aX _ _ (bQ Z1 rfl Z7) aU))) (cL _ (aV (aO Z3 (Nat.le_refl _) (Nat.zero_le _) (bE.dat (aI.mk (aJ.mk (aZ.mk 0 0 0) [] []) []))) (aV (aO Z3 (Nat.le_refl _) (Nat.zero_le _) (bE.dat (aI.mk r14 s_0.Slots))) aR)) Z8)
     ·
      refine sr (N' := 512) rfl ?_
      iterate 2 refine pA ?_
      refine fs ?_
      refine AWp.condM hm Z1 (fun _ hm => ?_) (fun _ hm => ?_)
      ·
       cases hm
      ·
       refine AWp.skip ?_
       refine cA ?_
       refine dY ?_
       refine ⟨_, ?_, s_0, (aI.mk (aJ.mk (aZ.mk 0 0 0) [] []) []), 0, rfl, hm⟩
       refine St.Le.trans (gP 2 (ys := [.v (.int .i64 ((((aI.mk (aJ.mk (aZ.mk 0 0 0) [] []) []).Graph).Config).N)), .v (.int .i64 ((((aI.mk (aJ.mk (aZ.mk 0 0 0) [] []) []).Graph).Config).L)), .v (.int .i64 ((((aI.mk (aJ.mk (aZ.mk 0 0 0) [] []) []).Graph).Config).R)), .sl ((((aI.mk (aJ.mk (aZ.mk 0 0 0) [] []) []).Graph).Hashes).flatMap bA) (((aI.mk (aJ.mk (aZ.mk 0 0 0) [] []) []).Graph).Hashes).length false, .sl ((((aI.mk (aJ.mk (aZ.mk 0 0 0) [] []) []).Graph).Edges).flatMap aL) (((aI.mk (aJ.mk (aZ.mk 0 0 0) [] []) []).Graph).Edges).length false, .sl (((aI.mk (aJ.mk (aZ.mk 0 0 0) [] []) []).Slots).flatMap aS) ((aI.mk (aJ.mk (aZ.mk 0 0 0) [] []) []).Slots).length false]) Z3 (.cons (.data _ (.v _)) (.cons (.data _ (.v _)) (.cons (.data _ (.v _)) (.cons (.nil false) (.cons (.nil false) (.cons (.nil false) .nil))))))) ?_
       exact aN (fun j => bif j == 1 then 0 else bif j == 2 then 2 else 0) (wV (aX _ _ (bQ Z1 rfl Z7) (aX _ _ (bQ Z1 rfl Z7) aU))) (cL _ (aV (aO Z3 (Nat.le_refl _) (Nat.zero_le _) (bE.dat (aI.mk (aJ.mk (aZ.mk 0 0 0) [] []) []))) (aV (aO Z3 (Nat.le_refl _) (Nat.zero_le _) (bE.dat s_0)) aR)) Z8)
 ·
  rintro s ⟨s_4, t8, err_10, rfl, hm⟩
  unfold gH at hm
  refine sr (N' := 128) rfl ?_
  refine pu rfl (aD Z1 Z3 Z2) ?_
  refine pA ?_
  refine aE.heap0 (id := 66) rfl (bG (ys := [.v (.int .i64 s_4.Graph.Config.N), .v (.int .i64 s_4.Graph.Config.L), .v (.int .i64 s_4.Graph.Config.R), .sl (s_4.Graph.Hashes.flatMap bA) s_4.Graph.Hashes.length false, .sl (s_4.Graph.Edges.flatMap aL) s_4.Graph.Edges.length false, .sl (s_4.Slots.flatMap aS) s_4.Slots.length false]) qV Z1 Z1 Z3 rfl (Nat.le_of_ble_eq_true rfl) Z9 rfl) ?_
  refine pA ?_
  refine fs ?_
  refine AWp.ret ?_
  cases hm
  exact fK (.inr rfl) (by rw [Tryz.results43]) (.cell (cG Z1 Z3 Z2) (.tmp Z1 .nil)) rfl (tdt (.cons (td rfl (.agg _ (bE.dat _))) (.cons (td rfl (.v _)) .nil)))
def kU (s_0 : aI) (c_1 : cY) : Option (aI × GA) :=
 ((fA (((decide (c_1.Do < 1)) || (decide (15 < c_1.Do))) == false) false (mJ s_0)).bind fun r2 =>
 (bif (((decide (c_1.Do < 1)) || (decide (15 < c_1.Do))) || (!r2)) then
  some (s_0, (GA.i 36 .i64 1))
 else
  ((sX s_0.Slots c_1.A).bind fun ⟨r4, r5⟩ =>
  ((sX s_0.Slots c_1.B).bind fun ⟨r7, r8⟩ =>
  ((vS c_1.Do).bind fun r10 =>
  ((fA ((r10 && (!r5)) == false) false (wL c_1.Do)).bind fun r12 =>
  (bif ((r10 && (!r5)) || (r12 && (!r8))) then
   some (s_0, (GA.i 36 .i64 7))
  else
   (bif ((decide (4 < c_1.Do)) && (c_1.Do != 15)) then
    ((uG s_0 c_1.Do r4 r7).bind fun r14 =>
    some (s_0, r14))
   else
    ((tS s_0 c_1 r4 r7).bind fun ⟨r16, r17⟩ =>
    (bif (r17 != 0) then
     some (s_0, (GA.i 36 .i64 r17))
    else
     some (r16, (GA.i 36 .i64 0))))))))))))
theorem oF {s_0 : aI} {c_1 : cY} {r : aI × GA} (hm : kU s_0 c_1 = some r) : aT Tryz.prog 15 [.agg [.v (.int .i64 s_0.Graph.Config.N), .v (.int .i64 s_0.Graph.Config.L), .v (.int .i64 s_0.Graph.Config.R), .sl (s_0.Graph.Hashes.flatMap bA) s_0.Graph.Hashes.length false, .sl (s_0.Graph.Edges.flatMap aL) s_0.Graph.Edges.length false, .sl (s_0.Slots.flatMap aS) s_0.Slots.length false], .agg [.v (.int .i64 c_1.Do), .v (.int .u64 c_1.A), .v (.int .u64 c_1.B), .v (.string c_1.Text)]] (.tup [.agg [.v (.int .i64 r.1.Graph.Config.N), .v (.int .i64 r.1.Graph.Config.L), .v (.int .i64 r.1.Graph.Config.R), .sl (r.1.Graph.Hashes.flatMap bA) r.1.Graph.Hashes.length false, .sl (r.1.Graph.Edges.flatMap aL) r.1.Graph.Edges.length false, .sl (r.1.Slots.flatMap aS) r.1.Slots.length false], GA.av r.2]) := by
 refine aT.of_body Tryz.func15 rfl ?_
 simp only [Tryz.ntmps15, List.length_cons, List.length_nil, Nat.reduceAdd, Nat.reduceSub, aQ]
 unfold kU at hm
 refine sr (N' := 64) rfl ?_
 refine hp (id := 0) rfl rfl (bO Z1 Z5) ?_
 refine hp (id := 1) rfl rfl (bO Z1 Z5) ?_
 refine hp (id := 2) rfl rfl (aY aH7 Z5) ?_
 refine pA ?_
 refine fs ?_
 refine AWp.seq' ?_
 refine sr (N' := 128) rfl ?_
 refine pA ?_
 refine pu rfl (aD Z1 Z3 Z4) ?_
 iterate 3 first | refine pA ?_ | refine pB ?_
 refine pg rfl rfl Z2 (fun hb => (aD (Zh hb) Z3 Z4)) ?_
 iterate 3 first | refine pA ?_ | refine pB ?_
 refine pg rfl rfl Z2 (fun hb => (aD (Zh hb) Z3 Z2)) ?_
 obtain ⟨r2, h1, hm⟩ := bnd hm
 refine aE.callQG (r := .v (.bool r2)) Zd rfl Z2 Z1 bD8 (fun hb H => (.cons (td (Zh hb) (.agg _ (bE.dat _))) .nil)) (fun hb => aE1 (dA h1 hb)) ?_
 iterate 2 first | refine pA ?_ | refine pB ?_
 refine fs ?_
 refine AWp.condM hm Z1 (fun _ hm => ?_) (fun _ hm => ?_)
 ·
  refine sr (N' := 192) rfl ?_
  refine pu rfl (aD Z1 Z3 Z2) ?_
  refine pA ?_
  refine aE.heap0 (id := 130) rfl (bG (ys := [.v (.int .i64 s_0.Graph.Config.N), .v (.int .i64 s_0.Graph.Config.L), .v (.int .i64 s_0.Graph.Config.R), .sl (s_0.Graph.Hashes.flatMap bA) s_0.Graph.Hashes.length false, .sl (s_0.Graph.Edges.flatMap aL) s_0.Graph.Edges.length false, .sl (s_0.Slots.flatMap aS) s_0.Slots.length false]) qV Z1 Z1 Z3 rfl (Nat.le_of_ble_eq_true rfl) Z9 rfl) ?_
  refine pA ?_
  refine fs ?_
  refine AWp.ret ?_
  refine bB ?_
  cases hm
  exact fK (.inr rfl) (by rw [Tryz.results15]) (.cell (cG Z1 Z3 Z2) (.tmp Z1 .nil)) rfl (tdt (.cons (td rfl (.agg _ (bE.dat _))) (.cons (td rfl (GA.data _)) .nil)))
 ·
  refine AWp.skip ?_
  refine aF ?_
  refine sr (N' := 192) rfl ?_
  refine pA ?_
  refine pu rfl (aD Z1 Z3 Z4) ?_
  refine pA ?_
  refine pu rfl (aD Z1 Z3 Z4) ?_
  obtain ⟨⟨r4, r5⟩, h3, hm⟩ := bnd hm
  refine aE.callQ (r := .tup [.v (.int .i64 r4), .v (.bool r5)]) Zd Z1 bBj (fun H => (cD (bF.sl _ _ _) (cV .nil))) (aDv h3) ?_
  iterate 5 refine pA ?_
  refine fs ?_
  refine sr (N' := 256) rfl ?_
  refine pA ?_
  refine pu rfl (aD Z1 Z3 Z4) ?_
  refine pA ?_
  refine pu rfl (aD Z1 Z3 Z4) ?_
  obtain ⟨⟨r7, r8⟩, h6, hm⟩ := bnd hm
  refine aE.callQ (r := .tup [.v (.int .i64 r7), .v (.bool r8)]) Zd Z1 bBj (fun H => (cD (bF.sl _ _ _) (cV .nil))) (aDv h6) ?_
  iterate 5 refine pA ?_
  refine fs ?_
  refine AWp.seq' ?_
  refine sr (N' := 320) rfl ?_
  refine pA ?_
  refine pu rfl (aD Z1 Z3 Z4) ?_
  obtain ⟨r10, h9, hm⟩ := bnd hm
  refine aE.callQ (r := .v (.bool r10)) Zd Z1 bI2 (fun H => (cV .nil)) (aIl h9) ?_
  iterate 6 first | refine pA ?_ | refine pB ?_
  refine pg rfl rfl Z2 (fun hb => (aD (Zh hb) Z3 Z4)) ?_
  obtain ⟨r12, h11, hm⟩ := bnd hm
  refine aE.callQG (r := .v (.bool r12)) Zd rfl Z2 Z1 bIp (fun hb H => (.cons (td (Zh hb) (.v _)) .nil)) (fun hb => aJ6 (dA h11 hb)) ?_
  iterate 5 first | refine pA ?_ | refine pB ?_
  refine fs ?_
  refine AWp.condM hm Z1 (fun _ hm => ?_) (fun _ hm => ?_)
  ·
   refine sr (N' := 384) rfl ?_
   refine pu rfl (aD Z1 Z3 Z2) ?_
   refine pA ?_
   refine aE.heap0 (id := 322) rfl (bG (ys := [.v (.int .i64 s_0.Graph.Config.N), .v (.int .i64 s_0.Graph.Config.L), .v (.int .i64 s_0.Graph.Config.R), .sl (s_0.Graph.Hashes.flatMap bA) s_0.Graph.Hashes.length false, .sl (s_0.Graph.Edges.flatMap aL) s_0.Graph.Edges.length false, .sl (s_0.Slots.flatMap aS) s_0.Slots.length false]) qV Z1 Z1 Z3 rfl (Nat.le_of_ble_eq_true rfl) Z9 rfl) ?_
   refine pA ?_
   refine fs ?_
   refine AWp.ret ?_
   refine bB ?_
   cases hm
   exact fK (.inr rfl) (by rw [Tryz.results15]) (.cell (cG Z1 Z3 Z2) (.tmp Z1 .nil)) rfl (tdt (.cons (td rfl (.agg _ (bE.dat _))) (.cons (td rfl (GA.data _)) .nil)))
  ·
   refine AWp.skip ?_
   refine aF ?_
   refine AWp.seq' ?_
   refine sr (N' := 384) rfl ?_
   refine pA ?_
   refine pu rfl (aD Z1 Z3 Z4) ?_
   iterate 3 first | refine pA ?_ | refine pB ?_
   refine pg rfl rfl Z2 (fun hb => (aD (Zh hb) Z3 Z4)) ?_
   iterate 2 first | refine pA ?_ | refine pB ?_
   refine fs ?_
   refine AWp.condM hm Z1 (fun _ hm => ?_) (fun _ hm => ?_)
   ·
    refine sd mix (by kernel_rfl) (N' := 448) rfl ?_
    refine pu rfl (aD Z1 Z3 Z2) ?_
    refine pu rfl (aD Z1 Z3 Z2) ?_
    refine pA ?_
    refine pu rfl (aD Z1 Z3 Z4) ?_
    iterate 2 refine pA ?_
    obtain ⟨r14, h13, hm⟩ := bnd hm
    refine aE.callQ (r := GA.av r14) Zd Z1 bKc (fun H => (cD (.agg _ (bE.dat _)) (cV (cV (cV .nil))))) (aGj h13) ?_
    refine aE.heap0 (id := 391) rfl (bG (ys := [.v (.int .i64 s_0.Graph.Config.N), .v (.int .i64 s_0.Graph.Config.L), .v (.int .i64 s_0.Graph.Config.R), .sl (s_0.Graph.Hashes.flatMap bA) s_0.Graph.Hashes.length false, .sl (s_0.Graph.Edges.flatMap aL) s_0.Graph.Edges.length false, .sl (s_0.Slots.flatMap aS) s_0.Slots.length false]) qV Z1 Z1 Z3 rfl (Nat.le_of_ble_eq_true rfl) Z9 rfl) ?_
    refine pA ?_
    refine fs ?_
    refine AWp.ret ?_
    refine bB ?_
    cases hm
    exact fK (.inr rfl) (by rw [Tryz.results15]) (.cell (cG Z1 Z3 Z2) (.tmp Z1 .nil)) rfl (tdt (.cons (td rfl (.agg _ (bE.dat _))) (.cons (td rfl (GA.data _)) .nil)))
   ·
    refine AWp.skip ?_
    refine aF ?_
    refine sr (N' := 448) rfl ?_
    refine pu rfl (aD Z1 Z3 Z2) ?_
    refine pu rfl (aD Z1 Z3 Z2) ?_
    iterate 2 refine pA ?_
    obtain ⟨⟨r16, r17⟩, h15, hm⟩ := bnd hm
    refine aE.callQ (r := .tup [.agg [.v (.int .i64 r16.Graph.Config.N), .v (.int .i64 r16.Graph.Config.L), .v (.int .i64 r16.Graph.Config.R), .sl (r16.Graph.Hashes.flatMap bA) r16.Graph.Hashes.length false, .sl (r16.Graph.Edges.flatMap aL) r16.Graph.Edges.length false, .sl (r16.Slots.flatMap aS) r16.Slots.length false], .v (.int .i64 r17)]) Zd Z1 bIu (fun H => (cD (.agg _ (bE.dat _)) (cD (.agg _ (fI.dat _)) (cV (cV .nil))))) (aGw h15) ?_
    iterate 3 refine pA ?_
    refine hp (id := 392) rfl rfl (aY aH7 Z5) ?_
    refine aE.heap0 (id := 393) rfl (bG (ys := [.v (.int .i64 r16.Graph.Config.N), .v (.int .i64 r16.Graph.Config.L), .v (.int .i64 r16.Graph.Config.R), .sl (r16.Graph.Hashes.flatMap bA) r16.Graph.Hashes.length false, .sl (r16.Graph.Edges.flatMap aL) r16.Graph.Edges.length false, .sl (r16.Slots.flatMap aS) r16.Slots.length false]) qV Z1 Z1 Z3 rfl (Nat.le_of_ble_eq_true rfl) Z9 rfl) ?_
    refine pA ?_
    refine fs ?_
    refine AWp.seq' ?_
    refine sr (N' := 512) rfl ?_
    iterate 2 refine pA ?_
    refine fs ?_
    refine AWp.condM hm Z1 (fun _ hm => ?_) (fun _ hm => ?_)
    ·
     refine sr (N' := 576) rfl ?_
     refine pu rfl (aD Z1 Z3 Z2) ?_
     iterate 2 refine pA ?_
     refine aE.heap0 (id := 515) rfl (bG (ys := [.v (.int .i64 s_0.Graph.Config.N), .v (.int .i64 s_0.Graph.Config.L), .v (.int .i64 s_0.Graph.Config.R), .sl (s_0.Graph.Hashes.flatMap bA) s_0.Graph.Hashes.length false, .sl (s_0.Graph.Edges.flatMap aL) s_0.Graph.Edges.length false, .sl (s_0.Slots.flatMap aS) s_0.Slots.length false]) qV Z1 Z1 Z3 rfl (Nat.le_of_ble_eq_true rfl) Z9 rfl) ?_
     refine pA ?_
     refine fs ?_
     refine AWp.ret ?_
     refine bB ?_
     cases hm
     exact fK (.inr rfl) (by rw [Tryz.results15]) (.cell (cG Z1 Z3 Z2) (.tmp Z1 .nil)) rfl (tdt (.cons (td rfl (.agg _ (bE.dat _))) (.cons (td rfl (GA.data _)) .nil)))
    ·
     refine AWp.skip ?_
     refine aF ?_
     refine sr (N' := 576) rfl ?_
     refine pu rfl (aD Z1 Z3 Z2) ?_
     refine pA ?_
     refine aE.heap0 (id := 514) rfl (bG (ys := [.v (.int .i64 r16.Graph.Config.N), .v (.int .i64 r16.Graph.Config.L), .v (.int .i64 r16.Graph.Config.R), .sl (r16.Graph.Hashes.flatMap bA) r16.Graph.Hashes.length false, .sl (r16.Graph.Edges.flatMap aL) r16.Graph.Edges.length false, .sl (r16.Slots.flatMap aS) r16.Slots.length false]) qV Z1 Z1 Z3 rfl (Nat.le_of_ble_eq_true rfl) Z9 rfl) ?_
     refine pA ?_
     refine fs ?_
     refine AWp.ret ?_
     cases hm
     exact fK (.inr rfl) (by rw [Tryz.results15]) (.cell (cG Z1 Z3 Z2) (.tmp Z1 .nil)) rfl (tdt (.cons (td rfl (.agg _ (bE.dat _))) (.cons (td rfl (GA.data _)) .nil)))
def oI (reply_0 : GA) : Option (Int) :=
 ((aGe .i64 36 reply_0).bind fun r2 =>
 some r2)
theorem aCx {reply_0 : GA} {r : Int} (hm : oI reply_0 = some r) : aT Tryz.prog 38 [GA.av reply_0] (.v (.int .i64 r)) := by
 refine aT.of_body Tryz.func38 rfl ?_
 simp only [Tryz.ntmps38, List.length_cons, List.length_nil, Nat.reduceAdd, Nat.reduceSub, aQ]
 unfold oI at hm
 refine sr (N' := 64) rfl ?_
 refine pA ?_
 refine fs ?_
 refine sr (N' := 128) rfl ?_
 refine pA ?_
 obtain ⟨r2, h1, hm⟩ := bnd hm
 refine pu rfl (aQ0 Tryz.underlying36 Z1 h1) ?_
 refine pA ?_
 refine fs ?_
 refine AWp.ret ?_
 cases hm
 exact bM (.inr rfl) Tryz.results38 (td Z1 (.v _))
def iS : Option (Bool) :=
 ((iZ (aZ.mk 2 1 1) (bH.mk [3, 4, 5] 0)).bind fun ⟨r2, r3, r4⟩ =>
 ((kU r2 (cY.mk 1 9 0 ⟨#[]⟩)).bind fun ⟨r6, r7⟩ =>
 ((kU r6 (cY.mk 1 7 0 ⟨#[]⟩)).bind fun ⟨r9, r10⟩ =>
 ((kU r9 (cY.mk 3 7 9 ⟨#[]⟩)).bind fun ⟨r12, r13⟩ =>
 ((kU r12 (cY.mk 11 9 0 ⟨#[]⟩)).bind fun ⟨r15, r16⟩ =>
 ((kU r12 (cY.mk 2 9 0 ⟨#[]⟩)).bind fun ⟨r18, r19⟩ =>
 ((kU r12 (cY.mk 5 9 8 ⟨#[]⟩)).bind fun ⟨r21, r22⟩ =>
 ((kU r12 (cY.mk 0 0 0 ⟨#[]⟩)).bind fun ⟨r24, r25⟩ =>
 ((aZk 24 r16).bind fun ⟨r27, r28⟩ =>
 ((fA (((r4 == 0) && (r3.At == 2)) == true) false (aB5 r7 36 .i64 0)).bind fun b30 =>
 ((fA ((((r4 == 0) && (r3.At == 2)) && b30) == true) false (aB5 r10 36 .i64 0)).bind fun b32 =>
 ((fA (((((r4 == 0) && (r3.At == 2)) && b30) && b32) == true) false (aB5 r13 36 .i64 0)).bind fun b34 =>
 (bif ((((((r4 == 0) && (r3.At == 2)) && b30) && b32) && b34) && r28) then
  ((xZ r27 [7, 9]).bind fun r37 =>
  ((fA (r37 == true) false (aB5 r19 36 .i64 11)).bind fun b39 =>
  ((fA ((r37 && b39) == true) false (aB5 r22 36 .i64 7)).bind fun b41 =>
  ((fA (((r37 && b39) && b41) == true) false (aB5 r25 36 .i64 1)).bind fun b43 =>
  ((fA ((bif (((r37 && b39) && b41) && b43) then true else false) == true) 0 (oI r25)).bind fun r45 =>
  some ((bif (((r37 && b39) && b41) && b43) then true else false) && (r45 == 1)))))))
 else
  some false)))))))))))))
theorem qX {r : Bool} (hm : iS = some r) : aT Tryz.prog 14 [] (.v (.bool r)) := by
 refine aT.of_body Tryz.func14 rfl ?_
 simp only [Tryz.ntmps14, List.length_cons, List.length_nil, Nat.reduceAdd, Nat.reduceSub, aQ]
 unfold iS at hm
 refine sr (N' := 64) rfl ?_
 refine pA ?_
 refine fs ?_
 refine sr (N' := 128) rfl ?_
 refine pu rfl (by simp only [go_sem, Nat.reduceBEq]; exact (by kernel_rfl : dJ Tryz.prog 23 [(0, .v (.int .i64 2)), (1, .v (.int .i64 1)), (2, .v (.int .i64 1))] = some (.agg [.v (.int .i64 2), .v (.int .i64 1), .v (.int .i64 1)]))) ?_
 refine aE.pop Zd (sU (ps := [(0, .v (.int .u64 3)), (1, .v (.int .u64 4)), (2, .v (.int .u64 5))]) (by simp only [go_sem, Nat.reduceBEq]; try rfl) (mY (.v _) (mY (.v _) (mY (.v _) aEs)))) (aBw (CFi .u64) (l := [3, 4, 5]) (xs := [.v (.int .u64 3), .v (.int .u64 4), .v (.int .u64 5)]) Tryz.underlying24 nS aI6 Zd Zd Zd (ps := [(0, .v (.int .u64 3)), (1, .v (.int .u64 4)), (2, .v (.int .u64 5))]) (by simp only [go_sem, Nat.reduceBEq]; try rfl) (by kernel_rfl) (fun H => (.cons (.data _ (.v _)) (.cons (.data _ (.v _)) (.cons (.data _ (.v _)) .nil))))) rfl ?_
 refine pu rfl (by simp only [go_sem, Nat.reduceBEq]; exact (by kernel_rfl : dJ Tryz.prog 35 [(0, .sl (([3, 4, 5]).flatMap (ci .u64)) ([3, 4, 5]).length false)] = some (.agg [.sl (([3, 4, 5]).flatMap (ci .u64)) ([3, 4, 5]).length false, .v (.int .i64 0)]))) ?_
 obtain ⟨⟨r2, r3, r4⟩, h1, hm⟩ := bnd hm
 refine aE.callQ (r := .tup [.agg [.v (.int .i64 r2.Graph.Config.N), .v (.int .i64 r2.Graph.Config.L), .v (.int .i64 r2.Graph.Config.R), .sl (r2.Graph.Hashes.flatMap bA) r2.Graph.Hashes.length false, .sl (r2.Graph.Edges.flatMap aL) r2.Graph.Edges.length false, .sl (r2.Slots.flatMap aS) r2.Slots.length false], .agg [.sl (r3.List.flatMap (ci .u64)) r3.List.length false, .v (.int .i64 r3.At)], .v (.int .i64 r4)]) Zd Z1 bEc (fun H => (.cons (td Z1 (.agg _ (mQ.dat (aZ.mk 2 1 1)))) (.cons (td Z1 (.agg _ (cI.dat (bH.mk [3, 4, 5] 0)))) .nil))) (aF6 h1) ?_
 iterate 4 refine pA ?_
 refine hp (id := 72) rfl rfl (aY aH7 Z5) ?_
 refine hp (id := 73) rfl rfl (aY aIg Z5) ?_
 refine aE.heap0 (id := 74) rfl (bG (ys := [.v (.int .i64 r2.Graph.Config.N), .v (.int .i64 r2.Graph.Config.L), .v (.int .i64 r2.Graph.Config.R), .sl (r2.Graph.Hashes.flatMap bA) r2.Graph.Hashes.length false, .sl (r2.Graph.Edges.flatMap aL) r2.Graph.Edges.length false, .sl (r2.Slots.flatMap aS) r2.Slots.length false]) qV Z1 Z1 Z3 rfl (Nat.le_of_ble_eq_true rfl) Z9 rfl) ?_
 refine aE.heap0 (id := 75) rfl (bG (ys := [.sl (r3.List.flatMap (ci .u64)) r3.List.length false, .v (.int .i64 r3.At)]) uY Z1 Z1 Z3 rfl (Nat.le_of_ble_eq_true rfl) Z9 rfl) ?_
 refine pA ?_
 refine fs ?_
 refine sr (N' := 192) rfl ?_
 refine pu rfl (aD Z1 Z3 Z2) ?_
 refine pu rfl (by simp only [go_sem, Nat.reduceBEq]; exact (by kernel_rfl : dJ Tryz.prog 45 [(0, .v (.int .i64 1)), (1, .v (.int .u64 9))] = some (.agg [.v (.int .i64 1), .v (.int .u64 9), .v (.int .u64 0), .v (.string ⟨#[]⟩)]))) ?_
 obtain ⟨⟨r6, r7⟩, h5, hm⟩ := bnd hm
 refine aE.callQ (r := .tup [.agg [.v (.int .i64 r6.Graph.Config.N), .v (.int .i64 r6.Graph.Config.L), .v (.int .i64 r6.Graph.Config.R), .sl (r6.Graph.Hashes.flatMap bA) r6.Graph.Hashes.length false, .sl (r6.Graph.Edges.flatMap aL) r6.Graph.Edges.length false, .sl (r6.Slots.flatMap aS) r6.Slots.length false], GA.av r7]) Zd Z1 aN0 (fun H => (cD (.agg _ (bE.dat _)) (.cons (td Z1 (.agg _ (fI.dat (cY.mk 1 9 0 ⟨#[]⟩)))) .nil))) (oF h5) ?_
 iterate 3 refine pA ?_
 refine aE.heap0 (id := 134) rfl (bG (ys := [.v (.int .i64 r6.Graph.Config.N), .v (.int .i64 r6.Graph.Config.L), .v (.int .i64 r6.Graph.Config.R), .sl (r6.Graph.Hashes.flatMap bA) r6.Graph.Hashes.length false, .sl (r6.Graph.Edges.flatMap aL) r6.Graph.Edges.length false, .sl (r6.Slots.flatMap aS) r6.Slots.length false]) qV Z1 Z1 Z3 rfl (Nat.le_of_ble_eq_true rfl) Z9 rfl) ?_
 refine pA ?_
 refine fs ?_
 refine sr (N' := 256) rfl ?_
 refine pu rfl (aD Z1 Z3 Z2) ?_
 refine pu rfl (by simp only [go_sem, Nat.reduceBEq]; exact (by kernel_rfl : dJ Tryz.prog 45 [(0, .v (.int .i64 1)), (1, .v (.int .u64 7))] = some (.agg [.v (.int .i64 1), .v (.int .u64 7), .v (.int .u64 0), .v (.string ⟨#[]⟩)]))) ?_
 obtain ⟨⟨r9, r10⟩, h8, hm⟩ := bnd hm
 refine aE.callQ (r := .tup [.agg [.v (.int .i64 r9.Graph.Config.N), .v (.int .i64 r9.Graph.Config.L), .v (.int .i64 r9.Graph.Config.R), .sl (r9.Graph.Hashes.flatMap bA) r9.Graph.Hashes.length false, .sl (r9.Graph.Edges.flatMap aL) r9.Graph.Edges.length false, .sl (r9.Slots.flatMap aS) r9.Slots.length false], GA.av r10]) Zd Z1 aN0 (fun H => (cD (.agg _ (bE.dat _)) (.cons (td Z1 (.agg _ (fI.dat (cY.mk 1 7 0 ⟨#[]⟩)))) .nil))) (oF h8) ?_
 iterate 3 refine pA ?_
 refine aE.heap0 (id := 198) rfl (bG (ys := [.v (.int .i64 r9.Graph.Config.N), .v (.int .i64 r9.Graph.Config.L), .v (.int .i64 r9.Graph.Config.R), .sl (r9.Graph.Hashes.flatMap bA) r9.Graph.Hashes.length false, .sl (r9.Graph.Edges.flatMap aL) r9.Graph.Edges.length false, .sl (r9.Slots.flatMap aS) r9.Slots.length false]) qV Z1 Z1 Z3 rfl (Nat.le_of_ble_eq_true rfl) Z9 rfl) ?_
 refine pA ?_
 refine fs ?_
 refine sr (N' := 320) rfl ?_
 refine pu rfl (aD Z1 Z3 Z2) ?_
 refine pu rfl (by simp only [go_sem, Nat.reduceBEq]; exact (by kernel_rfl : dJ Tryz.prog 45 [(0, .v (.int .i64 3)), (1, .v (.int .u64 7)), (2, .v (.int .u64 9))] = some (.agg [.v (.int .i64 3), .v (.int .u64 7), .v (.int .u64 9), .v (.string ⟨#[]⟩)]))) ?_
 obtain ⟨⟨r12, r13⟩, h11, hm⟩ := bnd hm
 refine aE.callQ (r := .tup [.agg [.v (.int .i64 r12.Graph.Config.N), .v (.int .i64 r12.Graph.Config.L), .v (.int .i64 r12.Graph.Config.R), .sl (r12.Graph.Hashes.flatMap bA) r12.Graph.Hashes.length false, .sl (r12.Graph.Edges.flatMap aL) r12.Graph.Edges.length false, .sl (r12.Slots.flatMap aS) r12.Slots.length false], GA.av r13]) Zd Z1 aN0 (fun H => (cD (.agg _ (bE.dat _)) (.cons (td Z1 (.agg _ (fI.dat (cY.mk 3 7 9 ⟨#[]⟩)))) .nil))) (oF h11) ?_
 iterate 3 refine pA ?_
 refine aE.heap0 (id := 262) rfl (bG (ys := [.v (.int .i64 r12.Graph.Config.N), .v (.int .i64 r12.Graph.Config.L), .v (.int .i64 r12.Graph.Config.R), .sl (r12.Graph.Hashes.flatMap bA) r12.Graph.Hashes.length false, .sl (r12.Graph.Edges.flatMap aL) r12.Graph.Edges.length false, .sl (r12.Slots.flatMap aS) r12.Slots.length false]) qV Z1 Z1 Z3 rfl (Nat.le_of_ble_eq_true rfl) Z9 rfl) ?_
 refine pA ?_
 refine fs ?_
 refine sr (N' := 384) rfl ?_
 refine pu rfl (aD Z1 Z3 Z2) ?_
 refine pu rfl (by simp only [go_sem, Nat.reduceBEq]; exact (by kernel_rfl : dJ Tryz.prog 45 [(0, .v (.int .i64 11)), (1, .v (.int .u64 9))] = some (.agg [.v (.int .i64 11), .v (.int .u64 9), .v (.int .u64 0), .v (.string ⟨#[]⟩)]))) ?_
 obtain ⟨⟨r15, r16⟩, h14, hm⟩ := bnd hm
 refine aE.callQ (r := .tup [.agg [.v (.int .i64 r15.Graph.Config.N), .v (.int .i64 r15.Graph.Config.L), .v (.int .i64 r15.Graph.Config.R), .sl (r15.Graph.Hashes.flatMap bA) r15.Graph.Hashes.length false, .sl (r15.Graph.Edges.flatMap aL) r15.Graph.Edges.length false, .sl (r15.Slots.flatMap aS) r15.Slots.length false], GA.av r16]) Zd Z1 aN0 (fun H => (cD (.agg _ (bE.dat _)) (.cons (td Z1 (.agg _ (fI.dat (cY.mk 11 9 0 ⟨#[]⟩)))) .nil))) (oF h14) ?_
 iterate 3 refine pA ?_
 refine hp (id := 326) rfl rfl (aY aH7 Z5) ?_
 refine aE.heap0 (id := 327) rfl (bG (ys := [.v (.int .i64 r15.Graph.Config.N), .v (.int .i64 r15.Graph.Config.L), .v (.int .i64 r15.Graph.Config.R), .sl (r15.Graph.Hashes.flatMap bA) r15.Graph.Hashes.length false, .sl (r15.Graph.Edges.flatMap aL) r15.Graph.Edges.length false, .sl (r15.Slots.flatMap aS) r15.Slots.length false]) qV Z1 Z1 Z3 rfl (Nat.le_of_ble_eq_true rfl) Z9 rfl) ?_
 refine pA ?_
 refine fs ?_
 refine sr (N' := 448) rfl ?_
 refine pu rfl (aD Z1 Z3 Z2) ?_
 refine pu rfl (by simp only [go_sem, Nat.reduceBEq]; exact (by kernel_rfl : dJ Tryz.prog 45 [(0, .v (.int .i64 2)), (1, .v (.int .u64 9))] = some (.agg [.v (.int .i64 2), .v (.int .u64 9), .v (.int .u64 0), .v (.string ⟨#[]⟩)]))) ?_
 obtain ⟨⟨r18, r19⟩, h17, hm⟩ := bnd hm
 refine aE.callQ (r := .tup [.agg [.v (.int .i64 r18.Graph.Config.N), .v (.int .i64 r18.Graph.Config.L), .v (.int .i64 r18.Graph.Config.R), .sl (r18.Graph.Hashes.flatMap bA) r18.Graph.Hashes.length false, .sl (r18.Graph.Edges.flatMap aL) r18.Graph.Edges.length false, .sl (r18.Slots.flatMap aS) r18.Slots.length false], GA.av r19]) Zd Z1 aN0 (fun H => (cD (.agg _ (bE.dat _)) (.cons (td Z1 (.agg _ (fI.dat (cY.mk 2 9 0 ⟨#[]⟩)))) .nil))) (oF h17) ?_
 iterate 3 refine pA ?_
 refine hp (id := 390) rfl rfl (aY aH7 Z5) ?_
 refine aE.heap0 (id := 391) rfl (bG (ys := [.v (.int .i64 r18.Graph.Config.N), .v (.int .i64 r18.Graph.Config.L), .v (.int .i64 r18.Graph.Config.R), .sl (r18.Graph.Hashes.flatMap bA) r18.Graph.Hashes.length false, .sl (r18.Graph.Edges.flatMap aL) r18.Graph.Edges.length false, .sl (r18.Slots.flatMap aS) r18.Slots.length false]) qV Z1 Z1 Z3 rfl (Nat.le_of_ble_eq_true rfl) Z9 rfl) ?_
 refine pA ?_
 refine fs ?_
 refine sr (N' := 512) rfl ?_
 refine pu rfl (aD Z1 Z3 Z2) ?_
 refine pu rfl (by simp only [go_sem, Nat.reduceBEq]; exact (by kernel_rfl : dJ Tryz.prog 45 [(0, .v (.int .i64 5)), (1, .v (.int .u64 9)), (2, .v (.int .u64 8))] = some (.agg [.v (.int .i64 5), .v (.int .u64 9), .v (.int .u64 8), .v (.string ⟨#[]⟩)]))) ?_
 obtain ⟨⟨r21, r22⟩, h20, hm⟩ := bnd hm
 refine aE.callQ (r := .tup [.agg [.v (.int .i64 r21.Graph.Config.N), .v (.int .i64 r21.Graph.Config.L), .v (.int .i64 r21.Graph.Config.R), .sl (r21.Graph.Hashes.flatMap bA) r21.Graph.Hashes.length false, .sl (r21.Graph.Edges.flatMap aL) r21.Graph.Edges.length false, .sl (r21.Slots.flatMap aS) r21.Slots.length false], GA.av r22]) Zd Z1 aN0 (fun H => (cD (.agg _ (bE.dat _)) (.cons (td Z1 (.agg _ (fI.dat (cY.mk 5 9 8 ⟨#[]⟩)))) .nil))) (oF h20) ?_
 iterate 3 refine pA ?_
 refine hp (id := 454) rfl rfl (aY aH7 Z5) ?_
 refine aE.heap0 (id := 455) rfl (bG (ys := [.v (.int .i64 r21.Graph.Config.N), .v (.int .i64 r21.Graph.Config.L), .v (.int .i64 r21.Graph.Config.R), .sl (r21.Graph.Hashes.flatMap bA) r21.Graph.Hashes.length false, .sl (r21.Graph.Edges.flatMap aL) r21.Graph.Edges.length false, .sl (r21.Slots.flatMap aS) r21.Slots.length false]) qV Z1 Z1 Z3 rfl (Nat.le_of_ble_eq_true rfl) Z9 rfl) ?_
 refine pA ?_
 refine fs ?_
 refine sr (N' := 576) rfl ?_
 refine pu rfl (aD Z1 Z3 Z2) ?_
 refine pu rfl (by simp only [go_sem, Nat.reduceBEq]; exact (by kernel_rfl : dJ Tryz.prog 45 [] = some (.agg [.v (.int .i64 0), .v (.int .u64 0), .v (.int .u64 0), .v (.string ⟨#[]⟩)]))) ?_
 obtain ⟨⟨r24, r25⟩, h23, hm⟩ := bnd hm
 refine aE.callQ (r := .tup [.agg [.v (.int .i64 r24.Graph.Config.N), .v (.int .i64 r24.Graph.Config.L), .v (.int .i64 r24.Graph.Config.R), .sl (r24.Graph.Hashes.flatMap bA) r24.Graph.Hashes.length false, .sl (r24.Graph.Edges.flatMap aL) r24.Graph.Edges.length false, .sl (r24.Slots.flatMap aS) r24.Slots.length false], GA.av r25]) Zd Z1 aN0 (fun H => (cD (.agg _ (bE.dat _)) (.cons (td Z1 (.agg _ (fI.dat (cY.mk 0 0 0 ⟨#[]⟩)))) .nil))) (oF h23) ?_
 iterate 3 refine pA ?_
 refine hp (id := 518) rfl rfl (aY aH7 Z5) ?_
 refine aE.heap0 (id := 519) rfl (bG (ys := [.v (.int .i64 r24.Graph.Config.N), .v (.int .i64 r24.Graph.Config.L), .v (.int .i64 r24.Graph.Config.R), .sl (r24.Graph.Hashes.flatMap bA) r24.Graph.Hashes.length false, .sl (r24.Graph.Edges.flatMap aL) r24.Graph.Edges.length false, .sl (r24.Slots.flatMap aS) r24.Slots.length false]) qV Z1 Z1 Z3 rfl (Nat.le_of_ble_eq_true rfl) Z9 rfl) ?_
 refine pA ?_
 refine fs ?_
 refine sr (N' := 640) rfl ?_
 refine pA ?_
 obtain ⟨⟨r27, r28⟩, h26, hm⟩ := bnd hm
 refine aE.pop Zd (aA8 Z1 (GA.data _)) (aUo Tryz.underlying24 bLj bIg Z1 h26) rfl ?_
 iterate 5 refine pA ?_
 refine fs ?_
 refine sr (N' := 704) rfl ?_
 iterate 4 first | refine pA ?_ | refine pB ?_
 refine pg rfl rfl Z2 (fun hb => (aD (Zh hb) Z3 Z4)) ?_
 iterate 5 first | refine pA ?_ | refine pB ?_
 obtain ⟨b30, h29, hm⟩ := bnd hm
 refine aE.popG Zd rfl Z2 (fun hb => (aAx (Zh hb) (Zh hb) (GA.data _) (.ifc _ _ (.v _)))) (fun hb => (rK Tryz.underlying20 Tryz.underlying36 aQc (by kernel_rfl) (Zh hb) (Zh hb) (dA h29 hb))) rfl ?_
 iterate 4 first | refine pA ?_ | refine pB ?_
 obtain ⟨b32, h31, hm⟩ := bnd hm
 refine aE.popG Zd rfl Z2 (fun hb => (aAx (Zh hb) (Zh hb) (GA.data _) (.ifc _ _ (.v _)))) (fun hb => (rK Tryz.underlying20 Tryz.underlying36 aQc (by kernel_rfl) (Zh hb) (Zh hb) (dA h31 hb))) rfl ?_
 iterate 4 first | refine pA ?_ | refine pB ?_
 obtain ⟨b34, h33, hm⟩ := bnd hm
 refine aE.popG Zd rfl Z2 (fun hb => (aAx (Zh hb) (Zh hb) (GA.data _) (.ifc _ _ (.v _)))) (fun hb => (rK Tryz.underlying20 Tryz.underlying36 aQc (by kernel_rfl) (Zh hb) (Zh hb) (dA h33 hb))) rfl ?_
 iterate 6 first | refine pA ?_ | refine pB ?_
 refine aWv hm (fun h35 hm => ?_) (fun h35 hm => ?_)
 ·
  refine aE.heapG Zd rfl (by simp only [go_sem, Nat.reduceBEq, h35]; try with_reducible rfl) (id := 667) rfl (eE (CFi .u64) (l := [7, 9]) Tryz.underlying24 nS aI6 Z5 Zd Zd Zd (by simp only [go_sem, Nat.reduceBEq, h35]; try rfl) (by kernel_rfl)) ?_
  obtain ⟨r37, h36, hm⟩ := bnd hm
  refine aE.callBG (r := .v (.bool r37)) Zd rfl (by simp only [go_sem, Nat.reduceBEq, h35]; try with_reducible rfl) (by try simp only [go_sem, Nat.reduceBEq, h35]; try rfl) bL5 (fun hb => (.cons (ltd fun H => (td (by try simp only [go_sem, Nat.reduceBEq, h35]; try rfl) ((CFi .u64).sl _ _ _))) (.cons (lto (CFi .u64) (by try simp only [go_sem, Nat.reduceBEq, h35]; try rfl) Z3 Z6) aIx.nil))) aYk (fun hb => aL5 h36) ?_
  iterate 4 (first | refine pu rfl (by simp only [go_sem, Nat.reduceBEq, h35]; try with_reducible rfl) ?_ | refine pg rfl rfl (by simp only [go_sem, Nat.reduceBEq, h35]; try with_reducible rfl) (by intro hb; simp only [go_sem, Nat.reduceBEq, h35, hb, Bool.true_and]; try with_reducible rfl) ?_)
  obtain ⟨b39, h38, hm⟩ := bnd hm
  refine aE.popG Zd rfl (by simp only [go_sem, Nat.reduceBEq, h35]; try with_reducible rfl) (fun hb => (aAx (by try simp only [go_sem, Nat.reduceBEq, h35, hb, Bool.true_and]; try rfl) (by try simp only [go_sem, Nat.reduceBEq, h35, hb, Bool.true_and]; try rfl) (GA.data _) (.ifc _ _ (.v _)))) (fun hb => (rK Tryz.underlying20 Tryz.underlying36 aQc (by kernel_rfl) (by try simp only [go_sem, Nat.reduceBEq, h35, hb, Bool.true_and]; try rfl) (by try simp only [go_sem, Nat.reduceBEq, h35, hb, Bool.true_and]; try rfl) (dA h38 hb))) rfl ?_
  iterate 4 (first | refine pu rfl (by simp only [go_sem, Nat.reduceBEq, h35]; try with_reducible rfl) ?_ | refine pg rfl rfl (by simp only [go_sem, Nat.reduceBEq, h35]; try with_reducible rfl) (by intro hb; simp only [go_sem, Nat.reduceBEq, h35, hb, Bool.true_and]; try with_reducible rfl) ?_)
  obtain ⟨b41, h40, hm⟩ := bnd hm
  refine aE.popG Zd rfl (by simp only [go_sem, Nat.reduceBEq, h35]; try with_reducible rfl) (fun hb => (aAx (by try simp only [go_sem, Nat.reduceBEq, h35, hb, Bool.true_and]; try rfl) (by try simp only [go_sem, Nat.reduceBEq, h35, hb, Bool.true_and]; try rfl) (GA.data _) (.ifc _ _ (.v _)))) (fun hb => (rK Tryz.underlying20 Tryz.underlying36 aQc (by kernel_rfl) (by try simp only [go_sem, Nat.reduceBEq, h35, hb, Bool.true_and]; try rfl) (by try simp only [go_sem, Nat.reduceBEq, h35, hb, Bool.true_and]; try rfl) (dA h40 hb))) rfl ?_
  iterate 4 (first | refine pu rfl (by simp only [go_sem, Nat.reduceBEq, h35]; try with_reducible rfl) ?_ | refine pg rfl rfl (by simp only [go_sem, Nat.reduceBEq, h35]; try with_reducible rfl) (by intro hb; simp only [go_sem, Nat.reduceBEq, h35, hb, Bool.true_and]; try with_reducible rfl) ?_)
  obtain ⟨b43, h42, hm⟩ := bnd hm
  refine aE.popG Zd rfl (by simp only [go_sem, Nat.reduceBEq, h35]; try with_reducible rfl) (fun hb => (aAx (by try simp only [go_sem, Nat.reduceBEq, h35, hb, Bool.true_and]; try rfl) (by try simp only [go_sem, Nat.reduceBEq, h35, hb, Bool.true_and]; try rfl) (GA.data _) (.ifc _ _ (.v _)))) (fun hb => (rK Tryz.underlying20 Tryz.underlying36 aQc (by kernel_rfl) (by try simp only [go_sem, Nat.reduceBEq, h35, hb, Bool.true_and]; try rfl) (by try simp only [go_sem, Nat.reduceBEq, h35, hb, Bool.true_and]; try rfl) (dA h42 hb))) rfl ?_
  iterate 5 (first | refine pu rfl (by simp only [go_sem, Nat.reduceBEq, h35]; try with_reducible rfl) ?_ | refine pg rfl rfl (by simp only [go_sem, Nat.reduceBEq, h35]; try with_reducible rfl) (by intro hb; simp only [go_sem, Nat.reduceBEq, h35, hb, Bool.true_and]; try with_reducible rfl) ?_)
  obtain ⟨r45, h44, hm⟩ := bnd hm
  refine aE.callQG (r := .v (.int .i64 r45)) Zd rfl (by simp only [go_sem, Nat.reduceBEq, h35]; try with_reducible rfl) (by try simp only [go_sem, Nat.reduceBEq, h35]; try rfl) bJk (fun hb H => (.cons (td (by try simp only [go_sem, Nat.reduceBEq, h35, hb, Bool.true_and]; try rfl) (GA.data _)) .nil)) (fun hb => aCx (dA h44 hb)) ?_
  iterate 3 (first | refine pu rfl (by simp only [go_sem, Nat.reduceBEq, h35]; try with_reducible rfl) ?_ | refine pg rfl rfl (by simp only [go_sem, Nat.reduceBEq, h35]; try with_reducible rfl) (by intro hb; simp only [go_sem, Nat.reduceBEq, h35, hb, Bool.true_and]; try with_reducible rfl) ?_)
  refine fs ?_
  refine AWp.ret ?_
  cases hm
  exact bM (.inr rfl) Tryz.results14 (td Z1 (.v _))
 ·
  refine aE.skipG Zd rfl (by simp only [go_sem, Nat.reduceBEq, h35]; try with_reducible rfl) ?_
  refine aE.skipG Zd rfl (by simp only [go_sem, Nat.reduceBEq, h35]; try with_reducible rfl) ?_
  iterate 2 refine pu rfl (by simp only [go_sem, Nat.reduceBEq, h35]; try with_reducible rfl) ?_
  refine aE.skipG Zd rfl (by simp only [go_sem, Nat.reduceBEq, h35]; try with_reducible rfl) ?_
  refine aE.skipG Zd rfl (by simp only [go_sem, Nat.reduceBEq, h35]; try with_reducible rfl) ?_
  refine aE.skipG Zd rfl (by simp only [go_sem, Nat.reduceBEq, h35]; try with_reducible rfl) ?_
  iterate 2 refine pu rfl (by simp only [go_sem, Nat.reduceBEq, h35]; try with_reducible rfl) ?_
  refine aE.skipG Zd rfl (by simp only [go_sem, Nat.reduceBEq, h35]; try with_reducible rfl) ?_
  refine aE.skipG Zd rfl (by simp only [go_sem, Nat.reduceBEq, h35]; try with_reducible rfl) ?_
  refine aE.skipG Zd rfl (by simp only [go_sem, Nat.reduceBEq, h35]; try with_reducible rfl) ?_
  iterate 2 refine pu rfl (by simp only [go_sem, Nat.reduceBEq, h35]; try with_reducible rfl) ?_
  refine aE.skipG Zd rfl (by simp only [go_sem, Nat.reduceBEq, h35]; try with_reducible rfl) ?_
  refine aE.skipG Zd rfl (by simp only [go_sem, Nat.reduceBEq, h35]; try with_reducible rfl) ?_
  refine aE.skipG Zd rfl (by simp only [go_sem, Nat.reduceBEq, h35]; try with_reducible rfl) ?_
  iterate 4 refine pu rfl (by simp only [go_sem, Nat.reduceBEq, h35]; try with_reducible rfl) ?_
  refine aE.skipG Zd rfl (by simp only [go_sem, Nat.reduceBEq, h35]; try with_reducible rfl) ?_
  refine aE.skipG Zd rfl (by simp only [go_sem, Nat.reduceBEq, h35]; try with_reducible rfl) ?_
  refine aE.skipG Zd rfl (by simp only [go_sem, Nat.reduceBEq, h35]; try with_reducible rfl) ?_
  iterate 2 refine pu rfl (by simp only [go_sem, Nat.reduceBEq, h35]; try with_reducible rfl) ?_
  refine fs ?_
  refine AWp.ret ?_
  cases hm
  exact bM (.inr rfl) Tryz.results14 (td Z1 (.v _))
def nX (rec1 : List bI → List bC → Int → Int → Option ((List bI))) (out_3 : List bI) (t6 : List bC) (t7 : Int) (t8 : Int) : Option ((List bI)) :=
 (bif (decide (t8 < t7)) then
  ((idx t6 t8).bind fun x2 =>
  ((app out_3 [(bI.mk x2.Used x2.Key)]).bind fun l4 =>
  rec1 l4 t6 t7 (IntKind.i64.wrap (t8 + 1))))
 else
  some out_3)
def lA : Nat → List bI → List bC → Int → Int → Option ((List bI))
 | 0 => fun _ _ _ _ => none
 | n + 1 => nX (lA n)
def tH (l_0 : List bC) : Option ((List bI)) :=
 lA bY [] l_0 (l_0.length : Int) 0
theorem aLf {l_0 : List bC} {r : (List bI)} (hm : tH l_0 = some r) : aT Tryz.prog 61 [.sl (l_0.flatMap aS) l_0.length false] (.sl (r.flatMap bX) r.length false) := by
 refine aT.of_body Tryz.func61 rfl ?_
 simp only [Tryz.ntmps61, List.length_cons, List.length_nil, Nat.reduceAdd, Nat.reduceSub, aQ]
 unfold tH at hm
 refine sr (N' := 64) rfl ?_
 refine pA ?_
 refine fs ?_
 refine sr (N' := 128) rfl ?_
 refine pA ?_
 refine fs ?_
 refine AWp.seq' ?_
 refine sr (N' := 192) rfl ?_
 iterate 3 refine pA ?_
 refine fs ?_
 refine AWp.block ?_
 refine AWp.loopM (fun m s => ∃ (out_3 : List bI) (t6 : List bC) (t7 : Int) (t8 : Int), s = (⟨18, (aK (aK (aK (aK (fun _ => AV.any) 3 (.own 1 0 out_3.length)) 6 (.sl (t6.flatMap aS) t6.length false)) 7 (.v (.int .i64 t7))) 8 (.v (.int .i64 t8))), ⟨(upd bL 1 (.cells 2 (out_3.flatMap bX) 0)), 64⟩⟩ : St) ∧ lA m out_3 t6 t7 t8 = some r) bY ?_ ?_ ?_
 ·
  rintro s ⟨_, _, _, _, _, h⟩
  cases h
 ·
  refine ⟨_, ?_, [], l_0, (l_0.length : Int), 0, rfl, hm⟩
  refine St.Le.trans (kA 3 900003 2 Z1 Z5) ?_
  exact aN (fun j => bif j == 1 then 900003 else 0) (wV (wV (wD (bF.sl _ _ _) (wO aU)))) (hW (eU cE aR))
 ·
  rintro n1 s ⟨out_3, t6, t7, t8, rfl, hm⟩
  replace hm : nX (lA n1) out_3 t6 t7 t8 = some r := hm
  unfold nX at hm
  refine sr (N' := 128) rfl ?_
  refine pA ?_
  refine fs ?_
  refine AWp.seq' ?_
  refine AWp.condM hm Z1 (fun _ hm => ?_) (fun _ hm => ?_)
  ·
   refine AWp.skip ?_
   refine aF ?_
   refine AWp.seq' ?_
   refine AWp.block ?_
   refine sr (N' := 192) rfl ?_
   obtain ⟨x2, h1, hm⟩ := bnd hm
   refine pu rfl (cP bF Zd Tryz.underlying31 mV Z1 rfl Z1 h1) ?_
   refine pA ?_
   refine hp (id := 130) rfl rfl (aY aKi Z5) ?_
   refine aE.heap0 (id := 131) rfl (bG (ys := [.v (.bool x2.Used), .v (.int .u64 x2.Key)]) mV Z1 Z1 Z3 rfl (Nat.le_of_ble_eq_true rfl) Z9 rfl) ?_
   refine fs ?_
   refine AWp.reg 64 (N' := 256) rfl ?_
   refine pA ?_
   refine pu rfl (aD Z1 Z3 Z2) ?_
   refine hp (id := 194) rfl rfl (eE cE (l := [(bI.mk x2.Used x2.Key)]) Tryz.underlying54 aPe bHo Z5 Zd Zd Zd (by simp only [go_sem, Nat.reduceBEq]; try rfl) (by kernel_rfl)) ?_
   obtain ⟨l4, h3, hm⟩ := bnd hm
   refine hp (id := 195) rfl rfl (iI cE Tryz.underlying54 Tryz.underlying54 rfl bCk bD5 (by rw [aYv]; decide) (by rw [aYv]; decide) bGz Zd Zd Z1 Z3 Z6 (lM cE Z1 Z3 Z6) rfl Z5 h3) ?_
   refine pA ?_
   refine aE.fin ?_
   refine cA ?_
   refine aF ?_
   refine AWp.reg 64 (N' := 320) rfl ?_
   iterate 2 refine pA ?_
   refine aE.fin ?_
   refine bU ?_
   refine ⟨_, ?_, l4, t6, t7, (IntKind.i64.wrap (t8 + 1)), rfl, hm⟩
   exact aN (fun j => bif j == 1 then 195 else 0) (wV (wV (wD (bF.sl _ _ _) (wO aU)))) (hW (eU cE aR))
  ·
   refine AWp.exit ?_
   refine cH ?_
   refine bW ?_
   refine bT ?_
   refine aF ?_
   refine sr (N' := 192) rfl ?_
   iterate 2 refine pA ?_
   refine fs ?_
   refine AWp.ret ?_
   cases hm
   exact bM (.inr rfl) Tryz.results61 (tdo cE Z1 Z3 Z6)
def sF (s_0 : aI) : Option (dM) :=
 ((tH s_0.Slots).bind fun r2 =>
 some (dM.mk s_0.Graph r2))
theorem aEv {s_0 : aI} {r : dM} (hm : sF s_0 = some r) : aT Tryz.prog 21 [.agg [.v (.int .i64 s_0.Graph.Config.N), .v (.int .i64 s_0.Graph.Config.L), .v (.int .i64 s_0.Graph.Config.R), .sl (s_0.Graph.Hashes.flatMap bA) s_0.Graph.Hashes.length false, .sl (s_0.Graph.Edges.flatMap aL) s_0.Graph.Edges.length false, .sl (s_0.Slots.flatMap aS) s_0.Slots.length false]] (.agg [.v (.int .i64 r.Graph.Config.N), .v (.int .i64 r.Graph.Config.L), .v (.int .i64 r.Graph.Config.R), .sl (r.Graph.Hashes.flatMap bA) r.Graph.Hashes.length false, .sl (r.Graph.Edges.flatMap aL) r.Graph.Edges.length false, .sl (r.Slots.flatMap bX) r.Slots.length false]) := by
 refine aT.of_body Tryz.func21 rfl ?_
 simp only [Tryz.ntmps21, List.length_cons, List.length_nil, Nat.reduceAdd, Nat.reduceSub, aQ]
 unfold sF at hm
 refine sr (N' := 64) rfl ?_
 refine hp (id := 0) rfl rfl (bO Z1 Z5) ?_
 refine hp (id := 1) rfl rfl (aY bIr Z5) ?_
 refine fs ?_
 refine sd mix (by kernel_rfl) (N' := 128) rfl ?_
 refine pA ?_
 refine pu rfl (aD Z1 Z3 Z4) ?_
 refine pA ?_
 refine pu rfl (aD Z1 Z3 Z4) ?_
 obtain ⟨r2, h1, hm⟩ := bnd hm
 refine aE.callQ (r := .sl (r2.flatMap bX) r2.length false) Zd Z1 bKi (fun H => (cD (bF.sl _ _ _) .nil)) (aLf h1) ?_
 refine pu rfl (by simp only [go_sem, Nat.reduceBEq]; exact (by kernel_rfl : dJ Tryz.prog 56 [(0, .agg [.v (.int .i64 s_0.Graph.Config.N), .v (.int .i64 s_0.Graph.Config.L), .v (.int .i64 s_0.Graph.Config.R), .sl (s_0.Graph.Hashes.flatMap bA) s_0.Graph.Hashes.length false, .sl (s_0.Graph.Edges.flatMap aL) s_0.Graph.Edges.length false]), (1, .sl (r2.flatMap bX) r2.length false)] = some (.agg [.v (.int .i64 s_0.Graph.Config.N), .v (.int .i64 s_0.Graph.Config.L), .v (.int .i64 s_0.Graph.Config.R), .sl (s_0.Graph.Hashes.flatMap bA) s_0.Graph.Hashes.length false, .sl (s_0.Graph.Edges.flatMap aL) s_0.Graph.Edges.length false, .sl (r2.flatMap bX) r2.length false]))) ?_
 refine aE.heap0 (id := 70) rfl (bG (ys := [.v (.int .i64 s_0.Graph.Config.N), .v (.int .i64 s_0.Graph.Config.L), .v (.int .i64 s_0.Graph.Config.R), .sl (s_0.Graph.Hashes.flatMap bA) s_0.Graph.Hashes.length false, .sl (s_0.Graph.Edges.flatMap aL) s_0.Graph.Edges.length false, .sl (r2.flatMap bX) r2.length false]) bCo Z1 Z1 Z3 rfl (Nat.le_of_ble_eq_true rfl) Z9 rfl) ?_
 refine fs ?_
 refine AWp.ret ?_
 cases hm
 exact fK (.inr rfl) (by rw [Tryz.results21]) (.cell (cG Z1 Z3 Z2) .nil) rfl (td rfl (.agg _ (jS.dat (dM.mk s_0.Graph r2))))
def nL (rec1 : List bI → List bI → Int → Option (Bool)) (a_0 : List bI) (b_1 : List bI) (i_5 : Int) : Option (Bool) :=
 (bif (decide (i_5 < (a_0.length : Int))) then
  ((idx a_0 i_5).bind fun x2 =>
  ((idx b_1 i_5).bind fun x4 =>
  (bif (!((x2.Used == x4.Used) && ((x2.Key == x4.Key) && true))) then
   some false
  else
   rec1 a_0 b_1 (IntKind.i64.wrap (i_5 + 1)))))
 else
  some true)
def lD : Nat → List bI → List bI → Int → Option (Bool)
 | 0 => fun _ _ _ => none
 | n + 1 => nL (lD n)
def oZ (a_0 : List bI) (b_1 : List bI) : Option (Bool) :=
 (bif ((a_0.length : Int) != (b_1.length : Int)) then
  some false
 else
  lD bY a_0 b_1 0)
theorem aJl {a_0 : List bI} {b_1 : List bI} {r : Bool} (hm : oZ a_0 b_1 = some r) : aT Tryz.prog 88 [.sl (a_0.flatMap bX) a_0.length false, .sl (b_1.flatMap bX) b_1.length false] (.v (.bool r)) := by
 refine aT.of_body Tryz.func88 rfl ?_
 simp only [Tryz.ntmps88, List.length_cons, List.length_nil, Nat.reduceAdd, Nat.reduceSub, aQ]
 unfold oZ at hm
 refine sr (N' := 64) rfl ?_
 refine pA ?_
 refine fs ?_
 refine AWp.seq' ?_
 refine sr (N' := 128) rfl ?_
 iterate 5 refine pA ?_
 refine fs ?_
 refine AWp.condM hm Z1 (fun _ hm => ?_) (fun _ hm => ?_)
 ·
  refine sr (N' := 192) rfl ?_
  refine pA ?_
  refine fs ?_
  refine AWp.ret ?_
  refine bB ?_
  cases hm
  exact bM (.inr rfl) Tryz.results88 (td Z1 (.v _))
 ·
  refine AWp.skip ?_
  refine aF ?_
  refine AWp.seq' ?_
  refine sr (N' := 192) rfl ?_
  refine pA ?_
  refine fs ?_
  refine AWp.block ?_
  refine AWp.loopM (fun m s => ∃ (a_0 : List bI) (b_1 : List bI) (i_5 : Int), s = (⟨26, (aK (aK (aK (fun _ => AV.any) 0 (.sl (a_0.flatMap bX) a_0.length false)) 1 (.sl (b_1.flatMap bX) b_1.length false)) 5 (.v (.int .i64 i_5))), ⟨bL, 64⟩⟩ : St) ∧ lD m a_0 b_1 i_5 = some r) bY ?_ ?_ ?_
  ·
   rintro s ⟨_, _, _, _, h⟩
   cases h
  ·
   refine ⟨_, ?_, a_0, b_1, 0, rfl, hm⟩
   exact aN id (wV (wD (cE.sl _ _ _) (wD (cE.sl _ _ _) aU))) cT
  ·
   rintro n1 s ⟨a_0, b_1, i_5, rfl, hm⟩
   replace hm : nL (lD n1) a_0 b_1 i_5 = some r := hm
   unfold nL at hm
   refine AWp.seq' ?_
   refine sr (N' := 128) rfl ?_
   iterate 4 refine pA ?_
   refine fs ?_
   refine AWp.condM hm Z1 (fun _ hm => ?_) (fun _ hm => ?_)
   ·
    refine AWp.skip ?_
    refine aF ?_
    refine AWp.seq' ?_
    refine AWp.block ?_
    refine sd mix (by kernel_rfl) (N' := 192) rfl ?_
    iterate 2 refine pA ?_
    obtain ⟨x2, h1, hm⟩ := bnd hm
    refine pu rfl (cP cE Zd Tryz.underlying54 aPe Z1 rfl Z1 h1) ?_
    iterate 3 refine pA ?_
    obtain ⟨x4, h3, hm⟩ := bnd hm
    refine pu rfl (cP cE Zd Tryz.underlying54 aPe Z1 rfl Z1 h3) ?_
    refine pA ?_
    refine aE.pop Zd (aAx Z1 Z1 (.agg _ (cE.dat x2)) (.agg _ (cE.dat x4))) (aRn (xs := [.v (.bool x2.Used), .v (.int .u64 x2.Key)]) (ys := [.v (.bool x4.Used), .v (.int .u64 x4.Key)]) (b := ((x2.Used == x4.Used) && ((x2.Key == x4.Key) && true))) Tryz.underlying151 (by kernel_rfl) (by kernel_rfl) Z1 Z1 (by kernel_rfl)) rfl ?_
    refine fs ?_
    refine AWp.condM hm Z1 (fun _ hm => ?_) (fun _ hm => ?_)
    ·
     refine sr (N' := 256) rfl ?_
     refine pA ?_
     refine fs ?_
     refine AWp.ret ?_
     refine dB ?_
     refine bB ?_
     refine eD ?_
     refine dB ?_
     refine bB ?_
     cases hm
     exact bM (.inr rfl) Tryz.results88 (td Z1 (.v _))
    ·
     refine AWp.skip ?_
     refine cA ?_
     refine aF ?_
     refine AWp.reg 64 (N' := 256) rfl ?_
     iterate 3 refine pA ?_
     refine aE.fin ?_
     refine bU ?_
     refine ⟨_, ?_, a_0, b_1, (IntKind.i64.wrap (i_5 + 1)), rfl, hm⟩
     exact aN id (wV (wD (cE.sl _ _ _) (wD (cE.sl _ _ _) aU))) cT
   ·
    refine AWp.exit ?_
    refine cH ?_
    refine bW ?_
    refine bT ?_
    refine aF ?_
    refine sr (N' := 192) rfl ?_
    refine pA ?_
    refine fs ?_
    refine AWp.ret ?_
    cases hm
    exact bM (.inr rfl) Tryz.results88 (td Z1 (.v _))
def sZ (a_0 : dM) (b_1 : dM) : Option (Bool) :=
 ((mL a_0.Graph b_1.Graph).bind fun r2 =>
 ((oZ a_0.Slots b_1.Slots).bind fun r4 =>
 some (r2 && r4)))
theorem aL8 {a_0 : dM} {b_1 : dM} {r : Bool} (hm : sZ a_0 b_1 = some r) : aT Tryz.prog 44 [.agg [.v (.int .i64 a_0.Graph.Config.N), .v (.int .i64 a_0.Graph.Config.L), .v (.int .i64 a_0.Graph.Config.R), .sl (a_0.Graph.Hashes.flatMap bA) a_0.Graph.Hashes.length false, .sl (a_0.Graph.Edges.flatMap aL) a_0.Graph.Edges.length false, .sl (a_0.Slots.flatMap bX) a_0.Slots.length false], .agg [.v (.int .i64 b_1.Graph.Config.N), .v (.int .i64 b_1.Graph.Config.L), .v (.int .i64 b_1.Graph.Config.R), .sl (b_1.Graph.Hashes.flatMap bA) b_1.Graph.Hashes.length false, .sl (b_1.Graph.Edges.flatMap aL) b_1.Graph.Edges.length false, .sl (b_1.Slots.flatMap bX) b_1.Slots.length false]] (.v (.bool r)) := by
 refine aT.of_body Tryz.func44 rfl ?_
 simp only [Tryz.ntmps44, List.length_cons, List.length_nil, Nat.reduceAdd, Nat.reduceSub, aQ]
 unfold sZ at hm
 refine sr (N' := 64) rfl ?_
 refine hp (id := 0) rfl rfl (bO Z1 Z5) ?_
 refine hp (id := 1) rfl rfl (bO Z1 Z5) ?_
 refine pA ?_
 refine fs ?_
 refine sd mix (by kernel_rfl) (N' := 128) rfl ?_
 refine pA ?_
 refine pu rfl (aD Z1 Z3 Z4) ?_
 refine pA ?_
 refine pu rfl (aD Z1 Z3 Z4) ?_
 obtain ⟨r2, h1, hm⟩ := bnd hm
 refine aE.callQ (r := .v (.bool r2)) Zd Z1 bDw (fun H => (cD (.agg _ (cB.dat _)) (cD (.agg _ (cB.dat _)) .nil))) (aD6 h1) ?_
 refine pA ?_
 refine pu rfl (aD Z1 Z3 Z4) ?_
 refine pA ?_
 refine pu rfl (aD Z1 Z3 Z4) ?_
 obtain ⟨r4, h3, hm⟩ := bnd hm
 refine aE.callQ (r := .v (.bool r4)) Zd Z1 bJ5 (fun H => (cD (cE.sl _ _ _) (cD (cE.sl _ _ _) .nil))) (aJl h3) ?_
 iterate 2 refine pA ?_
 refine fs ?_
 refine sr (N' := 192) rfl ?_
 iterate 5 first | refine pA ?_ | refine pB ?_
 refine fs ?_
 refine AWp.ret ?_
 cases hm
 exact bM (.inr rfl) Tryz.results44 (td Z1 (.v _))
def iL (a_0 : aI) (b_1 : aI) : Option (Bool) :=
 ((sF a_0).bind fun r2 =>
 ((sF b_1).bind fun r4 =>
 ((sZ r2 r4).bind fun r6 =>
 some r6)))
theorem aD9 {a_0 : aI} {b_1 : aI} {r : Bool} (hm : iL a_0 b_1 = some r) : aT Tryz.prog 17 [.agg [.v (.int .i64 a_0.Graph.Config.N), .v (.int .i64 a_0.Graph.Config.L), .v (.int .i64 a_0.Graph.Config.R), .sl (a_0.Graph.Hashes.flatMap bA) a_0.Graph.Hashes.length false, .sl (a_0.Graph.Edges.flatMap aL) a_0.Graph.Edges.length false, .sl (a_0.Slots.flatMap aS) a_0.Slots.length false], .agg [.v (.int .i64 b_1.Graph.Config.N), .v (.int .i64 b_1.Graph.Config.L), .v (.int .i64 b_1.Graph.Config.R), .sl (b_1.Graph.Hashes.flatMap bA) b_1.Graph.Hashes.length false, .sl (b_1.Graph.Edges.flatMap aL) b_1.Graph.Edges.length false, .sl (b_1.Slots.flatMap aS) b_1.Slots.length false]] (.v (.bool r)) := by
 refine aT.of_body Tryz.func17 rfl ?_
 simp only [Tryz.ntmps17, List.length_cons, List.length_nil, Nat.reduceAdd, Nat.reduceSub, aQ]
 unfold iL at hm
 refine sr (N' := 64) rfl ?_
 refine hp (id := 0) rfl rfl (bO Z1 Z5) ?_
 refine hp (id := 1) rfl rfl (bO Z1 Z5) ?_
 refine pA ?_
 refine fs ?_
 refine sd mix (by kernel_rfl) (N' := 128) rfl ?_
 refine pu rfl (aD Z1 Z3 Z2) ?_
 obtain ⟨r2, h1, hm⟩ := bnd hm
 refine aE.callQ (r := .agg [.v (.int .i64 r2.Graph.Config.N), .v (.int .i64 r2.Graph.Config.L), .v (.int .i64 r2.Graph.Config.R), .sl (r2.Graph.Hashes.flatMap bA) r2.Graph.Hashes.length false, .sl (r2.Graph.Edges.flatMap aL) r2.Graph.Edges.length false, .sl (r2.Slots.flatMap bX) r2.Slots.length false]) Zd Z1 bC2 (fun H => (cD (.agg _ (bE.dat _)) .nil)) (aEv h1) ?_
 refine pu rfl (aD Z1 Z3 Z2) ?_
 obtain ⟨r4, h3, hm⟩ := bnd hm
 refine aE.callQ (r := .agg [.v (.int .i64 r4.Graph.Config.N), .v (.int .i64 r4.Graph.Config.L), .v (.int .i64 r4.Graph.Config.R), .sl (r4.Graph.Hashes.flatMap bA) r4.Graph.Hashes.length false, .sl (r4.Graph.Edges.flatMap aL) r4.Graph.Edges.length false, .sl (r4.Slots.flatMap bX) r4.Slots.length false]) Zd Z1 bC2 (fun H => (cD (.agg _ (bE.dat _)) .nil)) (aEv h3) ?_
 obtain ⟨r6, h5, hm⟩ := bnd hm
 refine aE.callQ (r := .v (.bool r6)) Zd Z1 bLb (fun H => (cD (.agg _ (jS.dat _)) (cD (.agg _ (jS.dat _)) .nil))) (aL8 h5) ?_
 refine pA ?_
 refine fs ?_
 refine AWp.ret ?_
 cases hm
 exact bM (.inr rfl) Tryz.results17 (td Z1 (.v _))
end Go.Proofs.YtkdohhmacfoolaaGreat
