/- Facts that the statement's proof is made of. No condition. -/
import Derived.Test.YtkdohhmacfoolaaGreatNbGA1
set_option linter.unusedVariables false
set_option linter.unusedSimpArgs false
set_option maxRecDepth 20000
set_option maxHeartbeats 4000000
namespace Go.Proofs.YtkdohhmacfoolaaGreat
open Go Go.AM
structure aW where
 R : Int
 V : Int
 Words : List Int
deriving DecidableEq
def rQ (e : aW) : List AV := [.v (.int .i64 e.R), .v (.int .i64 e.V), .sl (e.Words.flatMap (ci .u64)) e.Words.length false]
theorem cM : CF rQ 3 := ⟨fun _ => rfl, fun a x hx => by
 simp only [rQ, List.mem_cons, List.not_mem_nil, or_false] at hx
 rcases hx with rfl | rfl | rfl
 ·
  exact (.v _)
 ·
  exact (.v _)
 ·
  exact ((CFi .u64).sl _ _ _), fun _ => rfl⟩
theorem aAe (e : aW) (r : List AV) : rQ e ++ r = .v (.int .i64 e.R) :: .v (.int .i64 e.V) :: .sl (e.Words.flatMap (ci .u64)) e.Words.length false :: r := rfl
attribute [go_sem] aAe
theorem aLq (i o : Nat) : aM Tryz.prog 102 (.adr i o) 0 = some (.adr i (o + 0)) := by kernel_rfl
attribute [go_sem] aLq
theorem aLs (i o : Nat) : aM Tryz.prog 102 (.adr i o) 1 = some (.adr i (o + 1)) := by kernel_rfl
attribute [go_sem] aLs
theorem aOf (i o : Nat) : aM Tryz.prog 102 (.adr i o) 2 = some (.adr i (o + 2)) := by kernel_rfl
attribute [go_sem] aOf
theorem aM4 (i o : Nat) : aM Tryz.prog 120 (.adr i o) 0 = some (.adr i (o + 0)) := by kernel_rfl
attribute [go_sem] aM4
theorem aNw (i o : Nat) : aM Tryz.prog 120 (.adr i o) 1 = some (.adr i (o + 1)) := by kernel_rfl
attribute [go_sem] aNw
theorem aRt (i o : Nat) : aM Tryz.prog 23 (.adr i o) 0 = some (.adr i (o + 0)) := by kernel_rfl
attribute [go_sem] aRt
theorem aQn (i o : Nat) : aM Tryz.prog 23 (.adr i o) 1 = some (.adr i (o + 1)) := by kernel_rfl
attribute [go_sem] aQn
theorem aR7 (i o : Nat) : aM Tryz.prog 23 (.adr i o) 2 = some (.adr i (o + 2)) := by kernel_rfl
attribute [go_sem] aR7
theorem aNj (i o : Nat) : aM Tryz.prog 243 (.adr i o) 0 = some (.adr i (o + 0)) := by kernel_rfl
attribute [go_sem] aNj
theorem aMn (i o : Nat) : aM Tryz.prog 243 (.adr i o) 1 = some (.adr i (o + 1)) := by kernel_rfl
attribute [go_sem] aMn
theorem aNf (i o : Nat) : aM Tryz.prog 243 (.adr i o) 2 = some (.adr i (o + 2)) := by kernel_rfl
attribute [go_sem] aNf
theorem aS7 (i o : Nat) : aM Tryz.prog 30 (.adr i o) 0 = some (.adr i (o + 0)) := by kernel_rfl
attribute [go_sem] aS7
theorem aRr (i o : Nat) : aM Tryz.prog 30 (.adr i o) 1 = some (.adr i (o + 3)) := by kernel_rfl
attribute [go_sem] aRr
theorem aQv (i o : Nat) : aM Tryz.prog 30 (.adr i o) 2 = some (.adr i (o + 4)) := by kernel_rfl
attribute [go_sem] aQv
theorem aVo (H : aP) (x0 x1 x2 : AV) (xs : List AV) : cF Tryz.prog H 102 (.ptr (x0 :: x1 :: x2 :: xs)) = some (.agg [x0, x1, x2]) := by kernel_rfl
attribute [go_sem] aVo
theorem aTx (H : aP) (x0 x1 : AV) (xs : List AV) : cF Tryz.prog H 120 (.ptr (x0 :: x1 :: xs)) = some (.agg [x0, x1]) := by kernel_rfl
attribute [go_sem] aTx
theorem aY8 (H : aP) (x : AV) (xs : List AV) : cF Tryz.prog H 24 (.ptr (x :: xs)) = some x := by kernel_rfl
attribute [go_sem] aY8
theorem aTu (H : aP) (x0 x1 x2 : AV) (xs : List AV) : cF Tryz.prog H 243 (.ptr (x0 :: x1 :: x2 :: xs)) = some (.agg [x0, x1, x2]) := by kernel_rfl
attribute [go_sem] aTu
theorem aWk (H : aP) (x : AV) (xs : List AV) : cF Tryz.prog H 27 (.ptr (x :: xs)) = some x := by kernel_rfl
attribute [go_sem] aWk
theorem aY7 (H : aP) (x : AV) (xs : List AV) : cF Tryz.prog H 28 (.ptr (x :: xs)) = some x := by kernel_rfl
attribute [go_sem] aY7
theorem bAl (H : aP) (x : AV) (xs : List AV) : cF Tryz.prog H 3 (.ptr (x :: xs)) = some x := by kernel_rfl
attribute [go_sem] bAl
theorem aY9 (H : aP) (x0 x1 x2 x3 x4 : AV) (xs : List AV) : cF Tryz.prog H 30 (.ptr (x0 :: x1 :: x2 :: x3 :: x4 :: xs)) = some (.agg [x0, x1, x2, x3, x4]) := by kernel_rfl
attribute [go_sem] aY9
theorem bAc (H : aP) (x : AV) (xs : List AV) : cF Tryz.prog H 4 (.ptr (x :: xs)) = some x := by kernel_rfl
attribute [go_sem] bAc
theorem aXe (H : aP) (x : AV) (xs : List AV) : cF Tryz.prog H 43 (.ptr (x :: xs)) = some x := by kernel_rfl
attribute [go_sem] aXe
theorem aQd (H : aP) (k : IntKind) (n : Int) : jX Tryz.prog H 3 43 (.v (.int k n)) = some (.v (.int .u64 (IntKind.u64.wrap n))) := eY Tryz.underlying3 Tryz.underlying43
attribute [go_sem] aQd
theorem aOt (H : aP) (k : IntKind) (n : Int) : jX Tryz.prog H 3 198 (.v (.int k n)) = some (.v (.int .u64 (IntKind.u64.wrap n))) := eY Tryz.underlying3 Tryz.underlying198
attribute [go_sem] aOt
theorem aU7 (H : aP) (k : IntKind) (n : Int) : jX Tryz.prog H 5 3 (.v (.int k n)) = some (.v (.int .i64 (IntKind.i64.wrap n))) := eY Tryz.underlying5 Tryz.underlying3
attribute [go_sem] aU7
theorem aSl (H : aP) (k : IntKind) (n : Int) : jX Tryz.prog H 43 3 (.v (.int k n)) = some (.v (.int .i64 (IntKind.i64.wrap n))) := eY Tryz.underlying43 Tryz.underlying3
attribute [go_sem] aSl
theorem aNb (H : aP) (k : IntKind) (n : Int) : jX Tryz.prog H 214 5 (.v (.int k n)) = some (.v (.int .u8 (IntKind.u8.wrap n))) := eY Tryz.underlying214 Tryz.underlying5
attribute [go_sem] aNb
def xS (hi_0 : Int) (lo_1 : Int) (y_2 : Int) : Option (Int) :=
 ((chk (y_2 != 0)).bind fun _ =>
 ((yG (Int.tmod hi_0 y_2) lo_1 y_2).bind fun ⟨r3, r4⟩ =>
 some r4))
theorem aJm {hi_0 : Int} {lo_1 : Int} {y_2 : Int} {r : Int} (hm : xS hi_0 lo_1 y_2 = some r) : aT Tryz.prog 166 [.v (.int .u64 hi_0), .v (.int .u64 lo_1), .v (.int .u64 y_2)] (.v (.int .u64 r)) := by
 refine aT.of_body Tryz.func166 rfl ?_
 simp only [Tryz.ntmps166, List.length_cons, List.length_nil, Nat.reduceAdd, Nat.reduceSub, aQ]
 unfold xS at hm
 refine sr (N' := 64) rfl ?_
 refine pA ?_
 refine fs ?_
 refine sr (N' := 128) rfl ?_
 iterate 2 refine pA ?_
 obtain ⟨_, h1, hm⟩ := bnd hm
 refine pu rfl (aTc Z1 Z1 (dT h1)) ?_
 iterate 2 refine pA ?_
 obtain ⟨⟨r3, r4⟩, h2, hm⟩ := bnd hm
 refine aE.callQ (r := .tup [.v (.int .u64 r3), .v (.int .u64 r4)]) Zd Z1 bC1 (fun H => (cV (cV (cV .nil)))) (aKw h2) ?_
 iterate 5 refine pA ?_
 refine fs ?_
 refine sr (N' := 192) rfl ?_
 iterate 2 refine pA ?_
 refine fs ?_
 refine AWp.ret ?_
 cases hm
 exact bM (.inr rfl) Tryz.results166 (td Z1 (.v _))
def aFq (a_0 : Int) (b_1 : Int) : Option (Int) :=
 ((yX a_0).bind fun r2 =>
 ((yX b_1).bind fun r4 =>
 ((xK r2 r4).bind fun ⟨r6, r7⟩ =>
 ((xS r6 r7 2305843009213693951).bind fun r9 =>
 some r9))))
theorem aV2 {a_0 : Int} {b_1 : Int} {r : Int} (hm : aFq a_0 b_1 = some r) : aT Tryz.prog 139 [.v (.int .u64 a_0), .v (.int .u64 b_1)] (.v (.int .u64 r)) := by
 refine aT.of_body Tryz.func139 rfl ?_
 simp only [Tryz.ntmps139, List.length_cons, List.length_nil, Nat.reduceAdd, Nat.reduceSub, aQ]
 unfold aFq at hm
 refine sr (N' := 64) rfl ?_
 refine pA ?_
 refine fs ?_
 refine sr (N' := 128) rfl ?_
 refine pA ?_
 obtain ⟨r2, h1, hm⟩ := bnd hm
 refine aE.callQ (r := .v (.int .u64 r2)) Zd Z1 aPl (fun H => (cV .nil)) (aEt h1) ?_
 refine pA ?_
 obtain ⟨r4, h3, hm⟩ := bnd hm
 refine aE.callQ (r := .v (.int .u64 r4)) Zd Z1 aPl (fun H => (cV .nil)) (aEt h3) ?_
 obtain ⟨⟨r6, r7⟩, h5, hm⟩ := bnd hm
 refine aE.callQ (r := .tup [.v (.int .u64 r6), .v (.int .u64 r7)]) Zd Z1 bCm (fun H => (cV (cV .nil))) (aKd h5) ?_
 iterate 5 refine pA ?_
 refine fs ?_
 refine sr (N' := 192) rfl ?_
 iterate 2 refine pA ?_
 obtain ⟨r9, h8, hm⟩ := bnd hm
 refine aE.callQ (r := .v (.int .u64 r9)) Zd Z1 bC9 (fun H => (cV (cV (cV .nil)))) (aJm h8) ?_
 refine pA ?_
 refine fs ?_
 refine AWp.ret ?_
 cases hm
 exact bM (.inr rfl) Tryz.results139 (td Z1 (.v _))
def yA (n_0 : Int) (l_1 : List aC) (v_2 : Int) : Option ((List Int)) :=
 ((iP n_0 l_1).bind fun r2 =>
 (bif (!r2) then
  some []
 else
  ((nT n_0 l_1).bind fun ⟨r4, r5⟩ =>
  ((pH r4 v_2).bind fun r7 =>
  some r7))))
theorem aKm {n_0 : Int} {l_1 : List aC} {v_2 : Int} {r : (List Int)} (hm : yA n_0 l_1 v_2 = some r) : aT Tryz.prog 197 [.v (.int .i64 n_0), .sl (l_1.flatMap aL) l_1.length false, .v (.int .i64 v_2)] (.sl (r.flatMap (ci .i64)) r.length false) := by
 refine aT.of_body Tryz.func197 rfl ?_
 simp only [Tryz.ntmps197, List.length_cons, List.length_nil, Nat.reduceAdd, Nat.reduceSub, aQ]
 unfold yA at hm
 refine sr (N' := 64) rfl ?_
 refine pA ?_
 refine fs ?_
 refine AWp.seq' ?_
 refine sr (N' := 128) rfl ?_
 iterate 2 refine pA ?_
 obtain ⟨r2, h1, hm⟩ := bnd hm
 refine aE.callQ (r := .v (.bool r2)) Zd Z1 bA9 (fun H => (cV (cD (aG.sl _ _ _) .nil))) (vE h1) ?_
 refine pA ?_
 refine fs ?_
 refine AWp.condM hm Z1 (fun _ hm => ?_) (fun _ hm => ?_)
 ·
  refine sr (N' := 192) rfl ?_
  refine pA ?_
  refine fs ?_
  refine AWp.ret ?_
  refine bB ?_
  cases hm
  exact bM (.inr rfl) Tryz.results197 (tdn Z1)
 ·
  refine AWp.skip ?_
  refine aF ?_
  refine sr (N' := 192) rfl ?_
  iterate 2 refine pA ?_
  obtain ⟨⟨r4, r5⟩, h3, hm⟩ := bnd hm
  refine aE.callQ (r := .tup [.sl (r4.flatMap (ci .i64)) r4.length false, .v (.int .i64 r5)]) Zd Z1 aXr (fun H => (cV (cD (aG.sl _ _ _) .nil))) (aBd h3) ?_
  iterate 5 refine pA ?_
  refine fs ?_
  refine sr (N' := 256) rfl ?_
  iterate 2 refine pA ?_
  obtain ⟨r7, h6, hm⟩ := bnd hm
  refine aE.callQ (r := .sl (r7.flatMap (ci .i64)) r7.length false) Zd Z1 bA1 (fun H => (cD ((CFi .i64).sl _ _ _) (cV .nil))) (xC h6) ?_
  refine pA ?_
  refine fs ?_
  refine AWp.ret ?_
  cases hm
  exact bM (.inr rfl) Tryz.results197 (td Z1 ((CFi .i64).sl _ _ _))
def oQ (g_0 : aJ) (tier_1 : Int) (v_2 : Int) : Option ((List Int)) :=
 ((fQ g_0.Config.N g_0.Edges tier_1).bind fun r2 =>
 ((yA g_0.Config.N r2 v_2).bind fun r4 =>
 some r4))
theorem zU {g_0 : aJ} {tier_1 : Int} {v_2 : Int} {r : (List Int)} (hm : oQ g_0 tier_1 v_2 = some r) : aT Tryz.prog 184 [.agg [.v (.int .i64 g_0.Config.N), .v (.int .i64 g_0.Config.L), .v (.int .i64 g_0.Config.R), .sl (g_0.Hashes.flatMap bA) g_0.Hashes.length false, .sl (g_0.Edges.flatMap aL) g_0.Edges.length false], .v (.int .i64 tier_1), .v (.int .i64 v_2)] (.sl (r.flatMap (ci .i64)) r.length false) := by
 refine aT.of_body Tryz.func184 rfl ?_
 simp only [Tryz.ntmps184, List.length_cons, List.length_nil, Nat.reduceAdd, Nat.reduceSub, aQ]
 unfold oQ at hm
 refine sr (N' := 64) rfl ?_
 refine hp (id := 0) rfl rfl (bO Z1 Z5) ?_
 refine pA ?_
 refine fs ?_
 refine sr (N' := 128) rfl ?_
 iterate 2 refine pA ?_
 refine pu rfl (aD Z1 Z3 Z4) ?_
 refine pA ?_
 refine fs ?_
 refine sr (N' := 192) rfl ?_
 iterate 3 refine pA ?_
 refine pu rfl (aD Z1 Z3 Z4) ?_
 refine pA ?_
 obtain ⟨r2, h1, hm⟩ := bnd hm
 refine aE.callQ (r := .sl (r2.flatMap aL) r2.length false) Zd Z1 aTn (fun H => (cV (cD (aG.sl _ _ _) (cV .nil)))) (lO h1) ?_
 refine pA ?_
 obtain ⟨r4, h3, hm⟩ := bnd hm
 refine aE.callQ (r := .sl (r4.flatMap (ci .i64)) r4.length false) Zd Z1 bH7 (fun H => (cV (cD (aG.sl _ _ _) (cV .nil)))) (aKm h3) ?_
 refine pA ?_
 refine fs ?_
 refine AWp.ret ?_
 cases hm
 exact bM (.inr rfl) Tryz.results184 (td Z1 ((CFi .i64).sl _ _ _))
def qW (g_0 : aJ) (tier_1 : Int) (v_2 : Int) : Option ((List Int)) :=
 ((dU g_0).bind fun r2 =>
 (bif (((((!r2) || (decide (tier_1 < 0))) || (decide (g_0.Config.L < tier_1))) || (decide (v_2 < 0))) || (decide (g_0.Config.N ≤ v_2))) then
  some []
 else
  ((oQ g_0 tier_1 v_2).bind fun r4 =>
  some r4)))
theorem aBg {g_0 : aJ} {tier_1 : Int} {v_2 : Int} {r : (List Int)} (hm : qW g_0 tier_1 v_2 = some r) : aT Tryz.prog 168 [.agg [.v (.int .i64 g_0.Config.N), .v (.int .i64 g_0.Config.L), .v (.int .i64 g_0.Config.R), .sl (g_0.Hashes.flatMap bA) g_0.Hashes.length false, .sl (g_0.Edges.flatMap aL) g_0.Edges.length false], .v (.int .i64 tier_1), .v (.int .i64 v_2)] (.sl (r.flatMap (ci .i64)) r.length false) := by
 refine aT.of_body Tryz.func168 rfl ?_
 simp only [Tryz.ntmps168, List.length_cons, List.length_nil, Nat.reduceAdd, Nat.reduceSub, aQ]
 unfold qW at hm
 refine sr (N' := 64) rfl ?_
 refine hp (id := 0) rfl rfl (bO Z1 Z5) ?_
 refine pA ?_
 refine fs ?_
 refine AWp.seq' ?_
 refine sr (N' := 128) rfl ?_
 refine pu rfl (aD Z1 Z3 Z2) ?_
 obtain ⟨r2, h1, hm⟩ := bnd hm
 refine aE.callQ (r := .v (.bool r2)) Zd Z1 aLe (fun H => (cD (.agg _ (cB.dat _)) .nil)) (gE h1) ?_
 iterate 9 first | refine pA ?_ | refine pB ?_
 refine pg rfl rfl Z2 (fun hb => (aD (Zh hb) Z3 Z4)) ?_
 iterate 10 first | refine pA ?_ | refine pB ?_
 refine pg rfl rfl Z2 (fun hb => (aD (Zh hb) Z3 Z4)) ?_
 iterate 2 first | refine pA ?_ | refine pB ?_
 refine fs ?_
 refine AWp.condM hm Z1 (fun _ hm => ?_) (fun _ hm => ?_)
 ·
  refine sr (N' := 192) rfl ?_
  refine pA ?_
  refine fs ?_
  refine AWp.ret ?_
  refine bB ?_
  cases hm
  exact bM (.inr rfl) Tryz.results168 (tdn Z1)
 ·
  refine AWp.skip ?_
  refine aF ?_
  refine sr (N' := 192) rfl ?_
  refine pu rfl (aD Z1 Z3 Z2) ?_
  iterate 2 refine pA ?_
  obtain ⟨r4, h3, hm⟩ := bnd hm
  refine aE.callQ (r := .sl (r4.flatMap (ci .i64)) r4.length false) Zd Z1 aYz (fun H => (cD (.agg _ (cB.dat _)) (cV (cV .nil)))) (zU h3) ?_
  refine pA ?_
  refine fs ?_
  refine AWp.ret ?_
  cases hm
  exact bM (.inr rfl) Tryz.results168 (td Z1 ((CFi .i64).sl _ _ _))
def nE (g_0 : aJ) (tier_1 : Int) (v_2 : Int) : Option (Bool) :=
 ((dU g_0).bind fun r2 =>
 some ((((r2 && (decide (0 ≤ tier_1))) && (decide (tier_1 < g_0.Config.L))) && (decide (0 ≤ v_2))) && (decide (v_2 < g_0.Config.N))))
theorem aCb {g_0 : aJ} {tier_1 : Int} {v_2 : Int} {r : Bool} (hm : nE g_0 tier_1 v_2 = some r) : aT Tryz.prog 185 [.agg [.v (.int .i64 g_0.Config.N), .v (.int .i64 g_0.Config.L), .v (.int .i64 g_0.Config.R), .sl (g_0.Hashes.flatMap bA) g_0.Hashes.length false, .sl (g_0.Edges.flatMap aL) g_0.Edges.length false], .v (.int .i64 tier_1), .v (.int .i64 v_2)] (.v (.bool r)) := by
 refine aT.of_body Tryz.func185 rfl ?_
 simp only [Tryz.ntmps185, List.length_cons, List.length_nil, Nat.reduceAdd, Nat.reduceSub, aQ]
 unfold nE at hm
 refine sr (N' := 64) rfl ?_
 refine hp (id := 0) rfl rfl (bO Z1 Z5) ?_
 refine pA ?_
 refine fs ?_
 refine sr (N' := 128) rfl ?_
 refine pu rfl (aD Z1 Z3 Z2) ?_
 obtain ⟨r2, h1, hm⟩ := bnd hm
 refine aE.callQ (r := .v (.bool r2)) Zd Z1 aLe (fun H => (cD (.agg _ (cB.dat _)) .nil)) (gE h1) ?_
 iterate 8 first | refine pA ?_ | refine pB ?_
 refine pg rfl rfl Z2 (fun hb => (aD (Zh hb) Z3 Z4)) ?_
 iterate 10 first | refine pA ?_ | refine pB ?_
 refine pg rfl rfl Z2 (fun hb => (aD (Zh hb) Z3 Z4)) ?_
 iterate 3 first | refine pA ?_ | refine pB ?_
 refine fs ?_
 refine AWp.ret ?_
 cases hm
 exact bM (.inr rfl) Tryz.results185 (td Z1 (.v _))
def aAp (rec1 : Int → List Int → Int → Int → Option (Bool)) (n_0 : Int) (t13 : List Int) (t14 : Int) (t15 : Int) : Option (Bool) :=
 (bif (decide (t15 < t14)) then
  ((idx t13 t15).bind fun x4 =>
  (bif ((decide (x4 < 0)) || (decide (n_0 ≤ x4))) then
   some false
  else
   rec1 n_0 t13 t14 (IntKind.i64.wrap (t15 + 1))))
 else
  some true)
def uZ : Nat → Int → List Int → Int → Int → Option (Bool)
 | 0 => fun _ _ _ _ => none
 | n + 1 => aAp (uZ n)
def aCk (n_0 : Int) (l_1 : List aC) (set_2 : List Int) : Option (Bool) :=
 ((fC n_0 l_1).bind fun r2 =>
 (bif (!r2) then
  some false
 else
  uZ bY n_0 set_2 (set_2.length : Int) 0))
theorem aRc {n_0 : Int} {l_1 : List aC} {set_2 : List Int} {r : Bool} (hm : aCk n_0 l_1 set_2 = some r) : aT Tryz.prog 205 [.v (.int .i64 n_0), .sl (l_1.flatMap aL) l_1.length false, .sl (set_2.flatMap (ci .i64)) set_2.length false] (.v (.bool r)) := by
 refine aT.of_body Tryz.func205 rfl ?_
 simp only [Tryz.ntmps205, List.length_cons, List.length_nil, Nat.reduceAdd, Nat.reduceSub, aQ]
 unfold aCk at hm
 refine sr (N' := 64) rfl ?_
 refine pA ?_
 refine fs ?_
 refine AWp.seq' ?_
 refine sr (N' := 128) rfl ?_
 iterate 2 refine pA ?_
 obtain ⟨r2, h1, hm⟩ := bnd hm
 refine aE.callQ (r := .v (.bool r2)) Zd Z1 aOg (fun H => (cV (cD (aG.sl _ _ _) .nil))) (iN h1) ?_
 refine pA ?_
 refine fs ?_
 refine AWp.condM hm Z1 (fun _ hm => ?_) (fun _ hm => ?_)
 ·
  refine sr (N' := 192) rfl ?_
  refine pA ?_
  refine fs ?_
  refine AWp.ret ?_
  refine bB ?_
  cases hm
  exact bM (.inr rfl) Tryz.results205 (td Z1 (.v _))
 ·
  refine AWp.skip ?_
  refine aF ?_
  refine AWp.seq' ?_
  refine sr (N' := 192) rfl ?_
  iterate 3 refine pA ?_
  refine fs ?_
  refine AWp.block ?_
  refine AWp.loopM (fun m s => ∃ (n_0 : Int) (t13 : List Int) (t14 : Int) (t15 : Int), s = (⟨27, (aK (aK (aK (aK (fun _ => AV.any) 0 (.v (.int .i64 n_0))) 13 (.sl (t13.flatMap (ci .i64)) t13.length false)) 14 (.v (.int .i64 t14))) 15 (.v (.int .i64 t15))), ⟨bL, 64⟩⟩ : St) ∧ uZ m n_0 t13 t14 t15 = some r) bY ?_ ?_ ?_
  ·
   rintro s ⟨_, _, _, _, _, h⟩
   cases h
  ·
   refine ⟨_, ?_, n_0, set_2, (set_2.length : Int), 0, rfl, hm⟩
   exact aN id (wV (wV (wD ((CFi .i64).sl _ _ _) (wV aU)))) cT
  ·
   rintro n1 s ⟨n_0, t13, t14, t15, rfl, hm⟩
   replace hm : aAp (uZ n1) n_0 t13 t14 t15 = some r := hm
   unfold aAp at hm
   refine sr (N' := 128) rfl ?_
   refine pA ?_
   refine fs ?_
   refine AWp.seq' ?_
   refine AWp.condM hm Z1 (fun _ hm => ?_) (fun _ hm => ?_)
   ·
    refine AWp.skip ?_
    refine aF ?_
    refine AWp.seq' ?_
    refine AWp.block ?_
    refine sr (N' := 192) rfl ?_
    obtain ⟨x4, h3, hm⟩ := bnd hm
    refine pu rfl (cP (CFi .i64) Zd Tryz.underlying112 sz3 Z1 rfl Z1 h3) ?_
    iterate 2 refine pA ?_
    refine fs ?_
    refine sr (N' := 256) rfl ?_
    iterate 7 first | refine pA ?_ | refine pB ?_
    refine fs ?_
    refine AWp.condM hm Z1 (fun _ hm => ?_) (fun _ hm => ?_)
    ·
     refine sr (N' := 320) rfl ?_
     refine pA ?_
     refine fs ?_
     refine AWp.ret ?_
     refine dB ?_
     refine bB ?_
     refine eD ?_
     refine dB ?_
     refine bB ?_
     cases hm
     exact bM (.inr rfl) Tryz.results205 (td Z1 (.v _))
    ·
     refine AWp.skip ?_
     refine cA ?_
     refine aF ?_
     refine AWp.reg 64 (N' := 320) rfl ?_
     iterate 2 refine pA ?_
     refine aE.fin ?_
     refine bU ?_
     refine ⟨_, ?_, n_0, t13, t14, (IntKind.i64.wrap (t15 + 1)), rfl, hm⟩
     exact aN id (wV (wV (wD ((CFi .i64).sl _ _ _) (wV aU)))) cT
   ·
    refine AWp.exit ?_
    refine cH ?_
    refine bW ?_
    refine bT ?_
    refine aF ?_
    refine sr (N' := 192) rfl ?_
    refine pA ?_
    refine fs ?_
    refine AWp.ret ?_
    cases hm
    exact bM (.inr rfl) Tryz.results205 (td Z1 (.v _))
def qQ (rec1 : List Bool → List aC → List aC → Int → Int → Option ((List aC))) (mark_1 : List Bool) (out_5 : List aC) (t8 : List aC) (t9 : Int) (t10 : Int) : Option ((List aC)) :=
 rec1 mark_1 out_5 t8 t9 (IntKind.i64.wrap (t10 + 1))
def vW (rec1 : List Bool → List aC → List aC → Int → Int → Option ((List aC))) (mark_1 : List Bool) (out_5 : List aC) (t8 : List aC) (t9 : Int) (t10 : Int) : Option ((List aC)) :=
 (bif (decide (t10 < t9)) then
  ((idx t8 t10).bind fun x2 =>
  ((idx mark_1 x2.U).bind fun x4 =>
  ((idx mark_1 x2.V).bind fun x6 =>
  (bif (!(x4 == x6)) then
   ((app out_5 [x2]).bind fun l8 =>
   qQ rec1 mark_1 l8 t8 t9 t10)
  else
   qQ rec1 mark_1 out_5 t8 t9 t10))))
 else
  some out_5)
def mS : Nat → List Bool → List aC → List aC → Int → Int → Option ((List aC))
 | 0 => fun _ _ _ _ _ => none
 | n + 1 => vW (mS n)
def yK (l_0 : List aC) (mark_1 : List Bool) : Option ((List aC)) :=
 mS bY mark_1 [] l_0 (l_0.length : Int) 0
theorem aKk {l_0 : List aC} {mark_1 : List Bool} {r : (List aC)} (hm : yK l_0 mark_1 = some r) : aT Tryz.prog 206 [.sl (l_0.flatMap aL) l_0.length false, .sl (mark_1.flatMap aFx) mark_1.length false] (.sl (r.flatMap aL) r.length false) := by
 refine aT.of_body Tryz.func206 rfl ?_
 simp only [Tryz.ntmps206, List.length_cons, List.length_nil, Nat.reduceAdd, Nat.reduceSub, aQ]
 unfold yK at hm
 refine sr (N' := 64) rfl ?_
 refine pA ?_
 refine fs ?_
 refine sr (N' := 128) rfl ?_
 refine pA ?_
 refine fs ?_
 refine AWp.seq' ?_
 refine sr (N' := 192) rfl ?_
 iterate 3 refine pA ?_
 refine fs ?_
 refine AWp.block ?_
 refine AWp.loopM (fun m s => ∃ (mark_1 : List Bool) (out_5 : List aC) (t8 : List aC) (t9 : Int) (t10 : Int), s = (⟨31, (aK (aK (aK (aK (aK (fun _ => AV.any) 1 (.sl (mark_1.flatMap aFx) mark_1.length false)) 5 (.own 1 0 out_5.length)) 8 (.sl (t8.flatMap aL) t8.length false)) 9 (.v (.int .i64 t9))) 10 (.v (.int .i64 t10))), ⟨(upd bL 1 (.cells 3 (out_5.flatMap aL) 0)), 64⟩⟩ : St) ∧ mS m mark_1 out_5 t8 t9 t10 = some r) bY ?_ ?_ ?_
 ·
  rintro s ⟨_, _, _, _, _, _, h⟩
  cases h
 ·
  refine ⟨_, ?_, mark_1, [], l_0, (l_0.length : Int), 0, rfl, hm⟩
  refine St.Le.trans (kA 5 900005 3 Z1 Z5) ?_
  exact aN (fun j => bif j == 1 then 900005 else 0) (wV (wV (wD (aG.sl _ _ _) (wO (wD (CFb.sl _ _ _) aU))))) (hW (eU aG aR))
 ·
  rintro n1 s ⟨mark_1, out_5, t8, t9, t10, rfl, hm⟩
  replace hm : vW (mS n1) mark_1 out_5 t8 t9 t10 = some r := hm
  unfold vW at hm
  refine sr (N' := 128) rfl ?_
  refine pA ?_
  refine fs ?_
  refine AWp.seq' ?_
  refine AWp.condM hm Z1 (fun _ hm => ?_) (fun _ hm => ?_)
  ·
   refine AWp.skip ?_
   refine aF ?_
   refine AWp.seqJ (fun s => ∃ (mark_1 : List Bool) (out_5 : List aC) (t8 : List aC) (t9 : Int) (t10 : Int), s = (⟨31, (aK (aK (aK (aK (aK (fun _ => AV.any) 1 (.sl (mark_1.flatMap aFx) mark_1.length false)) 5 (.own 1 0 out_5.length)) 8 (.sl (t8.flatMap aL) t8.length false)) 9 (.v (.int .i64 t9))) 10 (.v (.int .i64 t10))), ⟨(upd bL 1 (.cells 3 (out_5.flatMap aL) 0)), 64⟩⟩ : St) ∧ qQ (mS n1) mark_1 out_5 t8 t9 t10 = some r) ?_ ?_
   ·
    refine AWp.block ?_
    refine sr (N' := 192) rfl ?_
    obtain ⟨x2, h1, hm⟩ := bnd hm
    refine pu rfl (cP aG Zd Tryz.underlying28 dQ Z1 rfl Z1 h1) ?_
    refine pA ?_
    refine hp (id := 130) rfl rfl (aY jI Z5) ?_
    refine aE.heap0 (id := 131) rfl (bG (ys := [.v (.int .i64 x2.U), .v (.int .i64 x2.V), .v (.int .i64 x2.Tier)]) dQ Z1 Z1 Z3 rfl (Nat.le_of_ble_eq_true rfl) Z9 rfl) ?_
    refine fs ?_
    refine sd mix (by kernel_rfl) (N' := 256) rfl ?_
    iterate 2 refine pA ?_
    refine pu rfl (aD Z1 Z3 Z4) ?_
    obtain ⟨x4, h3, hm⟩ := bnd hm
    refine pu rfl (cP CFb Zd Tryz.underlying265 sz4 Z1 rfl Z1 h3) ?_
    iterate 3 refine pA ?_
    refine pu rfl (aD Z1 Z3 Z4) ?_
    obtain ⟨x6, h5, hm⟩ := bnd hm
    refine pu rfl (cP CFb Zd Tryz.underlying265 sz4 Z1 rfl Z1 h5) ?_
    iterate 2 refine pA ?_
    refine fs ?_
    refine AWp.condM hm Z1 (fun _ hm => ?_) (fun _ hm => ?_)
    ·
     refine AWp.reg 64 (N' := 320) rfl ?_
     refine pA ?_
     refine pu rfl (aD Z1 Z3 Z2) ?_
     refine hp (id := 258) rfl rfl (eE aG (l := [x2]) Tryz.underlying28 dQ jI Z5 Zd Zd Zd (by simp only [go_sem, Nat.reduceBEq]; try rfl) (by kernel_rfl)) ?_
     obtain ⟨l8, h7, hm⟩ := bnd hm
     refine hp (id := 259) rfl rfl (iI aG Tryz.underlying28 Tryz.underlying28 rfl aFo aFm (by rw [sT]; decide) (by rw [sT]; decide) aFw Zd Zd Z1 Z3 Z6 (lM aG Z1 Z3 Z6) rfl Z5 h7) ?_
     refine pA ?_
     refine aE.fin ?_
     refine cA ?_
     refine dY ?_
     refine ⟨_, ?_, mark_1, l8, t8, t9, t10, rfl, hm⟩
     exact aN (fun j => bif j == 1 then 259 else 0) (wV (wV (wD (aG.sl _ _ _) (wO (wD (CFb.sl _ _ _) aU))))) (hW (eU aG aR))
    ·
     refine AWp.skip ?_
     refine cA ?_
     refine dY ?_
     refine ⟨_, ?_, mark_1, out_5, t8, t9, t10, rfl, hm⟩
     exact aN (fun j => bif j == 1 then 1 else 0) (wV (wV (wD (aG.sl _ _ _) (wO (wD (CFb.sl _ _ _) aU))))) (hW (eU aG aR))
   ·
    rintro s ⟨mark_1, out_5, t8, t9, t10, rfl, hm⟩
    unfold qQ at hm
    refine AWp.reg 64 (N' := 128) rfl ?_
    iterate 2 refine pA ?_
    refine aE.fin ?_
    refine bU ?_
    refine ⟨_, ?_, mark_1, out_5, t8, t9, (IntKind.i64.wrap (t10 + 1)), rfl, hm⟩
    exact aN (fun j => bif j == 1 then 1 else 0) (wV (wV (wD (aG.sl _ _ _) (wO (wD (CFb.sl _ _ _) aU))))) (hW (eU aG aR))
  ·
   refine AWp.exit ?_
   refine cH ?_
   refine bW ?_
   refine bT ?_
   refine aF ?_
   refine sr (N' := 192) rfl ?_
   iterate 2 refine pA ?_
   refine fs ?_
   refine AWp.ret ?_
   cases hm
   exact bM (.inr rfl) Tryz.results206 (tdo aG Z1 Z3 Z6)
def aCw (rec1 : List aC → List Bool → List Int → Int → Int → Option ((List aC) × Int)) (l_1 : List aC) (in_8 : List Bool) (t18 : List Int) (t19 : Int) (t20 : Int) : Option ((List aC) × Int) :=
 (bif (decide (t20 < t19)) then
  ((idx t18 t20).bind fun x6 =>
  ((idx in_8 x6).bind fun x8 =>
  ((stt in_8 x6 true).bind fun l10 =>
  rec1 l_1 l10 t18 t19 (IntKind.i64.wrap (t20 + 1)))))
 else
  ((yK l_1 in_8).bind fun r12 =>
  some (r12, 0)))
def yQ : Nat → List aC → List Bool → List Int → Int → Int → Option ((List aC) × Int)
 | 0 => fun _ _ _ _ _ => none
 | n + 1 => aCw (yQ n)
def aFu (n_0 : Int) (l_1 : List aC) (set_2 : List Int) : Option ((List aC) × Int) :=
 ((aCk n_0 l_1 set_2).bind fun r2 =>
 (bif (!r2) then
  some ([], 1)
 else
  ((mkc n_0 n_0 false).bind fun l4 =>
  yQ bY l_1 l4 set_2 (set_2.length : Int) 0)))
theorem aTq {n_0 : Int} {l_1 : List aC} {set_2 : List Int} {r : (List aC) × Int} (hm : aFu n_0 l_1 set_2 = some r) : aT Tryz.prog 198 [.v (.int .i64 n_0), .sl (l_1.flatMap aL) l_1.length false, .sl (set_2.flatMap (ci .i64)) set_2.length false] (.tup [.sl (r.1.flatMap aL) r.1.length false, .v (.int .i64 r.2)]) := by
 refine aT.of_body Tryz.func198 rfl ?_
 simp only [Tryz.ntmps198, List.length_cons, List.length_nil, Nat.reduceAdd, Nat.reduceSub, aQ]
 unfold aFu at hm
 refine sr (N' := 64) rfl ?_
 iterate 2 refine pA ?_
 refine fs ?_
 refine AWp.seq' ?_
 refine sr (N' := 128) rfl ?_
 iterate 3 refine pA ?_
 obtain ⟨r2, h1, hm⟩ := bnd hm
 refine aE.callQ (r := .v (.bool r2)) Zd Z1 bFh (fun H => (cV (cD (aG.sl _ _ _) (cD ((CFi .i64).sl _ _ _) .nil)))) (aRc h1) ?_
 refine pA ?_
 refine fs ?_
 refine AWp.condM hm Z1 (fun _ hm => ?_) (fun _ hm => ?_)
 ·
  refine sr (N' := 192) rfl ?_
  iterate 2 refine pA ?_
  refine fs ?_
  refine AWp.ret ?_
  refine bB ?_
  cases hm
  exact fE (.inr rfl) Tryz.results198 (tdn Z1) (td Z1 (.v _))
 ·
  refine AWp.skip ?_
  refine aF ?_
  refine sr (N' := 192) rfl ?_
  refine pA ?_
  obtain ⟨l4, h3, hm⟩ := bnd hm
  refine hp (id := 129) rfl rfl (aFz CFb (z := false) Tryz.underlying265 in4 (zc4) (by rw [tb4]; decide) ts4 Zd Z5 Z1 Z1 h3) ?_
  refine pA ?_
  refine fs ?_
  refine AWp.seq' ?_
  refine sr (N' := 256) rfl ?_
  iterate 3 refine pA ?_
  refine fs ?_
  refine AWp.block ?_
  refine AWp.loopM (fun m s => ∃ (l_1 : List aC) (in_8 : List Bool) (t18 : List Int) (t19 : Int) (t20 : Int), s = (⟨31, (aK (aK (aK (aK (aK (fun _ => AV.any) 1 (.sl (l_1.flatMap aL) l_1.length false)) 8 (.own 1 0 in_8.length)) 18 (.sl (t18.flatMap (ci .i64)) t18.length false)) 19 (.v (.int .i64 t19))) 20 (.v (.int .i64 t20))), ⟨(upd bL 1 (.cells 1 (in_8.flatMap aFx) 0)), 64⟩⟩ : St) ∧ yQ m l_1 in_8 t18 t19 t20 = some r) bY ?_ ?_ ?_
  ·
   rintro s ⟨_, _, _, _, _, _, h⟩
   cases h
  ·
   refine ⟨_, ?_, l_1, l4, set_2, (set_2.length : Int), 0, rfl, hm⟩
   exact aN (fun j => bif j == 1 then 129 else 0) (wV (wV (wD ((CFi .i64).sl _ _ _) (wO (wD (aG.sl _ _ _) aU))))) (hW (eU CFb aR))
  ·
   rintro n1 s ⟨l_1, in_8, t18, t19, t20, rfl, hm⟩
   replace hm : aCw (yQ n1) l_1 in_8 t18 t19 t20 = some r := hm
   unfold aCw at hm
   refine sr (N' := 128) rfl ?_
   refine pA ?_
   refine fs ?_
   refine AWp.seq' ?_
   refine AWp.condM hm Z1 (fun _ hm => ?_) (fun _ hm => ?_)
   ·
    refine AWp.skip ?_
    refine aF ?_
    refine AWp.seq' ?_
    refine AWp.block ?_
    refine sr (N' := 192) rfl ?_
    obtain ⟨x6, h5, hm⟩ := bnd hm
    refine pu rfl (cP (CFi .i64) Zd Tryz.underlying112 sz3 Z1 rfl Z1 h5) ?_
    iterate 2 refine pA ?_
    refine fs ?_
    refine AWp.reg 64 (N' := 256) rfl ?_
    iterate 2 refine pA ?_
    obtain ⟨x8, h7, hm⟩ := bnd hm
    refine pu rfl (dD Tryz.underlying265 sz4 Z1 Z3 Z6 Z1 h7) ?_
    obtain ⟨l10, h9, hm⟩ := bnd hm
    have qh9 := iC h9
    refine aE.heap0 (id := 195) rfl (mC CFb sz4 Z1 Z1 Z3 rfl h9) ?_
    refine aE.fin ?_
    refine cA ?_
    refine aF ?_
    refine AWp.reg 64 (N' := 320) rfl ?_
    iterate 2 refine pA ?_
    refine aE.fin ?_
    refine bU ?_
    refine ⟨_, ?_, l_1, l10, t18, t19, (IntKind.i64.wrap (t20 + 1)), rfl, hm⟩
    exact aN (fun j => bif j == 1 then 1 else 0) (wV (wV (wD ((CFi .i64).sl _ _ _) (wO (wD (aG.sl _ _ _) aU))))) (hW (eU CFb aR))
   ·
    refine AWp.exit ?_
    refine cH ?_
    refine bW ?_
    refine bT ?_
    refine aF ?_
    refine AWp.seq' ?_
    refine AWp.weaken (aJ1 CFb 8 1 Z1 Z3 Z6) ?_
    refine AWp.reg 64 (N' := 192) rfl ?_
    iterate 2 refine pA ?_
    obtain ⟨r12, h11, hm⟩ := bnd hm
    refine aE.callQ (r := .sl (r12.flatMap aL) r12.length false) Zd Z1 bB2 (fun H => (cD (aG.sl _ _ _) (cD (CFb.sl _ _ _) .nil))) (aKk h11) ?_
    iterate 2 refine pA ?_
    refine fs ?_
    refine AWp.ret ?_
    cases hm
    exact fE (.inr rfl) Tryz.results198 (td Z1 (aG.sl _ _ _)) (td Z1 (.v _))
def uH (g_0 : aJ) (tier_1 : Int) (v_2 : Int) : Option ((List aC)) :=
 ((oQ g_0 tier_1 v_2).bind fun r2 =>
 ((aFu g_0.Config.N g_0.Edges r2).bind fun ⟨r4, r5⟩ =>
 some r4))
theorem aGp {g_0 : aJ} {tier_1 : Int} {v_2 : Int} {r : (List aC)} (hm : uH g_0 tier_1 v_2 = some r) : aT Tryz.prog 186 [.agg [.v (.int .i64 g_0.Config.N), .v (.int .i64 g_0.Config.L), .v (.int .i64 g_0.Config.R), .sl (g_0.Hashes.flatMap bA) g_0.Hashes.length false, .sl (g_0.Edges.flatMap aL) g_0.Edges.length false], .v (.int .i64 tier_1), .v (.int .i64 v_2)] (.sl (r.flatMap aL) r.length false) := by
 refine aT.of_body Tryz.func186 rfl ?_
 simp only [Tryz.ntmps186, List.length_cons, List.length_nil, Nat.reduceAdd, Nat.reduceSub, aQ]
 unfold uH at hm
 refine sr (N' := 64) rfl ?_
 refine hp (id := 0) rfl rfl (bO Z1 Z5) ?_
 refine pA ?_
 refine fs ?_
 refine sd mix (by kernel_rfl) (N' := 128) rfl ?_
 iterate 2 refine pA ?_
 refine pu rfl (aD Z1 Z3 Z4) ?_
 refine pA ?_
 refine pu rfl (aD Z1 Z3 Z4) ?_
 refine pu rfl (aD Z1 Z3 Z2) ?_
 iterate 2 refine pA ?_
 obtain ⟨r2, h1, hm⟩ := bnd hm
 refine aE.callQ (r := .sl (r2.flatMap (ci .i64)) r2.length false) Zd Z1 aYz (fun H => (cD (.agg _ (cB.dat _)) (cV (cV .nil)))) (zU h1) ?_
 obtain ⟨⟨r4, r5⟩, h3, hm⟩ := bnd hm
 refine aE.callQ (r := .tup [.sl (r4.flatMap aL) r4.length false, .v (.int .i64 r5)]) Zd Z1 bB5 (fun H => (cV (cD (aG.sl _ _ _) (cD ((CFi .i64).sl _ _ _) .nil)))) (aTq h3) ?_
 iterate 5 refine pA ?_
 refine fs ?_
 refine sr (N' := 192) rfl ?_
 iterate 2 refine pA ?_
 refine fs ?_
 refine AWp.ret ?_
 cases hm
 exact bM (.inr rfl) Tryz.results186 (td Z1 (aG.sl _ _ _))
def uR (x_0 : Int) : Option (Int) :=
 ((tB x_0).bind fun r2 =>
 some r2)
theorem aCt {x_0 : Int} {r : Int} (hm : uR x_0 = some r) : aT Tryz.prog 134 [.v (.int .u64 x_0)] (.v (.int .i64 r)) := by
 refine aT.of_body Tryz.func134 rfl ?_
 simp only [Tryz.ntmps134, List.length_cons, List.length_nil, Nat.reduceAdd, Nat.reduceSub, aQ]
 unfold uR at hm
 refine sr (N' := 64) rfl ?_
 refine pA ?_
 refine fs ?_
 refine AWp.seq' ?_
 refine AWp.condF Z1 ?_
 refine AWp.skip ?_
 refine aF ?_
 refine sr (N' := 128) rfl ?_
 refine pA ?_
 obtain ⟨r2, h1, hm⟩ := bnd hm
 refine aE.callQ (r := .v (.int .i64 r2)) Zd Z1 aYo (fun H => (cV .nil)) (aDa h1) ?_
 refine pA ?_
 refine fs ?_
 refine AWp.ret ?_
 cases hm
 exact bM (.inr rfl) Tryz.results134 (td Z1 (.v _))
def tX (n_0 : Int) : Option (Int) :=
 (bif (decide (n_0 < 1)) then
  some 0
 else
  ((uR (IntKind.u64.wrap (IntKind.i64.wrap (n_0 - 1)))).bind fun r2 =>
  some (IntKind.i64.wrap ((IntKind.i64.wrap (2 * r2)) + 2))))
theorem aH9 {n_0 : Int} {r : Int} (hm : tX n_0 = some r) : aT Tryz.prog 201 [.v (.int .i64 n_0)] (.v (.int .i64 r)) := by
 refine aT.of_body Tryz.func201 rfl ?_
 simp only [Tryz.ntmps201, List.length_cons, List.length_nil, Nat.reduceAdd, Nat.reduceSub, aQ]
 unfold tX at hm
 refine sr (N' := 64) rfl ?_
 refine pA ?_
 refine fs ?_
 refine AWp.seq' ?_
 refine sr (N' := 128) rfl ?_
 iterate 2 refine pA ?_
 refine fs ?_
 refine AWp.condM hm Z1 (fun _ hm => ?_) (fun _ hm => ?_)
 ·
  refine sr (N' := 192) rfl ?_
  refine pA ?_
  refine fs ?_
  refine AWp.ret ?_
  refine bB ?_
  cases hm
  exact bM (.inr rfl) Tryz.results201 (td Z1 (.v _))
 ·
  refine AWp.skip ?_
  refine aF ?_
  refine sr (N' := 192) rfl ?_
  iterate 3 refine pA ?_
  obtain ⟨r2, h1, hm⟩ := bnd hm
  refine aE.callQ (r := .v (.int .i64 r2)) Zd Z1 aUa (fun H => (cV .nil)) (aCt h1) ?_
  iterate 3 refine pA ?_
  refine fs ?_
  refine AWp.ret ?_
  cases hm
  exact bM (.inr rfl) Tryz.results201 (td Z1 (.v _))
def oX (r_0 : Int) (v_1 : Int) : Option (Bool) :=
 some ((((decide (1 ≤ r_0)) && (decide (r_0 ≤ 8))) && (decide (1 ≤ v_1))) && (decide (v_1 ≤ 61)))
theorem zN {r_0 : Int} {v_1 : Int} {r : Bool} (hm : oX r_0 v_1 = some r) : aT Tryz.prog 207 [.v (.int .i64 r_0), .v (.int .i64 v_1)] (.v (.bool r)) := by
 refine aT.of_body Tryz.func207 rfl ?_
 simp only [Tryz.ntmps207, List.length_cons, List.length_nil, Nat.reduceAdd, Nat.reduceSub, aQ]
 unfold oX at hm
 refine sr (N' := 64) rfl ?_
 refine pA ?_
 refine fs ?_
 refine sr (N' := 128) rfl ?_
 iterate 15 first | refine pA ?_ | refine pB ?_
 refine fs ?_
 refine AWp.ret ?_
 cases hm
 exact bM (.inr rfl) Tryz.results207 (td Z1 (.v _))
def xR (r_0 : Int) (v_1 : Int) : Option (aW × Int) :=
 ((oX r_0 v_1).bind fun r2 =>
 (bif (!r2) then
  some ((aW.mk 0 0 []), 1)
 else
  ((mkc (IntKind.i64.wrap (r_0 * v_1)) (IntKind.i64.wrap (r_0 * v_1)) 0).bind fun l4 =>
  some ((aW.mk r_0 v_1 l4), 0))))
theorem aLh {r_0 : Int} {v_1 : Int} {r : aW × Int} (hm : xR r_0 v_1 = some r) : aT Tryz.prog 200 [.v (.int .i64 r_0), .v (.int .i64 v_1)] (.tup [.agg [.v (.int .i64 r.1.R), .v (.int .i64 r.1.V), .sl (r.1.Words.flatMap (ci .u64)) r.1.Words.length false], .v (.int .i64 r.2)]) := by
 refine aT.of_body Tryz.func200 rfl ?_
 simp only [Tryz.ntmps200, List.length_cons, List.length_nil, Nat.reduceAdd, Nat.reduceSub, aQ]
 unfold xR at hm
 refine sr (N' := 64) rfl ?_
 refine hp (id := 0) rfl rfl (aY aP5 Z5) ?_
 refine pA ?_
 refine fs ?_
 refine AWp.seq' ?_
 refine sr (N' := 128) rfl ?_
 iterate 2 refine pA ?_
 obtain ⟨r2, h1, hm⟩ := bnd hm
 refine aE.callQ (r := .v (.bool r2)) Zd Z1 aYm (fun H => (cV (cV .nil))) (zN h1) ?_
 refine pA ?_
 refine fs ?_
 refine AWp.condM hm Z1 (fun _ hm => ?_) (fun _ hm => ?_)
 ·
  refine sr (N' := 192) rfl ?_
  refine pu rfl (by simp only [go_sem, Nat.reduceBEq]; exact (by kernel_rfl : dJ Tryz.prog 243 [] = some (.agg [.v (.int .i64 0), .v (.int .i64 0), .v (.slice none 0 0)]))) ?_
  refine aE.heap0 (id := 129) rfl (bG (ys := [.v (.int .i64 0), .v (.int .i64 0), .v (.slice none 0 0)]) aE0 Z1 Z1 Z3 rfl (Nat.le_of_ble_eq_true rfl) Z9 rfl) ?_
  refine pA ?_
  refine fs ?_
  refine AWp.ret ?_
  refine bB ?_
  cases hm
  exact fK (.inr rfl) (by rw [Tryz.results200]) (.cell (cG Z1 Z3 Z2) (.tmp Z1 .nil)) rfl (tdt (.cons (tda rfl (.cons (.data _ (.v _)) (.cons (.data _ (.v _)) (.cons (.nil false) .nil)))) (.cons (td rfl (.v _)) .nil)))
 ·
  refine AWp.skip ?_
  refine aF ?_
  refine AWp.seq' ?_
  refine AWp.regC 64 6 (N' := 192) rfl ?_
  iterate 5 refine pA ?_
  obtain ⟨l4, h3, hm⟩ := bnd hm
  refine hp (id := 133) rfl rfl (aFz (CFi .u64) (z := 0) Tryz.underlying24 aOd (aI6) (by rw [aCj]; decide) aOs Zd Z5 Z1 Z1 h3) ?_
  refine aE.cut (aJ1 (CFi .u64) 16 133 Z1 Z3 Z6) ?_
  refine pu rfl (by simp only [go_sem, Nat.reduceBEq]; exact (by kernel_rfl : dJ Tryz.prog 243 [(0, .v (.int .i64 r_0)), (1, .v (.int .i64 v_1)), (2, .sl (l4.flatMap (ci .u64)) l4.length false)] = some (.agg [.v (.int .i64 r_0), .v (.int .i64 v_1), .sl (l4.flatMap (ci .u64)) l4.length false]))) ?_
  refine aE.heap0 (id := 135) rfl (bG (ys := [.v (.int .i64 r_0), .v (.int .i64 v_1), .sl (l4.flatMap (ci .u64)) l4.length false]) aE0 Z1 Z1 Z3 rfl (Nat.le_of_ble_eq_true rfl) Z9 rfl) ?_
  refine pA ?_
  refine fs ?_
  refine AWp.ret ?_
  cases hm
  exact fK (.inr rfl) (by rw [Tryz.results200]) (.cell (cG Z1 Z3 Z2) (.tmp Z1 .nil)) rfl (tdt (.cons (td rfl (.agg _ (cM.dat (aW.mk r_0 v_1 l4)))) (.cons (td rfl (.v _)) .nil)))
def qC (g_0 : aJ) (tier_1 : Int) : Option ((List cC)) :=
 ((slc g_0.Hashes (IntKind.i64.wrap (tier_1 * g_0.Config.R)) (IntKind.i64.wrap ((IntKind.i64.wrap (tier_1 * g_0.Config.R)) + g_0.Config.R))).bind fun l2 =>
 ((fH l2).bind fun r4 =>
 some r4))
theorem aE7 {g_0 : aJ} {tier_1 : Int} {r : (List cC)} (hm : qC g_0 tier_1 = some r) : aT Tryz.prog 202 [.agg [.v (.int .i64 g_0.Config.N), .v (.int .i64 g_0.Config.L), .v (.int .i64 g_0.Config.R), .sl (g_0.Hashes.flatMap bA) g_0.Hashes.length false, .sl (g_0.Edges.flatMap aL) g_0.Edges.length false], .v (.int .i64 tier_1)] (.sl (r.flatMap bA) r.length false) := by
 refine aT.of_body Tryz.func202 rfl ?_
 simp only [Tryz.ntmps202, List.length_cons, List.length_nil, Nat.reduceAdd, Nat.reduceSub, aQ]
 unfold qC at hm
 refine sr (N' := 64) rfl ?_
 refine hp (id := 0) rfl rfl (bO Z1 Z5) ?_
 refine pA ?_
 refine fs ?_
 refine sr (N' := 128) rfl ?_
 iterate 2 refine pA ?_
 refine pu rfl (aD Z1 Z3 Z4) ?_
 refine pA ?_
 refine fs ?_
 refine sr (N' := 192) rfl ?_
 refine pA ?_
 refine pu rfl (aD Z1 Z3 Z4) ?_
 iterate 8 refine pA ?_
 obtain ⟨l2, h1, hm⟩ := bnd hm
 refine pu rfl (xD cN Tryz.underlying27 uT Z1 rfl (qO Z1 (aC0 h1).1) (qO Z1 (aC0 h1).2) h1) ?_
 obtain ⟨r4, h3, hm⟩ := bnd hm
 refine aE.callF (id := 139) Zd Z1 bHq (fun H => (.cons (tdf Z1 (cN.sl _ _ _)) .nil)) cN Z5 (tL h3) ?_
 refine pA ?_
 refine fs ?_
 refine AWp.ret ?_
 cases hm
 exact bM (.inr rfl) Tryz.results202 (tdo cN Z1 Z3 Z6)
def rG (v_0 : Int) : Option (Bool) :=
 some ((decide (0 ≤ v_0)) && (decide (v_0 < 16777216)))
theorem aBi {v_0 : Int} {r : Bool} (hm : rG v_0 = some r) : aT Tryz.prog 211 [.v (.int .i64 v_0)] (.v (.bool r)) := by
 refine aT.of_body Tryz.func211 rfl ?_
 simp only [Tryz.ntmps211, List.length_cons, List.length_nil, Nat.reduceAdd, Nat.reduceSub, aQ]
 unfold rG at hm
 refine sr (N' := 64) rfl ?_
 refine pA ?_
 refine fs ?_
 refine sr (N' := 128) rfl ?_
 iterate 7 first | refine pA ?_ | refine pB ?_
 refine fs ?_
 refine AWp.ret ?_
 cases hm
 exact bM (.inr rfl) Tryz.results211 (td Z1 (.v _))
def aG0 (u_0 : Int) (v_1 : Int) : Option (Int × Int) :=
 ((rG u_0).bind fun r2 =>
 ((fA ((!r2) == false) false (rG v_1)).bind fun r4 =>
 (bif ((!r2) || (!r4)) then
  some (0, 1)
 else
  (bif (u_0 == v_1) then
   some (0, 8)
  else
   some ((IntKind.u64.wrap ((IntKind.u64.wrap ((IntKind.u64.wrap (if v_1 < u_0 then v_1 else u_0)) * 16777216)) + (IntKind.u64.wrap (if u_0 < v_1 then v_1 else u_0)))), 0)))))
theorem aV8 {u_0 : Int} {v_1 : Int} {r : Int × Int} (hm : aG0 u_0 v_1 = some r) : aT Tryz.prog 208 [.v (.int .i64 u_0), .v (.int .i64 v_1)] (.tup [.v (.int .u64 r.1), .v (.int .i64 r.2)]) := by
 refine aT.of_body Tryz.func208 rfl ?_
 simp only [Tryz.ntmps208, List.length_cons, List.length_nil, Nat.reduceAdd, Nat.reduceSub, aQ]
 unfold aG0 at hm
 refine sr (N' := 64) rfl ?_
 iterate 2 refine pA ?_
 refine fs ?_
 refine AWp.seq' ?_
 refine sr (N' := 128) rfl ?_
 refine pA ?_
 obtain ⟨r2, h1, hm⟩ := bnd hm
 refine aE.callQ (r := .v (.bool r2)) Zd Z1 aYw (fun H => (cV .nil)) (aBi h1) ?_
 iterate 3 first | refine pA ?_ | refine pB ?_
 obtain ⟨r4, h3, hm⟩ := bnd hm
 refine aE.callQG (r := .v (.bool r4)) Zd rfl Z2 Z1 aYw (fun hb H => (.cons (td (Zh hb) (.v _)) .nil)) (fun hb => aBi (dA h3 hb)) ?_
 iterate 2 first | refine pA ?_ | refine pB ?_
 refine fs ?_
 refine AWp.condM hm Z1 (fun _ hm => ?_) (fun _ hm => ?_)
 ·
  refine sr (N' := 192) rfl ?_
  iterate 2 refine pA ?_
  refine fs ?_
  refine AWp.ret ?_
  refine bB ?_
  cases hm
  exact fE (.inr rfl) Tryz.results208 (td Z1 (.v _)) (td Z1 (.v _))
 ·
  refine AWp.skip ?_
  refine aF ?_
  refine AWp.seq' ?_
  refine sr (N' := 192) rfl ?_
  iterate 3 refine pA ?_
  refine fs ?_
  refine AWp.condM hm Z1 (fun _ hm => ?_) (fun _ hm => ?_)
  ·
   refine sr (N' := 256) rfl ?_
   iterate 2 refine pA ?_
   refine fs ?_
   refine AWp.ret ?_
   refine bB ?_
   cases hm
   exact fE (.inr rfl) Tryz.results208 (td Z1 (.v _)) (td Z1 (.v _))
  ·
   refine AWp.skip ?_
   refine aF ?_
   refine sr (N' := 256) rfl ?_
   iterate 12 refine pA ?_
   refine fs ?_
   refine AWp.ret ?_
   cases hm
   exact fE (.inr rfl) Tryz.results208 (td Z1 (.v _)) (td Z1 (.v _))
def wX (rec1 : List Int → List aC → Int → Int → Option ((List Int))) (names_3 : List Int) (t8 : List aC) (t9 : Int) (t10 : Int) : Option ((List Int)) :=
 rec1 names_3 t8 t9 (IntKind.i64.wrap (t10 + 1))
def tN (rec1 : List Int → List aC → Int → Int → Option ((List Int))) (names_3 : List Int) (of_6 : Int) (t8 : List aC) (t9 : Int) (t10 : Int) : Option ((List Int)) :=
 ((app names_3 [of_6]).bind fun l7 =>
 wX rec1 l7 t8 t9 t10)
def wU (rec1 : List Int → List aC → Int → Int → Option ((List Int))) (names_3 : List Int) (t8 : List aC) (t9 : Int) (t10 : Int) : Option ((List Int)) :=
 (bif (decide (t10 < t9)) then
  ((idx t8 t10).bind fun x2 =>
  ((aG0 x2.U x2.V).bind fun ⟨r4, r5⟩ =>
  (bif (r5 != 0) then
   tN rec1 names_3 0 t8 t9 t10
  else
   tN rec1 names_3 r4 t8 t9 t10)))
 else
  some names_3)
def mP : Nat → List Int → List aC → Int → Int → Option ((List Int))
 | 0 => fun _ _ _ _ => none
 | n + 1 => wU (mP n)
def aAa (l_0 : List aC) : Option ((List Int)) :=
 mP bY [] l_0 (l_0.length : Int) 0
theorem aO2 {l_0 : List aC} {r : (List Int)} (hm : aAa l_0 = some r) : aT Tryz.prog 203 [.sl (l_0.flatMap aL) l_0.length false] (.sl (r.flatMap (ci .u64)) r.length false) := by
 refine aT.of_body Tryz.func203 rfl ?_
 simp only [Tryz.ntmps203, List.length_cons, List.length_nil, Nat.reduceAdd, Nat.reduceSub, aQ]
 unfold aAa at hm
 refine sr (N' := 64) rfl ?_
 refine pA ?_
 refine fs ?_
 refine sr (N' := 128) rfl ?_
 refine pA ?_
 refine fs ?_
 refine AWp.seq' ?_
 refine sr (N' := 192) rfl ?_
 iterate 3 refine pA ?_
 refine fs ?_
 refine AWp.block ?_
 refine AWp.loopM (fun m s => ∃ (names_3 : List Int) (t8 : List aC) (t9 : Int) (t10 : Int), s = (⟨30, (aK (aK (aK (aK (fun _ => AV.any) 3 (.own 1 0 names_3.length)) 8 (.sl (t8.flatMap aL) t8.length false)) 9 (.v (.int .i64 t9))) 10 (.v (.int .i64 t10))), ⟨(upd bL 1 (.cells 1 (names_3.flatMap (ci .u64)) 0)), 64⟩⟩ : St) ∧ mP m names_3 t8 t9 t10 = some r) bY ?_ ?_ ?_
 ·
  rintro s ⟨_, _, _, _, _, h⟩
  cases h
 ·
  refine ⟨_, ?_, [], l_0, (l_0.length : Int), 0, rfl, hm⟩
  refine St.Le.trans (kA 3 900003 1 Z1 Z5) ?_
  exact aN (fun j => bif j == 1 then 900003 else 0) (wV (wV (wD (aG.sl _ _ _) (wO aU)))) (hW (eU (CFi .u64) aR))
 ·
  rintro n1 s ⟨names_3, t8, t9, t10, rfl, hm⟩
  replace hm : wU (mP n1) names_3 t8 t9 t10 = some r := hm
  unfold wU at hm
  refine sr (N' := 128) rfl ?_
  refine pA ?_
  refine fs ?_
  refine AWp.seq' ?_
  refine AWp.condM hm Z1 (fun _ hm => ?_) (fun _ hm => ?_)
  ·
   refine AWp.skip ?_
   refine aF ?_
   refine AWp.seqJ (fun s => ∃ (names_3 : List Int) (t8 : List aC) (t9 : Int) (t10 : Int), s = (⟨30, (aK (aK (aK (aK (fun _ => AV.any) 3 (.own 1 0 names_3.length)) 8 (.sl (t8.flatMap aL) t8.length false)) 9 (.v (.int .i64 t9))) 10 (.v (.int .i64 t10))), ⟨(upd bL 1 (.cells 1 (names_3.flatMap (ci .u64)) 0)), 64⟩⟩ : St) ∧ wX (mP n1) names_3 t8 t9 t10 = some r) ?_ ?_
   ·
    refine AWp.block ?_
    refine sr (N' := 192) rfl ?_
    obtain ⟨x2, h1, hm⟩ := bnd hm
    refine pu rfl (cP aG Zd Tryz.underlying28 dQ Z1 rfl Z1 h1) ?_
    refine pA ?_
    refine hp (id := 130) rfl rfl (aY jI Z5) ?_
    refine aE.heap0 (id := 131) rfl (bG (ys := [.v (.int .i64 x2.U), .v (.int .i64 x2.V), .v (.int .i64 x2.Tier)]) dQ Z1 Z1 Z3 rfl (Nat.le_of_ble_eq_true rfl) Z9 rfl) ?_
    refine fs ?_
    refine sr (N' := 256) rfl ?_
    refine pA ?_
    refine pu rfl (aD Z1 Z3 Z4) ?_
    refine pA ?_
    refine pu rfl (aD Z1 Z3 Z4) ?_
    obtain ⟨⟨r4, r5⟩, h3, hm⟩ := bnd hm
    refine aE.callQ (r := .tup [.v (.int .u64 r4), .v (.int .i64 r5)]) Zd Z1 bBi (fun H => (cV (cV .nil))) (aV8 h3) ?_
    iterate 5 refine pA ?_
    refine fs ?_
    refine AWp.seqJ (fun s => ∃ (names_3 : List Int) (of_6 : Int) (t8 : List aC) (t9 : Int) (t10 : Int), s = (⟨30, (aK (aK (aK (aK (aK (fun _ => AV.any) 3 (.own 1 0 names_3.length)) 6 (.v (.int .u64 of_6))) 8 (.sl (t8.flatMap aL) t8.length false)) 9 (.v (.int .i64 t9))) 10 (.v (.int .i64 t10))), ⟨(upd bL 1 (.cells 1 (names_3.flatMap (ci .u64)) 0)), 64⟩⟩ : St) ∧ tN (mP n1) names_3 of_6 t8 t9 t10 = some r) ?_ ?_
    ·
     refine sr (N' := 320) rfl ?_
     iterate 2 refine pA ?_
     refine fs ?_
     refine AWp.condM hm Z1 (fun _ hm => ?_) (fun _ hm => ?_)
     ·
      refine AWp.reg 64 (N' := 384) rfl ?_
      refine pA ?_
      refine aE.fin ?_
      refine dY ?_
      refine ⟨_, ?_, names_3, 0, t8, t9, t10, rfl, hm⟩
      exact aN (fun j => bif j == 1 then 1 else 0) (wV (wV (wD (aG.sl _ _ _) (wV (wO aU))))) (hW (eU (CFi .u64) aR))
     ·
      refine AWp.skip ?_
      refine dY ?_
      refine ⟨_, ?_, names_3, r4, t8, t9, t10, rfl, hm⟩
      exact aN (fun j => bif j == 1 then 1 else 0) (wV (wV (wD (aG.sl _ _ _) (wV (wO aU))))) (hW (eU (CFi .u64) aR))
    ·
     rintro s ⟨names_3, of_6, t8, t9, t10, rfl, hm⟩
     unfold tN at hm
     refine AWp.reg 64 (N' := 128) rfl ?_
     iterate 2 refine pA ?_
     refine hp (id := 66) rfl rfl (eE (CFi .u64) (l := [of_6]) Tryz.underlying24 nS aI6 Z5 Zd Zd Zd (by simp only [go_sem, Nat.reduceBEq]; try rfl) (by kernel_rfl)) ?_
     obtain ⟨l7, h6, hm⟩ := bnd hm
     refine hp (id := 67) rfl rfl (iI (CFi .u64) Tryz.underlying24 Tryz.underlying24 rfl aOd aOs (by rw [aCj]; decide) (by rw [aCj]; decide) aQu Zd Zd Z1 Z3 Z6 (lM (CFi .u64) Z1 Z3 Z6) rfl Z5 h6) ?_
     refine pA ?_
     refine aE.fin ?_
     refine cA ?_
     refine dY ?_
     refine ⟨_, ?_, l7, t8, t9, t10, rfl, hm⟩
     exact aN (fun j => bif j == 1 then 67 else 0) (wV (wV (wD (aG.sl _ _ _) (wO aU)))) (hW (eU (CFi .u64) aR))
   ·
    rintro s ⟨names_3, t8, t9, t10, rfl, hm⟩
    unfold wX at hm
    refine AWp.reg 64 (N' := 128) rfl ?_
    iterate 2 refine pA ?_
    refine aE.fin ?_
    refine bU ?_
    refine ⟨_, ?_, names_3, t8, t9, (IntKind.i64.wrap (t10 + 1)), rfl, hm⟩
    exact aN (fun j => bif j == 1 then 1 else 0) (wV (wV (wD (aG.sl _ _ _) (wO aU)))) (hW (eU (CFi .u64) aR))
  ·
   refine AWp.exit ?_
   refine cH ?_
   refine bW ?_
   refine bT ?_
   refine aF ?_
   refine sr (N' := 192) rfl ?_
   iterate 2 refine pA ?_
   refine fs ?_
   refine AWp.ret ?_
   cases hm
   exact bM (.inr rfl) Tryz.results203 (tdo (CFi .u64) Z1 Z3 Z6)
def oR (s_0 : aW) : Option (Bool) :=
 ((oX s_0.R s_0.V).bind fun r2 =>
 some (r2 && ((s_0.Words.length : Int) == (IntKind.i64.wrap (s_0.R * s_0.V)))))
theorem zS {s_0 : aW} {r : Bool} (hm : oR s_0 = some r) : aT Tryz.prog 199 [.agg [.v (.int .i64 s_0.R), .v (.int .i64 s_0.V), .sl (s_0.Words.flatMap (ci .u64)) s_0.Words.length false]] (.v (.bool r)) := by
 refine aT.of_body Tryz.func199 rfl ?_
 simp only [Tryz.ntmps199, List.length_cons, List.length_nil, Nat.reduceAdd, Nat.reduceSub, aQ]
 unfold oR at hm
 refine sr (N' := 64) rfl ?_
 refine hp (id := 0) rfl rfl (bO Z1 Z5) ?_
 refine pA ?_
 refine fs ?_
 refine sr (N' := 128) rfl ?_
 refine pA ?_
 refine pu rfl (aD Z1 Z3 Z4) ?_
 refine pA ?_
 refine pu rfl (aD Z1 Z3 Z4) ?_
 obtain ⟨r2, h1, hm⟩ := bnd hm
 refine aE.callQ (r := .v (.bool r2)) Zd Z1 aYm (fun H => (cV (cV .nil))) (zN h1) ?_
 iterate 2 first | refine pA ?_ | refine pB ?_
 refine pg rfl rfl Z2 (fun hb => (aD (Zh hb) Z3 Z4)) ?_
 iterate 2 refine pB ?_
 refine pg rfl rfl Z2 (fun hb => (aD (Zh hb) Z3 Z4)) ?_
 refine pB ?_
 refine pg rfl rfl Z2 (fun hb => (aD (Zh hb) Z3 Z4)) ?_
 iterate 4 first | refine pA ?_ | refine pB ?_
 refine fs ?_
 refine AWp.ret ?_
 cases hm
 exact bM (.inr rfl) Tryz.results199 (td Z1 (.v _))
def iB (l : List Int) : Option (List Int) := app [] l
theorem yE {r : List Int} (hm : some [] = some r) : dO Tryz.prog 209 [.v (.slice none 0 0)] 1 (r.flatMap (ci .u64)) r.length := by
 refine dO.of_body Tryz.func209 rfl ((CFi .u64).fmdat r) ?_
 simp only [Tryz.ntmps209, List.length_cons, List.length_nil, Nat.reduceAdd, Nat.reduceSub, aQ]
 refine sr (N' := 64) rfl ?_
 refine pA ?_
 refine fs ?_
 refine AWp.seq' ?_
 refine sr (N' := 128) rfl ?_
 refine pA ?_
 refine pu rfl (pP Z1 Z1 (aB3 Tryz.underlying24)) ?_
 refine fs ?_
 refine AWp.condT Z1 ?_
 refine sr (N' := 192) rfl ?_
 refine pA ?_
 refine fs ?_
 refine AWp.weaken (kA 2 900002 1 Z1 Z5) ?_
 refine AWp.ret ?_
 refine bB ?_
 cases hm
 exact aC8 (.inr rfl) Tryz.results209 Z1 Z3 Z6
theorem xF {a : Addr} {c : Nat} {r : List Int} (hm : ((app [] []).bind fun l2 =>
some l2) = some r) : dO Tryz.prog 209 [.v (.slice (some a) 0 c)] 1 (r.flatMap (ci .u64)) r.length := by
 refine dO.of_body Tryz.func209 rfl ((CFi .u64).fmdat r) ?_
 simp only [Tryz.ntmps209, List.length_cons, List.length_nil, Nat.reduceAdd, Nat.reduceSub, aQ]
 refine sr (N' := 64) rfl ?_
 refine pA ?_
 refine fs ?_
 refine AWp.seq' ?_
 refine sr (N' := 128) rfl ?_
 refine pA ?_
 refine pu rfl (pP Z1 Z1 (zB Tryz.underlying24)) ?_
 refine fs ?_
 refine AWp.condF Z1 ?_
 refine AWp.skip ?_
 refine aF ?_
 refine sr (N' := 192) rfl ?_
 refine hp (id := 128) rfl rfl (eE (CFi .u64) (l := []) Tryz.underlying24 nS aI6 Z5 Zd Zd Zd (by simp only [go_sem, Nat.reduceBEq]; try rfl) (by kernel_rfl)) ?_
 refine pA ?_
 obtain ⟨l2, h1, hm⟩ := bnd hm
 refine hp (id := 130) rfl rfl (iI (CFi .u64) Tryz.underlying24 Tryz.underlying24 rfl aOd aOs (by rw [aCj]; decide) (by rw [aCj]; decide) aQu Zd Zd Z1 Z3 Z6 (aEq Z1) rfl Z5 h1) ?_
 refine pA ?_
 refine fs ?_
 refine AWp.ret ?_
 cases hm
 exact aC8 (.inr rfl) Tryz.results209 Z1 Z3 Z6
theorem yC {x0 : Int} {l0 : List Int} {r : List Int} (hm : ((app [] (x0 :: l0)).bind fun l2 =>
some l2) = some r) : dO Tryz.prog 209 [.sl ((x0 :: l0).flatMap (ci .u64)) (x0 :: l0).length false] 1 (r.flatMap (ci .u64)) r.length := by
 refine dO.of_body Tryz.func209 rfl ((CFi .u64).fmdat r) ?_
 simp only [Tryz.ntmps209, List.length_cons, List.length_nil, Nat.reduceAdd, Nat.reduceSub, aQ]
 refine sr (N' := 64) rfl ?_
 refine pA ?_
 refine fs ?_
 refine AWp.seq' ?_
 refine sr (N' := 128) rfl ?_
 refine pA ?_
 refine pu rfl (pP Z1 Z1 (yU Tryz.underlying24 (by simp))) ?_
 refine fs ?_
 refine AWp.condF Z1 ?_
 refine AWp.skip ?_
 refine aF ?_
 refine sr (N' := 192) rfl ?_
 refine hp (id := 128) rfl rfl (eE (CFi .u64) (l := []) Tryz.underlying24 nS aI6 Z5 Zd Zd Zd (by simp only [go_sem, Nat.reduceBEq]; try rfl) (by kernel_rfl)) ?_
 refine pA ?_
 obtain ⟨l2, h1, hm⟩ := bnd hm
 refine hp (id := 130) rfl rfl (iI (CFi .u64) Tryz.underlying24 Tryz.underlying24 rfl aOd aOs (by rw [aCj]; decide) (by rw [aCj]; decide) aQu Zd Zd Z1 Z3 Z6 (aJx (CFi .u64) Z1 rfl) rfl Z5 h1) ?_
 refine pA ?_
 refine fs ?_
 refine AWp.ret ?_
 cases hm
 exact aC8 (.inr rfl) Tryz.results209 Z1 Z3 Z6
theorem zH {l r : List Int} (hm : iB l = some r) : dO Tryz.prog 209 [.sl (l.flatMap (ci .u64)) l.length false] 1 (r.flatMap (ci .u64)) r.length := by
 cases l with
 | nil =>
  have hr : r = [] := by unfold iB app at hm; simpa using hm.symm
  subst hr
  exact dO.nil_arg (yE (r := []) rfl) (fun a c => xF (r := []) rfl)
 | cons x0 l0 =>
  refine yC ?_
  show (app [] (x0 :: l0)).bind _ = _
  unfold iB at hm
  rw [hm]; rfl
def vC (h_0 : cC) (name_1 : Int) : Option (Int) :=
 ((aFq h_0.A name_1).bind fun r2 =>
 ((aF3 r2 h_0.B).bind fun r4 =>
 some r4))
theorem aJc {h_0 : cC} {name_1 : Int} {r : Int} (hm : vC h_0 name_1 = some r) : aT Tryz.prog 212 [.agg [.v (.int .u64 h_0.A), .v (.int .u64 h_0.B)], .v (.int .u64 name_1)] (.v (.int .u64 r)) := by
 refine aT.of_body Tryz.func212 rfl ?_
 simp only [Tryz.ntmps212, List.length_cons, List.length_nil, Nat.reduceAdd, Nat.reduceSub, aQ]
 unfold vC at hm
 refine sr (N' := 64) rfl ?_
 refine hp (id := 0) rfl rfl (bO Z1 Z5) ?_
 refine pA ?_
 refine fs ?_
 refine sd mix (by kernel_rfl) (N' := 128) rfl ?_
 refine pA ?_
 refine pu rfl (aD Z1 Z3 Z4) ?_
 refine pA ?_
 obtain ⟨r2, h1, hm⟩ := bnd hm
 refine aE.callQ (r := .v (.int .u64 r2)) Zd Z1 bG7 (fun H => (cV (cV .nil))) (aV2 h1) ?_
 refine pA ?_
 refine pu rfl (aD Z1 Z3 Z4) ?_
 obtain ⟨r4, h3, hm⟩ := bnd hm
 refine aE.callQ (r := .v (.int .u64 r4)) Zd Z1 bBp (fun H => (cV (cV .nil))) (aVg h3) ?_
 refine pA ?_
 refine fs ?_
 refine AWp.ret ?_
 cases hm
 exact bM (.inr rfl) Tryz.results212 (td Z1 (.v _))
def vD (level_0 : Int) : Option (Int) :=
 (bif ((decide (level_0 < 0)) || (decide (61 ≤ level_0))) then
  some 0
 else
  ((chk (decide (0 ≤ level_0))).bind fun _ =>
  some (shr .u64 2305843009213693951 level_0)))
theorem aI2 {level_0 : Int} {r : Int} (hm : vD level_0 = some r) : aT Tryz.prog 213 [.v (.int .i64 level_0)] (.v (.int .u64 r)) := by
 refine aT.of_body Tryz.func213 rfl ?_
 simp only [Tryz.ntmps213, List.length_cons, List.length_nil, Nat.reduceAdd, Nat.reduceSub, aQ]
 unfold vD at hm
 refine sr (N' := 64) rfl ?_
 refine pA ?_
 refine fs ?_
 refine AWp.seq' ?_
 refine sr (N' := 128) rfl ?_
 iterate 6 first | refine pA ?_ | refine pB ?_
 refine fs ?_
 refine AWp.condM hm Z1 (fun _ hm => ?_) (fun _ hm => ?_)
 ·
  refine sr (N' := 192) rfl ?_
  refine pA ?_
  refine fs ?_
  refine AWp.ret ?_
  refine bB ?_
  cases hm
  exact bM (.inr rfl) Tryz.results213 (td Z1 (.v _))
 ·
  refine AWp.skip ?_
  refine aF ?_
  refine sr (N' := 192) rfl ?_
  refine pA ?_
  obtain ⟨_, h1, hm⟩ := bnd hm
  refine pu rfl (aMz Z1 Z1 (dT h1)) ?_
  refine pA ?_
  refine fs ?_
  refine AWp.ret ?_
  cases hm
  exact bM (.inr rfl) Tryz.results213 (td Z1 (.v _))
def vF (rec1 : Int → Int → Int → Option (Int)) (levels_2 : Int) (value_7 : Int) (deep_8 : Int) : Option (Int) :=
 ((fA ((decide (deep_8 < (if 61 < levels_2 then 61 else levels_2))) == true) 0 (vD deep_8)).bind fun r4 =>
 (bif ((decide (deep_8 < (if 61 < levels_2 then 61 else levels_2))) && (decide (value_7 < r4))) then
  rec1 levels_2 value_7 (IntKind.i64.wrap (deep_8 + 1))
 else
  some deep_8))
def rB : Nat → Int → Int → Int → Option (Int)
 | 0 => fun _ _ _ => none
 | n + 1 => vF (rB n)
def xO (h_0 : cC) (name_1 : Int) (levels_2 : Int) : Option (Int) :=
 ((vC h_0 name_1).bind fun r2 =>
 rB bY levels_2 r2 0)
theorem aJu {h_0 : cC} {name_1 : Int} {levels_2 : Int} {r : Int} (hm : xO h_0 name_1 levels_2 = some r) : aT Tryz.prog 210 [.agg [.v (.int .u64 h_0.A), .v (.int .u64 h_0.B)], .v (.int .u64 name_1), .v (.int .i64 levels_2)] (.v (.int .i64 r)) := by
 refine aT.of_body Tryz.func210 rfl ?_
 simp only [Tryz.ntmps210, List.length_cons, List.length_nil, Nat.reduceAdd, Nat.reduceSub, aQ]
 unfold xO at hm
 refine sr (N' := 64) rfl ?_
 refine hp (id := 0) rfl rfl (bO Z1 Z5) ?_
 refine pA ?_
 refine fs ?_
 refine sr (N' := 128) rfl ?_
 refine pu rfl (aD Z1 Z3 Z2) ?_
 refine pA ?_
 obtain ⟨r2, h1, hm⟩ := bnd hm
 refine aE.callQ (r := .v (.int .u64 r2)) Zd Z1 bG9 (fun H => (cD (.agg _ (cN.dat _)) (cV .nil))) (aJc h1) ?_
 refine pA ?_
 refine fs ?_
 refine sr (N' := 192) rfl ?_
 refine pA ?_
 refine fs ?_
 refine AWp.seq' ?_
 refine AWp.block ?_
 refine AWp.loopM (fun m s => ∃ (levels_2 : Int) (value_7 : Int) (deep_8 : Int), s = (⟨25, (aK (aK (aK (fun _ => AV.any) 2 (.v (.int .i64 levels_2))) 7 (.v (.int .u64 value_7))) 8 (.v (.int .i64 deep_8))), ⟨bL, 64⟩⟩ : St) ∧ rB m levels_2 value_7 deep_8 = some r) bY ?_ ?_ ?_
 ·
  rintro s ⟨_, _, _, _, h⟩
  cases h
 ·
  refine ⟨_, ?_, levels_2, r2, 0, rfl, hm⟩
  exact aN id (wV (wV (wV aU))) cT
 ·
  rintro n1 s ⟨levels_2, value_7, deep_8, rfl, hm⟩
  replace hm : vF (rB n1) levels_2 value_7 deep_8 = some r := hm
  unfold vF at hm
  refine AWp.seq' ?_
  refine sr (N' := 128) rfl ?_
  iterate 7 first | refine pA ?_ | refine pB ?_
  obtain ⟨r4, h3, hm⟩ := bnd hm
  refine aE.callQG (r := .v (.int .u64 r4)) Zd rfl Z2 Z1 bCf (fun hb H => (.cons (td (Zh hb) (.v _)) .nil)) (fun hb => aI2 (dA h3 hb)) ?_
  iterate 2 first | refine pA ?_ | refine pB ?_
  refine fs ?_
  refine AWp.condM hm Z1 (fun _ hm => ?_) (fun _ hm => ?_)
  ·
   refine AWp.skip ?_
   refine aF ?_
   refine AWp.block ?_
   refine AWp.reg 64 (N' := 192) rfl ?_
   iterate 3 refine pA ?_
   refine aE.fin ?_
   refine cA ?_
   refine bU ?_
   refine ⟨_, ?_, levels_2, value_7, (IntKind.i64.wrap (deep_8 + 1)), rfl, hm⟩
   exact aN id (wV (wV (wV aU))) cT
  ·
   refine AWp.exit ?_
   refine cH ?_
   refine bW ?_
   refine bT ?_
   refine aF ?_
   refine sr (N' := 192) rfl ?_
   iterate 2 refine pA ?_
   refine fs ?_
   refine AWp.ret ?_
   cases hm
   exact bM (.inr rfl) Tryz.results210 (td Z1 (.v _))
def qA (rec1 : Int → aW → aW → List Int → List cC → Int → Int → Option (aW × Int)) (rec2 : Int → aW → aW → List Int → Int → List cC → Int → Int → Int → Int → Option (aW × Int)) (name_2 : Int) (s_3 : aW) (t6 : aW) (words_8 : List Int) (row_9 : Int) (t26 : List cC) (t27 : Int) (t28 : Int) (t37 : Int) (t38 : Int) : Option (aW × Int) :=
 (bif (decide (t38 < t37)) then
  ((idx words_8 (IntKind.i64.wrap ((IntKind.i64.wrap (row_9 * s_3.V)) + t38))).bind fun x10 =>
  ((idx words_8 (IntKind.i64.wrap ((IntKind.i64.wrap (row_9 * s_3.V)) + t38))).bind fun x12 =>
  ((stt words_8 (IntKind.i64.wrap ((IntKind.i64.wrap (row_9 * s_3.V)) + t38)) (bL1 .u64 x10 name_2)).bind fun l14 =>
  rec2 name_2 s_3 t6 l14 row_9 t26 t27 t28 t37 (IntKind.i64.wrap (t38 + 1)))))
 else
  rec1 name_2 s_3 t6 words_8 t26 t27 (IntKind.i64.wrap (t28 + 1)))
def lY (rec1 : Int → aW → aW → List Int → List cC → Int → Int → Option (aW × Int)) : Nat → Int → aW → aW → List Int → Int → List cC → Int → Int → Int → Int → Option (aW × Int)
 | 0 => fun _ _ _ _ _ _ _ _ _ _ => none
 | n + 1 => qA rec1 (lY rec1 n)
def pT (rec1 : Int → aW → aW → List Int → List cC → Int → Int → Option (aW × Int)) (name_2 : Int) (s_3 : aW) (t6 : aW) (words_8 : List Int) (t26 : List cC) (t27 : Int) (t28 : Int) : Option (aW × Int) :=
 (bif (decide (t28 < t27)) then
  ((idx t26 t28).bind fun x6 =>
  ((xO x6 name_2 s_3.V).bind fun r8 =>
  lY rec1 bY name_2 s_3 t6 words_8 t28 t26 t27 t28 r8 0))
 else
  some ((aW.mk s_3.R s_3.V words_8), 0))
def fY : Nat → Int → aW → aW → List Int → List cC → Int → Int → Option (aW × Int)
 | 0 => fun _ _ _ _ _ _ _ => none
 | n + 1 => pT (fY n)
def rO (s_0 : aW) (l_1 : List cC) (name_2 : Int) : Option (aW × Int) :=
 ((oR s_0).bind fun r2 =>
 (bif ((!r2) || ((l_1.length : Int) != s_0.R)) then
  some (s_0, 1)
 else
  ((iB s_0.Words).bind fun r4 =>
  fY bY name_2 s_0 (aW.mk 0 0 []) r4 l_1 (l_1.length : Int) 0)))
theorem aFc {s_0 : aW} {l_1 : List cC} {name_2 : Int} {r : aW × Int} (hm : rO s_0 l_1 name_2 = some r) : aT Tryz.prog 204 [.agg [.v (.int .i64 s_0.R), .v (.int .i64 s_0.V), .sl (s_0.Words.flatMap (ci .u64)) s_0.Words.length false], .sl (l_1.flatMap bA) l_1.length false, .v (.int .u64 name_2)] (.tup [.agg [.v (.int .i64 r.1.R), .v (.int .i64 r.1.V), .sl (r.1.Words.flatMap (ci .u64)) r.1.Words.length false], .v (.int .i64 r.2)]) := by
 refine aT.of_body Tryz.func204 rfl ?_
 simp only [Tryz.ntmps204, List.length_cons, List.length_nil, Nat.reduceAdd, Nat.reduceSub, aQ]
 unfold rO at hm
 refine sr (N' := 64) rfl ?_
 refine hp (id := 0) rfl rfl (bO Z1 Z5) ?_
 refine hp (id := 1) rfl rfl (aY aP5 Z5) ?_
 refine pA ?_
 refine fs ?_
 refine AWp.seq' ?_
 refine sr (N' := 128) rfl ?_
 refine pu rfl (aD Z1 Z3 Z2) ?_
 obtain ⟨r2, h1, hm⟩ := bnd hm
 refine aE.callQ (r := .v (.bool r2)) Zd Z1 aYl (fun H => (cD (.agg _ (cM.dat _)) .nil)) (zS h1) ?_
 iterate 5 first | refine pA ?_ | refine pB ?_
 refine pg rfl rfl Z2 (fun hb => (aD (Zh hb) Z3 Z4)) ?_
 iterate 2 first | refine pA ?_ | refine pB ?_
 refine fs ?_
 refine AWp.condM hm Z1 (fun _ hm => ?_) (fun _ hm => ?_)
 ·
  refine sr (N' := 192) rfl ?_
  refine pu rfl (aD Z1 Z3 Z2) ?_
  refine aE.heap0 (id := 129) rfl (bG (ys := [.v (.int .i64 s_0.R), .v (.int .i64 s_0.V), .sl (s_0.Words.flatMap (ci .u64)) s_0.Words.length false]) aE0 Z1 Z1 Z3 rfl (Nat.le_of_ble_eq_true rfl) Z9 rfl) ?_
  refine pA ?_
  refine fs ?_
  refine AWp.ret ?_
  refine bB ?_
  cases hm
  exact fK (.inr rfl) (by rw [Tryz.results204]) (.cell (cG Z1 Z3 Z2) (.tmp Z1 .nil)) rfl (tdt (.cons (td rfl (.agg _ (cM.dat _))) (.cons (td rfl (.v _)) .nil)))
 ·
  refine AWp.skip ?_
  refine aF ?_
  refine sr (N' := 192) rfl ?_
  refine pA ?_
  refine pu rfl (aD Z1 Z3 Z4) ?_
  obtain ⟨r4, h3, hm⟩ := bnd hm
  refine aE.callF (id := 130) Zd Z1 bEf (fun H => (cD ((CFi .u64).sl _ _ _) .nil)) (CFi .u64) Z5 (zH h3) ?_
  refine pA ?_
  refine fs ?_
  refine AWp.seq' ?_
  refine sr (N' := 256) rfl ?_
  iterate 3 refine pA ?_
  refine fs ?_
  refine AWp.block ?_
  refine AWp.loopM (fun m s => ∃ (name_2 : Int) (s_3 : aW) (t6 : aW) (words_8 : List Int) (t26 : List cC) (t27 : Int) (t28 : Int), s = (⟨61, (aK (aK (aK (aK (aK (aK (aK (fun _ => AV.any) 2 (.v (.int .u64 name_2))) 3 (.adr 1 0)) 6 (.adr 2 0)) 8 (.own 3 0 words_8.length)) 26 (.sl (t26.flatMap bA) t26.length false)) 27 (.v (.int .i64 t27))) 28 (.v (.int .i64 t28))), ⟨(upd (upd (upd bL 1 (.cells 1 [.v (.int .i64 s_3.R), .v (.int .i64 s_3.V), .sl (s_3.Words.flatMap (ci .u64)) s_3.Words.length false] 0)) 2 (.cells 1 [.v (.int .i64 t6.R), .v (.int .i64 t6.V), .sl (t6.Words.flatMap (ci .u64)) t6.Words.length false] 0)) 3 (.cells 1 (words_8.flatMap (ci .u64)) 0)), 64⟩⟩ : St) ∧ fY m name_2 s_3 t6 words_8 t26 t27 t28 = some r) bY ?_ ?_ ?_
  ·
   rintro s ⟨_, _, _, _, _, _, _, _, h⟩
   cases h
  ·
   refine ⟨_, ?_, name_2, s_0, (aW.mk 0 0 []), r4, l_1, (l_1.length : Int), 0, rfl, hm⟩
   refine St.Le.trans (gP 1 (ys := [.v (.int .i64 ((aW.mk 0 0 []).R)), .v (.int .i64 ((aW.mk 0 0 []).V)), .sl (((aW.mk 0 0 []).Words).flatMap (ci .u64)) ((aW.mk 0 0 []).Words).length false]) Z3 (.cons (.data _ (.v _)) (.cons (.data _ (.v _)) (.cons (.nil false) .nil)))) ?_
   exact aN (fun j => bif j == 1 then 0 else bif j == 2 then 1 else bif j == 3 then 130 else 0) (wV (wV (wD (cN.sl _ _ _) (wO (aX _ _ (bQ Z1 rfl Z7) (aX _ _ (bQ Z1 rfl Z7) (wV aU))))))) (cL _ (eU (CFi .u64) (aV (aO Z3 (Nat.le_refl _) (Nat.zero_le _) (cM.dat (aW.mk 0 0 []))) (aV (aO Z3 (Nat.le_refl _) (Nat.zero_le _) (cM.dat s_0)) aR))) Z8)
  ·
   rintro n1 s ⟨name_2, s_3, t6, words_8, t26, t27, t28, rfl, hm⟩
   replace hm : pT (fY n1) name_2 s_3 t6 words_8 t26 t27 t28 = some r := hm
   unfold pT at hm
   refine sr (N' := 128) rfl ?_
   refine pA ?_
   refine fs ?_
   refine AWp.seq' ?_
   refine AWp.condM hm Z1 (fun _ hm => ?_) (fun _ hm => ?_)
   ·
    refine AWp.skip ?_
    refine aF ?_
    refine AWp.seq' ?_
    refine AWp.block ?_
    refine sr (N' := 192) rfl ?_
    refine pA ?_
    obtain ⟨x6, h5, hm⟩ := bnd hm
    refine pu rfl (cP cN Zd Tryz.underlying27 uT Z1 rfl Z1 h5) ?_
    refine pA ?_
    refine hp (id := 131) rfl rfl (aY aHt Z5) ?_
    refine pA ?_
    refine aE.heap0 (id := 133) rfl (bG (ys := [.v (.int .u64 x6.A), .v (.int .u64 x6.B)]) uT Z1 Z1 Z3 rfl (Nat.le_of_ble_eq_true rfl) Z9 rfl) ?_
    refine fs ?_
    refine sr (N' := 256) rfl ?_
    refine pu rfl (aD Z1 Z3 Z2) ?_
    iterate 2 refine pA ?_
    refine pu rfl (aD Z1 Z3 Z4) ?_
    obtain ⟨r8, h7, hm⟩ := bnd hm
    refine aE.callQ (r := .v (.int .i64 r8)) Zd Z1 bGl (fun H => (cD (.agg _ (cN.dat _)) (cV (cV .nil)))) (aJu h7) ?_
    refine pA ?_
    refine fs ?_
    refine AWp.block ?_
    refine AWp.loopM (fun m s => ∃ (name_2 : Int) (s_3 : aW) (t6 : aW) (words_8 : List Int) (row_9 : Int) (t26 : List cC) (t27 : Int) (t28 : Int) (t37 : Int) (t38 : Int), s = (⟨61, (aK (aK (aK (aK (aK (aK (aK (aK (aK (aK (fun _ => AV.any) 2 (.v (.int .u64 name_2))) 3 (.adr 1 0)) 6 (.adr 2 0)) 8 (.own 3 0 words_8.length)) 9 (.v (.int .i64 row_9))) 26 (.sl (t26.flatMap bA) t26.length false)) 27 (.v (.int .i64 t27))) 28 (.v (.int .i64 t28))) 37 (.v (.int .i64 t37))) 38 (.v (.int .i64 t38))), ⟨(upd (upd (upd bL 1 (.cells 1 [.v (.int .i64 s_3.R), .v (.int .i64 s_3.V), .sl (s_3.Words.flatMap (ci .u64)) s_3.Words.length false] 0)) 2 (.cells 1 [.v (.int .i64 t6.R), .v (.int .i64 t6.V), .sl (t6.Words.flatMap (ci .u64)) t6.Words.length false] 0)) 3 (.cells 1 (words_8.flatMap (ci .u64)) 0)), 64⟩⟩ : St) ∧ lY (fY n1) m name_2 s_3 t6 words_8 row_9 t26 t27 t28 t37 t38 = some r) bY ?_ ?_ ?_
    ·
     rintro s ⟨_, _, _, _, _, _, _, _, _, _, _, h⟩
     cases h
    ·
     refine ⟨_, ?_, name_2, s_3, t6, words_8, t28, t26, t27, t28, r8, 0, rfl, hm⟩
     exact aN (fun j => bif j == 1 then 1 else bif j == 2 then 2 else bif j == 3 then 3 else 0) (wV (wV (wV (wV (wD (cN.sl _ _ _) (wV (wO (aX _ _ (bQ Z1 rfl Z7) (aX _ _ (bQ Z1 rfl Z7) (wV aU)))))))))) (cL _ (eU (CFi .u64) (aV (aO Z3 (Nat.le_refl _) (Nat.zero_le _) (cM.dat t6)) (aV (aO Z3 (Nat.le_refl _) (Nat.zero_le _) (cM.dat s_3)) aR))) Z8)
    ·
     rintro n2 s ⟨name_2, s_3, t6, words_8, row_9, t26, t27, t28, t37, t38, rfl, hm⟩
     replace hm : qA (fY n1) (lY (fY n1) n2) name_2 s_3 t6 words_8 row_9 t26 t27 t28 t37 t38 = some r := hm
     unfold qA at hm
     refine sr (N' := 128) rfl ?_
     refine pA ?_
     refine fs ?_
     refine AWp.seq' ?_
     refine AWp.condM hm Z1 (fun _ hm => ?_) (fun _ hm => ?_)
     ·
      refine AWp.skip ?_
      refine aF ?_
      refine AWp.seq' ?_
      refine AWp.block ?_
      refine sr (N' := 192) rfl ?_
      iterate 2 refine pA ?_
      refine fs ?_
      refine AWp.reg 64 (N' := 256) rfl ?_
      iterate 3 refine pA ?_
      refine pu rfl (aD Z1 Z3 Z4) ?_
      iterate 3 refine pA ?_
      obtain ⟨x10, h9, hm⟩ := bnd hm
      refine pu rfl (dD Tryz.underlying24 nS Z1 Z3 Z6 Z1 h9) ?_
      refine pu rfl (jR (CFi .u64) Z1 Z3 h9 (fun _ => by simp only [go_sem, Nat.reduceBEq]; try with_reducible rfl)) ?_
      iterate 2 refine pA ?_
      obtain ⟨x12, h11, hm⟩ := bnd hm
      refine pu rfl (dD Tryz.underlying24 nS Z1 Z3 Z6 Z1 h11) ?_
      obtain ⟨l14, h13, hm⟩ := bnd hm
      have qh13 := iC h13
      refine aE.heap0 (id := 204) rfl (mC (CFi .u64) nS Z1 Z1 Z3 rfl h13) ?_
      refine aE.fin ?_
      refine cA ?_
      refine aF ?_
      refine AWp.reg 64 (N' := 320) rfl ?_
      iterate 2 refine pA ?_
      refine aE.fin ?_
      refine bU ?_
      refine ⟨_, ?_, name_2, s_3, t6, l14, row_9, t26, t27, t28, t37, (IntKind.i64.wrap (t38 + 1)), rfl, hm⟩
      exact aN (fun j => bif j == 1 then 1 else bif j == 2 then 2 else bif j == 3 then 3 else 0) (wV (wV (wV (wV (wD (cN.sl _ _ _) (wV (wO (aX _ _ (bQ Z1 rfl Z7) (aX _ _ (bQ Z1 rfl Z7) (wV aU)))))))))) (cL _ (eU (CFi .u64) (aV (aO Z3 (Nat.le_refl _) (Nat.zero_le _) (cM.dat t6)) (aV (aO Z3 (Nat.le_refl _) (Nat.zero_le _) (cM.dat s_3)) aR))) Z8)
     ·
      refine AWp.exit ?_
      refine cH ?_
      refine bW ?_
      refine bT ?_
      refine cA ?_
      refine aF ?_
      refine AWp.reg 64 (N' := 192) rfl ?_
      iterate 2 refine pA ?_
      refine aE.fin ?_
      refine bU ?_
      refine ⟨_, ?_, name_2, s_3, t6, words_8, t26, t27, (IntKind.i64.wrap (t28 + 1)), rfl, hm⟩
      exact aN (fun j => bif j == 1 then 1 else bif j == 2 then 2 else bif j == 3 then 3 else 0) (wV (wV (wD (cN.sl _ _ _) (wO (aX _ _ (bQ Z1 rfl Z7) (aX _ _ (bQ Z1 rfl Z7) (wV aU))))))) (cL _ (eU (CFi .u64) (aV (aO Z3 (Nat.le_refl _) (Nat.zero_le _) (cM.dat t6)) (aV (aO Z3 (Nat.le_refl _) (Nat.zero_le _) (cM.dat s_3)) aR))) Z8)
   ·
    refine AWp.exit ?_
    refine cH ?_
    refine bW ?_
    refine bT ?_
    refine aF ?_
    refine AWp.seq' ?_
    refine AWp.weaken (aJ1 (CFi .u64) 8 3 Z1 Z3 Z6) ?_
    refine AWp.reg 64 (N' := 192) rfl ?_
    refine pA ?_
    refine pu rfl (aD Z1 Z3 Z4) ?_
    refine pA ?_
    refine pu rfl (aD Z1 Z3 Z4) ?_
    refine pA ?_
    refine pu rfl (by simp only [go_sem, Nat.reduceBEq]; exact (by kernel_rfl : dJ Tryz.prog 243 [(0, .v (.int .i64 s_3.R)), (1, .v (.int .i64 s_3.V)), (2, .sl (words_8.flatMap (ci .u64)) words_8.length false)] = some (.agg [.v (.int .i64 s_3.R), .v (.int .i64 s_3.V), .sl (words_8.flatMap (ci .u64)) words_8.length false]))) ?_
    refine aE.heap0 (id := 134) rfl (bG (ys := [.v (.int .i64 s_3.R), .v (.int .i64 s_3.V), .sl (words_8.flatMap (ci .u64)) words_8.length false]) aE0 Z1 Z1 Z3 rfl (Nat.le_of_ble_eq_true rfl) Z9 rfl) ?_
    refine pA ?_
    refine fs ?_
    refine AWp.ret ?_
    cases hm
    exact fK (.inr rfl) (by rw [Tryz.results204]) (.cell (cG Z1 Z3 Z2) (.tmp Z1 .nil)) rfl (tdt (.cons (td rfl (.agg _ (cM.dat (aW.mk s_3.R s_3.V words_8)))) (.cons (td rfl (.v _)) .nil)))
def sI (rec1 : aW → aW → List cC → List Int → Int → Int → Option (aW)) (t6 : aW) (s_7 : aW) (by_9 : List cC) (t27 : List Int) (t28 : Int) (t29 : Int) : Option (aW) :=
 (bif (decide (t29 < t28)) then
  ((idx t27 t29).bind fun x11 =>
  ((rO s_7 by_9 x11).bind fun ⟨r13, r14⟩ =>
  rec1 t6 r13 by_9 t27 t28 (IntKind.i64.wrap (t29 + 1))))
 else
  some s_7)
def nH : Nat → aW → aW → List cC → List Int → Int → Int → Option (aW)
 | 0 => fun _ _ _ _ _ _ => none
 | n + 1 => sI (nH n)
def tV (g_0 : aJ) (tier_1 : Int) (out_2 : List aC) : Option (aW) :=
 ((tX g_0.Config.N).bind fun r2 =>
 ((xR g_0.Config.R r2).bind fun ⟨r4, r5⟩ =>
 ((qC g_0 tier_1).bind fun r7 =>
 ((aAa out_2).bind fun r9 =>
 nH bY (aW.mk 0 0 []) r4 r7 r9 (r9.length : Int) 0))))
theorem aH5 {g_0 : aJ} {tier_1 : Int} {out_2 : List aC} {r : aW} (hm : tV g_0 tier_1 out_2 = some r) : aT Tryz.prog 188 [.agg [.v (.int .i64 g_0.Config.N), .v (.int .i64 g_0.Config.L), .v (.int .i64 g_0.Config.R), .sl (g_0.Hashes.flatMap bA) g_0.Hashes.length false, .sl (g_0.Edges.flatMap aL) g_0.Edges.length false], .v (.int .i64 tier_1), .sl (out_2.flatMap aL) out_2.length false] (.agg [.v (.int .i64 r.R), .v (.int .i64 r.V), .sl (r.Words.flatMap (ci .u64)) r.Words.length false]) := by
 refine aT.of_body Tryz.func188 rfl ?_
 simp only [Tryz.ntmps188, List.length_cons, List.length_nil, Nat.reduceAdd, Nat.reduceSub, aQ]
 unfold tV at hm
 refine sr (N' := 64) rfl ?_
 refine hp (id := 0) rfl rfl (bO Z1 Z5) ?_
 refine hp (id := 1) rfl rfl (aY aP5 Z5) ?_
 refine fs ?_
 refine sd mix (by kernel_rfl) (N' := 128) rfl ?_
 iterate 2 refine pA ?_
 refine pu rfl (aD Z1 Z3 Z4) ?_
 iterate 2 refine pA ?_
 refine pu rfl (aD Z1 Z3 Z4) ?_
 obtain ⟨r2, h1, hm⟩ := bnd hm
 refine aE.callQ (r := .v (.int .i64 r2)) Zd Z1 bAt (fun H => (cV .nil)) (aH9 h1) ?_
 obtain ⟨⟨r4, r5⟩, h3, hm⟩ := bnd hm
 refine aE.callQ (r := .tup [.agg [.v (.int .i64 r4.R), .v (.int .i64 r4.V), .sl (r4.Words.flatMap (ci .u64)) r4.Words.length false], .v (.int .i64 r5)]) Zd Z1 bH9 (fun H => (cV (cV .nil))) (aLh h3) ?_
 iterate 3 refine pA ?_
 refine hp (id := 75) rfl rfl (aY aP5 Z5) ?_
 refine aE.heap0 (id := 76) rfl (bG (ys := [.v (.int .i64 r4.R), .v (.int .i64 r4.V), .sl (r4.Words.flatMap (ci .u64)) r4.Words.length false]) aE0 Z1 Z1 Z3 rfl (Nat.le_of_ble_eq_true rfl) Z9 rfl) ?_
 refine pA ?_
 refine fs ?_
 refine sr (N' := 192) rfl ?_
 refine pu rfl (aD Z1 Z3 Z2) ?_
 refine pA ?_
 obtain ⟨r7, h6, hm⟩ := bnd hm
 refine aE.callQ (r := .sl (r7.flatMap bA) r7.length false) Zd Z1 bEa (fun H => (cD (.agg _ (cB.dat _)) (cV .nil))) (aE7 h6) ?_
 refine pA ?_
 refine fs ?_
 refine AWp.seq' ?_
 refine sr (N' := 256) rfl ?_
 refine pA ?_
 obtain ⟨r9, h8, hm⟩ := bnd hm
 refine aE.callQ (r := .sl (r9.flatMap (ci .u64)) r9.length false) Zd Z1 bGc (fun H => (cD (aG.sl _ _ _) .nil)) (aO2 h8) ?_
 iterate 2 refine pA ?_
 refine fs ?_
 refine AWp.block ?_
 refine AWp.loopM (fun m s => ∃ (t6 : aW) (s_7 : aW) (by_9 : List cC) (t27 : List Int) (t28 : Int) (t29 : Int), s = (⟨42, (aK (aK (aK (aK (aK (aK (fun _ => AV.any) 6 (.adr 1 0)) 7 (.adr 2 0)) 9 (.sl (by_9.flatMap bA) by_9.length false)) 27 (.sl (t27.flatMap (ci .u64)) t27.length false)) 28 (.v (.int .i64 t28))) 29 (.v (.int .i64 t29))), ⟨(upd (upd bL 1 (.cells 1 [.v (.int .i64 t6.R), .v (.int .i64 t6.V), .sl (t6.Words.flatMap (ci .u64)) t6.Words.length false] 0)) 2 (.cells 1 [.v (.int .i64 s_7.R), .v (.int .i64 s_7.V), .sl (s_7.Words.flatMap (ci .u64)) s_7.Words.length false] 0)), 64⟩⟩ : St) ∧ nH m t6 s_7 by_9 t27 t28 t29 = some r) bY ?_ ?_ ?_
 ·
  rintro s ⟨_, _, _, _, _, _, _, h⟩
  cases h
 ·
  refine ⟨_, ?_, (aW.mk 0 0 []), r4, r7, r9, (r9.length : Int), 0, rfl, hm⟩
  refine St.Le.trans (gP 1 (ys := [.v (.int .i64 ((aW.mk 0 0 []).R)), .v (.int .i64 ((aW.mk 0 0 []).V)), .sl (((aW.mk 0 0 []).Words).flatMap (ci .u64)) ((aW.mk 0 0 []).Words).length false]) Z3 (.cons (.data _ (.v _)) (.cons (.data _ (.v _)) (.cons (.nil false) .nil)))) ?_
  exact aN (fun j => bif j == 1 then 1 else bif j == 2 then 75 else 0) (wV (wV (wD ((CFi .u64).sl _ _ _) (wD (cN.sl _ _ _) (aX _ _ (bQ Z1 rfl Z7) (aX _ _ (bQ Z1 rfl Z7) aU)))))) (cL _ (aV (aO Z3 (Nat.le_refl _) (Nat.zero_le _) (cM.dat r4)) (aV (aO Z3 (Nat.le_refl _) (Nat.zero_le _) (cM.dat (aW.mk 0 0 []))) aR)) Z8)
 ·
  rintro n1 s ⟨t6, s_7, by_9, t27, t28, t29, rfl, hm⟩
  replace hm : sI (nH n1) t6 s_7 by_9 t27 t28 t29 = some r := hm
  unfold sI at hm
  refine sr (N' := 128) rfl ?_
  refine pA ?_
  refine fs ?_
  refine AWp.seq' ?_
  refine AWp.condM hm Z1 (fun _ hm => ?_) (fun _ hm => ?_)
  ·
   refine AWp.skip ?_
   refine aF ?_
   refine AWp.seq' ?_
   refine AWp.block ?_
   refine sr (N' := 192) rfl ?_
   obtain ⟨x11, h10, hm⟩ := bnd hm
   refine pu rfl (cP (CFi .u64) Zd Tryz.underlying24 nS Z1 rfl Z1 h10) ?_
   iterate 2 refine pA ?_
   refine fs ?_
   refine AWp.reg 64 (N' := 256) rfl ?_
   refine pu rfl (aD Z1 Z3 Z2) ?_
   iterate 2 refine pA ?_
   obtain ⟨⟨r13, r14⟩, h12, hm⟩ := bnd hm
   refine aE.callQ (r := .tup [.agg [.v (.int .i64 r13.R), .v (.int .i64 r13.V), .sl (r13.Words.flatMap (ci .u64)) r13.Words.length false], .v (.int .i64 r14)]) Zd Z1 bEv (fun H => (cD (.agg _ (cM.dat _)) (cD (cN.sl _ _ _) (cV .nil)))) (aFc h12) ?_
   iterate 3 refine pA ?_
   refine aE.heap0 (id := 199) rfl (bG (ys := [.v (.int .i64 r13.R), .v (.int .i64 r13.V), .sl (r13.Words.flatMap (ci .u64)) r13.Words.length false]) aE0 Z1 Z1 Z3 rfl (Nat.le_of_ble_eq_true rfl) Z9 rfl) ?_
   refine aE.fin ?_
   refine cA ?_
   refine aF ?_
   refine AWp.reg 64 (N' := 320) rfl ?_
   iterate 2 refine pA ?_
   refine aE.fin ?_
   refine bU ?_
   refine ⟨_, ?_, t6, r13, by_9, t27, t28, (IntKind.i64.wrap (t29 + 1)), rfl, hm⟩
   exact aN (fun j => bif j == 1 then 1 else bif j == 2 then 2 else 0) (wV (wV (wD ((CFi .u64).sl _ _ _) (wD (cN.sl _ _ _) (aX _ _ (bQ Z1 rfl Z7) (aX _ _ (bQ Z1 rfl Z7) aU)))))) (hW (aV (aO Z3 (Nat.le_refl _) (Nat.zero_le _) (cM.dat r13)) (aV (aO Z3 (Nat.le_refl _) (Nat.zero_le _) (cM.dat t6)) aR)))
  ·
   refine AWp.exit ?_
   refine cH ?_
   refine bW ?_
   refine bT ?_
   refine aF ?_
   refine sr (N' := 192) rfl ?_
   refine pu rfl (aD Z1 Z3 Z2) ?_
   refine aE.heap0 (id := 129) rfl (bG (ys := [.v (.int .i64 s_7.R), .v (.int .i64 s_7.V), .sl (s_7.Words.flatMap (ci .u64)) s_7.Words.length false]) aE0 Z1 Z1 Z3 rfl (Nat.le_of_ble_eq_true rfl) Z9 rfl) ?_
   refine fs ?_
   refine AWp.ret ?_
   cases hm
   exact fK (.inr rfl) (by rw [Tryz.results188]) (.cell (cG Z1 Z3 Z2) .nil) rfl (td rfl (.agg _ (cM.dat _)))
def wG (name_0 : Int) : Option (Int × Int × Bool) :=
 (bif (decide ((Int.tmod name_0 16777216) ≤ (IntKind.u64.wrap (Int.tdiv name_0 16777216)))) then
  some (0, 0, false)
 else
  some ((IntKind.i64.wrap (IntKind.u64.wrap (Int.tdiv name_0 16777216))), (IntKind.i64.wrap (Int.tmod name_0 16777216)), true))
theorem aG9 {name_0 : Int} {r : Int × Int × Bool} (hm : wG name_0 = some r) : aT Tryz.prog 189 [.v (.int .u64 name_0)] (.tup [.v (.int .i64 r.1), .v (.int .i64 r.2.1), .v (.bool r.2.2)]) := by
 refine aT.of_body Tryz.func189 rfl ?_
 simp only [Tryz.ntmps189, List.length_cons, List.length_nil, Nat.reduceAdd, Nat.reduceSub, aQ]
 unfold wG at hm
 refine sr (N' := 64) rfl ?_
 iterate 3 refine pA ?_
 refine fs ?_
 refine sr (N' := 128) rfl ?_
 iterate 6 refine pu rfl (by simp only [go_sem, Nat.reduceBEq, Int.reduceEq, Int.reduceLE]; try with_reducible rfl) ?_
 refine fs ?_
 refine AWp.seq' ?_
 refine sr (N' := 192) rfl ?_
 iterate 3 refine pA ?_
 refine fs ?_
 refine AWp.condM hm Z1 (fun _ hm => ?_) (fun _ hm => ?_)
 ·
  refine sr (N' := 256) rfl ?_
  iterate 3 refine pA ?_
  refine fs ?_
  refine AWp.ret ?_
  refine bB ?_
  cases hm
  exact aHg (.inr rfl) Tryz.results189 (td Z1 (.v _)) (td Z1 (.v _)) (td Z1 (.v _))
 ·
  refine AWp.skip ?_
  refine aF ?_
  refine sr (N' := 256) rfl ?_
  iterate 7 refine pA ?_
  refine fs ?_
  refine AWp.ret ?_
  cases hm
  exact aHg (.inr rfl) Tryz.results189 (td Z1 (.v _)) (td Z1 (.v _)) (td Z1 (.v _))
def mW (rec1 : List Int → List Int → Int → Int → Option ((List Int))) (names_3 : List Int) (t13 : List Int) (t14 : Int) (t15 : Int) : Option ((List Int)) :=
 rec1 names_3 t13 t14 (IntKind.i64.wrap (t15 + 1))
def rM (rec1 : List Int → List Int → Int → Int → Option ((List Int))) (names_3 : List Int) (t13 : List Int) (t14 : Int) (t15 : Int) : Option ((List Int)) :=
 (bif (decide (t15 < t14)) then
  ((idx t13 t15).bind fun x4 =>
  ((wG x4).bind fun ⟨r6, r7, r8⟩ =>
  (bif r8 then
   ((app names_3 [x4]).bind fun l10 =>
   mW rec1 l10 t13 t14 t15)
  else
   mW rec1 names_3 t13 t14 t15)))
 else
  some names_3)
def kO : Nat → List Int → List Int → Int → Int → Option ((List Int))
 | 0 => fun _ _ _ _ => none
 | n + 1 => rM (kO n)
def uD (s_0 : aW) : Option ((List Int)) :=
 ((oR s_0).bind fun r2 =>
 (bif (!r2) then
  some []
 else
  kO bY [] s_0.Words (s_0.Words.length : Int) 0))
theorem aGg {s_0 : aW} {r : (List Int)} (hm : uD s_0 = some r) : aT Tryz.prog 187 [.agg [.v (.int .i64 s_0.R), .v (.int .i64 s_0.V), .sl (s_0.Words.flatMap (ci .u64)) s_0.Words.length false]] (.sl (r.flatMap (ci .u64)) r.length false) := by
 refine aT.of_body Tryz.func187 rfl ?_
 simp only [Tryz.ntmps187, List.length_cons, List.length_nil, Nat.reduceAdd, Nat.reduceSub, aQ]
 unfold uD at hm
 refine sr (N' := 64) rfl ?_
 refine hp (id := 0) rfl rfl (bO Z1 Z5) ?_
 refine pA ?_
 refine fs ?_
 refine AWp.seq' ?_
 refine sr (N' := 128) rfl ?_
 refine pu rfl (aD Z1 Z3 Z2) ?_
 obtain ⟨r2, h1, hm⟩ := bnd hm
 refine aE.callQ (r := .v (.bool r2)) Zd Z1 aYl (fun H => (cD (.agg _ (cM.dat _)) .nil)) (zS h1) ?_
 refine pA ?_
 refine fs ?_
 refine AWp.condM hm Z1 (fun _ hm => ?_) (fun _ hm => ?_)
 ·
  refine sr (N' := 192) rfl ?_
  refine pA ?_
  refine fs ?_
  refine AWp.ret ?_
  refine bB ?_
  cases hm
  exact bM (.inr rfl) Tryz.results187 (tdn Z1)
 ·
  refine AWp.skip ?_
  refine aF ?_
  refine sr (N' := 192) rfl ?_
  refine pA ?_
  refine fs ?_
  refine AWp.seq' ?_
  refine sr (N' := 256) rfl ?_
  refine pA ?_
  refine pu rfl (aD Z1 Z3 Z4) ?_
  iterate 2 refine pA ?_
  refine fs ?_
  refine AWp.block ?_
  refine AWp.loopM (fun m s => ∃ (names_3 : List Int) (t13 : List Int) (t14 : Int) (t15 : Int), s = (⟨32, (aK (aK (aK (aK (fun _ => AV.any) 3 (.own 1 0 names_3.length)) 13 (.sl (t13.flatMap (ci .u64)) t13.length false)) 14 (.v (.int .i64 t14))) 15 (.v (.int .i64 t15))), ⟨(upd bL 1 (.cells 1 (names_3.flatMap (ci .u64)) 0)), 64⟩⟩ : St) ∧ kO m names_3 t13 t14 t15 = some r) bY ?_ ?_ ?_
  ·
   rintro s ⟨_, _, _, _, _, h⟩
   cases h
  ·
   refine ⟨_, ?_, [], s_0.Words, (s_0.Words.length : Int), 0, rfl, hm⟩
   refine St.Le.trans (kA 3 900003 1 Z1 Z5) ?_
   exact aN (fun j => bif j == 1 then 900003 else 0) (wV (wV (wD ((CFi .u64).sl _ _ _) (wO aU)))) (hW (eU (CFi .u64) aR))
  ·
   rintro n1 s ⟨names_3, t13, t14, t15, rfl, hm⟩
   replace hm : rM (kO n1) names_3 t13 t14 t15 = some r := hm
   unfold rM at hm
   refine sr (N' := 128) rfl ?_
   refine pA ?_
   refine fs ?_
   refine AWp.seq' ?_
   refine AWp.condM hm Z1 (fun _ hm => ?_) (fun _ hm => ?_)
   ·
    refine AWp.skip ?_
    refine aF ?_
    refine AWp.seqJ (fun s => ∃ (names_3 : List Int) (t13 : List Int) (t14 : Int) (t15 : Int), s = (⟨32, (aK (aK (aK (aK (fun _ => AV.any) 3 (.own 1 0 names_3.length)) 13 (.sl (t13.flatMap (ci .u64)) t13.length false)) 14 (.v (.int .i64 t14))) 15 (.v (.int .i64 t15))), ⟨(upd bL 1 (.cells 1 (names_3.flatMap (ci .u64)) 0)), 64⟩⟩ : St) ∧ mW (kO n1) names_3 t13 t14 t15 = some r) ?_ ?_
    ·
     refine AWp.block ?_
     refine sr (N' := 192) rfl ?_
     obtain ⟨x4, h3, hm⟩ := bnd hm
     refine pu rfl (cP (CFi .u64) Zd Tryz.underlying24 nS Z1 rfl Z1 h3) ?_
     iterate 2 refine pA ?_
     refine fs ?_
     refine sr (N' := 256) rfl ?_
     refine pA ?_
     obtain ⟨⟨r6, r7, r8⟩, h5, hm⟩ := bnd hm
     refine aE.callQ (r := .tup [.v (.int .i64 r6), .v (.int .i64 r7), .v (.bool r8)]) Zd Z1 aZa (fun H => (cV .nil)) (aG9 h5) ?_
     iterate 7 refine pA ?_
     refine fs ?_
     refine sr (N' := 320) rfl ?_
     refine pA ?_
     refine fs ?_
     refine AWp.condM hm Z1 (fun _ hm => ?_) (fun _ hm => ?_)
     ·
      refine AWp.reg 64 (N' := 384) rfl ?_
      iterate 2 refine pA ?_
      refine hp (id := 322) rfl rfl (eE (CFi .u64) (l := [x4]) Tryz.underlying24 nS aI6 Z5 Zd Zd Zd (by simp only [go_sem, Nat.reduceBEq]; try rfl) (by kernel_rfl)) ?_
      obtain ⟨l10, h9, hm⟩ := bnd hm
      refine hp (id := 323) rfl rfl (iI (CFi .u64) Tryz.underlying24 Tryz.underlying24 rfl aOd aOs (by rw [aCj]; decide) (by rw [aCj]; decide) aQu Zd Zd Z1 Z3 Z6 (lM (CFi .u64) Z1 Z3 Z6) rfl Z5 h9) ?_
      refine pA ?_
      refine aE.fin ?_
      refine cA ?_
      refine dY ?_
      refine ⟨_, ?_, l10, t13, t14, t15, rfl, hm⟩
      exact aN (fun j => bif j == 1 then 323 else 0) (wV (wV (wD ((CFi .u64).sl _ _ _) (wO aU)))) (hW (eU (CFi .u64) aR))
     ·
      refine AWp.skip ?_
      refine cA ?_
      refine dY ?_
      refine ⟨_, ?_, names_3, t13, t14, t15, rfl, hm⟩
      exact aN (fun j => bif j == 1 then 1 else 0) (wV (wV (wD ((CFi .u64).sl _ _ _) (wO aU)))) (hW (eU (CFi .u64) aR))
    ·
     rintro s ⟨names_3, t13, t14, t15, rfl, hm⟩
     unfold mW at hm
     refine AWp.reg 64 (N' := 128) rfl ?_
     iterate 2 refine pA ?_
     refine aE.fin ?_
     refine bU ?_
     refine ⟨_, ?_, names_3, t13, t14, (IntKind.i64.wrap (t15 + 1)), rfl, hm⟩
     exact aN (fun j => bif j == 1 then 1 else 0) (wV (wV (wD ((CFi .u64).sl _ _ _) (wO aU)))) (hW (eU (CFi .u64) aR))
   ·
    refine AWp.exit ?_
    refine cH ?_
    refine bW ?_
    refine bT ?_
    refine aF ?_
    refine sr (N' := 192) rfl ?_
    iterate 2 refine pA ?_
    refine fs ?_
    refine AWp.ret ?_
    cases hm
    exact bM (.inr rfl) Tryz.results187 (tdo (CFi .u64) Z1 Z3 Z6)
def mB (rec1 : aC → List aC → List Int → Int → Int → Option (aC × Bool)) (t6 : aC) (out_8 : List aC) (t30 : List Int) (t31 : Int) (t32 : Int) : Option (aC × Bool) :=
 rec1 t6 out_8 t30 t31 (IntKind.i64.wrap (t32 + 1))
def pX (rec1 : aC → List aC → List Int → Int → Int → Option (aC × Bool)) (t6 : aC) (out_8 : List aC) (t30 : List Int) (t31 : Int) (t32 : Int) : Option (aC × Bool) :=
 (bif (decide (t32 < t31)) then
  ((idx t30 t32).bind fun x10 =>
  ((wG x10).bind fun ⟨r12, r13, r14⟩ =>
  (bif (!r14) then
   mB rec1 t6 out_8 t30 t31 t32
  else
   ((mE out_8 r12 r13).bind fun ⟨r16, r17⟩ =>
   (bif r17 then
    ((idx out_8 r16).bind fun x19 =>
    some (x19, true))
   else
    mB rec1 t6 out_8 t30 t31 t32)))))
 else
  some ((aC.mk 0 0 0), false))
def jE : Nat → aC → List aC → List Int → Int → Int → Option (aC × Bool)
 | 0 => fun _ _ _ _ _ => none
 | n + 1 => pX (jE n)
def sE (g_0 : aJ) (tier_1 : Int) (v_2 : Int) : Option (aC × Bool) :=
 ((nE g_0 tier_1 v_2).bind fun r2 =>
 (bif (!r2) then
  some ((aC.mk 0 0 0), false)
 else
  ((uH g_0 tier_1 v_2).bind fun r4 =>
  ((tV g_0 tier_1 r4).bind fun r6 =>
  ((uD r6).bind fun r8 =>
  jE bY (aC.mk 0 0 0) r4 r8 (r8.length : Int) 0)))))
theorem aF5 {g_0 : aJ} {tier_1 : Int} {v_2 : Int} {r : aC × Bool} (hm : sE g_0 tier_1 v_2 = some r) : aT Tryz.prog 169 [.agg [.v (.int .i64 g_0.Config.N), .v (.int .i64 g_0.Config.L), .v (.int .i64 g_0.Config.R), .sl (g_0.Hashes.flatMap bA) g_0.Hashes.length false, .sl (g_0.Edges.flatMap aL) g_0.Edges.length false], .v (.int .i64 tier_1), .v (.int .i64 v_2)] (.tup [.agg [.v (.int .i64 r.1.U), .v (.int .i64 r.1.V), .v (.int .i64 r.1.Tier)], .v (.bool r.2)]) := by
 refine aT.of_body Tryz.func169 rfl ?_
 simp only [Tryz.ntmps169, List.length_cons, List.length_nil, Nat.reduceAdd, Nat.reduceSub, aQ]
 unfold sE at hm
 refine sr (N' := 64) rfl ?_
 refine hp (id := 0) rfl rfl (bO Z1 Z5) ?_
 refine hp (id := 1) rfl rfl (aY jI Z5) ?_
 refine pA ?_
 refine fs ?_
 refine AWp.seq' ?_
 refine sr (N' := 128) rfl ?_
 refine pu rfl (aD Z1 Z3 Z2) ?_
 iterate 2 refine pA ?_
 obtain ⟨r2, h1, hm⟩ := bnd hm
 refine aE.callQ (r := .v (.bool r2)) Zd Z1 bDj (fun H => (cD (.agg _ (cB.dat _)) (cV (cV .nil)))) (aCb h1) ?_
 refine pA ?_
 refine fs ?_
 refine AWp.condM hm Z1 (fun _ hm => ?_) (fun _ hm => ?_)
 ·
  refine sr (N' := 192) rfl ?_
  refine pu rfl (by simp only [go_sem, Nat.reduceBEq]; exact (by kernel_rfl : dJ Tryz.prog 102 [] = some (.agg [.v (.int .i64 0), .v (.int .i64 0), .v (.int .i64 0)]))) ?_
  refine aE.heap0 (id := 129) rfl (bG (ys := [.v (.int .i64 0), .v (.int .i64 0), .v (.int .i64 0)]) dQ Z1 Z1 Z3 rfl (Nat.le_of_ble_eq_true rfl) Z9 rfl) ?_
  refine pA ?_
  refine fs ?_
  refine AWp.ret ?_
  refine bB ?_
  cases hm
  exact fK (.inr rfl) (by rw [Tryz.results169]) (.cell (cG Z1 Z3 Z2) (.tmp Z1 .nil)) rfl (tdt (.cons (td rfl (.agg _ (aG.dat (aC.mk 0 0 0)))) (.cons (td rfl (.v _)) .nil)))
 ·
  refine AWp.skip ?_
  refine aF ?_
  refine sr (N' := 192) rfl ?_
  refine pu rfl (aD Z1 Z3 Z2) ?_
  iterate 2 refine pA ?_
  obtain ⟨r4, h3, hm⟩ := bnd hm
  refine aE.callQ (r := .sl (r4.flatMap aL) r4.length false) Zd Z1 bCg (fun H => (cD (.agg _ (cB.dat _)) (cV (cV .nil)))) (aGp h3) ?_
  refine pA ?_
  refine fs ?_
  refine AWp.seq' ?_
  refine sr (N' := 256) rfl ?_
  refine pu rfl (aD Z1 Z3 Z2) ?_
  iterate 2 refine pA ?_
  obtain ⟨r6, h5, hm⟩ := bnd hm
  refine aE.callQ (r := .agg [.v (.int .i64 r6.R), .v (.int .i64 r6.V), .sl (r6.Words.flatMap (ci .u64)) r6.Words.length false]) Zd Z1 bFm (fun H => (cD (.agg _ (cB.dat _)) (cV (cD (aG.sl _ _ _) .nil)))) (aH5 h5) ?_
  obtain ⟨r8, h7, hm⟩ := bnd hm
  refine aE.callQ (r := .sl (r8.flatMap (ci .u64)) r8.length false) Zd Z1 bD9 (fun H => (cD (.agg _ (cM.dat _)) .nil)) (aGg h7) ?_
  iterate 2 refine pA ?_
  refine fs ?_
  refine AWp.block ?_
  refine AWp.loopM (fun m s => ∃ (t6 : aC) (out_8 : List aC) (t30 : List Int) (t31 : Int) (t32 : Int), s = (⟨58, (aK (aK (aK (aK (aK (fun _ => AV.any) 6 (.adr 1 0)) 8 (.sl (out_8.flatMap aL) out_8.length false)) 30 (.sl (t30.flatMap (ci .u64)) t30.length false)) 31 (.v (.int .i64 t31))) 32 (.v (.int .i64 t32))), ⟨(upd bL 1 (.cells 1 [.v (.int .i64 t6.U), .v (.int .i64 t6.V), .v (.int .i64 t6.Tier)] 0)), 64⟩⟩ : St) ∧ jE m t6 out_8 t30 t31 t32 = some r) bY ?_ ?_ ?_
  ·
   rintro s ⟨_, _, _, _, _, _, h⟩
   cases h
  ·
   refine ⟨_, ?_, (aC.mk 0 0 0), r4, r8, (r8.length : Int), 0, rfl, hm⟩
   exact aN (fun j => bif j == 1 then 1 else 0) (wV (wV (wD ((CFi .u64).sl _ _ _) (wD (aG.sl _ _ _) (aX _ _ (bQ Z1 rfl Z7) aU))))) (hW (aV (aO Z3 (Nat.le_refl _) (Nat.zero_le _) (aG.dat (aC.mk 0 0 0))) aR))
  ·
   rintro n1 s ⟨t6, out_8, t30, t31, t32, rfl, hm⟩
   replace hm : pX (jE n1) t6 out_8 t30 t31 t32 = some r := hm
   unfold pX at hm
   refine sr (N' := 128) rfl ?_
   refine pA ?_
   refine fs ?_
   refine AWp.seq' ?_
   refine AWp.condM hm Z1 (fun _ hm => ?_) (fun _ hm => ?_)
   ·
    refine AWp.skip ?_
    refine aF ?_
    refine AWp.seqJ (fun s => ∃ (t6 : aC) (out_8 : List aC) (t30 : List Int) (t31 : Int) (t32 : Int), s = (⟨58, (aK (aK (aK (aK (aK (fun _ => AV.any) 6 (.adr 1 0)) 8 (.sl (out_8.flatMap aL) out_8.length false)) 30 (.sl (t30.flatMap (ci .u64)) t30.length false)) 31 (.v (.int .i64 t31))) 32 (.v (.int .i64 t32))), ⟨(upd bL 1 (.cells 1 [.v (.int .i64 t6.U), .v (.int .i64 t6.V), .v (.int .i64 t6.Tier)] 0)), 64⟩⟩ : St) ∧ mB (jE n1) t6 out_8 t30 t31 t32 = some r) ?_ ?_
    ·
     refine AWp.block ?_
     refine sr (N' := 192) rfl ?_
     obtain ⟨x10, h9, hm⟩ := bnd hm
     refine pu rfl (cP (CFi .u64) Zd Tryz.underlying24 nS Z1 rfl Z1 h9) ?_
     iterate 2 refine pA ?_
     refine fs ?_
     refine sr (N' := 256) rfl ?_
     refine pA ?_
     obtain ⟨⟨r12, r13, r14⟩, h11, hm⟩ := bnd hm
     refine aE.callQ (r := .tup [.v (.int .i64 r12), .v (.int .i64 r13), .v (.bool r14)]) Zd Z1 aZa (fun H => (cV .nil)) (aG9 h11) ?_
     iterate 7 refine pA ?_
     refine fs ?_
     refine AWp.seq' ?_
     refine sr (N' := 320) rfl ?_
     iterate 2 refine pA ?_
     refine fs ?_
     refine AWp.condM hm Z1 (fun _ hm => ?_) (fun _ hm => ?_)
     ·
      refine AWp.exit ?_
      refine cH ?_
      refine bT ?_
      refine dY ?_
      refine ⟨_, ?_, t6, out_8, t30, t31, t32, rfl, hm⟩
      exact aN (fun j => bif j == 1 then 1 else 0) (wV (wV (wD ((CFi .u64).sl _ _ _) (wD (aG.sl _ _ _) (aX _ _ (bQ Z1 rfl Z7) aU))))) (hW (aV (aO Z3 (Nat.le_refl _) (Nat.zero_le _) (aG.dat t6)) aR))
     ·
      refine AWp.skip ?_
      refine aF ?_
      refine sr (N' := 384) rfl ?_
      iterate 3 refine pA ?_
      obtain ⟨⟨r16, r17⟩, h15, hm⟩ := bnd hm
      refine aE.callQ (r := .tup [.v (.int .i64 r16), .v (.bool r17)]) Zd Z1 aUc (fun H => (cD (aG.sl _ _ _) (cV (cV .nil)))) (sA h15) ?_
      iterate 5 refine pA ?_
      refine fs ?_
      refine sr (N' := 448) rfl ?_
      refine pA ?_
      refine fs ?_
      refine AWp.condM hm Z1 (fun _ hm => ?_) (fun _ hm => ?_)
      ·
       refine sr (N' := 512) rfl ?_
       iterate 2 refine pA ?_
       obtain ⟨x19, h18, hm⟩ := bnd hm
       refine pu rfl (cP aG Zd Tryz.underlying28 dQ Z1 rfl Z1 h18) ?_
       refine pA ?_
       refine aE.heap0 (id := 452) rfl (bG (ys := [.v (.int .i64 x19.U), .v (.int .i64 x19.V), .v (.int .i64 x19.Tier)]) dQ Z1 Z1 Z3 rfl (Nat.le_of_ble_eq_true rfl) Z9 rfl) ?_
       refine pA ?_
       refine fs ?_
       refine AWp.ret ?_
       refine dB ?_
       refine aT9 ?_
       refine eD ?_
       refine dB ?_
       refine bB ?_
       cases hm
       exact fK (.inr rfl) (by rw [Tryz.results169]) (.cell (cG Z1 Z3 Z2) (.tmp Z1 .nil)) rfl (tdt (.cons (td rfl (.agg _ (aG.dat _))) (.cons (td rfl (.v _)) .nil)))
      ·
       refine AWp.skip ?_
       refine cA ?_
       refine dY ?_
       refine ⟨_, ?_, t6, out_8, t30, t31, t32, rfl, hm⟩
       exact aN (fun j => bif j == 1 then 1 else 0) (wV (wV (wD ((CFi .u64).sl _ _ _) (wD (aG.sl _ _ _) (aX _ _ (bQ Z1 rfl Z7) aU))))) (hW (aV (aO Z3 (Nat.le_refl _) (Nat.zero_le _) (aG.dat t6)) aR))
    ·
     rintro s ⟨t6, out_8, t30, t31, t32, rfl, hm⟩
     unfold mB at hm
     refine AWp.reg 64 (N' := 128) rfl ?_
     iterate 2 refine pA ?_
     refine aE.fin ?_
     refine bU ?_
     refine ⟨_, ?_, t6, out_8, t30, t31, (IntKind.i64.wrap (t32 + 1)), rfl, hm⟩
     exact aN (fun j => bif j == 1 then 1 else 0) (wV (wV (wD ((CFi .u64).sl _ _ _) (wD (aG.sl _ _ _) (aX _ _ (bQ Z1 rfl Z7) aU))))) (hW (aV (aO Z3 (Nat.le_refl _) (Nat.zero_le _) (aG.dat t6)) aR))
   ·
    refine AWp.exit ?_
    refine cH ?_
    refine bW ?_
    refine bT ?_
    refine aF ?_
    refine sr (N' := 192) rfl ?_
    refine pu rfl (by simp only [go_sem, Nat.reduceBEq]; exact (by kernel_rfl : dJ Tryz.prog 102 [] = some (.agg [.v (.int .i64 0), .v (.int .i64 0), .v (.int .i64 0)]))) ?_
    refine aE.heap0 (id := 129) rfl (bG (ys := [.v (.int .i64 0), .v (.int .i64 0), .v (.int .i64 0)]) dQ Z1 Z1 Z3 rfl (Nat.le_of_ble_eq_true rfl) Z9 rfl) ?_
    refine pA ?_
    refine fs ?_
    refine AWp.ret ?_
    cases hm
    exact fK (.inr rfl) (by rw [Tryz.results169]) (.cell (cG Z1 Z3 Z2) (.tmp Z1 .nil)) rfl (tdt (.cons (td rfl (.agg _ (aG.dat (aC.mk 0 0 0)))) (.cons (td rfl (.v _)) .nil)))
def kT (rec1 : aC → aC → List aC → Int → Int → Option (aC × Bool)) (t2 : aC) (greatest_4 : aC) (t15 : List aC) (t16 : Int) (t17 : Int) : Option (aC × Bool) :=
 rec1 t2 greatest_4 t15 t16 (IntKind.i64.wrap (t17 + 1))
def oJ (rec1 : aC → aC → List aC → Int → Int → Option (aC × Bool)) (t2 : aC) (greatest_4 : aC) (t15 : List aC) (t16 : Int) (t17 : Int) : Option (aC × Bool) :=
 (bif (decide (t17 < t16)) then
  ((idx t15 t17).bind fun x6 =>
  ((fA (((decide (greatest_4.Tier < x6.Tier)) == false) && ((x6.Tier == greatest_4.Tier) == true)) false (mD greatest_4 x6)).bind fun r8 =>
  (bif ((decide (greatest_4.Tier < x6.Tier)) || ((x6.Tier == greatest_4.Tier) && r8)) then
   kT rec1 t2 x6 t15 t16 t17
  else
   kT rec1 t2 greatest_4 t15 t16 t17)))
 else
  some (greatest_4, true))
def iH : Nat → aC → aC → List aC → Int → Int → Option (aC × Bool)
 | 0 => fun _ _ _ _ _ => none
 | n + 1 => oJ (iH n)
def pS (l_0 : List aC) : Option (aC × Bool) :=
 (bif ((l_0.length : Int) == 0) then
  some ((aC.mk 0 0 0), false)
 else
  ((idx l_0 0).bind fun x2 =>
  ((slc l_0 1 (l_0.length : Int)).bind fun l4 =>
  iH bY (aC.mk 0 0 0) x2 l4 (l4.length : Int) 0)))
theorem aEh {l_0 : List aC} {r : aC × Bool} (hm : pS l_0 = some r) : aT Tryz.prog 171 [.sl (l_0.flatMap aL) l_0.length false] (.tup [.agg [.v (.int .i64 r.1.U), .v (.int .i64 r.1.V), .v (.int .i64 r.1.Tier)], .v (.bool r.2)]) := by
 refine aT.of_body Tryz.func171 rfl ?_
 simp only [Tryz.ntmps171, List.length_cons, List.length_nil, Nat.reduceAdd, Nat.reduceSub, aQ]
 unfold pS at hm
 refine sr (N' := 64) rfl ?_
 refine hp (id := 0) rfl rfl (aY jI Z5) ?_
 refine pA ?_
 refine fs ?_
 refine AWp.seq' ?_
 refine sr (N' := 128) rfl ?_
 iterate 3 refine pA ?_
 refine fs ?_
 refine AWp.condM hm Z1 (fun _ hm => ?_) (fun _ hm => ?_)
 ·
  refine sr (N' := 192) rfl ?_
  refine pu rfl (by simp only [go_sem, Nat.reduceBEq]; exact (by kernel_rfl : dJ Tryz.prog 102 [] = some (.agg [.v (.int .i64 0), .v (.int .i64 0), .v (.int .i64 0)]))) ?_
  refine aE.heap0 (id := 129) rfl (bG (ys := [.v (.int .i64 0), .v (.int .i64 0), .v (.int .i64 0)]) dQ Z1 Z1 Z3 rfl (Nat.le_of_ble_eq_true rfl) Z9 rfl) ?_
  refine pA ?_
  refine fs ?_
  refine AWp.ret ?_
  refine bB ?_
  cases hm
  exact fK (.inr rfl) (by rw [Tryz.results171]) (.cell (cG Z1 Z3 Z2) (.tmp Z1 .nil)) rfl (tdt (.cons (td rfl (.agg _ (aG.dat (aC.mk 0 0 0)))) (.cons (td rfl (.v _)) .nil)))
 ·
  refine AWp.skip ?_
  refine aF ?_
  refine sr (N' := 192) rfl ?_
  refine pA ?_
  obtain ⟨x2, h1, hm⟩ := bnd hm
  refine pu rfl (cP aG Zd Tryz.underlying28 dQ Z1 rfl Z1 h1) ?_
  refine pA ?_
  refine hp (id := 131) rfl rfl (aY jI Z5) ?_
  refine aE.heap0 (id := 132) rfl (bG (ys := [.v (.int .i64 x2.U), .v (.int .i64 x2.V), .v (.int .i64 x2.Tier)]) dQ Z1 Z1 Z3 rfl (Nat.le_of_ble_eq_true rfl) Z9 rfl) ?_
  refine fs ?_
  refine AWp.seq' ?_
  refine sr (N' := 256) rfl ?_
  refine pA ?_
  obtain ⟨l4, h3, hm⟩ := bnd hm
  refine pu rfl (xD aG Tryz.underlying28 dQ Z1 rfl (qO Z1 (aC0 h3).1) (aEr _) h3) ?_
  iterate 2 refine pA ?_
  refine fs ?_
  refine AWp.block ?_
  refine AWp.loopM (fun m s => ∃ (t2 : aC) (greatest_4 : aC) (t15 : List aC) (t16 : Int) (t17 : Int), s = (⟨41, (aK (aK (aK (aK (aK (fun _ => AV.any) 2 (.adr 1 0)) 4 (.adr 2 0)) 15 (.sl (t15.flatMap aL) t15.length false)) 16 (.v (.int .i64 t16))) 17 (.v (.int .i64 t17))), ⟨(upd (upd bL 1 (.cells 1 [.v (.int .i64 t2.U), .v (.int .i64 t2.V), .v (.int .i64 t2.Tier)] 0)) 2 (.cells 1 [.v (.int .i64 greatest_4.U), .v (.int .i64 greatest_4.V), .v (.int .i64 greatest_4.Tier)] 0)), 64⟩⟩ : St) ∧ iH m t2 greatest_4 t15 t16 t17 = some r) bY ?_ ?_ ?_
  ·
   rintro s ⟨_, _, _, _, _, _, h⟩
   cases h
  ·
   refine ⟨_, ?_, (aC.mk 0 0 0), x2, l4, (l4.length : Int), 0, rfl, hm⟩
   refine St.Le.trans (aZy 15 (.sl (l4.flatMap aL) l4.length false) (fun H => (tdf Z1 (aG.sl _ _ _)))) ?_
   exact aN (fun j => bif j == 1 then 0 else bif j == 2 then 131 else 0) (wV (wV (wD (aG.sl _ _ _) (aX _ _ (bQ Z1 rfl Z7) (aX _ _ (bQ Z1 rfl Z7) aU))))) (cL _ (aV (aO Z3 (Nat.le_refl _) (Nat.zero_le _) (aG.dat x2)) (aV (aO Z3 (Nat.le_refl _) (Nat.zero_le _) (aG.dat (aC.mk 0 0 0))) aR)) Z8)
  ·
   rintro n1 s ⟨t2, greatest_4, t15, t16, t17, rfl, hm⟩
   replace hm : oJ (iH n1) t2 greatest_4 t15 t16 t17 = some r := hm
   unfold oJ at hm
   refine sr (N' := 128) rfl ?_
   refine pA ?_
   refine fs ?_
   refine AWp.seq' ?_
   refine AWp.condM hm Z1 (fun _ hm => ?_) (fun _ hm => ?_)
   ·
    refine AWp.skip ?_
    refine aF ?_
    refine AWp.seqJ (fun s => ∃ (t2 : aC) (greatest_4 : aC) (t15 : List aC) (t16 : Int) (t17 : Int), s = (⟨41, (aK (aK (aK (aK (aK (fun _ => AV.any) 2 (.adr 1 0)) 4 (.adr 2 0)) 15 (.sl (t15.flatMap aL) t15.length false)) 16 (.v (.int .i64 t16))) 17 (.v (.int .i64 t17))), ⟨(upd (upd bL 1 (.cells 1 [.v (.int .i64 t2.U), .v (.int .i64 t2.V), .v (.int .i64 t2.Tier)] 0)) 2 (.cells 1 [.v (.int .i64 greatest_4.U), .v (.int .i64 greatest_4.V), .v (.int .i64 greatest_4.Tier)] 0)), 64⟩⟩ : St) ∧ kT (iH n1) t2 greatest_4 t15 t16 t17 = some r) ?_ ?_
    ·
     refine AWp.block ?_
     refine sr (N' := 192) rfl ?_
     obtain ⟨x6, h5, hm⟩ := bnd hm
     refine pu rfl (cP aG Zd Tryz.underlying28 dQ Z1 rfl Z1 h5) ?_
     refine pA ?_
     refine hp (id := 130) rfl rfl (aY jI Z5) ?_
     refine aE.heap0 (id := 131) rfl (bG (ys := [.v (.int .i64 x6.U), .v (.int .i64 x6.V), .v (.int .i64 x6.Tier)]) dQ Z1 Z1 Z3 rfl (Nat.le_of_ble_eq_true rfl) Z9 rfl) ?_
     refine fs ?_
     refine sr (N' := 256) rfl ?_
     refine pA ?_
     refine pu rfl (aD Z1 Z3 Z4) ?_
     refine pA ?_
     refine pu rfl (aD Z1 Z3 Z4) ?_
     iterate 3 first | refine pA ?_ | refine pB ?_
     refine pg rfl rfl Z2 (fun hb => (aD (Zh hb) Z3 Z4)) ?_
     refine pB ?_
     refine pg rfl rfl Z2 (fun hb => (aD (Zh hb) Z3 Z4)) ?_
     iterate 2 refine pB ?_
     refine pg rfl rfl Z2 (fun hb => (aD (Zh hb) Z3 Z2)) ?_
     refine pg rfl rfl Z2 (fun hb => (aD (Zh hb) Z3 Z2)) ?_
     obtain ⟨r8, h7, hm⟩ := bnd hm
     refine aE.callQG (r := .v (.bool r8)) Zd rfl Z2 Z1 aVn (fun hb H => (.cons (td (Zh hb) (.agg _ (aG.dat _))) (.cons (td (Zh hb) (.agg _ (aG.dat _))) .nil))) (fun hb => aA9 (dA h7 hb)) ?_
     iterate 2 first | refine pA ?_ | refine pB ?_
     refine fs ?_
     refine AWp.condM hm Z1 (fun _ hm => ?_) (fun _ hm => ?_)
     ·
      refine AWp.reg 64 (N' := 320) rfl ?_
      refine pu rfl (aD Z1 Z3 Z2) ?_
      refine aE.heap0 (id := 257) rfl (bG (ys := [.v (.int .i64 x6.U), .v (.int .i64 x6.V), .v (.int .i64 x6.Tier)]) dQ Z1 Z1 Z3 rfl (Nat.le_of_ble_eq_true rfl) Z9 rfl) ?_
      refine aE.fin ?_
      refine cA ?_
      refine dY ?_
      refine ⟨_, ?_, t2, x6, t15, t16, t17, rfl, hm⟩
      exact aN (fun j => bif j == 1 then 1 else bif j == 2 then 2 else 0) (wV (wV (wD (aG.sl _ _ _) (aX _ _ (bQ Z1 rfl Z7) (aX _ _ (bQ Z1 rfl Z7) aU))))) (hW (aV (aO Z3 (Nat.le_refl _) (Nat.zero_le _) (aG.dat x6)) (aV (aO Z3 (Nat.le_refl _) (Nat.zero_le _) (aG.dat t2)) aR)))
     ·
      refine AWp.skip ?_
      refine cA ?_
      refine dY ?_
      refine ⟨_, ?_, t2, greatest_4, t15, t16, t17, rfl, hm⟩
      exact aN (fun j => bif j == 1 then 1 else bif j == 2 then 2 else 0) (wV (wV (wD (aG.sl _ _ _) (aX _ _ (bQ Z1 rfl Z7) (aX _ _ (bQ Z1 rfl Z7) aU))))) (hW (aV (aO Z3 (Nat.le_refl _) (Nat.zero_le _) (aG.dat greatest_4)) (aV (aO Z3 (Nat.le_refl _) (Nat.zero_le _) (aG.dat t2)) aR)))
    ·
     rintro s ⟨t2, greatest_4, t15, t16, t17, rfl, hm⟩
     unfold kT at hm
     refine AWp.reg 64 (N' := 128) rfl ?_
     iterate 2 refine pA ?_
     refine aE.fin ?_
     refine bU ?_
     refine ⟨_, ?_, t2, greatest_4, t15, t16, (IntKind.i64.wrap (t17 + 1)), rfl, hm⟩
     exact aN (fun j => bif j == 1 then 1 else bif j == 2 then 2 else 0) (wV (wV (wD (aG.sl _ _ _) (aX _ _ (bQ Z1 rfl Z7) (aX _ _ (bQ Z1 rfl Z7) aU))))) (hW (aV (aO Z3 (Nat.le_refl _) (Nat.zero_le _) (aG.dat greatest_4)) (aV (aO Z3 (Nat.le_refl _) (Nat.zero_le _) (aG.dat t2)) aR)))
   ·
    refine AWp.exit ?_
    refine cH ?_
    refine bW ?_
    refine bT ?_
    refine aF ?_
    refine sr (N' := 192) rfl ?_
    refine pu rfl (aD Z1 Z3 Z2) ?_
    refine aE.heap0 (id := 129) rfl (bG (ys := [.v (.int .i64 greatest_4.U), .v (.int .i64 greatest_4.V), .v (.int .i64 greatest_4.Tier)]) dQ Z1 Z1 Z3 rfl (Nat.le_of_ble_eq_true rfl) Z9 rfl) ?_
    refine pA ?_
    refine fs ?_
    refine AWp.ret ?_
    cases hm
    exact fK (.inr rfl) (by rw [Tryz.results171]) (.cell (cG Z1 Z3 Z2) (.tmp Z1 .nil)) rfl (tdt (.cons (td rfl (.agg _ (aG.dat _))) (.cons (td rfl (.v _)) .nil)))
def jZ (l : List aC) : Option (List aC) := app [] l
theorem aA7 {r : List aC} (hm : some [] = some r) : dO Tryz.prog 193 [.v (.slice none 0 0)] 3 (r.flatMap aL) r.length := by
 refine dO.of_body Tryz.func193 rfl (aG.fmdat r) ?_
 simp only [Tryz.ntmps193, List.length_cons, List.length_nil, Nat.reduceAdd, Nat.reduceSub, aQ]
 refine sr (N' := 64) rfl ?_
 refine pA ?_
 refine fs ?_
 refine AWp.seq' ?_
 refine sr (N' := 128) rfl ?_
 refine pA ?_
 refine pu rfl (pP Z1 Z1 (aB3 Tryz.underlying28)) ?_
 refine fs ?_
 refine AWp.condT Z1 ?_
 refine sr (N' := 192) rfl ?_
 refine pA ?_
 refine fs ?_
 refine AWp.weaken (kA 2 900002 3 Z1 Z5) ?_
 refine AWp.ret ?_
 refine bB ?_
 cases hm
 exact aC8 (.inr rfl) Tryz.results193 Z1 Z3 Z6
theorem aA3 {a : Addr} {c : Nat} {r : List aC} (hm : ((app [] []).bind fun l2 =>
some l2) = some r) : dO Tryz.prog 193 [.v (.slice (some a) 0 c)] 3 (r.flatMap aL) r.length := by
 refine dO.of_body Tryz.func193 rfl (aG.fmdat r) ?_
 simp only [Tryz.ntmps193, List.length_cons, List.length_nil, Nat.reduceAdd, Nat.reduceSub, aQ]
 refine sr (N' := 64) rfl ?_
 refine pA ?_
 refine fs ?_
 refine AWp.seq' ?_
 refine sr (N' := 128) rfl ?_
 refine pA ?_
 refine pu rfl (pP Z1 Z1 (zB Tryz.underlying28)) ?_
 refine fs ?_
 refine AWp.condF Z1 ?_
 refine AWp.skip ?_
 refine aF ?_
 refine sr (N' := 192) rfl ?_
 refine hp (id := 128) rfl rfl (eE aG (l := []) Tryz.underlying28 dQ jI Z5 Zd Zd Zd (by simp only [go_sem, Nat.reduceBEq]; try rfl) (by kernel_rfl)) ?_
 refine pA ?_
 obtain ⟨l2, h1, hm⟩ := bnd hm
 refine hp (id := 130) rfl rfl (iI aG Tryz.underlying28 Tryz.underlying28 rfl aFo aFm (by rw [sT]; decide) (by rw [sT]; decide) aFw Zd Zd Z1 Z3 Z6 (aEq Z1) rfl Z5 h1) ?_
 refine pA ?_
 refine fs ?_
 refine AWp.ret ?_
 cases hm
 exact aC8 (.inr rfl) Tryz.results193 Z1 Z3 Z6
theorem aAg {x0 : aC} {l0 : List aC} {r : List aC} (hm : ((app [] (x0 :: l0)).bind fun l2 =>
some l2) = some r) : dO Tryz.prog 193 [.sl ((x0 :: l0).flatMap aL) (x0 :: l0).length false] 3 (r.flatMap aL) r.length := by
 refine dO.of_body Tryz.func193 rfl (aG.fmdat r) ?_
 simp only [Tryz.ntmps193, List.length_cons, List.length_nil, Nat.reduceAdd, Nat.reduceSub, aQ]
 refine sr (N' := 64) rfl ?_
 refine pA ?_
 refine fs ?_
 refine AWp.seq' ?_
 refine sr (N' := 128) rfl ?_
 refine pA ?_
 refine pu rfl (pP Z1 Z1 (yU Tryz.underlying28 (by simp))) ?_
 refine fs ?_
 refine AWp.condF Z1 ?_
 refine AWp.skip ?_
 refine aF ?_
 refine sr (N' := 192) rfl ?_
 refine hp (id := 128) rfl rfl (eE aG (l := []) Tryz.underlying28 dQ jI Z5 Zd Zd Zd (by simp only [go_sem, Nat.reduceBEq]; try rfl) (by kernel_rfl)) ?_
 refine pA ?_
 obtain ⟨l2, h1, hm⟩ := bnd hm
 refine hp (id := 130) rfl rfl (iI aG Tryz.underlying28 Tryz.underlying28 rfl aFo aFm (by rw [sT]; decide) (by rw [sT]; decide) aFw Zd Zd Z1 Z3 Z6 (aJx aG Z1 rfl) rfl Z5 h1) ?_
 refine pA ?_
 refine fs ?_
 refine AWp.ret ?_
 cases hm
 exact aC8 (.inr rfl) Tryz.results193 Z1 Z3 Z6
theorem aBc {l r : List aC} (hm : jZ l = some r) : dO Tryz.prog 193 [.sl (l.flatMap aL) l.length false] 3 (r.flatMap aL) r.length := by
 cases l with
 | nil =>
  have hr : r = [] := by unfold jZ app at hm; simpa using hm.symm
  subst hr
  exact dO.nil_arg (aA7 (r := []) rfl) (fun a c => aA3 (r := []) rfl)
 | cons x0 l0 =>
  refine aAg ?_
  show (app [] (x0 :: l0)).bind _ = _
  unfold jZ at hm
  rw [hm]; rfl
def vT (n_0 : Int) (l_1 : List aC) (u_2 : Int) (v_3 : Int) (tier_4 : Int) : Option ((List aC) × Int) :=
 ((fC n_0 l_1).bind fun r2 =>
 ((fA ((!r2) == false) false (fS n_0 u_2)).bind fun r4 =>
 ((fA (((!r2) || (!r4)) == false) false (fS n_0 v_3)).bind fun r6 =>
 ((fA ((((!r2) || (!r4)) || (!r6)) == false) false (lV tier_4)).bind fun r8 =>
 (bif ((((!r2) || (!r4)) || (!r6)) || (!r8)) then
  some (l_1, 1)
 else
  ((mE l_1 u_2 v_3).bind fun ⟨r10, r11⟩ =>
  (bif (!r11) then
   some (l_1, 9)
  else
   ((jZ l_1).bind fun r13 =>
   ((idx r13 r10).bind fun x15 =>
   ((stt r13 r10 (aC.mk x15.U x15.V tier_4)).bind fun l17 =>
   some (l17, 0)))))))))))
theorem aF9 {n_0 : Int} {l_1 : List aC} {u_2 : Int} {v_3 : Int} {tier_4 : Int} {r : (List aC) × Int} (hm : vT n_0 l_1 u_2 v_3 tier_4 = some r) : aT Tryz.prog 172 [.v (.int .i64 n_0), .sl (l_1.flatMap aL) l_1.length false, .v (.int .i64 u_2), .v (.int .i64 v_3), .v (.int .i64 tier_4)] (.tup [.sl (r.1.flatMap aL) r.1.length false, .v (.int .i64 r.2)]) := by
 refine aT.of_body Tryz.func172 rfl ?_
 simp only [Tryz.ntmps172, List.length_cons, List.length_nil, Nat.reduceAdd, Nat.reduceSub, aQ]
 unfold vT at hm
 refine sr (N' := 64) rfl ?_
 iterate 2 refine pA ?_
 refine fs ?_
 refine AWp.seq' ?_
 refine sr (N' := 128) rfl ?_
 iterate 2 refine pA ?_
 obtain ⟨r2, h1, hm⟩ := bnd hm
 refine aE.callQ (r := .v (.bool r2)) Zd Z1 aOg (fun H => (cV (cD (aG.sl _ _ _) .nil))) (iN h1) ?_
 iterate 4 first | refine pA ?_ | refine pB ?_
 obtain ⟨r4, h3, hm⟩ := bnd hm
 refine aE.callQG (r := .v (.bool r4)) Zd rfl Z2 Z1 aGa (fun hb H => (.cons (td (Zh hb) (.v _)) (.cons (td (Zh hb) (.v _)) .nil))) (fun hb => gY (dA h3 hb)) ?_
 iterate 5 first | refine pA ?_ | refine pB ?_
 obtain ⟨r6, h5, hm⟩ := bnd hm
 refine aE.callQG (r := .v (.bool r6)) Zd rfl Z2 Z1 aGa (fun hb H => (.cons (td (Zh hb) (.v _)) (.cons (td (Zh hb) (.v _)) .nil))) (fun hb => gY (dA h5 hb)) ?_
 iterate 4 first | refine pA ?_ | refine pB ?_
 obtain ⟨r8, h7, hm⟩ := bnd hm
 refine aE.callQG (r := .v (.bool r8)) Zd rfl Z2 Z1 aZ8 (fun hb H => (.cons (td (Zh hb) (.v _)) .nil)) (fun hb => zZ (dA h7 hb)) ?_
 iterate 2 first | refine pA ?_ | refine pB ?_
 refine fs ?_
 refine AWp.condM hm Z1 (fun _ hm => ?_) (fun _ hm => ?_)
 ·
  refine sr (N' := 192) rfl ?_
  iterate 3 refine pA ?_
  refine fs ?_
  refine AWp.ret ?_
  refine bB ?_
  cases hm
  exact fE (.inr rfl) Tryz.results172 (td Z1 (aG.sl _ _ _)) (td Z1 (.v _))
 ·
  refine AWp.skip ?_
  refine aF ?_
  refine sr (N' := 192) rfl ?_
  iterate 3 refine pA ?_
  obtain ⟨⟨r10, r11⟩, h9, hm⟩ := bnd hm
  refine aE.callQ (r := .tup [.v (.int .i64 r10), .v (.bool r11)]) Zd Z1 aUc (fun H => (cD (aG.sl _ _ _) (cV (cV .nil)))) (sA h9) ?_
  iterate 5 refine pA ?_
  refine fs ?_
  refine AWp.seq' ?_
  refine sr (N' := 256) rfl ?_
  iterate 2 refine pA ?_
  refine fs ?_
  refine AWp.condM hm Z1 (fun _ hm => ?_) (fun _ hm => ?_)
  ·
   refine sr (N' := 320) rfl ?_
   iterate 3 refine pA ?_
   refine fs ?_
   refine AWp.ret ?_
   refine bB ?_
   cases hm
   exact fE (.inr rfl) Tryz.results172 (td Z1 (aG.sl _ _ _)) (td Z1 (.v _))
  ·
   refine AWp.skip ?_
   refine aF ?_
   refine sr (N' := 320) rfl ?_
   refine pA ?_
   obtain ⟨r13, h12, hm⟩ := bnd hm
   refine aE.callF (id := 257) Zd Z1 bAv (fun H => (cD (aG.sl _ _ _) .nil)) aG Z5 (aBc h12) ?_
   refine pA ?_
   refine fs ?_
   refine sr (N' := 384) rfl ?_
   iterate 3 refine pA ?_
   obtain ⟨x15, h14, hm⟩ := bnd hm
   refine pu rfl (dD Tryz.underlying28 dQ Z1 Z3 Z6 Z1 h14) ?_
   refine pA ?_
   obtain ⟨l17, h16, hm⟩ := bnd hm
   have qh16 := iC h16
   refine aE.heap0 (id := 325) rfl (aXd aG (off := 2) (y := x15) (y' := (aC.mk x15.U x15.V tier_4)) (cs := [.v (.int .i64 tier_4)]) sz3 Z1 Z1 Z3 rfl h14 rfl Zd Z9 rfl h16) ?_
   refine fs ?_
   refine sr (N' := 448) rfl ?_
   iterate 3 refine pA ?_
   refine fs ?_
   refine AWp.ret ?_
   cases hm
   exact fE (.inr rfl) Tryz.results172 (tdo aG Z1 Z3 Z6) (td Z1 (.v _))
def oV (n_0 : Int) (v_1 : Int) : Option (Bool) :=
 some ((decide (0 ≤ v_1)) && (decide (v_1 < n_0)))
theorem zQ {n_0 : Int} {v_1 : Int} {r : Bool} (hm : oV n_0 v_1 = some r) : aT Tryz.prog 190 [.v (.int .i64 n_0), .v (.int .i64 v_1)] (.v (.bool r)) := by
 refine aT.of_body Tryz.func190 rfl ?_
 simp only [Tryz.ntmps190, List.length_cons, List.length_nil, Nat.reduceAdd, Nat.reduceSub, aQ]
 unfold oV at hm
 refine sr (N' := 64) rfl ?_
 refine pA ?_
 refine fs ?_
 refine sr (N' := 128) rfl ?_
 iterate 8 first | refine pA ?_ | refine pB ?_
 refine fs ?_
 refine AWp.ret ?_
 cases hm
 exact bM (.inr rfl) Tryz.results190 (td Z1 (.v _))
end Go.Proofs.YtkdohhmacfoolaaGreat
