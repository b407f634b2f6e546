/- Facts that the statement's proof is made of. No condition. -/
import Derived.Test.YtkdohhmacfoolaaGreatNbGI2
set_option linter.unusedVariables false
set_option linter.unusedSimpArgs false
set_option maxRecDepth 20000
set_option maxHeartbeats 4000000
namespace Go.Proofs.YtkdohhmacfoolaaGreat
open Go Go.AM
structure aH where
 List : List Int
 At : Int
deriving DecidableEq
def kM (e : aH) : List AV := [.sl (e.List.flatMap (ci .u64)) e.List.length false, .v (.int .i64 e.At)]
theorem bK : CF kM 2 := ⟨fun _ => rfl, fun a x hx => by
 simp only [kM, List.mem_cons, List.not_mem_nil, or_false] at hx
 rcases hx with rfl | rfl
 ·
  exact ((CFi .u64).sl _ _ _)
 ·
  exact (.v _), fun _ => rfl⟩
theorem uC (e : aH) (r : List AV) : kM e ++ r = .sl (e.List.flatMap (ci .u64)) e.List.length false :: .v (.int .i64 e.At) :: r := rfl
attribute [go_sem] uC
theorem aMc (xs : List AV) : aM Tryz.prog 120 (.ptr (xs)) 0 = some (.ptr xs) := by kernel_rfl
attribute [go_sem] aMc
theorem aNi (x0 : AV) (xs : List AV) : aM Tryz.prog 120 (.ptr (x0 :: xs)) 1 = some (.ptr xs) := by kernel_rfl
attribute [go_sem] aNi
theorem aLw (xs : List AV) : aM Tryz.prog 151 (.ptr (xs)) 0 = some (.ptr xs) := by kernel_rfl
attribute [go_sem] aLw
theorem aOm (x0 : AV) (xs : List AV) : aM Tryz.prog 151 (.ptr (x0 :: xs)) 1 = some (.ptr xs) := by kernel_rfl
attribute [go_sem] aOm
theorem aMw (i o : Nat) : aM Tryz.prog 102 (.adr i o) 0 = some (.adr i (o + 0)) := by kernel_rfl
attribute [go_sem] aMw
theorem aLo (i o : Nat) : aM Tryz.prog 102 (.adr i o) 1 = some (.adr i (o + 1)) := by kernel_rfl
attribute [go_sem] aLo
theorem aOv (i o : Nat) : aM Tryz.prog 102 (.adr i o) 2 = some (.adr i (o + 2)) := by kernel_rfl
attribute [go_sem] aOv
theorem aQt (i o : Nat) : aM Tryz.prog 23 (.adr i o) 0 = some (.adr i (o + 0)) := by kernel_rfl
attribute [go_sem] aQt
theorem aSp (i o : Nat) : aM Tryz.prog 23 (.adr i o) 1 = some (.adr i (o + 1)) := by kernel_rfl
attribute [go_sem] aSp
theorem aRo (i o : Nat) : aM Tryz.prog 23 (.adr i o) 2 = some (.adr i (o + 2)) := by kernel_rfl
attribute [go_sem] aRo
theorem aRd (i o : Nat) : aM Tryz.prog 30 (.adr i o) 0 = some (.adr i (o + 0)) := by kernel_rfl
attribute [go_sem] aRd
theorem aQ7 (i o : Nat) : aM Tryz.prog 30 (.adr i o) 1 = some (.adr i (o + 3)) := by kernel_rfl
attribute [go_sem] aQ7
theorem aQw (i o : Nat) : aM Tryz.prog 30 (.adr i o) 2 = some (.adr i (o + 4)) := by kernel_rfl
attribute [go_sem] aQw
theorem aR4 (i o : Nat) : aM Tryz.prog 33 (.adr i o) 0 = some (.adr i (o + 0)) := by kernel_rfl
attribute [go_sem] aR4
theorem aS3 (i o : Nat) : aM Tryz.prog 33 (.adr i o) 1 = some (.adr i (o + 5)) := by kernel_rfl
attribute [go_sem] aS3
theorem aSm (i o : Nat) : aM Tryz.prog 35 (.adr i o) 1 = some (.adr i (o + 1)) := by kernel_rfl
attribute [go_sem] aSm
theorem aRm (i o : Nat) : aM Tryz.prog 42 (.adr i o) 1 = some (.adr i (o + 1)) := by kernel_rfl
attribute [go_sem] aRm
theorem aT0 (i o : Nat) : aM Tryz.prog 45 (.adr i o) 0 = some (.adr i (o + 0)) := by kernel_rfl
attribute [go_sem] aT0
theorem aQy (i o : Nat) : aM Tryz.prog 45 (.adr i o) 1 = some (.adr i (o + 1)) := by kernel_rfl
attribute [go_sem] aQy
theorem aQ2 (i o : Nat) : aM Tryz.prog 45 (.adr i o) 2 = some (.adr i (o + 2)) := by kernel_rfl
attribute [go_sem] aQ2
theorem aSs (i o : Nat) : aM Tryz.prog 56 (.adr i o) 0 = some (.adr i (o + 0)) := by kernel_rfl
attribute [go_sem] aSs
theorem aSa (i o : Nat) : aM Tryz.prog 56 (.adr i o) 1 = some (.adr i (o + 5)) := by kernel_rfl
attribute [go_sem] aSa
theorem aR1 (i o : Nat) : aM Tryz.prog 60 (.adr i o) 0 = some (.adr i (o + 0)) := by kernel_rfl
attribute [go_sem] aR1
theorem aQ6 (i o : Nat) : aM Tryz.prog 60 (.adr i o) 1 = some (.adr i (o + 1)) := by kernel_rfl
attribute [go_sem] aQ6
theorem aRh (i o : Nat) (k : IntKind) : fN Tryz.prog 69 (.adr i o) (.v (.int k 0)) = some (.adr i o) := by kernel_rfl
theorem aRb (i o : Nat) (k : IntKind) : fN Tryz.prog 69 (.adr i o) (.v (.int k 1)) = some (.adr i (o + 1)) := by kernel_rfl
attribute [go_sem] aRh aRb
theorem aT5 (H : aP) (x0 x1 x2 : AV) (xs : List AV) : cF Tryz.prog H 102 (.ptr (x0 :: x1 :: x2 :: xs)) = some (.agg [x0, x1, x2]) := by kernel_rfl
attribute [go_sem] aT5
theorem aWa (H : aP) (x0 x1 x2 : AV) (xs : List AV) : cF Tryz.prog H 23 (.ptr (x0 :: x1 :: x2 :: xs)) = some (.agg [x0, x1, x2]) := by kernel_rfl
attribute [go_sem] aWa
theorem aX5 (H : aP) (x : AV) (xs : List AV) : cF Tryz.prog H 24 (.ptr (x :: xs)) = some x := by kernel_rfl
attribute [go_sem] aX5
theorem aWo (H : aP) (x : AV) (xs : List AV) : cF Tryz.prog H 27 (.ptr (x :: xs)) = some x := by kernel_rfl
attribute [go_sem] aWo
theorem aXc (H : aP) (x : AV) (xs : List AV) : cF Tryz.prog H 28 (.ptr (x :: xs)) = some x := by kernel_rfl
attribute [go_sem] aXc
theorem aZi (H : aP) (x : AV) (xs : List AV) : cF Tryz.prog H 3 (.ptr (x :: xs)) = some x := by kernel_rfl
attribute [go_sem] aZi
theorem aY3 (H : aP) (x0 x1 x2 x3 x4 : AV) (xs : List AV) : cF Tryz.prog H 30 (.ptr (x0 :: x1 :: x2 :: x3 :: x4 :: xs)) = some (.agg [x0, x1, x2, x3, x4]) := by kernel_rfl
attribute [go_sem] aY3
theorem aWm (H : aP) (x : AV) (xs : List AV) : cF Tryz.prog H 31 (.ptr (x :: xs)) = some x := by kernel_rfl
attribute [go_sem] aWm
theorem aXg (H : aP) (x0 x1 x2 x3 x4 x5 : AV) (xs : List AV) : cF Tryz.prog H 33 (.ptr (x0 :: x1 :: x2 :: x3 :: x4 :: x5 :: xs)) = some (.agg [x0, x1, x2, x3, x4, x5]) := by kernel_rfl
attribute [go_sem] aXg
theorem bAm (H : aP) (x : AV) (xs : List AV) : cF Tryz.prog H 4 (.ptr (x :: xs)) = some x := by kernel_rfl
attribute [go_sem] bAm
theorem aW8 (H : aP) (x0 x1 x2 : AV) (xs : List AV) : cF Tryz.prog H 42 (.ptr (x0 :: x1 :: x2 :: xs)) = some (.agg [x0, x1, x2]) := by kernel_rfl
attribute [go_sem] aW8
theorem aW0 (H : aP) (x : AV) (xs : List AV) : cF Tryz.prog H 43 (.ptr (x :: xs)) = some x := by kernel_rfl
attribute [go_sem] aW0
theorem aYg (H : aP) (x0 x1 x2 x3 : AV) (xs : List AV) : cF Tryz.prog H 45 (.ptr (x0 :: x1 :: x2 :: x3 :: xs)) = some (.agg [x0, x1, x2, x3]) := by kernel_rfl
attribute [go_sem] aYg
theorem aW9 (H : aP) (x : AV) (xs : List AV) : cF Tryz.prog H 54 (.ptr (x :: xs)) = some x := by kernel_rfl
attribute [go_sem] aW9
theorem aVu (H : aP) (x0 x1 x2 x3 x4 x5 : AV) (xs : List AV) : cF Tryz.prog H 56 (.ptr (x0 :: x1 :: x2 :: x3 :: x4 :: x5 :: xs)) = some (.agg [x0, x1, x2, x3, x4, x5]) := by kernel_rfl
attribute [go_sem] aVu
theorem aWl (H : aP) (x0 x1 : AV) (xs : List AV) : cF Tryz.prog H 60 (.ptr (x0 :: x1 :: xs)) = some (.agg [x0, x1]) := by kernel_rfl
attribute [go_sem] aWl
theorem aYf (H : aP) (x0 x1 : AV) (xs : List AV) : cF Tryz.prog H 69 (.ptr (x0 :: x1 :: xs)) = some (.agg [x0, x1]) := by kernel_rfl
attribute [go_sem] aYf
theorem aQl (H : aP) (k : IntKind) (n : Int) : jX Tryz.prog H 3 43 (.v (.int k n)) = some (.v (.int .u64 (IntKind.u64.wrap n))) := eY Tryz.underlying3 Tryz.underlying43
attribute [go_sem] aQl
theorem aS6 (H : aP) (k : IntKind) (n : Int) : jX Tryz.prog H 5 43 (.v (.int k n)) = some (.v (.int .u64 (IntKind.u64.wrap n))) := eY Tryz.underlying5 Tryz.underlying43
attribute [go_sem] aS6
theorem aQs (H : aP) (k : IntKind) (n : Int) : jX Tryz.prog H 43 5 (.v (.int k n)) = some (.v (.int .u8 (IntKind.u8.wrap n))) := eY Tryz.underlying43 Tryz.underlying5
attribute [go_sem] aQs
def gZ (c_0 : aZ) : Option (Bool) :=
 some ((((((decide (1 ≤ c_0.N)) && (decide (c_0.N ≤ 1024))) && (decide (1 ≤ c_0.L))) && (decide (c_0.L ≤ 16))) && (decide (1 ≤ c_0.R))) && (decide (c_0.R ≤ 8)))
theorem aGk {c_0 : aZ} {r : Bool} (hm : gZ c_0 = some r) : aT Tryz.prog 22 [.agg [.v (.int .i64 c_0.N), .v (.int .i64 c_0.L), .v (.int .i64 c_0.R)]] (.v (.bool r)) := by
 refine aT.of_body Tryz.func22 rfl ?_
 simp only [Tryz.ntmps22, List.length_cons, List.length_nil, Nat.reduceAdd, Nat.reduceSub, aQ]
 unfold gZ at hm
 refine sr (N' := 64) rfl ?_
 refine hp (id := 0) rfl rfl (bO Z1 Z5) ?_
 refine pA ?_
 refine fs ?_
 refine sr (N' := 128) rfl ?_
 refine pA ?_
 refine pu rfl (aD Z1 Z3 Z4) ?_
 iterate 3 first | refine pA ?_ | refine pB ?_
 refine pg rfl rfl Z2 (fun hb => (aD (Zh hb) Z3 Z4)) ?_
 iterate 4 first | refine pA ?_ | refine pB ?_
 refine pg rfl rfl Z2 (fun hb => (aD (Zh hb) Z3 Z4)) ?_
 iterate 4 first | refine pA ?_ | refine pB ?_
 refine pg rfl rfl Z2 (fun hb => (aD (Zh hb) Z3 Z4)) ?_
 iterate 4 first | refine pA ?_ | refine pB ?_
 refine pg rfl rfl Z2 (fun hb => (aD (Zh hb) Z3 Z4)) ?_
 iterate 4 first | refine pA ?_ | refine pB ?_
 refine pg rfl rfl Z2 (fun hb => (aD (Zh hb) Z3 Z4)) ?_
 iterate 3 first | refine pA ?_ | refine pB ?_
 refine fs ?_
 refine AWp.ret ?_
 cases hm
 exact bM (.inr rfl) Tryz.results22 (td Z1 (.v _))
def iX (w_0 : aH) : Option (Bool) :=
 some ((decide (0 ≤ w_0.At)) && (decide (w_0.At ≤ (w_0.List.length : Int))))
theorem aBr {w_0 : aH} {r : Bool} (hm : iX w_0 = some r) : aT Tryz.prog 62 [.agg [.sl (w_0.List.flatMap (ci .u64)) w_0.List.length false, .v (.int .i64 w_0.At)]] (.v (.bool r)) := by
 refine aT.of_body Tryz.func62 rfl ?_
 simp only [Tryz.ntmps62, List.length_cons, List.length_nil, Nat.reduceAdd, Nat.reduceSub, aQ]
 unfold iX at hm
 refine sr (N' := 64) rfl ?_
 refine hp (id := 0) rfl rfl (bO Z1 Z5) ?_
 refine pA ?_
 refine fs ?_
 refine sr (N' := 128) rfl ?_
 refine pA ?_
 refine pu rfl (aD Z1 Z3 Z4) ?_
 iterate 3 first | refine pA ?_ | refine pB ?_
 refine pg rfl rfl Z2 (fun hb => (aD (Zh hb) Z3 Z4)) ?_
 refine pB ?_
 refine pg rfl rfl Z2 (fun hb => (aD (Zh hb) Z3 Z4)) ?_
 iterate 4 first | refine pA ?_ | refine pB ?_
 refine fs ?_
 refine AWp.ret ?_
 cases hm
 exact bM (.inr rfl) Tryz.results62 (td Z1 (.v _))
def lQ (rec1 : aH → aH → Int → Option (Int × aH × Int)) (w_1 : aH) (t3 : aH) (at_5 : Int) : Option (Int × aH × Int) :=
 (bif (decide (at_5 < (w_1.List.length : Int))) then
  ((idx w_1.List at_5).bind fun x4 =>
  (bif ((Int.tmod x4 2305843009213693952) != 2305843009213693951) then
   some ((Int.tmod x4 2305843009213693952), (aH.mk w_1.List (IntKind.i64.wrap (at_5 + 1))), 0)
  else
   rec1 w_1 t3 (IntKind.i64.wrap (at_5 + 1))))
 else
  some (0, w_1, 5))
def jP : Nat → aH → aH → Int → Option (Int × aH × Int)
 | 0 => fun _ _ _ => none
 | n + 1 => lQ (jP n)
def nJ (w_0 : aH) : Option (Int × aH × Int) :=
 ((iX w_0).bind fun r2 =>
 (bif (!r2) then
  some (0, w_0, 1)
 else
  jP bY w_0 (aH.mk [] 0) w_0.At))
theorem aJ2 {w_0 : aH} {r : Int × aH × Int} (hm : nJ w_0 = some r) : aT Tryz.prog 63 [.agg [.sl (w_0.List.flatMap (ci .u64)) w_0.List.length false, .v (.int .i64 w_0.At)]] (.tup [.v (.int .u64 r.1), .agg [.sl (r.2.1.List.flatMap (ci .u64)) r.2.1.List.length false, .v (.int .i64 r.2.1.At)], .v (.int .i64 r.2.2)]) := by
 refine aT.of_body Tryz.func63 rfl ?_
 simp only [Tryz.ntmps63, List.length_cons, List.length_nil, Nat.reduceAdd, Nat.reduceSub, aQ]
 unfold nJ at hm
 refine sr (N' := 64) rfl ?_
 refine hp (id := 0) rfl rfl (bO Z1 Z5) ?_
 refine pA ?_
 refine hp (id := 2) rfl rfl (aY aT4 Z5) ?_
 refine pA ?_
 refine fs ?_
 refine AWp.seq' ?_
 refine sr (N' := 128) rfl ?_
 refine pu rfl (aD Z1 Z3 Z2) ?_
 obtain ⟨r2, h1, hm⟩ := bnd hm
 refine aE.callQ (r := .v (.bool r2)) Zd Z1 bGf (fun H => (cD (.agg _ (bK.dat _)) .nil)) (aBr h1) ?_
 refine pA ?_
 refine fs ?_
 refine AWp.condM hm Z1 (fun _ hm => ?_) (fun _ hm => ?_)
 ·
  refine sd mix (by kernel_rfl) (N' := 192) rfl ?_
  refine pu rfl (aD Z1 Z3 Z2) ?_
  refine pA ?_
  refine aE.heap0 (id := 130) rfl (bG (ys := [.sl (w_0.List.flatMap (ci .u64)) w_0.List.length false, .v (.int .i64 w_0.At)]) aEx Z1 Z1 Z3 rfl (Nat.le_of_ble_eq_true rfl) Z9 rfl) ?_
  refine pA ?_
  refine fs ?_
  refine AWp.ret ?_
  refine bB ?_
  cases hm
  exact fK (.inr rfl) (by rw [Tryz.results63]) (.tmp Z1 (.cell (cG Z1 Z3 Z2) (.tmp Z1 .nil))) rfl (tdt (.cons (td rfl (.v _)) (.cons (td rfl (.agg _ (bK.dat _))) (.cons (td rfl (.v _)) .nil))))
 ·
  refine AWp.skip ?_
  refine aF ?_
  refine AWp.seq' ?_
  refine sr (N' := 192) rfl ?_
  refine pA ?_
  refine pu rfl (aD Z1 Z3 Z4) ?_
  refine pA ?_
  refine fs ?_
  refine AWp.block ?_
  refine AWp.loopM (fun m s => ∃ (w_1 : aH) (t3 : aH) (at_5 : Int), s = (⟨35, (aK (aK (aK (fun _ => AV.any) 1 (.adr 1 0)) 3 (.adr 2 0)) 5 (.v (.int .i64 at_5))), ⟨(upd (upd bL 1 (.cells 1 [.sl (w_1.List.flatMap (ci .u64)) w_1.List.length false, .v (.int .i64 w_1.At)] 0)) 2 (.cells 1 [.sl (t3.List.flatMap (ci .u64)) t3.List.length false, .v (.int .i64 t3.At)] 0)), 64⟩⟩ : St) ∧ jP m w_1 t3 at_5 = some r) bY ?_ ?_ ?_
  ·
   rintro s ⟨_, _, _, _, h⟩
   cases h
  ·
   refine ⟨_, ?_, w_0, (aH.mk [] 0), w_0.At, rfl, hm⟩
   refine St.Le.trans (gP 2 (ys := [.sl (((aH.mk [] 0).List).flatMap (ci .u64)) ((aH.mk [] 0).List).length false, .v (.int .i64 ((aH.mk [] 0).At))]) Z3 (.cons (.nil false) (.cons (.data _ (.v _)) .nil))) ?_
   exact aN (fun j => bif j == 1 then 0 else bif j == 2 then 2 else 0) (wV (aX _ _ (bQ Z1 rfl Z7) (aX _ _ (bQ Z1 rfl Z7) aU))) (hW (aV (aO Z3 (Nat.le_refl _) (Nat.zero_le _) (bK.dat (aH.mk [] 0))) (aV (aO Z3 (Nat.le_refl _) (Nat.zero_le _) (bK.dat w_0)) aR)))
  ·
   rintro n1 s ⟨w_1, t3, at_5, rfl, hm⟩
   replace hm : lQ (jP n1) w_1 t3 at_5 = some r := hm
   unfold lQ at hm
   refine AWp.seq' ?_
   refine sr (N' := 128) rfl ?_
   iterate 2 refine pA ?_
   refine pu rfl (aD Z1 Z3 Z4) ?_
   iterate 2 refine pA ?_
   refine fs ?_
   refine AWp.condM hm Z1 (fun _ hm => ?_) (fun _ hm => ?_)
   ·
    refine AWp.skip ?_
    refine aF ?_
    refine AWp.seq' ?_
    refine AWp.block ?_
    refine sr (N' := 192) rfl ?_
    refine pA ?_
    refine pu rfl (aD Z1 Z3 Z4) ?_
    refine pA ?_
    obtain ⟨x4, h3, hm⟩ := bnd hm
    refine pu rfl (cP (CFi .u64) Zd Tryz.underlying24 nS Z1 rfl Z1 h3) ?_
    iterate 3 refine pu rfl (by simp only [go_sem, Nat.reduceBEq, Int.reduceEq, Int.reduceLE]; try with_reducible rfl) ?_
    refine fs ?_
    refine sr (N' := 256) rfl ?_
    iterate 2 refine pA ?_
    refine fs ?_
    refine AWp.condM hm Z1 (fun _ hm => ?_) (fun _ hm => ?_)
    ·
     refine sd mix (by kernel_rfl) (N' := 320) rfl ?_
     iterate 2 refine pA ?_
     refine pu rfl (aD Z1 Z3 Z4) ?_
     iterate 2 refine pA ?_
     refine pu rfl (by simp only [go_sem, Nat.reduceBEq]; exact (by kernel_rfl : dJ Tryz.prog 60 [(0, .sl (w_1.List.flatMap (ci .u64)) w_1.List.length false), (1, .v (.int .i64 (IntKind.i64.wrap (at_5 + 1))))] = some (.agg [.sl (w_1.List.flatMap (ci .u64)) w_1.List.length false, .v (.int .i64 (IntKind.i64.wrap (at_5 + 1)))]))) ?_
     refine pA ?_
     refine aE.heap0 (id := 263) rfl (bG (ys := [.sl (w_1.List.flatMap (ci .u64)) w_1.List.length false, .v (.int .i64 (IntKind.i64.wrap (at_5 + 1)))]) aEx Z1 Z1 Z3 rfl (Nat.le_of_ble_eq_true rfl) Z9 rfl) ?_
     refine pA ?_
     refine fs ?_
     refine AWp.ret ?_
     refine dB ?_
     refine bB ?_
     refine eD ?_
     refine dB ?_
     refine bB ?_
     cases hm
     exact fK (.inr rfl) (by rw [Tryz.results63]) (.tmp Z1 (.cell (cG Z1 Z3 Z2) (.tmp Z1 .nil))) rfl (tdt (.cons (td rfl (.v _)) (.cons (td rfl (.agg _ (bK.dat (aH.mk w_1.List (IntKind.i64.wrap (at_5 + 1)))))) (.cons (td rfl (.v _)) .nil))))
    ·
     refine AWp.skip ?_
     refine cA ?_
     refine aF ?_
     refine AWp.reg 64 (N' := 320) rfl ?_
     iterate 3 refine pA ?_
     refine aE.fin ?_
     refine bU ?_
     refine ⟨_, ?_, w_1, t3, (IntKind.i64.wrap (at_5 + 1)), rfl, hm⟩
     exact aN (fun j => bif j == 1 then 1 else bif j == 2 then 2 else 0) (wV (aX _ _ (bQ Z1 rfl Z7) (aX _ _ (bQ Z1 rfl Z7) aU))) (hW (aV (aO Z3 (Nat.le_refl _) (Nat.zero_le _) (bK.dat t3)) (aV (aO Z3 (Nat.le_refl _) (Nat.zero_le _) (bK.dat w_1)) aR)))
   ·
    refine AWp.exit ?_
    refine cH ?_
    refine bW ?_
    refine bT ?_
    refine aF ?_
    refine sd mix (by kernel_rfl) (N' := 192) rfl ?_
    refine pu rfl (aD Z1 Z3 Z2) ?_
    refine pA ?_
    refine aE.heap0 (id := 130) rfl (bG (ys := [.sl (w_1.List.flatMap (ci .u64)) w_1.List.length false, .v (.int .i64 w_1.At)]) aEx Z1 Z1 Z3 rfl (Nat.le_of_ble_eq_true rfl) Z9 rfl) ?_
    refine pA ?_
    refine fs ?_
    refine AWp.ret ?_
    cases hm
    exact fK (.inr rfl) (by rw [Tryz.results63]) (.tmp Z1 (.cell (cG Z1 Z3 Z2) (.tmp Z1 .nil))) rfl (tdt (.cons (td rfl (.v _)) (.cons (td rfl (.agg _ (bK.dat _))) (.cons (td rfl (.v _)) .nil))))
def kP (rec2 : Int → aH → List Int → aH → List cC → Int → Option ((List cC) × aH × Int)) (n_1 : Int) (t5 : aH) (all_7 : List Int) (v_8 : aH) (out_12 : List cC) (i_13 : Int) : Option ((List cC) × aH × Int) :=
 (bif (decide (i_13 < n_1)) then
  ((idx all_7 (IntKind.i64.wrap (2 * i_13))).bind fun x10 =>
  ((idx all_7 (IntKind.i64.wrap ((IntKind.i64.wrap (2 * i_13)) + 1))).bind fun x12 =>
  ((app out_12 [(cC.mk x10 x12)]).bind fun l14 =>
  rec2 n_1 t5 all_7 v_8 l14 (IntKind.i64.wrap (i_13 + 1)))))
 else
  some (out_12, v_8, 0))
def gI : Nat → Int → aH → List Int → aH → List cC → Int → Option ((List cC) × aH × Int)
 | 0 => fun _ _ _ _ _ _ => none
 | n + 1 => kP (gI n)
def gN (rec1 : Int → aH → aH → List Int → aH → Option ((List cC) × aH × Int)) (n_1 : Int) (w_2 : aH) (t5 : aH) (all_7 : List Int) (v_8 : aH) : Option ((List cC) × aH × Int) :=
 (bif (decide ((all_7.length : Int) < (IntKind.i64.wrap (2 * n_1)))) then
  ((nJ v_8).bind fun ⟨r4, r5, r6⟩ =>
  (bif (r6 != 0) then
   some ([], w_2, r6)
  else
   ((app all_7 [r4]).bind fun l8 =>
   rec1 n_1 w_2 t5 l8 r5)))
 else
  gI bY n_1 t5 all_7 v_8 [] 0)
def gM : Nat → Int → aH → aH → List Int → aH → Option ((List cC) × aH × Int)
 | 0 => fun _ _ _ _ _ => none
 | n + 1 => gN (gM n)
def hY (w_0 : aH) (n_1 : Int) : Option ((List cC) × aH × Int) :=
 ((iX w_0).bind fun r2 =>
 (bif (((!r2) || (decide (n_1 < 0))) || (decide (128 < n_1))) then
  some ([], w_0, 1)
 else
  gM bY n_1 w_0 (aH.mk [] 0) [] w_0))
theorem aGi {w_0 : aH} {n_1 : Int} {r : (List cC) × aH × Int} (hm : hY w_0 n_1 = some r) : aT Tryz.prog 23 [.agg [.sl (w_0.List.flatMap (ci .u64)) w_0.List.length false, .v (.int .i64 w_0.At)], .v (.int .i64 n_1)] (.tup [.sl (r.1.flatMap bA) r.1.length false, .agg [.sl (r.2.1.List.flatMap (ci .u64)) r.2.1.List.length false, .v (.int .i64 r.2.1.At)], .v (.int .i64 r.2.2)]) := by
 refine aT.of_body Tryz.func23 rfl ?_
 simp only [Tryz.ntmps23, List.length_cons, List.length_nil, Nat.reduceAdd, Nat.reduceSub, aQ]
 unfold hY at hm
 refine sr (N' := 64) rfl ?_
 refine hp (id := 0) rfl rfl (bO Z1 Z5) ?_
 refine pA ?_
 refine hp (id := 2) rfl rfl (aY aT4 Z5) ?_
 refine pA ?_
 refine fs ?_
 refine AWp.seq' ?_
 refine sr (N' := 128) rfl ?_
 refine pu rfl (aD Z1 Z3 Z2) ?_
 obtain ⟨r2, h1, hm⟩ := bnd hm
 refine aE.callQ (r := .v (.bool r2)) Zd Z1 bGf (fun H => (cD (.agg _ (bK.dat _)) .nil)) (aBr h1) ?_
 iterate 9 first | refine pA ?_ | refine pB ?_
 refine fs ?_
 refine AWp.condM hm Z1 (fun _ hm => ?_) (fun _ hm => ?_)
 ·
  refine sd mix (by kernel_rfl) (N' := 192) rfl ?_
  refine pu rfl (aD Z1 Z3 Z2) ?_
  refine pA ?_
  refine aE.heap0 (id := 130) rfl (bG (ys := [.sl (w_0.List.flatMap (ci .u64)) w_0.List.length false, .v (.int .i64 w_0.At)]) aEx Z1 Z1 Z3 rfl (Nat.le_of_ble_eq_true rfl) Z9 rfl) ?_
  refine pA ?_
  refine fs ?_
  refine AWp.ret ?_
  refine bB ?_
  cases hm
  exact fK (.inr rfl) (by rw [Tryz.results23]) (.tmp Z1 (.cell (cG Z1 Z3 Z2) (.tmp Z1 .nil))) rfl (tdt (.cons (tdn rfl) (.cons (td rfl (.agg _ (bK.dat _))) (.cons (td rfl (.v _)) .nil))))
 ·
  refine AWp.skip ?_
  refine aF ?_
  refine sr (N' := 192) rfl ?_
  refine pA ?_
  refine fs ?_
  refine sr (N' := 256) rfl ?_
  refine pu rfl (aD Z1 Z3 Z2) ?_
  refine hp (id := 193) rfl rfl (aY aT4 Z5) ?_
  refine aE.heap0 (id := 194) rfl (bG (ys := [.sl (w_0.List.flatMap (ci .u64)) w_0.List.length false, .v (.int .i64 w_0.At)]) aEx Z1 Z1 Z3 rfl (Nat.le_of_ble_eq_true rfl) Z9 rfl) ?_
  refine fs ?_
  refine AWp.seq' ?_
  refine AWp.block ?_
  refine AWp.loopM (fun m s => ∃ (n_1 : Int) (w_2 : aH) (t5 : aH) (all_7 : List Int) (v_8 : aH), s = (⟨69, (aK (aK (aK (aK (aK (fun _ => AV.any) 1 (.v (.int .i64 n_1))) 2 (.adr 1 0)) 5 (.adr 2 0)) 7 (.own 3 0 all_7.length)) 8 (.adr 4 0)), ⟨(upd (upd (upd (upd bL 1 (.cells 1 [.sl (w_2.List.flatMap (ci .u64)) w_2.List.length false, .v (.int .i64 w_2.At)] 0)) 2 (.cells 1 [.sl (t5.List.flatMap (ci .u64)) t5.List.length false, .v (.int .i64 t5.At)] 0)) 3 (.cells 1 (all_7.flatMap (ci .u64)) 0)) 4 (.cells 1 [.sl (v_8.List.flatMap (ci .u64)) v_8.List.length false, .v (.int .i64 v_8.At)] 0)), 64⟩⟩ : St) ∧ gM m n_1 w_2 t5 all_7 v_8 = some r) bY ?_ ?_ ?_
  ·
   rintro s ⟨_, _, _, _, _, _, h⟩
   cases h
  ·
   refine ⟨_, ?_, n_1, w_0, (aH.mk [] 0), [], w_0, rfl, hm⟩
   refine St.Le.trans (kA 7 900007 1 Z1 Z5) ?_
   refine St.Le.trans (gP 2 (ys := [.sl (((aH.mk [] 0).List).flatMap (ci .u64)) ((aH.mk [] 0).List).length false, .v (.int .i64 ((aH.mk [] 0).At))]) Z3 (.cons (.nil false) (.cons (.data _ (.v _)) .nil))) ?_
   exact aN (fun j => bif j == 1 then 0 else bif j == 2 then 2 else bif j == 3 then 900007 else bif j == 4 then 193 else 0) (aX _ _ (bQ Z1 rfl Z7) (wO (aX _ _ (bQ Z1 rfl Z7) (aX _ _ (bQ Z1 rfl Z7) (wV aU))))) (cL _ (aV (aO Z3 (Nat.le_refl _) (Nat.zero_le _) (bK.dat w_0)) (eU (CFi .u64) (aV (aO Z3 (Nat.le_refl _) (Nat.zero_le _) (bK.dat (aH.mk [] 0))) (aV (aO Z3 (Nat.le_refl _) (Nat.zero_le _) (bK.dat w_0)) aR)))) Z8)
  ·
   rintro n1 s ⟨n_1, w_2, t5, all_7, v_8, rfl, hm⟩
   replace hm : gN (gM n1) n_1 w_2 t5 all_7 v_8 = some r := hm
   unfold gN at hm
   refine AWp.seq' ?_
   refine sr (N' := 128) rfl ?_
   iterate 5 refine pA ?_
   refine fs ?_
   refine AWp.condM hm Z1 (fun _ hm => ?_) (fun _ hm => ?_)
   ·
    refine AWp.skip ?_
    refine aF ?_
    refine AWp.block ?_
    refine sr (N' := 192) rfl ?_
    refine pu rfl (aD Z1 Z3 Z2) ?_
    obtain ⟨⟨r4, r5, r6⟩, h3, hm⟩ := bnd hm
    refine aE.callQ (r := .tup [.v (.int .u64 r4), .agg [.sl (r5.List.flatMap (ci .u64)) r5.List.length false, .v (.int .i64 r5.At)], .v (.int .i64 r6)]) Zd Z1 bI7 (fun H => (cD (.agg _ (bK.dat _)) .nil)) (aJ2 h3) ?_
    iterate 4 refine pA ?_
    refine hp (id := 134) rfl rfl (aY aT4 Z5) ?_
    refine pA ?_
    refine aE.heap0 (id := 136) rfl (bG (ys := [.sl (r5.List.flatMap (ci .u64)) r5.List.length false, .v (.int .i64 r5.At)]) aEx Z1 Z1 Z3 rfl (Nat.le_of_ble_eq_true rfl) Z9 rfl) ?_
    refine pA ?_
    refine fs ?_
    refine AWp.seq' ?_
    refine sr (N' := 256) rfl ?_
    iterate 2 refine pA ?_
    refine fs ?_
    refine AWp.condM hm Z1 (fun _ hm => ?_) (fun _ hm => ?_)
    ·
     refine sd mix (by kernel_rfl) (N' := 320) rfl ?_
     refine pu rfl (aD Z1 Z3 Z2) ?_
     iterate 2 refine pA ?_
     refine aE.heap0 (id := 259) rfl (bG (ys := [.sl (w_2.List.flatMap (ci .u64)) w_2.List.length false, .v (.int .i64 w_2.At)]) aEx Z1 Z1 Z3 rfl (Nat.le_of_ble_eq_true rfl) Z9 rfl) ?_
     refine pA ?_
     refine fs ?_
     refine AWp.ret ?_
     refine bB ?_
     refine dB ?_
     refine eD ?_
     refine dB ?_
     refine bB ?_
     cases hm
     exact fK (.inr rfl) (by rw [Tryz.results23]) (.tmp Z1 (.cell (cG Z1 Z3 Z2) (.tmp Z1 .nil))) rfl (tdt (.cons (tdn rfl) (.cons (td rfl (.agg _ (bK.dat _))) (.cons (td rfl (.v _)) .nil))))
    ·
     refine AWp.skip ?_
     refine aF ?_
     refine sr (N' := 320) rfl ?_
     iterate 2 refine pA ?_
     refine hp (id := 258) rfl rfl (eE (CFi .u64) (l := [r4]) Tryz.underlying24 nS aI6 Z5 Zd Zd Zd (by simp only [go_sem, Nat.reduceBEq]; try rfl) (by kernel_rfl)) ?_
     obtain ⟨l8, h7, hm⟩ := bnd hm
     refine hp (id := 259) rfl rfl (iI (CFi .u64) Tryz.underlying24 Tryz.underlying24 rfl aOd aOs (by rw [aCj]; decide) (by rw [aCj]; decide) aQu Zd Zd Z1 Z3 Z6 (lM (CFi .u64) Z1 Z3 Z6) rfl Z5 h7) ?_
     refine pA ?_
     refine fs ?_
     refine AWp.reg 64 (N' := 384) rfl ?_
     refine pu rfl (aD Z1 Z3 Z2) ?_
     refine aE.heap0 (id := 321) rfl (bG (ys := [.sl (r5.List.flatMap (ci .u64)) r5.List.length false, .v (.int .i64 r5.At)]) aEx Z1 Z1 Z3 rfl (Nat.le_of_ble_eq_true rfl) Z9 rfl) ?_
     refine aE.fin ?_
     refine cA ?_
     refine bU ?_
     refine ⟨_, ?_, n_1, w_2, t5, l8, r5, rfl, hm⟩
     exact aN (fun j => bif j == 1 then 1 else bif j == 2 then 2 else bif j == 3 then 259 else bif j == 4 then 4 else 0) (aX _ _ (bQ Z1 rfl Z7) (wO (aX _ _ (bQ Z1 rfl Z7) (aX _ _ (bQ Z1 rfl Z7) (wV aU))))) (cL _ (aV (aO Z3 (Nat.le_refl _) (Nat.zero_le _) (bK.dat r5)) (eU (CFi .u64) (aV (aO Z3 (Nat.le_refl _) (Nat.zero_le _) (bK.dat t5)) (aV (aO Z3 (Nat.le_refl _) (Nat.zero_le _) (bK.dat w_2)) aR)))) Z8)
   ·
    refine AWp.exit ?_
    refine cH ?_
    refine bW ?_
    refine bT ?_
    refine aF ?_
    refine sr (N' := 192) rfl ?_
    refine pA ?_
    refine fs ?_
    refine AWp.seq' ?_
    refine sr (N' := 256) rfl ?_
    refine pA ?_
    refine fs ?_
    refine AWp.block ?_
    refine AWp.loopM (fun m s => ∃ (n_1 : Int) (t5 : aH) (all_7 : List Int) (v_8 : aH) (out_12 : List cC) (i_13 : Int), s = (⟨69, (aK (aK (aK (aK (aK (aK (fun _ => AV.any) 1 (.v (.int .i64 n_1))) 5 (.adr 1 0)) 7 (.own 2 0 all_7.length)) 8 (.adr 3 0)) 12 (.own 4 0 out_12.length)) 13 (.v (.int .i64 i_13))), ⟨(upd (upd (upd (upd bL 1 (.cells 1 [.sl (t5.List.flatMap (ci .u64)) t5.List.length false, .v (.int .i64 t5.At)] 0)) 2 (.cells 1 (all_7.flatMap (ci .u64)) 0)) 3 (.cells 1 [.sl (v_8.List.flatMap (ci .u64)) v_8.List.length false, .v (.int .i64 v_8.At)] 0)) 4 (.cells 2 (out_12.flatMap bA) 0)), 64⟩⟩ : St) ∧ gI m n_1 t5 all_7 v_8 out_12 i_13 = some r) bY ?_ ?_ ?_
    ·
     rintro s ⟨_, _, _, _, _, _, _, h⟩
     cases h
    ·
     refine ⟨_, ?_, n_1, t5, all_7, v_8, [], 0, rfl, hm⟩
     refine St.Le.trans (kA 12 900012 2 Z1 Z5) ?_
     exact aN (fun j => bif j == 1 then 2 else bif j == 2 then 3 else bif j == 3 then 4 else bif j == 4 then 900012 else 0) (wV (wO (aX _ _ (bQ Z1 rfl Z7) (wO (aX _ _ (bQ Z1 rfl Z7) (wV aU)))))) (cL _ (eU cN (aV (aO Z3 (Nat.le_refl _) (Nat.zero_le _) (bK.dat v_8)) (eU (CFi .u64) (aV (aO Z3 (Nat.le_refl _) (Nat.zero_le _) (bK.dat t5)) aR)))) Z8)
    ·
     rintro n2 s ⟨n_1, t5, all_7, v_8, out_12, i_13, rfl, hm⟩
     replace hm : kP (gI n2) n_1 t5 all_7 v_8 out_12 i_13 = some r := hm
     unfold kP at hm
     refine AWp.seq' ?_
     refine sr (N' := 128) rfl ?_
     iterate 3 refine pA ?_
     refine fs ?_
     refine AWp.condM hm Z1 (fun _ hm => ?_) (fun _ hm => ?_)
     ·
      refine AWp.skip ?_
      refine aF ?_
      refine AWp.seq' ?_
      refine AWp.block ?_
      refine AWp.regD 64 mix (by kernel_rfl) (N' := 192) rfl ?_
      iterate 4 refine pA ?_
      obtain ⟨x10, h9, hm⟩ := bnd hm
      refine pu rfl (dD Tryz.underlying24 nS Z1 Z3 Z6 Z1 h9) ?_
      refine pu rfl (jR (CFi .u64) Z1 Z3 h9 (fun _ => by simp only [go_sem, Nat.reduceBEq]; try with_reducible rfl)) ?_
      iterate 4 refine pA ?_
      obtain ⟨x12, h11, hm⟩ := bnd hm
      refine pu rfl (dD Tryz.underlying24 nS Z1 Z3 Z6 Z1 h11) ?_
      refine pu rfl (jR (CFi .u64) Z1 Z3 h11 (fun _ => by simp only [go_sem, Nat.reduceBEq]; try with_reducible rfl)) ?_
      refine pu rfl (by simp only [go_sem, Nat.reduceBEq]; exact (by kernel_rfl : dJ Tryz.prog 120 [(0, .v (.int .u64 x10)), (1, .v (.int .u64 x12))] = some (.agg [.v (.int .u64 x10), .v (.int .u64 x12)]))) ?_
      refine hp (id := 141) rfl rfl (eE cN (l := [(cC.mk x10 x12)]) Tryz.underlying27 uT aHt Z5 Zd Zd Zd (by simp only [go_sem, Nat.reduceBEq]; try rfl) (by kernel_rfl)) ?_
      obtain ⟨l14, h13, hm⟩ := bnd hm
      refine hp (id := 142) rfl rfl (iI cN Tryz.underlying27 Tryz.underlying27 rfl aPn aPh (by rw [aGc]; decide) (by rw [aGc]; decide) aUr Zd Zd Z1 Z3 Z6 (lM cN Z1 Z3 Z6) rfl Z5 h13) ?_
      refine pA ?_
      refine aE.fin ?_
      refine cA ?_
      refine aF ?_
      refine AWp.reg 64 (N' := 256) rfl ?_
      iterate 3 refine pA ?_
      refine aE.fin ?_
      refine bU ?_
      refine ⟨_, ?_, n_1, t5, all_7, v_8, l14, (IntKind.i64.wrap (i_13 + 1)), rfl, hm⟩
      exact aN (fun j => bif j == 1 then 1 else bif j == 2 then 2 else bif j == 3 then 3 else bif j == 4 then 142 else 0) (wV (wO (aX _ _ (bQ Z1 rfl Z7) (wO (aX _ _ (bQ Z1 rfl Z7) (wV aU)))))) (cL _ (eU cN (aV (aO Z3 (Nat.le_refl _) (Nat.zero_le _) (bK.dat v_8)) (eU (CFi .u64) (aV (aO Z3 (Nat.le_refl _) (Nat.zero_le _) (bK.dat t5)) aR)))) Z8)
     ·
      refine AWp.exit ?_
      refine cH ?_
      refine bW ?_
      refine bT ?_
      refine aF ?_
      refine sd mix (by kernel_rfl) (N' := 192) rfl ?_
      refine pA ?_
      refine pu rfl (aD Z1 Z3 Z2) ?_
      refine pA ?_
      refine aE.heap0 (id := 131) rfl (bG (ys := [.sl (v_8.List.flatMap (ci .u64)) v_8.List.length false, .v (.int .i64 v_8.At)]) aEx Z1 Z1 Z3 rfl (Nat.le_of_ble_eq_true rfl) Z9 rfl) ?_
      refine pA ?_
      refine fs ?_
      refine AWp.ret ?_
      cases hm
      exact fK (.inr rfl) (by rw [Tryz.results23]) (.tmp Z1 (.cell (cG Z1 Z3 Z2) (.tmp Z1 .nil))) rfl (tdt (.cons (tdo cN rfl Z3 Z6) (.cons (td rfl (.agg _ (bK.dat _))) (.cons (td rfl (.v _)) .nil))))
def rV (c_0 : aZ) (words_1 : List Int) (from_2 : Int) : Option (Bool) :=
 (bif ((decide (600 < (words_1.length : Int))) || ((decide (60 < c_0.N)) && (decide (c_0.N ≤ 1024)))) then
  ((iS ).bind fun r2 =>
  some r2)
 else
  ((iZ c_0 (bH.mk words_1 from_2)).bind fun ⟨r4, r5, r6⟩ =>
  ((gZ c_0).bind fun r8 =>
  (bif (!r8) then
   ((iL r4 (aI.mk (aJ.mk (aZ.mk 0 0 0) [] []) [])).bind fun r10 =>
   ((fA (((r10 && (r5.At == from_2)) && (r6 == 1)) == true) false (iS )).bind fun r12 =>
   some (((r10 && (r5.At == from_2)) && (r6 == 1)) && r12)))
  else
   ((hY (aH.mk words_1 from_2) (IntKind.i64.wrap (c_0.L * c_0.R))).bind fun ⟨r14, r15, r16⟩ =>
   (bif (r16 != 0) then
    ((iL r4 (aI.mk (aJ.mk (aZ.mk 0 0 0) [] []) [])).bind fun r18 =>
    ((fA (((r18 && (r5.At == from_2)) && (r6 == r16)) == true) false (iS )).bind fun r20 =>
    some (((r18 && (r5.At == from_2)) && (r6 == r16)) && r20)))
   else
    ((fA (((r6 == 0) && (r5.At == r15.At)) == true) false (mL r4.Graph (aJ.mk c_0 r14 []))).bind fun r22 =>
    ((fA (((((r6 == 0) && (r5.At == r15.At)) && r22) && ((r4.Slots.length : Int) == c_0.N)) == true) false (mJ r4)).bind fun r24 =>
    ((fA ((((((r6 == 0) && (r5.At == r15.At)) && r22) && ((r4.Slots.length : Int) == c_0.N)) && r24) == true) false (iS )).bind fun r26 =>
    some ((((((r6 == 0) && (r5.At == r15.At)) && r22) && ((r4.Slots.length : Int) == c_0.N)) && r24) && r26))))))))))
theorem aNo {c_0 : aZ} {words_1 : List Int} {from_2 : Int} {r : Bool} (hm : rV c_0 words_1 from_2 = some r) : aT Tryz.prog 4 [.agg [.v (.int .i64 c_0.N), .v (.int .i64 c_0.L), .v (.int .i64 c_0.R)], .sl (words_1.flatMap (ci .u64)) words_1.length false, .v (.int .i64 from_2)] (.v (.bool r)) := by
 refine aT.of_body Tryz.func4 rfl ?_
 simp only [Tryz.ntmps4, List.length_cons, List.length_nil, Nat.reduceAdd, Nat.reduceSub, aQ]
 unfold rV at hm
 refine sr (N' := 64) rfl ?_
 refine hp (id := 0) rfl rfl (bO Z1 Z5) ?_
 refine pA ?_
 refine fs ?_
 refine AWp.seq' ?_
 refine sr (N' := 128) rfl ?_
 iterate 5 first | refine pA ?_ | refine pB ?_
 refine pg rfl rfl Z2 (fun hb => (aD (Zh hb) Z3 Z4)) ?_
 iterate 3 refine pB ?_
 refine pg rfl rfl Z2 (fun hb => (aD (Zh hb) Z3 Z4)) ?_
 iterate 3 first | refine pA ?_ | refine pB ?_
 refine fs ?_
 refine AWp.condM hm Z1 (fun _ hm => ?_) (fun _ hm => ?_)
 ·
  refine sr (N' := 192) rfl ?_
  obtain ⟨r2, h1, hm⟩ := bnd hm
  refine aE.callQ (r := .v (.bool r2)) Zd Z1 aXy (fun H => .nil) (qX h1) ?_
  refine pA ?_
  refine fs ?_
  refine AWp.ret ?_
  refine bB ?_
  cases hm
  exact bM (.inr rfl) Tryz.results4 (td Z1 (.v _))
 ·
  refine AWp.skip ?_
  refine aF ?_
  refine sr (N' := 192) rfl ?_
  refine pu rfl (aD Z1 Z3 Z2) ?_
  iterate 2 refine pA ?_
  refine pu rfl (by simp only [go_sem, Nat.reduceBEq]; exact (by kernel_rfl : dJ Tryz.prog 35 [(0, .sl (words_1.flatMap (ci .u64)) words_1.length false), (1, .v (.int .i64 from_2))] = some (.agg [.sl (words_1.flatMap (ci .u64)) words_1.length false, .v (.int .i64 from_2)]))) ?_
  obtain ⟨⟨r4, r5, r6⟩, h3, hm⟩ := bnd hm
  refine aE.callQ (r := .tup [.agg [.v (.int .i64 r4.Graph.Config.N), .v (.int .i64 r4.Graph.Config.L), .v (.int .i64 r4.Graph.Config.R), .sl (r4.Graph.Hashes.flatMap bA) r4.Graph.Hashes.length false, .sl (r4.Graph.Edges.flatMap aL) r4.Graph.Edges.length false, .sl (r4.Slots.flatMap aS) r4.Slots.length false], .agg [.sl (r5.List.flatMap (ci .u64)) r5.List.length false, .v (.int .i64 r5.At)], .v (.int .i64 r6)]) Zd Z1 bEc (fun H => (cD (.agg _ (mQ.dat _)) (.cons (td Z1 (.agg _ (cI.dat (bH.mk words_1 from_2)))) .nil))) (aF6 h3) ?_
  iterate 4 refine pA ?_
  refine hp (id := 137) rfl rfl (aY aH7 Z5) ?_
  refine hp (id := 138) rfl rfl (aY aIg Z5) ?_
  refine aE.heap0 (id := 139) rfl (bG (ys := [.v (.int .i64 r4.Graph.Config.N), .v (.int .i64 r4.Graph.Config.L), .v (.int .i64 r4.Graph.Config.R), .sl (r4.Graph.Hashes.flatMap bA) r4.Graph.Hashes.length false, .sl (r4.Graph.Edges.flatMap aL) r4.Graph.Edges.length false, .sl (r4.Slots.flatMap aS) r4.Slots.length false]) qV Z1 Z1 Z3 rfl (Nat.le_of_ble_eq_true rfl) Z9 rfl) ?_
  refine aE.heap0 (id := 140) rfl (bG (ys := [.sl (r5.List.flatMap (ci .u64)) r5.List.length false, .v (.int .i64 r5.At)]) uY Z1 Z1 Z3 rfl (Nat.le_of_ble_eq_true rfl) Z9 rfl) ?_
  refine pA ?_
  refine fs ?_
  refine AWp.seq' ?_
  refine sr (N' := 256) rfl ?_
  refine pu rfl (aD Z1 Z3 Z2) ?_
  obtain ⟨r8, h7, hm⟩ := bnd hm
  refine aE.callQ (r := .v (.bool r8)) Zd Z1 bKh (fun H => (cD (.agg _ (mQ.dat _)) .nil)) (aGk h7) ?_
  refine pA ?_
  refine fs ?_
  refine AWp.condM hm Z1 (fun _ hm => ?_) (fun _ hm => ?_)
  ·
   refine sr (N' := 320) rfl ?_
   refine pu rfl (aD Z1 Z3 Z2) ?_
   refine pu rfl (by simp only [go_sem, Nat.reduceBEq]; exact (by kernel_rfl : dJ Tryz.prog 33 [] = some (.agg [.v (.int .i64 0), .v (.int .i64 0), .v (.int .i64 0), .v (.slice none 0 0), .v (.slice none 0 0), .v (.slice none 0 0)]))) ?_
   obtain ⟨r10, h9, hm⟩ := bnd hm
   refine aE.callQ (r := .v (.bool r10)) Zd Z1 bDa (fun H => (cD (.agg _ (bE.dat _)) (.cons (tda Z1 (.cons (.data _ (.v _)) (.cons (.data _ (.v _)) (.cons (.data _ (.v _)) (.cons (.nil false) (.cons (.nil false) (.cons (.nil false) .nil))))))) .nil))) (aD9 h9) ?_
   iterate 2 first | refine pA ?_ | refine pB ?_
   refine pg rfl rfl Z2 (fun hb => (aD (Zh hb) Z3 Z4)) ?_
   iterate 8 first | refine pA ?_ | refine pB ?_
   obtain ⟨r12, h11, hm⟩ := bnd hm
   refine aE.callQG (r := .v (.bool r12)) Zd rfl Z2 Z1 aXy (fun hb H => .nil) (fun hb => qX (dA h11 hb)) ?_
   iterate 2 refine pA ?_
   refine fs ?_
   refine AWp.ret ?_
   refine bB ?_
   cases hm
   exact bM (.inr rfl) Tryz.results4 (td Z1 (.v _))
  ·
   refine AWp.skip ?_
   refine aF ?_
   refine sr (N' := 320) rfl ?_
   iterate 2 refine pA ?_
   refine pu rfl (by simp only [go_sem, Nat.reduceBEq]; exact (by kernel_rfl : dJ Tryz.prog 60 [(0, .sl (words_1.flatMap (ci .u64)) words_1.length false), (1, .v (.int .i64 from_2))] = some (.agg [.sl (words_1.flatMap (ci .u64)) words_1.length false, .v (.int .i64 from_2)]))) ?_
   refine pA ?_
   refine pu rfl (aD Z1 Z3 Z4) ?_
   refine pA ?_
   refine pu rfl (aD Z1 Z3 Z4) ?_
   refine pA ?_
   obtain ⟨⟨r14, r15, r16⟩, h13, hm⟩ := bnd hm
   refine aE.callQ (r := .tup [.sl (r14.flatMap bA) r14.length false, .agg [.sl (r15.List.flatMap (ci .u64)) r15.List.length false, .v (.int .i64 r15.At)], .v (.int .i64 r16)]) Zd Z1 bJc (fun H => (.cons (td Z1 (.agg _ (bK.dat (aH.mk words_1 from_2)))) (cV .nil))) (aGi h13) ?_
   iterate 4 refine pA ?_
   refine hp (id := 269) rfl rfl (aY aT4 Z5) ?_
   refine pA ?_
   refine aE.heap0 (id := 271) rfl (bG (ys := [.sl (r15.List.flatMap (ci .u64)) r15.List.length false, .v (.int .i64 r15.At)]) aEx Z1 Z1 Z3 rfl (Nat.le_of_ble_eq_true rfl) Z9 rfl) ?_
   refine pA ?_
   refine fs ?_
   refine AWp.seq' ?_
   refine sr (N' := 384) rfl ?_
   iterate 2 refine pA ?_
   refine fs ?_
   refine AWp.condM hm Z1 (fun _ hm => ?_) (fun _ hm => ?_)
   ·
    refine sr (N' := 448) rfl ?_
    refine pu rfl (aD Z1 Z3 Z2) ?_
    refine pu rfl (by simp only [go_sem, Nat.reduceBEq]; exact (by kernel_rfl : dJ Tryz.prog 33 [] = some (.agg [.v (.int .i64 0), .v (.int .i64 0), .v (.int .i64 0), .v (.slice none 0 0), .v (.slice none 0 0), .v (.slice none 0 0)]))) ?_
    obtain ⟨r18, h17, hm⟩ := bnd hm
    refine aE.callQ (r := .v (.bool r18)) Zd Z1 bDa (fun H => (cD (.agg _ (bE.dat _)) (.cons (tda Z1 (.cons (.data _ (.v _)) (.cons (.data _ (.v _)) (.cons (.data _ (.v _)) (.cons (.nil false) (.cons (.nil false) (.cons (.nil false) .nil))))))) .nil))) (aD9 h17) ?_
    iterate 2 first | refine pA ?_ | refine pB ?_
    refine pg rfl rfl Z2 (fun hb => (aD (Zh hb) Z3 Z4)) ?_
    iterate 9 first | refine pA ?_ | refine pB ?_
    obtain ⟨r20, h19, hm⟩ := bnd hm
    refine aE.callQG (r := .v (.bool r20)) Zd rfl Z2 Z1 aXy (fun hb H => .nil) (fun hb => qX (dA h19 hb)) ?_
    iterate 2 refine pA ?_
    refine fs ?_
    refine AWp.ret ?_
    refine bB ?_
    cases hm
    exact bM (.inr rfl) Tryz.results4 (td Z1 (.v _))
   ·
    refine AWp.skip ?_
    refine aF ?_
    refine sr (N' := 448) rfl ?_
    iterate 4 first | refine pA ?_ | refine pB ?_
    refine pg rfl rfl Z2 (fun hb => (aD (Zh hb) Z3 Z4)) ?_
    refine pB ?_
    refine pg rfl rfl Z2 (fun hb => (aD (Zh hb) Z3 Z4)) ?_
    iterate 4 first | refine pA ?_ | refine pB ?_
    refine pg rfl rfl Z2 (fun hb => (aD (Zh hb) Z3 Z4)) ?_
    refine pg rfl rfl Z2 (fun hb => (aD (Zh hb) Z3 Z2)) ?_
    refine pB ?_
    refine pg rfl rfl Z2 (fun hb => (by simp only [go_sem, Nat.reduceBEq, hb, Bool.true_and]; exact (by kernel_rfl : dJ Tryz.prog 30 [(0, .agg [.v (.int .i64 c_0.N), .v (.int .i64 c_0.L), .v (.int .i64 c_0.R)]), (1, .sl (r14.flatMap bA) r14.length false)] = some (.agg [.v (.int .i64 c_0.N), .v (.int .i64 c_0.L), .v (.int .i64 c_0.R), .sl (r14.flatMap bA) r14.length false, .v (.slice none 0 0)])))) ?_
    obtain ⟨r22, h21, hm⟩ := bnd hm
    refine aE.callQG (r := .v (.bool r22)) Zd rfl Z2 Z1 bDw (fun hb H => (.cons (td (Zh hb) (.agg _ (cB.dat _))) (.cons (tda (Zh hb) (.cons (.data _ (.v _)) (.cons (.data _ (.v _)) (.cons (.data _ (.v _)) (.cons (.data _ (cN.sl _ _ _)) (.cons (.nil false) .nil)))))) .nil))) (fun hb => aD6 (dA h21 hb)) ?_
    iterate 3 first | refine pA ?_ | refine pB ?_
    refine pg rfl rfl Z2 (fun hb => (aD (Zh hb) Z3 Z4)) ?_
    iterate 2 refine pB ?_
    refine pg rfl rfl Z2 (fun hb => (aD (Zh hb) Z3 Z4)) ?_
    iterate 3 first | refine pA ?_ | refine pB ?_
    refine pg rfl rfl Z2 (fun hb => (aD (Zh hb) Z3 Z2)) ?_
    obtain ⟨r24, h23, hm⟩ := bnd hm
    refine aE.callQG (r := .v (.bool r24)) Zd rfl Z2 Z1 bD8 (fun hb H => (.cons (td (Zh hb) (.agg _ (bE.dat _))) .nil)) (fun hb => aE1 (dA h23 hb)) ?_
    iterate 2 refine pA ?_
    obtain ⟨r26, h25, hm⟩ := bnd hm
    refine aE.callQG (r := .v (.bool r26)) Zd rfl Z2 Z1 aXy (fun hb H => .nil) (fun hb => qX (dA h25 hb)) ?_
    iterate 2 refine pA ?_
    refine fs ?_
    refine AWp.ret ?_
    cases hm
    exact bM (.inr rfl) Tryz.results4 (td Z1 (.v _))
end Go.Proofs.YtkdohhmacfoolaaGreat
