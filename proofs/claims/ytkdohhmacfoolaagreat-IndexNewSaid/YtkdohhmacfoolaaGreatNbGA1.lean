/- Facts that the statement's proof is made of. No condition. -/
import Derived.Test.YtkdohhmacfoolaaGreatNbOf
import Derived.Test.YtkdohhmacfoolaaGreatNbAmF
set_option linter.unusedVariables false
set_option linter.unusedSimpArgs false
set_option maxRecDepth 20000
set_option maxHeartbeats 4000000
namespace Go.Proofs.YtkdohhmacfoolaaGreat
open Go Go.AM
def aVi : ByteArray := ⟨#[0, 1, 2, 2, 3, 3, 3, 3, 4, 4, 4, 4, 4, 4, 4, 4, 5, 5, 5, 5, 5, 5, 5, 5, 5, 5, 5, 5, 5, 5, 5, 5, 6, 6, 6, 6, 6, 6, 6, 6, 6, 6, 6, 6, 6, 6, 6, 6, 6, 6, 6, 6, 6, 6, 6, 6, 6, 6, 6, 6, 6, 6, 6, 6, 7, 7, 7, 7, 7, 7, 7, 7, 7, 7, 7, 7, 7, 7, 7, 7, 7, 7, 7, 7, 7, 7, 7, 7, 7, 7, 7, 7, 7, 7, 7, 7, 7, 7, 7, 7, 7, 7, 7, 7, 7, 7, 7, 7, 7, 7, 7, 7, 7, 7, 7, 7, 7, 7, 7, 7, 7, 7, 7, 7, 7, 7, 7, 7, 8, 8, 8, 8, 8, 8, 8, 8, 8, 8, 8, 8, 8, 8, 8, 8, 8, 8, 8, 8, 8, 8, 8, 8, 8, 8, 8, 8, 8, 8, 8, 8, 8, 8, 8, 8, 8, 8, 8, 8, 8, 8, 8, 8, 8, 8, 8, 8, 8, 8, 8, 8, 8, 8, 8, 8, 8, 8, 8, 8, 8, 8, 8, 8, 8, 8, 8, 8, 8, 8, 8, 8, 8, 8, 8, 8, 8, 8, 8, 8, 8, 8, 8, 8, 8, 8, 8, 8, 8, 8, 8, 8, 8, 8, 8, 8, 8, 8, 8, 8, 8, 8, 8, 8, 8, 8, 8, 8, 8, 8, 8, 8, 8, 8, 8, 8, 8, 8, 8, 8, 8, 8, 8, 8, 8, 8, 8, 8]⟩
structure cC where
 A : Int
 B : Int
deriving DecidableEq
def bA (e : cC) : List AV := [.v (.int .u64 e.A), .v (.int .u64 e.B)]
theorem cN : CF bA 2 := ⟨fun _ => rfl, fun a x hx => by
 simp only [bA, List.mem_cons, List.not_mem_nil, or_false] at hx
 rcases hx with rfl | rfl
 ·
  exact (.v _)
 ·
  exact (.v _), fun _ => rfl⟩
theorem aOc (e : cC) (r : List AV) : bA e ++ r = .v (.int .u64 e.A) :: .v (.int .u64 e.B) :: r := rfl
attribute [go_sem] aOc
structure aZ where
 N : Int
 L : Int
 R : Int
deriving DecidableEq
def xU (e : aZ) : List AV := [.v (.int .i64 e.N), .v (.int .i64 e.L), .v (.int .i64 e.R)]
theorem mQ : CF xU 3 := ⟨fun _ => rfl, fun a x hx => by
 simp only [xU, List.mem_cons, List.not_mem_nil, or_false] at hx
 rcases hx with rfl | rfl | rfl
 ·
  exact (.v _)
 ·
  exact (.v _)
 ·
  exact (.v _), fun _ => rfl⟩
theorem aJ5 (e : aZ) (r : List AV) : xU e ++ r = .v (.int .i64 e.N) :: .v (.int .i64 e.L) :: .v (.int .i64 e.R) :: r := rfl
attribute [go_sem] aJ5
structure aJ where
 Config : aZ
 Hashes : List cC
 Edges : List aC
deriving DecidableEq
def aJ3 (e : aJ) : List AV := [.v (.int .i64 e.Config.N), .v (.int .i64 e.Config.L), .v (.int .i64 e.Config.R), .sl (e.Hashes.flatMap bA) e.Hashes.length false, .sl (e.Edges.flatMap aL) e.Edges.length false]
theorem cB : CF aJ3 5 := ⟨fun _ => rfl, fun a x hx => by
 simp only [aJ3, List.mem_cons, List.not_mem_nil, or_false] at hx
 rcases hx with rfl | rfl | rfl | rfl | rfl
 ·
  exact (.v _)
 ·
  exact (.v _)
 ·
  exact (.v _)
 ·
  exact (cN.sl _ _ _)
 ·
  exact (aG.sl _ _ _), fun _ => rfl⟩
theorem aKa (e : aJ) (r : List AV) : aJ3 e ++ r = .v (.int .i64 e.Config.N) :: .v (.int .i64 e.Config.L) :: .v (.int .i64 e.Config.R) :: .sl (e.Hashes.flatMap bA) e.Hashes.length false :: .sl (e.Edges.flatMap aL) e.Edges.length false :: r := rfl
attribute [go_sem] aKa
theorem aRq (x0 y0 x1 y1 x2 y2 : Int) : eC Tryz.prog .eql 102 (.agg [.v (.int .i64 x0), .v (.int .i64 x1), .v (.int .i64 x2)]) (.agg [.v (.int .i64 y0), .v (.int .i64 y1), .v (.int .i64 y2)]) = some (.v (.bool ((x0 == y0) && ((x1 == y1) && (x2 == y2))))) :=
 (by kernel_rfl : eC Tryz.prog .eql 102 (.agg [.v (.int .i64 x0), .v (.int .i64 x1), .v (.int .i64 x2)]) (.agg [.v (.int .i64 y0), .v (.int .i64 y1), .v (.int .i64 y2)]) = some (.v (.bool ((x0 == y0) && ((x1 == y1) && ((x2 == y2) && true)))))).trans (by rw [Bool.and_true])
theorem aQr (x0 y0 x1 y1 x2 y2 : Int) : eC Tryz.prog .neq 102 (.agg [.v (.int .i64 x0), .v (.int .i64 x1), .v (.int .i64 x2)]) (.agg [.v (.int .i64 y0), .v (.int .i64 y1), .v (.int .i64 y2)]) = some (.v (.bool (!((x0 == y0) && ((x1 == y1) && (x2 == y2)))))) :=
 (by kernel_rfl : eC Tryz.prog .neq 102 (.agg [.v (.int .i64 x0), .v (.int .i64 x1), .v (.int .i64 x2)]) (.agg [.v (.int .i64 y0), .v (.int .i64 y1), .v (.int .i64 y2)]) = some (.v (.bool (!((x0 == y0) && ((x1 == y1) && ((x2 == y2) && true))))))).trans (by rw [Bool.and_true])
attribute [go_sem] aRq aQr
theorem aSz (x0 y0 x1 y1 : Int) : eC Tryz.prog .eql 120 (.agg [.v (.int .u64 x0), .v (.int .u64 x1)]) (.agg [.v (.int .u64 y0), .v (.int .u64 y1)]) = some (.v (.bool ((x0 == y0) && (x1 == y1)))) :=
 (by kernel_rfl : eC Tryz.prog .eql 120 (.agg [.v (.int .u64 x0), .v (.int .u64 x1)]) (.agg [.v (.int .u64 y0), .v (.int .u64 y1)]) = some (.v (.bool ((x0 == y0) && ((x1 == y1) && true))))).trans (by rw [Bool.and_true])
theorem aQ3 (x0 y0 x1 y1 : Int) : eC Tryz.prog .neq 120 (.agg [.v (.int .u64 x0), .v (.int .u64 x1)]) (.agg [.v (.int .u64 y0), .v (.int .u64 y1)]) = some (.v (.bool (!((x0 == y0) && (x1 == y1))))) :=
 (by kernel_rfl : eC Tryz.prog .neq 120 (.agg [.v (.int .u64 x0), .v (.int .u64 x1)]) (.agg [.v (.int .u64 y0), .v (.int .u64 y1)]) = some (.v (.bool (!((x0 == y0) && ((x1 == y1) && true)))))).trans (by rw [Bool.and_true])
attribute [go_sem] aSz aQ3
theorem aVm (x0 y0 x1 y1 x2 y2 : Int) : eC Tryz.prog .eql 23 (.agg [.v (.int .i64 x0), .v (.int .i64 x1), .v (.int .i64 x2)]) (.agg [.v (.int .i64 y0), .v (.int .i64 y1), .v (.int .i64 y2)]) = some (.v (.bool ((x0 == y0) && ((x1 == y1) && (x2 == y2))))) :=
 (by kernel_rfl : eC Tryz.prog .eql 23 (.agg [.v (.int .i64 x0), .v (.int .i64 x1), .v (.int .i64 x2)]) (.agg [.v (.int .i64 y0), .v (.int .i64 y1), .v (.int .i64 y2)]) = some (.v (.bool ((x0 == y0) && ((x1 == y1) && ((x2 == y2) && true)))))).trans (by rw [Bool.and_true])
theorem aUw (x0 y0 x1 y1 x2 y2 : Int) : eC Tryz.prog .neq 23 (.agg [.v (.int .i64 x0), .v (.int .i64 x1), .v (.int .i64 x2)]) (.agg [.v (.int .i64 y0), .v (.int .i64 y1), .v (.int .i64 y2)]) = some (.v (.bool (!((x0 == y0) && ((x1 == y1) && (x2 == y2)))))) :=
 (by kernel_rfl : eC Tryz.prog .neq 23 (.agg [.v (.int .i64 x0), .v (.int .i64 x1), .v (.int .i64 x2)]) (.agg [.v (.int .i64 y0), .v (.int .i64 y1), .v (.int .i64 y2)]) = some (.v (.bool (!((x0 == y0) && ((x1 == y1) && ((x2 == y2) && true))))))).trans (by rw [Bool.and_true])
attribute [go_sem] aVm aUw
theorem aNh (xs : List AV) : aM Tryz.prog 102 (.ptr (xs)) 0 = some (.ptr xs) := by kernel_rfl
attribute [go_sem] aNh
theorem aMu (x0 : AV) (xs : List AV) : aM Tryz.prog 102 (.ptr (x0 :: xs)) 1 = some (.ptr xs) := by kernel_rfl
attribute [go_sem] aMu
theorem aN8 (x0 : AV) (x1 : AV) (xs : List AV) : aM Tryz.prog 102 (.ptr (x0 :: x1 :: xs)) 2 = some (.ptr xs) := by kernel_rfl
attribute [go_sem] aN8
theorem aMk (i o : Nat) : aM Tryz.prog 102 (.adr i o) 0 = some (.adr i (o + 0)) := by kernel_rfl
attribute [go_sem] aMk
theorem aLp (i o : Nat) : aM Tryz.prog 102 (.adr i o) 1 = some (.adr i (o + 1)) := by kernel_rfl
attribute [go_sem] aLp
theorem aNs (i o : Nat) : aM Tryz.prog 102 (.adr i o) 2 = some (.adr i (o + 2)) := by kernel_rfl
attribute [go_sem] aNs
theorem aOl (i o : Nat) : aM Tryz.prog 120 (.adr i o) 0 = some (.adr i (o + 0)) := by kernel_rfl
attribute [go_sem] aOl
theorem aO0 (i o : Nat) : aM Tryz.prog 120 (.adr i o) 1 = some (.adr i (o + 1)) := by kernel_rfl
attribute [go_sem] aO0
theorem aSc (i o : Nat) : aM Tryz.prog 23 (.adr i o) 0 = some (.adr i (o + 0)) := by kernel_rfl
attribute [go_sem] aSc
theorem aQq (i o : Nat) : aM Tryz.prog 23 (.adr i o) 1 = some (.adr i (o + 1)) := by kernel_rfl
attribute [go_sem] aQq
theorem aQk (i o : Nat) : aM Tryz.prog 23 (.adr i o) 2 = some (.adr i (o + 2)) := by kernel_rfl
attribute [go_sem] aQk
theorem aSh (i o : Nat) : aM Tryz.prog 30 (.adr i o) 0 = some (.adr i (o + 0)) := by kernel_rfl
attribute [go_sem] aSh
theorem aQx (i o : Nat) : aM Tryz.prog 30 (.adr i o) 1 = some (.adr i (o + 3)) := by kernel_rfl
attribute [go_sem] aQx
theorem aRi (i o : Nat) : aM Tryz.prog 30 (.adr i o) 2 = some (.adr i (o + 4)) := by kernel_rfl
attribute [go_sem] aRi
theorem aUy (H : aP) (x0 x1 x2 : AV) (xs : List AV) : cF Tryz.prog H 102 (.ptr (x0 :: x1 :: x2 :: xs)) = some (.agg [x0, x1, x2]) := by kernel_rfl
attribute [go_sem] aUy
theorem aVc (H : aP) (x0 x1 : AV) (xs : List AV) : cF Tryz.prog H 120 (.ptr (x0 :: x1 :: xs)) = some (.agg [x0, x1]) := by kernel_rfl
attribute [go_sem] aVc
theorem aWc (H : aP) (x0 x1 x2 : AV) (xs : List AV) : cF Tryz.prog H 23 (.ptr (x0 :: x1 :: x2 :: xs)) = some (.agg [x0, x1, x2]) := by kernel_rfl
attribute [go_sem] aWc
theorem aXz (H : aP) (x : AV) (xs : List AV) : cF Tryz.prog H 27 (.ptr (x :: xs)) = some x := by kernel_rfl
attribute [go_sem] aXz
theorem aWi (H : aP) (x : AV) (xs : List AV) : cF Tryz.prog H 28 (.ptr (x :: xs)) = some x := by kernel_rfl
attribute [go_sem] aWi
theorem aZx (H : aP) (x : AV) (xs : List AV) : cF Tryz.prog H 3 (.ptr (x :: xs)) = some x := by kernel_rfl
attribute [go_sem] aZx
theorem aWb (H : aP) (x0 x1 x2 x3 x4 : AV) (xs : List AV) : cF Tryz.prog H 30 (.ptr (x0 :: x1 :: x2 :: x3 :: x4 :: xs)) = some (.agg [x0, x1, x2, x3, x4]) := by kernel_rfl
attribute [go_sem] aWb
theorem aW7 (H : aP) (x : AV) (xs : List AV) : cF Tryz.prog H 43 (.ptr (x :: xs)) = some x := by kernel_rfl
attribute [go_sem] aW7
theorem aLl (H : aP) (k : IntKind) (n : Int) : jX Tryz.prog H 3 198 (.v (.int k n)) = some (.v (.int .u64 (IntKind.u64.wrap n))) := eY Tryz.underlying3 Tryz.underlying198
attribute [go_sem] aLl
theorem aU3 (H : aP) (k : IntKind) (n : Int) : jX Tryz.prog H 5 3 (.v (.int k n)) = some (.v (.int .i64 (IntKind.i64.wrap n))) := eY Tryz.underlying5 Tryz.underlying3
attribute [go_sem] aU3
theorem aS5 (H : aP) (k : IntKind) (n : Int) : jX Tryz.prog H 43 5 (.v (.int k n)) = some (.v (.int .u8 (IntKind.u8.wrap n))) := eY Tryz.underlying43 Tryz.underlying5
attribute [go_sem] aS5
def nC (rec1 : List cC → List cC → Int → Option (Bool)) (a_0 : List cC) (b_1 : List cC) (i_5 : Int) : Option (Bool) :=
 (bif (decide (i_5 < (a_0.length : Int))) then
  ((idx a_0 i_5).bind fun x2 =>
  ((idx b_1 i_5).bind fun x4 =>
  (bif (!((x2.A == x4.A) && (x2.B == x4.B))) then
   some false
  else
   rec1 a_0 b_1 (IntKind.i64.wrap (i_5 + 1)))))
 else
  some true)
def lG : Nat → List cC → List cC → Int → Option (Bool)
 | 0 => fun _ _ _ => none
 | n + 1 => nC (lG n)
def pI (a_0 : List cC) (b_1 : List cC) : Option (Bool) :=
 (bif ((a_0.length : Int) != (b_1.length : Int)) then
  some false
 else
  lG bY a_0 b_1 0)
theorem aKo {a_0 : List cC} {b_1 : List cC} {r : Bool} (hm : pI a_0 b_1 = some r) : aT Tryz.prog 64 [.sl (a_0.flatMap bA) a_0.length false, .sl (b_1.flatMap bA) b_1.length false] (.v (.bool r)) := by
 refine aT.of_body Tryz.func64 rfl ?_
 simp only [Tryz.ntmps64, List.length_cons, List.length_nil, Nat.reduceAdd, Nat.reduceSub, aQ]
 unfold pI at hm
 refine sr (N' := 64) rfl ?_
 refine pA ?_
 refine fs ?_
 refine AWp.seq' ?_
 refine sr (N' := 128) rfl ?_
 iterate 5 refine pA ?_
 refine fs ?_
 refine AWp.condM hm Z1 (fun _ hm => ?_) (fun _ hm => ?_)
 ·
  refine sr (N' := 192) rfl ?_
  refine pA ?_
  refine fs ?_
  refine AWp.ret ?_
  refine bB ?_
  cases hm
  exact bM (.inr rfl) Tryz.results64 (td Z1 (.v _))
 ·
  refine AWp.skip ?_
  refine aF ?_
  refine AWp.seq' ?_
  refine sr (N' := 192) rfl ?_
  refine pA ?_
  refine fs ?_
  refine AWp.block ?_
  refine AWp.loopM (fun m s => ∃ (a_0 : List cC) (b_1 : List cC) (i_5 : Int), s = (⟨26, (aK (aK (aK (fun _ => AV.any) 0 (.sl (a_0.flatMap bA) a_0.length false)) 1 (.sl (b_1.flatMap bA) b_1.length false)) 5 (.v (.int .i64 i_5))), ⟨bL, 64⟩⟩ : St) ∧ lG m a_0 b_1 i_5 = some r) bY ?_ ?_ ?_
  ·
   rintro s ⟨_, _, _, _, h⟩
   cases h
  ·
   refine ⟨_, ?_, a_0, b_1, 0, rfl, hm⟩
   exact aN id (wV (wD (cN.sl _ _ _) (wD (cN.sl _ _ _) aU))) cT
  ·
   rintro n1 s ⟨a_0, b_1, i_5, rfl, hm⟩
   replace hm : nC (lG n1) a_0 b_1 i_5 = some r := hm
   unfold nC at hm
   refine AWp.seq' ?_
   refine sr (N' := 128) rfl ?_
   iterate 4 refine pA ?_
   refine fs ?_
   refine AWp.condM hm Z1 (fun _ hm => ?_) (fun _ hm => ?_)
   ·
    refine AWp.skip ?_
    refine aF ?_
    refine AWp.seq' ?_
    refine AWp.block ?_
    refine sd mix (by kernel_rfl) (N' := 192) rfl ?_
    iterate 2 refine pA ?_
    obtain ⟨x2, h1, hm⟩ := bnd hm
    refine pu rfl (cP cN Zd Tryz.underlying27 uT Z1 rfl Z1 h1) ?_
    iterate 3 refine pA ?_
    obtain ⟨x4, h3, hm⟩ := bnd hm
    refine pu rfl (cP cN Zd Tryz.underlying27 uT Z1 rfl Z1 h3) ?_
    iterate 2 refine pA ?_
    refine fs ?_
    refine AWp.condM hm Z1 (fun _ hm => ?_) (fun _ hm => ?_)
    ·
     refine sr (N' := 256) rfl ?_
     refine pA ?_
     refine fs ?_
     refine AWp.ret ?_
     refine dB ?_
     refine bB ?_
     refine eD ?_
     refine dB ?_
     refine bB ?_
     cases hm
     exact bM (.inr rfl) Tryz.results64 (td Z1 (.v _))
    ·
     refine AWp.skip ?_
     refine cA ?_
     refine aF ?_
     refine AWp.reg 64 (N' := 256) rfl ?_
     iterate 3 refine pA ?_
     refine aE.fin ?_
     refine bU ?_
     refine ⟨_, ?_, a_0, b_1, (IntKind.i64.wrap (i_5 + 1)), rfl, hm⟩
     exact aN id (wV (wD (cN.sl _ _ _) (wD (cN.sl _ _ _) aU))) cT
   ·
    refine AWp.exit ?_
    refine cH ?_
    refine bW ?_
    refine bT ?_
    refine aF ?_
    refine sr (N' := 192) rfl ?_
    refine pA ?_
    refine fs ?_
    refine AWp.ret ?_
    cases hm
    exact bM (.inr rfl) Tryz.results64 (td Z1 (.v _))
def nY (rec1 : List aC → List aC → Int → Option (Bool)) (a_0 : List aC) (b_1 : List aC) (i_5 : Int) : Option (Bool) :=
 (bif (decide (i_5 < (a_0.length : Int))) then
  ((idx a_0 i_5).bind fun x2 =>
  ((idx b_1 i_5).bind fun x4 =>
  (bif (!((x2.U == x4.U) && ((x2.V == x4.V) && (x2.Tier == x4.Tier)))) then
   some false
  else
   rec1 a_0 b_1 (IntKind.i64.wrap (i_5 + 1)))))
 else
  some true)
def kV : Nat → List aC → List aC → Int → Option (Bool)
 | 0 => fun _ _ _ => none
 | n + 1 => nY (kV n)
def pN (a_0 : List aC) (b_1 : List aC) : Option (Bool) :=
 (bif ((a_0.length : Int) != (b_1.length : Int)) then
  some false
 else
  kV bY a_0 b_1 0)
theorem aKx {a_0 : List aC} {b_1 : List aC} {r : Bool} (hm : pN a_0 b_1 = some r) : aT Tryz.prog 65 [.sl (a_0.flatMap aL) a_0.length false, .sl (b_1.flatMap aL) b_1.length false] (.v (.bool r)) := by
 refine aT.of_body Tryz.func65 rfl ?_
 simp only [Tryz.ntmps65, List.length_cons, List.length_nil, Nat.reduceAdd, Nat.reduceSub, aQ]
 unfold pN at hm
 refine sr (N' := 64) rfl ?_
 refine pA ?_
 refine fs ?_
 refine AWp.seq' ?_
 refine sr (N' := 128) rfl ?_
 iterate 5 refine pA ?_
 refine fs ?_
 refine AWp.condM hm Z1 (fun _ hm => ?_) (fun _ hm => ?_)
 ·
  refine sr (N' := 192) rfl ?_
  refine pA ?_
  refine fs ?_
  refine AWp.ret ?_
  refine bB ?_
  cases hm
  exact bM (.inr rfl) Tryz.results65 (td Z1 (.v _))
 ·
  refine AWp.skip ?_
  refine aF ?_
  refine AWp.seq' ?_
  refine sr (N' := 192) rfl ?_
  refine pA ?_
  refine fs ?_
  refine AWp.block ?_
  refine AWp.loopM (fun m s => ∃ (a_0 : List aC) (b_1 : List aC) (i_5 : Int), s = (⟨26, (aK (aK (aK (fun _ => AV.any) 0 (.sl (a_0.flatMap aL) a_0.length false)) 1 (.sl (b_1.flatMap aL) b_1.length false)) 5 (.v (.int .i64 i_5))), ⟨bL, 64⟩⟩ : St) ∧ kV m a_0 b_1 i_5 = some r) bY ?_ ?_ ?_
  ·
   rintro s ⟨_, _, _, _, h⟩
   cases h
  ·
   refine ⟨_, ?_, a_0, b_1, 0, rfl, hm⟩
   exact aN id (wV (wD (aG.sl _ _ _) (wD (aG.sl _ _ _) aU))) cT
  ·
   rintro n1 s ⟨a_0, b_1, i_5, rfl, hm⟩
   replace hm : nY (kV n1) a_0 b_1 i_5 = some r := hm
   unfold nY at hm
   refine AWp.seq' ?_
   refine sr (N' := 128) rfl ?_
   iterate 4 refine pA ?_
   refine fs ?_
   refine AWp.condM hm Z1 (fun _ hm => ?_) (fun _ hm => ?_)
   ·
    refine AWp.skip ?_
    refine aF ?_
    refine AWp.seq' ?_
    refine AWp.block ?_
    refine sd mix (by kernel_rfl) (N' := 192) rfl ?_
    iterate 2 refine pA ?_
    obtain ⟨x2, h1, hm⟩ := bnd hm
    refine pu rfl (cP aG Zd Tryz.underlying28 dQ Z1 rfl Z1 h1) ?_
    iterate 3 refine pA ?_
    obtain ⟨x4, h3, hm⟩ := bnd hm
    refine pu rfl (cP aG Zd Tryz.underlying28 dQ Z1 rfl Z1 h3) ?_
    iterate 2 refine pA ?_
    refine fs ?_
    refine AWp.condM hm Z1 (fun _ hm => ?_) (fun _ hm => ?_)
    ·
     refine sr (N' := 256) rfl ?_
     refine pA ?_
     refine fs ?_
     refine AWp.ret ?_
     refine dB ?_
     refine bB ?_
     refine eD ?_
     refine dB ?_
     refine bB ?_
     cases hm
     exact bM (.inr rfl) Tryz.results65 (td Z1 (.v _))
    ·
     refine AWp.skip ?_
     refine cA ?_
     refine aF ?_
     refine AWp.reg 64 (N' := 256) rfl ?_
     iterate 3 refine pA ?_
     refine aE.fin ?_
     refine bU ?_
     refine ⟨_, ?_, a_0, b_1, (IntKind.i64.wrap (i_5 + 1)), rfl, hm⟩
     exact aN id (wV (wD (aG.sl _ _ _) (wD (aG.sl _ _ _) aU))) cT
   ·
    refine AWp.exit ?_
    refine cH ?_
    refine bW ?_
    refine bT ?_
    refine aF ?_
    refine sr (N' := 192) rfl ?_
    refine pA ?_
    refine fs ?_
    refine AWp.ret ?_
    cases hm
    exact bM (.inr rfl) Tryz.results65 (td Z1 (.v _))
def mL (a_0 : aJ) (b_1 : aJ) : Option (Bool) :=
 ((fA (((a_0.Config.N == b_1.Config.N) && ((a_0.Config.L == b_1.Config.L) && (a_0.Config.R == b_1.Config.R))) == true) false (pI a_0.Hashes b_1.Hashes)).bind fun r2 =>
 ((fA ((((a_0.Config.N == b_1.Config.N) && ((a_0.Config.L == b_1.Config.L) && (a_0.Config.R == b_1.Config.R))) && r2) == true) false (pN a_0.Edges b_1.Edges)).bind fun r4 =>
 some ((((a_0.Config.N == b_1.Config.N) && ((a_0.Config.L == b_1.Config.L) && (a_0.Config.R == b_1.Config.R))) && r2) && r4)))
theorem aD6 {a_0 : aJ} {b_1 : aJ} {r : Bool} (hm : mL a_0 b_1 = some r) : aT Tryz.prog 24 [.agg [.v (.int .i64 a_0.Config.N), .v (.int .i64 a_0.Config.L), .v (.int .i64 a_0.Config.R), .sl (a_0.Hashes.flatMap bA) a_0.Hashes.length false, .sl (a_0.Edges.flatMap aL) a_0.Edges.length false], .agg [.v (.int .i64 b_1.Config.N), .v (.int .i64 b_1.Config.L), .v (.int .i64 b_1.Config.R), .sl (b_1.Hashes.flatMap bA) b_1.Hashes.length false, .sl (b_1.Edges.flatMap aL) b_1.Edges.length false]] (.v (.bool r)) := by
 refine aT.of_body Tryz.func24 rfl ?_
 simp only [Tryz.ntmps24, List.length_cons, List.length_nil, Nat.reduceAdd, Nat.reduceSub, aQ]
 unfold mL at hm
 refine sr (N' := 64) rfl ?_
 refine hp (id := 0) rfl rfl (bO Z1 Z5) ?_
 refine hp (id := 1) rfl rfl (bO Z1 Z5) ?_
 refine pA ?_
 refine fs ?_
 refine sr (N' := 128) rfl ?_
 refine pA ?_
 refine pu rfl (aD Z1 Z3 Z4) ?_
 refine pA ?_
 refine pu rfl (aD Z1 Z3 Z4) ?_
 iterate 3 first | refine pA ?_ | refine pB ?_
 refine pg rfl rfl Z2 (fun hb => (aD (Zh hb) Z3 Z4)) ?_
 refine pB ?_
 refine pg rfl rfl Z2 (fun hb => (aD (Zh hb) Z3 Z4)) ?_
 obtain ⟨r2, h1, hm⟩ := bnd hm
 refine aE.callQG (r := .v (.bool r2)) Zd rfl Z2 Z1 bJi (fun hb H => (.cons (td (Zh hb) (cN.sl _ _ _)) (.cons (td (Zh hb) (cN.sl _ _ _)) .nil))) (fun hb => aKo (dA h1 hb)) ?_
 iterate 3 first | refine pA ?_ | refine pB ?_
 refine pg rfl rfl Z2 (fun hb => (aD (Zh hb) Z3 Z4)) ?_
 refine pB ?_
 refine pg rfl rfl Z2 (fun hb => (aD (Zh hb) Z3 Z4)) ?_
 obtain ⟨r4, h3, hm⟩ := bnd hm
 refine aE.callQG (r := .v (.bool r4)) Zd rfl Z2 Z1 bKg (fun hb H => (.cons (td (Zh hb) (aG.sl _ _ _)) (.cons (td (Zh hb) (aG.sl _ _ _)) .nil))) (fun hb => aKx (dA h3 hb)) ?_
 iterate 2 refine pA ?_
 refine fs ?_
 refine AWp.ret ?_
 cases hm
 exact bM (.inr rfl) Tryz.results24 (td Z1 (.v _))
def wJ (rec1 : List Int → List Int → Int → Option (Bool)) (a_0 : List Int) (b_1 : List Int) (i_5 : Int) : Option (Bool) :=
 (bif (decide (i_5 < (a_0.length : Int))) then
  ((idx a_0 i_5).bind fun x2 =>
  ((idx b_1 i_5).bind fun x4 =>
  (bif (x2 != x4) then
   some false
  else
   rec1 a_0 b_1 (IntKind.i64.wrap (i_5 + 1)))))
 else
  some true)
def rA : Nat → List Int → List Int → Int → Option (Bool)
 | 0 => fun _ _ _ => none
 | n + 1 => wJ (rA n)
def xZ (a_0 : List Int) (b_1 : List Int) : Option (Bool) :=
 (bif ((a_0.length : Int) != (b_1.length : Int)) then
  some false
 else
  rA bY a_0 b_1 0)
theorem aL5 {a_0 : List Int} {b_1 : List Int} {r : Bool} (hm : xZ a_0 b_1 = some r) : aT Tryz.prog 33 [.sl (a_0.flatMap (ci .u64)) a_0.length false, .sl (b_1.flatMap (ci .u64)) b_1.length false] (.v (.bool r)) := by
 refine aT.of_body Tryz.func33 rfl ?_
 simp only [Tryz.ntmps33, List.length_cons, List.length_nil, Nat.reduceAdd, Nat.reduceSub, aQ]
 unfold xZ at hm
 refine sr (N' := 64) rfl ?_
 refine pA ?_
 refine fs ?_
 refine AWp.seq' ?_
 refine sr (N' := 128) rfl ?_
 iterate 5 refine pA ?_
 refine fs ?_
 refine AWp.condM hm Z1 (fun _ hm => ?_) (fun _ hm => ?_)
 ·
  refine sr (N' := 192) rfl ?_
  refine pA ?_
  refine fs ?_
  refine AWp.ret ?_
  refine bB ?_
  cases hm
  exact bM (.inr rfl) Tryz.results33 (td Z1 (.v _))
 ·
  refine AWp.skip ?_
  refine aF ?_
  refine AWp.seq' ?_
  refine sr (N' := 192) rfl ?_
  refine pA ?_
  refine fs ?_
  refine AWp.block ?_
  refine AWp.loopM (fun m s => ∃ (a_0 : List Int) (b_1 : List Int) (i_5 : Int), s = (⟨26, (aK (aK (aK (fun _ => AV.any) 0 (.sl (a_0.flatMap (ci .u64)) a_0.length false)) 1 (.sl (b_1.flatMap (ci .u64)) b_1.length false)) 5 (.v (.int .i64 i_5))), ⟨bL, 64⟩⟩ : St) ∧ rA m a_0 b_1 i_5 = some r) bY ?_ ?_ ?_
  ·
   rintro s ⟨_, _, _, _, h⟩
   cases h
  ·
   refine ⟨_, ?_, a_0, b_1, 0, rfl, hm⟩
   exact aN id (wV (wD ((CFi .u64).sl _ _ _) (wD ((CFi .u64).sl _ _ _) aU))) cT
  ·
   rintro n1 s ⟨a_0, b_1, i_5, rfl, hm⟩
   replace hm : wJ (rA n1) a_0 b_1 i_5 = some r := hm
   unfold wJ at hm
   refine AWp.seq' ?_
   refine sr (N' := 128) rfl ?_
   iterate 4 refine pA ?_
   refine fs ?_
   refine AWp.condM hm Z1 (fun _ hm => ?_) (fun _ hm => ?_)
   ·
    refine AWp.skip ?_
    refine aF ?_
    refine AWp.seq' ?_
    refine AWp.block ?_
    refine sd mix (by kernel_rfl) (N' := 192) rfl ?_
    iterate 2 refine pA ?_
    obtain ⟨x2, h1, hm⟩ := bnd hm
    refine pu rfl (cP (CFi .u64) Zd Tryz.underlying24 nS Z1 rfl Z1 h1) ?_
    iterate 3 refine pA ?_
    obtain ⟨x4, h3, hm⟩ := bnd hm
    refine pu rfl (cP (CFi .u64) Zd Tryz.underlying24 nS Z1 rfl Z1 h3) ?_
    iterate 2 refine pA ?_
    refine fs ?_
    refine AWp.condM hm Z1 (fun _ hm => ?_) (fun _ hm => ?_)
    ·
     refine sr (N' := 256) rfl ?_
     refine pA ?_
     refine fs ?_
     refine AWp.ret ?_
     refine dB ?_
     refine bB ?_
     refine eD ?_
     refine dB ?_
     refine bB ?_
     cases hm
     exact bM (.inr rfl) Tryz.results33 (td Z1 (.v _))
    ·
     refine AWp.skip ?_
     refine cA ?_
     refine aF ?_
     refine AWp.reg 64 (N' := 256) rfl ?_
     iterate 3 refine pA ?_
     refine aE.fin ?_
     refine bU ?_
     refine ⟨_, ?_, a_0, b_1, (IntKind.i64.wrap (i_5 + 1)), rfl, hm⟩
     exact aN id (wV (wD ((CFi .u64).sl _ _ _) (wD ((CFi .u64).sl _ _ _) aU))) cT
   ·
    refine AWp.exit ?_
    refine cH ?_
    refine bW ?_
    refine bT ?_
    refine aF ?_
    refine sr (N' := 192) rfl ?_
    refine pA ?_
    refine fs ?_
    refine AWp.ret ?_
    cases hm
    exact bM (.inr rfl) Tryz.results33 (td Z1 (.v _))
def fH (l : List cC) : Option (List cC) := aI5 16 [] l
theorem aAm {r : List cC} (hm : some [] = some r) : dO Tryz.prog 69 [.v (.slice none 0 0)] 2 (r.flatMap bA) r.length := by
 refine dO.of_body Tryz.func69 rfl (cN.fmdat r) ?_
 simp only [Tryz.ntmps69, List.length_cons, List.length_nil, Nat.reduceAdd, Nat.reduceSub, aQ]
 refine sr (N' := 64) rfl ?_
 refine pA ?_
 refine fs ?_
 refine AWp.seq' ?_
 refine sr (N' := 128) rfl ?_
 refine pA ?_
 refine pu rfl (pP Z1 Z1 (aB3 Tryz.underlying27)) ?_
 refine fs ?_
 refine AWp.condT Z1 ?_
 refine sr (N' := 192) rfl ?_
 refine pA ?_
 refine fs ?_
 refine AWp.weaken (kA 2 900002 2 Z1 Z5) ?_
 refine AWp.ret ?_
 refine bB ?_
 cases hm
 exact aC8 (.inr rfl) Tryz.results69 Z1 Z3 Z6
theorem aAi {a : Addr} {c : Nat} {r : List cC} (hm : ((aI5 16 [] []).bind fun l2 =>
some l2) = some r) : dO Tryz.prog 69 [.v (.slice (some a) 0 c)] 2 (r.flatMap bA) r.length := by
 refine dO.of_body Tryz.func69 rfl (cN.fmdat r) ?_
 simp only [Tryz.ntmps69, List.length_cons, List.length_nil, Nat.reduceAdd, Nat.reduceSub, aQ]
 refine sr (N' := 64) rfl ?_
 refine pA ?_
 refine fs ?_
 refine AWp.seq' ?_
 refine sr (N' := 128) rfl ?_
 refine pA ?_
 refine pu rfl (pP Z1 Z1 (zB Tryz.underlying27)) ?_
 refine fs ?_
 refine AWp.condF Z1 ?_
 refine AWp.skip ?_
 refine aF ?_
 refine sr (N' := 192) rfl ?_
 refine hp (id := 128) rfl rfl (eE cN (l := []) Tryz.underlying27 uT aHt Z5 Zd Zd Zd (by simp only [go_sem, Nat.reduceBEq]; try rfl) (by kernel_rfl)) ?_
 refine pA ?_
 obtain ⟨l2, h1, hm⟩ := bnd hm
 refine hp (id := 130) rfl rfl (aP0 cN Tryz.underlying27 Tryz.underlying27 rfl aPn aPh aGc (by rw [aGc]; decide) aUr Zd Zd Z1 Z3 Z6 (aEq Z1) rfl Z5 h1) ?_
 refine pA ?_
 refine fs ?_
 refine AWp.ret ?_
 cases hm
 exact aC8 (.inr rfl) Tryz.results69 Z1 Z3 Z6
theorem aA5 {x0 : cC} {l0 : List cC} {r : List cC} (hm : ((aI5 16 [] (x0 :: l0)).bind fun l2 =>
some l2) = some r) : dO Tryz.prog 69 [.sl ((x0 :: l0).flatMap bA) (x0 :: l0).length false] 2 (r.flatMap bA) r.length := by
 refine dO.of_body Tryz.func69 rfl (cN.fmdat r) ?_
 simp only [Tryz.ntmps69, List.length_cons, List.length_nil, Nat.reduceAdd, Nat.reduceSub, aQ]
 refine sr (N' := 64) rfl ?_
 refine pA ?_
 refine fs ?_
 refine AWp.seq' ?_
 refine sr (N' := 128) rfl ?_
 refine pA ?_
 refine pu rfl (pP Z1 Z1 (yU Tryz.underlying27 (by simp))) ?_
 refine fs ?_
 refine AWp.condF Z1 ?_
 refine AWp.skip ?_
 refine aF ?_
 refine sr (N' := 192) rfl ?_
 refine hp (id := 128) rfl rfl (eE cN (l := []) Tryz.underlying27 uT aHt Z5 Zd Zd Zd (by simp only [go_sem, Nat.reduceBEq]; try rfl) (by kernel_rfl)) ?_
 refine pA ?_
 obtain ⟨l2, h1, hm⟩ := bnd hm
 refine hp (id := 130) rfl rfl (aP0 cN Tryz.underlying27 Tryz.underlying27 rfl aPn aPh aGc (by rw [aGc]; decide) aUr Zd Zd Z1 Z3 Z6 (aJx cN Z1 rfl) rfl Z5 h1) ?_
 refine pA ?_
 refine fs ?_
 refine AWp.ret ?_
 cases hm
 exact aC8 (.inr rfl) Tryz.results69 Z1 Z3 Z6
theorem tL {l r : List cC} (hm : fH l = some r) : dO Tryz.prog 69 [.sl (l.flatMap bA) l.length false] 2 (r.flatMap bA) r.length := by
 cases l with
 | nil =>
  have hr : r = [] := by unfold fH aI5 at hm; simpa using hm.symm
  subst hr
  exact dO.nil_arg (aAm (r := []) rfl) (fun a c => aAi (r := []) rfl)
 | cons x0 l0 =>
  refine aA5 ?_
  show (aI5 16 [] (x0 :: l0)).bind _ = _
  unfold fH at hm
  rw [hm]; rfl
theorem aC2 {l r : List cC} (hm : fH l = some r) : aT Tryz.prog 69 [.sl (l.flatMap bA) l.length false] (.sl (r.flatMap bA) r.length false) := aT.of_fresh cN (tL hm)
def lV (tier_0 : Int) : Option (Bool) :=
 some ((decide (0 ≤ tier_0)) && (decide (tier_0 ≤ 16)))
theorem zZ {tier_0 : Int} {r : Bool} (hm : lV tier_0 = some r) : aT Tryz.prog 120 [.v (.int .i64 tier_0)] (.v (.bool r)) := by
 refine aT.of_body Tryz.func120 rfl ?_
 simp only [Tryz.ntmps120, List.length_cons, List.length_nil, Nat.reduceAdd, Nat.reduceSub, aQ]
 unfold lV at hm
 refine sr (N' := 64) rfl ?_
 refine pA ?_
 refine fs ?_
 refine sr (N' := 128) rfl ?_
 iterate 7 first | refine pA ?_ | refine pB ?_
 refine fs ?_
 refine AWp.ret ?_
 cases hm
 exact bM (.inr rfl) Tryz.results120 (td Z1 (.v _))
def mD (a_0 : aC) (b_1 : aC) : Option (Bool) :=
 some ((decide (a_0.U < b_1.U)) || ((a_0.U == b_1.U) && (decide (a_0.V < b_1.V))))
theorem aA9 {a_0 : aC} {b_1 : aC} {r : Bool} (hm : mD a_0 b_1 = some r) : aT Tryz.prog 121 [.agg [.v (.int .i64 a_0.U), .v (.int .i64 a_0.V), .v (.int .i64 a_0.Tier)], .agg [.v (.int .i64 b_1.U), .v (.int .i64 b_1.V), .v (.int .i64 b_1.Tier)]] (.v (.bool r)) := by
 refine aT.of_body Tryz.func121 rfl ?_
 simp only [Tryz.ntmps121, List.length_cons, List.length_nil, Nat.reduceAdd, Nat.reduceSub, aQ]
 unfold mD at hm
 refine sr (N' := 64) rfl ?_
 refine hp (id := 0) rfl rfl (bO Z1 Z5) ?_
 refine hp (id := 1) rfl rfl (bO Z1 Z5) ?_
 refine pA ?_
 refine fs ?_
 refine sr (N' := 128) rfl ?_
 refine pA ?_
 refine pu rfl (aD Z1 Z3 Z4) ?_
 refine pA ?_
 refine pu rfl (aD Z1 Z3 Z4) ?_
 iterate 3 first | refine pA ?_ | refine pB ?_
 refine pg rfl rfl Z2 (fun hb => (aD (Zh hb) Z3 Z4)) ?_
 refine pB ?_
 refine pg rfl rfl Z2 (fun hb => (aD (Zh hb) Z3 Z4)) ?_
 iterate 3 refine pB ?_
 refine pg rfl rfl Z2 (fun hb => (aD (Zh hb) Z3 Z4)) ?_
 refine pB ?_
 refine pg rfl rfl Z2 (fun hb => (aD (Zh hb) Z3 Z4)) ?_
 iterate 4 first | refine pA ?_ | refine pB ?_
 refine fs ?_
 refine AWp.ret ?_
 cases hm
 exact bM (.inr rfl) Tryz.results121 (td Z1 (.v _))
def lU (rec1 : Int → List aC → List aC → Int → Int → Option (Bool)) (n_0 : Int) (l_1 : List aC) (t13 : List aC) (t14 : Int) (t15 : Int) : Option (Bool) :=
 (bif (decide (t15 < t14)) then
  ((idx t13 t15).bind fun x2 =>
  ((fA ((((decide (x2.U < 0)) || (decide (x2.V ≤ x2.U))) || (decide (n_0 ≤ x2.V))) == false) false (lV x2.Tier)).bind fun r4 =>
  (bif ((((decide (x2.U < 0)) || (decide (x2.V ≤ x2.U))) || (decide (n_0 ≤ x2.V))) || (!r4)) then
   some false
  else
   ((fA ((decide (0 < t15)) == true) (aC.mk 0 0 0) (idx l_1 (IntKind.i64.wrap (t15 - 1)))).bind fun x6 =>
   ((fA ((decide (0 < t15)) == true) false (mD x6 x2)).bind fun r8 =>
   (bif ((decide (0 < t15)) && (!r8)) then
    some false
   else
    rec1 n_0 l_1 t13 t14 (IntKind.i64.wrap (t15 + 1))))))))
 else
  some true)
def jN : Nat → Int → List aC → List aC → Int → Int → Option (Bool)
 | 0 => fun _ _ _ _ _ => none
 | n + 1 => lU (jN n)
def fC (n_0 : Int) (l_1 : List aC) : Option (Bool) :=
 (bif ((decide (n_0 < 0)) || (decide (1024 < n_0))) then
  some false
 else
  jN bY n_0 l_1 l_1 (l_1.length : Int) 0)
theorem iN {n_0 : Int} {l_1 : List aC} {r : Bool} (hm : fC n_0 l_1 = some r) : aT Tryz.prog 89 [.v (.int .i64 n_0), .sl (l_1.flatMap aL) l_1.length false] (.v (.bool r)) := by
 refine aT.of_body Tryz.func89 rfl ?_
 simp only [Tryz.ntmps89, List.length_cons, List.length_nil, Nat.reduceAdd, Nat.reduceSub, aQ]
 unfold fC at hm
 refine sr (N' := 64) rfl ?_
 refine pA ?_
 refine fs ?_
 refine AWp.seq' ?_
 refine sr (N' := 128) rfl ?_
 iterate 6 first | refine pA ?_ | refine pB ?_
 refine fs ?_
 refine AWp.condM hm Z1 (fun _ hm => ?_) (fun _ hm => ?_)
 ·
  refine sr (N' := 192) rfl ?_
  refine pA ?_
  refine fs ?_
  refine AWp.ret ?_
  refine bB ?_
  cases hm
  exact bM (.inr rfl) Tryz.results89 (td Z1 (.v _))
 ·
  refine AWp.skip ?_
  refine aF ?_
  refine AWp.seq' ?_
  refine sr (N' := 192) rfl ?_
  iterate 3 refine pA ?_
  refine fs ?_
  refine AWp.block ?_
  refine AWp.loopM (fun m s => ∃ (n_0 : Int) (l_1 : List aC) (t13 : List aC) (t14 : Int) (t15 : Int), s = (⟨55, (aK (aK (aK (aK (aK (fun _ => AV.any) 0 (.v (.int .i64 n_0))) 1 (.sl (l_1.flatMap aL) l_1.length false)) 13 (.sl (t13.flatMap aL) t13.length false)) 14 (.v (.int .i64 t14))) 15 (.v (.int .i64 t15))), ⟨bL, 64⟩⟩ : St) ∧ jN m n_0 l_1 t13 t14 t15 = some r) bY ?_ ?_ ?_
  ·
   rintro s ⟨_, _, _, _, _, _, h⟩
   cases h
  ·
   refine ⟨_, ?_, n_0, l_1, l_1, (l_1.length : Int), 0, rfl, hm⟩
   exact aN id (wV (wV (wD (aG.sl _ _ _) (wD (aG.sl _ _ _) (wV aU))))) cT
  ·
   rintro n1 s ⟨n_0, l_1, t13, t14, t15, rfl, hm⟩
   replace hm : lU (jN n1) n_0 l_1 t13 t14 t15 = some r := hm
   unfold lU at hm
   refine sr (N' := 128) rfl ?_
   refine pA ?_
   refine fs ?_
   refine AWp.seq' ?_
   refine AWp.condM hm Z1 (fun _ hm => ?_) (fun _ hm => ?_)
   ·
    refine AWp.skip ?_
    refine aF ?_
    refine AWp.seq' ?_
    refine AWp.block ?_
    refine sr (N' := 192) rfl ?_
    refine pA ?_
    obtain ⟨x2, h1, hm⟩ := bnd hm
    refine pu rfl (cP aG Zd Tryz.underlying28 dQ Z1 rfl Z1 h1) ?_
    refine pA ?_
    refine hp (id := 131) rfl rfl (aY jI Z5) ?_
    refine pA ?_
    refine aE.heap0 (id := 133) rfl (bG (ys := [.v (.int .i64 x2.U), .v (.int .i64 x2.V), .v (.int .i64 x2.Tier)]) dQ Z1 Z1 Z3 rfl (Nat.le_of_ble_eq_true rfl) Z9 rfl) ?_
    refine fs ?_
    refine AWp.seq' ?_
    refine sr (N' := 256) rfl ?_
    refine pA ?_
    refine pu rfl (aD Z1 Z3 Z4) ?_
    iterate 3 first | refine pA ?_ | refine pB ?_
    refine pg rfl rfl Z2 (fun hb => (aD (Zh hb) Z3 Z4)) ?_
    refine pB ?_
    refine pg rfl rfl Z2 (fun hb => (aD (Zh hb) Z3 Z4)) ?_
    iterate 4 first | refine pA ?_ | refine pB ?_
    refine pg rfl rfl Z2 (fun hb => (aD (Zh hb) Z3 Z4)) ?_
    iterate 5 first | refine pA ?_ | refine pB ?_
    refine pg rfl rfl Z2 (fun hb => (aD (Zh hb) Z3 Z4)) ?_
    obtain ⟨r4, h3, hm⟩ := bnd hm
    refine aE.callQG (r := .v (.bool r4)) Zd rfl Z2 Z1 aZ8 (fun hb H => (.cons (td (Zh hb) (.v _)) .nil)) (fun hb => zZ (dA h3 hb)) ?_
    iterate 2 first | refine pA ?_ | refine pB ?_
    refine fs ?_
    refine AWp.condM hm Z1 (fun _ hm => ?_) (fun _ hm => ?_)
    ·
     refine sr (N' := 320) rfl ?_
     refine pA ?_
     refine fs ?_
     refine AWp.ret ?_
     refine bB ?_
     refine dB ?_
     refine bB ?_
     refine eD ?_
     refine dB ?_
     refine bB ?_
     cases hm
     exact bM (.inr rfl) Tryz.results89 (td Z1 (.v _))
    ·
     refine AWp.skip ?_
     refine aF ?_
     refine sd mix (by kernel_rfl) (N' := 320) rfl ?_
     iterate 6 first | refine pA ?_ | refine pB ?_
     obtain ⟨x6, h5, hm⟩ := bnd hm
     refine pg rfl rfl Z2 (fun hb => (cP aG Zd Tryz.underlying28 dQ (Zh hb) rfl (Zh hb) (dA h5 hb))) ?_
     refine pB ?_
     refine pg rfl rfl Z2 (fun hb => (aD (Zh hb) Z3 Z2)) ?_
     obtain ⟨r8, h7, hm⟩ := bnd hm
     refine aE.callQG (r := .v (.bool r8)) Zd rfl Z2 Z1 aVn (fun hb H => (.cons (td (Zh hb) (.agg _ (aG.dat _))) (.cons (td (Zh hb) (.agg _ (aG.dat _))) .nil))) (fun hb => aA9 (dA h7 hb)) ?_
     iterate 2 first | refine pA ?_ | refine pB ?_
     refine fs ?_
     refine AWp.condM hm Z1 (fun _ hm => ?_) (fun _ hm => ?_)
     ·
      refine sr (N' := 384) rfl ?_
      refine pA ?_
      refine fs ?_
      refine AWp.ret ?_
      refine dB ?_
      refine bB ?_
      refine eD ?_
      refine dB ?_
      refine bB ?_
      cases hm
      exact bM (.inr rfl) Tryz.results89 (td Z1 (.v _))
     ·
      refine AWp.skip ?_
      refine cA ?_
      refine aF ?_
      refine AWp.reg 64 (N' := 384) rfl ?_
      iterate 2 refine pA ?_
      refine aE.fin ?_
      refine bU ?_
      refine ⟨_, ?_, n_0, l_1, t13, t14, (IntKind.i64.wrap (t15 + 1)), rfl, hm⟩
      exact aN id (wV (wV (wD (aG.sl _ _ _) (wD (aG.sl _ _ _) (wV aU))))) cT
   ·
    refine AWp.exit ?_
    refine cH ?_
    refine bW ?_
    refine bT ?_
    refine aF ?_
    refine sr (N' := 192) rfl ?_
    refine pA ?_
    refine fs ?_
    refine AWp.ret ?_
    cases hm
    exact bM (.inr rfl) Tryz.results89 (td Z1 (.v _))
def kG (rec1 : Int → List aC → List aC → Int → Int → Option ((List aC))) (tier_2 : Int) (forest_7 : List aC) (t14 : List aC) (t15 : Int) (t16 : Int) : Option ((List aC)) :=
 rec1 tier_2 forest_7 t14 t15 (IntKind.i64.wrap (t16 + 1))
def kF (rec1 : Int → List aC → List aC → Int → Int → Option ((List aC))) (tier_2 : Int) (forest_7 : List aC) (t14 : List aC) (t15 : Int) (t16 : Int) : Option ((List aC)) :=
 (bif (decide (t16 < t15)) then
  ((idx t14 t16).bind fun x4 =>
  (bif ((decide (1 ≤ x4.Tier)) && (decide (x4.Tier ≤ tier_2))) then
   ((app forest_7 [x4]).bind fun l6 =>
   kG rec1 tier_2 l6 t14 t15 t16)
  else
   kG rec1 tier_2 forest_7 t14 t15 t16))
 else
  some forest_7)
def gJ : Nat → Int → List aC → List aC → Int → Int → Option ((List aC))
 | 0 => fun _ _ _ _ _ => none
 | n + 1 => kF (gJ n)
def fQ (n_0 : Int) (l_1 : List aC) (tier_2 : Int) : Option ((List aC)) :=
 ((fC n_0 l_1).bind fun r2 =>
 (bif (!r2) then
  some []
 else
  gJ bY tier_2 [] l_1 (l_1.length : Int) 0))
theorem lO {n_0 : Int} {l_1 : List aC} {tier_2 : Int} {r : (List aC)} (hm : fQ n_0 l_1 tier_2 = some r) : aT Tryz.prog 91 [.v (.int .i64 n_0), .sl (l_1.flatMap aL) l_1.length false, .v (.int .i64 tier_2)] (.sl (r.flatMap aL) r.length false) := by
 refine aT.of_body Tryz.func91 rfl ?_
 simp only [Tryz.ntmps91, List.length_cons, List.length_nil, Nat.reduceAdd, Nat.reduceSub, aQ]
 unfold fQ at hm
 refine sr (N' := 64) rfl ?_
 refine pA ?_
 refine fs ?_
 refine AWp.seq' ?_
 refine sr (N' := 128) rfl ?_
 iterate 2 refine pA ?_
 obtain ⟨r2, h1, hm⟩ := bnd hm
 refine aE.callQ (r := .v (.bool r2)) Zd Z1 aOg (fun H => (cV (cD (aG.sl _ _ _) .nil))) (iN h1) ?_
 refine pA ?_
 refine fs ?_
 refine AWp.condM hm Z1 (fun _ hm => ?_) (fun _ hm => ?_)
 ·
  refine sr (N' := 192) rfl ?_
  refine pA ?_
  refine fs ?_
  refine AWp.ret ?_
  refine bB ?_
  cases hm
  exact bM (.inr rfl) Tryz.results91 (tdn Z1)
 ·
  refine AWp.skip ?_
  refine aF ?_
  refine sr (N' := 192) rfl ?_
  refine pA ?_
  refine fs ?_
  refine AWp.seq' ?_
  refine sr (N' := 256) rfl ?_
  iterate 3 refine pA ?_
  refine fs ?_
  refine AWp.block ?_
  refine AWp.loopM (fun m s => ∃ (tier_2 : Int) (forest_7 : List aC) (t14 : List aC) (t15 : Int) (t16 : Int), s = (⟨35, (aK (aK (aK (aK (aK (fun _ => AV.any) 2 (.v (.int .i64 tier_2))) 7 (.own 1 0 forest_7.length)) 14 (.sl (t14.flatMap aL) t14.length false)) 15 (.v (.int .i64 t15))) 16 (.v (.int .i64 t16))), ⟨(upd bL 1 (.cells 3 (forest_7.flatMap aL) 0)), 64⟩⟩ : St) ∧ gJ m tier_2 forest_7 t14 t15 t16 = some r) bY ?_ ?_ ?_
  ·
   rintro s ⟨_, _, _, _, _, _, h⟩
   cases h
  ·
   refine ⟨_, ?_, tier_2, [], l_1, (l_1.length : Int), 0, rfl, hm⟩
   refine St.Le.trans (kA 7 900007 3 Z1 Z5) ?_
   exact aN (fun j => bif j == 1 then 900007 else 0) (wV (wV (wD (aG.sl _ _ _) (wO (wV aU))))) (hW (eU aG aR))
  ·
   rintro n1 s ⟨tier_2, forest_7, t14, t15, t16, rfl, hm⟩
   replace hm : kF (gJ n1) tier_2 forest_7 t14 t15 t16 = some r := hm
   unfold kF at hm
   refine sr (N' := 128) rfl ?_
   refine pA ?_
   refine fs ?_
   refine AWp.seq' ?_
   refine AWp.condM hm Z1 (fun _ hm => ?_) (fun _ hm => ?_)
   ·
    refine AWp.skip ?_
    refine aF ?_
    refine AWp.seqJ (fun s => ∃ (tier_2 : Int) (forest_7 : List aC) (t14 : List aC) (t15 : Int) (t16 : Int), s = (⟨35, (aK (aK (aK (aK (aK (fun _ => AV.any) 2 (.v (.int .i64 tier_2))) 7 (.own 1 0 forest_7.length)) 14 (.sl (t14.flatMap aL) t14.length false)) 15 (.v (.int .i64 t15))) 16 (.v (.int .i64 t16))), ⟨(upd bL 1 (.cells 3 (forest_7.flatMap aL) 0)), 64⟩⟩ : St) ∧ kG (gJ n1) tier_2 forest_7 t14 t15 t16 = some r) ?_ ?_
    ·
     refine AWp.block ?_
     refine sr (N' := 192) rfl ?_
     obtain ⟨x4, h3, hm⟩ := bnd hm
     refine pu rfl (cP aG Zd Tryz.underlying28 dQ Z1 rfl Z1 h3) ?_
     refine pA ?_
     refine hp (id := 130) rfl rfl (aY jI Z5) ?_
     refine aE.heap0 (id := 131) rfl (bG (ys := [.v (.int .i64 x4.U), .v (.int .i64 x4.V), .v (.int .i64 x4.Tier)]) dQ Z1 Z1 Z3 rfl (Nat.le_of_ble_eq_true rfl) Z9 rfl) ?_
     refine fs ?_
     refine sr (N' := 256) rfl ?_
     refine pA ?_
     refine pu rfl (aD Z1 Z3 Z4) ?_
     iterate 3 first | refine pA ?_ | refine pB ?_
     refine pg rfl rfl Z2 (fun hb => (aD (Zh hb) Z3 Z4)) ?_
     iterate 3 first | refine pA ?_ | refine pB ?_
     refine fs ?_
     refine AWp.condM hm Z1 (fun _ hm => ?_) (fun _ hm => ?_)
     ·
      refine AWp.reg 64 (N' := 320) rfl ?_
      refine pA ?_
      refine pu rfl (aD Z1 Z3 Z2) ?_
      refine hp (id := 258) rfl rfl (eE aG (l := [x4]) Tryz.underlying28 dQ jI Z5 Zd Zd Zd (by simp only [go_sem, Nat.reduceBEq]; try rfl) (by kernel_rfl)) ?_
      obtain ⟨l6, h5, hm⟩ := bnd hm
      refine hp (id := 259) rfl rfl (iI aG Tryz.underlying28 Tryz.underlying28 rfl aFo aFm (by rw [sT]; decide) (by rw [sT]; decide) aFw Zd Zd Z1 Z3 Z6 (lM aG Z1 Z3 Z6) rfl Z5 h5) ?_
      refine pA ?_
      refine aE.fin ?_
      refine cA ?_
      refine dY ?_
      refine ⟨_, ?_, tier_2, l6, t14, t15, t16, rfl, hm⟩
      exact aN (fun j => bif j == 1 then 259 else 0) (wV (wV (wD (aG.sl _ _ _) (wO (wV aU))))) (hW (eU aG aR))
     ·
      refine AWp.skip ?_
      refine cA ?_
      refine dY ?_
      refine ⟨_, ?_, tier_2, forest_7, t14, t15, t16, rfl, hm⟩
      exact aN (fun j => bif j == 1 then 1 else 0) (wV (wV (wD (aG.sl _ _ _) (wO (wV aU))))) (hW (eU aG aR))
    ·
     rintro s ⟨tier_2, forest_7, t14, t15, t16, rfl, hm⟩
     unfold kG at hm
     refine AWp.reg 64 (N' := 128) rfl ?_
     iterate 2 refine pA ?_
     refine aE.fin ?_
     refine bU ?_
     refine ⟨_, ?_, tier_2, forest_7, t14, t15, (IntKind.i64.wrap (t16 + 1)), rfl, hm⟩
     exact aN (fun j => bif j == 1 then 1 else 0) (wV (wV (wD (aG.sl _ _ _) (wO (wV aU))))) (hW (eU aG aR))
   ·
    refine AWp.exit ?_
    refine cH ?_
    refine bW ?_
    refine bT ?_
    refine aF ?_
    refine sr (N' := 192) rfl ?_
    iterate 2 refine pA ?_
    refine fs ?_
    refine AWp.ret ?_
    cases hm
    exact bM (.inr rfl) Tryz.results91 (tdo aG Z1 Z3 Z6)
def nU (rec1 : List Int → List Int → Int → Int → Option (Bool)) (p_0 : List Int) (t5 : List Int) (t6 : Int) (t7 : Int) : Option (Bool) :=
 (bif (decide (t7 < t6)) then
  ((idx t5 t7).bind fun x2 =>
  ((fU (p_0.length : Int) x2).bind fun r4 =>
  ((fA (((!r4) || (decide (t7 < x2))) == false) 0 (idx p_0 x2)).bind fun x6 =>
  (bif (((!r4) || (decide (t7 < x2))) || (x6 != x2)) then
   some false
  else
   rec1 p_0 t5 t6 (IntKind.i64.wrap (t7 + 1))))))
 else
  some true)
def lJ : Nat → List Int → List Int → Int → Int → Option (Bool)
 | 0 => fun _ _ _ _ => none
 | n + 1 => nU (lJ n)
def mO (p_0 : List Int) : Option (Bool) :=
 lJ bY p_0 p_0 (p_0.length : Int) 0
theorem aDd {p_0 : List Int} {r : Bool} (hm : mO p_0 = some r) : aT Tryz.prog 102 [.sl (p_0.flatMap (ci .i64)) p_0.length false] (.v (.bool r)) := by
 refine aT.of_body Tryz.func102 rfl ?_
 simp only [Tryz.ntmps102, List.length_cons, List.length_nil, Nat.reduceAdd, Nat.reduceSub, aQ]
 unfold mO at hm
 refine sr (N' := 64) rfl ?_
 refine pA ?_
 refine fs ?_
 refine AWp.seq' ?_
 refine sr (N' := 128) rfl ?_
 iterate 3 refine pA ?_
 refine fs ?_
 refine AWp.block ?_
 refine AWp.loopM (fun m s => ∃ (p_0 : List Int) (t5 : List Int) (t6 : Int) (t7 : Int), s = (⟨31, (aK (aK (aK (aK (fun _ => AV.any) 0 (.sl (p_0.flatMap (ci .i64)) p_0.length false)) 5 (.sl (t5.flatMap (ci .i64)) t5.length false)) 6 (.v (.int .i64 t6))) 7 (.v (.int .i64 t7))), ⟨bL, 64⟩⟩ : St) ∧ lJ m p_0 t5 t6 t7 = some r) bY ?_ ?_ ?_
 ·
  rintro s ⟨_, _, _, _, _, h⟩
  cases h
 ·
  refine ⟨_, ?_, p_0, p_0, (p_0.length : Int), 0, rfl, hm⟩
  exact aN id (wV (wV (wD ((CFi .i64).sl _ _ _) (wD ((CFi .i64).sl _ _ _) aU)))) cT
 ·
  rintro n1 s ⟨p_0, t5, t6, t7, rfl, hm⟩
  replace hm : nU (lJ n1) p_0 t5 t6 t7 = some r := hm
  unfold nU at hm
  refine sr (N' := 128) rfl ?_
  refine pA ?_
  refine fs ?_
  refine AWp.seq' ?_
  refine AWp.condM hm Z1 (fun _ hm => ?_) (fun _ hm => ?_)
  ·
   refine AWp.skip ?_
   refine aF ?_
   refine AWp.seq' ?_
   refine AWp.block ?_
   refine sr (N' := 192) rfl ?_
   refine pA ?_
   obtain ⟨x2, h1, hm⟩ := bnd hm
   refine pu rfl (cP (CFi .i64) Zd Tryz.underlying112 sz3 Z1 rfl Z1 h1) ?_
   iterate 3 refine pA ?_
   refine fs ?_
   refine sr (N' := 256) rfl ?_
   iterate 3 refine pA ?_
   obtain ⟨r4, h3, hm⟩ := bnd hm
   refine aE.callQ (r := .v (.bool r4)) Zd Z1 aPf (fun H => (cV (cV .nil))) (tG h3) ?_
   iterate 9 first | refine pA ?_ | refine pB ?_
   obtain ⟨x6, h5, hm⟩ := bnd hm
   refine pg rfl rfl Z2 (fun hb => (cP (CFi .i64) Zd Tryz.underlying112 sz3 (Zh hb) rfl (Zh hb) (dA h5 hb))) ?_
   iterate 4 first | refine pA ?_ | refine pB ?_
   refine fs ?_
   refine AWp.condM hm Z1 (fun _ hm => ?_) (fun _ hm => ?_)
   ·
    refine sr (N' := 320) rfl ?_
    refine pA ?_
    refine fs ?_
    refine AWp.ret ?_
    refine dB ?_
    refine bB ?_
    refine eD ?_
    refine dB ?_
    refine bB ?_
    cases hm
    exact bM (.inr rfl) Tryz.results102 (td Z1 (.v _))
   ·
    refine AWp.skip ?_
    refine cA ?_
    refine aF ?_
    refine AWp.reg 64 (N' := 320) rfl ?_
    iterate 2 refine pA ?_
    refine aE.fin ?_
    refine bU ?_
    refine ⟨_, ?_, p_0, t5, t6, (IntKind.i64.wrap (t7 + 1)), rfl, hm⟩
    exact aN id (wV (wV (wD ((CFi .i64).sl _ _ _) (wD ((CFi .i64).sl _ _ _) aU)))) cT
  ·
   refine AWp.exit ?_
   refine cH ?_
   refine bW ?_
   refine bT ?_
   refine aF ?_
   refine sr (N' := 192) rfl ?_
   refine pA ?_
   refine fs ?_
   refine AWp.ret ?_
   cases hm
   exact bM (.inr rfl) Tryz.results102 (td Z1 (.v _))
def pJ (rec1 : Int → List Int → Int → Int → Option (Int)) (many_3 : Int) (t9 : List Int) (t10 : Int) (t11 : Int) : Option (Int) :=
 rec1 many_3 t9 t10 (IntKind.i64.wrap (t11 + 1))
def pD (rec1 : Int → List Int → Int → Int → Option (Int)) (many_3 : Int) (t9 : List Int) (t10 : Int) (t11 : Int) : Option (Int) :=
 (bif (decide (t11 < t10)) then
  ((idx t9 t11).bind fun x4 =>
  (bif (t11 == x4) then
   pJ rec1 (IntKind.i64.wrap (many_3 + 1)) t9 t10 t11
  else
   pJ rec1 many_3 t9 t10 t11))
 else
  some many_3)
def kJ : Nat → Int → List Int → Int → Int → Option (Int)
 | 0 => fun _ _ _ _ => none
 | n + 1 => pD (kJ n)
def rU (p_0 : List Int) : Option (Int) :=
 ((mO p_0).bind fun r2 =>
 (bif (!r2) then
  some 0
 else
  kJ bY 0 p_0 (p_0.length : Int) 0))
theorem aNu {p_0 : List Int} {r : Int} (hm : rU p_0 = some r) : aT Tryz.prog 122 [.sl (p_0.flatMap (ci .i64)) p_0.length false] (.v (.int .i64 r)) := by
 refine aT.of_body Tryz.func122 rfl ?_
 simp only [Tryz.ntmps122, List.length_cons, List.length_nil, Nat.reduceAdd, Nat.reduceSub, aQ]
 unfold rU at hm
 refine sr (N' := 64) rfl ?_
 refine pA ?_
 refine fs ?_
 refine AWp.seq' ?_
 refine sr (N' := 128) rfl ?_
 refine pA ?_
 obtain ⟨r2, h1, hm⟩ := bnd hm
 refine aE.callQ (r := .v (.bool r2)) Zd Z1 aZ1 (fun H => (cD ((CFi .i64).sl _ _ _) .nil)) (aDd h1) ?_
 refine pA ?_
 refine fs ?_
 refine AWp.condM hm Z1 (fun _ hm => ?_) (fun _ hm => ?_)
 ·
  refine sr (N' := 192) rfl ?_
  refine pA ?_
  refine fs ?_
  refine AWp.ret ?_
  refine bB ?_
  cases hm
  exact bM (.inr rfl) Tryz.results122 (td Z1 (.v _))
 ·
  refine AWp.skip ?_
  refine aF ?_
  refine sr (N' := 192) rfl ?_
  refine pA ?_
  refine fs ?_
  refine AWp.seq' ?_
  refine sr (N' := 256) rfl ?_
  iterate 3 refine pA ?_
  refine fs ?_
  refine AWp.block ?_
  refine AWp.loopM (fun m s => ∃ (many_3 : Int) (t9 : List Int) (t10 : Int) (t11 : Int), s = (⟨23, (aK (aK (aK (aK (fun _ => AV.any) 3 (.v (.int .i64 many_3))) 9 (.sl (t9.flatMap (ci .i64)) t9.length false)) 10 (.v (.int .i64 t10))) 11 (.v (.int .i64 t11))), ⟨bL, 64⟩⟩ : St) ∧ kJ m many_3 t9 t10 t11 = some r) bY ?_ ?_ ?_
  ·
   rintro s ⟨_, _, _, _, _, h⟩
   cases h
  ·
   refine ⟨_, ?_, 0, p_0, (p_0.length : Int), 0, rfl, hm⟩
   exact aN id (wV (wV (wD ((CFi .i64).sl _ _ _) (wV aU)))) cT
  ·
   rintro n1 s ⟨many_3, t9, t10, t11, rfl, hm⟩
   replace hm : pD (kJ n1) many_3 t9 t10 t11 = some r := hm
   unfold pD at hm
   refine sr (N' := 128) rfl ?_
   refine pA ?_
   refine fs ?_
   refine AWp.seq' ?_
   refine AWp.condM hm Z1 (fun _ hm => ?_) (fun _ hm => ?_)
   ·
    refine AWp.skip ?_
    refine aF ?_
    refine AWp.seqJ (fun s => ∃ (many_3 : Int) (t9 : List Int) (t10 : Int) (t11 : Int), s = (⟨23, (aK (aK (aK (aK (fun _ => AV.any) 3 (.v (.int .i64 many_3))) 9 (.sl (t9.flatMap (ci .i64)) t9.length false)) 10 (.v (.int .i64 t10))) 11 (.v (.int .i64 t11))), ⟨bL, 64⟩⟩ : St) ∧ pJ (kJ n1) many_3 t9 t10 t11 = some r) ?_ ?_
    ·
     refine AWp.block ?_
     refine sr (N' := 192) rfl ?_
     refine pA ?_
     obtain ⟨x4, h3, hm⟩ := bnd hm
     refine pu rfl (cP (CFi .i64) Zd Tryz.underlying112 sz3 Z1 rfl Z1 h3) ?_
     iterate 3 refine pA ?_
     refine fs ?_
     refine sr (N' := 256) rfl ?_
     iterate 3 refine pA ?_
     refine fs ?_
     refine AWp.condM hm Z1 (fun _ hm => ?_) (fun _ hm => ?_)
     ·
      refine AWp.reg 64 (N' := 320) rfl ?_
      iterate 3 refine pA ?_
      refine aE.fin ?_
      refine cA ?_
      refine dY ?_
      refine ⟨_, ?_, (IntKind.i64.wrap (many_3 + 1)), t9, t10, t11, rfl, hm⟩
      exact aN id (wV (wV (wD ((CFi .i64).sl _ _ _) (wV aU)))) cT
     ·
      refine AWp.skip ?_
      refine cA ?_
      refine dY ?_
      refine ⟨_, ?_, many_3, t9, t10, t11, rfl, hm⟩
      exact aN id (wV (wV (wD ((CFi .i64).sl _ _ _) (wV aU)))) cT
    ·
     rintro s ⟨many_3, t9, t10, t11, rfl, hm⟩
     unfold pJ at hm
     refine AWp.reg 64 (N' := 128) rfl ?_
     iterate 2 refine pA ?_
     refine aE.fin ?_
     refine bU ?_
     refine ⟨_, ?_, many_3, t9, t10, (IntKind.i64.wrap (t11 + 1)), rfl, hm⟩
     exact aN id (wV (wV (wD ((CFi .i64).sl _ _ _) (wV aU)))) cT
   ·
    refine AWp.exit ?_
    refine cH ?_
    refine bW ?_
    refine bT ?_
    refine aF ?_
    refine sr (N' := 192) rfl ?_
    iterate 2 refine pA ?_
    refine fs ?_
    refine AWp.ret ?_
    cases hm
    exact bM (.inr rfl) Tryz.results122 (td Z1 (.v _))
def iP (n_0 : Int) (l_1 : List aC) : Option (Bool) :=
 ((nT n_0 l_1).bind fun ⟨r2, r3⟩ =>
 ((fA ((r3 == 0) == true) 0 (rU r2)).bind fun r5 =>
 some ((r3 == 0) && (r5 == (IntKind.i64.wrap (n_0 - (l_1.length : Int)))))))
theorem vE {n_0 : Int} {l_1 : List aC} {r : Bool} (hm : iP n_0 l_1 = some r) : aT Tryz.prog 90 [.v (.int .i64 n_0), .sl (l_1.flatMap aL) l_1.length false] (.v (.bool r)) := by
 refine aT.of_body Tryz.func90 rfl ?_
 simp only [Tryz.ntmps90, List.length_cons, List.length_nil, Nat.reduceAdd, Nat.reduceSub, aQ]
 unfold iP at hm
 refine sr (N' := 64) rfl ?_
 refine pA ?_
 refine fs ?_
 refine sr (N' := 128) rfl ?_
 iterate 2 refine pA ?_
 obtain ⟨⟨r2, r3⟩, h1, hm⟩ := bnd hm
 refine aE.callQ (r := .tup [.sl (r2.flatMap (ci .i64)) r2.length false, .v (.int .i64 r3)]) Zd Z1 aXr (fun H => (cV (cD (aG.sl _ _ _) .nil))) (aBd h1) ?_
 iterate 5 refine pA ?_
 refine fs ?_
 refine sr (N' := 192) rfl ?_
 iterate 4 first | refine pA ?_ | refine pB ?_
 obtain ⟨r5, h4, hm⟩ := bnd hm
 refine aE.callQG (r := .v (.int .i64 r5)) Zd rfl Z2 Z1 bD7 (fun hb H => (.cons (td (Zh hb) ((CFi .i64).sl _ _ _)) .nil)) (fun hb => aNu (dA h4 hb)) ?_
 iterate 7 first | refine pA ?_ | refine pB ?_
 refine fs ?_
 refine AWp.ret ?_
 cases hm
 exact bM (.inr rfl) Tryz.results90 (td Z1 (.v _))
def kN (rec2 : aJ → aZ → List aC → Int → Int → Option (Bool)) (g_1 : aJ) (c_3 : aZ) (t70 : List aC) (t71 : Int) (t72 : Int) : Option (Bool) :=
 (bif (decide (t72 < t71)) then
  ((idx t70 t72).bind fun x6 =>
  (bif (decide (c_3.L < x6.Tier)) then
   some false
  else
   rec2 g_1 c_3 t70 t71 (IntKind.i64.wrap (t72 + 1))))
 else
  ((fQ c_3.N g_1.Edges c_3.L).bind fun r8 =>
  ((iP c_3.N r8).bind fun r10 =>
  some r10)))
def iG : Nat → aJ → aZ → List aC → Int → Int → Option (Bool)
 | 0 => fun _ _ _ _ _ => none
 | n + 1 => kN (iG n)
def kL (rec1 : aJ → aZ → List cC → Int → Int → Option (Bool)) (g_1 : aJ) (c_3 : aZ) (t48 : List cC) (t49 : Int) (t50 : Int) : Option (Bool) :=
 (bif (decide (t50 < t49)) then
  ((idx t48 t50).bind fun x2 =>
  (bif ((decide (2305843009213693951 ≤ x2.A)) || (decide (2305843009213693951 ≤ x2.B))) then
   some false
  else
   rec1 g_1 c_3 t48 t49 (IntKind.i64.wrap (t50 + 1))))
 else
  ((fC c_3.N g_1.Edges).bind fun r4 =>
  (bif (!r4) then
   some false
  else
   iG bY g_1 c_3 g_1.Edges (g_1.Edges.length : Int) 0)))
def iJ : Nat → aJ → aZ → List cC → Int → Int → Option (Bool)
 | 0 => fun _ _ _ _ _ => none
 | n + 1 => kL (iJ n)
def dU (g_0 : aJ) : Option (Bool) :=
 (bif ((((((decide (g_0.Config.N < 1)) || (decide (1024 < g_0.Config.N))) || (decide (g_0.Config.L < 1))) || (decide (16 < g_0.Config.L))) || (decide (g_0.Config.R < 1))) || (decide (8 < g_0.Config.R))) then
  some false
 else
  (bif ((g_0.Hashes.length : Int) != (IntKind.i64.wrap (g_0.Config.L * g_0.Config.R))) then
   some false
  else
   iJ bY g_0 g_0.Config g_0.Hashes (g_0.Hashes.length : Int) 0))
theorem gE {g_0 : aJ} {r : Bool} (hm : dU g_0 = some r) : aT Tryz.prog 49 [.agg [.v (.int .i64 g_0.Config.N), .v (.int .i64 g_0.Config.L), .v (.int .i64 g_0.Config.R), .sl (g_0.Hashes.flatMap bA) g_0.Hashes.length false, .sl (g_0.Edges.flatMap aL) g_0.Edges.length false]] (.v (.bool r)) := by
 refine aT.of_body Tryz.func49 rfl ?_
 simp only [Tryz.ntmps49, List.length_cons, List.length_nil, Nat.reduceAdd, Nat.reduceSub, aQ]
 unfold dU at hm
 refine sr (N' := 64) rfl ?_
 refine hp (id := 0) rfl rfl (bO Z1 Z5) ?_
 refine pA ?_
 refine fs ?_
 refine sr (N' := 128) rfl ?_
 refine pA ?_
 refine pu rfl (aD Z1 Z3 Z4) ?_
 refine hp (id := 66) rfl rfl (aY bEp Z5) ?_
 refine aE.heap0 (id := 67) rfl (bG (ys := [.v (.int .i64 g_0.Config.N), .v (.int .i64 g_0.Config.L), .v (.int .i64 g_0.Config.R)]) bAi Z1 Z1 Z3 rfl (Nat.le_of_ble_eq_true rfl) Z9 rfl) ?_
 refine fs ?_
 refine AWp.seq' ?_
 refine sr (N' := 192) rfl ?_
 refine pA ?_
 refine pu rfl (aD Z1 Z3 Z4) ?_
 iterate 3 first | refine pA ?_ | refine pB ?_
 refine pg rfl rfl Z2 (fun hb => (aD (Zh hb) Z3 Z4)) ?_
 iterate 4 first | refine pA ?_ | refine pB ?_
 refine pg rfl rfl Z2 (fun hb => (aD (Zh hb) Z3 Z4)) ?_
 iterate 4 first | refine pA ?_ | refine pB ?_
 refine pg rfl rfl Z2 (fun hb => (aD (Zh hb) Z3 Z4)) ?_
 iterate 4 first | refine pA ?_ | refine pB ?_
 refine pg rfl rfl Z2 (fun hb => (aD (Zh hb) Z3 Z4)) ?_
 iterate 4 first | refine pA ?_ | refine pB ?_
 refine pg rfl rfl Z2 (fun hb => (aD (Zh hb) Z3 Z4)) ?_
 iterate 2 first | refine pA ?_ | refine pB ?_
 refine fs ?_
 refine AWp.condM hm Z1 (fun _ hm => ?_) (fun _ hm => ?_)
 ·
  refine sr (N' := 256) rfl ?_
  refine pA ?_
  refine fs ?_
  refine AWp.ret ?_
  refine bB ?_
  cases hm
  exact bM (.inr rfl) Tryz.results49 (td Z1 (.v _))
 ·
  refine AWp.skip ?_
  refine aF ?_
  refine AWp.seq' ?_
  refine sr (N' := 256) rfl ?_
  refine pA ?_
  refine pu rfl (aD Z1 Z3 Z4) ?_
  iterate 2 refine pA ?_
  refine pu rfl (aD Z1 Z3 Z4) ?_
  refine pA ?_
  refine pu rfl (aD Z1 Z3 Z4) ?_
  iterate 2 refine pA ?_
  refine fs ?_
  refine AWp.condM hm Z1 (fun _ hm => ?_) (fun _ hm => ?_)
  ·
   refine sr (N' := 320) rfl ?_
   refine pA ?_
   refine fs ?_
   refine AWp.ret ?_
   refine bB ?_
   cases hm
   exact bM (.inr rfl) Tryz.results49 (td Z1 (.v _))
  ·
   refine AWp.skip ?_
   refine aF ?_
   refine AWp.seq' ?_
   refine sr (N' := 320) rfl ?_
   refine pA ?_
   refine pu rfl (aD Z1 Z3 Z4) ?_
   iterate 2 refine pA ?_
   refine fs ?_
   refine AWp.block ?_
   refine AWp.loopM (fun m s => ∃ (g_1 : aJ) (c_3 : aZ) (t48 : List cC) (t49 : Int) (t50 : Int), s = (⟨92, (aK (aK (aK (aK (aK (fun _ => AV.any) 1 (.adr 1 0)) 3 (.adr 2 0)) 48 (.sl (t48.flatMap bA) t48.length false)) 49 (.v (.int .i64 t49))) 50 (.v (.int .i64 t50))), ⟨(upd (upd bL 1 (.cells 1 [.v (.int .i64 g_1.Config.N), .v (.int .i64 g_1.Config.L), .v (.int .i64 g_1.Config.R), .sl (g_1.Hashes.flatMap bA) g_1.Hashes.length false, .sl (g_1.Edges.flatMap aL) g_1.Edges.length false] 0)) 2 (.cells 1 [.v (.int .i64 c_3.N), .v (.int .i64 c_3.L), .v (.int .i64 c_3.R)] 0)), 64⟩⟩ : St) ∧ iJ m g_1 c_3 t48 t49 t50 = some r) bY ?_ ?_ ?_
   ·
    rintro s ⟨_, _, _, _, _, _, h⟩
    cases h
   ·
    refine ⟨_, ?_, g_0, g_0.Config, g_0.Hashes, (g_0.Hashes.length : Int), 0, rfl, hm⟩
    exact aN (fun j => bif j == 1 then 0 else bif j == 2 then 66 else 0) (wV (wV (wD (cN.sl _ _ _) (aX _ _ (bQ Z1 rfl Z7) (aX _ _ (bQ Z1 rfl Z7) aU))))) (hW (aV (aO Z3 (Nat.le_refl _) (Nat.zero_le _) (mQ.dat g_0.Config)) (aV (aO Z3 (Nat.le_refl _) (Nat.zero_le _) (cB.dat g_0)) aR)))
   ·
    rintro n1 s ⟨g_1, c_3, t48, t49, t50, rfl, hm⟩
    replace hm : kL (iJ n1) g_1 c_3 t48 t49 t50 = some r := hm
    unfold kL at hm
    refine sr (N' := 128) rfl ?_
    refine pA ?_
    refine fs ?_
    refine AWp.seq' ?_
    refine AWp.condM hm Z1 (fun _ hm => ?_) (fun _ hm => ?_)
    ·
     refine AWp.skip ?_
     refine aF ?_
     refine AWp.seq' ?_
     refine AWp.block ?_
     refine sr (N' := 192) rfl ?_
     obtain ⟨x2, h1, hm⟩ := bnd hm
     refine pu rfl (cP cN Zd Tryz.underlying27 uT Z1 rfl Z1 h1) ?_
     refine pA ?_
     refine hp (id := 130) rfl rfl (aY aHt Z5) ?_
     refine aE.heap0 (id := 131) rfl (bG (ys := [.v (.int .u64 x2.A), .v (.int .u64 x2.B)]) uT Z1 Z1 Z3 rfl (Nat.le_of_ble_eq_true rfl) Z9 rfl) ?_
     refine fs ?_
     refine sr (N' := 256) rfl ?_
     refine pA ?_
     refine pu rfl (aD Z1 Z3 Z4) ?_
     iterate 3 first | refine pA ?_ | refine pB ?_
     refine pg rfl rfl Z2 (fun hb => (aD (Zh hb) Z3 Z4)) ?_
     iterate 2 first | refine pA ?_ | refine pB ?_
     refine fs ?_
     refine AWp.condM hm Z1 (fun _ hm => ?_) (fun _ hm => ?_)
     ·
      refine sr (N' := 320) rfl ?_
      refine pA ?_
      refine fs ?_
      refine AWp.ret ?_
      refine dB ?_
      refine bB ?_
      refine eD ?_
      refine dB ?_
      refine bB ?_
      cases hm
      exact bM (.inr rfl) Tryz.results49 (td Z1 (.v _))
     ·
      refine AWp.skip ?_
      refine cA ?_
      refine aF ?_
      refine AWp.reg 64 (N' := 320) rfl ?_
      iterate 2 refine pA ?_
      refine aE.fin ?_
      refine bU ?_
      refine ⟨_, ?_, g_1, c_3, t48, t49, (IntKind.i64.wrap (t50 + 1)), rfl, hm⟩
      exact aN (fun j => bif j == 1 then 1 else bif j == 2 then 2 else 0) (wV (wV (wD (cN.sl _ _ _) (aX _ _ (bQ Z1 rfl Z7) (aX _ _ (bQ Z1 rfl Z7) aU))))) (hW (aV (aO Z3 (Nat.le_refl _) (Nat.zero_le _) (mQ.dat c_3)) (aV (aO Z3 (Nat.le_refl _) (Nat.zero_le _) (cB.dat g_1)) aR)))
    ·
     refine AWp.exit ?_
     refine cH ?_
     refine bW ?_
     refine bT ?_
     refine aF ?_
     refine AWp.seq' ?_
     refine sr (N' := 192) rfl ?_
     refine pA ?_
     refine pu rfl (aD Z1 Z3 Z4) ?_
     refine pA ?_
     refine pu rfl (aD Z1 Z3 Z4) ?_
     obtain ⟨r4, h3, hm⟩ := bnd hm
     refine aE.callQ (r := .v (.bool r4)) Zd Z1 aOg (fun H => (cV (cD (aG.sl _ _ _) .nil))) (iN h3) ?_
     refine pA ?_
     refine fs ?_
     refine AWp.condM hm Z1 (fun _ hm => ?_) (fun _ hm => ?_)
     ·
      refine sr (N' := 256) rfl ?_
      refine pA ?_
      refine fs ?_
      refine AWp.ret ?_
      refine bB ?_
      cases hm
      exact bM (.inr rfl) Tryz.results49 (td Z1 (.v _))
     ·
      refine AWp.skip ?_
      refine aF ?_
      refine AWp.seq' ?_
      refine sr (N' := 256) rfl ?_
      refine pA ?_
      refine pu rfl (aD Z1 Z3 Z4) ?_
      iterate 2 refine pA ?_
      refine fs ?_
      refine AWp.block ?_
      refine AWp.loopM (fun m s => ∃ (g_1 : aJ) (c_3 : aZ) (t70 : List aC) (t71 : Int) (t72 : Int), s = (⟨92, (aK (aK (aK (aK (aK (fun _ => AV.any) 1 (.adr 1 0)) 3 (.adr 2 0)) 70 (.sl (t70.flatMap aL) t70.length false)) 71 (.v (.int .i64 t71))) 72 (.v (.int .i64 t72))), ⟨(upd (upd bL 1 (.cells 1 [.v (.int .i64 g_1.Config.N), .v (.int .i64 g_1.Config.L), .v (.int .i64 g_1.Config.R), .sl (g_1.Hashes.flatMap bA) g_1.Hashes.length false, .sl (g_1.Edges.flatMap aL) g_1.Edges.length false] 0)) 2 (.cells 1 [.v (.int .i64 c_3.N), .v (.int .i64 c_3.L), .v (.int .i64 c_3.R)] 0)), 64⟩⟩ : St) ∧ iG m g_1 c_3 t70 t71 t72 = some r) bY ?_ ?_ ?_
      ·
       rintro s ⟨_, _, _, _, _, _, h⟩
       cases h
      ·
       refine ⟨_, ?_, g_1, c_3, g_1.Edges, (g_1.Edges.length : Int), 0, rfl, hm⟩
       exact aN (fun j => bif j == 1 then 1 else bif j == 2 then 2 else 0) (wV (wV (wD (aG.sl _ _ _) (aX _ _ (bQ Z1 rfl Z7) (aX _ _ (bQ Z1 rfl Z7) aU))))) (hW (aV (aO Z3 (Nat.le_refl _) (Nat.zero_le _) (mQ.dat c_3)) (aV (aO Z3 (Nat.le_refl _) (Nat.zero_le _) (cB.dat g_1)) aR)))
      ·
       rintro n2 s ⟨g_1, c_3, t70, t71, t72, rfl, hm⟩
       replace hm : kN (iG n2) g_1 c_3 t70 t71 t72 = some r := hm
       unfold kN at hm
       refine sr (N' := 128) rfl ?_
       refine pA ?_
       refine fs ?_
       refine AWp.seq' ?_
       refine AWp.condM hm Z1 (fun _ hm => ?_) (fun _ hm => ?_)
       ·
        refine AWp.skip ?_
        refine aF ?_
        refine AWp.seq' ?_
        refine AWp.block ?_
        refine sr (N' := 192) rfl ?_
        obtain ⟨x6, h5, hm⟩ := bnd hm
        refine pu rfl (cP aG Zd Tryz.underlying28 dQ Z1 rfl Z1 h5) ?_
        refine pA ?_
        refine hp (id := 130) rfl rfl (aY jI Z5) ?_
        refine aE.heap0 (id := 131) rfl (bG (ys := [.v (.int .i64 x6.U), .v (.int .i64 x6.V), .v (.int .i64 x6.Tier)]) dQ Z1 Z1 Z3 rfl (Nat.le_of_ble_eq_true rfl) Z9 rfl) ?_
        refine fs ?_
        refine sr (N' := 256) rfl ?_
        refine pA ?_
        refine pu rfl (aD Z1 Z3 Z4) ?_
        refine pA ?_
        refine pu rfl (aD Z1 Z3 Z4) ?_
        refine pA ?_
        refine fs ?_
        refine AWp.condM hm Z1 (fun _ hm => ?_) (fun _ hm => ?_)
        ·
         refine sr (N' := 320) rfl ?_
         refine pA ?_
         refine fs ?_
         refine AWp.ret ?_
         refine dB ?_
         refine bB ?_
         refine eD ?_
         refine dB ?_
         refine bB ?_
         cases hm
         exact bM (.inr rfl) Tryz.results49 (td Z1 (.v _))
        ·
         refine AWp.skip ?_
         refine cA ?_
         refine aF ?_
         refine AWp.reg 64 (N' := 320) rfl ?_
         iterate 2 refine pA ?_
         refine aE.fin ?_
         refine bU ?_
         refine ⟨_, ?_, g_1, c_3, t70, t71, (IntKind.i64.wrap (t72 + 1)), rfl, hm⟩
         exact aN (fun j => bif j == 1 then 1 else bif j == 2 then 2 else 0) (wV (wV (wD (aG.sl _ _ _) (aX _ _ (bQ Z1 rfl Z7) (aX _ _ (bQ Z1 rfl Z7) aU))))) (hW (aV (aO Z3 (Nat.le_refl _) (Nat.zero_le _) (mQ.dat c_3)) (aV (aO Z3 (Nat.le_refl _) (Nat.zero_le _) (cB.dat g_1)) aR)))
       ·
        refine AWp.exit ?_
        refine cH ?_
        refine bW ?_
        refine bT ?_
        refine aF ?_
        refine sd mix (by kernel_rfl) (N' := 192) rfl ?_
        refine pA ?_
        refine pu rfl (aD Z1 Z3 Z4) ?_
        refine pA ?_
        refine pu rfl (aD Z1 Z3 Z4) ?_
        refine pA ?_
        refine pu rfl (aD Z1 Z3 Z4) ?_
        refine pA ?_
        refine pu rfl (aD Z1 Z3 Z4) ?_
        obtain ⟨r8, h7, hm⟩ := bnd hm
        refine aE.callQ (r := .sl (r8.flatMap aL) r8.length false) Zd Z1 aTn (fun H => (cV (cD (aG.sl _ _ _) (cV .nil)))) (lO h7) ?_
        obtain ⟨r10, h9, hm⟩ := bnd hm
        refine aE.callQ (r := .v (.bool r10)) Zd Z1 bA9 (fun H => (cV (cD (aG.sl _ _ _) .nil))) (vE h9) ?_
        refine pA ?_
        refine fs ?_
        refine AWp.ret ?_
        cases hm
        exact bM (.inr rfl) Tryz.results49 (td Z1 (.v _))
def sN (c_0 : aZ) (hashes_1 : List cC) : Option (aJ × Int) :=
 ((fH hashes_1).bind fun r2 =>
 ((dU (aJ.mk c_0 r2 [])).bind fun r4 =>
 (bif (!r4) then
  some ((aJ.mk (aZ.mk 0 0 0) [] []), 1)
 else
  some ((aJ.mk c_0 r2 []), 0))))
theorem aOe {c_0 : aZ} {hashes_1 : List cC} {r : aJ × Int} (hm : sN c_0 hashes_1 = some r) : aT Tryz.prog 36 [.agg [.v (.int .i64 c_0.N), .v (.int .i64 c_0.L), .v (.int .i64 c_0.R)], .sl (hashes_1.flatMap bA) hashes_1.length false] (.tup [.agg [.v (.int .i64 r.1.Config.N), .v (.int .i64 r.1.Config.L), .v (.int .i64 r.1.Config.R), .sl (r.1.Hashes.flatMap bA) r.1.Hashes.length false, .sl (r.1.Edges.flatMap aL) r.1.Edges.length false], .v (.int .i64 r.2)]) := by
 refine aT.of_body Tryz.func36 rfl ?_
 simp only [Tryz.ntmps36, List.length_cons, List.length_nil, Nat.reduceAdd, Nat.reduceSub, aQ]
 unfold sN at hm
 refine sr (N' := 64) rfl ?_
 refine hp (id := 0) rfl rfl (bO Z1 Z5) ?_
 refine hp (id := 1) rfl rfl (aY aN6 Z5) ?_
 refine pA ?_
 refine fs ?_
 refine sd mix (by kernel_rfl) (N' := 128) rfl ?_
 refine pu rfl (aD Z1 Z3 Z2) ?_
 refine pA ?_
 obtain ⟨r2, h1, hm⟩ := bnd hm
 refine aE.callQ (r := .sl (r2.flatMap bA) r2.length false) Zd Z1 bHq (fun H => (cD (cN.sl _ _ _) .nil)) (aC2 h1) ?_
 refine pu rfl (by simp only [go_sem, Nat.reduceBEq]; exact (by kernel_rfl : dJ Tryz.prog 30 [(0, .agg [.v (.int .i64 c_0.N), .v (.int .i64 c_0.L), .v (.int .i64 c_0.R)]), (1, .sl (r2.flatMap bA) r2.length false)] = some (.agg [.v (.int .i64 c_0.N), .v (.int .i64 c_0.L), .v (.int .i64 c_0.R), .sl (r2.flatMap bA) r2.length false, .v (.slice none 0 0)]))) ?_
 refine hp (id := 68) rfl rfl (aY aN6 Z5) ?_
 refine aE.heap0 (id := 69) rfl (bG (ys := [.v (.int .i64 c_0.N), .v (.int .i64 c_0.L), .v (.int .i64 c_0.R), .sl (r2.flatMap bA) r2.length false, .v (.slice none 0 0)]) wH Z1 Z1 Z3 rfl (Nat.le_of_ble_eq_true rfl) Z9 rfl) ?_
 refine fs ?_
 refine AWp.seq' ?_
 refine sr (N' := 192) rfl ?_
 refine pu rfl (aD Z1 Z3 Z2) ?_
 obtain ⟨r4, h3, hm⟩ := bnd hm
 refine aE.callQ (r := .v (.bool r4)) Zd Z1 aLe (fun H => (.cons (tda Z1 (.cons (.data _ (.v _)) (.cons (.data _ (.v _)) (.cons (.data _ (.v _)) (.cons (.data _ (cN.sl _ _ _)) (.cons (.nil false) .nil)))))) .nil)) (gE h3) ?_
 refine pA ?_
 refine fs ?_
 refine AWp.condM hm Z1 (fun _ hm => ?_) (fun _ hm => ?_)
 ·
  refine sr (N' := 256) rfl ?_
  refine pu rfl (by simp only [go_sem, Nat.reduceBEq]; exact (by kernel_rfl : dJ Tryz.prog 30 [] = some (.agg [.v (.int .i64 0), .v (.int .i64 0), .v (.int .i64 0), .v (.slice none 0 0), .v (.slice none 0 0)]))) ?_
  refine aE.heap0 (id := 193) rfl (bG (ys := [.v (.int .i64 0), .v (.int .i64 0), .v (.int .i64 0), .v (.slice none 0 0), .v (.slice none 0 0)]) wH Z1 Z1 Z3 rfl (Nat.le_of_ble_eq_true rfl) Z9 rfl) ?_
  refine pA ?_
  refine fs ?_
  refine AWp.ret ?_
  refine bB ?_
  cases hm
  exact fK (.inr rfl) (by rw [Tryz.results36]) (.cell (cG Z1 Z3 Z2) (.tmp Z1 .nil)) rfl (tdt (.cons (tda rfl (.cons (.data _ (.v _)) (.cons (.data _ (.v _)) (.cons (.data _ (.v _)) (.cons (.nil false) (.cons (.nil false) .nil)))))) (.cons (td rfl (.v _)) .nil)))
 ·
  refine AWp.skip ?_
  refine aF ?_
  refine sr (N' := 256) rfl ?_
  refine pu rfl (aD Z1 Z3 Z2) ?_
  refine aE.heap0 (id := 193) rfl (bG (ys := [.v (.int .i64 c_0.N), .v (.int .i64 c_0.L), .v (.int .i64 c_0.R), .sl (r2.flatMap bA) r2.length false, .v (.slice none 0 0)]) wH Z1 Z1 Z3 rfl (Nat.le_of_ble_eq_true rfl) Z9 rfl) ?_
  refine pA ?_
  refine fs ?_
  refine AWp.ret ?_
  cases hm
  exact fK (.inr rfl) (by rw [Tryz.results36]) (.cell (cG Z1 Z3 Z2) (.tmp Z1 .nil)) rfl (tdt (.cons (tda rfl (.cons (.data _ (.v _)) (.cons (.data _ (.v _)) (.cons (.data _ (.v _)) (.cons (.data _ (cN.sl _ _ _)) (.cons (.nil false) .nil)))))) (.cons (td rfl (.v _)) .nil)))
def sY (g_0 : aJ) : Option ((List Int)) :=
 ((dU g_0).bind fun r2 =>
 (bif (!r2) then
  some []
 else
  ((fQ g_0.Config.N g_0.Edges g_0.Config.L).bind fun r4 =>
  ((nT g_0.Config.N r4).bind fun ⟨r6, r7⟩ =>
  some r6))))
theorem aDl {g_0 : aJ} {r : (List Int)} (hm : sY g_0 = some r) : aT Tryz.prog 73 [.agg [.v (.int .i64 g_0.Config.N), .v (.int .i64 g_0.Config.L), .v (.int .i64 g_0.Config.R), .sl (g_0.Hashes.flatMap bA) g_0.Hashes.length false, .sl (g_0.Edges.flatMap aL) g_0.Edges.length false]] (.sl (r.flatMap (ci .i64)) r.length false) := by
 refine aT.of_body Tryz.func73 rfl ?_
 simp only [Tryz.ntmps73, List.length_cons, List.length_nil, Nat.reduceAdd, Nat.reduceSub, aQ]
 unfold sY at hm
 refine sr (N' := 64) rfl ?_
 refine hp (id := 0) rfl rfl (bO Z1 Z5) ?_
 refine pA ?_
 refine fs ?_
 refine AWp.seq' ?_
 refine sr (N' := 128) rfl ?_
 refine pu rfl (aD Z1 Z3 Z2) ?_
 obtain ⟨r2, h1, hm⟩ := bnd hm
 refine aE.callQ (r := .v (.bool r2)) Zd Z1 aLe (fun H => (cD (.agg _ (cB.dat _)) .nil)) (gE h1) ?_
 refine pA ?_
 refine fs ?_
 refine AWp.condM hm Z1 (fun _ hm => ?_) (fun _ hm => ?_)
 ·
  refine sr (N' := 192) rfl ?_
  refine pA ?_
  refine fs ?_
  refine AWp.ret ?_
  refine bB ?_
  cases hm
  exact bM (.inr rfl) Tryz.results73 (tdn Z1)
 ·
  refine AWp.skip ?_
  refine aF ?_
  refine sd mix (by kernel_rfl) (N' := 192) rfl ?_
  iterate 2 refine pA ?_
  refine pu rfl (aD Z1 Z3 Z4) ?_
  iterate 2 refine pA ?_
  refine pu rfl (aD Z1 Z3 Z4) ?_
  refine pA ?_
  refine pu rfl (aD Z1 Z3 Z4) ?_
  iterate 2 refine pA ?_
  refine pu rfl (aD Z1 Z3 Z4) ?_
  obtain ⟨r4, h3, hm⟩ := bnd hm
  refine aE.callQ (r := .sl (r4.flatMap aL) r4.length false) Zd Z1 aTn (fun H => (cV (cD (aG.sl _ _ _) (cV .nil)))) (lO h3) ?_
  obtain ⟨⟨r6, r7⟩, h5, hm⟩ := bnd hm
  refine aE.callQ (r := .tup [.sl (r6.flatMap (ci .i64)) r6.length false, .v (.int .i64 r7)]) Zd Z1 aXr (fun H => (cV (cD (aG.sl _ _ _) .nil))) (aBd h5) ?_
  iterate 5 refine pA ?_
  refine fs ?_
  refine sr (N' := 256) rfl ?_
  iterate 2 refine pA ?_
  refine fs ?_
  refine AWp.ret ?_
  cases hm
  exact bM (.inr rfl) Tryz.results73 (td Z1 ((CFi .i64).sl _ _ _))
def xJ (rec1 : Int → Int → List aC → Int → Int → Option (Int × Bool)) (u_1 : Int) (v_2 : Int) (t10 : List aC) (t11 : Int) (t12 : Int) : Option (Int × Bool) :=
 (bif (decide (t12 < t11)) then
  ((idx t10 t12).bind fun x2 =>
  (bif (((x2.U == u_1) && (x2.V == v_2)) || ((x2.U == v_2) && (x2.V == u_1))) then
   some (t12, true)
  else
   rec1 u_1 v_2 t10 t11 (IntKind.i64.wrap (t12 + 1))))
 else
  some (0, false))
def tD : Nat → Int → Int → List aC → Int → Int → Option (Int × Bool)
 | 0 => fun _ _ _ _ _ => none
 | n + 1 => xJ (tD n)
def mE (l_0 : List aC) (u_1 : Int) (v_2 : Int) : Option (Int × Bool) :=
 tD bY u_1 v_2 l_0 (l_0.length : Int) 0
theorem sA {l_0 : List aC} {u_1 : Int} {v_2 : Int} {r : Int × Bool} (hm : mE l_0 u_1 v_2 = some r) : aT Tryz.prog 74 [.sl (l_0.flatMap aL) l_0.length false, .v (.int .i64 u_1), .v (.int .i64 v_2)] (.tup [.v (.int .i64 r.1), .v (.bool r.2)]) := by
 refine aT.of_body Tryz.func74 rfl ?_
 simp only [Tryz.ntmps74, List.length_cons, List.length_nil, Nat.reduceAdd, Nat.reduceSub, aQ]
 unfold mE at hm
 refine sr (N' := 64) rfl ?_
 iterate 2 refine pA ?_
 refine fs ?_
 refine AWp.seq' ?_
 refine sr (N' := 128) rfl ?_
 iterate 3 refine pA ?_
 refine fs ?_
 refine AWp.block ?_
 refine AWp.loopM (fun m s => ∃ (u_1 : Int) (v_2 : Int) (t10 : List aC) (t11 : Int) (t12 : Int), s = (⟨41, (aK (aK (aK (aK (aK (fun _ => AV.any) 1 (.v (.int .i64 u_1))) 2 (.v (.int .i64 v_2))) 10 (.sl (t10.flatMap aL) t10.length false)) 11 (.v (.int .i64 t11))) 12 (.v (.int .i64 t12))), ⟨bL, 64⟩⟩ : St) ∧ tD m u_1 v_2 t10 t11 t12 = some r) bY ?_ ?_ ?_
 ·
  rintro s ⟨_, _, _, _, _, _, h⟩
  cases h
 ·
  refine ⟨_, ?_, u_1, v_2, l_0, (l_0.length : Int), 0, rfl, hm⟩
  exact aN id (wV (wV (wD (aG.sl _ _ _) (wV (wV aU))))) cT
 ·
  rintro n1 s ⟨u_1, v_2, t10, t11, t12, rfl, hm⟩
  replace hm : xJ (tD n1) u_1 v_2 t10 t11 t12 = some r := hm
  unfold xJ at hm
  refine sr (N' := 128) rfl ?_
  refine pA ?_
  refine fs ?_
  refine AWp.seq' ?_
  refine AWp.condM hm Z1 (fun _ hm => ?_) (fun _ hm => ?_)
  ·
   refine AWp.skip ?_
   refine aF ?_
   refine AWp.seq' ?_
   refine AWp.block ?_
   refine sr (N' := 192) rfl ?_
   refine pA ?_
   obtain ⟨x2, h1, hm⟩ := bnd hm
   refine pu rfl (cP aG Zd Tryz.underlying28 dQ Z1 rfl Z1 h1) ?_
   refine pA ?_
   refine hp (id := 131) rfl rfl (aY jI Z5) ?_
   refine pA ?_
   refine aE.heap0 (id := 133) rfl (bG (ys := [.v (.int .i64 x2.U), .v (.int .i64 x2.V), .v (.int .i64 x2.Tier)]) dQ Z1 Z1 Z3 rfl (Nat.le_of_ble_eq_true rfl) Z9 rfl) ?_
   refine fs ?_
   refine sr (N' := 256) rfl ?_
   refine pA ?_
   refine pu rfl (aD Z1 Z3 Z4) ?_
   iterate 4 first | refine pA ?_ | refine pB ?_
   refine pg rfl rfl Z2 (fun hb => (aD (Zh hb) Z3 Z4)) ?_
   iterate 5 first | refine pA ?_ | refine pB ?_
   refine pg rfl rfl Z2 (fun hb => (aD (Zh hb) Z3 Z4)) ?_
   iterate 4 refine pB ?_
   refine pg rfl rfl Z2 (fun hb => (aD (Zh hb) Z3 Z4)) ?_
   iterate 4 first | refine pA ?_ | refine pB ?_
   refine fs ?_
   refine AWp.condM hm Z1 (fun _ hm => ?_) (fun _ hm => ?_)
   ·
    refine sr (N' := 320) rfl ?_
    iterate 3 refine pA ?_
    refine fs ?_
    refine AWp.ret ?_
    refine dB ?_
    refine bB ?_
    refine eD ?_
    refine dB ?_
    refine bB ?_
    cases hm
    exact fE (.inr rfl) Tryz.results74 (td Z1 (.v _)) (td Z1 (.v _))
   ·
    refine AWp.skip ?_
    refine cA ?_
    refine aF ?_
    refine AWp.reg 64 (N' := 320) rfl ?_
    iterate 2 refine pA ?_
    refine aE.fin ?_
    refine bU ?_
    refine ⟨_, ?_, u_1, v_2, t10, t11, (IntKind.i64.wrap (t12 + 1)), rfl, hm⟩
    exact aN id (wV (wV (wD (aG.sl _ _ _) (wV (wV aU))))) cT
  ·
   refine AWp.exit ?_
   refine cH ?_
   refine bW ?_
   refine bT ?_
   refine aF ?_
   refine sr (N' := 192) rfl ?_
   iterate 2 refine pA ?_
   refine fs ?_
   refine AWp.ret ?_
   cases hm
   exact fE (.inr rfl) Tryz.results74 (td Z1 (.v _)) (td Z1 (.v _))
def qN (rec1 : List Int → Int → List Int → List Int → Int → Int → Option ((List Int))) (p_0 : List Int) (v_1 : Int) (class_5 : List Int) (t18 : List Int) (t19 : Int) (t20 : Int) : Option ((List Int)) :=
 rec1 p_0 v_1 class_5 t18 t19 (IntKind.i64.wrap (t20 + 1))
def vP (rec1 : List Int → Int → List Int → List Int → Int → Int → Option ((List Int))) (p_0 : List Int) (v_1 : Int) (class_5 : List Int) (t18 : List Int) (t19 : Int) (t20 : Int) : Option ((List Int)) :=
 (bif (decide (t20 < t19)) then
  ((idx t18 t20).bind fun x6 =>
  ((idx p_0 v_1).bind fun x8 =>
  (bif (x6 == x8) then
   ((app class_5 [t20]).bind fun l10 =>
   qN rec1 p_0 v_1 l10 t18 t19 t20)
  else
   qN rec1 p_0 v_1 class_5 t18 t19 t20)))
 else
  some class_5)
def mT : Nat → List Int → Int → List Int → List Int → Int → Int → Option ((List Int))
 | 0 => fun _ _ _ _ _ _ => none
 | n + 1 => vP (mT n)
def pH (p_0 : List Int) (v_1 : Int) : Option ((List Int)) :=
 ((mO p_0).bind fun r2 =>
 ((fA ((!r2) == false) false (fU (p_0.length : Int) v_1)).bind fun r4 =>
 (bif ((!r2) || (!r4)) then
  some []
 else
  mT bY p_0 v_1 [] p_0 (p_0.length : Int) 0)))
theorem xC {p_0 : List Int} {v_1 : Int} {r : (List Int)} (hm : pH p_0 v_1 = some r) : aT Tryz.prog 78 [.sl (p_0.flatMap (ci .i64)) p_0.length false, .v (.int .i64 v_1)] (.sl (r.flatMap (ci .i64)) r.length false) := by
 refine aT.of_body Tryz.func78 rfl ?_
 simp only [Tryz.ntmps78, List.length_cons, List.length_nil, Nat.reduceAdd, Nat.reduceSub, aQ]
 unfold pH at hm
 refine sr (N' := 64) rfl ?_
 refine pA ?_
 refine fs ?_
 refine AWp.seq' ?_
 refine sr (N' := 128) rfl ?_
 refine pA ?_
 obtain ⟨r2, h1, hm⟩ := bnd hm
 refine aE.callQ (r := .v (.bool r2)) Zd Z1 aZ1 (fun H => (cD ((CFi .i64).sl _ _ _) .nil)) (aDd h1) ?_
 iterate 5 first | refine pA ?_ | refine pB ?_
 obtain ⟨r4, h3, hm⟩ := bnd hm
 refine aE.callQG (r := .v (.bool r4)) Zd rfl Z2 Z1 aPf (fun hb H => (.cons (td (Zh hb) (.v _)) (.cons (td (Zh hb) (.v _)) .nil))) (fun hb => tG (dA h3 hb)) ?_
 iterate 2 first | refine pA ?_ | refine pB ?_
 refine fs ?_
 refine AWp.condM hm Z1 (fun _ hm => ?_) (fun _ hm => ?_)
 ·
  refine sr (N' := 192) rfl ?_
  refine pA ?_
  refine fs ?_
  refine AWp.ret ?_
  refine bB ?_
  cases hm
  exact bM (.inr rfl) Tryz.results78 (tdn Z1)
 ·
  refine AWp.skip ?_
  refine aF ?_
  refine sr (N' := 192) rfl ?_
  refine pA ?_
  refine fs ?_
  refine AWp.seq' ?_
  refine sr (N' := 256) rfl ?_
  iterate 3 refine pA ?_
  refine fs ?_
  refine AWp.block ?_
  refine AWp.loopM (fun m s => ∃ (p_0 : List Int) (v_1 : Int) (class_5 : List Int) (t18 : List Int) (t19 : Int) (t20 : Int), s = (⟨37, (aK (aK (aK (aK (aK (aK (fun _ => AV.any) 0 (.sl (p_0.flatMap (ci .i64)) p_0.length false)) 1 (.v (.int .i64 v_1))) 5 (.own 1 0 class_5.length)) 18 (.sl (t18.flatMap (ci .i64)) t18.length false)) 19 (.v (.int .i64 t19))) 20 (.v (.int .i64 t20))), ⟨(upd bL 1 (.cells 1 (class_5.flatMap (ci .i64)) 0)), 64⟩⟩ : St) ∧ mT m p_0 v_1 class_5 t18 t19 t20 = some r) bY ?_ ?_ ?_
  ·
   rintro s ⟨_, _, _, _, _, _, _, h⟩
   cases h
  ·
   refine ⟨_, ?_, p_0, v_1, [], p_0, (p_0.length : Int), 0, rfl, hm⟩
   refine St.Le.trans (kA 5 900005 1 Z1 Z5) ?_
   exact aN (fun j => bif j == 1 then 900005 else 0) (wV (wV (wD ((CFi .i64).sl _ _ _) (wO (wV (wD ((CFi .i64).sl _ _ _) aU)))))) (hW (eU (CFi .i64) aR))
  ·
   rintro n1 s ⟨p_0, v_1, class_5, t18, t19, t20, rfl, hm⟩
   replace hm : vP (mT n1) p_0 v_1 class_5 t18 t19 t20 = some r := hm
   unfold vP at hm
   refine sr (N' := 128) rfl ?_
   refine pA ?_
   refine fs ?_
   refine AWp.seq' ?_
   refine AWp.condM hm Z1 (fun _ hm => ?_) (fun _ hm => ?_)
   ·
    refine AWp.skip ?_
    refine aF ?_
    refine AWp.seqJ (fun s => ∃ (p_0 : List Int) (v_1 : Int) (class_5 : List Int) (t18 : List Int) (t19 : Int) (t20 : Int), s = (⟨37, (aK (aK (aK (aK (aK (aK (fun _ => AV.any) 0 (.sl (p_0.flatMap (ci .i64)) p_0.length false)) 1 (.v (.int .i64 v_1))) 5 (.own 1 0 class_5.length)) 18 (.sl (t18.flatMap (ci .i64)) t18.length false)) 19 (.v (.int .i64 t19))) 20 (.v (.int .i64 t20))), ⟨(upd bL 1 (.cells 1 (class_5.flatMap (ci .i64)) 0)), 64⟩⟩ : St) ∧ qN (mT n1) p_0 v_1 class_5 t18 t19 t20 = some r) ?_ ?_
    ·
     refine AWp.block ?_
     refine sr (N' := 192) rfl ?_
     refine pA ?_
     obtain ⟨x6, h5, hm⟩ := bnd hm
     refine pu rfl (cP (CFi .i64) Zd Tryz.underlying112 sz3 Z1 rfl Z1 h5) ?_
     iterate 3 refine pA ?_
     refine fs ?_
     refine sr (N' := 256) rfl ?_
     iterate 3 refine pA ?_
     obtain ⟨x8, h7, hm⟩ := bnd hm
     refine pu rfl (cP (CFi .i64) Zd Tryz.underlying112 sz3 Z1 rfl Z1 h7) ?_
     iterate 2 refine pA ?_
     refine fs ?_
     refine AWp.condM hm Z1 (fun _ hm => ?_) (fun _ hm => ?_)
     ·
      refine AWp.reg 64 (N' := 320) rfl ?_
      iterate 2 refine pA ?_
      refine hp (id := 258) rfl rfl (eE (CFi .i64) (l := [t20]) Tryz.underlying112 sz3 zc3 Z5 Zd Zd Zd (by simp only [go_sem, Nat.reduceBEq]; try rfl) (by kernel_rfl)) ?_
      obtain ⟨l10, h9, hm⟩ := bnd hm
      refine hp (id := 259) rfl rfl (iI (CFi .i64) Tryz.underlying112 Tryz.underlying112 rfl in3 ts3 (by rw [tb3]; decide) (by rw [tb3]; decide) tz3 Zd Zd Z1 Z3 Z6 (lM (CFi .i64) Z1 Z3 Z6) rfl Z5 h9) ?_
      refine pA ?_
      refine aE.fin ?_
      refine cA ?_
      refine dY ?_
      refine ⟨_, ?_, p_0, v_1, l10, t18, t19, t20, rfl, hm⟩
      exact aN (fun j => bif j == 1 then 259 else 0) (wV (wV (wD ((CFi .i64).sl _ _ _) (wO (wV (wD ((CFi .i64).sl _ _ _) aU)))))) (hW (eU (CFi .i64) aR))
     ·
      refine AWp.skip ?_
      refine cA ?_
      refine dY ?_
      refine ⟨_, ?_, p_0, v_1, class_5, t18, t19, t20, rfl, hm⟩
      exact aN (fun j => bif j == 1 then 1 else 0) (wV (wV (wD ((CFi .i64).sl _ _ _) (wO (wV (wD ((CFi .i64).sl _ _ _) aU)))))) (hW (eU (CFi .i64) aR))
    ·
     rintro s ⟨p_0, v_1, class_5, t18, t19, t20, rfl, hm⟩
     unfold qN at hm
     refine AWp.reg 64 (N' := 128) rfl ?_
     iterate 2 refine pA ?_
     refine aE.fin ?_
     refine bU ?_
     refine ⟨_, ?_, p_0, v_1, class_5, t18, t19, (IntKind.i64.wrap (t20 + 1)), rfl, hm⟩
     exact aN (fun j => bif j == 1 then 1 else 0) (wV (wV (wD ((CFi .i64).sl _ _ _) (wO (wV (wD ((CFi .i64).sl _ _ _) aU)))))) (hW (eU (CFi .i64) aR))
   ·
    refine AWp.exit ?_
    refine cH ?_
    refine bW ?_
    refine bT ?_
    refine aF ?_
    refine sr (N' := 192) rfl ?_
    iterate 2 refine pA ?_
    refine fs ?_
    refine AWp.ret ?_
    cases hm
    exact bM (.inr rfl) Tryz.results78 (tdo (CFi .i64) Z1 Z3 Z6)
def aCh (g_0 : aJ) : Option ((List Int)) :=
 ((dU g_0).bind fun r2 =>
 (bif (!r2) then
  some []
 else
  ((nT g_0.Config.N g_0.Edges).bind fun ⟨r4, r5⟩ =>
  some r4)))
theorem aQh {g_0 : aJ} {r : (List Int)} (hm : aCh g_0 = some r) : aT Tryz.prog 109 [.agg [.v (.int .i64 g_0.Config.N), .v (.int .i64 g_0.Config.L), .v (.int .i64 g_0.Config.R), .sl (g_0.Hashes.flatMap bA) g_0.Hashes.length false, .sl (g_0.Edges.flatMap aL) g_0.Edges.length false]] (.sl (r.flatMap (ci .i64)) r.length false) := by
 refine aT.of_body Tryz.func109 rfl ?_
 simp only [Tryz.ntmps109, List.length_cons, List.length_nil, Nat.reduceAdd, Nat.reduceSub, aQ]
 unfold aCh at hm
 refine sr (N' := 64) rfl ?_
 refine hp (id := 0) rfl rfl (bO Z1 Z5) ?_
 refine pA ?_
 refine fs ?_
 refine AWp.seq' ?_
 refine sr (N' := 128) rfl ?_
 refine pu rfl (aD Z1 Z3 Z2) ?_
 obtain ⟨r2, h1, hm⟩ := bnd hm
 refine aE.callQ (r := .v (.bool r2)) Zd Z1 aLe (fun H => (cD (.agg _ (cB.dat _)) .nil)) (gE h1) ?_
 refine pA ?_
 refine fs ?_
 refine AWp.condM hm Z1 (fun _ hm => ?_) (fun _ hm => ?_)
 ·
  refine sr (N' := 192) rfl ?_
  refine pA ?_
  refine fs ?_
  refine AWp.ret ?_
  refine bB ?_
  cases hm
  exact bM (.inr rfl) Tryz.results109 (tdn Z1)
 ·
  refine AWp.skip ?_
  refine aF ?_
  refine sr (N' := 192) rfl ?_
  iterate 2 refine pA ?_
  refine pu rfl (aD Z1 Z3 Z4) ?_
  refine pA ?_
  refine pu rfl (aD Z1 Z3 Z4) ?_
  obtain ⟨⟨r4, r5⟩, h3, hm⟩ := bnd hm
  refine aE.callQ (r := .tup [.sl (r4.flatMap (ci .i64)) r4.length false, .v (.int .i64 r5)]) Zd Z1 aXr (fun H => (cV (cD (aG.sl _ _ _) .nil))) (aBd h3) ?_
  iterate 5 refine pA ?_
  refine fs ?_
  refine sr (N' := 256) rfl ?_
  iterate 2 refine pA ?_
  refine fs ?_
  refine AWp.ret ?_
  cases hm
  exact bM (.inr rfl) Tryz.results109 (td Z1 ((CFi .i64).sl _ _ _))
def mU (rec1 : List Int → List Int → Int → Int → Option (Bool)) (s1_0 : List Int) (s2_1 : List Int) (t12 : Int) (t13 : Int) : Option (Bool) :=
 (bif (decide (t13 < t12)) then
  ((idx s1_0 t13).bind fun x2 =>
  ((idx s2_1 t13).bind fun x4 =>
  (bif (x2 != x4) then
   some false
  else
   rec1 s1_0 s2_1 t12 (IntKind.i64.wrap (t13 + 1)))))
 else
  some true)
def jW : Nat → List Int → List Int → Int → Int → Option (Bool)
 | 0 => fun _ _ _ _ => none
 | n + 1 => mU (jW n)
def oD (s1_0 : List Int) (s2_1 : List Int) : Option (Bool) :=
 (bif ((s1_0.length : Int) != (s2_1.length : Int)) then
  some false
 else
  jW bY s1_0 s2_1 (s1_0.length : Int) 0)
theorem aCm {s1_0 : List Int} {s2_1 : List Int} {r : Bool} (hm : oD s1_0 s2_1 = some r) : aT Tryz.prog 108 [.sl (s1_0.flatMap (ci .i64)) s1_0.length false, .sl (s2_1.flatMap (ci .i64)) s2_1.length false] (.v (.bool r)) := by
 refine aT.of_body Tryz.func108 rfl ?_
 simp only [Tryz.ntmps108, List.length_cons, List.length_nil, Nat.reduceAdd, Nat.reduceSub, aQ]
 unfold oD at hm
 refine sr (N' := 64) rfl ?_
 refine pA ?_
 refine fs ?_
 refine AWp.seq' ?_
 refine sr (N' := 128) rfl ?_
 iterate 5 refine pA ?_
 refine fs ?_
 refine AWp.condM hm Z1 (fun _ hm => ?_) (fun _ hm => ?_)
 ·
  refine sr (N' := 192) rfl ?_
  refine pA ?_
  refine fs ?_
  refine AWp.ret ?_
  refine bB ?_
  cases hm
  exact bM (.inr rfl) Tryz.results108 (td Z1 (.v _))
 ·
  refine AWp.skip ?_
  refine aF ?_
  refine AWp.seq' ?_
  refine sr (N' := 192) rfl ?_
  iterate 3 refine pA ?_
  refine fs ?_
  refine AWp.block ?_
  refine AWp.loopM (fun m s => ∃ (s1_0 : List Int) (s2_1 : List Int) (t12 : Int) (t13 : Int), s = (⟨26, (aK (aK (aK (aK (fun _ => AV.any) 0 (.sl (s1_0.flatMap (ci .i64)) s1_0.length false)) 1 (.sl (s2_1.flatMap (ci .i64)) s2_1.length false)) 12 (.v (.int .i64 t12))) 13 (.v (.int .i64 t13))), ⟨bL, 64⟩⟩ : St) ∧ jW m s1_0 s2_1 t12 t13 = some r) bY ?_ ?_ ?_
  ·
   rintro s ⟨_, _, _, _, _, h⟩
   cases h
  ·
   refine ⟨_, ?_, s1_0, s2_1, (s1_0.length : Int), 0, rfl, hm⟩
   exact aN id (wV (wV (wD ((CFi .i64).sl _ _ _) (wD ((CFi .i64).sl _ _ _) aU)))) cT
  ·
   rintro n1 s ⟨s1_0, s2_1, t12, t13, rfl, hm⟩
   replace hm : mU (jW n1) s1_0 s2_1 t12 t13 = some r := hm
   unfold mU at hm
   refine sr (N' := 128) rfl ?_
   refine pA ?_
   refine fs ?_
   refine AWp.seq' ?_
   refine AWp.condM hm Z1 (fun _ hm => ?_) (fun _ hm => ?_)
   ·
    refine AWp.skip ?_
    refine aF ?_
    refine AWp.seq' ?_
    refine AWp.block ?_
    refine sr (N' := 192) rfl ?_
    iterate 2 refine pA ?_
    refine fs ?_
    refine sd mix (by kernel_rfl) (N' := 256) rfl ?_
    iterate 2 refine pA ?_
    obtain ⟨x2, h1, hm⟩ := bnd hm
    refine pu rfl (cP (CFi .i64) Zd Tryz.underlying112 sz3 Z1 rfl Z1 h1) ?_
    iterate 3 refine pA ?_
    obtain ⟨x4, h3, hm⟩ := bnd hm
    refine pu rfl (cP (CFi .i64) Zd Tryz.underlying112 sz3 Z1 rfl Z1 h3) ?_
    iterate 2 refine pA ?_
    refine fs ?_
    refine AWp.condM hm Z1 (fun _ hm => ?_) (fun _ hm => ?_)
    ·
     refine sr (N' := 320) rfl ?_
     refine pA ?_
     refine fs ?_
     refine AWp.ret ?_
     refine dB ?_
     refine bB ?_
     refine eD ?_
     refine dB ?_
     refine bB ?_
     cases hm
     exact bM (.inr rfl) Tryz.results108 (td Z1 (.v _))
    ·
     refine AWp.skip ?_
     refine cA ?_
     refine aF ?_
     refine AWp.reg 64 (N' := 320) rfl ?_
     iterate 2 refine pA ?_
     refine aE.fin ?_
     refine bU ?_
     refine ⟨_, ?_, s1_0, s2_1, t12, (IntKind.i64.wrap (t13 + 1)), rfl, hm⟩
     exact aN id (wV (wV (wD ((CFi .i64).sl _ _ _) (wD ((CFi .i64).sl _ _ _) aU)))) cT
   ·
    refine AWp.exit ?_
    refine cH ?_
    refine bW ?_
    refine bT ?_
    refine aF ?_
    refine sr (N' := 192) rfl ?_
    refine pA ?_
    refine fs ?_
    refine AWp.ret ?_
    cases hm
    exact bM (.inr rfl) Tryz.results108 (td Z1 (.v _))
def wE (g_0 : aJ) : Option (Bool) :=
 ((dU g_0).bind fun r2 =>
 ((fA (r2 == true) [] (sY g_0)).bind fun r4 =>
 ((fA (r2 == true) [] (aCh g_0)).bind fun r6 =>
 ((fA (r2 == true) false (oD r4 r6)).bind fun r8 =>
 some (r2 && r8)))))
theorem aIm {g_0 : aJ} {r : Bool} (hm : wE g_0 = some r) : aT Tryz.prog 81 [.agg [.v (.int .i64 g_0.Config.N), .v (.int .i64 g_0.Config.L), .v (.int .i64 g_0.Config.R), .sl (g_0.Hashes.flatMap bA) g_0.Hashes.length false, .sl (g_0.Edges.flatMap aL) g_0.Edges.length false]] (.v (.bool r)) := by
 refine aT.of_body Tryz.func81 rfl ?_
 simp only [Tryz.ntmps81, List.length_cons, List.length_nil, Nat.reduceAdd, Nat.reduceSub, aQ]
 unfold wE at hm
 refine sr (N' := 64) rfl ?_
 refine hp (id := 0) rfl rfl (bO Z1 Z5) ?_
 refine pA ?_
 refine fs ?_
 refine sd mix (by kernel_rfl) (N' := 128) rfl ?_
 refine pu rfl (aD Z1 Z3 Z2) ?_
 obtain ⟨r2, h1, hm⟩ := bnd hm
 refine aE.callQ (r := .v (.bool r2)) Zd Z1 aLe (fun H => (cD (.agg _ (cB.dat _)) .nil)) (gE h1) ?_
 refine pA ?_
 refine pg rfl rfl Z2 (fun hb => (aD (Zh hb) Z3 Z2)) ?_
 obtain ⟨r4, h3, hm⟩ := bnd hm
 refine aE.callQG (r := .sl (r4.flatMap (ci .i64)) r4.length false) Zd rfl Z2 Z1 bGr (fun hb H => (.cons (td (Zh hb) (.agg _ (cB.dat _))) .nil)) (fun hb => aDl (dA h3 hb)) ?_
 refine pg rfl rfl Z2 (fun hb => (aD (Zh hb) Z3 Z2)) ?_
 obtain ⟨r6, h5, hm⟩ := bnd hm
 refine aE.callQG (r := .sl (r6.flatMap (ci .i64)) r6.length false) Zd rfl Z2 Z1 bC8 (fun hb H => (.cons (td (Zh hb) (.agg _ (cB.dat _))) .nil)) (fun hb => aQh (dA h5 hb)) ?_
 obtain ⟨r8, h7, hm⟩ := bnd hm
 refine aE.callQG (r := .v (.bool r8)) Zd rfl Z2 Z1 bBs (fun hb H => (.cons (td (Zh hb) ((CFi .i64).sl _ _ _)) (.cons (td (Zh hb) ((CFi .i64).sl _ _ _)) .nil))) (fun hb => aCm (dA h7 hb)) ?_
 iterate 2 refine pA ?_
 refine fs ?_
 refine AWp.ret ?_
 cases hm
 exact bM (.inr rfl) Tryz.results81 (td Z1 (.v _))
def fS (n_0 : Int) (v_1 : Int) : Option (Bool) :=
 some ((decide (0 ≤ v_1)) && (decide (v_1 < n_0)))
theorem gY {n_0 : Int} {v_1 : Int} {r : Bool} (hm : fS n_0 v_1 = some r) : aT Tryz.prog 135 [.v (.int .i64 n_0), .v (.int .i64 v_1)] (.v (.bool r)) := by
 refine aT.of_body Tryz.func135 rfl ?_
 simp only [Tryz.ntmps135, List.length_cons, List.length_nil, Nat.reduceAdd, Nat.reduceSub, aQ]
 unfold fS at hm
 refine sr (N' := 64) rfl ?_
 refine pA ?_
 refine fs ?_
 refine sr (N' := 128) rfl ?_
 iterate 8 first | refine pA ?_ | refine pB ?_
 refine fs ?_
 refine AWp.ret ?_
 cases hm
 exact bM (.inr rfl) Tryz.results135 (td Z1 (.v _))
def nP (rec1 : Int → List Int → List aC → Int → Int → Option ((List Int))) (v_2 : Int) (near_7 : List Int) (t20 : List aC) (t21 : Int) (t22 : Int) : Option ((List Int)) :=
 rec1 v_2 near_7 t20 t21 (IntKind.i64.wrap (t22 + 1))
def vH (rec1 : Int → List Int → List aC → Int → Int → Option ((List Int))) (v_2 : Int) (near_7 : List Int) (t20 : List aC) (t21 : Int) (t22 : Int) : Option ((List Int)) :=
 (bif (decide (t22 < t21)) then
  ((idx t20 t22).bind fun x6 =>
  (bif (v_2 == x6.U) then
   ((app near_7 [x6.V]).bind fun l8 =>
   nP rec1 v_2 l8 t20 t21 t22)
  else
   (bif (v_2 == x6.V) then
    ((app near_7 [x6.U]).bind fun l10 =>
    nP rec1 v_2 l10 t20 t21 t22)
   else
    nP rec1 v_2 near_7 t20 t21 t22)))
 else
  some near_7)
def nA : Nat → Int → List Int → List aC → Int → Int → Option ((List Int))
 | 0 => fun _ _ _ _ _ => none
 | n + 1 => vH (nA n)
def xG (n_0 : Int) (l_1 : List aC) (v_2 : Int) : Option ((List Int)) :=
 ((fC n_0 l_1).bind fun r2 =>
 ((fA ((!r2) == false) false (fS n_0 v_2)).bind fun r4 =>
 (bif ((!r2) || (!r4)) then
  some []
 else
  nA bY v_2 [] l_1 (l_1.length : Int) 0)))
theorem aK5 {n_0 : Int} {l_1 : List aC} {v_2 : Int} {r : (List Int)} (hm : xG n_0 l_1 v_2 = some r) : aT Tryz.prog 101 [.v (.int .i64 n_0), .sl (l_1.flatMap aL) l_1.length false, .v (.int .i64 v_2)] (.sl (r.flatMap (ci .i64)) r.length false) := by
 refine aT.of_body Tryz.func101 rfl ?_
 simp only [Tryz.ntmps101, List.length_cons, List.length_nil, Nat.reduceAdd, Nat.reduceSub, aQ]
 unfold xG at hm
 refine sr (N' := 64) rfl ?_
 refine pA ?_
 refine fs ?_
 refine AWp.seq' ?_
 refine sr (N' := 128) rfl ?_
 iterate 2 refine pA ?_
 obtain ⟨r2, h1, hm⟩ := bnd hm
 refine aE.callQ (r := .v (.bool r2)) Zd Z1 aOg (fun H => (cV (cD (aG.sl _ _ _) .nil))) (iN h1) ?_
 iterate 4 first | refine pA ?_ | refine pB ?_
 obtain ⟨r4, h3, hm⟩ := bnd hm
 refine aE.callQG (r := .v (.bool r4)) Zd rfl Z2 Z1 aGa (fun hb H => (.cons (td (Zh hb) (.v _)) (.cons (td (Zh hb) (.v _)) .nil))) (fun hb => gY (dA h3 hb)) ?_
 iterate 2 first | refine pA ?_ | refine pB ?_
 refine fs ?_
 refine AWp.condM hm Z1 (fun _ hm => ?_) (fun _ hm => ?_)
 ·
  refine sr (N' := 192) rfl ?_
  refine pA ?_
  refine fs ?_
  refine AWp.ret ?_
  refine bB ?_
  cases hm
  exact bM (.inr rfl) Tryz.results101 (tdn Z1)
 ·
  refine AWp.skip ?_
  refine aF ?_
  refine sr (N' := 192) rfl ?_
  refine pA ?_
  refine fs ?_
  refine AWp.seq' ?_
  refine sr (N' := 256) rfl ?_
  iterate 3 refine pA ?_
  refine fs ?_
  refine AWp.block ?_
  refine AWp.loopM (fun m s => ∃ (v_2 : Int) (near_7 : List Int) (t20 : List aC) (t21 : Int) (t22 : Int), s = (⟨47, (aK (aK (aK (aK (aK (fun _ => AV.any) 2 (.v (.int .i64 v_2))) 7 (.own 1 0 near_7.length)) 20 (.sl (t20.flatMap aL) t20.length false)) 21 (.v (.int .i64 t21))) 22 (.v (.int .i64 t22))), ⟨(upd bL 1 (.cells 1 (near_7.flatMap (ci .i64)) 0)), 64⟩⟩ : St) ∧ nA m v_2 near_7 t20 t21 t22 = some r) bY ?_ ?_ ?_
  ·
   rintro s ⟨_, _, _, _, _, _, h⟩
   cases h
  ·
   refine ⟨_, ?_, v_2, [], l_1, (l_1.length : Int), 0, rfl, hm⟩
   refine St.Le.trans (kA 7 900007 1 Z1 Z5) ?_
   exact aN (fun j => bif j == 1 then 900007 else 0) (wV (wV (wD (aG.sl _ _ _) (wO (wV aU))))) (hW (eU (CFi .i64) aR))
  ·
   rintro n1 s ⟨v_2, near_7, t20, t21, t22, rfl, hm⟩
   replace hm : vH (nA n1) v_2 near_7 t20 t21 t22 = some r := hm
   unfold vH at hm
   refine sr (N' := 128) rfl ?_
   refine pA ?_
   refine fs ?_
   refine AWp.seq' ?_
   refine AWp.condM hm Z1 (fun _ hm => ?_) (fun _ hm => ?_)
   ·
    refine AWp.skip ?_
    refine aF ?_
    refine AWp.seqJ (fun s => ∃ (v_2 : Int) (near_7 : List Int) (t20 : List aC) (t21 : Int) (t22 : Int), s = (⟨47, (aK (aK (aK (aK (aK (fun _ => AV.any) 2 (.v (.int .i64 v_2))) 7 (.own 1 0 near_7.length)) 20 (.sl (t20.flatMap aL) t20.length false)) 21 (.v (.int .i64 t21))) 22 (.v (.int .i64 t22))), ⟨(upd bL 1 (.cells 1 (near_7.flatMap (ci .i64)) 0)), 64⟩⟩ : St) ∧ nP (nA n1) v_2 near_7 t20 t21 t22 = some r) ?_ ?_
    ·
     refine AWp.block ?_
     refine sr (N' := 192) rfl ?_
     obtain ⟨x6, h5, hm⟩ := bnd hm
     refine pu rfl (cP aG Zd Tryz.underlying28 dQ Z1 rfl Z1 h5) ?_
     refine pA ?_
     refine hp (id := 130) rfl rfl (aY jI Z5) ?_
     refine aE.heap0 (id := 131) rfl (bG (ys := [.v (.int .i64 x6.U), .v (.int .i64 x6.V), .v (.int .i64 x6.Tier)]) dQ Z1 Z1 Z3 rfl (Nat.le_of_ble_eq_true rfl) Z9 rfl) ?_
     refine fs ?_
     refine sr (N' := 256) rfl ?_
     refine pA ?_
     refine fs ?_
     refine AWp.block ?_
     refine sr (N' := 320) rfl ?_
     refine pA ?_
     refine pu rfl (aD Z1 Z3 Z4) ?_
     iterate 2 refine pA ?_
     refine fs ?_
     refine AWp.condM hm Z1 (fun _ hm => ?_) (fun _ hm => ?_)
     ·
      refine AWp.reg 64 (N' := 384) rfl ?_
      iterate 2 refine pA ?_
      refine pu rfl (aD Z1 Z3 Z4) ?_
      refine hp (id := 323) rfl rfl (eE (CFi .i64) (l := [x6.V]) Tryz.underlying112 sz3 zc3 Z5 Zd Zd Zd (by simp only [go_sem, Nat.reduceBEq]; try rfl) (by kernel_rfl)) ?_
      obtain ⟨l8, h7, hm⟩ := bnd hm
      refine hp (id := 324) rfl rfl (iI (CFi .i64) Tryz.underlying112 Tryz.underlying112 rfl in3 ts3 (by rw [tb3]; decide) (by rw [tb3]; decide) tz3 Zd Zd Z1 Z3 Z6 (lM (CFi .i64) Z1 Z3 Z6) rfl Z5 h7) ?_
      refine pA ?_
      refine aE.fin ?_
      refine cA ?_
      refine cA ?_
      refine dY ?_
      refine ⟨_, ?_, v_2, l8, t20, t21, t22, rfl, hm⟩
      exact aN (fun j => bif j == 1 then 324 else 0) (wV (wV (wD (aG.sl _ _ _) (wO (wV aU))))) (hW (eU (CFi .i64) aR))
     ·
      refine sr (N' := 384) rfl ?_
      refine pA ?_
      refine pu rfl (aD Z1 Z3 Z4) ?_
      iterate 2 refine pA ?_
      refine fs ?_
      refine AWp.condM hm Z1 (fun _ hm => ?_) (fun _ hm => ?_)
      ·
       refine AWp.reg 64 (N' := 448) rfl ?_
       iterate 2 refine pA ?_
       refine pu rfl (aD Z1 Z3 Z4) ?_
       refine hp (id := 387) rfl rfl (eE (CFi .i64) (l := [x6.U]) Tryz.underlying112 sz3 zc3 Z5 Zd Zd Zd (by simp only [go_sem, Nat.reduceBEq]; try rfl) (by kernel_rfl)) ?_
       obtain ⟨l10, h9, hm⟩ := bnd hm
       refine hp (id := 388) rfl rfl (iI (CFi .i64) Tryz.underlying112 Tryz.underlying112 rfl in3 ts3 (by rw [tb3]; decide) (by rw [tb3]; decide) tz3 Zd Zd Z1 Z3 Z6 (lM (CFi .i64) Z1 Z3 Z6) rfl Z5 h9) ?_
       refine pA ?_
       refine aE.fin ?_
       refine cA ?_
       refine cA ?_
       refine dY ?_
       refine ⟨_, ?_, v_2, l10, t20, t21, t22, rfl, hm⟩
       exact aN (fun j => bif j == 1 then 388 else 0) (wV (wV (wD (aG.sl _ _ _) (wO (wV aU))))) (hW (eU (CFi .i64) aR))
      ·
       refine AWp.skip ?_
       refine cA ?_
       refine cA ?_
       refine dY ?_
       refine ⟨_, ?_, v_2, near_7, t20, t21, t22, rfl, hm⟩
       exact aN (fun j => bif j == 1 then 1 else 0) (wV (wV (wD (aG.sl _ _ _) (wO (wV aU))))) (hW (eU (CFi .i64) aR))
    ·
     rintro s ⟨v_2, near_7, t20, t21, t22, rfl, hm⟩
     unfold nP at hm
     refine AWp.reg 64 (N' := 128) rfl ?_
     iterate 2 refine pA ?_
     refine aE.fin ?_
     refine bU ?_
     refine ⟨_, ?_, v_2, near_7, t20, t21, (IntKind.i64.wrap (t22 + 1)), rfl, hm⟩
     exact aN (fun j => bif j == 1 then 1 else 0) (wV (wV (wD (aG.sl _ _ _) (wO (wV aU))))) (hW (eU (CFi .i64) aR))
   ·
    refine AWp.exit ?_
    refine cH ?_
    refine bW ?_
    refine bT ?_
    refine aF ?_
    refine sr (N' := 192) rfl ?_
    iterate 2 refine pA ?_
    refine fs ?_
    refine AWp.ret ?_
    cases hm
    exact bM (.inr rfl) Tryz.results101 (tdo (CFi .i64) Z1 Z3 Z6)
def sS (g_0 : aJ) (u_1 : Int) (v_2 : Int) : Option (Bool) :=
 ((dU g_0).bind fun r2 =>
 some ((((r2 && (decide (0 ≤ u_1))) && (decide (u_1 < g_0.Config.N))) && (decide (0 ≤ v_2))) && (decide (v_2 < g_0.Config.N))))
theorem aDo {g_0 : aJ} {u_1 : Int} {v_2 : Int} {r : Bool} (hm : sS g_0 u_1 v_2 = some r) : aT Tryz.prog 115 [.agg [.v (.int .i64 g_0.Config.N), .v (.int .i64 g_0.Config.L), .v (.int .i64 g_0.Config.R), .sl (g_0.Hashes.flatMap bA) g_0.Hashes.length false, .sl (g_0.Edges.flatMap aL) g_0.Edges.length false], .v (.int .i64 u_1), .v (.int .i64 v_2)] (.v (.bool r)) := by
 refine aT.of_body Tryz.func115 rfl ?_
 simp only [Tryz.ntmps115, List.length_cons, List.length_nil, Nat.reduceAdd, Nat.reduceSub, aQ]
 unfold sS at hm
 refine sr (N' := 64) rfl ?_
 refine hp (id := 0) rfl rfl (bO Z1 Z5) ?_
 refine pA ?_
 refine fs ?_
 refine sr (N' := 128) rfl ?_
 iterate 2 refine pA ?_
 refine pu rfl (aD Z1 Z3 Z4) ?_
 refine pA ?_
 refine fs ?_
 refine sr (N' := 192) rfl ?_
 refine pu rfl (aD Z1 Z3 Z2) ?_
 obtain ⟨r2, h1, hm⟩ := bnd hm
 refine aE.callQ (r := .v (.bool r2)) Zd Z1 aLe (fun H => (cD (.agg _ (cB.dat _)) .nil)) (gE h1) ?_
 iterate 19 first | refine pA ?_ | refine pB ?_
 refine fs ?_
 refine AWp.ret ?_
 cases hm
 exact bM (.inr rfl) Tryz.results115 (td Z1 (.v _))
def jT (s_0 : List aC) : Option ((List aC)) :=
 some s_0
def nQ (n_1 : Int) : Option ((List aC)) :=
 (bif (decide (0 < (IntKind.i64.wrap (n_1 - (IntKind.i64.wrap (((0 : Nat) : Int) - ((0 : Nat) : Int))))))) then
  ((chk (((0 : Nat) : Int) == 0)).bind fun _ =>
  ((chk (decide (0 < (IntKind.i64.wrap (n_1 - (IntKind.i64.wrap (((0 : Nat) : Int) - ((0 : Nat) : Int)))))) && decide ((IntKind.i64.wrap (n_1 - (IntKind.i64.wrap (((0 : Nat) : Int) - ((0 : Nat) : Int))))) ≤ 4294967296))).bind fun _ =>
  ((chk (((0 : Nat) : Int) == 0)).bind fun _ =>
  jT [])))
 else
  jT [])
def oK (n_1 : Int) : Option ((List aC)) :=
 (bif (decide (n_1 < 0)) then
  none
 else
  nQ n_1)
theorem aCs {n_1 : Int} {r : (List aC)} (hm : oK n_1 = some r) : dO Tryz.prog 167 [.v (.slice none 0 0), .v (.int .i64 n_1)] 3 (r.flatMap aL) r.length := by
 refine dO.of_body Tryz.func167 rfl (aG.fmdat r) ?_
 simp only [Tryz.ntmps167, List.length_cons, List.length_nil, Nat.reduceAdd, Nat.reduceSub, aQ]
 unfold oK at hm
 refine sr (N' := 64) rfl ?_
 refine pA ?_
 refine fs ?_
 refine AWp.seqJ (fun s => ∃ (n_1 : Int), s = (⟨27, (aK (aK (fun _ => AV.any) 0 (.v (.slice none 0 0))) 1 (.v (.int .i64 n_1))), ⟨bL, 64⟩⟩ : St) ∧ nQ n_1 = some r) ?_ ?_
 ·
  refine sr (N' := 128) rfl ?_
  iterate 2 refine pA ?_
  refine fs ?_
  refine AWp.condM hm Z1 (fun _ hm => ?_) (fun _ hm => ?_)
  ·
   cases hm
  ·
   refine AWp.skip ?_
   refine dY ?_
   refine ⟨_, ?_, n_1, rfl, hm⟩
   exact aN id (wV (wV aU)) cT
 ·
  rintro s ⟨n_1, rfl, hm⟩
  unfold nQ at hm
  refine AWp.seqJ (fun s => ∃ (s_0 : List aC), s = (⟨27, (aK (fun _ => AV.any) 0 (.own 1 0 s_0.length)), ⟨(upd bL 1 (.cells 3 (s_0.flatMap aL) 0)), 64⟩⟩ : St) ∧ jT s_0 = some r) ?_ ?_
  ·
   refine sr (N' := 128) rfl ?_
   iterate 2 refine pA ?_
   refine pu rfl (aP2 Tryz.underlying28 Z1) ?_
   iterate 5 refine pA ?_
   refine fs ?_
   refine sr (N' := 192) rfl ?_
   iterate 2 refine pA ?_
   refine fs ?_
   refine AWp.condM hm Z1 (fun _ hm => ?_) (fun _ hm => ?_)
   ·
    refine AWp.reg 64 (N' := 256) rfl ?_
    iterate 2 refine pA ?_
    refine pu rfl (aP2 Tryz.underlying28 Z1) ?_
    obtain ⟨_, h3, hm⟩ := bnd hm
    refine pu rfl (aTp Tryz.underlying28 dQ Z1 Z1 (eq_of_beq (dT h3))) ?_
    refine pA ?_
    obtain ⟨_, h4, hm⟩ := bnd hm
    refine hp (id := 197) rfl rfl (aXj Tryz.underlying28 Tryz.underlying3 rfl aFo aFm (by rw [sT]; decide) (by rw [sT]; decide) aFw Zd Zd Z1 Z1 Z5 h4) ?_
    iterate 2 refine pA ?_
    obtain ⟨_, h8, hm⟩ := bnd hm
    refine pu rfl (aXu Tryz.underlying28 dQ Z1 Z3 Z1 (eq_of_beq (dT h8))) ?_
    refine pA ?_
    refine aE.fin ?_
    refine dY ?_
    refine ⟨_, ?_, [], rfl, hm⟩
    refine St.Le.trans (aY6 197 Z3) ?_
    exact aN (fun j => bif j == 1 then 197 else 0) (wO aU) (hW (eU aG aR))
   ·
    refine AWp.skip ?_
    refine dY ?_
    refine ⟨_, ?_, [], rfl, hm⟩
    refine St.Le.trans (kA 0 900000 3 Z1 Z5) ?_
    exact aN (fun j => bif j == 1 then 900000 else 0) (wO aU) (hW (eU aG aR))
  ·
   rintro s ⟨s_0, rfl, hm⟩
   unfold jT at hm
   refine sr (N' := 128) rfl ?_
   iterate 2 refine pA ?_
   refine fs ?_
   refine AWp.ret ?_
   cases hm
   exact aC8 (.inr rfl) Tryz.results167 Z1 Z3 Z6
def lN (rec1 : List (List aC) → Int → List (List aC) → Int → Int → Option ((List aC))) (slices_0 : List (List aC)) (size_3 : Int) (t9 : List (List aC)) (t10 : Int) (t11 : Int) : Option ((List aC)) :=
 rec1 slices_0 size_3 t9 t10 (IntKind.i64.wrap (t11 + 1))
def lK (rec2 : List aC → List (List aC) → Int → Int → Option ((List aC))) (newslice_6 : List aC) (t25 : List (List aC)) (t26 : Int) (t27 : Int) : Option ((List aC)) :=
 (bif (decide (t27 < t26)) then
  ((idx t25 t27).bind fun x6 =>
  ((app newslice_6 x6).bind fun l8 =>
  rec2 l8 t25 t26 (IntKind.i64.wrap (t27 + 1))))
 else
  some newslice_6)
def iA : Nat → List aC → List (List aC) → Int → Int → Option ((List aC))
 | 0 => fun _ _ _ _ => none
 | n + 1 => lK (iA n)
def lL (rec1 : List (List aC) → Int → List (List aC) → Int → Int → Option ((List aC))) (slices_0 : List (List aC)) (size_3 : Int) (t9 : List (List aC)) (t10 : Int) (t11 : Int) : Option ((List aC)) :=
 (bif (decide (t11 < t10)) then
  ((idx t9 t11).bind fun x2 =>
  (bif (decide ((IntKind.i64.wrap (size_3 + (x2.length : Int))) < 0)) then
   none
  else
   lN rec1 slices_0 (IntKind.i64.wrap (size_3 + (x2.length : Int))) t9 t10 t11))
 else
  ((oK size_3).bind fun r4 =>
  iA bY r4 slices_0 (slices_0.length : Int) 0))
def gA : Nat → List (List aC) → Int → List (List aC) → Int → Int → Option ((List aC))
 | 0 => fun _ _ _ _ _ => none
 | n + 1 => lL (gA n)
def iQ (slices_0 : List (List aC)) : Option ((List aC)) :=
 gA bY slices_0 0 slices_0 (slices_0.length : Int) 0
theorem rP {slices_0 : List (List aC)} {r : (List aC)} (hm : iQ slices_0 = some r) : aT Tryz.prog 140 [.sl (slices_0.flatMap (csl aL)) slices_0.length false] (.sl (r.flatMap aL) r.length false) := by
 refine aT.of_body Tryz.func140 rfl ?_
 simp only [Tryz.ntmps140, List.length_cons, List.length_nil, Nat.reduceAdd, Nat.reduceSub, aQ]
 unfold iQ at hm
 refine sr (N' := 64) rfl ?_
 refine pA ?_
 refine fs ?_
 refine sr (N' := 128) rfl ?_
 refine pA ?_
 refine fs ?_
 refine AWp.seq' ?_
 refine sr (N' := 192) rfl ?_
 iterate 3 refine pA ?_
 refine fs ?_
 refine AWp.block ?_
 refine AWp.loopM (fun m s => ∃ (slices_0 : List (List aC)) (size_3 : Int) (t9 : List (List aC)) (t10 : Int) (t11 : Int), s = (⟨36, (aK (aK (aK (aK (aK (fun _ => AV.any) 0 (.sl (slices_0.flatMap (csl aL)) slices_0.length false)) 3 (.v (.int .i64 size_3))) 9 (.sl (t9.flatMap (csl aL)) t9.length false)) 10 (.v (.int .i64 t10))) 11 (.v (.int .i64 t11))), ⟨bL, 64⟩⟩ : St) ∧ gA m slices_0 size_3 t9 t10 t11 = some r) bY ?_ ?_ ?_
 ·
  rintro s ⟨_, _, _, _, _, _, h⟩
  cases h
 ·
  refine ⟨_, ?_, slices_0, 0, slices_0, (slices_0.length : Int), 0, rfl, hm⟩
  exact aN id (wV (wV (wD ((CFl aG).sl _ _ _) (wV (wD ((CFl aG).sl _ _ _) aU))))) cT
 ·
  rintro n1 s ⟨slices_0, size_3, t9, t10, t11, rfl, hm⟩
  replace hm : lL (gA n1) slices_0 size_3 t9 t10 t11 = some r := hm
  unfold lL at hm
  refine sr (N' := 128) rfl ?_
  refine pA ?_
  refine fs ?_
  refine AWp.seq' ?_
  refine AWp.condM hm Z1 (fun _ hm => ?_) (fun _ hm => ?_)
  ·
   refine AWp.skip ?_
   refine aF ?_
   refine AWp.seqJ (fun s => ∃ (slices_0 : List (List aC)) (size_3 : Int) (t9 : List (List aC)) (t10 : Int) (t11 : Int), s = (⟨36, (aK (aK (aK (aK (aK (fun _ => AV.any) 0 (.sl (slices_0.flatMap (csl aL)) slices_0.length false)) 3 (.v (.int .i64 size_3))) 9 (.sl (t9.flatMap (csl aL)) t9.length false)) 10 (.v (.int .i64 t10))) 11 (.v (.int .i64 t11))), ⟨bL, 64⟩⟩ : St) ∧ lN (gA n1) slices_0 size_3 t9 t10 t11 = some r) ?_ ?_
   ·
    refine AWp.block ?_
    refine sr (N' := 192) rfl ?_
    obtain ⟨x2, h1, hm⟩ := bnd hm
    refine pu rfl (cP (CFl aG) Zd Tryz.underlying225 aJ7 Z1 rfl Z1 h1) ?_
    iterate 2 refine pA ?_
    refine fs ?_
    refine sr (N' := 256) rfl ?_
    iterate 5 refine pA ?_
    refine fs ?_
    refine sr (N' := 320) rfl ?_
    iterate 2 refine pA ?_
    refine fs ?_
    refine AWp.condM hm Z1 (fun _ hm => ?_) (fun _ hm => ?_)
    ·
     cases hm
    ·
     refine AWp.skip ?_
     refine cA ?_
     refine dY ?_
     refine ⟨_, ?_, slices_0, (IntKind.i64.wrap (size_3 + (x2.length : Int))), t9, t10, t11, rfl, hm⟩
     exact aN id (wV (wV (wD ((CFl aG).sl _ _ _) (wV (wD ((CFl aG).sl _ _ _) aU))))) cT
   ·
    rintro s ⟨slices_0, size_3, t9, t10, t11, rfl, hm⟩
    unfold lN at hm
    refine AWp.reg 64 (N' := 128) rfl ?_
    iterate 2 refine pA ?_
    refine aE.fin ?_
    refine bU ?_
    refine ⟨_, ?_, slices_0, size_3, t9, t10, (IntKind.i64.wrap (t11 + 1)), rfl, hm⟩
    exact aN id (wV (wV (wD ((CFl aG).sl _ _ _) (wV (wD ((CFl aG).sl _ _ _) aU))))) cT
  ·
   refine AWp.exit ?_
   refine cH ?_
   refine bW ?_
   refine bT ?_
   refine aF ?_
   refine sr (N' := 192) rfl ?_
   refine pA ?_
   obtain ⟨r4, h3, hm⟩ := bnd hm
   refine aE.callF (id := 129) Zd Z1 bDv (fun H => (cV (cV .nil))) aG Z5 (aCs h3) ?_
   refine pA ?_
   refine fs ?_
   refine AWp.seq' ?_
   refine sr (N' := 256) rfl ?_
   iterate 3 refine pA ?_
   refine fs ?_
   refine AWp.block ?_
   refine AWp.loopM (fun m s => ∃ (newslice_6 : List aC) (t25 : List (List aC)) (t26 : Int) (t27 : Int), s = (⟨36, (aK (aK (aK (aK (fun _ => AV.any) 6 (.own 1 0 newslice_6.length)) 25 (.sl (t25.flatMap (csl aL)) t25.length false)) 26 (.v (.int .i64 t26))) 27 (.v (.int .i64 t27))), ⟨(upd bL 1 (.cells 3 (newslice_6.flatMap aL) 0)), 64⟩⟩ : St) ∧ iA m newslice_6 t25 t26 t27 = some r) bY ?_ ?_ ?_
   ·
    rintro s ⟨_, _, _, _, _, h⟩
    cases h
   ·
    refine ⟨_, ?_, r4, slices_0, (slices_0.length : Int), 0, rfl, hm⟩
    exact aN (fun j => bif j == 1 then 129 else 0) (wV (wV (wD ((CFl aG).sl _ _ _) (wO aU)))) (hW (eU aG aR))
   ·
    rintro n2 s ⟨newslice_6, t25, t26, t27, rfl, hm⟩
    replace hm : lK (iA n2) newslice_6 t25 t26 t27 = some r := hm
    unfold lK at hm
    refine sr (N' := 128) rfl ?_
    refine pA ?_
    refine fs ?_
    refine AWp.seq' ?_
    refine AWp.condM hm Z1 (fun _ hm => ?_) (fun _ hm => ?_)
    ·
     refine AWp.skip ?_
     refine aF ?_
     refine AWp.seq' ?_
     refine AWp.block ?_
     refine sr (N' := 192) rfl ?_
     obtain ⟨x6, h5, hm⟩ := bnd hm
     refine pu rfl (cP (CFl aG) Zd Tryz.underlying225 aJ7 Z1 rfl Z1 h5) ?_
     iterate 2 refine pA ?_
     refine fs ?_
     refine AWp.reg 64 (N' := 256) rfl ?_
     iterate 2 refine pA ?_
     obtain ⟨l8, h7, hm⟩ := bnd hm
     refine hp (id := 194) rfl rfl (iI aG Tryz.underlying28 Tryz.underlying28 rfl aFo aFm (by rw [sT]; decide) (by rw [sT]; decide) aFw Zd Zd Z1 Z3 Z6 (aJx aG Z1 rfl) rfl Z5 h7) ?_
     refine pA ?_
     refine aE.fin ?_
     refine cA ?_
     refine aF ?_
     refine AWp.reg 64 (N' := 320) rfl ?_
     iterate 2 refine pA ?_
     refine aE.fin ?_
     refine bU ?_
     refine ⟨_, ?_, l8, t25, t26, (IntKind.i64.wrap (t27 + 1)), rfl, hm⟩
     exact aN (fun j => bif j == 1 then 194 else 0) (wV (wV (wD ((CFl aG).sl _ _ _) (wO aU)))) (hW (eU aG aR))
    ·
     refine AWp.exit ?_
     refine cH ?_
     refine bW ?_
     refine bT ?_
     refine aF ?_
     refine sr (N' := 192) rfl ?_
     iterate 2 refine pA ?_
     refine fs ?_
     refine AWp.ret ?_
     cases hm
     exact bM (.inr rfl) Tryz.results140 (tdo aG Z1 Z3 Z6)
def xA (rec1 : List aC → aC → Int → Option ((List aC) × Int)) (l_1 : List aC) (added_12 : aC) (place_13 : Int) : Option ((List aC) × Int) :=
 ((fA ((decide (place_13 < (l_1.length : Int))) == true) (aC.mk 0 0 0) (idx l_1 place_13)).bind fun x11 =>
 ((fA ((decide (place_13 < (l_1.length : Int))) == true) false (mD x11 added_12)).bind fun r13 =>
 (bif ((decide (place_13 < (l_1.length : Int))) && r13) then
  rec1 l_1 added_12 (IntKind.i64.wrap (place_13 + 1))
 else
  ((slc l_1 0 place_13).bind fun l15 =>
  ((slc l_1 place_13 (l_1.length : Int)).bind fun l17 =>
  ((iQ [l15, [added_12], l17]).bind fun r19 =>
  some (r19, 0)))))))
def tI : Nat → List aC → aC → Int → Option ((List aC) × Int)
 | 0 => fun _ _ _ => none
 | n + 1 => xA (tI n)
def aAs (n_0 : Int) (l_1 : List aC) (u_2 : Int) (v_3 : Int) : Option ((List aC) × Int) :=
 ((fC n_0 l_1).bind fun r2 =>
 ((fA ((!r2) == false) false (fS n_0 u_2)).bind fun r4 =>
 ((fA (((!r2) || (!r4)) == false) false (fS n_0 v_3)).bind fun r6 =>
 (bif (((!r2) || (!r4)) || (!r6)) then
  some (l_1, 1)
 else
  (bif (u_2 == v_3) then
   some (l_1, 8)
  else
   ((mE l_1 u_2 v_3).bind fun ⟨r8, r9⟩ =>
   (bif r9 then
    some (l_1, 4)
   else
    tI bY l_1 (aC.mk (if v_3 < u_2 then v_3 else u_2) (if u_2 < v_3 then v_3 else u_2) 0) 0)))))))
theorem aM6 {n_0 : Int} {l_1 : List aC} {u_2 : Int} {v_3 : Int} {r : (List aC) × Int} (hm : aAs n_0 l_1 u_2 v_3 = some r) : aT Tryz.prog 116 [.v (.int .i64 n_0), .sl (l_1.flatMap aL) l_1.length false, .v (.int .i64 u_2), .v (.int .i64 v_3)] (.tup [.sl (r.1.flatMap aL) r.1.length false, .v (.int .i64 r.2)]) := by
 refine aT.of_body Tryz.func116 rfl ?_
 simp only [Tryz.ntmps116, List.length_cons, List.length_nil, Nat.reduceAdd, Nat.reduceSub, aQ]
 unfold aAs at hm
 refine sr (N' := 64) rfl ?_
 iterate 2 refine pA ?_
 refine fs ?_
 refine AWp.seq' ?_
 refine sr (N' := 128) rfl ?_
 iterate 2 refine pA ?_
 obtain ⟨r2, h1, hm⟩ := bnd hm
 refine aE.callQ (r := .v (.bool r2)) Zd Z1 aOg (fun H => (cV (cD (aG.sl _ _ _) .nil))) (iN h1) ?_
 iterate 4 first | refine pA ?_ | refine pB ?_
 obtain ⟨r4, h3, hm⟩ := bnd hm
 refine aE.callQG (r := .v (.bool r4)) Zd rfl Z2 Z1 aGa (fun hb H => (.cons (td (Zh hb) (.v _)) (.cons (td (Zh hb) (.v _)) .nil))) (fun hb => gY (dA h3 hb)) ?_
 iterate 5 first | refine pA ?_ | refine pB ?_
 obtain ⟨r6, h5, hm⟩ := bnd hm
 refine aE.callQG (r := .v (.bool r6)) Zd rfl Z2 Z1 aGa (fun hb H => (.cons (td (Zh hb) (.v _)) (.cons (td (Zh hb) (.v _)) .nil))) (fun hb => gY (dA h5 hb)) ?_
 iterate 2 first | refine pA ?_ | refine pB ?_
 refine fs ?_
 refine AWp.condM hm Z1 (fun _ hm => ?_) (fun _ hm => ?_)
 ·
  refine sr (N' := 192) rfl ?_
  iterate 3 refine pA ?_
  refine fs ?_
  refine AWp.ret ?_
  refine bB ?_
  cases hm
  exact fE (.inr rfl) Tryz.results116 (td Z1 (aG.sl _ _ _)) (td Z1 (.v _))
 ·
  refine AWp.skip ?_
  refine aF ?_
  refine AWp.seq' ?_
  refine sr (N' := 192) rfl ?_
  iterate 3 refine pA ?_
  refine fs ?_
  refine AWp.condM hm Z1 (fun _ hm => ?_) (fun _ hm => ?_)
  ·
   refine sr (N' := 256) rfl ?_
   iterate 3 refine pA ?_
   refine fs ?_
   refine AWp.ret ?_
   refine bB ?_
   cases hm
   exact fE (.inr rfl) Tryz.results116 (td Z1 (aG.sl _ _ _)) (td Z1 (.v _))
  ·
   refine AWp.skip ?_
   refine aF ?_
   refine AWp.seq' ?_
   refine sr (N' := 256) rfl ?_
   iterate 3 refine pA ?_
   obtain ⟨⟨r8, r9⟩, h7, hm⟩ := bnd hm
   refine aE.callQ (r := .tup [.v (.int .i64 r8), .v (.bool r9)]) Zd Z1 aUc (fun H => (cD (aG.sl _ _ _) (cV (cV .nil)))) (sA h7) ?_
   iterate 5 refine pA ?_
   refine fs ?_
   refine sr (N' := 320) rfl ?_
   refine pA ?_
   refine fs ?_
   refine AWp.condM hm Z1 (fun _ hm => ?_) (fun _ hm => ?_)
   ·
    refine sr (N' := 384) rfl ?_
    iterate 3 refine pA ?_
    refine fs ?_
    refine AWp.ret ?_
    refine bB ?_
    cases hm
    exact fE (.inr rfl) Tryz.results116 (td Z1 (aG.sl _ _ _)) (td Z1 (.v _))
   ·
    refine AWp.skip ?_
    refine aF ?_
    refine sr (N' := 384) rfl ?_
    iterate 6 refine pA ?_
    refine pu rfl (by simp only [go_sem, Nat.reduceBEq]; exact (by kernel_rfl : dJ Tryz.prog 102 [(0, .v (.int .i64 (if v_3 < u_2 then v_3 else u_2))), (1, .v (.int .i64 (if u_2 < v_3 then v_3 else u_2)))] = some (.agg [.v (.int .i64 (if v_3 < u_2 then v_3 else u_2)), .v (.int .i64 (if u_2 < v_3 then v_3 else u_2)), .v (.int .i64 0)]))) ?_
    refine hp (id := 327) rfl rfl (aY jI Z5) ?_
    refine aE.heap0 (id := 328) rfl (bG (ys := [.v (.int .i64 (if v_3 < u_2 then v_3 else u_2)), .v (.int .i64 (if u_2 < v_3 then v_3 else u_2)), .v (.int .i64 0)]) dQ Z1 Z1 Z3 rfl (Nat.le_of_ble_eq_true rfl) Z9 rfl) ?_
    refine fs ?_
    refine sr (N' := 448) rfl ?_
    refine pA ?_
    refine fs ?_
    refine AWp.seq' ?_
    refine AWp.block ?_
    refine AWp.loopM (fun m s => ∃ (l_1 : List aC) (added_12 : aC) (place_13 : Int), s = (⟨75, (aK (aK (aK (fun _ => AV.any) 1 (.sl (l_1.flatMap aL) l_1.length false)) 12 (.adr 1 0)) 13 (.v (.int .i64 place_13))), ⟨(upd bL 1 (.cells 1 [.v (.int .i64 added_12.U), .v (.int .i64 added_12.V), .v (.int .i64 added_12.Tier)] 0)), 64⟩⟩ : St) ∧ tI m l_1 added_12 place_13 = some r) bY ?_ ?_ ?_
    ·
     rintro s ⟨_, _, _, _, h⟩
     cases h
    ·
     refine ⟨_, ?_, l_1, (aC.mk (if v_3 < u_2 then v_3 else u_2) (if u_2 < v_3 then v_3 else u_2) 0), 0, rfl, hm⟩
     exact aN (fun j => bif j == 1 then 327 else 0) (wV (aX _ _ (bQ Z1 rfl Z7) (wD (aG.sl _ _ _) aU))) (cL _ (aV (aO Z3 (Nat.le_refl _) (Nat.zero_le _) (aG.dat (aC.mk (if v_3 < u_2 then v_3 else u_2) (if u_2 < v_3 then v_3 else u_2) 0))) aR) Z8)
    ·
     rintro n1 s ⟨l_1, added_12, place_13, rfl, hm⟩
     replace hm : xA (tI n1) l_1 added_12 place_13 = some r := hm
     unfold xA at hm
     refine AWp.seq' ?_
     refine sd mix (by kernel_rfl) (N' := 128) rfl ?_
     iterate 7 first | refine pA ?_ | refine pB ?_
     obtain ⟨x11, h10, hm⟩ := bnd hm
     refine pg rfl rfl Z2 (fun hb => (cP aG Zd Tryz.underlying28 dQ (Zh hb) rfl (Zh hb) (dA h10 hb))) ?_
     refine pB ?_
     refine pg rfl rfl Z2 (fun hb => (aD (Zh hb) Z3 Z2)) ?_
     obtain ⟨r13, h12, hm⟩ := bnd hm
     refine aE.callQG (r := .v (.bool r13)) Zd rfl Z2 Z1 aVn (fun hb H => (.cons (td (Zh hb) (.agg _ (aG.dat _))) (.cons (td (Zh hb) (.agg _ (aG.dat _))) .nil))) (fun hb => aA9 (dA h12 hb)) ?_
     refine pA ?_
     refine fs ?_
     refine AWp.condM hm Z1 (fun _ hm => ?_) (fun _ hm => ?_)
     ·
      refine AWp.skip ?_
      refine aF ?_
      refine AWp.block ?_
      refine AWp.reg 64 (N' := 192) rfl ?_
      iterate 3 refine pA ?_
      refine aE.fin ?_
      refine cA ?_
      refine bU ?_
      refine ⟨_, ?_, l_1, added_12, (IntKind.i64.wrap (place_13 + 1)), rfl, hm⟩
      exact aN (fun j => bif j == 1 then 1 else 0) (wV (aX _ _ (bQ Z1 rfl Z7) (wD (aG.sl _ _ _) aU))) (hW (aV (aO Z3 (Nat.le_refl _) (Nat.zero_le _) (aG.dat added_12)) aR))
     ·
      refine AWp.exit ?_
      refine cH ?_
      refine bW ?_
      refine bT ?_
      refine aF ?_
      refine sd mix (by kernel_rfl) (N' := 192) rfl ?_
      iterate 2 refine pA ?_
      obtain ⟨l15, h14, hm⟩ := bnd hm
      refine pu rfl (xD aG Tryz.underlying28 dQ Z1 rfl aG1 (qO Z1 (aC0 h14).2) h14) ?_
      refine pu rfl (aD Z1 Z3 Z2) ?_
      refine aE.pop Zd (sU (ps := [(0, .agg [.v (.int .i64 added_12.U), .v (.int .i64 added_12.V), .v (.int .i64 added_12.Tier)])]) (by simp only [go_sem, Nat.reduceBEq]; try rfl) (mY (.agg _ (aG.dat added_12)) aEs)) (aBw aG (l := [added_12]) (xs := [.v (.int .i64 added_12.U), .v (.int .i64 added_12.V), .v (.int .i64 added_12.Tier)]) Tryz.underlying28 dQ jI Zd Zd Zd (ps := [(0, .agg [.v (.int .i64 added_12.U), .v (.int .i64 added_12.V), .v (.int .i64 added_12.Tier)])]) (by simp only [go_sem, Nat.reduceBEq]; try rfl) (by kernel_rfl) (fun H => (.cons (.data _ (.v _)) (.cons (.data _ (.v _)) (.cons (.data _ (.v _)) .nil))))) rfl ?_
      iterate 2 refine pA ?_
      obtain ⟨l17, h16, hm⟩ := bnd hm
      refine pu rfl (xD aG Tryz.underlying28 dQ Z1 rfl (qO Z1 (aC0 h16).1) (aEr _) h16) ?_
      refine aE.pop Zd (sU (ps := [(0, .sl (l15.flatMap aL) l15.length (false && (place_13 : Int).toNat == l_1.length)), (1, .sl (([added_12]).flatMap aL) ([added_12]).length false), (2, .sl (l17.flatMap aL) l17.length (false && ((l_1.length : Int) : Int).toNat == l_1.length))]) (by simp only [go_sem, Nat.reduceBEq]; try rfl) (mY (aG.sl _ _ _) (mY (aG.sl _ _ _) (mY (aG.sl _ _ _) aEs)))) (aBw (CFl aG) (l := [l15, [added_12], l17]) (xs := [.sl (l15.flatMap aL) l15.length (false && (place_13 : Int).toNat == l_1.length), .sl (([added_12]).flatMap aL) ([added_12]).length false, .sl (l17.flatMap aL) l17.length (false && ((l_1.length : Int) : Int).toNat == l_1.length)]) Tryz.underlying225 aJ7 bFn Zd Zd Zd (ps := [(0, .sl (l15.flatMap aL) l15.length (false && (place_13 : Int).toNat == l_1.length)), (1, .sl (([added_12]).flatMap aL) ([added_12]).length false), (2, .sl (l17.flatMap aL) l17.length (false && ((l_1.length : Int) : Int).toNat == l_1.length))]) (by simp only [go_sem, Nat.reduceBEq]; try rfl) (by kernel_rfl) (fun H => (.cons (tdf rfl (aG.sl _ _ _)) (.cons (.data _ (aG.sl _ _ _)) (.cons (tdf rfl (aG.sl _ _ _)) .nil))))) rfl ?_
      obtain ⟨r19, h18, hm⟩ := bnd hm
      refine aE.callQ (r := .sl (r19.flatMap aL) r19.length false) Zd Z1 aZf (fun H => (cD ((CFl aG).sl _ _ _) .nil)) (rP h18) ?_
      iterate 2 refine pA ?_
      refine fs ?_
      refine AWp.ret ?_
      cases hm
      exact fE (.inr rfl) Tryz.results116 (td Z1 (aG.sl _ _ _)) (td Z1 (.v _))
def uE (n_0 : Int) (l_1 : List aC) (u_2 : Int) (v_3 : Int) : Option ((List aC) × Int) :=
 ((fC n_0 l_1).bind fun r2 =>
 ((fA ((!r2) == false) false (fS n_0 u_2)).bind fun r4 =>
 ((fA (((!r2) || (!r4)) == false) false (fS n_0 v_3)).bind fun r6 =>
 (bif (((!r2) || (!r4)) || (!r6)) then
  some (l_1, 1)
 else
  ((mE l_1 u_2 v_3).bind fun ⟨r8, r9⟩ =>
  (bif (!r9) then
   some (l_1, 9)
  else
   ((slc l_1 0 r8).bind fun l11 =>
   ((slc l_1 (IntKind.i64.wrap (r8 + 1)) (l_1.length : Int)).bind fun l13 =>
   ((iQ [l11, l13]).bind fun r15 =>
   some (r15, 0))))))))))
theorem aH2 {n_0 : Int} {l_1 : List aC} {u_2 : Int} {v_3 : Int} {r : (List aC) × Int} (hm : uE n_0 l_1 u_2 v_3 = some r) : aT Tryz.prog 118 [.v (.int .i64 n_0), .sl (l_1.flatMap aL) l_1.length false, .v (.int .i64 u_2), .v (.int .i64 v_3)] (.tup [.sl (r.1.flatMap aL) r.1.length false, .v (.int .i64 r.2)]) := by
 refine aT.of_body Tryz.func118 rfl ?_
 simp only [Tryz.ntmps118, List.length_cons, List.length_nil, Nat.reduceAdd, Nat.reduceSub, aQ]
 unfold uE at hm
 refine sr (N' := 64) rfl ?_
 iterate 2 refine pA ?_
 refine fs ?_
 refine AWp.seq' ?_
 refine sr (N' := 128) rfl ?_
 iterate 2 refine pA ?_
 obtain ⟨r2, h1, hm⟩ := bnd hm
 refine aE.callQ (r := .v (.bool r2)) Zd Z1 aOg (fun H => (cV (cD (aG.sl _ _ _) .nil))) (iN h1) ?_
 iterate 4 first | refine pA ?_ | refine pB ?_
 obtain ⟨r4, h3, hm⟩ := bnd hm
 refine aE.callQG (r := .v (.bool r4)) Zd rfl Z2 Z1 aGa (fun hb H => (.cons (td (Zh hb) (.v _)) (.cons (td (Zh hb) (.v _)) .nil))) (fun hb => gY (dA h3 hb)) ?_
 iterate 5 first | refine pA ?_ | refine pB ?_
 obtain ⟨r6, h5, hm⟩ := bnd hm
 refine aE.callQG (r := .v (.bool r6)) Zd rfl Z2 Z1 aGa (fun hb H => (.cons (td (Zh hb) (.v _)) (.cons (td (Zh hb) (.v _)) .nil))) (fun hb => gY (dA h5 hb)) ?_
 iterate 2 first | refine pA ?_ | refine pB ?_
 refine fs ?_
 refine AWp.condM hm Z1 (fun _ hm => ?_) (fun _ hm => ?_)
 ·
  refine sr (N' := 192) rfl ?_
  iterate 3 refine pA ?_
  refine fs ?_
  refine AWp.ret ?_
  refine bB ?_
  cases hm
  exact fE (.inr rfl) Tryz.results118 (td Z1 (aG.sl _ _ _)) (td Z1 (.v _))
 ·
  refine AWp.skip ?_
  refine aF ?_
  refine sr (N' := 192) rfl ?_
  iterate 3 refine pA ?_
  obtain ⟨⟨r8, r9⟩, h7, hm⟩ := bnd hm
  refine aE.callQ (r := .tup [.v (.int .i64 r8), .v (.bool r9)]) Zd Z1 aUc (fun H => (cD (aG.sl _ _ _) (cV (cV .nil)))) (sA h7) ?_
  iterate 5 refine pA ?_
  refine fs ?_
  refine AWp.seq' ?_
  refine sr (N' := 256) rfl ?_
  iterate 2 refine pA ?_
  refine fs ?_
  refine AWp.condM hm Z1 (fun _ hm => ?_) (fun _ hm => ?_)
  ·
   refine sr (N' := 320) rfl ?_
   iterate 3 refine pA ?_
   refine fs ?_
   refine AWp.ret ?_
   refine bB ?_
   cases hm
   exact fE (.inr rfl) Tryz.results118 (td Z1 (aG.sl _ _ _)) (td Z1 (.v _))
  ·
   refine AWp.skip ?_
   refine aF ?_
   refine sd mix (by kernel_rfl) (N' := 320) rfl ?_
   iterate 2 refine pA ?_
   obtain ⟨l11, h10, hm⟩ := bnd hm
   refine pu rfl (xD aG Tryz.underlying28 dQ Z1 rfl aG1 (qO Z1 (aC0 h10).2) h10) ?_
   iterate 3 refine pA ?_
   obtain ⟨l13, h12, hm⟩ := bnd hm
   refine pu rfl (xD aG Tryz.underlying28 dQ Z1 rfl (qO Z1 (aC0 h12).1) (aEr _) h12) ?_
   refine aE.pop Zd (sU (ps := [(0, .sl (l11.flatMap aL) l11.length (false && (r8 : Int).toNat == l_1.length)), (1, .sl (l13.flatMap aL) l13.length (false && ((l_1.length : Int) : Int).toNat == l_1.length))]) (by simp only [go_sem, Nat.reduceBEq]; try rfl) (mY (aG.sl _ _ _) (mY (aG.sl _ _ _) aEs))) (aBw (CFl aG) (l := [l11, l13]) (xs := [.sl (l11.flatMap aL) l11.length (false && (r8 : Int).toNat == l_1.length), .sl (l13.flatMap aL) l13.length (false && ((l_1.length : Int) : Int).toNat == l_1.length)]) Tryz.underlying225 aJ7 bFn Zd Zd Zd (ps := [(0, .sl (l11.flatMap aL) l11.length (false && (r8 : Int).toNat == l_1.length)), (1, .sl (l13.flatMap aL) l13.length (false && ((l_1.length : Int) : Int).toNat == l_1.length))]) (by simp only [go_sem, Nat.reduceBEq]; try rfl) (by kernel_rfl) (fun H => (.cons (tdf rfl (aG.sl _ _ _)) (.cons (tdf rfl (aG.sl _ _ _)) .nil)))) rfl ?_
   obtain ⟨r15, h14, hm⟩ := bnd hm
   refine aE.callQ (r := .sl (r15.flatMap aL) r15.length false) Zd Z1 aZf (fun H => (cD ((CFl aG).sl _ _ _) .nil)) (rP h14) ?_
   iterate 2 refine pA ?_
   refine fs ?_
   refine AWp.ret ?_
   cases hm
   exact fE (.inr rfl) Tryz.results118 (td Z1 (aG.sl _ _ _)) (td Z1 (.v _))
def yX (n_0 : Int) : Option (Int) :=
 some (Int.tmod n_0 2305843009213693951)
theorem aEt {n_0 : Int} {r : Int} (hm : yX n_0 = some r) : aT Tryz.prog 164 [.v (.int .u64 n_0)] (.v (.int .u64 r)) := by
 refine aT.of_body Tryz.func164 rfl ?_
 simp only [Tryz.ntmps164, List.length_cons, List.length_nil, Nat.reduceAdd, Nat.reduceSub, aQ]
 unfold yX at hm
 refine sr (N' := 64) rfl ?_
 refine pA ?_
 refine fs ?_
 refine sr (N' := 128) rfl ?_
 iterate 3 refine pu rfl (by simp only [go_sem, Nat.reduceBEq, Int.reduceEq, Int.reduceLE]; try with_reducible rfl) ?_
 refine fs ?_
 refine AWp.ret ?_
 cases hm
 exact bM (.inr rfl) Tryz.results164 (td Z1 (.v _))
def aF3 (a_0 : Int) (b_1 : Int) : Option (Int) :=
 ((yX a_0).bind fun r2 =>
 ((yX b_1).bind fun r4 =>
 some (Int.tmod (IntKind.u64.wrap (r2 + r4)) 2305843009213693951)))
theorem aVg {a_0 : Int} {b_1 : Int} {r : Int} (hm : aF3 a_0 b_1 = some r) : aT Tryz.prog 138 [.v (.int .u64 a_0), .v (.int .u64 b_1)] (.v (.int .u64 r)) := by
 refine aT.of_body Tryz.func138 rfl ?_
 simp only [Tryz.ntmps138, List.length_cons, List.length_nil, Nat.reduceAdd, Nat.reduceSub, aQ]
 unfold aF3 at hm
 refine sr (N' := 64) rfl ?_
 refine pA ?_
 refine fs ?_
 refine sr (N' := 128) rfl ?_
 refine pA ?_
 obtain ⟨r2, h1, hm⟩ := bnd hm
 refine aE.callQ (r := .v (.int .u64 r2)) Zd Z1 aPl (fun H => (cV .nil)) (aEt h1) ?_
 refine pA ?_
 obtain ⟨r4, h3, hm⟩ := bnd hm
 refine aE.callQ (r := .v (.int .u64 r4)) Zd Z1 aPl (fun H => (cV .nil)) (aEt h3) ?_
 iterate 3 refine pu rfl (by simp only [go_sem, Nat.reduceBEq, Int.reduceEq, Int.reduceLE]; try with_reducible rfl) ?_
 refine fs ?_
 refine AWp.ret ?_
 cases hm
 exact bM (.inr rfl) Tryz.results138 (td Z1 (.v _))
def xK (x_0 : Int) (y_1 : Int) : Option (Int × Int) :=
 some ((IntKind.u64.wrap ((IntKind.u64.wrap ((IntKind.u64.wrap ((shr .u64 x_0 32) * (shr .u64 y_1 32))) + (shr .u64 (IntKind.u64.wrap ((IntKind.u64.wrap ((shr .u64 x_0 32) * (zK .u64 y_1 4294967295))) + (shr .u64 (IntKind.u64.wrap ((zK .u64 x_0 4294967295) * (zK .u64 y_1 4294967295))) 32))) 32))) + (shr .u64 (IntKind.u64.wrap ((zK .u64 (IntKind.u64.wrap ((IntKind.u64.wrap ((shr .u64 x_0 32) * (zK .u64 y_1 4294967295))) + (shr .u64 (IntKind.u64.wrap ((zK .u64 x_0 4294967295) * (zK .u64 y_1 4294967295))) 32))) 4294967295) + (IntKind.u64.wrap ((zK .u64 x_0 4294967295) * (shr .u64 y_1 32))))) 32))), (IntKind.u64.wrap (x_0 * y_1)))
theorem aKd {x_0 : Int} {y_1 : Int} {r : Int × Int} (hm : xK x_0 y_1 = some r) : aT Tryz.prog 165 [.v (.int .u64 x_0), .v (.int .u64 y_1)] (.tup [.v (.int .u64 r.1), .v (.int .u64 r.2)]) := by
 refine aT.of_body Tryz.func165 rfl ?_
 simp only [Tryz.ntmps165, List.length_cons, List.length_nil, Nat.reduceAdd, Nat.reduceSub, aQ]
 unfold xK at hm
 refine sr (N' := 64) rfl ?_
 iterate 2 refine pA ?_
 refine fs ?_
 refine sr (N' := 128) rfl ?_
 iterate 3 refine pA ?_
 refine fs ?_
 refine sr (N' := 192) rfl ?_
 iterate 3 refine pu rfl (by simp only [go_sem, Nat.reduceBEq, Int.reduceEq, Int.reduceLE]; try with_reducible rfl) ?_
 refine fs ?_
 refine sr (N' := 256) rfl ?_
 iterate 3 refine pA ?_
 refine fs ?_
 refine sr (N' := 320) rfl ?_
 iterate 3 refine pu rfl (by simp only [go_sem, Nat.reduceBEq, Int.reduceEq, Int.reduceLE]; try with_reducible rfl) ?_
 refine fs ?_
 refine sr (N' := 384) rfl ?_
 iterate 4 refine pA ?_
 refine fs ?_
 refine sr (N' := 448) rfl ?_
 iterate 7 refine pu rfl (by simp only [go_sem, Nat.reduceBEq, Int.reduceEq, Int.reduceLE]; try with_reducible rfl) ?_
 refine fs ?_
 refine sr (N' := 512) rfl ?_
 iterate 3 refine pA ?_
 refine fs ?_
 refine sr (N' := 576) rfl ?_
 iterate 3 refine pu rfl (by simp only [go_sem, Nat.reduceBEq, Int.reduceEq, Int.reduceLE]; try with_reducible rfl) ?_
 refine fs ?_
 refine sr (N' := 640) rfl ?_
 iterate 6 refine pA ?_
 refine fs ?_
 refine sr (N' := 704) rfl ?_
 iterate 9 refine pu rfl (by simp only [go_sem, Nat.reduceBEq, Int.reduceEq, Int.reduceLE]; try with_reducible rfl) ?_
 refine fs ?_
 refine sr (N' := 768) rfl ?_
 iterate 4 refine pA ?_
 refine fs ?_
 refine AWp.ret ?_
 cases hm
 exact fE (.inr rfl) Tryz.results165 (td Z1 (.v _)) (td Z1 (.v _))
def rE (x_0 : Int) (n_2 : Int) : Option (Int) :=
 ((aZr aVi (IntKind.u8.wrap x_0)).bind fun b2 =>
 some (IntKind.i64.wrap (n_2 + (IntKind.i64.wrap b2))))
def qT (x_0 : Int) (n_2 : Int) : Option (Int) :=
 (bif (decide (256 ≤ x_0)) then
  rE (shr .u64 x_0 8) (IntKind.i64.wrap (n_2 + 8))
 else
  rE x_0 n_2)
def qM (x_0 : Int) (n_2 : Int) : Option (Int) :=
 (bif (decide (65536 ≤ x_0)) then
  qT (shr .u64 x_0 16) (IntKind.i64.wrap (n_2 + 16))
 else
  qT x_0 n_2)
def tB (x_0 : Int) : Option (Int) :=
 (bif (decide (4294967296 ≤ x_0)) then
  qM (shr .u64 x_0 32) 32
 else
  qM x_0 0)
theorem aDa {x_0 : Int} {r : Int} (hm : tB x_0 = some r) : aT Tryz.prog 155 [.v (.int .u64 x_0)] (.v (.int .i64 r)) := by
 refine aT.of_body Tryz.func155 rfl ?_
 simp only [Tryz.ntmps155, List.length_cons, List.length_nil, Nat.reduceAdd, Nat.reduceSub, aQ]
 unfold tB at hm
 refine sr (N' := 64) rfl ?_
 refine pA ?_
 refine fs ?_
 refine AWp.seqJ (fun s => ∃ (x_0 : Int) (n_2 : Int), s = (⟨25, (aK (aK (fun _ => AV.any) 0 (.v (.int .u64 x_0))) 2 (.v (.int .i64 n_2))), ⟨bL, 64⟩⟩ : St) ∧ qM x_0 n_2 = some r) ?_ ?_
 ·
  refine sr (N' := 128) rfl ?_
  iterate 2 refine pA ?_
  refine fs ?_
  refine AWp.condM hm Z1 (fun _ hm => ?_) (fun _ hm => ?_)
  ·
   refine sr (N' := 192) rfl ?_
   iterate 3 refine pu rfl (by simp only [go_sem, Nat.reduceBEq, Int.reduceEq, Int.reduceLE]; try with_reducible rfl) ?_
   refine fs ?_
   refine AWp.reg 64 (N' := 256) rfl ?_
   refine pA ?_
   refine aE.fin ?_
   refine dY ?_
   refine ⟨_, ?_, (shr .u64 x_0 32), 32, rfl, hm⟩
   exact aN id (wV (wV aU)) cT
  ·
   refine AWp.skip ?_
   refine dY ?_
   refine ⟨_, ?_, x_0, 0, rfl, hm⟩
   exact aN id (wV (wV aU)) cT
 ·
  rintro s ⟨x_0, n_2, rfl, hm⟩
  unfold qM at hm
  refine AWp.seqJ (fun s => ∃ (x_0 : Int) (n_2 : Int), s = (⟨25, (aK (aK (fun _ => AV.any) 0 (.v (.int .u64 x_0))) 2 (.v (.int .i64 n_2))), ⟨bL, 64⟩⟩ : St) ∧ qT x_0 n_2 = some r) ?_ ?_
  ·
   refine sr (N' := 128) rfl ?_
   iterate 2 refine pA ?_
   refine fs ?_
   refine AWp.condM hm Z1 (fun _ hm => ?_) (fun _ hm => ?_)
   ·
    refine sr (N' := 192) rfl ?_
    iterate 3 refine pu rfl (by simp only [go_sem, Nat.reduceBEq, Int.reduceEq, Int.reduceLE]; try with_reducible rfl) ?_
    refine fs ?_
    refine AWp.reg 64 (N' := 256) rfl ?_
    iterate 3 refine pA ?_
    refine aE.fin ?_
    refine dY ?_
    refine ⟨_, ?_, (shr .u64 x_0 16), (IntKind.i64.wrap (n_2 + 16)), rfl, hm⟩
    exact aN id (wV (wV aU)) cT
   ·
    refine AWp.skip ?_
    refine dY ?_
    refine ⟨_, ?_, x_0, n_2, rfl, hm⟩
    exact aN id (wV (wV aU)) cT
  ·
   rintro s ⟨x_0, n_2, rfl, hm⟩
   unfold qT at hm
   refine AWp.seqJ (fun s => ∃ (x_0 : Int) (n_2 : Int), s = (⟨25, (aK (aK (fun _ => AV.any) 0 (.v (.int .u64 x_0))) 2 (.v (.int .i64 n_2))), ⟨bL, 64⟩⟩ : St) ∧ rE x_0 n_2 = some r) ?_ ?_
   ·
    refine sr (N' := 128) rfl ?_
    iterate 2 refine pA ?_
    refine fs ?_
    refine AWp.condM hm Z1 (fun _ hm => ?_) (fun _ hm => ?_)
    ·
     refine sr (N' := 192) rfl ?_
     iterate 3 refine pu rfl (by simp only [go_sem, Nat.reduceBEq, Int.reduceEq, Int.reduceLE]; try with_reducible rfl) ?_
     refine fs ?_
     refine AWp.reg 64 (N' := 256) rfl ?_
     iterate 3 refine pA ?_
     refine aE.fin ?_
     refine dY ?_
     refine ⟨_, ?_, (shr .u64 x_0 8), (IntKind.i64.wrap (n_2 + 8)), rfl, hm⟩
     exact aN id (wV (wV aU)) cT
    ·
     refine AWp.skip ?_
     refine dY ?_
     refine ⟨_, ?_, x_0, n_2, rfl, hm⟩
     exact aN id (wV (wV aU)) cT
   ·
    rintro s ⟨x_0, n_2, rfl, hm⟩
    unfold rE at hm
    refine sr (N' := 128) rfl ?_
    iterate 3 refine pA ?_
    obtain ⟨b2, h1, hm⟩ := bnd hm
    refine pu rfl (aXm Tryz.underlying9 Z1 Z1 h1) ?_
    iterate 3 refine pA ?_
    refine fs ?_
    refine AWp.ret ?_
    cases hm
    exact bM (.inr rfl) Tryz.results155 (td Z1 (.v _))
def kB (x_0 : Int) : Option (Int) :=
 ((tB x_0).bind fun r2 =>
 some (IntKind.i64.wrap (64 - r2)))
theorem xH {x_0 : Int} {r : Int} (hm : kB x_0 = some r) : aT Tryz.prog 196 [.v (.int .u64 x_0)] (.v (.int .i64 r)) := by
 refine aT.of_body Tryz.func196 rfl ?_
 simp only [Tryz.ntmps196, List.length_cons, List.length_nil, Nat.reduceAdd, Nat.reduceSub, aQ]
 unfold kB at hm
 refine sr (N' := 64) rfl ?_
 refine pA ?_
 refine fs ?_
 refine sr (N' := 128) rfl ?_
 refine pA ?_
 obtain ⟨r2, h1, hm⟩ := bnd hm
 refine aE.callQ (r := .v (.int .i64 r2)) Zd Z1 aYo (fun H => (cV .nil)) (aDa h1) ?_
 iterate 2 refine pA ?_
 refine fs ?_
 refine AWp.ret ?_
 cases hm
 exact bM (.inr rfl) Tryz.results196 (td Z1 (.v _))
def qP (y_2 : Int) (s_8 : Int) (un0_14 : Int) (q1_15 : Int) (un21_17 : Int) (q0_18 : Int) : Option (Int × Int) :=
 ((chk (decide (0 ≤ s_8))).bind fun _ =>
 some ((IntKind.u64.wrap ((IntKind.u64.wrap (q1_15 * 4294967296)) + q0_18)), (shr .u64 (IntKind.u64.wrap ((IntKind.u64.wrap ((IntKind.u64.wrap (un21_17 * 4294967296)) + un0_14)) - (IntKind.u64.wrap (q0_18 * y_2)))) s_8)))
def vR (rec1 : Int → Int → Int → Int → Int → Int → Int → Int → Int → Option (Int × Int)) (y_2 : Int) (s_8 : Int) (yn1_9 : Int) (yn0_10 : Int) (un0_14 : Int) (q1_15 : Int) (rhat_16 : Int) (un21_17 : Int) (q0_18 : Int) : Option (Int × Int) :=
 (bif ((decide (4294967296 ≤ q0_18)) || (decide ((IntKind.u64.wrap ((IntKind.u64.wrap (4294967296 * rhat_16)) + un0_14)) < (IntKind.u64.wrap (q0_18 * yn0_10))))) then
  (bif (decide (4294967296 ≤ (IntKind.u64.wrap (rhat_16 + yn1_9)))) then
   qP y_2 s_8 un0_14 q1_15 un21_17 (IntKind.u64.wrap (q0_18 - 1))
  else
   rec1 y_2 s_8 yn1_9 yn0_10 un0_14 q1_15 (IntKind.u64.wrap (rhat_16 + yn1_9)) un21_17 (IntKind.u64.wrap (q0_18 - 1)))
 else
  qP y_2 s_8 un0_14 q1_15 un21_17 q0_18)
def rF : Nat → Int → Int → Int → Int → Int → Int → Int → Int → Int → Option (Int × Int)
 | 0 => fun _ _ _ _ _ _ _ _ _ => none
 | n + 1 => vR (rF n)
def qS (y_2 : Int) (s_8 : Int) (yn1_9 : Int) (yn0_10 : Int) (un32_11 : Int) (un1_13 : Int) (un0_14 : Int) (q1_15 : Int) : Option (Int × Int) :=
 ((chk (yn1_9 != 0)).bind fun _ =>
 rF bY y_2 s_8 yn1_9 yn0_10 un0_14 q1_15 (IntKind.u64.wrap ((IntKind.u64.wrap ((IntKind.u64.wrap ((IntKind.u64.wrap (un32_11 * 4294967296)) + un1_13)) - (IntKind.u64.wrap (q1_15 * y_2)))) - (IntKind.u64.wrap ((IntKind.u64.wrap (Int.tdiv (IntKind.u64.wrap ((IntKind.u64.wrap ((IntKind.u64.wrap (un32_11 * 4294967296)) + un1_13)) - (IntKind.u64.wrap (q1_15 * y_2)))) yn1_9)) * yn1_9)))) (IntKind.u64.wrap ((IntKind.u64.wrap ((IntKind.u64.wrap (un32_11 * 4294967296)) + un1_13)) - (IntKind.u64.wrap (q1_15 * y_2)))) (IntKind.u64.wrap (Int.tdiv (IntKind.u64.wrap ((IntKind.u64.wrap ((IntKind.u64.wrap (un32_11 * 4294967296)) + un1_13)) - (IntKind.u64.wrap (q1_15 * y_2)))) yn1_9)))
def vN (rec2 : Int → Int → Int → Int → Int → Int → Int → Int → Int → Option (Int × Int)) (y_2 : Int) (s_8 : Int) (yn1_9 : Int) (yn0_10 : Int) (un32_11 : Int) (un1_13 : Int) (un0_14 : Int) (q1_15 : Int) (rhat_16 : Int) : Option (Int × Int) :=
 (bif ((decide (4294967296 ≤ q1_15)) || (decide ((IntKind.u64.wrap ((IntKind.u64.wrap (4294967296 * rhat_16)) + un1_13)) < (IntKind.u64.wrap (q1_15 * yn0_10))))) then
  (bif (decide (4294967296 ≤ (IntKind.u64.wrap (rhat_16 + yn1_9)))) then
   qS y_2 s_8 yn1_9 yn0_10 un32_11 un1_13 un0_14 (IntKind.u64.wrap (q1_15 - 1))
  else
   rec2 y_2 s_8 yn1_9 yn0_10 un32_11 un1_13 un0_14 (IntKind.u64.wrap (q1_15 - 1)) (IntKind.u64.wrap (rhat_16 + yn1_9)))
 else
  qS y_2 s_8 yn1_9 yn0_10 un32_11 un1_13 un0_14 q1_15)
def rC : Nat → Int → Int → Int → Int → Int → Int → Int → Int → Int → Option (Int × Int)
 | 0 => fun _ _ _ _ _ _ _ _ _ => none
 | n + 1 => vN (rC n)
def wN (hi_0 : Int) (lo_1 : Int) (y_2 : Int) : Option (Int × Int) :=
 (bif (hi_0 == 0) then
  ((chk (y_2 != 0)).bind fun _ =>
  ((chk (y_2 != 0)).bind fun _ =>
  some ((IntKind.u64.wrap (Int.tdiv lo_1 y_2)), (Int.tmod lo_1 y_2))))
 else
  ((kB y_2).bind fun r4 =>
  ((chk (decide (0 ≤ (IntKind.u64.wrap r4)))).bind fun _ =>
  ((chk (decide (0 ≤ (IntKind.u64.wrap r4)))).bind fun _ =>
  ((chk (decide (0 ≤ (IntKind.u64.wrap (64 - (IntKind.u64.wrap r4)))))).bind fun _ =>
  ((chk (decide (0 ≤ (IntKind.u64.wrap r4)))).bind fun _ =>
  ((chk ((shr .u64 (shl .u64 y_2 (IntKind.u64.wrap r4)) 32) != 0)).bind fun _ =>
  rC bY (shl .u64 y_2 (IntKind.u64.wrap r4)) (IntKind.u64.wrap r4) (shr .u64 (shl .u64 y_2 (IntKind.u64.wrap r4)) 32) (zK .u64 (shl .u64 y_2 (IntKind.u64.wrap r4)) 4294967295) (bor .u64 (shl .u64 hi_0 (IntKind.u64.wrap r4)) (shr .u64 lo_1 (IntKind.u64.wrap (64 - (IntKind.u64.wrap r4))))) (shr .u64 (shl .u64 lo_1 (IntKind.u64.wrap r4)) 32) (zK .u64 (shl .u64 lo_1 (IntKind.u64.wrap r4)) 4294967295) (IntKind.u64.wrap (Int.tdiv (bor .u64 (shl .u64 hi_0 (IntKind.u64.wrap r4)) (shr .u64 lo_1 (IntKind.u64.wrap (64 - (IntKind.u64.wrap r4))))) (shr .u64 (shl .u64 y_2 (IntKind.u64.wrap r4)) 32))) (IntKind.u64.wrap ((bor .u64 (shl .u64 hi_0 (IntKind.u64.wrap r4)) (shr .u64 lo_1 (IntKind.u64.wrap (64 - (IntKind.u64.wrap r4))))) - (IntKind.u64.wrap ((IntKind.u64.wrap (Int.tdiv (bor .u64 (shl .u64 hi_0 (IntKind.u64.wrap r4)) (shr .u64 lo_1 (IntKind.u64.wrap (64 - (IntKind.u64.wrap r4))))) (shr .u64 (shl .u64 y_2 (IntKind.u64.wrap r4)) 32))) * (shr .u64 (shl .u64 y_2 (IntKind.u64.wrap r4)) 32))))))))))))
def wM (hi_0 : Int) (lo_1 : Int) (y_2 : Int) : Option (Int × Int) :=
 (bif (decide (y_2 ≤ hi_0)) then
  none
 else
  wN hi_0 lo_1 y_2)
def yG (hi_0 : Int) (lo_1 : Int) (y_2 : Int) : Option (Int × Int) :=
 (bif (y_2 == 0) then
  none
 else
  wM hi_0 lo_1 y_2)
theorem aKw {hi_0 : Int} {lo_1 : Int} {y_2 : Int} {r : Int × Int} (hm : yG hi_0 lo_1 y_2 = some r) : aT Tryz.prog 183 [.v (.int .u64 hi_0), .v (.int .u64 lo_1), .v (.int .u64 y_2)] (.tup [.v (.int .u64 r.1), .v (.int .u64 r.2)]) := by
 refine aT.of_body Tryz.func183 rfl ?_
 simp only [Tryz.ntmps183, List.length_cons, List.length_nil, Nat.reduceAdd, Nat.reduceSub, aQ]
 unfold yG at hm
 refine sr (N' := 64) rfl ?_
 iterate 2 refine pA ?_
 refine fs ?_
 refine AWp.seqJ (fun s => ∃ (hi_0 : Int) (lo_1 : Int) (y_2 : Int), s = (⟨135, (aK (aK (aK (fun _ => AV.any) 0 (.v (.int .u64 hi_0))) 1 (.v (.int .u64 lo_1))) 2 (.v (.int .u64 y_2))), ⟨bL, 64⟩⟩ : St) ∧ wM hi_0 lo_1 y_2 = some r) ?_ ?_
 ·
  refine sr (N' := 128) rfl ?_
  iterate 2 refine pA ?_
  refine fs ?_
  refine AWp.condM hm Z1 (fun _ hm => ?_) (fun _ hm => ?_)
  ·
   cases hm
  ·
   refine AWp.skip ?_
   refine dY ?_
   refine ⟨_, ?_, hi_0, lo_1, y_2, rfl, hm⟩
   exact aN id (wV (wV (wV aU))) cT
 ·
  rintro s ⟨hi_0, lo_1, y_2, rfl, hm⟩
  unfold wM at hm
  refine AWp.seqJ (fun s => ∃ (hi_0 : Int) (lo_1 : Int) (y_2 : Int), s = (⟨135, (aK (aK (aK (fun _ => AV.any) 0 (.v (.int .u64 hi_0))) 1 (.v (.int .u64 lo_1))) 2 (.v (.int .u64 y_2))), ⟨bL, 64⟩⟩ : St) ∧ wN hi_0 lo_1 y_2 = some r) ?_ ?_
  ·
   refine sr (N' := 128) rfl ?_
   iterate 3 refine pA ?_
   refine fs ?_
   refine AWp.condM hm Z1 (fun _ hm => ?_) (fun _ hm => ?_)
   ·
    cases hm
   ·
    refine AWp.skip ?_
    refine dY ?_
    refine ⟨_, ?_, hi_0, lo_1, y_2, rfl, hm⟩
    exact aN id (wV (wV (wV aU))) cT
  ·
   rintro s ⟨hi_0, lo_1, y_2, rfl, hm⟩
   unfold wN at hm
   refine AWp.seq' ?_
   refine sr (N' := 128) rfl ?_
   iterate 2 refine pA ?_
   refine fs ?_
   refine AWp.condM hm Z1 (fun _ hm => ?_) (fun _ hm => ?_)
   ·
    refine sd mix (by kernel_rfl) (N' := 192) rfl ?_
    iterate 2 refine pA ?_
    obtain ⟨_, h1, hm⟩ := bnd hm
    refine pu rfl (aN9 Z1 Z1 (dT h1)) ?_
    iterate 2 refine pA ?_
    obtain ⟨_, h2, hm⟩ := bnd hm
    refine pu rfl (aTc Z1 Z1 (dT h2)) ?_
    iterate 2 refine pA ?_
    refine fs ?_
    refine AWp.ret ?_
    refine bB ?_
    cases hm
    exact fE (.inr rfl) Tryz.results183 (td Z1 (.v _)) (td Z1 (.v _))
   ·
    refine AWp.skip ?_
    refine aF ?_
    refine sr (N' := 192) rfl ?_
    refine pA ?_
    obtain ⟨r4, h3, hm⟩ := bnd hm
    refine aE.callQ (r := .v (.int .i64 r4)) Zd Z1 bB3 (fun H => (cV .nil)) (xH h3) ?_
    iterate 2 refine pA ?_
    refine fs ?_
    refine sr (N' := 256) rfl ?_
    iterate 2 refine pA ?_
    obtain ⟨_, h5, hm⟩ := bnd hm
    refine pu rfl (aNm Z1 Z1 (dT h5)) ?_
    refine pA ?_
    refine fs ?_
    refine sr (N' := 320) rfl ?_
    iterate 3 refine pu rfl (by simp only [go_sem, Nat.reduceBEq, Int.reduceEq, Int.reduceLE]; try with_reducible rfl) ?_
    refine fs ?_
    refine sr (N' := 384) rfl ?_
    iterate 3 refine pA ?_
    refine fs ?_
    refine sr (N' := 448) rfl ?_
    iterate 2 refine pA ?_
    obtain ⟨_, h6, hm⟩ := bnd hm
    refine pu rfl (aNm Z1 Z1 (dT h6)) ?_
    iterate 3 refine pA ?_
    obtain ⟨_, h7, hm⟩ := bnd hm
    refine pu rfl (aMz Z1 Z1 (dT h7)) ?_
    iterate 2 refine pA ?_
    refine fs ?_
    refine sr (N' := 512) rfl ?_
    iterate 2 refine pA ?_
    obtain ⟨_, h8, hm⟩ := bnd hm
    refine pu rfl (aNm Z1 Z1 (dT h8)) ?_
    refine pA ?_
    refine fs ?_
    refine sr (N' := 576) rfl ?_
    iterate 3 refine pu rfl (by simp only [go_sem, Nat.reduceBEq, Int.reduceEq, Int.reduceLE]; try with_reducible rfl) ?_
    refine fs ?_
    refine sr (N' := 640) rfl ?_
    iterate 3 refine pA ?_
    refine fs ?_
    refine sr (N' := 704) rfl ?_
    iterate 2 refine pA ?_
    obtain ⟨_, h9, hm⟩ := bnd hm
    refine pu rfl (aN9 Z1 Z1 (dT h9)) ?_
    refine pA ?_
    refine fs ?_
    refine sr (N' := 768) rfl ?_
    iterate 6 refine pA ?_
    refine fs ?_
    refine AWp.seqJ (fun s => ∃ (y_2 : Int) (s_8 : Int) (yn1_9 : Int) (yn0_10 : Int) (un32_11 : Int) (un1_13 : Int) (un0_14 : Int) (q1_15 : Int), s = (⟨135, (aK (aK (aK (aK (aK (aK (aK (aK (fun _ => AV.any) 2 (.v (.int .u64 y_2))) 8 (.v (.int .u64 s_8))) 9 (.v (.int .u64 yn1_9))) 10 (.v (.int .u64 yn0_10))) 11 (.v (.int .u64 un32_11))) 13 (.v (.int .u64 un1_13))) 14 (.v (.int .u64 un0_14))) 15 (.v (.int .u64 q1_15))), ⟨bL, 64⟩⟩ : St) ∧ qS y_2 s_8 yn1_9 yn0_10 un32_11 un1_13 un0_14 q1_15 = some r) ?_ ?_
    ·
     refine AWp.block ?_
     refine AWp.loopM (fun m s => ∃ (y_2 : Int) (s_8 : Int) (yn1_9 : Int) (yn0_10 : Int) (un32_11 : Int) (un1_13 : Int) (un0_14 : Int) (q1_15 : Int) (rhat_16 : Int), s = (⟨135, (aK (aK (aK (aK (aK (aK (aK (aK (aK (fun _ => AV.any) 2 (.v (.int .u64 y_2))) 8 (.v (.int .u64 s_8))) 9 (.v (.int .u64 yn1_9))) 10 (.v (.int .u64 yn0_10))) 11 (.v (.int .u64 un32_11))) 13 (.v (.int .u64 un1_13))) 14 (.v (.int .u64 un0_14))) 15 (.v (.int .u64 q1_15))) 16 (.v (.int .u64 rhat_16))), ⟨bL, 64⟩⟩ : St) ∧ rC m y_2 s_8 yn1_9 yn0_10 un32_11 un1_13 un0_14 q1_15 rhat_16 = some r) bY ?_ ?_ ?_
     ·
      rintro s ⟨_, _, _, _, _, _, _, _, _, _, h⟩
      cases h
     ·
      refine ⟨_, ?_, (shl .u64 y_2 (IntKind.u64.wrap r4)), (IntKind.u64.wrap r4), (shr .u64 (shl .u64 y_2 (IntKind.u64.wrap r4)) 32), (zK .u64 (shl .u64 y_2 (IntKind.u64.wrap r4)) 4294967295), (bor .u64 (shl .u64 hi_0 (IntKind.u64.wrap r4)) (shr .u64 lo_1 (IntKind.u64.wrap (64 - (IntKind.u64.wrap r4))))), (shr .u64 (shl .u64 lo_1 (IntKind.u64.wrap r4)) 32), (zK .u64 (shl .u64 lo_1 (IntKind.u64.wrap r4)) 4294967295), (IntKind.u64.wrap (Int.tdiv (bor .u64 (shl .u64 hi_0 (IntKind.u64.wrap r4)) (shr .u64 lo_1 (IntKind.u64.wrap (64 - (IntKind.u64.wrap r4))))) (shr .u64 (shl .u64 y_2 (IntKind.u64.wrap r4)) 32))), (IntKind.u64.wrap ((bor .u64 (shl .u64 hi_0 (IntKind.u64.wrap r4)) (shr .u64 lo_1 (IntKind.u64.wrap (64 - (IntKind.u64.wrap r4))))) - (IntKind.u64.wrap ((IntKind.u64.wrap (Int.tdiv (bor .u64 (shl .u64 hi_0 (IntKind.u64.wrap r4)) (shr .u64 lo_1 (IntKind.u64.wrap (64 - (IntKind.u64.wrap r4))))) (shr .u64 (shl .u64 y_2 (IntKind.u64.wrap r4)) 32))) * (shr .u64 (shl .u64 y_2 (IntKind.u64.wrap r4)) 32))))), rfl, hm⟩
      exact aN id (wV (wV (wV (wV (wV (wV (wV (wV (wV aU))))))))) cT
     ·
      rintro n2 s ⟨y_2, s_8, yn1_9, yn0_10, un32_11, un1_13, un0_14, q1_15, rhat_16, rfl, hm⟩
      replace hm : vN (rC n2) y_2 s_8 yn1_9 yn0_10 un32_11 un1_13 un0_14 q1_15 rhat_16 = some r := hm
      unfold vN at hm
      refine AWp.seq' ?_
      refine sr (N' := 128) rfl ?_
      iterate 12 first | refine pA ?_ | refine pB ?_
      refine fs ?_
      refine AWp.condM hm Z1 (fun _ hm => ?_) (fun _ hm => ?_)
      ·
       refine AWp.skip ?_
       refine aF ?_
       refine AWp.block ?_
       refine sr (N' := 192) rfl ?_
       iterate 3 refine pA ?_
       refine fs ?_
       refine sr (N' := 256) rfl ?_
       iterate 4 refine pA ?_
       refine fs ?_
       refine sr (N' := 320) rfl ?_
       iterate 2 refine pA ?_
       refine fs ?_
       refine AWp.condM hm Z1 (fun _ hm => ?_) (fun _ hm => ?_)
       ·
        refine AWp.exit ?_
        refine aHf Zd ?_
        refine bW ?_
        refine bT ?_
        refine dY ?_
        refine ⟨_, ?_, y_2, s_8, yn1_9, yn0_10, un32_11, un1_13, un0_14, (IntKind.u64.wrap (q1_15 - 1)), rfl, hm⟩
        exact aN id (wV (wV (wV (wV (wV (wV (wV (wV aU)))))))) cT
       ·
        refine AWp.skip ?_
        refine cA ?_
        refine bU ?_
        refine ⟨_, ?_, y_2, s_8, yn1_9, yn0_10, un32_11, un1_13, un0_14, (IntKind.u64.wrap (q1_15 - 1)), (IntKind.u64.wrap (rhat_16 + yn1_9)), rfl, hm⟩
        exact aN id (wV (wV (wV (wV (wV (wV (wV (wV (wV aU))))))))) cT
      ·
       refine AWp.exit ?_
       refine cH ?_
       refine bW ?_
       refine bT ?_
       refine dY ?_
       refine ⟨_, ?_, y_2, s_8, yn1_9, yn0_10, un32_11, un1_13, un0_14, q1_15, rfl, hm⟩
       exact aN id (wV (wV (wV (wV (wV (wV (wV (wV aU)))))))) cT
    ·
     rintro s ⟨y_2, s_8, yn1_9, yn0_10, un32_11, un1_13, un0_14, q1_15, rfl, hm⟩
     unfold qS at hm
     refine sr (N' := 128) rfl ?_
     iterate 9 refine pA ?_
     refine fs ?_
     refine sr (N' := 192) rfl ?_
     iterate 2 refine pA ?_
     obtain ⟨_, h10, hm⟩ := bnd hm
     refine pu rfl (aN9 Z1 Z1 (dT h10)) ?_
     refine pA ?_
     refine fs ?_
     refine sr (N' := 256) rfl ?_
     iterate 6 refine pA ?_
     refine fs ?_
     refine AWp.seqJ (fun s => ∃ (y_2 : Int) (s_8 : Int) (un0_14 : Int) (q1_15 : Int) (un21_17 : Int) (q0_18 : Int), s = (⟨135, (aK (aK (aK (aK (aK (aK (fun _ => AV.any) 2 (.v (.int .u64 y_2))) 8 (.v (.int .u64 s_8))) 14 (.v (.int .u64 un0_14))) 15 (.v (.int .u64 q1_15))) 17 (.v (.int .u64 un21_17))) 18 (.v (.int .u64 q0_18))), ⟨bL, 64⟩⟩ : St) ∧ qP y_2 s_8 un0_14 q1_15 un21_17 q0_18 = some r) ?_ ?_
     ·
      refine AWp.block ?_
      refine AWp.loopM (fun m s => ∃ (y_2 : Int) (s_8 : Int) (yn1_9 : Int) (yn0_10 : Int) (un0_14 : Int) (q1_15 : Int) (rhat_16 : Int) (un21_17 : Int) (q0_18 : Int), s = (⟨135, (aK (aK (aK (aK (aK (aK (aK (aK (aK (fun _ => AV.any) 2 (.v (.int .u64 y_2))) 8 (.v (.int .u64 s_8))) 9 (.v (.int .u64 yn1_9))) 10 (.v (.int .u64 yn0_10))) 14 (.v (.int .u64 un0_14))) 15 (.v (.int .u64 q1_15))) 16 (.v (.int .u64 rhat_16))) 17 (.v (.int .u64 un21_17))) 18 (.v (.int .u64 q0_18))), ⟨bL, 64⟩⟩ : St) ∧ rF m y_2 s_8 yn1_9 yn0_10 un0_14 q1_15 rhat_16 un21_17 q0_18 = some r) bY ?_ ?_ ?_
      ·
       rintro s ⟨_, _, _, _, _, _, _, _, _, _, h⟩
       cases h
      ·
       refine ⟨_, ?_, y_2, s_8, yn1_9, yn0_10, un0_14, q1_15, (IntKind.u64.wrap ((IntKind.u64.wrap ((IntKind.u64.wrap ((IntKind.u64.wrap (un32_11 * 4294967296)) + un1_13)) - (IntKind.u64.wrap (q1_15 * y_2)))) - (IntKind.u64.wrap ((IntKind.u64.wrap (Int.tdiv (IntKind.u64.wrap ((IntKind.u64.wrap ((IntKind.u64.wrap (un32_11 * 4294967296)) + un1_13)) - (IntKind.u64.wrap (q1_15 * y_2)))) yn1_9)) * yn1_9)))), (IntKind.u64.wrap ((IntKind.u64.wrap ((IntKind.u64.wrap (un32_11 * 4294967296)) + un1_13)) - (IntKind.u64.wrap (q1_15 * y_2)))), (IntKind.u64.wrap (Int.tdiv (IntKind.u64.wrap ((IntKind.u64.wrap ((IntKind.u64.wrap (un32_11 * 4294967296)) + un1_13)) - (IntKind.u64.wrap (q1_15 * y_2)))) yn1_9)), rfl, hm⟩
       exact aN id (wV (wV (wV (wV (wV (wV (wV (wV (wV aU))))))))) cT
      ·
       rintro n1 s ⟨y_2, s_8, yn1_9, yn0_10, un0_14, q1_15, rhat_16, un21_17, q0_18, rfl, hm⟩
       replace hm : vR (rF n1) y_2 s_8 yn1_9 yn0_10 un0_14 q1_15 rhat_16 un21_17 q0_18 = some r := hm
       unfold vR at hm
       refine AWp.seq' ?_
       refine sr (N' := 128) rfl ?_
       iterate 12 first | refine pA ?_ | refine pB ?_
       refine fs ?_
       refine AWp.condM hm Z1 (fun _ hm => ?_) (fun _ hm => ?_)
       ·
        refine AWp.skip ?_
        refine aF ?_
        refine AWp.block ?_
        refine sr (N' := 192) rfl ?_
        iterate 3 refine pA ?_
        refine fs ?_
        refine sr (N' := 256) rfl ?_
        iterate 4 refine pA ?_
        refine fs ?_
        refine sr (N' := 320) rfl ?_
        iterate 2 refine pA ?_
        refine fs ?_
        refine AWp.condM hm Z1 (fun _ hm => ?_) (fun _ hm => ?_)
        ·
         refine AWp.exit ?_
         refine aHf Zd ?_
         refine bW ?_
         refine bT ?_
         refine dY ?_
         refine ⟨_, ?_, y_2, s_8, un0_14, q1_15, un21_17, (IntKind.u64.wrap (q0_18 - 1)), rfl, hm⟩
         exact aN id (wV (wV (wV (wV (wV (wV aU)))))) cT
        ·
         refine AWp.skip ?_
         refine cA ?_
         refine bU ?_
         refine ⟨_, ?_, y_2, s_8, yn1_9, yn0_10, un0_14, q1_15, (IntKind.u64.wrap (rhat_16 + yn1_9)), un21_17, (IntKind.u64.wrap (q0_18 - 1)), rfl, hm⟩
         exact aN id (wV (wV (wV (wV (wV (wV (wV (wV (wV aU))))))))) cT
       ·
        refine AWp.exit ?_
        refine cH ?_
        refine bW ?_
        refine bT ?_
        refine dY ?_
        refine ⟨_, ?_, y_2, s_8, un0_14, q1_15, un21_17, q0_18, rfl, hm⟩
        exact aN id (wV (wV (wV (wV (wV (wV aU)))))) cT
     ·
      rintro s ⟨y_2, s_8, un0_14, q1_15, un21_17, q0_18, rfl, hm⟩
      unfold qP at hm
      refine sr (N' := 128) rfl ?_
      iterate 13 refine pA ?_
      obtain ⟨_, h11, hm⟩ := bnd hm
      refine pu rfl (aMz Z1 Z1 (dT h11)) ?_
      iterate 2 refine pA ?_
      refine fs ?_
      refine AWp.ret ?_
      cases hm
      exact fE (.inr rfl) Tryz.results183 (td Z1 (.v _)) (td Z1 (.v _))
end Go.Proofs.YtkdohhmacfoolaaGreat
