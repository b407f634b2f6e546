/- Facts that the statement's proof is made of. No condition. -/
import Derived.Test.YtkdohhmacfoolaaGreatNeOf
import Derived.Test.YtkdohhmacfoolaaGreatNeAmF
import Derived.Test.YtkdohhmacfoolaaGreatNePl
set_option linter.unusedVariables false
set_option linter.unusedSimpArgs false
set_option maxRecDepth 20000
set_option maxHeartbeats 4000000
namespace Go.Proofs.YtkdohhmacfoolaaGreat
open Go Go.AM
def bGn : ByteArray := ⟨#[0, 1, 2, 2, 3, 3, 3, 3, 4, 4, 4, 4, 4, 4, 4, 4, 5, 5, 5, 5, 5, 5, 5, 5, 5, 5, 5, 5, 5, 5, 5, 5, 6, 6, 6, 6, 6, 6, 6, 6, 6, 6, 6, 6, 6, 6, 6, 6, 6, 6, 6, 6, 6, 6, 6, 6, 6, 6, 6, 6, 6, 6, 6, 6, 7, 7, 7, 7, 7, 7, 7, 7, 7, 7, 7, 7, 7, 7, 7, 7, 7, 7, 7, 7, 7, 7, 7, 7, 7, 7, 7, 7, 7, 7, 7, 7, 7, 7, 7, 7, 7, 7, 7, 7, 7, 7, 7, 7, 7, 7, 7, 7, 7, 7, 7, 7, 7, 7, 7, 7, 7, 7, 7, 7, 7, 7, 7, 7, 8, 8, 8, 8, 8, 8, 8, 8, 8, 8, 8, 8, 8, 8, 8, 8, 8, 8, 8, 8, 8, 8, 8, 8, 8, 8, 8, 8, 8, 8, 8, 8, 8, 8, 8, 8, 8, 8, 8, 8, 8, 8, 8, 8, 8, 8, 8, 8, 8, 8, 8, 8, 8, 8, 8, 8, 8, 8, 8, 8, 8, 8, 8, 8, 8, 8, 8, 8, 8, 8, 8, 8, 8, 8, 8, 8, 8, 8, 8, 8, 8, 8, 8, 8, 8, 8, 8, 8, 8, 8, 8, 8, 8, 8, 8, 8, 8, 8, 8, 8, 8, 8, 8, 8, 8, 8, 8, 8, 8, 8, 8, 8, 8, 8, 8, 8, 8, 8, 8, 8, 8, 8, 8, 8, 8, 8, 8, 8]⟩
structure bT where
 A : Int
 B : Int
deriving DecidableEq
def bI (e : bT) : List AV := [.v (.int .u64 e.A), .v (.int .u64 e.B)]
theorem nG : CF bI 2 := ⟨fun _ => rfl, fun a x hx => by
 simp only [bI, List.mem_cons, List.not_mem_nil, or_false] at hx
 rcases hx with rfl | rfl
 ·
  exact (.v _)
 ·
  exact (.v _), fun _ => rfl⟩
instance : CC bI 2 := ⟨nG⟩
theorem aX8 (e : bT) (r : List AV) : bI e ++ r = .v (.int .u64 e.A) :: .v (.int .u64 e.B) :: r := rfl
attribute [go_sem] aX8
structure aO where
 N : Int
 L : Int
 R : Int
deriving DecidableEq
def aDb (e : aO) : List AV := [.v (.int .i64 e.N), .v (.int .i64 e.L), .v (.int .i64 e.R)]
theorem aRs (e : aO) (r : List AV) : aDb e ++ r = .v (.int .i64 e.N) :: .v (.int .i64 e.L) :: .v (.int .i64 e.R) :: r := rfl
attribute [go_sem] aRs
structure aG where
 Config : aO
 Hashes : List bT
 Edges : List aD
deriving DecidableEq
def bJf (e : aG) : List AV := [.v (.int .i64 e.Config.N), .v (.int .i64 e.Config.L), .v (.int .i64 e.Config.R), .sl (e.Hashes.flatMap bI) e.Hashes.length false, .sl (e.Edges.flatMap aT) e.Edges.length false]
theorem aTh (e : aG) (r : List AV) : bJf e ++ r = .v (.int .i64 e.Config.N) :: .v (.int .i64 e.Config.L) :: .v (.int .i64 e.Config.R) :: .sl (e.Hashes.flatMap bI) e.Hashes.length false :: .sl (e.Edges.flatMap aT) e.Edges.length false :: r := rfl
attribute [go_sem] aTh
theorem bCv (x0 y0 x1 y1 x2 y2 : Int) : eE Tryz.prog .eql 102 (.agg [.v (.int .i64 x0), .v (.int .i64 x1), .v (.int .i64 x2)]) (.agg [.v (.int .i64 y0), .v (.int .i64 y1), .v (.int .i64 y2)]) = some (.v (.bool ((x0 == y0) && ((x1 == y1) && (x2 == y2))))) :=
 (by kernel_rfl : eE Tryz.prog .eql 102 (.agg [.v (.int .i64 x0), .v (.int .i64 x1), .v (.int .i64 x2)]) (.agg [.v (.int .i64 y0), .v (.int .i64 y1), .v (.int .i64 y2)]) = some (.v (.bool ((x0 == y0) && ((x1 == y1) && ((x2 == y2) && true)))))).trans (by rw [Bool.and_true])
theorem bAs (x0 y0 x1 y1 x2 y2 : Int) : eE Tryz.prog .neq 102 (.agg [.v (.int .i64 x0), .v (.int .i64 x1), .v (.int .i64 x2)]) (.agg [.v (.int .i64 y0), .v (.int .i64 y1), .v (.int .i64 y2)]) = some (.v (.bool (!((x0 == y0) && ((x1 == y1) && (x2 == y2)))))) :=
 (by kernel_rfl : eE Tryz.prog .neq 102 (.agg [.v (.int .i64 x0), .v (.int .i64 x1), .v (.int .i64 x2)]) (.agg [.v (.int .i64 y0), .v (.int .i64 y1), .v (.int .i64 y2)]) = some (.v (.bool (!((x0 == y0) && ((x1 == y1) && ((x2 == y2) && true))))))).trans (by rw [Bool.and_true])
attribute [go_sem] bCv bAs
theorem bCq (x0 y0 x1 y1 : Int) : eE Tryz.prog .eql 120 (.agg [.v (.int .u64 x0), .v (.int .u64 x1)]) (.agg [.v (.int .u64 y0), .v (.int .u64 y1)]) = some (.v (.bool ((x0 == y0) && (x1 == y1)))) :=
 (by kernel_rfl : eE Tryz.prog .eql 120 (.agg [.v (.int .u64 x0), .v (.int .u64 x1)]) (.agg [.v (.int .u64 y0), .v (.int .u64 y1)]) = some (.v (.bool ((x0 == y0) && ((x1 == y1) && true))))).trans (by rw [Bool.and_true])
theorem bB5 (x0 y0 x1 y1 : Int) : eE Tryz.prog .neq 120 (.agg [.v (.int .u64 x0), .v (.int .u64 x1)]) (.agg [.v (.int .u64 y0), .v (.int .u64 y1)]) = some (.v (.bool (!((x0 == y0) && (x1 == y1))))) :=
 (by kernel_rfl : eE Tryz.prog .neq 120 (.agg [.v (.int .u64 x0), .v (.int .u64 x1)]) (.agg [.v (.int .u64 y0), .v (.int .u64 y1)]) = some (.v (.bool (!((x0 == y0) && ((x1 == y1) && true)))))).trans (by rw [Bool.and_true])
attribute [go_sem] bCq bB5
theorem bGo (x0 y0 x1 y1 x2 y2 : Int) : eE Tryz.prog .eql 23 (.agg [.v (.int .i64 x0), .v (.int .i64 x1), .v (.int .i64 x2)]) (.agg [.v (.int .i64 y0), .v (.int .i64 y1), .v (.int .i64 y2)]) = some (.v (.bool ((x0 == y0) && ((x1 == y1) && (x2 == y2))))) :=
 (by kernel_rfl : eE Tryz.prog .eql 23 (.agg [.v (.int .i64 x0), .v (.int .i64 x1), .v (.int .i64 x2)]) (.agg [.v (.int .i64 y0), .v (.int .i64 y1), .v (.int .i64 y2)]) = some (.v (.bool ((x0 == y0) && ((x1 == y1) && ((x2 == y2) && true)))))).trans (by rw [Bool.and_true])
theorem bFt (x0 y0 x1 y1 x2 y2 : Int) : eE Tryz.prog .neq 23 (.agg [.v (.int .i64 x0), .v (.int .i64 x1), .v (.int .i64 x2)]) (.agg [.v (.int .i64 y0), .v (.int .i64 y1), .v (.int .i64 y2)]) = some (.v (.bool (!((x0 == y0) && ((x1 == y1) && (x2 == y2)))))) :=
 (by kernel_rfl : eE Tryz.prog .neq 23 (.agg [.v (.int .i64 x0), .v (.int .i64 x1), .v (.int .i64 x2)]) (.agg [.v (.int .i64 y0), .v (.int .i64 y1), .v (.int .i64 y2)]) = some (.v (.bool (!((x0 == y0) && ((x1 == y1) && ((x2 == y2) && true))))))).trans (by rw [Bool.and_true])
attribute [go_sem] bGo bFt
theorem aW7 (xs : List AV) : aH Tryz.prog 102 (.ptr (xs)) 0 = some (.ptr xs) := by kernel_rfl
attribute [go_sem] aW7
theorem aY0 (x0 : AV) (xs : List AV) : aH Tryz.prog 102 (.ptr (x0 :: xs)) 1 = some (.ptr xs) := by kernel_rfl
attribute [go_sem] aY0
theorem aY3 (x0 : AV) (x1 : AV) (xs : List AV) : aH Tryz.prog 102 (.ptr (x0 :: x1 :: xs)) 2 = some (.ptr xs) := by kernel_rfl
attribute [go_sem] aY3
theorem aXa (i o : Nat) : aH Tryz.prog 102 (.adr i o) 0 = some (.adr i (o + 0)) := by kernel_rfl
attribute [go_sem] aXa
theorem aYn (i o : Nat) : aH Tryz.prog 102 (.adr i o) 1 = some (.adr i (o + 1)) := by kernel_rfl
attribute [go_sem] aYn
theorem aV5 (i o : Nat) : aH Tryz.prog 102 (.adr i o) 2 = some (.adr i (o + 2)) := by kernel_rfl
attribute [go_sem] aV5
theorem aWg (i o : Nat) : aH Tryz.prog 120 (.adr i o) 0 = some (.adr i (o + 0)) := by kernel_rfl
attribute [go_sem] aWg
theorem aY8 (i o : Nat) : aH Tryz.prog 120 (.adr i o) 1 = some (.adr i (o + 1)) := by kernel_rfl
attribute [go_sem] aY8
theorem bB4 (i o : Nat) : aH Tryz.prog 23 (.adr i o) 0 = some (.adr i (o + 0)) := by kernel_rfl
attribute [go_sem] bB4
theorem bBd (i o : Nat) : aH Tryz.prog 23 (.adr i o) 1 = some (.adr i (o + 1)) := by kernel_rfl
attribute [go_sem] bBd
theorem bAj (i o : Nat) : aH Tryz.prog 23 (.adr i o) 2 = some (.adr i (o + 2)) := by kernel_rfl
attribute [go_sem] bAj
theorem bCm (i o : Nat) : aH Tryz.prog 30 (.adr i o) 0 = some (.adr i (o + 0)) := by kernel_rfl
attribute [go_sem] bCm
theorem bBu (i o : Nat) : aH Tryz.prog 30 (.adr i o) 1 = some (.adr i (o + 3)) := by kernel_rfl
attribute [go_sem] bBu
theorem bDl (i o : Nat) : aH Tryz.prog 30 (.adr i o) 2 = some (.adr i (o + 4)) := by kernel_rfl
attribute [go_sem] bDl
theorem bEf (H : aJ) (x0 x1 x2 : AV) (xs : List AV) : bM Tryz.prog H 102 (.ptr (x0 :: x1 :: x2 :: xs)) = some (.agg [x0, x1, x2]) := by kernel_rfl
attribute [go_sem] bEf
theorem bH8 (H : aJ) (x0 x1 : AV) (xs : List AV) : bM Tryz.prog H 120 (.ptr (x0 :: x1 :: xs)) = some (.agg [x0, x1]) := by kernel_rfl
attribute [go_sem] bH8
theorem bJv (H : aJ) (x0 x1 x2 : AV) (xs : List AV) : bM Tryz.prog H 23 (.ptr (x0 :: x1 :: x2 :: xs)) = some (.agg [x0, x1, x2]) := by kernel_rfl
attribute [go_sem] bJv
theorem bK9 (H : aJ) (x : AV) (xs : List AV) : bM Tryz.prog H 27 (.ptr (x :: xs)) = some x := by kernel_rfl
attribute [go_sem] bK9
theorem bKa (H : aJ) (x : AV) (xs : List AV) : bM Tryz.prog H 28 (.ptr (x :: xs)) = some x := by kernel_rfl
attribute [go_sem] bKa
theorem bNk (H : aJ) (x : AV) (xs : List AV) : bM Tryz.prog H 3 (.ptr (x :: xs)) = some x := by kernel_rfl
attribute [go_sem] bNk
theorem bJw (H : aJ) (x0 x1 x2 x3 x4 : AV) (xs : List AV) : bM Tryz.prog H 30 (.ptr (x0 :: x1 :: x2 :: x3 :: x4 :: xs)) = some (.agg [x0, x1, x2, x3, x4]) := by kernel_rfl
attribute [go_sem] bJw
theorem bHx (H : aJ) (x : AV) (xs : List AV) : bM Tryz.prog H 43 (.ptr (x :: xs)) = some x := by kernel_rfl
attribute [go_sem] bHx
theorem aWt (H : aJ) (k : IntKind) (n : Int) : lU Tryz.prog H 3 198 (.v (.int k n)) = some (.v (.int .u64 (IntKind.u64.wrap n))) := fP Tryz.underlying3 Tryz.underlying198
attribute [go_sem] aWt
theorem bFa (H : aJ) (k : IntKind) (n : Int) : lU Tryz.prog H 5 3 (.v (.int k n)) = some (.v (.int .i64 (IntKind.i64.wrap n))) := fP Tryz.underlying5 Tryz.underlying3
attribute [go_sem] bFa
theorem bB0 (H : aJ) (k : IntKind) (n : Int) : lU Tryz.prog H 43 5 (.v (.int k n)) = some (.v (.int .u8 (IntKind.u8.wrap n))) := fP Tryz.underlying43 Tryz.underlying5
attribute [go_sem] bB0
def aAq (rec1 : List Int → List Int → Int → Option (Bool)) (a_0 : List Int) (b_1 : List Int) (i_5 : Int) : Option (Bool) :=
 (bif (decide (i_5 < (a_0.length : Int))) then
  ((idx a_0 i_5).bind fun x2 =>
  ((idx b_1 i_5).bind fun x4 =>
  (bif (x2 != x4) then
   some false
  else
   rec1 a_0 b_1 (IntKind.i64.wrap (i_5 + 1)))))
 else
  some true)
def rG : Nat → List Int → List Int → Int → Option (Bool)
 | 0 => fun _ _ _ => none
 | n + 1 => aAq (rG n)
def tL (a_0 : List Int) (b_1 : List Int) : Option (Bool) :=
 (bif ((a_0.length : Int) != (b_1.length : Int)) then
  some false
 else
  rG bF a_0 b_1 0)
theorem aJa {a_0 : List Int} {b_1 : List Int} {r : Bool} (hm : tL a_0 b_1 = some r) : aZ Tryz.prog 33 [vl (ci .u64) a_0, vl (ci .u64) b_1] (vb r) := by
 refine bd 26 Tryz.func33 ?_
 refine W ?_
 refine cm hm (fun hm => ?_) fun hm => ?_
 · exact E
 refine W ?_
 refine lp (fun m s => ∃ a_0 b_1 i_5, s = ⟨26, (aF (aF (aF fa 0 (vl (ci .u64) a_0)) 1 (vl (ci .u64) b_1)) 5 (vi i_5)), ⟨aX, 64⟩⟩ ∧ rG m a_0 b_1 i_5 = some r) L ?_
 rintro n1 s ⟨a_0, b_1, i_5, rfl, hm⟩
 refine W ?_
 refine cm hm (fun hm => ?_) fun hm => ?_
 ·
  obtain ⟨x2, h1, hm⟩ := bnd hm
  obtain ⟨x4, h3, hm⟩ := bnd hm
  refine W ?_
  refine cm hm (fun hm => ?_) fun hm => ?_
  · exact E
  exact L
 exact E
def fD (l : List bT) : Option (List bT) := aRv 16 [] l
theorem aGa {r : List bT} (hm : some [] = some r) : dI Tryz.prog 69 [.v (.slice none 0 0)] 2 (r.flatMap bI) r.length := by
 refine dI.of_body Tryz.func69 rfl (nG.fmdat r) ?_
 simp only [Tryz.ntmps69, List.length_cons, List.length_nil, Nat.reduceAdd, Nat.reduceSub, fE]
 refine sN 64 (pA ?_)
 refine fs (AWp.seq' (sN 128 (pA ?_)))
 refine pu rfl (uN Z1 Z1 (aH5 Tryz.underlying27)) ?_
 refine fs (AWp.condT Z1 ?_)
 refine sN 192 (pA ?_)
 refine fs (AWp.weaken (nX 2 900002 2 Z1 Z5) ?_)
 refine AWp.ret (jJ ?_)
 cases hm
 exact aHc (.inr rfl) Tryz.results69 Z1 Z3 Z6
theorem aFd {a : Addr} {c : Nat} {r : List bT} (hm : ((aRv 16 [] []).bind fun l2 =>
some l2) = some r) : dI Tryz.prog 69 [.v (.slice (some a) 0 c)] 2 (r.flatMap bI) r.length := by
 refine dI.of_body Tryz.func69 rfl (nG.fmdat r) ?_
 simp only [Tryz.ntmps69, List.length_cons, List.length_nil, Nat.reduceAdd, Nat.reduceSub, fE]
 refine sN 64 (pA ?_)
 refine fs (AWp.seq' (sN 128 (pA ?_)))
 refine pu rfl (uN Z1 Z1 (aE5 Tryz.underlying27)) ?_
 refine fs (AWp.condF Z1 ?_)
 refine AWp.skip (bX (sN 192 (hp (id := 128) rfl rfl (lT nG (l := []) Tryz.underlying27 bGp bHn Z5 Zd Zd Zd (by simp only [go_sem, Nat.reduceBEq]; try rfl) (by kernel_rfl)) ?_)))
 refine pA ?_
 obtain ⟨l2, h1, hm⟩ := bnd hm
 refine hp (id := 130) rfl rfl (aZu nG Tryz.underlying27 Tryz.underlying27 rfl bFk bHu aPn (by rw [aPn]; decide) bHd Zd Zd Z1 Z3 Z6 (aL4 Z1) rfl Z5 h1) ?_
 refine pA ?_
 refine fs (AWp.ret ?_)
 cases hm
 exact aHc (.inr rfl) Tryz.results69 Z1 Z3 Z6
theorem aFi {x0 : bT} {l0 : List bT} {r : List bT} (hm : ((aRv 16 [] (x0 :: l0)).bind fun l2 =>
some l2) = some r) : dI Tryz.prog 69 [.sl ((x0 :: l0).flatMap bI) (x0 :: l0).length false] 2 (r.flatMap bI) r.length := by
 refine dI.of_body Tryz.func69 rfl (nG.fmdat r) ?_
 simp only [Tryz.ntmps69, List.length_cons, List.length_nil, Nat.reduceAdd, Nat.reduceSub, fE]
 refine sN 64 (pA ?_)
 refine fs (AWp.seq' (sN 128 (pA ?_)))
 refine pu rfl (uN Z1 Z1 (aE2 Tryz.underlying27 (by simp))) ?_
 refine fs (AWp.condF Z1 ?_)
 refine AWp.skip (bX (sN 192 (hp (id := 128) rfl rfl (lT nG (l := []) Tryz.underlying27 bGp bHn Z5 Zd Zd Zd (by simp only [go_sem, Nat.reduceBEq]; try rfl) (by kernel_rfl)) ?_)))
 refine pA ?_
 obtain ⟨l2, h1, hm⟩ := bnd hm
 refine hp (id := 130) rfl rfl (aZu nG Tryz.underlying27 Tryz.underlying27 rfl bFk bHu aPn (by rw [aPn]; decide) bHd Zd Zd Z1 Z3 Z6 (aQ5 nG Z1 rfl) rfl Z5 h1) ?_
 refine pA ?_
 refine fs (AWp.ret ?_)
 cases hm
 exact aHc (.inr rfl) Tryz.results69 Z1 Z3 Z6
theorem yG {l r : List bT} (hm : fD l = some r) : dI Tryz.prog 69 [.sl (l.flatMap bI) l.length false] 2 (r.flatMap bI) r.length := by
 cases l with
 | nil =>
  have hr : r = [] := by unfold fD aRv at hm; simpa using hm.symm
  subst hr
  exact dI.nil_arg (aGa (r := []) rfl) (fun a c => aFd (r := []) rfl)
 | cons x0 l0 =>
  refine aFi ?_
  show (aRv 16 [] (x0 :: l0)).bind _ = _
  unfold fD at hm
  rw [hm]; rfl
theorem aGz {l r : List bT} (hm : fD l = some r) : aZ Tryz.prog 69 [.sl (l.flatMap bI) l.length false] (.sl (r.flatMap bI) r.length false) := aZ.of_fresh nG (yG hm)
def oR (aN4 : Int) : Option (Bool) :=
 some ((decide (0 ≤ aN4)) && (decide (aN4 ≤ 16)))
theorem aF8 {aN4 : Int} {r : Bool} (hm : oR aN4 = some r) : aZ Tryz.prog 120 [vi aN4] (vb r) := by
 refine bd 9 Tryz.func120 ?_
 exact E
def sC (a_0 : aD) (b_1 : aD) : Option (Bool) :=
 some ((decide (a_0.U < b_1.U)) || ((a_0.U == b_1.U) && (decide (a_0.V < b_1.V))))
theorem aFq {a_0 : aD} {b_1 : aD} {r : Bool} (hm : sC a_0 b_1 = some r) : aZ Tryz.prog 121 [.agg [vi a_0.U, vi a_0.V, vi a_0.Tier], .agg [vi b_1.U, vi b_1.V, vi b_1.Tier]] (vb r) := by
 refine bd 24 Tryz.func121 ?_
 exact E
def zO (rec1 : Int → List aD → List aD → Int → Int → Option (Bool)) (n_0 : Int) (l_1 : List aD) (t13 : List aD) (t14 : Int) (t15 : Int) : Option (Bool) :=
 (bif (decide (t15 < t14)) then
  ((idx t13 t15).bind fun x2 =>
  ((fC ((((decide (x2.U < 0)) || (decide (x2.V ≤ x2.U))) || (decide (n_0 ≤ x2.V))) == false) false (oR x2.Tier)).bind fun r4 =>
  (bif ((((decide (x2.U < 0)) || (decide (x2.V ≤ x2.U))) || (decide (n_0 ≤ x2.V))) || (!r4)) then
   some false
  else
   ((fC ((decide (0 < t15)) == true) (aD.mk 0 0 0) (idx l_1 (IntKind.i64.wrap (t15 - 1)))).bind fun x6 =>
   ((fC ((decide (0 < t15)) == true) false (sC x6 x2)).bind fun r8 =>
   (bif ((decide (0 < t15)) && (!r8)) then
    some false
   else
    rec1 n_0 l_1 t13 t14 (IntKind.i64.wrap (t15 + 1))))))))
 else
  some true)
def oL : Nat → Int → List aD → List aD → Int → Int → Option (Bool)
 | 0 => fun _ _ _ _ _ => none
 | n + 1 => zO (oL n)
def gH (n_0 : Int) (l_1 : List aD) : Option (Bool) :=
 (bif ((decide (n_0 < 0)) || (decide (1024 < n_0))) then
  some false
 else
  oL bF n_0 l_1 l_1 (l_1.length : Int) 0)
theorem kL {n_0 : Int} {l_1 : List aD} {r : Bool} (hm : gH n_0 l_1 = some r) : aZ Tryz.prog 89 [vi n_0, vl aT l_1] (vb r) := by
 refine bd 55 Tryz.func89 ?_
 refine W ?_
 refine cm hm (fun hm => ?_) fun hm => ?_
 · exact E
 refine W ?_
 refine lp (fun m s => ∃ n_0 l_1 t13 t14 t15, s = ⟨55, (aF (aF (aF (aF (aF fa 0 (vi n_0)) 1 (vl aT l_1)) 13 (vl aT t13)) 14 (vi t14)) 15 (vi t15)), ⟨aX, 64⟩⟩ ∧ oL m n_0 l_1 t13 t14 t15 = some r) L ?_
 rintro n1 s ⟨n_0, l_1, t13, t14, t15, rfl, hm⟩
 refine W ?_
 refine cm hm (fun hm => ?_) fun hm => ?_
 ·
  obtain ⟨x2, h1, hm⟩ := bnd hm
  obtain ⟨r4, h3, hm⟩ := bnd hm
  refine W ?_
  refine cg (fun hb => aF8 (cM h3 hb)) ?_
  refine W ?_
  refine cm hm (fun hm => ?_) fun hm => ?_
  · exact E
  obtain ⟨x6, h5, hm⟩ := bnd hm
  obtain ⟨r8, h7, hm⟩ := bnd hm
  refine W ?_
  refine cg (fun hb => aFq (cM h7 hb)) ?_
  refine W ?_
  refine cm hm (fun hm => ?_) fun hm => ?_
  · exact E
  exact L
 exact E
def rR (rec1 : Int → List aD → List aD → Int → Int → Option ((List aD))) (kG : Int) (iL : List aD) (t14 : List aD) (t15 : Int) (t16 : Int) : Option ((List aD)) :=
 rec1 kG iL t14 t15 (IntKind.i64.wrap (t16 + 1))
def wK (rec1 : Int → List aD → List aD → Int → Int → Option ((List aD))) (kG : Int) (iL : List aD) (t14 : List aD) (t15 : Int) (t16 : Int) : Option ((List aD)) :=
 (bif (decide (t16 < t15)) then
  ((idx t14 t16).bind fun x4 =>
  (bif ((decide (1 ≤ x4.Tier)) && (decide (x4.Tier ≤ kG))) then
   ((app iL [x4]).bind fun l6 =>
   rR rec1 kG l6 t14 t15 t16)
  else
   rR rec1 kG iL t14 t15 t16))
 else
  some iL)
def kC : Nat → Int → List aD → List aD → Int → Int → Option ((List aD))
 | 0 => fun _ _ _ _ _ => none
 | n + 1 => wK (kC n)
def gL (n_0 : Int) (l_1 : List aD) (kG : Int) : Option ((List aD)) :=
 ((gH n_0 l_1).bind fun r2 =>
 (bif (!r2) then
  some []
 else
  kC bF kG [] l_1 (l_1.length : Int) 0))
theorem oP {n_0 : Int} {l_1 : List aD} {kG : Int} {r : (List aD)} (hm : gL n_0 l_1 kG = some r) : aZ Tryz.prog 91 [vi n_0, vl aT l_1, vi kG] (vl aT r) := by
 refine bd 35 Tryz.func91 ?_
 obtain ⟨r2, h1, hm⟩ := bnd hm
 refine W ?_
 refine cq (kL h1) ?_
 refine W ?_
 refine cm hm (fun hm => ?_) fun hm => ?_
 · exact E
 refine W ?_
 refine lp (fun m s => ∃ kG iL t14 t15 t16, s = ⟨35, (aF (aF (aF (aF (aF fa 2 (vi kG)) 7 (.own 1 0 iL.length)) 14 (vl aT t14)) 15 (vi t15)) 16 (vi t16)), ⟨(upd aX 1 (.cells 3 (iL.flatMap aT) 0)), 64⟩⟩ ∧ kC m kG iL t14 t15 t16 = some r) ?_ ?_
 ·
  refine ⟨_, ?_, kG, [], l_1, (l_1.length : Int), 0, rfl, hm⟩
  refine St.Le.trans (nX 7 900007 3 Z1 Z5) ?_
  exact cn (fun j => bif j == 1 then 900007 else 0)
 rintro n1 s ⟨kG, iL, t14, t15, t16, rfl, hm⟩
 refine W ?_
 refine cm hm (fun hm => ?_) fun hm => ?_
 ·
  refine V ?_
  refine AWp.seqJ (fun s => ∃ kG iL t14 t15 t16, s = ⟨35, (aF (aF (aF (aF (aF fa 2 (vi kG)) 7 (.own 1 0 iL.length)) 14 (vl aT t14)) 15 (vi t15)) 16 (vi t16)), ⟨(upd aX 1 (.cells 3 (iL.flatMap aT) 0)), 64⟩⟩ ∧ rR (kC n1) kG iL t14 t15 t16 = some r) ?_ ?_
  ·
   obtain ⟨x4, h3, hm⟩ := bnd hm
   refine W ?_
   refine cm hm (fun hm => ?_) fun hm => ?_
   ·
    refine W ?_
    refine aL bY [x4] ?_
    obtain ⟨l6, h5, hm⟩ := bnd hm
    refine W ?_
    exact Lr (fun j => bif j == 1 then 259 else 0)
   refine W ?_
   exact Lr (fun j => bif j == 1 then 1 else 0)
  rintro s ⟨kG, iL, t14, t15, t16, rfl, hm⟩
  refine W ?_
  exact Lr (fun j => bif j == 1 then 1 else 0)
 exact E
def aBq (rec1 : List Int → List Int → Int → Int → Option (Bool)) (p_0 : List Int) (t5 : List Int) (t6 : Int) (t7 : Int) : Option (Bool) :=
 (bif (decide (t7 < t6)) then
  ((idx t5 t7).bind fun x2 =>
  ((fX (p_0.length : Int) x2).bind fun r4 =>
  ((fC (((!r4) || (decide (t7 < x2))) == false) 0 (idx p_0 x2)).bind fun x6 =>
  (bif (((!r4) || (decide (t7 < x2))) || (x6 != x2)) then
   some false
  else
   rec1 p_0 t5 t6 (IntKind.i64.wrap (t7 + 1))))))
 else
  some true)
def qW : Nat → List Int → List Int → Int → Int → Option (Bool)
 | 0 => fun _ _ _ _ => none
 | n + 1 => aBq (qW n)
def uE (p_0 : List Int) : Option (Bool) :=
 qW bF p_0 p_0 (p_0.length : Int) 0
theorem aKb {p_0 : List Int} {r : Bool} (hm : uE p_0 = some r) : aZ Tryz.prog 102 [vl (ci .i64) p_0] (vb r) := by
 refine bd 31 Tryz.func102 ?_
 refine W ?_
 refine lp (fun m s => ∃ p_0 t5 t6 t7, s = ⟨31, (aF (aF (aF (aF fa 0 (vl (ci .i64) p_0)) 5 (vl (ci .i64) t5)) 6 (vi t6)) 7 (vi t7)), ⟨aX, 64⟩⟩ ∧ qW m p_0 t5 t6 t7 = some r) L ?_
 rintro n1 s ⟨p_0, t5, t6, t7, rfl, hm⟩
 refine W ?_
 refine cm hm (fun hm => ?_) fun hm => ?_
 ·
  obtain ⟨x2, h1, hm⟩ := bnd hm
  obtain ⟨r4, h3, hm⟩ := bnd hm
  refine W ?_
  refine cq (yC h3) ?_
  obtain ⟨x6, h5, hm⟩ := bnd hm
  refine W ?_
  refine cm hm (fun hm => ?_) fun hm => ?_
  · exact E
  exact L
 exact E
def yJ (rec1 : Int → List Int → Int → Int → Option (Int)) (sF : Int) (t9 : List Int) (t10 : Int) (t11 : Int) : Option (Int) :=
 rec1 sF t9 t10 (IntKind.i64.wrap (t11 + 1))
def aCw (rec1 : Int → List Int → Int → Int → Option (Int)) (sF : Int) (t9 : List Int) (t10 : Int) (t11 : Int) : Option (Int) :=
 (bif (decide (t11 < t10)) then
  ((idx t9 t11).bind fun x4 =>
  (bif (t11 == x4) then
   yJ rec1 (IntKind.i64.wrap (sF + 1)) t9 t10 t11
  else
   yJ rec1 sF t9 t10 t11))
 else
  some sF)
def qG : Nat → Int → List Int → Int → Int → Option (Int)
 | 0 => fun _ _ _ _ => none
 | n + 1 => aCw (qG n)
def aAu (p_0 : List Int) : Option (Int) :=
 ((uE p_0).bind fun r2 =>
 (bif (!r2) then
  some 0
 else
  qG bF 0 p_0 (p_0.length : Int) 0))
theorem aYb {p_0 : List Int} {r : Int} (hm : aAu p_0 = some r) : aZ Tryz.prog 122 [vl (ci .i64) p_0] (vi r) := by
 refine bd 23 Tryz.func122 ?_
 obtain ⟨r2, h1, hm⟩ := bnd hm
 refine W ?_
 refine cq (aKb h1) ?_
 refine W ?_
 refine cm hm (fun hm => ?_) fun hm => ?_
 · exact E
 refine W ?_
 refine lp (fun m s => ∃ sF t9 t10 t11, s = ⟨23, (aF (aF (aF (aF fa 3 (vi sF)) 9 (vl (ci .i64) t9)) 10 (vi t10)) 11 (vi t11)), ⟨aX, 64⟩⟩ ∧ qG m sF t9 t10 t11 = some r) L ?_
 rintro n1 s ⟨sF, t9, t10, t11, rfl, hm⟩
 refine W ?_
 refine cm hm (fun hm => ?_) fun hm => ?_
 ·
  refine V ?_
  refine AWp.seqJ (fun s => ∃ sF t9 t10 t11, s = ⟨23, (aF (aF (aF (aF fa 3 (vi sF)) 9 (vl (ci .i64) t9)) 10 (vi t10)) 11 (vi t11)), ⟨aX, 64⟩⟩ ∧ yJ (qG n1) sF t9 t10 t11 = some r) ?_ ?_
  ·
   obtain ⟨x4, h3, hm⟩ := bnd hm
   refine W ?_
   refine cm hm (fun hm => ?_) fun hm => ?_
   · exact L
   exact L
  rintro s ⟨sF, t9, t10, t11, rfl, hm⟩
  exact L
 exact E
def nO (n_0 : Int) (l_1 : List aD) : Option (Bool) :=
 ((qN n_0 l_1).bind fun ⟨r2, r3⟩ =>
 ((fC ((r3 == 0) == true) 0 (aAu r2)).bind fun r5 =>
 some ((r3 == 0) && (r5 == (IntKind.i64.wrap (n_0 - (l_1.length : Int)))))))
theorem aAn {n_0 : Int} {l_1 : List aD} {r : Bool} (hm : nO n_0 l_1 = some r) : aZ Tryz.prog 90 [vi n_0, vl aT l_1] (vb r) := by
 refine bd 24 Tryz.func90 ?_
 refine W ?_
 obtain ⟨⟨r2, r3⟩, h1, hm⟩ := bnd hm
 refine cq (aHs h1) ?_
 obtain ⟨r5, h4, hm⟩ := bnd hm
 refine W ?_
 refine cg (fun hb => aYb (cM h4 hb)) ?_
 exact E
def wN (rec2 : aG → aO → List aD → Int → Int → Option (Bool)) (g_1 : aG) (c_3 : aO) (t70 : List aD) (t71 : Int) (t72 : Int) : Option (Bool) :=
 (bif (decide (t72 < t71)) then
  ((idx t70 t72).bind fun x6 =>
  (bif (decide (c_3.L < x6.Tier)) then
   some false
  else
   rec2 g_1 c_3 t70 t71 (IntKind.i64.wrap (t72 + 1))))
 else
  ((gL c_3.N g_1.Edges c_3.L).bind fun r8 =>
  ((nO c_3.N r8).bind fun r10 =>
  some r10)))
def mJ : Nat → aG → aO → List aD → Int → Int → Option (Bool)
 | 0 => fun _ _ _ _ _ => none
 | n + 1 => wN (mJ n)
def xY (rec1 : aG → aO → List bT → Int → Int → Option (Bool)) (g_1 : aG) (c_3 : aO) (t48 : List bT) (t49 : Int) (t50 : Int) : Option (Bool) :=
 (bif (decide (t50 < t49)) then
  ((idx t48 t50).bind fun x2 =>
  (bif ((decide (2305843009213693951 ≤ x2.A)) || (decide (2305843009213693951 ≤ x2.B))) then
   some false
  else
   rec1 g_1 c_3 t48 t49 (IntKind.i64.wrap (t50 + 1))))
 else
  ((gH c_3.N g_1.Edges).bind fun r4 =>
  (bif (!r4) then
   some false
  else
   mJ bF g_1 c_3 g_1.Edges (g_1.Edges.length : Int) 0)))
def mB : Nat → aG → aO → List bT → Int → Int → Option (Bool)
 | 0 => fun _ _ _ _ _ => none
 | n + 1 => xY (mB n)
def eG (g_0 : aG) : Option (Bool) :=
 (bif ((((((decide (g_0.Config.N < 1)) || (decide (1024 < g_0.Config.N))) || (decide (g_0.Config.L < 1))) || (decide (16 < g_0.Config.L))) || (decide (g_0.Config.R < 1))) || (decide (8 < g_0.Config.R))) then
  some false
 else
  (bif ((g_0.Hashes.length : Int) != (IntKind.i64.wrap (g_0.Config.L * g_0.Config.R))) then
   some false
  else
   mB bF g_0 g_0.Config g_0.Hashes (g_0.Hashes.length : Int) 0))
theorem iF {g_0 : aG} {r : Bool} (hm : eG g_0 = some r) : aZ Tryz.prog 49 [.agg [vi g_0.Config.N, vi g_0.Config.L, vi g_0.Config.R, vl bI g_0.Hashes, vl aT g_0.Edges]] (vb r) := by
 refine bd 92 Tryz.func49 ?_
 refine W ?_
 refine cm hm (fun hm => ?_) fun hm => ?_
 · exact E
 refine W ?_
 refine cm hm (fun hm => ?_) fun hm => ?_
 · exact E
 refine W ?_
 refine lp (fun m s => ∃ g_1 c_3 t48 t49 t50, s = ⟨92, (aF (aF (aF (aF (aF fa 1 (.adr 1 0)) 3 (.adr 2 0)) 48 (vl bI t48)) 49 (vi t49)) 50 (vi t50)), ⟨(upd (upd aX 1 (.cells 1 [vi g_1.Config.N, vi g_1.Config.L, vi g_1.Config.R, vl bI g_1.Hashes, vl aT g_1.Edges] 0)) 2 (.cells 1 [vi c_3.N, vi c_3.L, vi c_3.R] 0)), 64⟩⟩ ∧ mB m g_1 c_3 t48 t49 t50 = some r) (Lr (fun j => bif j == 1 then 0 else bif j == 2 then 66 else 0)) ?_
 rintro n1 s ⟨g_1, c_3, t48, t49, t50, rfl, hm⟩
 refine W ?_
 refine cm hm (fun hm => ?_) fun hm => ?_
 ·
  obtain ⟨x2, h1, hm⟩ := bnd hm
  refine W ?_
  refine cm hm (fun hm => ?_) fun hm => ?_
  · exact E
  refine W ?_
  exact Lr (fun j => bif j == 1 then 1 else bif j == 2 then 2 else 0)
 obtain ⟨r4, h3, hm⟩ := bnd hm
 refine W ?_
 refine cq (kL h3) ?_
 refine W ?_
 refine cm hm (fun hm => ?_) fun hm => ?_
 · exact E
 refine W ?_
 refine lp (fun m s => ∃ g_1 c_3 t70 t71 t72, s = ⟨92, (aF (aF (aF (aF (aF fa 1 (.adr 1 0)) 3 (.adr 2 0)) 70 (vl aT t70)) 71 (vi t71)) 72 (vi t72)), ⟨(upd (upd aX 1 (.cells 1 [vi g_1.Config.N, vi g_1.Config.L, vi g_1.Config.R, vl bI g_1.Hashes, vl aT g_1.Edges] 0)) 2 (.cells 1 [vi c_3.N, vi c_3.L, vi c_3.R] 0)), 64⟩⟩ ∧ mJ m g_1 c_3 t70 t71 t72 = some r) (Lr (fun j => bif j == 1 then 1 else bif j == 2 then 2 else 0)) ?_
 rintro n2 s ⟨g_1, c_3, t70, t71, t72, rfl, hm⟩
 refine W ?_
 refine cm hm (fun hm => ?_) fun hm => ?_
 ·
  obtain ⟨x6, h5, hm⟩ := bnd hm
  refine W ?_
  refine cm hm (fun hm => ?_) fun hm => ?_
  · exact E
  refine W ?_
  exact Lr (fun j => bif j == 1 then 1 else bif j == 2 then 2 else 0)
 obtain ⟨r8, h7, hm⟩ := bnd hm
 refine W ?_
 refine cq (oP h7) ?_
 obtain ⟨r10, h9, hm⟩ := bnd hm
 refine cq (aAn h9) ?_
 exact E
def aBh (c_0 : aO) (aH8 : List bT) : Option (aG × Int) :=
 ((fD aH8).bind fun r2 =>
 ((eG (aG.mk c_0 r2 [])).bind fun r4 =>
 (bif (!r4) then
  some ((aG.mk (aO.mk 0 0 0) [] []), 1)
 else
  some ((aG.mk c_0 r2 []), 0))))
theorem aUz {c_0 : aO} {aH8 : List bT} {r : aG × Int} (hm : aBh c_0 aH8 = some r) : aZ Tryz.prog 36 [.agg [vi c_0.N, vi c_0.L, vi c_0.R], vl bI aH8] (.tup [.agg [vi r.1.Config.N, vi r.1.Config.L, vi r.1.Config.R, vl bI r.1.Hashes, vl aT r.1.Edges], vi r.2]) := by
 refine bd 16 Tryz.func36 ?_
 obtain ⟨r2, h1, hm⟩ := bnd hm
 refine W ?_
 refine cq (aGz h1) ?_
 refine pu rfl (by simp only [go_sem, Nat.reduceBEq]; exact (by kernel_rfl : cN Tryz.prog 30 [(0, .agg [.v (.int .i64 c_0.N), .v (.int .i64 c_0.L), .v (.int .i64 c_0.R)]), (1, .sl (r2.flatMap bI) r2.length false)] = some (.agg [.v (.int .i64 c_0.N), .v (.int .i64 c_0.L), .v (.int .i64 c_0.R), .sl (r2.flatMap bI) r2.length false, .v (.slice none 0 0)]))) ?_
 obtain ⟨r4, h3, hm⟩ := bnd hm
 refine W ?_
 refine cq (iF h3) ?_
 refine W ?_
 refine cm hm (fun hm => ?_) fun hm => ?_
 ·
  refine W ?_
  refine pu rfl (by simp only [go_sem, Nat.reduceBEq]; exact (by kernel_rfl : cN Tryz.prog 30 [] = some (.agg [.v (.int .i64 0), .v (.int .i64 0), .v (.int .i64 0), .v (.slice none 0 0), .v (.slice none 0 0)]))) ?_
  exact E
 exact E
def qC (g_0 : aG) : Option ((List Int)) :=
 ((eG g_0).bind fun r2 =>
 (bif (!r2) then
  some []
 else
  ((gL g_0.Config.N g_0.Edges g_0.Config.L).bind fun r4 =>
  ((qN g_0.Config.N r4).bind fun ⟨r6, r7⟩ =>
  some r6))))
theorem aJu {g_0 : aG} {r : (List Int)} (hm : qC g_0 = some r) : aZ Tryz.prog 73 [.agg [vi g_0.Config.N, vi g_0.Config.L, vi g_0.Config.R, vl bI g_0.Hashes, vl aT g_0.Edges]] (vl (ci .i64) r) := by
 refine bd 25 Tryz.func73 ?_
 obtain ⟨r2, h1, hm⟩ := bnd hm
 refine W ?_
 refine cq (iF h1) ?_
 refine W ?_
 refine cm hm (fun hm => ?_) fun hm => ?_
 · exact E
 obtain ⟨r4, h3, hm⟩ := bnd hm
 refine W ?_
 refine cq (oP h3) ?_
 obtain ⟨⟨r6, r7⟩, h5, hm⟩ := bnd hm
 refine cq (aHs h5) ?_
 exact E
def aCa (rec1 : Int → Int → List aD → Int → Int → Option (Int × Bool)) (u_1 : Int) (v_2 : Int) (t10 : List aD) (t11 : Int) (t12 : Int) : Option (Int × Bool) :=
 (bif (decide (t12 < t11)) then
  ((idx t10 t12).bind fun x2 =>
  (bif (((x2.U == u_1) && (x2.V == v_2)) || ((x2.U == v_2) && (x2.V == u_1))) then
   some (t12, true)
  else
   rec1 u_1 v_2 t10 t11 (IntKind.i64.wrap (t12 + 1))))
 else
  some (0, false))
def tQ : Nat → Int → Int → List aD → Int → Int → Option (Int × Bool)
 | 0 => fun _ _ _ _ _ => none
 | n + 1 => aCa (tQ n)
def mQ (l_0 : List aD) (u_1 : Int) (v_2 : Int) : Option (Int × Bool) :=
 tQ bF u_1 v_2 l_0 (l_0.length : Int) 0
theorem wI {l_0 : List aD} {u_1 : Int} {v_2 : Int} {r : Int × Bool} (hm : mQ l_0 u_1 v_2 = some r) : aZ Tryz.prog 74 [vl aT l_0, vi u_1, vi v_2] (.tup [vi r.1, vb r.2]) := by
 refine bd 41 Tryz.func74 ?_
 refine W ?_
 refine lp (fun m s => ∃ u_1 v_2 t10 t11 t12, s = ⟨41, (aF (aF (aF (aF (aF fa 1 (vi u_1)) 2 (vi v_2)) 10 (vl aT t10)) 11 (vi t11)) 12 (vi t12)), ⟨aX, 64⟩⟩ ∧ tQ m u_1 v_2 t10 t11 t12 = some r) L ?_
 rintro n1 s ⟨u_1, v_2, t10, t11, t12, rfl, hm⟩
 refine W ?_
 refine cm hm (fun hm => ?_) fun hm => ?_
 ·
  obtain ⟨x2, h1, hm⟩ := bnd hm
  refine W ?_
  refine cm hm (fun hm => ?_) fun hm => ?_
  · exact E
  exact L
 exact E
def vT (rec1 : List Int → Int → List Int → List Int → Int → Int → Option ((List Int))) (p_0 : List Int) (v_1 : Int) (kI : List Int) (t18 : List Int) (t19 : Int) (t20 : Int) : Option ((List Int)) :=
 rec1 p_0 v_1 kI t18 t19 (IntKind.i64.wrap (t20 + 1))
def aAz (rec1 : List Int → Int → List Int → List Int → Int → Int → Option ((List Int))) (p_0 : List Int) (v_1 : Int) (kI : List Int) (t18 : List Int) (t19 : Int) (t20 : Int) : Option ((List Int)) :=
 (bif (decide (t20 < t19)) then
  ((idx t18 t20).bind fun x6 =>
  ((idx p_0 v_1).bind fun x8 =>
  (bif (x6 == x8) then
   ((app kI [t20]).bind fun l10 =>
   vT rec1 p_0 v_1 l10 t18 t19 t20)
  else
   vT rec1 p_0 v_1 kI t18 t19 t20)))
 else
  some kI)
def nL : Nat → List Int → Int → List Int → List Int → Int → Int → Option ((List Int))
 | 0 => fun _ _ _ _ _ _ => none
 | n + 1 => aAz (nL n)
def qH (p_0 : List Int) (v_1 : Int) : Option ((List Int)) :=
 ((uE p_0).bind fun r2 =>
 ((fC ((!r2) == false) false (fX (p_0.length : Int) v_1)).bind fun r4 =>
 (bif ((!r2) || (!r4)) then
  some []
 else
  nL bF p_0 v_1 [] p_0 (p_0.length : Int) 0)))
theorem aDw {p_0 : List Int} {v_1 : Int} {r : (List Int)} (hm : qH p_0 v_1 = some r) : aZ Tryz.prog 78 [vl (ci .i64) p_0, vi v_1] (vl (ci .i64) r) := by
 refine bd 37 Tryz.func78 ?_
 obtain ⟨r2, h1, hm⟩ := bnd hm
 refine W ?_
 refine cq (aKb h1) ?_
 obtain ⟨r4, h3, hm⟩ := bnd hm
 refine W ?_
 refine cg (fun hb => yC (cM h3 hb)) ?_
 refine W ?_
 refine cm hm (fun hm => ?_) fun hm => ?_
 · exact E
 refine W ?_
 refine lp (fun m s => ∃ p_0 v_1 kI t18 t19 t20, s = ⟨37, (aF (aF (aF (aF (aF (aF fa 0 (vl (ci .i64) p_0)) 1 (vi v_1)) 5 (.own 1 0 kI.length)) 18 (vl (ci .i64) t18)) 19 (vi t19)) 20 (vi t20)), ⟨(upd aX 1 (.cells 1 (kI.flatMap (ci .i64)) 0)), 64⟩⟩ ∧ nL m p_0 v_1 kI t18 t19 t20 = some r) ?_ ?_
 ·
  refine ⟨_, ?_, p_0, v_1, [], p_0, (p_0.length : Int), 0, rfl, hm⟩
  refine St.Le.trans (nX 5 900005 1 Z1 Z5) ?_
  exact cn (fun j => bif j == 1 then 900005 else 0)
 rintro n1 s ⟨p_0, v_1, kI, t18, t19, t20, rfl, hm⟩
 refine W ?_
 refine cm hm (fun hm => ?_) fun hm => ?_
 ·
  refine V ?_
  refine AWp.seqJ (fun s => ∃ p_0 v_1 kI t18 t19 t20, s = ⟨37, (aF (aF (aF (aF (aF (aF fa 0 (vl (ci .i64) p_0)) 1 (vi v_1)) 5 (.own 1 0 kI.length)) 18 (vl (ci .i64) t18)) 19 (vi t19)) 20 (vi t20)), ⟨(upd aX 1 (.cells 1 (kI.flatMap (ci .i64)) 0)), 64⟩⟩ ∧ vT (nL n1) p_0 v_1 kI t18 t19 t20 = some r) ?_ ?_
  ·
   obtain ⟨x6, h5, hm⟩ := bnd hm
   obtain ⟨x8, h7, hm⟩ := bnd hm
   refine W ?_
   refine cm hm (fun hm => ?_) fun hm => ?_
   ·
    refine W ?_
    refine aL (CFi .i64) [t20] ?_
    obtain ⟨l10, h9, hm⟩ := bnd hm
    refine W ?_
    exact Lr (fun j => bif j == 1 then 259 else 0)
   refine W ?_
   exact Lr (fun j => bif j == 1 then 1 else 0)
  rintro s ⟨p_0, v_1, kI, t18, t19, t20, rfl, hm⟩
  refine W ?_
  exact Lr (fun j => bif j == 1 then 1 else 0)
 exact E
def aEh (g_0 : aG) : Option ((List Int)) :=
 ((eG g_0).bind fun r2 =>
 (bif (!r2) then
  some []
 else
  ((qN g_0.Config.N g_0.Edges).bind fun ⟨r4, r5⟩ =>
  some r4)))
theorem bCj {g_0 : aG} {r : (List Int)} (hm : aEh g_0 = some r) : aZ Tryz.prog 109 [.agg [vi g_0.Config.N, vi g_0.Config.L, vi g_0.Config.R, vl bI g_0.Hashes, vl aT g_0.Edges]] (vl (ci .i64) r) := by
 refine bd 18 Tryz.func109 ?_
 obtain ⟨r2, h1, hm⟩ := bnd hm
 refine W ?_
 refine cq (iF h1) ?_
 refine W ?_
 refine cm hm (fun hm => ?_) fun hm => ?_
 · exact E
 refine W ?_
 obtain ⟨⟨r4, r5⟩, h3, hm⟩ := bnd hm
 refine cq (aHs h3) ?_
 exact E
def qZ (rec1 : List Int → List Int → Int → Int → Option (Bool)) (aIm : List Int) (aKo : List Int) (t12 : Int) (t13 : Int) : Option (Bool) :=
 (bif (decide (t13 < t12)) then
  ((idx aIm t13).bind fun x2 =>
  ((idx aKo t13).bind fun x4 =>
  (bif (x2 != x4) then
   some false
  else
   rec1 aIm aKo t12 (IntKind.i64.wrap (t13 + 1)))))
 else
  some true)
def jE : Nat → List Int → List Int → Int → Int → Option (Bool)
 | 0 => fun _ _ _ _ => none
 | n + 1 => qZ (jE n)
def nS (aIm : List Int) (aKo : List Int) : Option (Bool) :=
 (bif ((aIm.length : Int) != (aKo.length : Int)) then
  some false
 else
  jE bF aIm aKo (aIm.length : Int) 0)
theorem aJ0 {aIm : List Int} {aKo : List Int} {r : Bool} (hm : nS aIm aKo = some r) : aZ Tryz.prog 108 [vl (ci .i64) aIm, vl (ci .i64) aKo] (vb r) := by
 refine bd 26 Tryz.func108 ?_
 refine W ?_
 refine cm hm (fun hm => ?_) fun hm => ?_
 · exact E
 refine W ?_
 refine lp (fun m s => ∃ aIm aKo t12 t13, s = ⟨26, (aF (aF (aF (aF fa 0 (vl (ci .i64) aIm)) 1 (vl (ci .i64) aKo)) 12 (vi t12)) 13 (vi t13)), ⟨aX, 64⟩⟩ ∧ jE m aIm aKo t12 t13 = some r) L ?_
 rintro n1 s ⟨aIm, aKo, t12, t13, rfl, hm⟩
 refine W ?_
 refine cm hm (fun hm => ?_) fun hm => ?_
 ·
  obtain ⟨x2, h1, hm⟩ := bnd hm
  obtain ⟨x4, h3, hm⟩ := bnd hm
  refine W ?_
  refine cm hm (fun hm => ?_) fun hm => ?_
  · exact E
  exact L
 exact E
def vH (g_0 : aG) : Option (Bool) :=
 ((eG g_0).bind fun r2 =>
 ((fC (r2 == true) [] (qC g_0)).bind fun r4 =>
 ((fC (r2 == true) [] (aEh g_0)).bind fun r6 =>
 ((fC (r2 == true) false (nS r4 r6)).bind fun r8 =>
 some (r2 && r8)))))
theorem aRg {g_0 : aG} {r : Bool} (hm : vH g_0 = some r) : aZ Tryz.prog 81 [.agg [vi g_0.Config.N, vi g_0.Config.L, vi g_0.Config.R, vl bI g_0.Hashes, vl aT g_0.Edges]] (vb r) := by
 refine bd 12 Tryz.func81 ?_
 obtain ⟨r2, h1, hm⟩ := bnd hm
 refine W ?_
 refine cq (iF h1) ?_
 obtain ⟨r4, h3, hm⟩ := bnd hm
 refine W ?_
 refine cg (fun hb => aJu (cM h3 hb)) ?_
 obtain ⟨r6, h5, hm⟩ := bnd hm
 refine W ?_
 refine cg (fun hb => bCj (cM h5 hb)) ?_
 obtain ⟨r8, h7, hm⟩ := bnd hm
 refine cg (fun hb => aJ0 (cM h7 hb)) ?_
 exact E
def eW (n_0 : Int) (v_1 : Int) : Option (Bool) :=
 some ((decide (0 ≤ v_1)) && (decide (v_1 < n_0)))
theorem jS {n_0 : Int} {v_1 : Int} {r : Bool} (hm : eW n_0 v_1 = some r) : aZ Tryz.prog 135 [vi n_0, vi v_1] (vb r) := by
 refine bd 12 Tryz.func135 ?_
 exact E
def qU (rec1 : Int → List Int → List aD → Int → Int → Option ((List Int))) (v_2 : Int) (fF : List Int) (t20 : List aD) (t21 : Int) (t22 : Int) : Option ((List Int)) :=
 rec1 v_2 fF t20 t21 (IntKind.i64.wrap (t22 + 1))
def aBa (rec1 : Int → List Int → List aD → Int → Int → Option ((List Int))) (v_2 : Int) (fF : List Int) (t20 : List aD) (t21 : Int) (t22 : Int) : Option ((List Int)) :=
 (bif (decide (t22 < t21)) then
  ((idx t20 t22).bind fun x6 =>
  (bif (v_2 == x6.U) then
   ((app fF [x6.V]).bind fun l8 =>
   qU rec1 v_2 l8 t20 t21 t22)
  else
   (bif (v_2 == x6.V) then
    ((app fF [x6.U]).bind fun l10 =>
    qU rec1 v_2 l10 t20 t21 t22)
   else
    qU rec1 v_2 fF t20 t21 t22)))
 else
  some fF)
def nD : Nat → Int → List Int → List aD → Int → Int → Option ((List Int))
 | 0 => fun _ _ _ _ _ => none
 | n + 1 => aBa (nD n)
def aC9 (n_0 : Int) (l_1 : List aD) (v_2 : Int) : Option ((List Int)) :=
 ((gH n_0 l_1).bind fun r2 =>
 ((fC ((!r2) == false) false (eW n_0 v_2)).bind fun r4 =>
 (bif ((!r2) || (!r4)) then
  some []
 else
  nD bF v_2 [] l_1 (l_1.length : Int) 0)))
theorem aSx {n_0 : Int} {l_1 : List aD} {v_2 : Int} {r : (List Int)} (hm : aC9 n_0 l_1 v_2 = some r) : aZ Tryz.prog 101 [vi n_0, vl aT l_1, vi v_2] (vl (ci .i64) r) := by
 refine bd 47 Tryz.func101 ?_
 obtain ⟨r2, h1, hm⟩ := bnd hm
 refine W ?_
 refine cq (kL h1) ?_
 obtain ⟨r4, h3, hm⟩ := bnd hm
 refine W ?_
 refine cg (fun hb => jS (cM h3 hb)) ?_
 refine W ?_
 refine cm hm (fun hm => ?_) fun hm => ?_
 · exact E
 refine W ?_
 refine lp (fun m s => ∃ v_2 fF t20 t21 t22, s = ⟨47, (aF (aF (aF (aF (aF fa 2 (vi v_2)) 7 (.own 1 0 fF.length)) 20 (vl aT t20)) 21 (vi t21)) 22 (vi t22)), ⟨(upd aX 1 (.cells 1 (fF.flatMap (ci .i64)) 0)), 64⟩⟩ ∧ nD m v_2 fF t20 t21 t22 = some r) ?_ ?_
 ·
  refine ⟨_, ?_, v_2, [], l_1, (l_1.length : Int), 0, rfl, hm⟩
  refine St.Le.trans (nX 7 900007 1 Z1 Z5) ?_
  exact cn (fun j => bif j == 1 then 900007 else 0)
 rintro n1 s ⟨v_2, fF, t20, t21, t22, rfl, hm⟩
 refine W ?_
 refine cm hm (fun hm => ?_) fun hm => ?_
 ·
  refine V ?_
  refine AWp.seqJ (fun s => ∃ v_2 fF t20 t21 t22, s = ⟨47, (aF (aF (aF (aF (aF fa 2 (vi v_2)) 7 (.own 1 0 fF.length)) 20 (vl aT t20)) 21 (vi t21)) 22 (vi t22)), ⟨(upd aX 1 (.cells 1 (fF.flatMap (ci .i64)) 0)), 64⟩⟩ ∧ qU (nD n1) v_2 fF t20 t21 t22 = some r) ?_ ?_
  ·
   obtain ⟨x6, h5, hm⟩ := bnd hm
   refine W ?_
   refine cm hm (fun hm => ?_) fun hm => ?_
   ·
    refine W ?_
    refine aL (CFi .i64) [x6.V] ?_
    obtain ⟨l8, h7, hm⟩ := bnd hm
    refine W ?_
    exact Lr (fun j => bif j == 1 then 324 else 0)
   refine W ?_
   refine cm hm (fun hm => ?_) fun hm => ?_
   ·
    refine W ?_
    refine aL (CFi .i64) [x6.U] ?_
    obtain ⟨l10, h9, hm⟩ := bnd hm
    refine W ?_
    exact Lr (fun j => bif j == 1 then 388 else 0)
   refine W ?_
   exact Lr (fun j => bif j == 1 then 1 else 0)
  rintro s ⟨v_2, fF, t20, t21, t22, rfl, hm⟩
  refine W ?_
  exact Lr (fun j => bif j == 1 then 1 else 0)
 exact E
def uD (g_0 : aG) (u_1 : Int) (v_2 : Int) : Option (Bool) :=
 ((eG g_0).bind fun r2 =>
 some ((((r2 && (decide (0 ≤ u_1))) && (decide (u_1 < g_0.Config.N))) && (decide (0 ≤ v_2))) && (decide (v_2 < g_0.Config.N))))
theorem aJh {g_0 : aG} {u_1 : Int} {v_2 : Int} {r : Bool} (hm : uD g_0 u_1 v_2 = some r) : aZ Tryz.prog 115 [.agg [vi g_0.Config.N, vi g_0.Config.L, vi g_0.Config.R, vl bI g_0.Hashes, vl aT g_0.Edges], vi u_1, vi v_2] (vb r) := by
 refine bd 31 Tryz.func115 ?_
 obtain ⟨r2, h1, hm⟩ := bnd hm
 refine W ?_
 refine cq (iF h1) ?_
 exact E
def iY (s_0 : List aD) : Option ((List aD)) :=
 some s_0
def lP (n_1 : Int) : Option ((List aD)) :=
 (bif (decide (0 < (IntKind.i64.wrap (n_1 - (IntKind.i64.wrap (((0 : Nat) : Int) - ((0 : Nat) : Int))))))) then
  ((chk (((0 : Nat) : Int) == 0)).bind fun _ =>
  ((chk (decide (0 < (IntKind.i64.wrap (n_1 - (IntKind.i64.wrap (((0 : Nat) : Int) - ((0 : Nat) : Int)))))) && decide ((IntKind.i64.wrap (n_1 - (IntKind.i64.wrap (((0 : Nat) : Int) - ((0 : Nat) : Int))))) ≤ 4294967296))).bind fun _ =>
  ((chk (((0 : Nat) : Int) == 0)).bind fun _ =>
  iY [])))
 else
  iY [])
def kD (n_1 : Int) : Option ((List aD)) :=
 (bif (decide (n_1 < 0)) then
  none
 else
  lP n_1)
theorem aI7 {n_1 : Int} {r : (List aD)} (hm : kD n_1 = some r) : dI Tryz.prog 167 [.v (.slice none 0 0), .v (.int .i64 n_1)] 3 (r.flatMap aT) r.length := by
 refine dI.of_body Tryz.func167 rfl (bY.fmdat r) ?_
 simp only [Tryz.ntmps167, List.length_cons, List.length_nil, Nat.reduceAdd, Nat.reduceSub, fE]
 unfold kD at hm
 refine sN 64 (pA ?_)
 refine fs (AWp.seqJ (fun s => ∃ (n_1 : Int), s = (⟨27, (aF (aF (fun _ => AV.any) 0 (.v (.slice none 0 0))) 1 (.v (.int .i64 n_1))), ⟨aX, 64⟩⟩ : St) ∧ lP n_1 = some r) ?_ ?_)
 ·
  refine sN 128 ?_
  iterate 2 refine pA ?_
  refine fs (AWp.condM hm Z1 (fun _ hm => ?_) (fun _ hm => ?_))
  ·
   cases hm
  ·
   refine AWp.skip (aJz ?_)
   refine ⟨_, ?_, n_1, rfl, hm⟩
   exact fH id (wV (wV gI)) aSc
 ·
  rintro s ⟨n_1, rfl, hm⟩
  unfold lP at hm
  refine AWp.seqJ (fun s => ∃ (s_0 : List aD), s = (⟨27, (aF (fun _ => AV.any) 0 (.own 1 0 s_0.length)), ⟨(upd aX 1 (.cells 3 (s_0.flatMap aT) 0)), 64⟩⟩ : St) ∧ iY s_0 = some r) ?_ ?_
  ·
   refine sN 128 ?_
   iterate 2 refine pA ?_
   refine pu rfl (bA0 Tryz.underlying28 Z1) ?_
   iterate 5 refine pA ?_
   refine fs (sN 192 ?_)
   iterate 2 refine pA ?_
   refine fs (AWp.condM hm Z1 (fun _ hm => ?_) (fun _ hm => ?_))
   ·
    refine AWp.reg 64 (N' := 256) rfl ?_
    iterate 2 refine pA ?_
    refine pu rfl (bA0 Tryz.underlying28 Z1) ?_
    obtain ⟨_, h3, hm⟩ := bnd hm
    refine pu rfl (bHs Tryz.underlying28 aDv Z1 Z1 (eq_of_beq (oH h3))) ?_
    refine pA ?_
    obtain ⟨_, h4, hm⟩ := bnd hm
    refine hp (id := 197) rfl rfl (bJ3 Tryz.underlying28 Tryz.underlying3 rfl bA3 aZp (by rw [aK7]; decide) (by rw [aK7]; decide) aZl Zd Zd Z1 Z1 Z5 h4) ?_
    iterate 2 refine pA ?_
    obtain ⟨_, h8, hm⟩ := bnd hm
    refine pu rfl (bIl Tryz.underlying28 aDv Z1 Z3 Z1 (eq_of_beq (oH h8))) ?_
    refine pA ?_
    refine aU.fin (aJz ?_)
    refine ⟨_, ?_, [], rfl, hm⟩
    refine St.Le.trans (bIo 197 Z3) ?_
    exact fH (fun j => bif j == 1 then 197 else 0) (wO gI) (hW (eU bY jP))
   ·
    refine AWp.skip (aJz ?_)
    refine ⟨_, ?_, [], rfl, hm⟩
    refine St.Le.trans (nX 0 900000 3 Z1 Z5) ?_
    exact fH (fun j => bif j == 1 then 900000 else 0) (wO gI) (hW (eU bY jP))
  ·
   rintro s ⟨s_0, rfl, hm⟩
   unfold iY at hm
   refine sN 128 ?_
   iterate 2 refine pA ?_
   refine fs (AWp.ret ?_)
   cases hm
   exact aHc (.inr rfl) Tryz.results167 Z1 Z3 Z6
def nW (rec1 : List (List aD) → Int → List (List aD) → Int → Int → Option ((List aD))) (eR : List (List aD)) (sJ : Int) (t9 : List (List aD)) (t10 : Int) (t11 : Int) : Option ((List aD)) :=
 rec1 eR sJ t9 t10 (IntKind.i64.wrap (t11 + 1))
def nZ (rec2 : List aD → List (List aD) → Int → Int → Option ((List aD))) (pF : List aD) (t25 : List (List aD)) (t26 : Int) (t27 : Int) : Option ((List aD)) :=
 (bif (decide (t27 < t26)) then
  ((idx t25 t27).bind fun x6 =>
  ((app pF x6).bind fun l8 =>
  rec2 l8 t25 t26 (IntKind.i64.wrap (t27 + 1))))
 else
  some pF)
def hY : Nat → List aD → List (List aD) → Int → Int → Option ((List aD))
 | 0 => fun _ _ _ _ => none
 | n + 1 => nZ (hY n)
def nV (rec1 : List (List aD) → Int → List (List aD) → Int → Int → Option ((List aD))) (eR : List (List aD)) (sJ : Int) (t9 : List (List aD)) (t10 : Int) (t11 : Int) : Option ((List aD)) :=
 (bif (decide (t11 < t10)) then
  ((idx t9 t11).bind fun x2 =>
  (bif (decide ((IntKind.i64.wrap (sJ + (x2.length : Int))) < 0)) then
   none
  else
   nW rec1 eR (IntKind.i64.wrap (sJ + (x2.length : Int))) t9 t10 t11))
 else
  ((kD sJ).bind fun r4 =>
  hY bF r4 eR (eR.length : Int) 0))
def fW : Nat → List (List aD) → Int → List (List aD) → Int → Int → Option ((List aD))
 | 0 => fun _ _ _ _ _ => none
 | n + 1 => nV (fW n)
def iO (eR : List (List aD)) : Option ((List aD)) :=
 fW bF eR 0 eR (eR.length : Int) 0
theorem xT {eR : List (List aD)} {r : (List aD)} (hm : iO eR = some r) : aZ Tryz.prog 140 [.sl (eR.flatMap (csl aT)) eR.length false] (vl aT r) := by
 refine bd 36 Tryz.func140 ?_
 refine W ?_
 refine lp (fun m s => ∃ eR sJ t9 t10 t11, s = ⟨36, (aF (aF (aF (aF (aF fa 0 (.sl (eR.flatMap (csl aT)) eR.length false)) 3 (vi sJ)) 9 (.sl (t9.flatMap (csl aT)) t9.length false)) 10 (vi t10)) 11 (vi t11)), ⟨aX, 64⟩⟩ ∧ fW m eR sJ t9 t10 t11 = some r) L ?_
 rintro n1 s ⟨eR, sJ, t9, t10, t11, rfl, hm⟩
 refine W ?_
 refine cm hm (fun hm => ?_) fun hm => ?_
 ·
  refine V ?_
  refine AWp.seqJ (fun s => ∃ eR sJ t9 t10 t11, s = ⟨36, (aF (aF (aF (aF (aF fa 0 (.sl (eR.flatMap (csl aT)) eR.length false)) 3 (vi sJ)) 9 (.sl (t9.flatMap (csl aT)) t9.length false)) 10 (vi t10)) 11 (vi t11)), ⟨aX, 64⟩⟩ ∧ nW (fW n1) eR sJ t9 t10 t11 = some r) ?_ ?_
  ·
   obtain ⟨x2, h1, hm⟩ := bnd hm
   refine W ?_
   refine cm hm (fun hm => ?_) fun hm => ?_
   · cases hm
   exact L
  rintro s ⟨eR, sJ, t9, t10, t11, rfl, hm⟩
  exact L
 obtain ⟨r4, h3, hm⟩ := bnd hm
 refine W ?_
 refine aU.callF (id := 129) Zd Z1 bPx (fun H => (cV (cV .nil))) bY Z5 (aI7 h3) ?_
 refine W ?_
 refine lp (fun m s => ∃ pF t25 t26 t27, s = ⟨36, (aF (aF (aF (aF fa 6 (.own 1 0 pF.length)) 25 (.sl (t25.flatMap (csl aT)) t25.length false)) 26 (vi t26)) 27 (vi t27)), ⟨(upd aX 1 (.cells 3 (pF.flatMap aT) 0)), 64⟩⟩ ∧ hY m pF t25 t26 t27 = some r) (Lr (fun j => bif j == 1 then 129 else 0)) ?_
 rintro n2 s ⟨pF, t25, t26, t27, rfl, hm⟩
 refine W ?_
 refine cm hm (fun hm => ?_) fun hm => ?_
 ·
  obtain ⟨x6, h5, hm⟩ := bnd hm
  obtain ⟨l8, h7, hm⟩ := bnd hm
  refine W ?_
  exact Lr (fun j => bif j == 1 then 194 else 0)
 exact E
def aD5 (rec1 : List aD → aD → Int → Option ((List aD) × Int)) (l_1 : List aD) (dQ : aD) (jG : Int) : Option ((List aD) × Int) :=
 ((fC ((decide (jG < (l_1.length : Int))) == true) (aD.mk 0 0 0) (idx l_1 jG)).bind fun x11 =>
 ((fC ((decide (jG < (l_1.length : Int))) == true) false (sC x11 dQ)).bind fun r13 =>
 (bif ((decide (jG < (l_1.length : Int))) && r13) then
  rec1 l_1 dQ (IntKind.i64.wrap (jG + 1))
 else
  ((slc l_1 0 jG).bind fun l15 =>
  ((slc l_1 jG (l_1.length : Int)).bind fun l17 =>
  ((iO [l15, [dQ], l17]).bind fun r19 =>
  some (r19, 0)))))))
def tP : Nat → List aD → aD → Int → Option ((List aD) × Int)
 | 0 => fun _ _ _ => none
 | n + 1 => aD5 (tP n)
def aAh (n_0 : Int) (l_1 : List aD) (u_2 : Int) (v_3 : Int) : Option ((List aD) × Int) :=
 ((gH n_0 l_1).bind fun r2 =>
 ((fC ((!r2) == false) false (eW n_0 u_2)).bind fun r4 =>
 ((fC (((!r2) || (!r4)) == false) false (eW n_0 v_3)).bind fun r6 =>
 (bif (((!r2) || (!r4)) || (!r6)) then
  some (l_1, 1)
 else
  (bif (u_2 == v_3) then
   some (l_1, 8)
  else
   ((mQ l_1 u_2 v_3).bind fun ⟨r8, r9⟩ =>
   (bif r9 then
    some (l_1, 4)
   else
    tP bF l_1 (aD.mk (if v_3 < u_2 then v_3 else u_2) (if u_2 < v_3 then v_3 else u_2) 0) 0)))))))
theorem aWn {n_0 : Int} {l_1 : List aD} {u_2 : Int} {v_3 : Int} {r : (List aD) × Int} (hm : aAh n_0 l_1 u_2 v_3 = some r) : aZ Tryz.prog 116 [vi n_0, vl aT l_1, vi u_2, vi v_3] (.tup [vl aT r.1, vi r.2]) := by
 refine bd 75 Tryz.func116 ?_
 obtain ⟨r2, h1, hm⟩ := bnd hm
 refine W ?_
 refine cq (kL h1) ?_
 obtain ⟨r4, h3, hm⟩ := bnd hm
 refine W ?_
 refine cg (fun hb => jS (cM h3 hb)) ?_
 obtain ⟨r6, h5, hm⟩ := bnd hm
 refine W ?_
 refine cg (fun hb => jS (cM h5 hb)) ?_
 refine W ?_
 refine cm hm (fun hm => ?_) fun hm => ?_
 · exact E
 refine W ?_
 refine cm hm (fun hm => ?_) fun hm => ?_
 · exact E
 refine W ?_
 obtain ⟨⟨r8, r9⟩, h7, hm⟩ := bnd hm
 refine cq (wI h7) ?_
 refine W ?_
 refine cm hm (fun hm => ?_) fun hm => ?_
 · exact E
 refine W ?_
 refine pu rfl (by simp only [go_sem, Nat.reduceBEq]; exact (by kernel_rfl : cN Tryz.prog 102 [(0, .v (.int .i64 (if v_3 < u_2 then v_3 else u_2))), (1, .v (.int .i64 (if u_2 < v_3 then v_3 else u_2)))] = some (.agg [.v (.int .i64 (if v_3 < u_2 then v_3 else u_2)), .v (.int .i64 (if u_2 < v_3 then v_3 else u_2)), .v (.int .i64 0)]))) ?_
 refine W ?_
 refine lp (fun m s => ∃ l_1 dQ jG, s = ⟨75, (aF (aF (aF fa 1 (vl aT l_1)) 12 (.adr 1 0)) 13 (vi jG)), ⟨(upd aX 1 (.cells 1 [vi dQ.U, vi dQ.V, vi dQ.Tier] 0)), 64⟩⟩ ∧ tP m l_1 dQ jG = some r) (Lr (fun j => bif j == 1 then 327 else 0)) ?_
 rintro n1 s ⟨l_1, dQ, jG, rfl, hm⟩
 obtain ⟨x11, h10, hm⟩ := bnd hm
 obtain ⟨r13, h12, hm⟩ := bnd hm
 refine W ?_
 refine cg (fun hb => aFq (cM h12 hb)) ?_
 refine W ?_
 refine cm hm (fun hm => ?_) fun hm => ?_
 ·
  refine W ?_
  exact Lr (fun j => bif j == 1 then 1 else 0)
 obtain ⟨l15, h14, hm⟩ := bnd hm
 iterate 10 refine S1 ?_
 refine aU.pop Zd (yT (ps := [(0, .agg [.v (.int .i64 dQ.U), .v (.int .i64 dQ.V), .v (.int .i64 dQ.Tier)])]) (by simp only [go_sem, Nat.reduceBEq]; try rfl) (rV (.agg _ (bY.dat dQ)) aLa)) (aH4 bY (l := [dQ]) (xs := [.v (.int .i64 dQ.U), .v (.int .i64 dQ.V), .v (.int .i64 dQ.Tier)]) Tryz.underlying28 aDv aPa Zd Zd Zd (ps := [(0, .agg [.v (.int .i64 dQ.U), .v (.int .i64 dQ.V), .v (.int .i64 dQ.Tier)])]) (by simp only [go_sem, Nat.reduceBEq]; try rfl) (by kernel_rfl) (fun H => (.cons (.data _ (.v _)) (.cons (.data _ (.v _)) (.cons (.data _ (.v _)) .nil))))) rfl ?_
 obtain ⟨l17, h16, hm⟩ := bnd hm
 iterate 3 refine S1 ?_
 refine aU.pop Zd (yT (ps := [(0, .sl (l15.flatMap aT) l15.length (false && (jG : Int).toNat == l_1.length)), (1, .sl (([dQ]).flatMap aT) ([dQ]).length false), (2, .sl (l17.flatMap aT) l17.length (false && ((l_1.length : Int) : Int).toNat == l_1.length))]) (by simp only [go_sem, Nat.reduceBEq]; try rfl) (rV (bY.sl _ _ _) (rV (bY.sl _ _ _) (rV (bY.sl _ _ _) aLa)))) (aH4 (CFl bY) (l := [l15, [dQ], l17]) (xs := [.sl (l15.flatMap aT) l15.length (false && (jG : Int).toNat == l_1.length), .sl (([dQ]).flatMap aT) ([dQ]).length false, .sl (l17.flatMap aT) l17.length (false && ((l_1.length : Int) : Int).toNat == l_1.length)]) Tryz.underlying225 bN3 bN8 Zd Zd Zd (ps := [(0, .sl (l15.flatMap aT) l15.length (false && (jG : Int).toNat == l_1.length)), (1, .sl (([dQ]).flatMap aT) ([dQ]).length false), (2, .sl (l17.flatMap aT) l17.length (false && ((l_1.length : Int) : Int).toNat == l_1.length))]) (by simp only [go_sem, Nat.reduceBEq]; try rfl) (by kernel_rfl) (fun H => (.cons (tdf rfl (bY.sl _ _ _)) (.cons (.data _ (bY.sl _ _ _)) (.cons (tdf rfl (bY.sl _ _ _)) .nil))))) rfl ?_
 obtain ⟨r19, h18, hm⟩ := bnd hm
 refine cq (xT h18) ?_
 exact E
def tH (n_0 : Int) (l_1 : List aD) (u_2 : Int) (v_3 : Int) : Option ((List aD) × Int) :=
 ((gH n_0 l_1).bind fun r2 =>
 ((fC ((!r2) == false) false (eW n_0 u_2)).bind fun r4 =>
 ((fC (((!r2) || (!r4)) == false) false (eW n_0 v_3)).bind fun r6 =>
 (bif (((!r2) || (!r4)) || (!r6)) then
  some (l_1, 1)
 else
  ((mQ l_1 u_2 v_3).bind fun ⟨r8, r9⟩ =>
  (bif (!r9) then
   some (l_1, 9)
  else
   ((slc l_1 0 r8).bind fun l11 =>
   ((slc l_1 (IntKind.i64.wrap (r8 + 1)) (l_1.length : Int)).bind fun l13 =>
   ((iO [l11, l13]).bind fun r15 =>
   some (r15, 0))))))))))
theorem aOt {n_0 : Int} {l_1 : List aD} {u_2 : Int} {v_3 : Int} {r : (List aD) × Int} (hm : tH n_0 l_1 u_2 v_3 = some r) : aZ Tryz.prog 118 [vi n_0, vl aT l_1, vi u_2, vi v_3] (.tup [vl aT r.1, vi r.2]) := by
 refine bd 48 Tryz.func118 ?_
 obtain ⟨r2, h1, hm⟩ := bnd hm
 refine W ?_
 refine cq (kL h1) ?_
 obtain ⟨r4, h3, hm⟩ := bnd hm
 refine W ?_
 refine cg (fun hb => jS (cM h3 hb)) ?_
 obtain ⟨r6, h5, hm⟩ := bnd hm
 refine W ?_
 refine cg (fun hb => jS (cM h5 hb)) ?_
 refine W ?_
 refine cm hm (fun hm => ?_) fun hm => ?_
 · exact E
 refine W ?_
 obtain ⟨⟨r8, r9⟩, h7, hm⟩ := bnd hm
 refine cq (wI h7) ?_
 refine W ?_
 refine cm hm (fun hm => ?_) fun hm => ?_
 · exact E
 obtain ⟨l11, h10, hm⟩ := bnd hm
 obtain ⟨l13, h12, hm⟩ := bnd hm
 iterate 10 refine S1 ?_
 refine aU.pop Zd (yT (ps := [(0, .sl (l11.flatMap aT) l11.length (false && (r8 : Int).toNat == l_1.length)), (1, .sl (l13.flatMap aT) l13.length (false && ((l_1.length : Int) : Int).toNat == l_1.length))]) (by simp only [go_sem, Nat.reduceBEq]; try rfl) (rV (bY.sl _ _ _) (rV (bY.sl _ _ _) aLa))) (aH4 (CFl bY) (l := [l11, l13]) (xs := [.sl (l11.flatMap aT) l11.length (false && (r8 : Int).toNat == l_1.length), .sl (l13.flatMap aT) l13.length (false && ((l_1.length : Int) : Int).toNat == l_1.length)]) Tryz.underlying225 bN3 bN8 Zd Zd Zd (ps := [(0, .sl (l11.flatMap aT) l11.length (false && (r8 : Int).toNat == l_1.length)), (1, .sl (l13.flatMap aT) l13.length (false && ((l_1.length : Int) : Int).toNat == l_1.length))]) (by simp only [go_sem, Nat.reduceBEq]; try rfl) (by kernel_rfl) (fun H => (.cons (tdf rfl (bY.sl _ _ _)) (.cons (tdf rfl (bY.sl _ _ _)) .nil)))) rfl ?_
 obtain ⟨r15, h14, hm⟩ := bnd hm
 refine cq (xT h14) ?_
 exact E
def aAp (n_0 : Int) : Option (Int) :=
 some (Int.tmod n_0 2305843009213693951)
theorem aL7 {n_0 : Int} {r : Int} (hm : aAp n_0 = some r) : aZ Tryz.prog 164 [vu n_0] (vu r) := by
 refine bd 5 Tryz.func164 ?_
 exact E
def aNd (a_0 : Int) (b_1 : Int) : Option (Int) :=
 ((aAp a_0).bind fun r2 =>
 ((aAp b_1).bind fun r4 =>
 some (Int.tmod (IntKind.u64.wrap (r2 + r4)) 2305843009213693951)))
theorem bHq {a_0 : Int} {b_1 : Int} {r : Int} (hm : aNd a_0 b_1 = some r) : aZ Tryz.prog 138 [vu a_0, vu b_1] (vu r) := by
 refine bd 11 Tryz.func138 ?_
 obtain ⟨r2, h1, hm⟩ := bnd hm
 refine W ?_
 refine cq (aL7 h1) ?_
 obtain ⟨r4, h3, hm⟩ := bnd hm
 refine W ?_
 refine cq (aL7 h3) ?_
 exact E
def zA (x_0 : Int) (y_1 : Int) : Option (Int × Int) :=
 some ((IntKind.u64.wrap ((IntKind.u64.wrap ((IntKind.u64.wrap ((shr .u64 x_0 32) * (shr .u64 y_1 32))) + (shr .u64 (IntKind.u64.wrap ((IntKind.u64.wrap ((shr .u64 x_0 32) * (aDa .u64 y_1 4294967295))) + (shr .u64 (IntKind.u64.wrap ((aDa .u64 x_0 4294967295) * (aDa .u64 y_1 4294967295))) 32))) 32))) + (shr .u64 (IntKind.u64.wrap ((aDa .u64 (IntKind.u64.wrap ((IntKind.u64.wrap ((shr .u64 x_0 32) * (aDa .u64 y_1 4294967295))) + (shr .u64 (IntKind.u64.wrap ((aDa .u64 x_0 4294967295) * (aDa .u64 y_1 4294967295))) 32))) 4294967295) + (IntKind.u64.wrap ((aDa .u64 x_0 4294967295) * (shr .u64 y_1 32))))) 32))), (IntKind.u64.wrap (x_0 * y_1)))
theorem aU5 {x_0 : Int} {y_1 : Int} {r : Int × Int} (hm : zA x_0 y_1 = some r) : aZ Tryz.prog 165 [vu x_0, vu y_1] (.tup [vu r.1, vu r.2]) := by
 refine bd 51 Tryz.func165 ?_
 exact E
def aBe (x_0 : Int) (n_2 : Int) : Option (Int) :=
 ((bI4 bGn (IntKind.u8.wrap x_0)).bind fun b2 =>
 some (IntKind.i64.wrap (n_2 + (IntKind.i64.wrap b2))))
def aAd (x_0 : Int) (n_2 : Int) : Option (Int) :=
 (bif (decide (256 ≤ x_0)) then
  aBe (shr .u64 x_0 8) (IntKind.i64.wrap (n_2 + 8))
 else
  aBe x_0 n_2)
def aBg (x_0 : Int) (n_2 : Int) : Option (Int) :=
 (bif (decide (65536 ≤ x_0)) then
  aAd (shr .u64 x_0 16) (IntKind.i64.wrap (n_2 + 16))
 else
  aAd x_0 n_2)
def aCe (x_0 : Int) : Option (Int) :=
 (bif (decide (4294967296 ≤ x_0)) then
  aBg (shr .u64 x_0 32) 32
 else
  aBg x_0 0)
theorem aK9 {x_0 : Int} {r : Int} (hm : aCe x_0 = some r) : aZ Tryz.prog 155 [vu x_0] (vi r) := by
 refine bd 25 Tryz.func155 ?_
 refine V ?_
 refine AWp.seqJ (fun s => ∃ x_0 n_2, s = ⟨25, (aF (aF fa 0 (vu x_0)) 2 (vi n_2)), ⟨aX, 64⟩⟩ ∧ aBg x_0 n_2 = some r) ?_ ?_
 ·
  refine W ?_
  refine cm hm (fun hm => ?_) fun hm => ?_
  · exact L
  exact L
 rintro s ⟨x_0, n_2, rfl, hm⟩
 refine AWp.seqJ (fun s => ∃ x_0 n_2, s = ⟨25, (aF (aF fa 0 (vu x_0)) 2 (vi n_2)), ⟨aX, 64⟩⟩ ∧ aAd x_0 n_2 = some r) ?_ ?_
 ·
  refine W ?_
  refine cm hm (fun hm => ?_) fun hm => ?_
  · exact L
  exact L
 rintro s ⟨x_0, n_2, rfl, hm⟩
 refine AWp.seqJ (fun s => ∃ x_0 n_2, s = ⟨25, (aF (aF fa 0 (vu x_0)) 2 (vi n_2)), ⟨aX, 64⟩⟩ ∧ aBe x_0 n_2 = some r) ?_ ?_
 ·
  refine W ?_
  refine cm hm (fun hm => ?_) fun hm => ?_
  · exact L
  exact L
 rintro s ⟨x_0, n_2, rfl, hm⟩
 obtain ⟨b2, h1, hm⟩ := bnd hm
 exact E
def mK (x_0 : Int) : Option (Int) :=
 ((aCe x_0).bind fun r2 =>
 some (IntKind.i64.wrap (64 - r2)))
theorem aDx {x_0 : Int} {r : Int} (hm : mK x_0 = some r) : aZ Tryz.prog 196 [vu x_0] (vi r) := by
 refine bd 6 Tryz.func196 ?_
 obtain ⟨r2, h1, hm⟩ := bnd hm
 refine W ?_
 refine cq (aK9 h1) ?_
 exact E
def rJ (y_2 : Int) (s_8 : Int) (fY : Int) (iA : Int) (nN : Int) (uZ : Int) : Option (Int × Int) :=
 ((chk (decide (0 ≤ s_8))).bind fun _ =>
 some ((IntKind.u64.wrap ((IntKind.u64.wrap (iA * 4294967296)) + uZ)), (shr .u64 (IntKind.u64.wrap ((IntKind.u64.wrap ((IntKind.u64.wrap (nN * 4294967296)) + fY)) - (IntKind.u64.wrap (uZ * y_2)))) s_8)))
def aB9 (rec1 : Int → Int → Int → Int → Int → Int → Int → Int → Int → Option (Int × Int)) (y_2 : Int) (s_8 : Int) (jV : Int) (jK : Int) (fY : Int) (iA : Int) (kH : Int) (nN : Int) (uZ : Int) : Option (Int × Int) :=
 (bif ((decide (4294967296 ≤ uZ)) || (decide ((IntKind.u64.wrap ((IntKind.u64.wrap (4294967296 * kH)) + fY)) < (IntKind.u64.wrap (uZ * jK))))) then
  (bif (decide (4294967296 ≤ (IntKind.u64.wrap (kH + jV)))) then
   rJ y_2 s_8 fY iA nN (IntKind.u64.wrap (uZ - 1))
  else
   rec1 y_2 s_8 jV jK fY iA (IntKind.u64.wrap (kH + jV)) nN (IntKind.u64.wrap (uZ - 1)))
 else
  rJ y_2 s_8 fY iA nN uZ)
def mZ : Nat → Int → Int → Int → Int → Int → Int → Int → Int → Int → Option (Int × Int)
 | 0 => fun _ _ _ _ _ _ _ _ _ => none
 | n + 1 => aB9 (mZ n)
def nK (y_2 : Int) (s_8 : Int) (jV : Int) (jK : Int) (jT : Int) (lY : Int) (fY : Int) (iA : Int) : Option (Int × Int) :=
 ((chk (jV != 0)).bind fun _ =>
 mZ bF y_2 s_8 jV jK fY iA (IntKind.u64.wrap ((IntKind.u64.wrap ((IntKind.u64.wrap ((IntKind.u64.wrap (jT * 4294967296)) + lY)) - (IntKind.u64.wrap (iA * y_2)))) - (IntKind.u64.wrap ((IntKind.u64.wrap (Int.tdiv (IntKind.u64.wrap ((IntKind.u64.wrap ((IntKind.u64.wrap (jT * 4294967296)) + lY)) - (IntKind.u64.wrap (iA * y_2)))) jV)) * jV)))) (IntKind.u64.wrap ((IntKind.u64.wrap ((IntKind.u64.wrap (jT * 4294967296)) + lY)) - (IntKind.u64.wrap (iA * y_2)))) (IntKind.u64.wrap (Int.tdiv (IntKind.u64.wrap ((IntKind.u64.wrap ((IntKind.u64.wrap (jT * 4294967296)) + lY)) - (IntKind.u64.wrap (iA * y_2)))) jV)))
def aBb (rec2 : Int → Int → Int → Int → Int → Int → Int → Int → Int → Option (Int × Int)) (y_2 : Int) (s_8 : Int) (jV : Int) (jK : Int) (jT : Int) (lY : Int) (fY : Int) (iA : Int) (kH : Int) : Option (Int × Int) :=
 (bif ((decide (4294967296 ≤ iA)) || (decide ((IntKind.u64.wrap ((IntKind.u64.wrap (4294967296 * kH)) + lY)) < (IntKind.u64.wrap (iA * jK))))) then
  (bif (decide (4294967296 ≤ (IntKind.u64.wrap (kH + jV)))) then
   nK y_2 s_8 jV jK jT lY fY (IntKind.u64.wrap (iA - 1))
  else
   rec2 y_2 s_8 jV jK jT lY fY (IntKind.u64.wrap (iA - 1)) (IntKind.u64.wrap (kH + jV)))
 else
  nK y_2 s_8 jV jK jT lY fY iA)
def nQ : Nat → Int → Int → Int → Int → Int → Int → Int → Int → Int → Option (Int × Int)
 | 0 => fun _ _ _ _ _ _ _ _ _ => none
 | n + 1 => aBb (nQ n)
def aBw (tK : Int) (rX : Int) (y_2 : Int) : Option (Int × Int) :=
 (bif (tK == 0) then
  ((chk (y_2 != 0)).bind fun _ =>
  ((chk (y_2 != 0)).bind fun _ =>
  some ((IntKind.u64.wrap (Int.tdiv rX y_2)), (Int.tmod rX y_2))))
 else
  ((mK y_2).bind fun r4 =>
  ((chk (decide (0 ≤ (IntKind.u64.wrap r4)))).bind fun _ =>
  ((chk (decide (0 ≤ (IntKind.u64.wrap r4)))).bind fun _ =>
  ((chk (decide (0 ≤ (IntKind.u64.wrap (64 - (IntKind.u64.wrap r4)))))).bind fun _ =>
  ((chk (decide (0 ≤ (IntKind.u64.wrap r4)))).bind fun _ =>
  ((chk ((shr .u64 (shl .u64 y_2 (IntKind.u64.wrap r4)) 32) != 0)).bind fun _ =>
  nQ bF (shl .u64 y_2 (IntKind.u64.wrap r4)) (IntKind.u64.wrap r4) (shr .u64 (shl .u64 y_2 (IntKind.u64.wrap r4)) 32) (aDa .u64 (shl .u64 y_2 (IntKind.u64.wrap r4)) 4294967295) (bor .u64 (shl .u64 tK (IntKind.u64.wrap r4)) (shr .u64 rX (IntKind.u64.wrap (64 - (IntKind.u64.wrap r4))))) (shr .u64 (shl .u64 rX (IntKind.u64.wrap r4)) 32) (aDa .u64 (shl .u64 rX (IntKind.u64.wrap r4)) 4294967295) (IntKind.u64.wrap (Int.tdiv (bor .u64 (shl .u64 tK (IntKind.u64.wrap r4)) (shr .u64 rX (IntKind.u64.wrap (64 - (IntKind.u64.wrap r4))))) (shr .u64 (shl .u64 y_2 (IntKind.u64.wrap r4)) 32))) (IntKind.u64.wrap ((bor .u64 (shl .u64 tK (IntKind.u64.wrap r4)) (shr .u64 rX (IntKind.u64.wrap (64 - (IntKind.u64.wrap r4))))) - (IntKind.u64.wrap ((IntKind.u64.wrap (Int.tdiv (bor .u64 (shl .u64 tK (IntKind.u64.wrap r4)) (shr .u64 rX (IntKind.u64.wrap (64 - (IntKind.u64.wrap r4))))) (shr .u64 (shl .u64 y_2 (IntKind.u64.wrap r4)) 32))) * (shr .u64 (shl .u64 y_2 (IntKind.u64.wrap r4)) 32))))))))))))
def aAm (tK : Int) (rX : Int) (y_2 : Int) : Option (Int × Int) :=
 (bif (decide (y_2 ≤ tK)) then
  none
 else
  aBw tK rX y_2)
def yK (tK : Int) (rX : Int) (y_2 : Int) : Option (Int × Int) :=
 (bif (y_2 == 0) then
  none
 else
  aAm tK rX y_2)
theorem aU9 {tK : Int} {rX : Int} {y_2 : Int} {r : Int × Int} (hm : yK tK rX y_2 = some r) : aZ Tryz.prog 183 [vu tK, vu rX, vu y_2] (.tup [vu r.1, vu r.2]) := by
 refine bd 135 Tryz.func183 ?_
 refine V ?_
 refine AWp.seqJ (fun s => ∃ tK rX y_2, s = ⟨135, (aF (aF (aF fa 0 (vu tK)) 1 (vu rX)) 2 (vu y_2)), ⟨aX, 64⟩⟩ ∧ aAm tK rX y_2 = some r) ?_ ?_
 ·
  refine W ?_
  refine cm hm (fun hm => ?_) fun hm => ?_
  · cases hm
  exact L
 rintro s ⟨tK, rX, y_2, rfl, hm⟩
 refine AWp.seqJ (fun s => ∃ tK rX y_2, s = ⟨135, (aF (aF (aF fa 0 (vu tK)) 1 (vu rX)) 2 (vu y_2)), ⟨aX, 64⟩⟩ ∧ aBw tK rX y_2 = some r) ?_ ?_
 ·
  refine W ?_
  refine cm hm (fun hm => ?_) fun hm => ?_
  · cases hm
  exact L
 rintro s ⟨tK, rX, y_2, rfl, hm⟩
 refine W ?_
 refine cm hm (fun hm => ?_) fun hm => ?_
 ·
  obtain ⟨_, h1, hm⟩ := bnd hm
  obtain ⟨_, h2, hm⟩ := bnd hm
  exact E
 obtain ⟨r4, h3, hm⟩ := bnd hm
 refine W ?_
 refine cq (aDx h3) ?_
 obtain ⟨_, h5, hm⟩ := bnd hm
 obtain ⟨_, h6, hm⟩ := bnd hm
 obtain ⟨_, h7, hm⟩ := bnd hm
 obtain ⟨_, h8, hm⟩ := bnd hm
 obtain ⟨_, h9, hm⟩ := bnd hm
 refine V ?_
 refine AWp.seqJ (fun s => ∃ y_2 s_8 jV jK jT lY fY iA, s = ⟨135, (aF (aF (aF (aF (aF (aF (aF (aF fa 2 (vu y_2)) 8 (vu s_8)) 9 (vu jV)) 10 (vu jK)) 11 (vu jT)) 13 (vu lY)) 14 (vu fY)) 15 (vu iA)), ⟨aX, 64⟩⟩ ∧ nK y_2 s_8 jV jK jT lY fY iA = some r) ?_ ?_
 ·
  refine W ?_
  refine lp (fun m s => ∃ y_2 s_8 jV jK jT lY fY iA kH, s = ⟨135, (aF (aF (aF (aF (aF (aF (aF (aF (aF fa 2 (vu y_2)) 8 (vu s_8)) 9 (vu jV)) 10 (vu jK)) 11 (vu jT)) 13 (vu lY)) 14 (vu fY)) 15 (vu iA)) 16 (vu kH)), ⟨aX, 64⟩⟩ ∧ nQ m y_2 s_8 jV jK jT lY fY iA kH = some r) L ?_
  rintro n2 s ⟨y_2, s_8, jV, jK, jT, lY, fY, iA, kH, rfl, hm⟩
  refine W ?_
  refine cm hm (fun hm => ?_) fun hm => ?_
  ·
   refine W ?_
   refine cm hm (fun hm => ?_) fun hm => ?_
   ·
    refine W ?_
    refine aPr Zd ?_
    exact L
   exact L
  exact L
 rintro s ⟨y_2, s_8, jV, jK, jT, lY, fY, iA, rfl, hm⟩
 obtain ⟨_, h10, hm⟩ := bnd hm
 refine V ?_
 refine AWp.seqJ (fun s => ∃ y_2 s_8 fY iA nN uZ, s = ⟨135, (aF (aF (aF (aF (aF (aF fa 2 (vu y_2)) 8 (vu s_8)) 14 (vu fY)) 15 (vu iA)) 17 (vu nN)) 18 (vu uZ)), ⟨aX, 64⟩⟩ ∧ rJ y_2 s_8 fY iA nN uZ = some r) ?_ ?_
 ·
  refine W ?_
  refine lp (fun m s => ∃ y_2 s_8 jV jK fY iA kH nN uZ, s = ⟨135, (aF (aF (aF (aF (aF (aF (aF (aF (aF fa 2 (vu y_2)) 8 (vu s_8)) 9 (vu jV)) 10 (vu jK)) 14 (vu fY)) 15 (vu iA)) 16 (vu kH)) 17 (vu nN)) 18 (vu uZ)), ⟨aX, 64⟩⟩ ∧ mZ m y_2 s_8 jV jK fY iA kH nN uZ = some r) L ?_
  rintro n1 s ⟨y_2, s_8, jV, jK, fY, iA, kH, nN, uZ, rfl, hm⟩
  refine W ?_
  refine cm hm (fun hm => ?_) fun hm => ?_
  ·
   refine W ?_
   refine cm hm (fun hm => ?_) fun hm => ?_
   ·
    refine W ?_
    refine aPr Zd ?_
    exact L
   exact L
  exact L
 rintro s ⟨y_2, s_8, fY, iA, nN, uZ, rfl, hm⟩
 obtain ⟨_, h11, hm⟩ := bnd hm
 exact E
end Go.Proofs.YtkdohhmacfoolaaGreat
