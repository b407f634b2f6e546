/- Facts that the statement's proof is made of. No condition. -/
import Derived.Test.YtkdohhmacfoolaaGreatNdOf
import Derived.Test.YtkdohhmacfoolaaGreatNdAmF
import Derived.Test.YtkdohhmacfoolaaGreatNdPl
set_option linter.unusedVariables false
set_option linter.unusedSimpArgs false
set_option maxRecDepth 20000
set_option maxHeartbeats 4000000
namespace Go.Proofs.YtkdohhmacfoolaaGreat
open Go Go.AM
def bBe : ByteArray := ⟨#[0, 1, 2, 2, 3, 3, 3, 3, 4, 4, 4, 4, 4, 4, 4, 4, 5, 5, 5, 5, 5, 5, 5, 5, 5, 5, 5, 5, 5, 5, 5, 5, 6, 6, 6, 6, 6, 6, 6, 6, 6, 6, 6, 6, 6, 6, 6, 6, 6, 6, 6, 6, 6, 6, 6, 6, 6, 6, 6, 6, 6, 6, 6, 6, 7, 7, 7, 7, 7, 7, 7, 7, 7, 7, 7, 7, 7, 7, 7, 7, 7, 7, 7, 7, 7, 7, 7, 7, 7, 7, 7, 7, 7, 7, 7, 7, 7, 7, 7, 7, 7, 7, 7, 7, 7, 7, 7, 7, 7, 7, 7, 7, 7, 7, 7, 7, 7, 7, 7, 7, 7, 7, 7, 7, 7, 7, 7, 7, 8, 8, 8, 8, 8, 8, 8, 8, 8, 8, 8, 8, 8, 8, 8, 8, 8, 8, 8, 8, 8, 8, 8, 8, 8, 8, 8, 8, 8, 8, 8, 8, 8, 8, 8, 8, 8, 8, 8, 8, 8, 8, 8, 8, 8, 8, 8, 8, 8, 8, 8, 8, 8, 8, 8, 8, 8, 8, 8, 8, 8, 8, 8, 8, 8, 8, 8, 8, 8, 8, 8, 8, 8, 8, 8, 8, 8, 8, 8, 8, 8, 8, 8, 8, 8, 8, 8, 8, 8, 8, 8, 8, 8, 8, 8, 8, 8, 8, 8, 8, 8, 8, 8, 8, 8, 8, 8, 8, 8, 8, 8, 8, 8, 8, 8, 8, 8, 8, 8, 8, 8, 8, 8, 8, 8, 8, 8, 8]⟩
structure bS where
 A : Int
 B : Int
deriving DecidableEq
def bH (e : bS) : List AV := [.v (.int .u64 e.A), .v (.int .u64 e.B)]
theorem mK : CF bH 2 := ⟨fun _ => rfl, fun a x hx => by
 simp only [bH, List.mem_cons, List.not_mem_nil, or_false] at hx
 rcases hx with rfl | rfl
 ·
  exact (.v _)
 ·
  exact (.v _), fun _ => rfl⟩
instance : CC bH 2 := ⟨mK⟩
theorem aW2 (e : bS) (r : List AV) : bH e ++ r = .v (.int .u64 e.A) :: .v (.int .u64 e.B) :: r := rfl
attribute [go_sem] aW2
structure aN where
 N : Int
 L : Int
 R : Int
deriving DecidableEq
def aLf (e : aN) : List AV := [.v (.int .i64 e.N), .v (.int .i64 e.L), .v (.int .i64 e.R)]
theorem aPq (e : aN) (r : List AV) : aLf e ++ r = .v (.int .i64 e.N) :: .v (.int .i64 e.L) :: .v (.int .i64 e.R) :: r := rfl
attribute [go_sem] aPq
structure aG where
 Config : aN
 Hashes : List bS
 Edges : List aC
deriving DecidableEq
def bGh (e : aG) : List AV := [.v (.int .i64 e.Config.N), .v (.int .i64 e.Config.L), .v (.int .i64 e.Config.R), .sl (e.Hashes.flatMap bH) e.Hashes.length false, .sl (e.Edges.flatMap aT) e.Edges.length false]
theorem aRu (e : aG) (r : List AV) : bGh e ++ r = .v (.int .i64 e.Config.N) :: .v (.int .i64 e.Config.L) :: .v (.int .i64 e.Config.R) :: .sl (e.Hashes.flatMap bH) e.Hashes.length false :: .sl (e.Edges.flatMap aT) e.Edges.length false :: r := rfl
attribute [go_sem] aRu
theorem aY6 (x0 y0 x1 y1 x2 y2 : Int) : dV Tryz.prog .eql 102 (.agg [.v (.int .i64 x0), .v (.int .i64 x1), .v (.int .i64 x2)]) (.agg [.v (.int .i64 y0), .v (.int .i64 y1), .v (.int .i64 y2)]) = some (.v (.bool ((x0 == y0) && ((x1 == y1) && (x2 == y2))))) :=
 (by kernel_rfl : dV Tryz.prog .eql 102 (.agg [.v (.int .i64 x0), .v (.int .i64 x1), .v (.int .i64 x2)]) (.agg [.v (.int .i64 y0), .v (.int .i64 y1), .v (.int .i64 y2)]) = some (.v (.bool ((x0 == y0) && ((x1 == y1) && ((x2 == y2) && true)))))).trans (by rw [Bool.and_true])
theorem aY0 (x0 y0 x1 y1 x2 y2 : Int) : dV Tryz.prog .neq 102 (.agg [.v (.int .i64 x0), .v (.int .i64 x1), .v (.int .i64 x2)]) (.agg [.v (.int .i64 y0), .v (.int .i64 y1), .v (.int .i64 y2)]) = some (.v (.bool (!((x0 == y0) && ((x1 == y1) && (x2 == y2)))))) :=
 (by kernel_rfl : dV Tryz.prog .neq 102 (.agg [.v (.int .i64 x0), .v (.int .i64 x1), .v (.int .i64 x2)]) (.agg [.v (.int .i64 y0), .v (.int .i64 y1), .v (.int .i64 y2)]) = some (.v (.bool (!((x0 == y0) && ((x1 == y1) && ((x2 == y2) && true))))))).trans (by rw [Bool.and_true])
attribute [go_sem] aY6 aY0
theorem aYm (x0 y0 x1 y1 : Int) : dV Tryz.prog .eql 120 (.agg [.v (.int .u64 x0), .v (.int .u64 x1)]) (.agg [.v (.int .u64 y0), .v (.int .u64 y1)]) = some (.v (.bool ((x0 == y0) && (x1 == y1)))) :=
 (by kernel_rfl : dV Tryz.prog .eql 120 (.agg [.v (.int .u64 x0), .v (.int .u64 x1)]) (.agg [.v (.int .u64 y0), .v (.int .u64 y1)]) = some (.v (.bool ((x0 == y0) && ((x1 == y1) && true))))).trans (by rw [Bool.and_true])
theorem aY9 (x0 y0 x1 y1 : Int) : dV Tryz.prog .neq 120 (.agg [.v (.int .u64 x0), .v (.int .u64 x1)]) (.agg [.v (.int .u64 y0), .v (.int .u64 y1)]) = some (.v (.bool (!((x0 == y0) && (x1 == y1))))) :=
 (by kernel_rfl : dV Tryz.prog .neq 120 (.agg [.v (.int .u64 x0), .v (.int .u64 x1)]) (.agg [.v (.int .u64 y0), .v (.int .u64 y1)]) = some (.v (.bool (!((x0 == y0) && ((x1 == y1) && true)))))).trans (by rw [Bool.and_true])
attribute [go_sem] aYm aY9
theorem bC4 (x0 y0 x1 y1 x2 y2 : Int) : dV Tryz.prog .eql 23 (.agg [.v (.int .i64 x0), .v (.int .i64 x1), .v (.int .i64 x2)]) (.agg [.v (.int .i64 y0), .v (.int .i64 y1), .v (.int .i64 y2)]) = some (.v (.bool ((x0 == y0) && ((x1 == y1) && (x2 == y2))))) :=
 (by kernel_rfl : dV Tryz.prog .eql 23 (.agg [.v (.int .i64 x0), .v (.int .i64 x1), .v (.int .i64 x2)]) (.agg [.v (.int .i64 y0), .v (.int .i64 y1), .v (.int .i64 y2)]) = some (.v (.bool ((x0 == y0) && ((x1 == y1) && ((x2 == y2) && true)))))).trans (by rw [Bool.and_true])
theorem bDv (x0 y0 x1 y1 x2 y2 : Int) : dV Tryz.prog .neq 23 (.agg [.v (.int .i64 x0), .v (.int .i64 x1), .v (.int .i64 x2)]) (.agg [.v (.int .i64 y0), .v (.int .i64 y1), .v (.int .i64 y2)]) = some (.v (.bool (!((x0 == y0) && ((x1 == y1) && (x2 == y2)))))) :=
 (by kernel_rfl : dV Tryz.prog .neq 23 (.agg [.v (.int .i64 x0), .v (.int .i64 x1), .v (.int .i64 x2)]) (.agg [.v (.int .i64 y0), .v (.int .i64 y1), .v (.int .i64 y2)]) = some (.v (.bool (!((x0 == y0) && ((x1 == y1) && ((x2 == y2) && true))))))).trans (by rw [Bool.and_true])
attribute [go_sem] bC4 bDv
theorem aV3 (xs : List AV) : aI Tryz.prog 102 (.ptr (xs)) 0 = some (.ptr xs) := by kernel_rfl
attribute [go_sem] aV3
theorem aVj (x0 : AV) (xs : List AV) : aI Tryz.prog 102 (.ptr (x0 :: xs)) 1 = some (.ptr xs) := by kernel_rfl
attribute [go_sem] aVj
theorem aUy (x0 : AV) (x1 : AV) (xs : List AV) : aI Tryz.prog 102 (.ptr (x0 :: x1 :: xs)) 2 = some (.ptr xs) := by kernel_rfl
attribute [go_sem] aUy
theorem aU8 (i o : Nat) : aI Tryz.prog 102 (.adr i o) 0 = some (.adr i (o + 0)) := by kernel_rfl
attribute [go_sem] aU8
theorem aTw (i o : Nat) : aI Tryz.prog 102 (.adr i o) 1 = some (.adr i (o + 1)) := by kernel_rfl
attribute [go_sem] aTw
theorem aV4 (i o : Nat) : aI Tryz.prog 102 (.adr i o) 2 = some (.adr i (o + 2)) := by kernel_rfl
attribute [go_sem] aV4
theorem aVs (i o : Nat) : aI Tryz.prog 120 (.adr i o) 0 = some (.adr i (o + 0)) := by kernel_rfl
attribute [go_sem] aVs
theorem aTq (i o : Nat) : aI Tryz.prog 120 (.adr i o) 1 = some (.adr i (o + 1)) := by kernel_rfl
attribute [go_sem] aTq
theorem aYv (i o : Nat) : aI Tryz.prog 23 (.adr i o) 0 = some (.adr i (o + 0)) := by kernel_rfl
attribute [go_sem] aYv
theorem aZe (i o : Nat) : aI Tryz.prog 23 (.adr i o) 1 = some (.adr i (o + 1)) := by kernel_rfl
attribute [go_sem] aZe
theorem aYc (i o : Nat) : aI Tryz.prog 23 (.adr i o) 2 = some (.adr i (o + 2)) := by kernel_rfl
attribute [go_sem] aYc
theorem aZg (i o : Nat) : aI Tryz.prog 30 (.adr i o) 0 = some (.adr i (o + 0)) := by kernel_rfl
attribute [go_sem] aZg
theorem aY4 (i o : Nat) : aI Tryz.prog 30 (.adr i o) 1 = some (.adr i (o + 3)) := by kernel_rfl
attribute [go_sem] aY4
theorem bA8 (i o : Nat) : aI Tryz.prog 30 (.adr i o) 2 = some (.adr i (o + 4)) := by kernel_rfl
attribute [go_sem] bA8
theorem bCm (H : aH) (x0 x1 x2 : AV) (xs : List AV) : bP Tryz.prog H 102 (.ptr (x0 :: x1 :: x2 :: xs)) = some (.agg [x0, x1, x2]) := by kernel_rfl
attribute [go_sem] bCm
theorem bBv (H : aH) (x0 x1 : AV) (xs : List AV) : bP Tryz.prog H 120 (.ptr (x0 :: x1 :: xs)) = some (.agg [x0, x1]) := by kernel_rfl
attribute [go_sem] bBv
theorem bGx (H : aH) (x0 x1 x2 : AV) (xs : List AV) : bP Tryz.prog H 23 (.ptr (x0 :: x1 :: x2 :: xs)) = some (.agg [x0, x1, x2]) := by kernel_rfl
attribute [go_sem] bGx
theorem bEf (H : aH) (x : AV) (xs : List AV) : bP Tryz.prog H 27 (.ptr (x :: xs)) = some x := by kernel_rfl
attribute [go_sem] bEf
theorem bGw (H : aH) (x : AV) (xs : List AV) : bP Tryz.prog H 28 (.ptr (x :: xs)) = some x := by kernel_rfl
attribute [go_sem] bGw
theorem bIy (H : aH) (x : AV) (xs : List AV) : bP Tryz.prog H 3 (.ptr (x :: xs)) = some x := by kernel_rfl
attribute [go_sem] bIy
theorem bGo (H : aH) (x0 x1 x2 x3 x4 : AV) (xs : List AV) : bP Tryz.prog H 30 (.ptr (x0 :: x1 :: x2 :: x3 :: x4 :: xs)) = some (.agg [x0, x1, x2, x3, x4]) := by kernel_rfl
attribute [go_sem] bGo
theorem bFi (H : aH) (x : AV) (xs : List AV) : bP Tryz.prog H 43 (.ptr (x :: xs)) = some x := by kernel_rfl
attribute [go_sem] bFi
theorem aU2 (H : aH) (k : IntKind) (n : Int) : nH Tryz.prog H 3 198 (.v (.int k n)) = some (.v (.int .u64 (IntKind.u64.wrap n))) := gL Tryz.underlying3 Tryz.underlying198
attribute [go_sem] aU2
theorem bDf (H : aH) (k : IntKind) (n : Int) : nH Tryz.prog H 5 3 (.v (.int k n)) = some (.v (.int .i64 (IntKind.i64.wrap n))) := gL Tryz.underlying5 Tryz.underlying3
attribute [go_sem] bDf
theorem aYn (H : aH) (k : IntKind) (n : Int) : nH Tryz.prog H 43 5 (.v (.int k n)) = some (.v (.int .u8 (IntKind.u8.wrap n))) := gL Tryz.underlying43 Tryz.underlying5
attribute [go_sem] aYn
def aQ0 (rec1 : List Int → List Int → Int → Option (Bool)) (a_0 : List Int) (b_1 : List Int) (i_5 : Int) : Option (Bool) :=
 (bif (decide (i_5 < (a_0.length : Int))) then
  ((idx a_0 i_5).bind fun x2 =>
  ((idx b_1 i_5).bind fun x4 =>
  (bif (x2 != x4) then
   some false
  else
   rec1 a_0 b_1 (IntKind.i64.wrap (i_5 + 1)))))
 else
  some true)
def aAk : Nat → List Int → List Int → Int → Option (Bool)
 | 0 => fun _ _ _ => none
 | n + 1 => aQ0 (aAk n)
def aIe (a_0 : List Int) (b_1 : List Int) : Option (Bool) :=
 (bif ((a_0.length : Int) != (b_1.length : Int)) then
  some false
 else
  aAk bK a_0 b_1 0)
theorem aQn {a_0 : List Int} {b_1 : List Int} {r : Bool} (hm : aIe a_0 b_1 = some r) : aZ Tryz.prog 33 [vl (ci .u64) a_0, vl (ci .u64) b_1] (vb r) := by
 refine bd 26 Tryz.func33 ?_
 refine W ?_
 refine cm hm (fun hm => ?_) fun hm => ?_
 · exact E
 refine W ?_
 refine lp (fun m s => ∃ a_0 b_1 i_5, s = ⟨26, (aF (aF (aF fa 0 (vl (ci .u64) a_0)) 1 (vl (ci .u64) b_1)) 5 (vi i_5)), ⟨aX, 64⟩⟩ ∧ aAk m a_0 b_1 i_5 = some r) L ?_
 rintro n1 s ⟨a_0, b_1, i_5, rfl, hm⟩
 refine W ?_
 refine cm hm (fun hm => ?_) fun hm => ?_
 ·
  obtain ⟨x2, h1, hm⟩ := bnd hm
  obtain ⟨x4, h3, hm⟩ := bnd hm
  refine W ?_
  refine cm hm (fun hm => ?_) fun hm => ?_
  · exact E
  exact L
 exact E
def eK (l : List bS) : Option (List bS) := aOu 16 [] l
theorem aEh {r : List bS} (hm : some [] = some r) : dB Tryz.prog 69 [.v (.slice none 0 0)] 2 (r.flatMap bH) r.length := by
 refine dB.of_body Tryz.func69 rfl (mK.fmdat r) ?_
 simp only [Tryz.ntmps69, List.length_cons, List.length_nil, Nat.reduceAdd, Nat.reduceSub, eR]
 refine sN 64 (pA ?_)
 refine fs (AWp.seq' (sN 128 (pA ?_)))
 refine pu rfl (tM Z1 Z1 (aFd Tryz.underlying27)) ?_
 refine fs (AWp.condT Z1 ?_)
 refine sN 192 (pA ?_)
 refine fs (AWp.weaken (oD 2 900002 2 Z1 Z5) ?_)
 refine AWp.ret (jD ?_)
 cases hm
 exact aFn (.inr rfl) Tryz.results69 Z1 Z3 Z6
theorem aEj {a : Addr} {c : Nat} {r : List bS} (hm : ((aOu 16 [] []).bind fun l2 =>
some l2) = some r) : dB Tryz.prog 69 [.v (.slice (some a) 0 c)] 2 (r.flatMap bH) r.length := by
 refine dB.of_body Tryz.func69 rfl (mK.fmdat r) ?_
 simp only [Tryz.ntmps69, List.length_cons, List.length_nil, Nat.reduceAdd, Nat.reduceSub, eR]
 refine sN 64 (pA ?_)
 refine fs (AWp.seq' (sN 128 (pA ?_)))
 refine pu rfl (tM Z1 Z1 (aCv Tryz.underlying27)) ?_
 refine fs (AWp.condF Z1 ?_)
 refine AWp.skip (bU (sN 192 (hp (id := 128) rfl rfl (lE mK (l := []) Tryz.underlying27 bBn bBh Z5 Zd Zd Zd (by simp only [go_sem, Nat.reduceBEq]; try rfl) (by kernel_rfl)) ?_)))
 refine pA ?_
 obtain ⟨l2, h1, hm⟩ := bnd hm
 refine hp (id := 130) rfl rfl (aWa mK Tryz.underlying27 Tryz.underlying27 rfl bBi bAp aN1 (by rw [aN1]; decide) bCx Zd Zd Z1 Z3 Z6 (aJq Z1) rfl Z5 h1) ?_
 refine pA ?_
 refine fs (AWp.ret ?_)
 cases hm
 exact aFn (.inr rfl) Tryz.results69 Z1 Z3 Z6
theorem aE3 {x0 : bS} {l0 : List bS} {r : List bS} (hm : ((aOu 16 [] (x0 :: l0)).bind fun l2 =>
some l2) = some r) : dB Tryz.prog 69 [.sl ((x0 :: l0).flatMap bH) (x0 :: l0).length false] 2 (r.flatMap bH) r.length := by
 refine dB.of_body Tryz.func69 rfl (mK.fmdat r) ?_
 simp only [Tryz.ntmps69, List.length_cons, List.length_nil, Nat.reduceAdd, Nat.reduceSub, eR]
 refine sN 64 (pA ?_)
 refine fs (AWp.seq' (sN 128 (pA ?_)))
 refine pu rfl (tM Z1 Z1 (aCs Tryz.underlying27 (by simp))) ?_
 refine fs (AWp.condF Z1 ?_)
 refine AWp.skip (bU (sN 192 (hp (id := 128) rfl rfl (lE mK (l := []) Tryz.underlying27 bBn bBh Z5 Zd Zd Zd (by simp only [go_sem, Nat.reduceBEq]; try rfl) (by kernel_rfl)) ?_)))
 refine pA ?_
 obtain ⟨l2, h1, hm⟩ := bnd hm
 refine hp (id := 130) rfl rfl (aWa mK Tryz.underlying27 Tryz.underlying27 rfl bBi bAp aN1 (by rw [aN1]; decide) bCx Zd Zd Z1 Z3 Z6 (aN3 mK Z1 rfl) rfl Z5 h1) ?_
 refine pA ?_
 refine fs (AWp.ret ?_)
 cases hm
 exact aFn (.inr rfl) Tryz.results69 Z1 Z3 Z6
theorem wJ {l r : List bS} (hm : eK l = some r) : dB Tryz.prog 69 [.sl (l.flatMap bH) l.length false] 2 (r.flatMap bH) r.length := by
 cases l with
 | nil =>
  have hr : r = [] := by unfold eK aOu at hm; simpa using hm.symm
  subst hr
  exact dB.nil_arg (aEh (r := []) rfl) (fun a c => aEj (r := []) rfl)
 | cons x0 l0 =>
  refine aE3 ?_
  show (aOu 16 [] (x0 :: l0)).bind _ = _
  unfold eK at hm
  rw [hm]; rfl
theorem aFs {l r : List bS} (hm : eK l = some r) : aZ Tryz.prog 69 [.sl (l.flatMap bH) l.length false] (.sl (r.flatMap bH) r.length false) := aZ.of_fresh mK (wJ hm)
def nL (aM0 : Int) : Option (Bool) :=
 some ((decide (0 ≤ aM0)) && (decide (aM0 ≤ 16)))
theorem aDe {aM0 : Int} {r : Bool} (hm : nL aM0 = some r) : aZ Tryz.prog 120 [vi aM0] (vb r) := by
 refine bd 9 Tryz.func120 ?_
 exact E
def rD (a_0 : aC) (b_1 : aC) : Option (Bool) :=
 some ((decide (a_0.U < b_1.U)) || ((a_0.U == b_1.U) && (decide (a_0.V < b_1.V))))
theorem aE2 {a_0 : aC} {b_1 : aC} {r : Bool} (hm : rD a_0 b_1 = some r) : aZ Tryz.prog 121 [.agg [vi a_0.U, vi a_0.V, vi a_0.Tier], .agg [vi b_1.U, vi b_1.V, vi b_1.Tier]] (vb r) := by
 refine bd 24 Tryz.func121 ?_
 exact E
def xY (rec1 : Int → List aC → List aC → Int → Int → Option (Bool)) (n_0 : Int) (l_1 : List aC) (t13 : List aC) (t14 : Int) (t15 : Int) : Option (Bool) :=
 (bif (decide (t15 < t14)) then
  ((idx t13 t15).bind fun x2 =>
  ((fE ((((decide (x2.U < 0)) || (decide (x2.V ≤ x2.U))) || (decide (n_0 ≤ x2.V))) == false) false (nL x2.Tier)).bind fun r4 =>
  (bif ((((decide (x2.U < 0)) || (decide (x2.V ≤ x2.U))) || (decide (n_0 ≤ x2.V))) || (!r4)) then
   some false
  else
   ((fE ((decide (0 < t15)) == true) (aC.mk 0 0 0) (idx l_1 (IntKind.i64.wrap (t15 - 1)))).bind fun x6 =>
   ((fE ((decide (0 < t15)) == true) false (rD x6 x2)).bind fun r8 =>
   (bif ((decide (0 < t15)) && (!r8)) then
    some false
   else
    rec1 n_0 l_1 t13 t14 (IntKind.i64.wrap (t15 + 1))))))))
 else
  some true)
def nN : Nat → Int → List aC → List aC → Int → Int → Option (Bool)
 | 0 => fun _ _ _ _ _ => none
 | n + 1 => xY (nN n)
def fY (n_0 : Int) (l_1 : List aC) : Option (Bool) :=
 (bif ((decide (n_0 < 0)) || (decide (1024 < n_0))) then
  some false
 else
  nN bK n_0 l_1 l_1 (l_1.length : Int) 0)
theorem kD {n_0 : Int} {l_1 : List aC} {r : Bool} (hm : fY n_0 l_1 = some r) : aZ Tryz.prog 89 [vi n_0, vl aT l_1] (vb r) := by
 refine bd 55 Tryz.func89 ?_
 refine W ?_
 refine cm hm (fun hm => ?_) fun hm => ?_
 · exact E
 refine W ?_
 refine lp (fun m s => ∃ n_0 l_1 t13 t14 t15, s = ⟨55, (aF (aF (aF (aF (aF fa 0 (vi n_0)) 1 (vl aT l_1)) 13 (vl aT t13)) 14 (vi t14)) 15 (vi t15)), ⟨aX, 64⟩⟩ ∧ nN m n_0 l_1 t13 t14 t15 = some r) L ?_
 rintro n1 s ⟨n_0, l_1, t13, t14, t15, rfl, hm⟩
 refine W ?_
 refine cm hm (fun hm => ?_) fun hm => ?_
 ·
  obtain ⟨x2, h1, hm⟩ := bnd hm
  obtain ⟨r4, h3, hm⟩ := bnd hm
  refine W ?_
  refine cg (fun hb => aDe (cM h3 hb)) ?_
  refine W ?_
  refine cm hm (fun hm => ?_) fun hm => ?_
  · exact E
  obtain ⟨x6, h5, hm⟩ := bnd hm
  obtain ⟨r8, h7, hm⟩ := bnd hm
  refine W ?_
  refine cg (fun hb => aE2 (cM h7 hb)) ?_
  refine W ?_
  refine cm hm (fun hm => ?_) fun hm => ?_
  · exact E
  exact L
 exact E
def oZ (rec1 : Int → List aC → List aC → Int → Int → Option ((List aC))) (kA : Int) (iC : List aC) (t14 : List aC) (t15 : Int) (t16 : Int) : Option ((List aC)) :=
 rec1 kA iC t14 t15 (IntKind.i64.wrap (t16 + 1))
def vW (rec1 : Int → List aC → List aC → Int → Int → Option ((List aC))) (kA : Int) (iC : List aC) (t14 : List aC) (t15 : Int) (t16 : Int) : Option ((List aC)) :=
 (bif (decide (t16 < t15)) then
  ((idx t14 t16).bind fun x4 =>
  (bif ((decide (1 ≤ x4.Tier)) && (decide (x4.Tier ≤ kA))) then
   ((app iC [x4]).bind fun l6 =>
   oZ rec1 kA l6 t14 t15 t16)
  else
   oZ rec1 kA iC t14 t15 t16))
 else
  some iC)
def jP : Nat → Int → List aC → List aC → Int → Int → Option ((List aC))
 | 0 => fun _ _ _ _ _ => none
 | n + 1 => vW (jP n)
def hD (n_0 : Int) (l_1 : List aC) (kA : Int) : Option ((List aC)) :=
 ((fY n_0 l_1).bind fun r2 =>
 (bif (!r2) then
  some []
 else
  jP bK kA [] l_1 (l_1.length : Int) 0))
theorem nQ {n_0 : Int} {l_1 : List aC} {kA : Int} {r : (List aC)} (hm : hD n_0 l_1 kA = some r) : aZ Tryz.prog 91 [vi n_0, vl aT l_1, vi kA] (vl aT r) := by
 refine bd 35 Tryz.func91 ?_
 obtain ⟨r2, h1, hm⟩ := bnd hm
 refine W ?_
 refine cq (kD h1) ?_
 refine W ?_
 refine cm hm (fun hm => ?_) fun hm => ?_
 · exact E
 refine W ?_
 refine lp (fun m s => ∃ kA iC t14 t15 t16, s = ⟨35, (aF (aF (aF (aF (aF fa 2 (vi kA)) 7 (.own 1 0 iC.length)) 14 (vl aT t14)) 15 (vi t15)) 16 (vi t16)), ⟨(upd aX 1 (.cells 3 (iC.flatMap aT) 0)), 64⟩⟩ ∧ jP m kA iC t14 t15 t16 = some r) ?_ ?_
 ·
  refine ⟨_, ?_, kA, [], l_1, (l_1.length : Int), 0, rfl, hm⟩
  refine St.Le.trans (oD 7 900007 3 Z1 Z5) ?_
  exact cn (fun j => bif j == 1 then 900007 else 0)
 rintro n1 s ⟨kA, iC, t14, t15, t16, rfl, hm⟩
 refine W ?_
 refine cm hm (fun hm => ?_) fun hm => ?_
 ·
  refine V ?_
  refine AWp.seqJ (fun s => ∃ kA iC t14 t15 t16, s = ⟨35, (aF (aF (aF (aF (aF fa 2 (vi kA)) 7 (.own 1 0 iC.length)) 14 (vl aT t14)) 15 (vi t15)) 16 (vi t16)), ⟨(upd aX 1 (.cells 3 (iC.flatMap aT) 0)), 64⟩⟩ ∧ oZ (jP n1) kA iC t14 t15 t16 = some r) ?_ ?_
  ·
   obtain ⟨x4, h3, hm⟩ := bnd hm
   refine W ?_
   refine cm hm (fun hm => ?_) fun hm => ?_
   ·
    refine W ?_
    refine aL bV [x4] ?_
    obtain ⟨l6, h5, hm⟩ := bnd hm
    refine W ?_
    exact Lr (fun j => bif j == 1 then 259 else 0)
   refine W ?_
   exact Lr (fun j => bif j == 1 then 1 else 0)
  rintro s ⟨kA, iC, t14, t15, t16, rfl, hm⟩
  refine W ?_
  exact Lr (fun j => bif j == 1 then 1 else 0)
 exact E
def zL (rec1 : List Int → List Int → Int → Int → Option (Bool)) (p_0 : List Int) (t5 : List Int) (t6 : Int) (t7 : Int) : Option (Bool) :=
 (bif (decide (t7 < t6)) then
  ((idx t5 t7).bind fun x2 =>
  ((fP (p_0.length : Int) x2).bind fun r4 =>
  ((fE (((!r4) || (decide (t7 < x2))) == false) 0 (idx p_0 x2)).bind fun x6 =>
  (bif (((!r4) || (decide (t7 < x2))) || (x6 != x2)) then
   some false
  else
   rec1 p_0 t5 t6 (IntKind.i64.wrap (t7 + 1))))))
 else
  some true)
def oS : Nat → List Int → List Int → Int → Int → Option (Bool)
 | 0 => fun _ _ _ _ => none
 | n + 1 => zL (oS n)
def sI (p_0 : List Int) : Option (Bool) :=
 oS bK p_0 p_0 (p_0.length : Int) 0
theorem aHu {p_0 : List Int} {r : Bool} (hm : sI p_0 = some r) : aZ Tryz.prog 102 [vl (ci .i64) p_0] (vb r) := by
 refine bd 31 Tryz.func102 ?_
 refine W ?_
 refine lp (fun m s => ∃ p_0 t5 t6 t7, s = ⟨31, (aF (aF (aF (aF fa 0 (vl (ci .i64) p_0)) 5 (vl (ci .i64) t5)) 6 (vi t6)) 7 (vi t7)), ⟨aX, 64⟩⟩ ∧ oS m p_0 t5 t6 t7 = some r) L ?_
 rintro n1 s ⟨p_0, t5, t6, t7, rfl, hm⟩
 refine W ?_
 refine cm hm (fun hm => ?_) fun hm => ?_
 ·
  obtain ⟨x2, h1, hm⟩ := bnd hm
  obtain ⟨r4, h3, hm⟩ := bnd hm
  refine W ?_
  refine cq (wQ h3) ?_
  obtain ⟨x6, h5, hm⟩ := bnd hm
  refine W ?_
  refine cm hm (fun hm => ?_) fun hm => ?_
  · exact E
  exact L
 exact E
def xC (rec1 : Int → List Int → Int → Int → Option (Int)) (rK : Int) (t9 : List Int) (t10 : Int) (t11 : Int) : Option (Int) :=
 rec1 rK t9 t10 (IntKind.i64.wrap (t11 + 1))
def aCk (rec1 : Int → List Int → Int → Int → Option (Int)) (rK : Int) (t9 : List Int) (t10 : Int) (t11 : Int) : Option (Int) :=
 (bif (decide (t11 < t10)) then
  ((idx t9 t11).bind fun x4 =>
  (bif (t11 == x4) then
   xC rec1 (IntKind.i64.wrap (rK + 1)) t9 t10 t11
  else
   xC rec1 rK t9 t10 t11))
 else
  some rK)
def oN : Nat → Int → List Int → Int → Int → Option (Int)
 | 0 => fun _ _ _ _ => none
 | n + 1 => aCk (oN n)
def zY (p_0 : List Int) : Option (Int) :=
 ((sI p_0).bind fun r2 =>
 (bif (!r2) then
  some 0
 else
  oN bK 0 p_0 (p_0.length : Int) 0))
theorem aVw {p_0 : List Int} {r : Int} (hm : zY p_0 = some r) : aZ Tryz.prog 122 [vl (ci .i64) p_0] (vi r) := by
 refine bd 23 Tryz.func122 ?_
 obtain ⟨r2, h1, hm⟩ := bnd hm
 refine W ?_
 refine cq (aHu h1) ?_
 refine W ?_
 refine cm hm (fun hm => ?_) fun hm => ?_
 · exact E
 refine W ?_
 refine lp (fun m s => ∃ rK t9 t10 t11, s = ⟨23, (aF (aF (aF (aF fa 3 (vi rK)) 9 (vl (ci .i64) t9)) 10 (vi t10)) 11 (vi t11)), ⟨aX, 64⟩⟩ ∧ oN m rK t9 t10 t11 = some r) L ?_
 rintro n1 s ⟨rK, t9, t10, t11, rfl, hm⟩
 refine W ?_
 refine cm hm (fun hm => ?_) fun hm => ?_
 ·
  refine V ?_
  refine AWp.seqJ (fun s => ∃ rK t9 t10 t11, s = ⟨23, (aF (aF (aF (aF fa 3 (vi rK)) 9 (vl (ci .i64) t9)) 10 (vi t10)) 11 (vi t11)), ⟨aX, 64⟩⟩ ∧ xC (oN n1) rK t9 t10 t11 = some r) ?_ ?_
  ·
   obtain ⟨x4, h3, hm⟩ := bnd hm
   refine W ?_
   refine cm hm (fun hm => ?_) fun hm => ?_
   · exact L
   exact L
  rintro s ⟨rK, t9, t10, t11, rfl, hm⟩
  exact L
 exact E
def mL (n_0 : Int) (l_1 : List aC) : Option (Bool) :=
 ((pY n_0 l_1).bind fun ⟨r2, r3⟩ =>
 ((fE ((r3 == 0) == true) 0 (zY r2)).bind fun r5 =>
 some ((r3 == 0) && (r5 == (IntKind.i64.wrap (n_0 - (l_1.length : Int)))))))
theorem aAm {n_0 : Int} {l_1 : List aC} {r : Bool} (hm : mL n_0 l_1 = some r) : aZ Tryz.prog 90 [vi n_0, vl aT l_1] (vb r) := by
 refine bd 24 Tryz.func90 ?_
 refine W ?_
 obtain ⟨⟨r2, r3⟩, h1, hm⟩ := bnd hm
 refine cq (aGd h1) ?_
 obtain ⟨r5, h4, hm⟩ := bnd hm
 refine W ?_
 refine cg (fun hb => aVw (cM h4 hb)) ?_
 exact E
def wB (rec2 : aG → aN → List aC → Int → Int → Option (Bool)) (g_1 : aG) (c_3 : aN) (t70 : List aC) (t71 : Int) (t72 : Int) : Option (Bool) :=
 (bif (decide (t72 < t71)) then
  ((idx t70 t72).bind fun x6 =>
  (bif (decide (c_3.L < x6.Tier)) then
   some false
  else
   rec2 g_1 c_3 t70 t71 (IntKind.i64.wrap (t72 + 1))))
 else
  ((hD c_3.N g_1.Edges c_3.L).bind fun r8 =>
  ((mL c_3.N r8).bind fun r10 =>
  some r10)))
def lO : Nat → aG → aN → List aC → Int → Int → Option (Bool)
 | 0 => fun _ _ _ _ _ => none
 | n + 1 => wB (lO n)
def wG (rec1 : aG → aN → List bS → Int → Int → Option (Bool)) (g_1 : aG) (c_3 : aN) (t48 : List bS) (t49 : Int) (t50 : Int) : Option (Bool) :=
 (bif (decide (t50 < t49)) then
  ((idx t48 t50).bind fun x2 =>
  (bif ((decide (2305843009213693951 ≤ x2.A)) || (decide (2305843009213693951 ≤ x2.B))) then
   some false
  else
   rec1 g_1 c_3 t48 t49 (IntKind.i64.wrap (t50 + 1))))
 else
  ((fY c_3.N g_1.Edges).bind fun r4 =>
  (bif (!r4) then
   some false
  else
   lO bK g_1 c_3 g_1.Edges (g_1.Edges.length : Int) 0)))
def lW : Nat → aG → aN → List bS → Int → Int → Option (Bool)
 | 0 => fun _ _ _ _ _ => none
 | n + 1 => wG (lW n)
def dU (g_0 : aG) : Option (Bool) :=
 (bif ((((((decide (g_0.Config.N < 1)) || (decide (1024 < g_0.Config.N))) || (decide (g_0.Config.L < 1))) || (decide (16 < g_0.Config.L))) || (decide (g_0.Config.R < 1))) || (decide (8 < g_0.Config.R))) then
  some false
 else
  (bif ((g_0.Hashes.length : Int) != (IntKind.i64.wrap (g_0.Config.L * g_0.Config.R))) then
   some false
  else
   lW bK g_0 g_0.Config g_0.Hashes (g_0.Hashes.length : Int) 0))
theorem hY {g_0 : aG} {r : Bool} (hm : dU g_0 = some r) : aZ Tryz.prog 49 [.agg [vi g_0.Config.N, vi g_0.Config.L, vi g_0.Config.R, vl bH g_0.Hashes, vl aT g_0.Edges]] (vb r) := by
 refine bd 92 Tryz.func49 ?_
 refine W ?_
 refine cm hm (fun hm => ?_) fun hm => ?_
 · exact E
 refine W ?_
 refine cm hm (fun hm => ?_) fun hm => ?_
 · exact E
 refine W ?_
 refine lp (fun m s => ∃ g_1 c_3 t48 t49 t50, s = ⟨92, (aF (aF (aF (aF (aF fa 1 (.adr 1 0)) 3 (.adr 2 0)) 48 (vl bH t48)) 49 (vi t49)) 50 (vi t50)), ⟨(upd (upd aX 1 (.cells 1 [vi g_1.Config.N, vi g_1.Config.L, vi g_1.Config.R, vl bH g_1.Hashes, vl aT g_1.Edges] 0)) 2 (.cells 1 [vi c_3.N, vi c_3.L, vi c_3.R] 0)), 64⟩⟩ ∧ lW m g_1 c_3 t48 t49 t50 = some r) (Lr (fun j => bif j == 1 then 0 else bif j == 2 then 66 else 0)) ?_
 rintro n1 s ⟨g_1, c_3, t48, t49, t50, rfl, hm⟩
 refine W ?_
 refine cm hm (fun hm => ?_) fun hm => ?_
 ·
  obtain ⟨x2, h1, hm⟩ := bnd hm
  refine W ?_
  refine cm hm (fun hm => ?_) fun hm => ?_
  · exact E
  refine W ?_
  exact Lr (fun j => bif j == 1 then 1 else bif j == 2 then 2 else 0)
 obtain ⟨r4, h3, hm⟩ := bnd hm
 refine W ?_
 refine cq (kD h3) ?_
 refine W ?_
 refine cm hm (fun hm => ?_) fun hm => ?_
 · exact E
 refine W ?_
 refine lp (fun m s => ∃ g_1 c_3 t70 t71 t72, s = ⟨92, (aF (aF (aF (aF (aF fa 1 (.adr 1 0)) 3 (.adr 2 0)) 70 (vl aT t70)) 71 (vi t71)) 72 (vi t72)), ⟨(upd (upd aX 1 (.cells 1 [vi g_1.Config.N, vi g_1.Config.L, vi g_1.Config.R, vl bH g_1.Hashes, vl aT g_1.Edges] 0)) 2 (.cells 1 [vi c_3.N, vi c_3.L, vi c_3.R] 0)), 64⟩⟩ ∧ lO m g_1 c_3 t70 t71 t72 = some r) (Lr (fun j => bif j == 1 then 1 else bif j == 2 then 2 else 0)) ?_
 rintro n2 s ⟨g_1, c_3, t70, t71, t72, rfl, hm⟩
 refine W ?_
 refine cm hm (fun hm => ?_) fun hm => ?_
 ·
  obtain ⟨x6, h5, hm⟩ := bnd hm
  refine W ?_
  refine cm hm (fun hm => ?_) fun hm => ?_
  · exact E
  refine W ?_
  exact Lr (fun j => bif j == 1 then 1 else bif j == 2 then 2 else 0)
 obtain ⟨r8, h7, hm⟩ := bnd hm
 refine W ?_
 refine cq (nQ h7) ?_
 obtain ⟨r10, h9, hm⟩ := bnd hm
 refine cq (aAm h9) ?_
 exact E
def aAd (c_0 : aN) (aG2 : List bS) : Option (aG × Int) :=
 ((eK aG2).bind fun r2 =>
 ((dU (aG.mk c_0 r2 [])).bind fun r4 =>
 (bif (!r4) then
  some ((aG.mk (aN.mk 0 0 0) [] []), 1)
 else
  some ((aG.mk c_0 r2 []), 0))))
theorem aVi {c_0 : aN} {aG2 : List bS} {r : aG × Int} (hm : aAd c_0 aG2 = some r) : aZ Tryz.prog 36 [.agg [vi c_0.N, vi c_0.L, vi c_0.R], vl bH aG2] (.tup [.agg [vi r.1.Config.N, vi r.1.Config.L, vi r.1.Config.R, vl bH r.1.Hashes, vl aT r.1.Edges], vi r.2]) := by
 refine bd 16 Tryz.func36 ?_
 obtain ⟨r2, h1, hm⟩ := bnd hm
 refine W ?_
 refine cq (aFs h1) ?_
 refine pu rfl (by simp only [go_sem, Nat.reduceBEq]; exact (by kernel_rfl : cL Tryz.prog 30 [(0, .agg [.v (.int .i64 c_0.N), .v (.int .i64 c_0.L), .v (.int .i64 c_0.R)]), (1, .sl (r2.flatMap bH) r2.length false)] = some (.agg [.v (.int .i64 c_0.N), .v (.int .i64 c_0.L), .v (.int .i64 c_0.R), .sl (r2.flatMap bH) r2.length false, .v (.slice none 0 0)]))) ?_
 obtain ⟨r4, h3, hm⟩ := bnd hm
 refine W ?_
 refine cq (hY h3) ?_
 refine W ?_
 refine cm hm (fun hm => ?_) fun hm => ?_
 ·
  refine W ?_
  refine pu rfl (by simp only [go_sem, Nat.reduceBEq]; exact (by kernel_rfl : cL Tryz.prog 30 [] = some (.agg [.v (.int .i64 0), .v (.int .i64 0), .v (.int .i64 0), .v (.slice none 0 0), .v (.slice none 0 0)]))) ?_
  exact E
 exact E
def oJ (g_0 : aG) : Option ((List Int)) :=
 ((dU g_0).bind fun r2 =>
 (bif (!r2) then
  some []
 else
  ((hD g_0.Config.N g_0.Edges g_0.Config.L).bind fun r4 =>
  ((pY g_0.Config.N r4).bind fun ⟨r6, r7⟩ =>
  some r6))))
theorem aHh {g_0 : aG} {r : (List Int)} (hm : oJ g_0 = some r) : aZ Tryz.prog 73 [.agg [vi g_0.Config.N, vi g_0.Config.L, vi g_0.Config.R, vl bH g_0.Hashes, vl aT g_0.Edges]] (vl (ci .i64) r) := by
 refine bd 25 Tryz.func73 ?_
 obtain ⟨r2, h1, hm⟩ := bnd hm
 refine W ?_
 refine cq (hY h1) ?_
 refine W ?_
 refine cm hm (fun hm => ?_) fun hm => ?_
 · exact E
 obtain ⟨r4, h3, hm⟩ := bnd hm
 refine W ?_
 refine cq (nQ h3) ?_
 obtain ⟨⟨r6, r7⟩, h5, hm⟩ := bnd hm
 refine cq (aGd h5) ?_
 exact E
def aBj (rec1 : Int → Int → List aC → Int → Int → Option (Int × Bool)) (u_1 : Int) (v_2 : Int) (t10 : List aC) (t11 : Int) (t12 : Int) : Option (Int × Bool) :=
 (bif (decide (t12 < t11)) then
  ((idx t10 t12).bind fun x2 =>
  (bif (((x2.U == u_1) && (x2.V == v_2)) || ((x2.U == v_2) && (x2.V == u_1))) then
   some (t12, true)
  else
   rec1 u_1 v_2 t10 t11 (IntKind.i64.wrap (t12 + 1))))
 else
  some (0, false))
def sL : Nat → Int → Int → List aC → Int → Int → Option (Int × Bool)
 | 0 => fun _ _ _ _ _ => none
 | n + 1 => aBj (sL n)
def lJ (l_0 : List aC) (u_1 : Int) (v_2 : Int) : Option (Int × Bool) :=
 sL bK u_1 v_2 l_0 (l_0.length : Int) 0
theorem wA {l_0 : List aC} {u_1 : Int} {v_2 : Int} {r : Int × Bool} (hm : lJ l_0 u_1 v_2 = some r) : aZ Tryz.prog 74 [vl aT l_0, vi u_1, vi v_2] (.tup [vi r.1, vb r.2]) := by
 refine bd 41 Tryz.func74 ?_
 refine W ?_
 refine lp (fun m s => ∃ u_1 v_2 t10 t11 t12, s = ⟨41, (aF (aF (aF (aF (aF fa 1 (vi u_1)) 2 (vi v_2)) 10 (vl aT t10)) 11 (vi t11)) 12 (vi t12)), ⟨aX, 64⟩⟩ ∧ sL m u_1 v_2 t10 t11 t12 = some r) L ?_
 rintro n1 s ⟨u_1, v_2, t10, t11, t12, rfl, hm⟩
 refine W ?_
 refine cm hm (fun hm => ?_) fun hm => ?_
 ·
  obtain ⟨x2, h1, hm⟩ := bnd hm
  refine W ?_
  refine cm hm (fun hm => ?_) fun hm => ?_
  · exact E
  exact L
 exact E
def uF (rec1 : List Int → Int → List Int → List Int → Int → Int → Option ((List Int))) (p_0 : List Int) (v_1 : Int) (kE : List Int) (t18 : List Int) (t19 : Int) (t20 : Int) : Option ((List Int)) :=
 rec1 p_0 v_1 kE t18 t19 (IntKind.i64.wrap (t20 + 1))
def zV (rec1 : List Int → Int → List Int → List Int → Int → Int → Option ((List Int))) (p_0 : List Int) (v_1 : Int) (kE : List Int) (t18 : List Int) (t19 : Int) (t20 : Int) : Option ((List Int)) :=
 (bif (decide (t20 < t19)) then
  ((idx t18 t20).bind fun x6 =>
  ((idx p_0 v_1).bind fun x8 =>
  (bif (x6 == x8) then
   ((app kE [t20]).bind fun l10 =>
   uF rec1 p_0 v_1 l10 t18 t19 t20)
  else
   uF rec1 p_0 v_1 kE t18 t19 t20)))
 else
  some kE)
def mQ : Nat → List Int → Int → List Int → List Int → Int → Int → Option ((List Int))
 | 0 => fun _ _ _ _ _ _ => none
 | n + 1 => zV (mQ n)
def oM (p_0 : List Int) (v_1 : Int) : Option ((List Int)) :=
 ((sI p_0).bind fun r2 =>
 ((fE ((!r2) == false) false (fP (p_0.length : Int) v_1)).bind fun r4 =>
 (bif ((!r2) || (!r4)) then
  some []
 else
  mQ bK p_0 v_1 [] p_0 (p_0.length : Int) 0)))
theorem aC4 {p_0 : List Int} {v_1 : Int} {r : (List Int)} (hm : oM p_0 v_1 = some r) : aZ Tryz.prog 78 [vl (ci .i64) p_0, vi v_1] (vl (ci .i64) r) := by
 refine bd 37 Tryz.func78 ?_
 obtain ⟨r2, h1, hm⟩ := bnd hm
 refine W ?_
 refine cq (aHu h1) ?_
 obtain ⟨r4, h3, hm⟩ := bnd hm
 refine W ?_
 refine cg (fun hb => wQ (cM h3 hb)) ?_
 refine W ?_
 refine cm hm (fun hm => ?_) fun hm => ?_
 · exact E
 refine W ?_
 refine lp (fun m s => ∃ p_0 v_1 kE t18 t19 t20, s = ⟨37, (aF (aF (aF (aF (aF (aF fa 0 (vl (ci .i64) p_0)) 1 (vi v_1)) 5 (.own 1 0 kE.length)) 18 (vl (ci .i64) t18)) 19 (vi t19)) 20 (vi t20)), ⟨(upd aX 1 (.cells 1 (kE.flatMap (ci .i64)) 0)), 64⟩⟩ ∧ mQ m p_0 v_1 kE t18 t19 t20 = some r) ?_ ?_
 ·
  refine ⟨_, ?_, p_0, v_1, [], p_0, (p_0.length : Int), 0, rfl, hm⟩
  refine St.Le.trans (oD 5 900005 1 Z1 Z5) ?_
  exact cn (fun j => bif j == 1 then 900005 else 0)
 rintro n1 s ⟨p_0, v_1, kE, t18, t19, t20, rfl, hm⟩
 refine W ?_
 refine cm hm (fun hm => ?_) fun hm => ?_
 ·
  refine V ?_
  refine AWp.seqJ (fun s => ∃ p_0 v_1 kE t18 t19 t20, s = ⟨37, (aF (aF (aF (aF (aF (aF fa 0 (vl (ci .i64) p_0)) 1 (vi v_1)) 5 (.own 1 0 kE.length)) 18 (vl (ci .i64) t18)) 19 (vi t19)) 20 (vi t20)), ⟨(upd aX 1 (.cells 1 (kE.flatMap (ci .i64)) 0)), 64⟩⟩ ∧ uF (mQ n1) p_0 v_1 kE t18 t19 t20 = some r) ?_ ?_
  ·
   obtain ⟨x6, h5, hm⟩ := bnd hm
   obtain ⟨x8, h7, hm⟩ := bnd hm
   refine W ?_
   refine cm hm (fun hm => ?_) fun hm => ?_
   ·
    refine W ?_
    refine aL (CFi .i64) [t20] ?_
    obtain ⟨l10, h9, hm⟩ := bnd hm
    refine W ?_
    exact Lr (fun j => bif j == 1 then 259 else 0)
   refine W ?_
   exact Lr (fun j => bif j == 1 then 1 else 0)
  rintro s ⟨p_0, v_1, kE, t18, t19, t20, rfl, hm⟩
  refine W ?_
  exact Lr (fun j => bif j == 1 then 1 else 0)
 exact E
def aNi (g_0 : aG) : Option ((List Int)) :=
 ((dU g_0).bind fun r2 =>
 (bif (!r2) then
  some []
 else
  ((pY g_0.Config.N g_0.Edges).bind fun ⟨r4, r5⟩ =>
  some r4)))
theorem aZl {g_0 : aG} {r : (List Int)} (hm : aNi g_0 = some r) : aZ Tryz.prog 109 [.agg [vi g_0.Config.N, vi g_0.Config.L, vi g_0.Config.R, vl bH g_0.Hashes, vl aT g_0.Edges]] (vl (ci .i64) r) := by
 refine bd 18 Tryz.func109 ?_
 obtain ⟨r2, h1, hm⟩ := bnd hm
 refine W ?_
 refine cq (hY h1) ?_
 refine W ?_
 refine cm hm (fun hm => ?_) fun hm => ?_
 · exact E
 refine W ?_
 obtain ⟨⟨r4, r5⟩, h3, hm⟩ := bnd hm
 refine cq (aGd h3) ?_
 exact E
def aFp (rec1 : List Int → List Int → Int → Int → Option (Bool)) (aH4 : List Int) (aIy : List Int) (t12 : Int) (t13 : Int) : Option (Bool) :=
 (bif (decide (t13 < t12)) then
  ((idx aH4 t13).bind fun x2 =>
  ((idx aIy t13).bind fun x4 =>
  (bif (x2 != x4) then
   some false
  else
   rec1 aH4 aIy t12 (IntKind.i64.wrap (t13 + 1)))))
 else
  some true)
def qL : Nat → List Int → List Int → Int → Int → Option (Bool)
 | 0 => fun _ _ _ _ => none
 | n + 1 => aFp (qL n)
def yO (aH4 : List Int) (aIy : List Int) : Option (Bool) :=
 (bif ((aH4.length : Int) != (aIy.length : Int)) then
  some false
 else
  qL bK aH4 aIy (aH4.length : Int) 0)
theorem aGq {aH4 : List Int} {aIy : List Int} {r : Bool} (hm : yO aH4 aIy = some r) : aZ Tryz.prog 108 [vl (ci .i64) aH4, vl (ci .i64) aIy] (vb r) := by
 refine bd 26 Tryz.func108 ?_
 refine W ?_
 refine cm hm (fun hm => ?_) fun hm => ?_
 · exact E
 refine W ?_
 refine lp (fun m s => ∃ aH4 aIy t12 t13, s = ⟨26, (aF (aF (aF (aF fa 0 (vl (ci .i64) aH4)) 1 (vl (ci .i64) aIy)) 12 (vi t12)) 13 (vi t13)), ⟨aX, 64⟩⟩ ∧ qL m aH4 aIy t12 t13 = some r) L ?_
 rintro n1 s ⟨aH4, aIy, t12, t13, rfl, hm⟩
 refine W ?_
 refine cm hm (fun hm => ?_) fun hm => ?_
 ·
  obtain ⟨x2, h1, hm⟩ := bnd hm
  obtain ⟨x4, h3, hm⟩ := bnd hm
  refine W ?_
  refine cm hm (fun hm => ?_) fun hm => ?_
  · exact E
  exact L
 exact E
def aG3 (g_0 : aG) : Option (Bool) :=
 ((dU g_0).bind fun r2 =>
 ((fE (r2 == true) [] (oJ g_0)).bind fun r4 =>
 ((fE (r2 == true) [] (aNi g_0)).bind fun r6 =>
 ((fE (r2 == true) false (yO r4 r6)).bind fun r8 =>
 some (r2 && r8)))))
theorem aP6 {g_0 : aG} {r : Bool} (hm : aG3 g_0 = some r) : aZ Tryz.prog 81 [.agg [vi g_0.Config.N, vi g_0.Config.L, vi g_0.Config.R, vl bH g_0.Hashes, vl aT g_0.Edges]] (vb r) := by
 refine bd 12 Tryz.func81 ?_
 obtain ⟨r2, h1, hm⟩ := bnd hm
 refine W ?_
 refine cq (hY h1) ?_
 obtain ⟨r4, h3, hm⟩ := bnd hm
 refine W ?_
 refine cg (fun hb => aHh (cM h3 hb)) ?_
 obtain ⟨r6, h5, hm⟩ := bnd hm
 refine W ?_
 refine cg (fun hb => aZl (cM h5 hb)) ?_
 obtain ⟨r8, h7, hm⟩ := bnd hm
 refine cg (fun hb => aGq (cM h7 hb)) ?_
 exact E
def eI (n_0 : Int) (v_1 : Int) : Option (Bool) :=
 some ((decide (0 ≤ v_1)) && (decide (v_1 < n_0)))
theorem jF {n_0 : Int} {v_1 : Int} {r : Bool} (hm : eI n_0 v_1 = some r) : aZ Tryz.prog 135 [vi n_0, vi v_1] (vb r) := by
 refine bd 12 Tryz.func135 ?_
 exact E
def qV (rec1 : Int → List Int → List aC → Int → Int → Option ((List Int))) (v_2 : Int) (mZ : List Int) (t20 : List aC) (t21 : Int) (t22 : Int) : Option ((List Int)) :=
 rec1 v_2 mZ t20 t21 (IntKind.i64.wrap (t22 + 1))
def zR (rec1 : Int → List Int → List aC → Int → Int → Option ((List Int))) (v_2 : Int) (mZ : List Int) (t20 : List aC) (t21 : Int) (t22 : Int) : Option ((List Int)) :=
 (bif (decide (t22 < t21)) then
  ((idx t20 t22).bind fun x6 =>
  (bif (v_2 == x6.U) then
   ((app mZ [x6.V]).bind fun l8 =>
   qV rec1 v_2 l8 t20 t21 t22)
  else
   (bif (v_2 == x6.V) then
    ((app mZ [x6.U]).bind fun l10 =>
    qV rec1 v_2 l10 t20 t21 t22)
   else
    qV rec1 v_2 mZ t20 t21 t22)))
 else
  some mZ)
def mN : Nat → Int → List Int → List aC → Int → Int → Option ((List Int))
 | 0 => fun _ _ _ _ _ => none
 | n + 1 => zR (mN n)
def aB8 (n_0 : Int) (l_1 : List aC) (v_2 : Int) : Option ((List Int)) :=
 ((fY n_0 l_1).bind fun r2 =>
 ((fE ((!r2) == false) false (eI n_0 v_2)).bind fun r4 =>
 (bif ((!r2) || (!r4)) then
  some []
 else
  mN bK v_2 [] l_1 (l_1.length : Int) 0)))
theorem aQb {n_0 : Int} {l_1 : List aC} {v_2 : Int} {r : (List Int)} (hm : aB8 n_0 l_1 v_2 = some r) : aZ Tryz.prog 101 [vi n_0, vl aT l_1, vi v_2] (vl (ci .i64) r) := by
 refine bd 47 Tryz.func101 ?_
 obtain ⟨r2, h1, hm⟩ := bnd hm
 refine W ?_
 refine cq (kD h1) ?_
 obtain ⟨r4, h3, hm⟩ := bnd hm
 refine W ?_
 refine cg (fun hb => jF (cM h3 hb)) ?_
 refine W ?_
 refine cm hm (fun hm => ?_) fun hm => ?_
 · exact E
 refine W ?_
 refine lp (fun m s => ∃ v_2 mZ t20 t21 t22, s = ⟨47, (aF (aF (aF (aF (aF fa 2 (vi v_2)) 7 (.own 1 0 mZ.length)) 20 (vl aT t20)) 21 (vi t21)) 22 (vi t22)), ⟨(upd aX 1 (.cells 1 (mZ.flatMap (ci .i64)) 0)), 64⟩⟩ ∧ mN m v_2 mZ t20 t21 t22 = some r) ?_ ?_
 ·
  refine ⟨_, ?_, v_2, [], l_1, (l_1.length : Int), 0, rfl, hm⟩
  refine St.Le.trans (oD 7 900007 1 Z1 Z5) ?_
  exact cn (fun j => bif j == 1 then 900007 else 0)
 rintro n1 s ⟨v_2, mZ, t20, t21, t22, rfl, hm⟩
 refine W ?_
 refine cm hm (fun hm => ?_) fun hm => ?_
 ·
  refine V ?_
  refine AWp.seqJ (fun s => ∃ v_2 mZ t20 t21 t22, s = ⟨47, (aF (aF (aF (aF (aF fa 2 (vi v_2)) 7 (.own 1 0 mZ.length)) 20 (vl aT t20)) 21 (vi t21)) 22 (vi t22)), ⟨(upd aX 1 (.cells 1 (mZ.flatMap (ci .i64)) 0)), 64⟩⟩ ∧ qV (mN n1) v_2 mZ t20 t21 t22 = some r) ?_ ?_
  ·
   obtain ⟨x6, h5, hm⟩ := bnd hm
   refine W ?_
   refine cm hm (fun hm => ?_) fun hm => ?_
   ·
    refine W ?_
    refine aL (CFi .i64) [x6.V] ?_
    obtain ⟨l8, h7, hm⟩ := bnd hm
    refine W ?_
    exact Lr (fun j => bif j == 1 then 324 else 0)
   refine W ?_
   refine cm hm (fun hm => ?_) fun hm => ?_
   ·
    refine W ?_
    refine aL (CFi .i64) [x6.U] ?_
    obtain ⟨l10, h9, hm⟩ := bnd hm
    refine W ?_
    exact Lr (fun j => bif j == 1 then 388 else 0)
   refine W ?_
   exact Lr (fun j => bif j == 1 then 1 else 0)
  rintro s ⟨v_2, mZ, t20, t21, t22, rfl, hm⟩
  refine W ?_
  exact Lr (fun j => bif j == 1 then 1 else 0)
 exact E
def sP (g_0 : aG) (u_1 : Int) (v_2 : Int) : Option (Bool) :=
 ((dU g_0).bind fun r2 =>
 some ((((r2 && (decide (0 ≤ u_1))) && (decide (u_1 < g_0.Config.N))) && (decide (0 ≤ v_2))) && (decide (v_2 < g_0.Config.N))))
theorem aHn {g_0 : aG} {u_1 : Int} {v_2 : Int} {r : Bool} (hm : sP g_0 u_1 v_2 = some r) : aZ Tryz.prog 115 [.agg [vi g_0.Config.N, vi g_0.Config.L, vi g_0.Config.R, vl bH g_0.Hashes, vl aT g_0.Edges], vi u_1, vi v_2] (vb r) := by
 refine bd 31 Tryz.func115 ?_
 obtain ⟨r2, h1, hm⟩ := bnd hm
 refine W ?_
 refine cq (hY h1) ?_
 exact E
def iN (s_0 : List aC) : Option ((List aC)) :=
 some s_0
def lA (n_1 : Int) : Option ((List aC)) :=
 (bif (decide (0 < (IntKind.i64.wrap (n_1 - (IntKind.i64.wrap (((0 : Nat) : Int) - ((0 : Nat) : Int))))))) then
  ((chk (((0 : Nat) : Int) == 0)).bind fun _ =>
  ((chk (decide (0 < (IntKind.i64.wrap (n_1 - (IntKind.i64.wrap (((0 : Nat) : Int) - ((0 : Nat) : Int)))))) && decide ((IntKind.i64.wrap (n_1 - (IntKind.i64.wrap (((0 : Nat) : Int) - ((0 : Nat) : Int))))) ≤ 4294967296))).bind fun _ =>
  ((chk (((0 : Nat) : Int) == 0)).bind fun _ =>
  iN [])))
 else
  iN [])
def jN (n_1 : Int) : Option ((List aC)) :=
 (bif (decide (n_1 < 0)) then
  none
 else
  lA n_1)
theorem aGs {n_1 : Int} {r : (List aC)} (hm : jN n_1 = some r) : dB Tryz.prog 167 [.v (.slice none 0 0), .v (.int .i64 n_1)] 3 (r.flatMap aT) r.length := by
 refine dB.of_body Tryz.func167 rfl (bV.fmdat r) ?_
 simp only [Tryz.ntmps167, List.length_cons, List.length_nil, Nat.reduceAdd, Nat.reduceSub, eR]
 unfold jN at hm
 refine sN 64 (pA ?_)
 refine fs (AWp.seqJ (fun s => ∃ (n_1 : Int), s = (⟨27, (aF (aF (fun _ => AV.any) 0 (.v (.slice none 0 0))) 1 (.v (.int .i64 n_1))), ⟨aX, 64⟩⟩ : St) ∧ lA n_1 = some r) ?_ ?_)
 ·
  refine sN 128 ?_
  iterate 2 refine pA ?_
  refine fs (AWp.condM hm Z1 (fun _ hm => ?_) (fun _ hm => ?_))
  ·
   cases hm
  ·
   refine AWp.skip (aHm ?_)
   refine ⟨_, ?_, n_1, rfl, hm⟩
   exact eP id (wV (wV gD)) aPi
 ·
  rintro s ⟨n_1, rfl, hm⟩
  unfold lA at hm
  refine AWp.seqJ (fun s => ∃ (s_0 : List aC), s = (⟨27, (aF (fun _ => AV.any) 0 (.own 1 0 s_0.length)), ⟨(upd aX 1 (.cells 3 (s_0.flatMap aT) 0)), 64⟩⟩ : St) ∧ iN s_0 = some r) ?_ ?_
  ·
   refine sN 128 ?_
   iterate 2 refine pA ?_
   refine pu rfl (aWs Tryz.underlying28 Z1) ?_
   iterate 5 refine pA ?_
   refine fs (sN 192 ?_)
   iterate 2 refine pA ?_
   refine fs (AWp.condM hm Z1 (fun _ hm => ?_) (fun _ hm => ?_))
   ·
    refine AWp.reg 64 (N' := 256) rfl ?_
    iterate 2 refine pA ?_
    refine pu rfl (aWs Tryz.underlying28 Z1) ?_
    obtain ⟨_, h3, hm⟩ := bnd hm
    refine pu rfl (bCr Tryz.underlying28 aC1 Z1 Z1 (eq_of_beq (nR h3))) ?_
    refine pA ?_
    obtain ⟨_, h4, hm⟩ := bnd hm
    refine hp (id := 197) rfl rfl (bFo Tryz.underlying28 Tryz.underlying3 rfl aWj aWi (by rw [aI0]; decide) (by rw [aI0]; decide) aWt Zd Zd Z1 Z1 Z5 h4) ?_
    iterate 2 refine pA ?_
    obtain ⟨_, h8, hm⟩ := bnd hm
    refine pu rfl (bEt Tryz.underlying28 aC1 Z1 Z3 Z1 (eq_of_beq (nR h8))) ?_
    refine pA ?_
    refine aU.fin (aHm ?_)
    refine ⟨_, ?_, [], rfl, hm⟩
    refine St.Le.trans (bGb 197 Z3) ?_
    exact eP (fun j => bif j == 1 then 197 else 0) (wO gD) (hW (eU bV jE))
   ·
    refine AWp.skip (aHm ?_)
    refine ⟨_, ?_, [], rfl, hm⟩
    refine St.Le.trans (oD 0 900000 3 Z1 Z5) ?_
    exact eP (fun j => bif j == 1 then 900000 else 0) (wO gD) (hW (eU bV jE))
  ·
   rintro s ⟨s_0, rfl, hm⟩
   unfold iN at hm
   refine sN 128 ?_
   iterate 2 refine pA ?_
   refine fs (AWp.ret ?_)
   cases hm
   exact aFn (.inr rfl) Tryz.results167 Z1 Z3 Z6
def mV (rec1 : List (List aC) → Int → List (List aC) → Int → Int → Option ((List aC))) (eF : List (List aC)) (rN : Int) (t9 : List (List aC)) (t10 : Int) (t11 : Int) : Option ((List aC)) :=
 rec1 eF rN t9 t10 (IntKind.i64.wrap (t11 + 1))
def mY (rec2 : List aC → List (List aC) → Int → Int → Option ((List aC))) (oA : List aC) (t25 : List (List aC)) (t26 : Int) (t27 : Int) : Option ((List aC)) :=
 (bif (decide (t27 < t26)) then
  ((idx t25 t27).bind fun x6 =>
  ((app oA x6).bind fun l8 =>
  rec2 l8 t25 t26 (IntKind.i64.wrap (t27 + 1))))
 else
  some oA)
def gU : Nat → List aC → List (List aC) → Int → Int → Option ((List aC))
 | 0 => fun _ _ _ _ => none
 | n + 1 => mY (gU n)
def mW (rec1 : List (List aC) → Int → List (List aC) → Int → Int → Option ((List aC))) (eF : List (List aC)) (rN : Int) (t9 : List (List aC)) (t10 : Int) (t11 : Int) : Option ((List aC)) :=
 (bif (decide (t11 < t10)) then
  ((idx t9 t11).bind fun x2 =>
  (bif (decide ((IntKind.i64.wrap (rN + (x2.length : Int))) < 0)) then
   none
  else
   mV rec1 eF (IntKind.i64.wrap (rN + (x2.length : Int))) t9 t10 t11))
 else
  ((jN rN).bind fun r4 =>
  gU bK r4 eF (eF.length : Int) 0))
def fL : Nat → List (List aC) → Int → List (List aC) → Int → Int → Option ((List aC))
 | 0 => fun _ _ _ _ _ => none
 | n + 1 => mW (fL n)
def iG (eF : List (List aC)) : Option ((List aC)) :=
 fL bK eF 0 eF (eF.length : Int) 0
theorem vM {eF : List (List aC)} {r : (List aC)} (hm : iG eF = some r) : aZ Tryz.prog 140 [.sl (eF.flatMap (csl aT)) eF.length false] (vl aT r) := by
 refine bd 36 Tryz.func140 ?_
 refine W ?_
 refine lp (fun m s => ∃ eF rN t9 t10 t11, s = ⟨36, (aF (aF (aF (aF (aF fa 0 (.sl (eF.flatMap (csl aT)) eF.length false)) 3 (vi rN)) 9 (.sl (t9.flatMap (csl aT)) t9.length false)) 10 (vi t10)) 11 (vi t11)), ⟨aX, 64⟩⟩ ∧ fL m eF rN t9 t10 t11 = some r) L ?_
 rintro n1 s ⟨eF, rN, t9, t10, t11, rfl, hm⟩
 refine W ?_
 refine cm hm (fun hm => ?_) fun hm => ?_
 ·
  refine V ?_
  refine AWp.seqJ (fun s => ∃ eF rN t9 t10 t11, s = ⟨36, (aF (aF (aF (aF (aF fa 0 (.sl (eF.flatMap (csl aT)) eF.length false)) 3 (vi rN)) 9 (.sl (t9.flatMap (csl aT)) t9.length false)) 10 (vi t10)) 11 (vi t11)), ⟨aX, 64⟩⟩ ∧ mV (fL n1) eF rN t9 t10 t11 = some r) ?_ ?_
  ·
   obtain ⟨x2, h1, hm⟩ := bnd hm
   refine W ?_
   refine cm hm (fun hm => ?_) fun hm => ?_
   · cases hm
   exact L
  rintro s ⟨eF, rN, t9, t10, t11, rfl, hm⟩
  exact L
 obtain ⟨r4, h3, hm⟩ := bnd hm
 refine W ?_
 refine aU.callF (id := 129) Zd Z1 bOg (fun H => (cV (cV .nil))) bV Z5 (aGs h3) ?_
 refine W ?_
 refine lp (fun m s => ∃ oA t25 t26 t27, s = ⟨36, (aF (aF (aF (aF fa 6 (.own 1 0 oA.length)) 25 (.sl (t25.flatMap (csl aT)) t25.length false)) 26 (vi t26)) 27 (vi t27)), ⟨(upd aX 1 (.cells 3 (oA.flatMap aT) 0)), 64⟩⟩ ∧ gU m oA t25 t26 t27 = some r) (Lr (fun j => bif j == 1 then 129 else 0)) ?_
 rintro n2 s ⟨oA, t25, t26, t27, rfl, hm⟩
 refine W ?_
 refine cm hm (fun hm => ?_) fun hm => ?_
 ·
  obtain ⟨x6, h5, hm⟩ := bnd hm
  obtain ⟨l8, h7, hm⟩ := bnd hm
  refine W ?_
  exact Lr (fun j => bif j == 1 then 194 else 0)
 exact E
def aC5 (rec1 : List aC → aC → Int → Option ((List aC) × Int)) (l_1 : List aC) (dJ : aC) (iQ : Int) : Option ((List aC) × Int) :=
 ((fE ((decide (iQ < (l_1.length : Int))) == true) (aC.mk 0 0 0) (idx l_1 iQ)).bind fun x11 =>
 ((fE ((decide (iQ < (l_1.length : Int))) == true) false (rD x11 dJ)).bind fun r13 =>
 (bif ((decide (iQ < (l_1.length : Int))) && r13) then
  rec1 l_1 dJ (IntKind.i64.wrap (iQ + 1))
 else
  ((slc l_1 0 iQ).bind fun l15 =>
  ((slc l_1 iQ (l_1.length : Int)).bind fun l17 =>
  ((iG [l15, [dJ], l17]).bind fun r19 =>
  some (r19, 0)))))))
def sU : Nat → List aC → aC → Int → Option ((List aC) × Int)
 | 0 => fun _ _ _ => none
 | n + 1 => aC5 (sU n)
def zT (n_0 : Int) (l_1 : List aC) (u_2 : Int) (v_3 : Int) : Option ((List aC) × Int) :=
 ((fY n_0 l_1).bind fun r2 =>
 ((fE ((!r2) == false) false (eI n_0 u_2)).bind fun r4 =>
 ((fE (((!r2) || (!r4)) == false) false (eI n_0 v_3)).bind fun r6 =>
 (bif (((!r2) || (!r4)) || (!r6)) then
  some (l_1, 1)
 else
  (bif (u_2 == v_3) then
   some (l_1, 8)
  else
   ((lJ l_1 u_2 v_3).bind fun ⟨r8, r9⟩ =>
   (bif r9 then
    some (l_1, 4)
   else
    sU bK l_1 (aC.mk (if v_3 < u_2 then v_3 else u_2) (if u_2 < v_3 then v_3 else u_2) 0) 0)))))))
theorem aUv {n_0 : Int} {l_1 : List aC} {u_2 : Int} {v_3 : Int} {r : (List aC) × Int} (hm : zT n_0 l_1 u_2 v_3 = some r) : aZ Tryz.prog 116 [vi n_0, vl aT l_1, vi u_2, vi v_3] (.tup [vl aT r.1, vi r.2]) := by
 refine bd 75 Tryz.func116 ?_
 obtain ⟨r2, h1, hm⟩ := bnd hm
 refine W ?_
 refine cq (kD h1) ?_
 obtain ⟨r4, h3, hm⟩ := bnd hm
 refine W ?_
 refine cg (fun hb => jF (cM h3 hb)) ?_
 obtain ⟨r6, h5, hm⟩ := bnd hm
 refine W ?_
 refine cg (fun hb => jF (cM h5 hb)) ?_
 refine W ?_
 refine cm hm (fun hm => ?_) fun hm => ?_
 · exact E
 refine W ?_
 refine cm hm (fun hm => ?_) fun hm => ?_
 · exact E
 refine W ?_
 obtain ⟨⟨r8, r9⟩, h7, hm⟩ := bnd hm
 refine cq (wA h7) ?_
 refine W ?_
 refine cm hm (fun hm => ?_) fun hm => ?_
 · exact E
 refine W ?_
 refine pu rfl (by simp only [go_sem, Nat.reduceBEq]; exact (by kernel_rfl : cL Tryz.prog 102 [(0, .v (.int .i64 (if v_3 < u_2 then v_3 else u_2))), (1, .v (.int .i64 (if u_2 < v_3 then v_3 else u_2)))] = some (.agg [.v (.int .i64 (if v_3 < u_2 then v_3 else u_2)), .v (.int .i64 (if u_2 < v_3 then v_3 else u_2)), .v (.int .i64 0)]))) ?_
 refine W ?_
 refine lp (fun m s => ∃ l_1 dJ iQ, s = ⟨75, (aF (aF (aF fa 1 (vl aT l_1)) 12 (.adr 1 0)) 13 (vi iQ)), ⟨(upd aX 1 (.cells 1 [vi dJ.U, vi dJ.V, vi dJ.Tier] 0)), 64⟩⟩ ∧ sU m l_1 dJ iQ = some r) (Lr (fun j => bif j == 1 then 327 else 0)) ?_
 rintro n1 s ⟨l_1, dJ, iQ, rfl, hm⟩
 obtain ⟨x11, h10, hm⟩ := bnd hm
 obtain ⟨r13, h12, hm⟩ := bnd hm
 refine W ?_
 refine cg (fun hb => aE2 (cM h12 hb)) ?_
 refine W ?_
 refine cm hm (fun hm => ?_) fun hm => ?_
 ·
  refine W ?_
  exact Lr (fun j => bif j == 1 then 1 else 0)
 obtain ⟨l15, h14, hm⟩ := bnd hm
 iterate 10 refine S1 ?_
 refine aU.pop Zd (wI (ps := [(0, .agg [.v (.int .i64 dJ.U), .v (.int .i64 dJ.V), .v (.int .i64 dJ.Tier)])]) (by simp only [go_sem, Nat.reduceBEq]; try rfl) (qP (.agg _ (bV.dat dJ)) aJf)) (aGb bV (l := [dJ]) (xs := [.v (.int .i64 dJ.U), .v (.int .i64 dJ.V), .v (.int .i64 dJ.Tier)]) Tryz.underlying28 aC1 aO1 Zd Zd Zd (ps := [(0, .agg [.v (.int .i64 dJ.U), .v (.int .i64 dJ.V), .v (.int .i64 dJ.Tier)])]) (by simp only [go_sem, Nat.reduceBEq]; try rfl) (by kernel_rfl) (fun H => (.cons (.data _ (.v _)) (.cons (.data _ (.v _)) (.cons (.data _ (.v _)) .nil))))) rfl ?_
 obtain ⟨l17, h16, hm⟩ := bnd hm
 iterate 3 refine S1 ?_
 refine aU.pop Zd (wI (ps := [(0, .sl (l15.flatMap aT) l15.length (false && (iQ : Int).toNat == l_1.length)), (1, .sl (([dJ]).flatMap aT) ([dJ]).length false), (2, .sl (l17.flatMap aT) l17.length (false && ((l_1.length : Int) : Int).toNat == l_1.length))]) (by simp only [go_sem, Nat.reduceBEq]; try rfl) (qP (bV.sl _ _ _) (qP (bV.sl _ _ _) (qP (bV.sl _ _ _) aJf)))) (aGb (CFl bV) (l := [l15, [dJ], l17]) (xs := [.sl (l15.flatMap aT) l15.length (false && (iQ : Int).toNat == l_1.length), .sl (([dJ]).flatMap aT) ([dJ]).length false, .sl (l17.flatMap aT) l17.length (false && ((l_1.length : Int) : Int).toNat == l_1.length)]) Tryz.underlying225 bIc bIb Zd Zd Zd (ps := [(0, .sl (l15.flatMap aT) l15.length (false && (iQ : Int).toNat == l_1.length)), (1, .sl (([dJ]).flatMap aT) ([dJ]).length false), (2, .sl (l17.flatMap aT) l17.length (false && ((l_1.length : Int) : Int).toNat == l_1.length))]) (by simp only [go_sem, Nat.reduceBEq]; try rfl) (by kernel_rfl) (fun H => (.cons (tdf rfl (bV.sl _ _ _)) (.cons (.data _ (bV.sl _ _ _)) (.cons (tdf rfl (bV.sl _ _ _)) .nil))))) rfl ?_
 obtain ⟨r19, h18, hm⟩ := bnd hm
 refine cq (vM h18) ?_
 exact E
def sG (n_0 : Int) (l_1 : List aC) (u_2 : Int) (v_3 : Int) : Option ((List aC) × Int) :=
 ((fY n_0 l_1).bind fun r2 =>
 ((fE ((!r2) == false) false (eI n_0 u_2)).bind fun r4 =>
 ((fE (((!r2) || (!r4)) == false) false (eI n_0 v_3)).bind fun r6 =>
 (bif (((!r2) || (!r4)) || (!r6)) then
  some (l_1, 1)
 else
  ((lJ l_1 u_2 v_3).bind fun ⟨r8, r9⟩ =>
  (bif (!r9) then
   some (l_1, 9)
  else
   ((slc l_1 0 r8).bind fun l11 =>
   ((slc l_1 (IntKind.i64.wrap (r8 + 1)) (l_1.length : Int)).bind fun l13 =>
   ((iG [l11, l13]).bind fun r15 =>
   some (r15, 0))))))))))
theorem aMc {n_0 : Int} {l_1 : List aC} {u_2 : Int} {v_3 : Int} {r : (List aC) × Int} (hm : sG n_0 l_1 u_2 v_3 = some r) : aZ Tryz.prog 118 [vi n_0, vl aT l_1, vi u_2, vi v_3] (.tup [vl aT r.1, vi r.2]) := by
 refine bd 48 Tryz.func118 ?_
 obtain ⟨r2, h1, hm⟩ := bnd hm
 refine W ?_
 refine cq (kD h1) ?_
 obtain ⟨r4, h3, hm⟩ := bnd hm
 refine W ?_
 refine cg (fun hb => jF (cM h3 hb)) ?_
 obtain ⟨r6, h5, hm⟩ := bnd hm
 refine W ?_
 refine cg (fun hb => jF (cM h5 hb)) ?_
 refine W ?_
 refine cm hm (fun hm => ?_) fun hm => ?_
 · exact E
 refine W ?_
 obtain ⟨⟨r8, r9⟩, h7, hm⟩ := bnd hm
 refine cq (wA h7) ?_
 refine W ?_
 refine cm hm (fun hm => ?_) fun hm => ?_
 · exact E
 obtain ⟨l11, h10, hm⟩ := bnd hm
 obtain ⟨l13, h12, hm⟩ := bnd hm
 iterate 10 refine S1 ?_
 refine aU.pop Zd (wI (ps := [(0, .sl (l11.flatMap aT) l11.length (false && (r8 : Int).toNat == l_1.length)), (1, .sl (l13.flatMap aT) l13.length (false && ((l_1.length : Int) : Int).toNat == l_1.length))]) (by simp only [go_sem, Nat.reduceBEq]; try rfl) (qP (bV.sl _ _ _) (qP (bV.sl _ _ _) aJf))) (aGb (CFl bV) (l := [l11, l13]) (xs := [.sl (l11.flatMap aT) l11.length (false && (r8 : Int).toNat == l_1.length), .sl (l13.flatMap aT) l13.length (false && ((l_1.length : Int) : Int).toNat == l_1.length)]) Tryz.underlying225 bIc bIb Zd Zd Zd (ps := [(0, .sl (l11.flatMap aT) l11.length (false && (r8 : Int).toNat == l_1.length)), (1, .sl (l13.flatMap aT) l13.length (false && ((l_1.length : Int) : Int).toNat == l_1.length))]) (by simp only [go_sem, Nat.reduceBEq]; try rfl) (by kernel_rfl) (fun H => (.cons (tdf rfl (bV.sl _ _ _)) (.cons (tdf rfl (bV.sl _ _ _)) .nil)))) rfl ?_
 obtain ⟨r15, h14, hm⟩ := bnd hm
 refine cq (vM h14) ?_
 exact E
def aA7 (n_0 : Int) : Option (Int) :=
 some (Int.tmod n_0 2305843009213693951)
theorem aJj {n_0 : Int} {r : Int} (hm : aA7 n_0 = some r) : aZ Tryz.prog 164 [vu n_0] (vu r) := by
 refine bd 5 Tryz.func164 ?_
 exact E
def aL1 (a_0 : Int) (b_1 : Int) : Option (Int) :=
 ((aA7 a_0).bind fun r2 =>
 ((aA7 b_1).bind fun r4 =>
 some (Int.tmod (IntKind.u64.wrap (r2 + r4)) 2305843009213693951)))
theorem bB9 {a_0 : Int} {b_1 : Int} {r : Int} (hm : aL1 a_0 b_1 = some r) : aZ Tryz.prog 138 [vu a_0, vu b_1] (vu r) := by
 refine bd 11 Tryz.func138 ?_
 obtain ⟨r2, h1, hm⟩ := bnd hm
 refine W ?_
 refine cq (aJj h1) ?_
 obtain ⟨r4, h3, hm⟩ := bnd hm
 refine W ?_
 refine cq (aJj h3) ?_
 exact E
def xG (x_0 : Int) (y_1 : Int) : Option (Int × Int) :=
 some ((IntKind.u64.wrap ((IntKind.u64.wrap ((IntKind.u64.wrap ((shr .u64 x_0 32) * (shr .u64 y_1 32))) + (shr .u64 (IntKind.u64.wrap ((IntKind.u64.wrap ((shr .u64 x_0 32) * (aC8 .u64 y_1 4294967295))) + (shr .u64 (IntKind.u64.wrap ((aC8 .u64 x_0 4294967295) * (aC8 .u64 y_1 4294967295))) 32))) 32))) + (shr .u64 (IntKind.u64.wrap ((aC8 .u64 (IntKind.u64.wrap ((IntKind.u64.wrap ((shr .u64 x_0 32) * (aC8 .u64 y_1 4294967295))) + (shr .u64 (IntKind.u64.wrap ((aC8 .u64 x_0 4294967295) * (aC8 .u64 y_1 4294967295))) 32))) 4294967295) + (IntKind.u64.wrap ((aC8 .u64 x_0 4294967295) * (shr .u64 y_1 32))))) 32))), (IntKind.u64.wrap (x_0 * y_1)))
theorem aRf {x_0 : Int} {y_1 : Int} {r : Int × Int} (hm : xG x_0 y_1 = some r) : aZ Tryz.prog 165 [vu x_0, vu y_1] (.tup [vu r.1, vu r.2]) := by
 refine bd 51 Tryz.func165 ?_
 exact E
def yY (x_0 : Int) (n_2 : Int) : Option (Int) :=
 ((bEx bBe (IntKind.u8.wrap x_0)).bind fun b2 =>
 some (IntKind.i64.wrap (n_2 + (IntKind.i64.wrap b2))))
def aAa (x_0 : Int) (n_2 : Int) : Option (Int) :=
 (bif (decide (256 ≤ x_0)) then
  yY (shr .u64 x_0 8) (IntKind.i64.wrap (n_2 + 8))
 else
  yY x_0 n_2)
def zC (x_0 : Int) (n_2 : Int) : Option (Int) :=
 (bif (decide (65536 ≤ x_0)) then
  aAa (shr .u64 x_0 16) (IntKind.i64.wrap (n_2 + 16))
 else
  aAa x_0 n_2)
def aCf (x_0 : Int) : Option (Int) :=
 (bif (decide (4294967296 ≤ x_0)) then
  zC (shr .u64 x_0 32) 32
 else
  zC x_0 0)
theorem aIg {x_0 : Int} {r : Int} (hm : aCf x_0 = some r) : aZ Tryz.prog 155 [vu x_0] (vi r) := by
 refine bd 25 Tryz.func155 ?_
 refine V ?_
 refine AWp.seqJ (fun s => ∃ x_0 n_2, s = ⟨25, (aF (aF fa 0 (vu x_0)) 2 (vi n_2)), ⟨aX, 64⟩⟩ ∧ zC x_0 n_2 = some r) ?_ ?_
 ·
  refine W ?_
  refine cm hm (fun hm => ?_) fun hm => ?_
  · exact L
  exact L
 rintro s ⟨x_0, n_2, rfl, hm⟩
 refine AWp.seqJ (fun s => ∃ x_0 n_2, s = ⟨25, (aF (aF fa 0 (vu x_0)) 2 (vi n_2)), ⟨aX, 64⟩⟩ ∧ aAa x_0 n_2 = some r) ?_ ?_
 ·
  refine W ?_
  refine cm hm (fun hm => ?_) fun hm => ?_
  · exact L
  exact L
 rintro s ⟨x_0, n_2, rfl, hm⟩
 refine AWp.seqJ (fun s => ∃ x_0 n_2, s = ⟨25, (aF (aF fa 0 (vu x_0)) 2 (vi n_2)), ⟨aX, 64⟩⟩ ∧ yY x_0 n_2 = some r) ?_ ?_
 ·
  refine W ?_
  refine cm hm (fun hm => ?_) fun hm => ?_
  · exact L
  exact L
 rintro s ⟨x_0, n_2, rfl, hm⟩
 obtain ⟨b2, h1, hm⟩ := bnd hm
 exact E
def lL (x_0 : Int) : Option (Int) :=
 ((aCf x_0).bind fun r2 =>
 some (IntKind.i64.wrap (64 - r2)))
theorem aCh {x_0 : Int} {r : Int} (hm : lL x_0 = some r) : aZ Tryz.prog 196 [vu x_0] (vi r) := by
 refine bd 6 Tryz.func196 ?_
 obtain ⟨r2, h1, hm⟩ := bnd hm
 refine W ?_
 refine cq (aIg h1) ?_
 exact E
def qR (y_2 : Int) (s_8 : Int) (fQ : Int) (gT : Int) (mH : Int) (tW : Int) : Option (Int × Int) :=
 ((chk (decide (0 ≤ s_8))).bind fun _ =>
 some ((IntKind.u64.wrap ((IntKind.u64.wrap (gT * 4294967296)) + tW)), (shr .u64 (IntKind.u64.wrap ((IntKind.u64.wrap ((IntKind.u64.wrap (mH * 4294967296)) + fQ)) - (IntKind.u64.wrap (tW * y_2)))) s_8)))
def aAh (rec1 : Int → Int → Int → Int → Int → Int → Int → Int → Int → Option (Int × Int)) (y_2 : Int) (s_8 : Int) (jS : Int) (jA : Int) (fQ : Int) (gT : Int) (jY : Int) (mH : Int) (tW : Int) : Option (Int × Int) :=
 (bif ((decide (4294967296 ≤ tW)) || (decide ((IntKind.u64.wrap ((IntKind.u64.wrap (4294967296 * jY)) + fQ)) < (IntKind.u64.wrap (tW * jA))))) then
  (bif (decide (4294967296 ≤ (IntKind.u64.wrap (jY + jS)))) then
   qR y_2 s_8 fQ gT mH (IntKind.u64.wrap (tW - 1))
  else
   rec1 y_2 s_8 jS jA fQ gT (IntKind.u64.wrap (jY + jS)) mH (IntKind.u64.wrap (tW - 1)))
 else
  qR y_2 s_8 fQ gT mH tW)
def mE : Nat → Int → Int → Int → Int → Int → Int → Int → Int → Int → Option (Int × Int)
 | 0 => fun _ _ _ _ _ _ _ _ _ => none
 | n + 1 => aAh (mE n)
def mI (y_2 : Int) (s_8 : Int) (jS : Int) (jA : Int) (jI : Int) (lN : Int) (fQ : Int) (gT : Int) : Option (Int × Int) :=
 ((chk (jS != 0)).bind fun _ =>
 mE bK y_2 s_8 jS jA fQ gT (IntKind.u64.wrap ((IntKind.u64.wrap ((IntKind.u64.wrap ((IntKind.u64.wrap (jI * 4294967296)) + lN)) - (IntKind.u64.wrap (gT * y_2)))) - (IntKind.u64.wrap ((IntKind.u64.wrap (Int.tdiv (IntKind.u64.wrap ((IntKind.u64.wrap ((IntKind.u64.wrap (jI * 4294967296)) + lN)) - (IntKind.u64.wrap (gT * y_2)))) jS)) * jS)))) (IntKind.u64.wrap ((IntKind.u64.wrap ((IntKind.u64.wrap (jI * 4294967296)) + lN)) - (IntKind.u64.wrap (gT * y_2)))) (IntKind.u64.wrap (Int.tdiv (IntKind.u64.wrap ((IntKind.u64.wrap ((IntKind.u64.wrap (jI * 4294967296)) + lN)) - (IntKind.u64.wrap (gT * y_2)))) jS)))
def zS (rec2 : Int → Int → Int → Int → Int → Int → Int → Int → Int → Option (Int × Int)) (y_2 : Int) (s_8 : Int) (jS : Int) (jA : Int) (jI : Int) (lN : Int) (fQ : Int) (gT : Int) (jY : Int) : Option (Int × Int) :=
 (bif ((decide (4294967296 ≤ gT)) || (decide ((IntKind.u64.wrap ((IntKind.u64.wrap (4294967296 * jY)) + lN)) < (IntKind.u64.wrap (gT * jA))))) then
  (bif (decide (4294967296 ≤ (IntKind.u64.wrap (jY + jS)))) then
   mI y_2 s_8 jS jA jI lN fQ (IntKind.u64.wrap (gT - 1))
  else
   rec2 y_2 s_8 jS jA jI lN fQ (IntKind.u64.wrap (gT - 1)) (IntKind.u64.wrap (jY + jS)))
 else
  mI y_2 s_8 jS jA jI lN fQ gT)
def mA : Nat → Int → Int → Int → Int → Int → Int → Int → Int → Int → Option (Int × Int)
 | 0 => fun _ _ _ _ _ _ _ _ _ => none
 | n + 1 => zS (mA n)
def zP (sX : Int) (qX : Int) (y_2 : Int) : Option (Int × Int) :=
 (bif (sX == 0) then
  ((chk (y_2 != 0)).bind fun _ =>
  ((chk (y_2 != 0)).bind fun _ =>
  some ((IntKind.u64.wrap (Int.tdiv qX y_2)), (Int.tmod qX y_2))))
 else
  ((lL y_2).bind fun r4 =>
  ((chk (decide (0 ≤ (IntKind.u64.wrap r4)))).bind fun _ =>
  ((chk (decide (0 ≤ (IntKind.u64.wrap r4)))).bind fun _ =>
  ((chk (decide (0 ≤ (IntKind.u64.wrap (64 - (IntKind.u64.wrap r4)))))).bind fun _ =>
  ((chk (decide (0 ≤ (IntKind.u64.wrap r4)))).bind fun _ =>
  ((chk ((shr .u64 (shl .u64 y_2 (IntKind.u64.wrap r4)) 32) != 0)).bind fun _ =>
  mA bK (shl .u64 y_2 (IntKind.u64.wrap r4)) (IntKind.u64.wrap r4) (shr .u64 (shl .u64 y_2 (IntKind.u64.wrap r4)) 32) (aC8 .u64 (shl .u64 y_2 (IntKind.u64.wrap r4)) 4294967295) (bor .u64 (shl .u64 sX (IntKind.u64.wrap r4)) (shr .u64 qX (IntKind.u64.wrap (64 - (IntKind.u64.wrap r4))))) (shr .u64 (shl .u64 qX (IntKind.u64.wrap r4)) 32) (aC8 .u64 (shl .u64 qX (IntKind.u64.wrap r4)) 4294967295) (IntKind.u64.wrap (Int.tdiv (bor .u64 (shl .u64 sX (IntKind.u64.wrap r4)) (shr .u64 qX (IntKind.u64.wrap (64 - (IntKind.u64.wrap r4))))) (shr .u64 (shl .u64 y_2 (IntKind.u64.wrap r4)) 32))) (IntKind.u64.wrap ((bor .u64 (shl .u64 sX (IntKind.u64.wrap r4)) (shr .u64 qX (IntKind.u64.wrap (64 - (IntKind.u64.wrap r4))))) - (IntKind.u64.wrap ((IntKind.u64.wrap (Int.tdiv (bor .u64 (shl .u64 sX (IntKind.u64.wrap r4)) (shr .u64 qX (IntKind.u64.wrap (64 - (IntKind.u64.wrap r4))))) (shr .u64 (shl .u64 y_2 (IntKind.u64.wrap r4)) 32))) * (shr .u64 (shl .u64 y_2 (IntKind.u64.wrap r4)) 32))))))))))))
def zI (sX : Int) (qX : Int) (y_2 : Int) : Option (Int × Int) :=
 (bif (decide (y_2 ≤ sX)) then
  none
 else
  zP sX qX y_2)
def wX (sX : Int) (qX : Int) (y_2 : Int) : Option (Int × Int) :=
 (bif (y_2 == 0) then
  none
 else
  zI sX qX y_2)
theorem aRl {sX : Int} {qX : Int} {y_2 : Int} {r : Int × Int} (hm : wX sX qX y_2 = some r) : aZ Tryz.prog 183 [vu sX, vu qX, vu y_2] (.tup [vu r.1, vu r.2]) := by
 refine bd 135 Tryz.func183 ?_
 refine V ?_
 refine AWp.seqJ (fun s => ∃ sX qX y_2, s = ⟨135, (aF (aF (aF fa 0 (vu sX)) 1 (vu qX)) 2 (vu y_2)), ⟨aX, 64⟩⟩ ∧ zI sX qX y_2 = some r) ?_ ?_
 ·
  refine W ?_
  refine cm hm (fun hm => ?_) fun hm => ?_
  · cases hm
  exact L
 rintro s ⟨sX, qX, y_2, rfl, hm⟩
 refine AWp.seqJ (fun s => ∃ sX qX y_2, s = ⟨135, (aF (aF (aF fa 0 (vu sX)) 1 (vu qX)) 2 (vu y_2)), ⟨aX, 64⟩⟩ ∧ zP sX qX y_2 = some r) ?_ ?_
 ·
  refine W ?_
  refine cm hm (fun hm => ?_) fun hm => ?_
  · cases hm
  exact L
 rintro s ⟨sX, qX, y_2, rfl, hm⟩
 refine W ?_
 refine cm hm (fun hm => ?_) fun hm => ?_
 ·
  obtain ⟨_, h1, hm⟩ := bnd hm
  obtain ⟨_, h2, hm⟩ := bnd hm
  exact E
 obtain ⟨r4, h3, hm⟩ := bnd hm
 refine W ?_
 refine cq (aCh h3) ?_
 obtain ⟨_, h5, hm⟩ := bnd hm
 obtain ⟨_, h6, hm⟩ := bnd hm
 obtain ⟨_, h7, hm⟩ := bnd hm
 obtain ⟨_, h8, hm⟩ := bnd hm
 obtain ⟨_, h9, hm⟩ := bnd hm
 refine V ?_
 refine AWp.seqJ (fun s => ∃ y_2 s_8 jS jA jI lN fQ gT, s = ⟨135, (aF (aF (aF (aF (aF (aF (aF (aF fa 2 (vu y_2)) 8 (vu s_8)) 9 (vu jS)) 10 (vu jA)) 11 (vu jI)) 13 (vu lN)) 14 (vu fQ)) 15 (vu gT)), ⟨aX, 64⟩⟩ ∧ mI y_2 s_8 jS jA jI lN fQ gT = some r) ?_ ?_
 ·
  refine W ?_
  refine lp (fun m s => ∃ y_2 s_8 jS jA jI lN fQ gT jY, s = ⟨135, (aF (aF (aF (aF (aF (aF (aF (aF (aF fa 2 (vu y_2)) 8 (vu s_8)) 9 (vu jS)) 10 (vu jA)) 11 (vu jI)) 13 (vu lN)) 14 (vu fQ)) 15 (vu gT)) 16 (vu jY)), ⟨aX, 64⟩⟩ ∧ mA m y_2 s_8 jS jA jI lN fQ gT jY = some r) L ?_
  rintro n2 s ⟨y_2, s_8, jS, jA, jI, lN, fQ, gT, jY, rfl, hm⟩
  refine W ?_
  refine cm hm (fun hm => ?_) fun hm => ?_
  ·
   refine W ?_
   refine cm hm (fun hm => ?_) fun hm => ?_
   ·
    refine W ?_
    refine aNk Zd ?_
    exact L
   exact L
  exact L
 rintro s ⟨y_2, s_8, jS, jA, jI, lN, fQ, gT, rfl, hm⟩
 obtain ⟨_, h10, hm⟩ := bnd hm
 refine V ?_
 refine AWp.seqJ (fun s => ∃ y_2 s_8 fQ gT mH tW, s = ⟨135, (aF (aF (aF (aF (aF (aF fa 2 (vu y_2)) 8 (vu s_8)) 14 (vu fQ)) 15 (vu gT)) 17 (vu mH)) 18 (vu tW)), ⟨aX, 64⟩⟩ ∧ qR y_2 s_8 fQ gT mH tW = some r) ?_ ?_
 ·
  refine W ?_
  refine lp (fun m s => ∃ y_2 s_8 jS jA fQ gT jY mH tW, s = ⟨135, (aF (aF (aF (aF (aF (aF (aF (aF (aF fa 2 (vu y_2)) 8 (vu s_8)) 9 (vu jS)) 10 (vu jA)) 14 (vu fQ)) 15 (vu gT)) 16 (vu jY)) 17 (vu mH)) 18 (vu tW)), ⟨aX, 64⟩⟩ ∧ mE m y_2 s_8 jS jA fQ gT jY mH tW = some r) L ?_
  rintro n1 s ⟨y_2, s_8, jS, jA, fQ, gT, jY, mH, tW, rfl, hm⟩
  refine W ?_
  refine cm hm (fun hm => ?_) fun hm => ?_
  ·
   refine W ?_
   refine cm hm (fun hm => ?_) fun hm => ?_
   ·
    refine W ?_
    refine aNk Zd ?_
    exact L
   exact L
  exact L
 rintro s ⟨y_2, s_8, fQ, gT, mH, tW, rfl, hm⟩
 obtain ⟨_, h11, hm⟩ := bnd hm
 exact E
end Go.Proofs.YtkdohhmacfoolaaGreat
