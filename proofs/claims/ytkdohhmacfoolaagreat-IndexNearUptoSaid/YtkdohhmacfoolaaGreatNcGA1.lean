/- Facts that the statement's proof is made of. No condition. -/
import Derived.Test.YtkdohhmacfoolaaGreatNcOf
import Derived.Test.YtkdohhmacfoolaaGreatNcAmF
import Derived.Test.YtkdohhmacfoolaaGreatNcPl
set_option linter.unusedVariables false
set_option linter.unusedSimpArgs false
set_option maxRecDepth 20000
set_option maxHeartbeats 4000000
namespace Go.Proofs.YtkdohhmacfoolaaGreat
open Go Go.AM
def bDj : ByteArray := ⟨#[0, 1, 2, 2, 3, 3, 3, 3, 4, 4, 4, 4, 4, 4, 4, 4, 5, 5, 5, 5, 5, 5, 5, 5, 5, 5, 5, 5, 5, 5, 5, 5, 6, 6, 6, 6, 6, 6, 6, 6, 6, 6, 6, 6, 6, 6, 6, 6, 6, 6, 6, 6, 6, 6, 6, 6, 6, 6, 6, 6, 6, 6, 6, 6, 7, 7, 7, 7, 7, 7, 7, 7, 7, 7, 7, 7, 7, 7, 7, 7, 7, 7, 7, 7, 7, 7, 7, 7, 7, 7, 7, 7, 7, 7, 7, 7, 7, 7, 7, 7, 7, 7, 7, 7, 7, 7, 7, 7, 7, 7, 7, 7, 7, 7, 7, 7, 7, 7, 7, 7, 7, 7, 7, 7, 7, 7, 7, 7, 8, 8, 8, 8, 8, 8, 8, 8, 8, 8, 8, 8, 8, 8, 8, 8, 8, 8, 8, 8, 8, 8, 8, 8, 8, 8, 8, 8, 8, 8, 8, 8, 8, 8, 8, 8, 8, 8, 8, 8, 8, 8, 8, 8, 8, 8, 8, 8, 8, 8, 8, 8, 8, 8, 8, 8, 8, 8, 8, 8, 8, 8, 8, 8, 8, 8, 8, 8, 8, 8, 8, 8, 8, 8, 8, 8, 8, 8, 8, 8, 8, 8, 8, 8, 8, 8, 8, 8, 8, 8, 8, 8, 8, 8, 8, 8, 8, 8, 8, 8, 8, 8, 8, 8, 8, 8, 8, 8, 8, 8, 8, 8, 8, 8, 8, 8, 8, 8, 8, 8, 8, 8, 8, 8, 8, 8, 8, 8]⟩
structure bQ where
 A : Int
 B : Int
deriving DecidableEq
def bH (e : bQ) : List AV := [.v (.int .u64 e.A), .v (.int .u64 e.B)]
theorem lV : CF bH 2 := ⟨fun _ => rfl, fun a x hx => by
 simp only [bH, List.mem_cons, List.not_mem_nil, or_false] at hx
 rcases hx with rfl | rfl
 ·
  exact (.v _)
 ·
  exact (.v _), fun _ => rfl⟩
instance : CC bH 2 := ⟨lV⟩
theorem aUr (e : bQ) (r : List AV) : bH e ++ r = .v (.int .u64 e.A) :: .v (.int .u64 e.B) :: r := rfl
attribute [go_sem] aUr
structure aN where
 N : Int
 L : Int
 R : Int
deriving DecidableEq
def aK3 (e : aN) : List AV := [.v (.int .i64 e.N), .v (.int .i64 e.L), .v (.int .i64 e.R)]
theorem aO0 (e : aN) (r : List AV) : aK3 e ++ r = .v (.int .i64 e.N) :: .v (.int .i64 e.L) :: .v (.int .i64 e.R) :: r := rfl
attribute [go_sem] aO0
structure aG where
 Config : aN
 Hashes : List bQ
 Edges : List aC
deriving DecidableEq
def bFz (e : aG) : List AV := [.v (.int .i64 e.Config.N), .v (.int .i64 e.Config.L), .v (.int .i64 e.Config.R), .sl (e.Hashes.flatMap bH) e.Hashes.length false, .sl (e.Edges.flatMap aT) e.Edges.length false]
theorem aQ5 (e : aG) (r : List AV) : bFz e ++ r = .v (.int .i64 e.Config.N) :: .v (.int .i64 e.Config.L) :: .v (.int .i64 e.Config.R) :: .sl (e.Hashes.flatMap bH) e.Hashes.length false :: .sl (e.Edges.flatMap aT) e.Edges.length false :: r := rfl
attribute [go_sem] aQ5
theorem aYc (x0 y0 x1 y1 x2 y2 : Int) : dS Tryz.prog .eql 102 (.agg [.v (.int .i64 x0), .v (.int .i64 x1), .v (.int .i64 x2)]) (.agg [.v (.int .i64 y0), .v (.int .i64 y1), .v (.int .i64 y2)]) = some (.v (.bool ((x0 == y0) && ((x1 == y1) && (x2 == y2))))) :=
 (by kernel_rfl : dS Tryz.prog .eql 102 (.agg [.v (.int .i64 x0), .v (.int .i64 x1), .v (.int .i64 x2)]) (.agg [.v (.int .i64 y0), .v (.int .i64 y1), .v (.int .i64 y2)]) = some (.v (.bool ((x0 == y0) && ((x1 == y1) && ((x2 == y2) && true)))))).trans (by rw [Bool.and_true])
theorem aZh (x0 y0 x1 y1 x2 y2 : Int) : dS Tryz.prog .neq 102 (.agg [.v (.int .i64 x0), .v (.int .i64 x1), .v (.int .i64 x2)]) (.agg [.v (.int .i64 y0), .v (.int .i64 y1), .v (.int .i64 y2)]) = some (.v (.bool (!((x0 == y0) && ((x1 == y1) && (x2 == y2)))))) :=
 (by kernel_rfl : dS Tryz.prog .neq 102 (.agg [.v (.int .i64 x0), .v (.int .i64 x1), .v (.int .i64 x2)]) (.agg [.v (.int .i64 y0), .v (.int .i64 y1), .v (.int .i64 y2)]) = some (.v (.bool (!((x0 == y0) && ((x1 == y1) && ((x2 == y2) && true))))))).trans (by rw [Bool.and_true])
attribute [go_sem] aYc aZh
theorem aYs (x0 y0 x1 y1 : Int) : dS Tryz.prog .eql 120 (.agg [.v (.int .u64 x0), .v (.int .u64 x1)]) (.agg [.v (.int .u64 y0), .v (.int .u64 y1)]) = some (.v (.bool ((x0 == y0) && (x1 == y1)))) :=
 (by kernel_rfl : dS Tryz.prog .eql 120 (.agg [.v (.int .u64 x0), .v (.int .u64 x1)]) (.agg [.v (.int .u64 y0), .v (.int .u64 y1)]) = some (.v (.bool ((x0 == y0) && ((x1 == y1) && true))))).trans (by rw [Bool.and_true])
theorem aZi (x0 y0 x1 y1 : Int) : dS Tryz.prog .neq 120 (.agg [.v (.int .u64 x0), .v (.int .u64 x1)]) (.agg [.v (.int .u64 y0), .v (.int .u64 y1)]) = some (.v (.bool (!((x0 == y0) && (x1 == y1))))) :=
 (by kernel_rfl : dS Tryz.prog .neq 120 (.agg [.v (.int .u64 x0), .v (.int .u64 x1)]) (.agg [.v (.int .u64 y0), .v (.int .u64 y1)]) = some (.v (.bool (!((x0 == y0) && ((x1 == y1) && true)))))).trans (by rw [Bool.and_true])
attribute [go_sem] aYs aZi
theorem bDc (x0 y0 x1 y1 x2 y2 : Int) : dS Tryz.prog .eql 23 (.agg [.v (.int .i64 x0), .v (.int .i64 x1), .v (.int .i64 x2)]) (.agg [.v (.int .i64 y0), .v (.int .i64 y1), .v (.int .i64 y2)]) = some (.v (.bool ((x0 == y0) && ((x1 == y1) && (x2 == y2))))) :=
 (by kernel_rfl : dS Tryz.prog .eql 23 (.agg [.v (.int .i64 x0), .v (.int .i64 x1), .v (.int .i64 x2)]) (.agg [.v (.int .i64 y0), .v (.int .i64 y1), .v (.int .i64 y2)]) = some (.v (.bool ((x0 == y0) && ((x1 == y1) && ((x2 == y2) && true)))))).trans (by rw [Bool.and_true])
theorem bB1 (x0 y0 x1 y1 x2 y2 : Int) : dS Tryz.prog .neq 23 (.agg [.v (.int .i64 x0), .v (.int .i64 x1), .v (.int .i64 x2)]) (.agg [.v (.int .i64 y0), .v (.int .i64 y1), .v (.int .i64 y2)]) = some (.v (.bool (!((x0 == y0) && ((x1 == y1) && (x2 == y2)))))) :=
 (by kernel_rfl : dS Tryz.prog .neq 23 (.agg [.v (.int .i64 x0), .v (.int .i64 x1), .v (.int .i64 x2)]) (.agg [.v (.int .i64 y0), .v (.int .i64 y1), .v (.int .i64 y2)]) = some (.v (.bool (!((x0 == y0) && ((x1 == y1) && ((x2 == y2) && true))))))).trans (by rw [Bool.and_true])
attribute [go_sem] bDc bB1
theorem aV6 (xs : List AV) : aI Tryz.prog 102 (.ptr (xs)) 0 = some (.ptr xs) := by kernel_rfl
attribute [go_sem] aV6
theorem aVt (x0 : AV) (xs : List AV) : aI Tryz.prog 102 (.ptr (x0 :: xs)) 1 = some (.ptr xs) := by kernel_rfl
attribute [go_sem] aVt
theorem aUy (x0 : AV) (x1 : AV) (xs : List AV) : aI Tryz.prog 102 (.ptr (x0 :: x1 :: xs)) 2 = some (.ptr xs) := by kernel_rfl
attribute [go_sem] aUy
theorem aSu (i o : Nat) : aI Tryz.prog 102 (.adr i o) 0 = some (.adr i (o + 0)) := by kernel_rfl
attribute [go_sem] aSu
theorem aUz (i o : Nat) : aI Tryz.prog 102 (.adr i o) 1 = some (.adr i (o + 1)) := by kernel_rfl
attribute [go_sem] aUz
theorem aSn (i o : Nat) : aI Tryz.prog 102 (.adr i o) 2 = some (.adr i (o + 2)) := by kernel_rfl
attribute [go_sem] aSn
theorem aVk (i o : Nat) : aI Tryz.prog 120 (.adr i o) 0 = some (.adr i (o + 0)) := by kernel_rfl
attribute [go_sem] aVk
theorem aUp (i o : Nat) : aI Tryz.prog 120 (.adr i o) 1 = some (.adr i (o + 1)) := by kernel_rfl
attribute [go_sem] aUp
theorem aY0 (i o : Nat) : aI Tryz.prog 23 (.adr i o) 0 = some (.adr i (o + 0)) := by kernel_rfl
attribute [go_sem] aY0
theorem aZb (i o : Nat) : aI Tryz.prog 23 (.adr i o) 1 = some (.adr i (o + 1)) := by kernel_rfl
attribute [go_sem] aZb
theorem bA0 (i o : Nat) : aI Tryz.prog 23 (.adr i o) 2 = some (.adr i (o + 2)) := by kernel_rfl
attribute [go_sem] bA0
theorem aYh (i o : Nat) : aI Tryz.prog 30 (.adr i o) 0 = some (.adr i (o + 0)) := by kernel_rfl
attribute [go_sem] aYh
theorem aZz (i o : Nat) : aI Tryz.prog 30 (.adr i o) 1 = some (.adr i (o + 3)) := by kernel_rfl
attribute [go_sem] aZz
theorem aYp (i o : Nat) : aI Tryz.prog 30 (.adr i o) 2 = some (.adr i (o + 4)) := by kernel_rfl
attribute [go_sem] aYp
theorem bA7 (H : aH) (x0 x1 x2 : AV) (xs : List AV) : bP Tryz.prog H 102 (.ptr (x0 :: x1 :: x2 :: xs)) = some (.agg [x0, x1, x2]) := by kernel_rfl
attribute [go_sem] bA7
theorem bBs (H : aH) (x0 x1 : AV) (xs : List AV) : bP Tryz.prog H 120 (.ptr (x0 :: x1 :: xs)) = some (.agg [x0, x1]) := by kernel_rfl
attribute [go_sem] bBs
theorem bFb (H : aH) (x0 x1 x2 : AV) (xs : List AV) : bP Tryz.prog H 23 (.ptr (x0 :: x1 :: x2 :: xs)) = some (.agg [x0, x1, x2]) := by kernel_rfl
attribute [go_sem] bFb
theorem bF3 (H : aH) (x : AV) (xs : List AV) : bP Tryz.prog H 27 (.ptr (x :: xs)) = some x := by kernel_rfl
attribute [go_sem] bF3
theorem bGr (H : aH) (x : AV) (xs : List AV) : bP Tryz.prog H 28 (.ptr (x :: xs)) = some x := by kernel_rfl
attribute [go_sem] bGr
theorem bIl (H : aH) (x : AV) (xs : List AV) : bP Tryz.prog H 3 (.ptr (x :: xs)) = some x := by kernel_rfl
attribute [go_sem] bIl
theorem bEg (H : aH) (x0 x1 x2 x3 x4 : AV) (xs : List AV) : bP Tryz.prog H 30 (.ptr (x0 :: x1 :: x2 :: x3 :: x4 :: xs)) = some (.agg [x0, x1, x2, x3, x4]) := by kernel_rfl
attribute [go_sem] bEg
theorem bEz (H : aH) (x : AV) (xs : List AV) : bP Tryz.prog H 43 (.ptr (x :: xs)) = some x := by kernel_rfl
attribute [go_sem] bEz
theorem aV4 (H : aH) (k : IntKind) (n : Int) : nG Tryz.prog H 3 198 (.v (.int k n)) = some (.v (.int .u64 (IntKind.u64.wrap n))) := gH Tryz.underlying3 Tryz.underlying198
attribute [go_sem] aV4
theorem bCd (H : aH) (k : IntKind) (n : Int) : nG Tryz.prog H 5 3 (.v (.int k n)) = some (.v (.int .i64 (IntKind.i64.wrap n))) := gH Tryz.underlying5 Tryz.underlying3
attribute [go_sem] bCd
theorem aZo (H : aH) (k : IntKind) (n : Int) : nG Tryz.prog H 43 5 (.v (.int k n)) = some (.v (.int .u8 (IntKind.u8.wrap n))) := gH Tryz.underlying43 Tryz.underlying5
attribute [go_sem] aZo
def aOp (rec1 : List Int → List Int → Int → Option (Bool)) (a_0 : List Int) (b_1 : List Int) (i_5 : Int) : Option (Bool) :=
 (bif (decide (i_5 < (a_0.length : Int))) then
  ((idx a_0 i_5).bind fun x2 =>
  ((idx b_1 i_5).bind fun x4 =>
  (bif (x2 != x4) then
   some false
  else
   rec1 a_0 b_1 (IntKind.i64.wrap (i_5 + 1)))))
 else
  some true)
def aA4 : Nat → List Int → List Int → Int → Option (Bool)
 | 0 => fun _ _ _ => none
 | n + 1 => aOp (aA4 n)
def aIj (a_0 : List Int) (b_1 : List Int) : Option (Bool) :=
 (bif ((a_0.length : Int) != (b_1.length : Int)) then
  some false
 else
  aA4 bK a_0 b_1 0)
theorem aQv {a_0 : List Int} {b_1 : List Int} {r : Bool} (hm : aIj a_0 b_1 = some r) : aZ Tryz.prog 33 [vl (ci .u64) a_0, vl (ci .u64) b_1] (vb r) := by
 refine bd 26 Tryz.func33 ?_
 refine W ?_
 refine cm hm (fun hm => ?_) fun hm => ?_
 · exact E
 refine W ?_
 refine lp (fun m s => ∃ a_0 b_1 i_5, s = ⟨26, (aF (aF (aF fa 0 (vl (ci .u64) a_0)) 1 (vl (ci .u64) b_1)) 5 (vi i_5)), ⟨aX, 64⟩⟩ ∧ aA4 m a_0 b_1 i_5 = some r) L ?_
 rintro n1 s ⟨a_0, b_1, i_5, rfl, hm⟩
 refine W ?_
 refine cm hm (fun hm => ?_) fun hm => ?_
 ·
  obtain ⟨x2, h1, hm⟩ := bnd hm
  obtain ⟨x4, h3, hm⟩ := bnd hm
  refine W ?_
  refine cm hm (fun hm => ?_) fun hm => ?_
  · exact E
  exact L
 exact E
def eJ (l : List bQ) : Option (List bQ) := aP8 16 [] l
theorem aDs {r : List bQ} (hm : some [] = some r) : dA Tryz.prog 69 [.v (.slice none 0 0)] 2 (r.flatMap bH) r.length := by
 refine dA.of_body Tryz.func69 rfl (lV.fmdat r) ?_
 simp only [Tryz.ntmps69, List.length_cons, List.length_nil, Nat.reduceAdd, Nat.reduceSub, eR]
 refine sN 64 (pA ?_)
 refine fs (AWp.seq' (sN 128 (pA ?_)))
 refine pu rfl (tG Z1 Z1 (aF9 Tryz.underlying27)) ?_
 refine fs (AWp.condT Z1 ?_)
 refine sN 192 (pA ?_)
 refine fs (AWp.weaken (nX 2 900002 2 Z1 Z5) ?_)
 refine AWp.ret (lC ?_)
 cases hm
 exact aEz (.inr rfl) Tryz.results69 Z1 Z3 Z6
theorem aE2 {a : Addr} {c : Nat} {r : List bQ} (hm : ((aP8 16 [] []).bind fun l2 =>
some l2) = some r) : dA Tryz.prog 69 [.v (.slice (some a) 0 c)] 2 (r.flatMap bH) r.length := by
 refine dA.of_body Tryz.func69 rfl (lV.fmdat r) ?_
 simp only [Tryz.ntmps69, List.length_cons, List.length_nil, Nat.reduceAdd, Nat.reduceSub, eR]
 refine sN 64 (pA ?_)
 refine fs (AWp.seq' (sN 128 (pA ?_)))
 refine pu rfl (tG Z1 Z1 (aCm Tryz.underlying27)) ?_
 refine fs (AWp.condF Z1 ?_)
 refine AWp.skip (bY (sN 192 (hp (id := 128) rfl rfl (kW lV (l := []) Tryz.underlying27 bAp bCb Z5 Zd Zd Zd (by simp only [go_sem, Nat.reduceBEq]; try rfl) (by kernel_rfl)) ?_)))
 refine pA ?_
 obtain ⟨l2, h1, hm⟩ := bnd hm
 refine hp (id := 130) rfl rfl (aWp lV Tryz.underlying27 Tryz.underlying27 rfl bD5 bDb aNr (by rw [aNr]; decide) bD8 Zd Zd Z1 Z3 Z6 (aJd Z1) rfl Z5 h1) ?_
 refine pA ?_
 refine fs (AWp.ret ?_)
 cases hm
 exact aEz (.inr rfl) Tryz.results69 Z1 Z3 Z6
theorem aE0 {x0 : bQ} {l0 : List bQ} {r : List bQ} (hm : ((aP8 16 [] (x0 :: l0)).bind fun l2 =>
some l2) = some r) : dA Tryz.prog 69 [.sl ((x0 :: l0).flatMap bH) (x0 :: l0).length false] 2 (r.flatMap bH) r.length := by
 refine dA.of_body Tryz.func69 rfl (lV.fmdat r) ?_
 simp only [Tryz.ntmps69, List.length_cons, List.length_nil, Nat.reduceAdd, Nat.reduceSub, eR]
 refine sN 64 (pA ?_)
 refine fs (AWp.seq' (sN 128 (pA ?_)))
 refine pu rfl (tG Z1 Z1 (aCn Tryz.underlying27 (by simp))) ?_
 refine fs (AWp.condF Z1 ?_)
 refine AWp.skip (bY (sN 192 (hp (id := 128) rfl rfl (kW lV (l := []) Tryz.underlying27 bAp bCb Z5 Zd Zd Zd (by simp only [go_sem, Nat.reduceBEq]; try rfl) (by kernel_rfl)) ?_)))
 refine pA ?_
 obtain ⟨l2, h1, hm⟩ := bnd hm
 refine hp (id := 130) rfl rfl (aWp lV Tryz.underlying27 Tryz.underlying27 rfl bD5 bDb aNr (by rw [aNr]; decide) bD8 Zd Zd Z1 Z3 Z6 (aNv lV Z1 rfl) rfl Z5 h1) ?_
 refine pA ?_
 refine fs (AWp.ret ?_)
 cases hm
 exact aEz (.inr rfl) Tryz.results69 Z1 Z3 Z6
theorem wA {l r : List bQ} (hm : eJ l = some r) : dA Tryz.prog 69 [.sl (l.flatMap bH) l.length false] 2 (r.flatMap bH) r.length := by
 cases l with
 | nil =>
  have hr : r = [] := by unfold eJ aP8 at hm; simpa using hm.symm
  subst hr
  exact dA.nil_arg (aDs (r := []) rfl) (fun a c => aE2 (r := []) rfl)
 | cons x0 l0 =>
  refine aE0 ?_
  show (aP8 16 [] (x0 :: l0)).bind _ = _
  unfold eJ at hm
  rw [hm]; rfl
theorem aEp {l r : List bQ} (hm : eJ l = some r) : aZ Tryz.prog 69 [.sl (l.flatMap bH) l.length false] (.sl (r.flatMap bH) r.length false) := aZ.of_fresh lV (wA hm)
def nB (aKb : Int) : Option (Bool) :=
 some ((decide (0 ≤ aKb)) && (decide (aKb ≤ 16)))
theorem aDf {aKb : Int} {r : Bool} (hm : nB aKb = some r) : aZ Tryz.prog 120 [vi aKb] (vb r) := by
 refine bd 9 Tryz.func120 ?_
 exact E
def qX (a_0 : aC) (b_1 : aC) : Option (Bool) :=
 some ((decide (a_0.U < b_1.U)) || ((a_0.U == b_1.U) && (decide (a_0.V < b_1.V))))
theorem aDw {a_0 : aC} {b_1 : aC} {r : Bool} (hm : qX a_0 b_1 = some r) : aZ Tryz.prog 121 [.agg [vi a_0.U, vi a_0.V, vi a_0.Tier], .agg [vi b_1.U, vi b_1.V, vi b_1.Tier]] (vb r) := by
 refine bd 24 Tryz.func121 ?_
 exact E
def xT (rec1 : Int → List aC → List aC → Int → Int → Option (Bool)) (n_0 : Int) (l_1 : List aC) (t13 : List aC) (t14 : Int) (t15 : Int) : Option (Bool) :=
 (bif (decide (t15 < t14)) then
  ((idx t13 t15).bind fun x2 =>
  ((fF ((((decide (x2.U < 0)) || (decide (x2.V ≤ x2.U))) || (decide (n_0 ≤ x2.V))) == false) false (nB x2.Tier)).bind fun r4 =>
  (bif ((((decide (x2.U < 0)) || (decide (x2.V ≤ x2.U))) || (decide (n_0 ≤ x2.V))) || (!r4)) then
   some false
  else
   ((fF ((decide (0 < t15)) == true) (aC.mk 0 0 0) (idx l_1 (IntKind.i64.wrap (t15 - 1)))).bind fun x6 =>
   ((fF ((decide (0 < t15)) == true) false (qX x6 x2)).bind fun r8 =>
   (bif ((decide (0 < t15)) && (!r8)) then
    some false
   else
    rec1 n_0 l_1 t13 t14 (IntKind.i64.wrap (t15 + 1))))))))
 else
  some true)
def nC : Nat → Int → List aC → List aC → Int → Int → Option (Bool)
 | 0 => fun _ _ _ _ _ => none
 | n + 1 => xT (nC n)
def gC (n_0 : Int) (l_1 : List aC) : Option (Bool) :=
 (bif ((decide (n_0 < 0)) || (decide (1024 < n_0))) then
  some false
 else
  nC bK n_0 l_1 l_1 (l_1.length : Int) 0)
theorem jX {n_0 : Int} {l_1 : List aC} {r : Bool} (hm : gC n_0 l_1 = some r) : aZ Tryz.prog 89 [vi n_0, vl aT l_1] (vb r) := by
 refine bd 55 Tryz.func89 ?_
 refine W ?_
 refine cm hm (fun hm => ?_) fun hm => ?_
 · exact E
 refine W ?_
 refine lp (fun m s => ∃ n_0 l_1 t13 t14 t15, s = ⟨55, (aF (aF (aF (aF (aF fa 0 (vi n_0)) 1 (vl aT l_1)) 13 (vl aT t13)) 14 (vi t14)) 15 (vi t15)), ⟨aX, 64⟩⟩ ∧ nC m n_0 l_1 t13 t14 t15 = some r) L ?_
 rintro n1 s ⟨n_0, l_1, t13, t14, t15, rfl, hm⟩
 refine W ?_
 refine cm hm (fun hm => ?_) fun hm => ?_
 ·
  obtain ⟨x2, h1, hm⟩ := bnd hm
  obtain ⟨r4, h3, hm⟩ := bnd hm
  refine W ?_
  refine cg (fun hb => aDf (cJ h3 hb)) ?_
  refine W ?_
  refine cm hm (fun hm => ?_) fun hm => ?_
  · exact E
  obtain ⟨x6, h5, hm⟩ := bnd hm
  obtain ⟨r8, h7, hm⟩ := bnd hm
  refine W ?_
  refine cg (fun hb => aDw (cJ h7 hb)) ?_
  refine W ?_
  refine cm hm (fun hm => ?_) fun hm => ?_
  · exact E
  exact L
 exact E
def oW (rec1 : Int → List aC → List aC → Int → Int → Option ((List aC))) (kB : Int) (gV : List aC) (t14 : List aC) (t15 : Int) (t16 : Int) : Option ((List aC)) :=
 rec1 kB gV t14 t15 (IntKind.i64.wrap (t16 + 1))
def vW (rec1 : Int → List aC → List aC → Int → Int → Option ((List aC))) (kB : Int) (gV : List aC) (t14 : List aC) (t15 : Int) (t16 : Int) : Option ((List aC)) :=
 (bif (decide (t16 < t15)) then
  ((idx t14 t16).bind fun x4 =>
  (bif ((decide (1 ≤ x4.Tier)) && (decide (x4.Tier ≤ kB))) then
   ((app gV [x4]).bind fun l6 =>
   oW rec1 kB l6 t14 t15 t16)
  else
   oW rec1 kB gV t14 t15 t16))
 else
  some gV)
def jF : Nat → Int → List aC → List aC → Int → Int → Option ((List aC))
 | 0 => fun _ _ _ _ _ => none
 | n + 1 => vW (jF n)
def gQ (n_0 : Int) (l_1 : List aC) (kB : Int) : Option ((List aC)) :=
 ((gC n_0 l_1).bind fun r2 =>
 (bif (!r2) then
  some []
 else
  jF bK kB [] l_1 (l_1.length : Int) 0))
theorem nL {n_0 : Int} {l_1 : List aC} {kB : Int} {r : (List aC)} (hm : gQ n_0 l_1 kB = some r) : aZ Tryz.prog 91 [vi n_0, vl aT l_1, vi kB] (vl aT r) := by
 refine bd 35 Tryz.func91 ?_
 obtain ⟨r2, h1, hm⟩ := bnd hm
 refine W ?_
 refine cq (jX h1) ?_
 refine W ?_
 refine cm hm (fun hm => ?_) fun hm => ?_
 · exact E
 refine W ?_
 refine lp (fun m s => ∃ kB gV t14 t15 t16, s = ⟨35, (aF (aF (aF (aF (aF fa 2 (vi kB)) 7 (.own 1 0 gV.length)) 14 (vl aT t14)) 15 (vi t15)) 16 (vi t16)), ⟨(upd aX 1 (.cells 3 (gV.flatMap aT) 0)), 64⟩⟩ ∧ jF m kB gV t14 t15 t16 = some r) ?_ ?_
 ·
  refine ⟨_, ?_, kB, [], l_1, (l_1.length : Int), 0, rfl, hm⟩
  refine St.Le.trans (nX 7 900007 3 Z1 Z5) ?_
  exact cn (fun j => bif j == 1 then 900007 else 0)
 rintro n1 s ⟨kB, gV, t14, t15, t16, rfl, hm⟩
 refine W ?_
 refine cm hm (fun hm => ?_) fun hm => ?_
 ·
  refine V ?_
  refine AWp.seqJ (fun s => ∃ kB gV t14 t15 t16, s = ⟨35, (aF (aF (aF (aF (aF fa 2 (vi kB)) 7 (.own 1 0 gV.length)) 14 (vl aT t14)) 15 (vi t15)) 16 (vi t16)), ⟨(upd aX 1 (.cells 3 (gV.flatMap aT) 0)), 64⟩⟩ ∧ oW (jF n1) kB gV t14 t15 t16 = some r) ?_ ?_
  ·
   obtain ⟨x4, h3, hm⟩ := bnd hm
   refine W ?_
   refine cm hm (fun hm => ?_) fun hm => ?_
   ·
    refine W ?_
    refine aL bU [x4] ?_
    obtain ⟨l6, h5, hm⟩ := bnd hm
    refine W ?_
    exact Lr (fun j => bif j == 1 then 259 else 0)
   refine W ?_
   exact Lr (fun j => bif j == 1 then 1 else 0)
  rintro s ⟨kB, gV, t14, t15, t16, rfl, hm⟩
  refine W ?_
  exact Lr (fun j => bif j == 1 then 1 else 0)
 exact E
def aA6 (rec1 : List Int → List Int → Int → Int → Option (Bool)) (p_0 : List Int) (t5 : List Int) (t6 : Int) (t7 : Int) : Option (Bool) :=
 (bif (decide (t7 < t6)) then
  ((idx t5 t7).bind fun x2 =>
  ((fP (p_0.length : Int) x2).bind fun r4 =>
  ((fF (((!r4) || (decide (t7 < x2))) == false) 0 (idx p_0 x2)).bind fun x6 =>
  (bif (((!r4) || (decide (t7 < x2))) || (x6 != x2)) then
   some false
  else
   rec1 p_0 t5 t6 (IntKind.i64.wrap (t7 + 1))))))
 else
  some true)
def qC : Nat → List Int → List Int → Int → Int → Option (Bool)
 | 0 => fun _ _ _ _ => none
 | n + 1 => aA6 (qC n)
def sF (p_0 : List Int) : Option (Bool) :=
 qC bK p_0 p_0 (p_0.length : Int) 0
theorem aI9 {p_0 : List Int} {r : Bool} (hm : sF p_0 = some r) : aZ Tryz.prog 102 [vl (ci .i64) p_0] (vb r) := by
 refine bd 31 Tryz.func102 ?_
 refine W ?_
 refine lp (fun m s => ∃ p_0 t5 t6 t7, s = ⟨31, (aF (aF (aF (aF fa 0 (vl (ci .i64) p_0)) 5 (vl (ci .i64) t5)) 6 (vi t6)) 7 (vi t7)), ⟨aX, 64⟩⟩ ∧ qC m p_0 t5 t6 t7 = some r) L ?_
 rintro n1 s ⟨p_0, t5, t6, t7, rfl, hm⟩
 refine W ?_
 refine cm hm (fun hm => ?_) fun hm => ?_
 ·
  obtain ⟨x2, h1, hm⟩ := bnd hm
  obtain ⟨r4, h3, hm⟩ := bnd hm
  refine W ?_
  refine cq (wK h3) ?_
  obtain ⟨x6, h5, hm⟩ := bnd hm
  refine W ?_
  refine cm hm (fun hm => ?_) fun hm => ?_
  · exact E
  exact L
 exact E
def wP (rec1 : Int → List Int → Int → Int → Option (Int)) (rF : Int) (t9 : List Int) (t10 : Int) (t11 : Int) : Option (Int) :=
 rec1 rF t9 t10 (IntKind.i64.wrap (t11 + 1))
def aC9 (rec1 : Int → List Int → Int → Int → Option (Int)) (rF : Int) (t9 : List Int) (t10 : Int) (t11 : Int) : Option (Int) :=
 (bif (decide (t11 < t10)) then
  ((idx t9 t11).bind fun x4 =>
  (bif (t11 == x4) then
   wP rec1 (IntKind.i64.wrap (rF + 1)) t9 t10 t11
  else
   wP rec1 rF t9 t10 t11))
 else
  some rF)
def oG : Nat → Int → List Int → Int → Int → Option (Int)
 | 0 => fun _ _ _ _ => none
 | n + 1 => aC9 (oG n)
def yZ (p_0 : List Int) : Option (Int) :=
 ((sF p_0).bind fun r2 =>
 (bif (!r2) then
  some 0
 else
  oG bK 0 p_0 (p_0.length : Int) 0))
theorem aTj {p_0 : List Int} {r : Int} (hm : yZ p_0 = some r) : aZ Tryz.prog 122 [vl (ci .i64) p_0] (vi r) := by
 refine bd 23 Tryz.func122 ?_
 obtain ⟨r2, h1, hm⟩ := bnd hm
 refine W ?_
 refine cq (aI9 h1) ?_
 refine W ?_
 refine cm hm (fun hm => ?_) fun hm => ?_
 · exact E
 refine W ?_
 refine lp (fun m s => ∃ rF t9 t10 t11, s = ⟨23, (aF (aF (aF (aF fa 3 (vi rF)) 9 (vl (ci .i64) t9)) 10 (vi t10)) 11 (vi t11)), ⟨aX, 64⟩⟩ ∧ oG m rF t9 t10 t11 = some r) L ?_
 rintro n1 s ⟨rF, t9, t10, t11, rfl, hm⟩
 refine W ?_
 refine cm hm (fun hm => ?_) fun hm => ?_
 ·
  refine V ?_
  refine AWp.seqJ (fun s => ∃ rF t9 t10 t11, s = ⟨23, (aF (aF (aF (aF fa 3 (vi rF)) 9 (vl (ci .i64) t9)) 10 (vi t10)) 11 (vi t11)), ⟨aX, 64⟩⟩ ∧ wP (oG n1) rF t9 t10 t11 = some r) ?_ ?_
  ·
   obtain ⟨x4, h3, hm⟩ := bnd hm
   refine W ?_
   refine cm hm (fun hm => ?_) fun hm => ?_
   · exact L
   exact L
  rintro s ⟨rF, t9, t10, t11, rfl, hm⟩
  exact L
 exact E
def mD (n_0 : Int) (l_1 : List aC) : Option (Bool) :=
 ((oS n_0 l_1).bind fun ⟨r2, r3⟩ =>
 ((fF ((r3 == 0) == true) 0 (yZ r2)).bind fun r5 =>
 some ((r3 == 0) && (r5 == (IntKind.i64.wrap (n_0 - (l_1.length : Int)))))))
theorem zM {n_0 : Int} {l_1 : List aC} {r : Bool} (hm : mD n_0 l_1 = some r) : aZ Tryz.prog 90 [vi n_0, vl aT l_1] (vb r) := by
 refine bd 24 Tryz.func90 ?_
 refine W ?_
 obtain ⟨⟨r2, r3⟩, h1, hm⟩ := bnd hm
 refine cq (aG2 h1) ?_
 obtain ⟨r5, h4, hm⟩ := bnd hm
 refine W ?_
 refine cg (fun hb => aTj (cJ h4 hb)) ?_
 exact E
def uO (rec2 : aG → aN → List aC → Int → Int → Option (Bool)) (g_1 : aG) (c_3 : aN) (t70 : List aC) (t71 : Int) (t72 : Int) : Option (Bool) :=
 (bif (decide (t72 < t71)) then
  ((idx t70 t72).bind fun x6 =>
  (bif (decide (c_3.L < x6.Tier)) then
   some false
  else
   rec2 g_1 c_3 t70 t71 (IntKind.i64.wrap (t72 + 1))))
 else
  ((gQ c_3.N g_1.Edges c_3.L).bind fun r8 =>
  ((mD c_3.N r8).bind fun r10 =>
  some r10)))
def lK : Nat → aG → aN → List aC → Int → Int → Option (Bool)
 | 0 => fun _ _ _ _ _ => none
 | n + 1 => uO (lK n)
def vM (rec1 : aG → aN → List bQ → Int → Int → Option (Bool)) (g_1 : aG) (c_3 : aN) (t48 : List bQ) (t49 : Int) (t50 : Int) : Option (Bool) :=
 (bif (decide (t50 < t49)) then
  ((idx t48 t50).bind fun x2 =>
  (bif ((decide (2305843009213693951 ≤ x2.A)) || (decide (2305843009213693951 ≤ x2.B))) then
   some false
  else
   rec1 g_1 c_3 t48 t49 (IntKind.i64.wrap (t50 + 1))))
 else
  ((gC c_3.N g_1.Edges).bind fun r4 =>
  (bif (!r4) then
   some false
  else
   lK bK g_1 c_3 g_1.Edges (g_1.Edges.length : Int) 0)))
def lI : Nat → aG → aN → List bQ → Int → Int → Option (Bool)
 | 0 => fun _ _ _ _ _ => none
 | n + 1 => vM (lI n)
def dV (g_0 : aG) : Option (Bool) :=
 (bif ((((((decide (g_0.Config.N < 1)) || (decide (1024 < g_0.Config.N))) || (decide (g_0.Config.L < 1))) || (decide (16 < g_0.Config.L))) || (decide (g_0.Config.R < 1))) || (decide (8 < g_0.Config.R))) then
  some false
 else
  (bif ((g_0.Hashes.length : Int) != (IntKind.i64.wrap (g_0.Config.L * g_0.Config.R))) then
   some false
  else
   lI bK g_0 g_0.Config g_0.Hashes (g_0.Hashes.length : Int) 0))
theorem gR {g_0 : aG} {r : Bool} (hm : dV g_0 = some r) : aZ Tryz.prog 49 [.agg [vi g_0.Config.N, vi g_0.Config.L, vi g_0.Config.R, vl bH g_0.Hashes, vl aT g_0.Edges]] (vb r) := by
 refine bd 92 Tryz.func49 ?_
 refine W ?_
 refine cm hm (fun hm => ?_) fun hm => ?_
 · exact E
 refine W ?_
 refine cm hm (fun hm => ?_) fun hm => ?_
 · exact E
 refine W ?_
 refine lp (fun m s => ∃ g_1 c_3 t48 t49 t50, s = ⟨92, (aF (aF (aF (aF (aF fa 1 (.adr 1 0)) 3 (.adr 2 0)) 48 (vl bH t48)) 49 (vi t49)) 50 (vi t50)), ⟨(upd (upd aX 1 (.cells 1 [vi g_1.Config.N, vi g_1.Config.L, vi g_1.Config.R, vl bH g_1.Hashes, vl aT g_1.Edges] 0)) 2 (.cells 1 [vi c_3.N, vi c_3.L, vi c_3.R] 0)), 64⟩⟩ ∧ lI m g_1 c_3 t48 t49 t50 = some r) (Lr (fun j => bif j == 1 then 0 else bif j == 2 then 66 else 0)) ?_
 rintro n1 s ⟨g_1, c_3, t48, t49, t50, rfl, hm⟩
 refine W ?_
 refine cm hm (fun hm => ?_) fun hm => ?_
 ·
  obtain ⟨x2, h1, hm⟩ := bnd hm
  refine W ?_
  refine cm hm (fun hm => ?_) fun hm => ?_
  · exact E
  refine W ?_
  exact Lr (fun j => bif j == 1 then 1 else bif j == 2 then 2 else 0)
 obtain ⟨r4, h3, hm⟩ := bnd hm
 refine W ?_
 refine cq (jX h3) ?_
 refine W ?_
 refine cm hm (fun hm => ?_) fun hm => ?_
 · exact E
 refine W ?_
 refine lp (fun m s => ∃ g_1 c_3 t70 t71 t72, s = ⟨92, (aF (aF (aF (aF (aF fa 1 (.adr 1 0)) 3 (.adr 2 0)) 70 (vl aT t70)) 71 (vi t71)) 72 (vi t72)), ⟨(upd (upd aX 1 (.cells 1 [vi g_1.Config.N, vi g_1.Config.L, vi g_1.Config.R, vl bH g_1.Hashes, vl aT g_1.Edges] 0)) 2 (.cells 1 [vi c_3.N, vi c_3.L, vi c_3.R] 0)), 64⟩⟩ ∧ lK m g_1 c_3 t70 t71 t72 = some r) (Lr (fun j => bif j == 1 then 1 else bif j == 2 then 2 else 0)) ?_
 rintro n2 s ⟨g_1, c_3, t70, t71, t72, rfl, hm⟩
 refine W ?_
 refine cm hm (fun hm => ?_) fun hm => ?_
 ·
  obtain ⟨x6, h5, hm⟩ := bnd hm
  refine W ?_
  refine cm hm (fun hm => ?_) fun hm => ?_
  · exact E
  refine W ?_
  exact Lr (fun j => bif j == 1 then 1 else bif j == 2 then 2 else 0)
 obtain ⟨r8, h7, hm⟩ := bnd hm
 refine W ?_
 refine cq (nL h7) ?_
 obtain ⟨r10, h9, hm⟩ := bnd hm
 refine cq (zM h9) ?_
 exact E
def zT (c_0 : aN) (aFf : List bQ) : Option (aG × Int) :=
 ((eJ aFf).bind fun r2 =>
 ((dV (aG.mk c_0 r2 [])).bind fun r4 =>
 (bif (!r4) then
  some ((aG.mk (aN.mk 0 0 0) [] []), 1)
 else
  some ((aG.mk c_0 r2 []), 0))))
theorem aUm {c_0 : aN} {aFf : List bQ} {r : aG × Int} (hm : zT c_0 aFf = some r) : aZ Tryz.prog 36 [.agg [vi c_0.N, vi c_0.L, vi c_0.R], vl bH aFf] (.tup [.agg [vi r.1.Config.N, vi r.1.Config.L, vi r.1.Config.R, vl bH r.1.Hashes, vl aT r.1.Edges], vi r.2]) := by
 refine bd 16 Tryz.func36 ?_
 obtain ⟨r2, h1, hm⟩ := bnd hm
 refine W ?_
 refine cq (aEp h1) ?_
 refine pu rfl (by simp only [go_sem, Nat.reduceBEq]; exact (by kernel_rfl : cL Tryz.prog 30 [(0, .agg [.v (.int .i64 c_0.N), .v (.int .i64 c_0.L), .v (.int .i64 c_0.R)]), (1, .sl (r2.flatMap bH) r2.length false)] = some (.agg [.v (.int .i64 c_0.N), .v (.int .i64 c_0.L), .v (.int .i64 c_0.R), .sl (r2.flatMap bH) r2.length false, .v (.slice none 0 0)]))) ?_
 obtain ⟨r4, h3, hm⟩ := bnd hm
 refine W ?_
 refine cq (gR h3) ?_
 refine W ?_
 refine cm hm (fun hm => ?_) fun hm => ?_
 ·
  refine W ?_
  refine pu rfl (by simp only [go_sem, Nat.reduceBEq]; exact (by kernel_rfl : cL Tryz.prog 30 [] = some (.agg [.v (.int .i64 0), .v (.int .i64 0), .v (.int .i64 0), .v (.slice none 0 0), .v (.slice none 0 0)]))) ?_
  exact E
 exact E
def oM (g_0 : aG) : Option ((List Int)) :=
 ((dV g_0).bind fun r2 =>
 (bif (!r2) then
  some []
 else
  ((gQ g_0.Config.N g_0.Edges g_0.Config.L).bind fun r4 =>
  ((oS g_0.Config.N r4).bind fun ⟨r6, r7⟩ =>
  some r6))))
theorem aHk {g_0 : aG} {r : (List Int)} (hm : oM g_0 = some r) : aZ Tryz.prog 73 [.agg [vi g_0.Config.N, vi g_0.Config.L, vi g_0.Config.R, vl bH g_0.Hashes, vl aT g_0.Edges]] (vl (ci .i64) r) := by
 refine bd 25 Tryz.func73 ?_
 obtain ⟨r2, h1, hm⟩ := bnd hm
 refine W ?_
 refine cq (gR h1) ?_
 refine W ?_
 refine cm hm (fun hm => ?_) fun hm => ?_
 · exact E
 obtain ⟨r4, h3, hm⟩ := bnd hm
 refine W ?_
 refine cq (nL h3) ?_
 obtain ⟨⟨r6, r7⟩, h5, hm⟩ := bnd hm
 refine cq (aG2 h5) ?_
 exact E
def aC0 (rec1 : Int → Int → List aC → Int → Int → Option (Int × Bool)) (u_1 : Int) (v_2 : Int) (t10 : List aC) (t11 : Int) (t12 : Int) : Option (Int × Bool) :=
 (bif (decide (t12 < t11)) then
  ((idx t10 t12).bind fun x2 =>
  (bif (((x2.U == u_1) && (x2.V == v_2)) || ((x2.U == v_2) && (x2.V == u_1))) then
   some (t12, true)
  else
   rec1 u_1 v_2 t10 t11 (IntKind.i64.wrap (t12 + 1))))
 else
  some (0, false))
def sO : Nat → Int → Int → List aC → Int → Int → Option (Int × Bool)
 | 0 => fun _ _ _ _ _ => none
 | n + 1 => aC0 (sO n)
def lQ (l_0 : List aC) (u_1 : Int) (v_2 : Int) : Option (Int × Bool) :=
 sO bK u_1 v_2 l_0 (l_0.length : Int) 0
theorem vV {l_0 : List aC} {u_1 : Int} {v_2 : Int} {r : Int × Bool} (hm : lQ l_0 u_1 v_2 = some r) : aZ Tryz.prog 74 [vl aT l_0, vi u_1, vi v_2] (.tup [vi r.1, vb r.2]) := by
 refine bd 41 Tryz.func74 ?_
 refine W ?_
 refine lp (fun m s => ∃ u_1 v_2 t10 t11 t12, s = ⟨41, (aF (aF (aF (aF (aF fa 1 (vi u_1)) 2 (vi v_2)) 10 (vl aT t10)) 11 (vi t11)) 12 (vi t12)), ⟨aX, 64⟩⟩ ∧ sO m u_1 v_2 t10 t11 t12 = some r) L ?_
 rintro n1 s ⟨u_1, v_2, t10, t11, t12, rfl, hm⟩
 refine W ?_
 refine cm hm (fun hm => ?_) fun hm => ?_
 ·
  obtain ⟨x2, h1, hm⟩ := bnd hm
  refine W ?_
  refine cm hm (fun hm => ?_) fun hm => ?_
  · exact E
  exact L
 exact E
def tT (rec1 : List Int → Int → List Int → List Int → Int → Int → Option ((List Int))) (p_0 : List Int) (v_1 : Int) (kD : List Int) (t18 : List Int) (t19 : Int) (t20 : Int) : Option ((List Int)) :=
 rec1 p_0 v_1 kD t18 t19 (IntKind.i64.wrap (t20 + 1))
def aAf (rec1 : List Int → Int → List Int → List Int → Int → Int → Option ((List Int))) (p_0 : List Int) (v_1 : Int) (kD : List Int) (t18 : List Int) (t19 : Int) (t20 : Int) : Option ((List Int)) :=
 (bif (decide (t20 < t19)) then
  ((idx t18 t20).bind fun x6 =>
  ((idx p_0 v_1).bind fun x8 =>
  (bif (x6 == x8) then
   ((app kD [t20]).bind fun l10 =>
   tT rec1 p_0 v_1 l10 t18 t19 t20)
  else
   tT rec1 p_0 v_1 kD t18 t19 t20)))
 else
  some kD)
def mM : Nat → List Int → Int → List Int → List Int → Int → Int → Option ((List Int))
 | 0 => fun _ _ _ _ _ _ => none
 | n + 1 => aAf (mM n)
def oL (p_0 : List Int) (v_1 : Int) : Option ((List Int)) :=
 ((sF p_0).bind fun r2 =>
 ((fF ((!r2) == false) false (fP (p_0.length : Int) v_1)).bind fun r4 =>
 (bif ((!r2) || (!r4)) then
  some []
 else
  mM bK p_0 v_1 [] p_0 (p_0.length : Int) 0)))
theorem aBh {p_0 : List Int} {v_1 : Int} {r : (List Int)} (hm : oL p_0 v_1 = some r) : aZ Tryz.prog 78 [vl (ci .i64) p_0, vi v_1] (vl (ci .i64) r) := by
 refine bd 37 Tryz.func78 ?_
 obtain ⟨r2, h1, hm⟩ := bnd hm
 refine W ?_
 refine cq (aI9 h1) ?_
 obtain ⟨r4, h3, hm⟩ := bnd hm
 refine W ?_
 refine cg (fun hb => wK (cJ h3 hb)) ?_
 refine W ?_
 refine cm hm (fun hm => ?_) fun hm => ?_
 · exact E
 refine W ?_
 refine lp (fun m s => ∃ p_0 v_1 kD t18 t19 t20, s = ⟨37, (aF (aF (aF (aF (aF (aF fa 0 (vl (ci .i64) p_0)) 1 (vi v_1)) 5 (.own 1 0 kD.length)) 18 (vl (ci .i64) t18)) 19 (vi t19)) 20 (vi t20)), ⟨(upd aX 1 (.cells 1 (kD.flatMap (ci .i64)) 0)), 64⟩⟩ ∧ mM m p_0 v_1 kD t18 t19 t20 = some r) ?_ ?_
 ·
  refine ⟨_, ?_, p_0, v_1, [], p_0, (p_0.length : Int), 0, rfl, hm⟩
  refine St.Le.trans (nX 5 900005 1 Z1 Z5) ?_
  exact cn (fun j => bif j == 1 then 900005 else 0)
 rintro n1 s ⟨p_0, v_1, kD, t18, t19, t20, rfl, hm⟩
 refine W ?_
 refine cm hm (fun hm => ?_) fun hm => ?_
 ·
  refine V ?_
  refine AWp.seqJ (fun s => ∃ p_0 v_1 kD t18 t19 t20, s = ⟨37, (aF (aF (aF (aF (aF (aF fa 0 (vl (ci .i64) p_0)) 1 (vi v_1)) 5 (.own 1 0 kD.length)) 18 (vl (ci .i64) t18)) 19 (vi t19)) 20 (vi t20)), ⟨(upd aX 1 (.cells 1 (kD.flatMap (ci .i64)) 0)), 64⟩⟩ ∧ tT (mM n1) p_0 v_1 kD t18 t19 t20 = some r) ?_ ?_
  ·
   obtain ⟨x6, h5, hm⟩ := bnd hm
   obtain ⟨x8, h7, hm⟩ := bnd hm
   refine W ?_
   refine cm hm (fun hm => ?_) fun hm => ?_
   ·
    refine W ?_
    refine aL (CFi .i64) [t20] ?_
    obtain ⟨l10, h9, hm⟩ := bnd hm
    refine W ?_
    exact Lr (fun j => bif j == 1 then 259 else 0)
   refine W ?_
   exact Lr (fun j => bif j == 1 then 1 else 0)
  rintro s ⟨p_0, v_1, kD, t18, t19, t20, rfl, hm⟩
  refine W ?_
  exact Lr (fun j => bif j == 1 then 1 else 0)
 exact E
def aN3 (g_0 : aG) : Option ((List Int)) :=
 ((dV g_0).bind fun r2 =>
 (bif (!r2) then
  some []
 else
  ((oS g_0.Config.N g_0.Edges).bind fun ⟨r4, r5⟩ =>
  some r4)))
theorem aYq {g_0 : aG} {r : (List Int)} (hm : aN3 g_0 = some r) : aZ Tryz.prog 109 [.agg [vi g_0.Config.N, vi g_0.Config.L, vi g_0.Config.R, vl bH g_0.Hashes, vl aT g_0.Edges]] (vl (ci .i64) r) := by
 refine bd 18 Tryz.func109 ?_
 obtain ⟨r2, h1, hm⟩ := bnd hm
 refine W ?_
 refine cq (gR h1) ?_
 refine W ?_
 refine cm hm (fun hm => ?_) fun hm => ?_
 · exact E
 refine W ?_
 obtain ⟨⟨r4, r5⟩, h3, hm⟩ := bnd hm
 refine cq (aG2 h3) ?_
 exact E
def aFe (rec1 : List Int → List Int → Int → Int → Option (Bool)) (aGy : List Int) (aIk : List Int) (t12 : Int) (t13 : Int) : Option (Bool) :=
 (bif (decide (t13 < t12)) then
  ((idx aGy t13).bind fun x2 =>
  ((idx aIk t13).bind fun x4 =>
  (bif (x2 != x4) then
   some false
  else
   rec1 aGy aIk t12 (IntKind.i64.wrap (t13 + 1)))))
 else
  some true)
def qI : Nat → List Int → List Int → Int → Int → Option (Bool)
 | 0 => fun _ _ _ _ => none
 | n + 1 => aFe (qI n)
def yA (aGy : List Int) (aIk : List Int) : Option (Bool) :=
 (bif ((aGy.length : Int) != (aIk.length : Int)) then
  some false
 else
  qI bK aGy aIk (aGy.length : Int) 0)
theorem aHc {aGy : List Int} {aIk : List Int} {r : Bool} (hm : yA aGy aIk = some r) : aZ Tryz.prog 108 [vl (ci .i64) aGy, vl (ci .i64) aIk] (vb r) := by
 refine bd 26 Tryz.func108 ?_
 refine W ?_
 refine cm hm (fun hm => ?_) fun hm => ?_
 · exact E
 refine W ?_
 refine lp (fun m s => ∃ aGy aIk t12 t13, s = ⟨26, (aF (aF (aF (aF fa 0 (vl (ci .i64) aGy)) 1 (vl (ci .i64) aIk)) 12 (vi t12)) 13 (vi t13)), ⟨aX, 64⟩⟩ ∧ qI m aGy aIk t12 t13 = some r) L ?_
 rintro n1 s ⟨aGy, aIk, t12, t13, rfl, hm⟩
 refine W ?_
 refine cm hm (fun hm => ?_) fun hm => ?_
 ·
  obtain ⟨x2, h1, hm⟩ := bnd hm
  obtain ⟨x4, h3, hm⟩ := bnd hm
  refine W ?_
  refine cm hm (fun hm => ?_) fun hm => ?_
  · exact E
  exact L
 exact E
def aFw (g_0 : aG) : Option (Bool) :=
 ((dV g_0).bind fun r2 =>
 ((fF (r2 == true) [] (oM g_0)).bind fun r4 =>
 ((fF (r2 == true) [] (aN3 g_0)).bind fun r6 =>
 ((fF (r2 == true) false (yA r4 r6)).bind fun r8 =>
 some (r2 && r8)))))
theorem aOk {g_0 : aG} {r : Bool} (hm : aFw g_0 = some r) : aZ Tryz.prog 81 [.agg [vi g_0.Config.N, vi g_0.Config.L, vi g_0.Config.R, vl bH g_0.Hashes, vl aT g_0.Edges]] (vb r) := by
 refine bd 12 Tryz.func81 ?_
 obtain ⟨r2, h1, hm⟩ := bnd hm
 refine W ?_
 refine cq (gR h1) ?_
 obtain ⟨r4, h3, hm⟩ := bnd hm
 refine W ?_
 refine cg (fun hb => aHk (cJ h3 hb)) ?_
 obtain ⟨r6, h5, hm⟩ := bnd hm
 refine W ?_
 refine cg (fun hb => aYq (cJ h5 hb)) ?_
 obtain ⟨r8, h7, hm⟩ := bnd hm
 refine cg (fun hb => aHc (cJ h7 hb)) ?_
 exact E
def eG (n_0 : Int) (v_1 : Int) : Option (Bool) :=
 some ((decide (0 ≤ v_1)) && (decide (v_1 < n_0)))
theorem jB {n_0 : Int} {v_1 : Int} {r : Bool} (hm : eG n_0 v_1 = some r) : aZ Tryz.prog 135 [vi n_0, vi v_1] (vb r) := by
 refine bd 12 Tryz.func135 ?_
 exact E
def qE (rec1 : Int → List Int → List aC → Int → Int → Option ((List Int))) (v_2 : Int) (mS : List Int) (t20 : List aC) (t21 : Int) (t22 : Int) : Option ((List Int)) :=
 rec1 v_2 mS t20 t21 (IntKind.i64.wrap (t22 + 1))
def aAj (rec1 : Int → List Int → List aC → Int → Int → Option ((List Int))) (v_2 : Int) (mS : List Int) (t20 : List aC) (t21 : Int) (t22 : Int) : Option ((List Int)) :=
 (bif (decide (t22 < t21)) then
  ((idx t20 t22).bind fun x6 =>
  (bif (v_2 == x6.U) then
   ((app mS [x6.V]).bind fun l8 =>
   qE rec1 v_2 l8 t20 t21 t22)
  else
   (bif (v_2 == x6.V) then
    ((app mS [x6.U]).bind fun l10 =>
    qE rec1 v_2 l10 t20 t21 t22)
   else
    qE rec1 v_2 mS t20 t21 t22)))
 else
  some mS)
def mO : Nat → Int → List Int → List aC → Int → Int → Option ((List Int))
 | 0 => fun _ _ _ _ _ => none
 | n + 1 => aAj (mO n)
def aB5 (n_0 : Int) (l_1 : List aC) (v_2 : Int) : Option ((List Int)) :=
 ((gC n_0 l_1).bind fun r2 =>
 ((fF ((!r2) == false) false (eG n_0 v_2)).bind fun r4 =>
 (bif ((!r2) || (!r4)) then
  some []
 else
  mO bK v_2 [] l_1 (l_1.length : Int) 0)))
theorem aQs {n_0 : Int} {l_1 : List aC} {v_2 : Int} {r : (List Int)} (hm : aB5 n_0 l_1 v_2 = some r) : aZ Tryz.prog 101 [vi n_0, vl aT l_1, vi v_2] (vl (ci .i64) r) := by
 refine bd 47 Tryz.func101 ?_
 obtain ⟨r2, h1, hm⟩ := bnd hm
 refine W ?_
 refine cq (jX h1) ?_
 obtain ⟨r4, h3, hm⟩ := bnd hm
 refine W ?_
 refine cg (fun hb => jB (cJ h3 hb)) ?_
 refine W ?_
 refine cm hm (fun hm => ?_) fun hm => ?_
 · exact E
 refine W ?_
 refine lp (fun m s => ∃ v_2 mS t20 t21 t22, s = ⟨47, (aF (aF (aF (aF (aF fa 2 (vi v_2)) 7 (.own 1 0 mS.length)) 20 (vl aT t20)) 21 (vi t21)) 22 (vi t22)), ⟨(upd aX 1 (.cells 1 (mS.flatMap (ci .i64)) 0)), 64⟩⟩ ∧ mO m v_2 mS t20 t21 t22 = some r) ?_ ?_
 ·
  refine ⟨_, ?_, v_2, [], l_1, (l_1.length : Int), 0, rfl, hm⟩
  refine St.Le.trans (nX 7 900007 1 Z1 Z5) ?_
  exact cn (fun j => bif j == 1 then 900007 else 0)
 rintro n1 s ⟨v_2, mS, t20, t21, t22, rfl, hm⟩
 refine W ?_
 refine cm hm (fun hm => ?_) fun hm => ?_
 ·
  refine V ?_
  refine AWp.seqJ (fun s => ∃ v_2 mS t20 t21 t22, s = ⟨47, (aF (aF (aF (aF (aF fa 2 (vi v_2)) 7 (.own 1 0 mS.length)) 20 (vl aT t20)) 21 (vi t21)) 22 (vi t22)), ⟨(upd aX 1 (.cells 1 (mS.flatMap (ci .i64)) 0)), 64⟩⟩ ∧ qE (mO n1) v_2 mS t20 t21 t22 = some r) ?_ ?_
  ·
   obtain ⟨x6, h5, hm⟩ := bnd hm
   refine W ?_
   refine cm hm (fun hm => ?_) fun hm => ?_
   ·
    refine W ?_
    refine aL (CFi .i64) [x6.V] ?_
    obtain ⟨l8, h7, hm⟩ := bnd hm
    refine W ?_
    exact Lr (fun j => bif j == 1 then 324 else 0)
   refine W ?_
   refine cm hm (fun hm => ?_) fun hm => ?_
   ·
    refine W ?_
    refine aL (CFi .i64) [x6.U] ?_
    obtain ⟨l10, h9, hm⟩ := bnd hm
    refine W ?_
    exact Lr (fun j => bif j == 1 then 388 else 0)
   refine W ?_
   exact Lr (fun j => bif j == 1 then 1 else 0)
  rintro s ⟨v_2, mS, t20, t21, t22, rfl, hm⟩
  refine W ?_
  exact Lr (fun j => bif j == 1 then 1 else 0)
 exact E
def sM (g_0 : aG) (u_1 : Int) (v_2 : Int) : Option (Bool) :=
 ((dV g_0).bind fun r2 =>
 some ((((r2 && (decide (0 ≤ u_1))) && (decide (u_1 < g_0.Config.N))) && (decide (0 ≤ v_2))) && (decide (v_2 < g_0.Config.N))))
theorem aHy {g_0 : aG} {u_1 : Int} {v_2 : Int} {r : Bool} (hm : sM g_0 u_1 v_2 = some r) : aZ Tryz.prog 115 [.agg [vi g_0.Config.N, vi g_0.Config.L, vi g_0.Config.R, vl bH g_0.Hashes, vl aT g_0.Edges], vi u_1, vi v_2] (vb r) := by
 refine bd 31 Tryz.func115 ?_
 obtain ⟨r2, h1, hm⟩ := bnd hm
 refine W ?_
 refine cq (gR h1) ?_
 exact E
def iO (s_0 : List aC) : Option ((List aC)) :=
 some s_0
def kX (n_1 : Int) : Option ((List aC)) :=
 (bif (decide (0 < (IntKind.i64.wrap (n_1 - (IntKind.i64.wrap (((0 : Nat) : Int) - ((0 : Nat) : Int))))))) then
  ((chk (((0 : Nat) : Int) == 0)).bind fun _ =>
  ((chk (decide (0 < (IntKind.i64.wrap (n_1 - (IntKind.i64.wrap (((0 : Nat) : Int) - ((0 : Nat) : Int)))))) && decide ((IntKind.i64.wrap (n_1 - (IntKind.i64.wrap (((0 : Nat) : Int) - ((0 : Nat) : Int))))) ≤ 4294967296))).bind fun _ =>
  ((chk (((0 : Nat) : Int) == 0)).bind fun _ =>
  iO [])))
 else
  iO [])
def jK (n_1 : Int) : Option ((List aC)) :=
 (bif (decide (n_1 < 0)) then
  none
 else
  kX n_1)
theorem aGi {n_1 : Int} {r : (List aC)} (hm : jK n_1 = some r) : dA Tryz.prog 167 [.v (.slice none 0 0), .v (.int .i64 n_1)] 3 (r.flatMap aT) r.length := by
 refine dA.of_body Tryz.func167 rfl (bU.fmdat r) ?_
 simp only [Tryz.ntmps167, List.length_cons, List.length_nil, Nat.reduceAdd, Nat.reduceSub, eR]
 unfold jK at hm
 refine sN 64 (pA ?_)
 refine fs (AWp.seqJ (fun s => ∃ (n_1 : Int), s = (⟨27, (aF (aF (fun _ => AV.any) 0 (.v (.slice none 0 0))) 1 (.v (.int .i64 n_1))), ⟨aX, 64⟩⟩ : St) ∧ kX n_1 = some r) ?_ ?_)
 ·
  refine sN 128 ?_
  iterate 2 refine pA ?_
  refine fs (AWp.condM hm Z1 (fun _ hm => ?_) (fun _ hm => ?_))
  ·
   cases hm
  ·
   refine AWp.skip (aWz ?_)
   refine ⟨_, ?_, n_1, rfl, hm⟩
   exact eN id (wV (wV fY)) aO3
 ·
  rintro s ⟨n_1, rfl, hm⟩
  unfold kX at hm
  refine AWp.seqJ (fun s => ∃ (s_0 : List aC), s = (⟨27, (aF (fun _ => AV.any) 0 (.own 1 0 s_0.length)), ⟨(upd aX 1 (.cells 3 (s_0.flatMap aT) 0)), 64⟩⟩ : St) ∧ iO s_0 = some r) ?_ ?_
  ·
   refine sN 128 ?_
   iterate 2 refine pA ?_
   refine pu rfl (aX4 Tryz.underlying28 Z1) ?_
   iterate 5 refine pA ?_
   refine fs (sN 192 ?_)
   iterate 2 refine pA ?_
   refine fs (AWp.condM hm Z1 (fun _ hm => ?_) (fun _ hm => ?_))
   ·
    refine AWp.reg 64 (N' := 256) rfl ?_
    iterate 2 refine pA ?_
    refine pu rfl (aX4 Tryz.underlying28 Z1) ?_
    obtain ⟨_, h3, hm⟩ := bnd hm
    refine pu rfl (bCj Tryz.underlying28 aC6 Z1 Z1 (eq_of_beq (mY h3))) ?_
    refine pA ?_
    obtain ⟨_, h4, hm⟩ := bnd hm
    refine hp (id := 197) rfl rfl (bFi Tryz.underlying28 Tryz.underlying3 rfl aWu aW7 (by rw [aI2]; decide) (by rw [aI2]; decide) aWn Zd Zd Z1 Z1 Z5 h4) ?_
    iterate 2 refine pA ?_
    obtain ⟨_, h8, hm⟩ := bnd hm
    refine pu rfl (bFq Tryz.underlying28 aC6 Z1 Z3 Z1 (eq_of_beq (mY h8))) ?_
    refine pA ?_
    refine aV.fin (aWz ?_)
    refine ⟨_, ?_, [], rfl, hm⟩
    refine St.Le.trans (bGf 197 Z3) ?_
    exact eN (fun j => bif j == 1 then 197 else 0) (wO fY) (hW (eU bU iT))
   ·
    refine AWp.skip (aWz ?_)
    refine ⟨_, ?_, [], rfl, hm⟩
    refine St.Le.trans (nX 0 900000 3 Z1 Z5) ?_
    exact eN (fun j => bif j == 1 then 900000 else 0) (wO fY) (hW (eU bU iT))
  ·
   rintro s ⟨s_0, rfl, hm⟩
   unfold iO at hm
   refine sN 128 ?_
   iterate 2 refine pA ?_
   refine fs (AWp.ret ?_)
   cases hm
   exact aEz (.inr rfl) Tryz.results167 Z1 Z3 Z6
def mR (rec1 : List (List aC) → Int → List (List aC) → Int → Int → Option ((List aC))) (eF : List (List aC)) (rE : Int) (t9 : List (List aC)) (t10 : Int) (t11 : Int) : Option ((List aC)) :=
 rec1 eF rE t9 t10 (IntKind.i64.wrap (t11 + 1))
def mP (rec2 : List aC → List (List aC) → Int → Int → Option ((List aC))) (oC : List aC) (t25 : List (List aC)) (t26 : Int) (t27 : Int) : Option ((List aC)) :=
 (bif (decide (t27 < t26)) then
  ((idx t25 t27).bind fun x6 =>
  ((app oC x6).bind fun l8 =>
  rec2 l8 t25 t26 (IntKind.i64.wrap (t27 + 1))))
 else
  some oC)
def gL : Nat → List aC → List (List aC) → Int → Int → Option ((List aC))
 | 0 => fun _ _ _ _ => none
 | n + 1 => mP (gL n)
def mQ (rec1 : List (List aC) → Int → List (List aC) → Int → Int → Option ((List aC))) (eF : List (List aC)) (rE : Int) (t9 : List (List aC)) (t10 : Int) (t11 : Int) : Option ((List aC)) :=
 (bif (decide (t11 < t10)) then
  ((idx t9 t11).bind fun x2 =>
  (bif (decide ((IntKind.i64.wrap (rE + (x2.length : Int))) < 0)) then
   none
  else
   mR rec1 eF (IntKind.i64.wrap (rE + (x2.length : Int))) t9 t10 t11))
 else
  ((jK rE).bind fun r4 =>
  gL bK r4 eF (eF.length : Int) 0))
def fL : Nat → List (List aC) → Int → List (List aC) → Int → Int → Option ((List aC))
 | 0 => fun _ _ _ _ _ => none
 | n + 1 => mQ (fL n)
def gY (eF : List (List aC)) : Option ((List aC)) :=
 fL bK eF 0 eF (eF.length : Int) 0
theorem vE {eF : List (List aC)} {r : (List aC)} (hm : gY eF = some r) : aZ Tryz.prog 140 [.sl (eF.flatMap (csl aT)) eF.length false] (vl aT r) := by
 refine bd 36 Tryz.func140 ?_
 refine W ?_
 refine lp (fun m s => ∃ eF rE t9 t10 t11, s = ⟨36, (aF (aF (aF (aF (aF fa 0 (.sl (eF.flatMap (csl aT)) eF.length false)) 3 (vi rE)) 9 (.sl (t9.flatMap (csl aT)) t9.length false)) 10 (vi t10)) 11 (vi t11)), ⟨aX, 64⟩⟩ ∧ fL m eF rE t9 t10 t11 = some r) L ?_
 rintro n1 s ⟨eF, rE, t9, t10, t11, rfl, hm⟩
 refine W ?_
 refine cm hm (fun hm => ?_) fun hm => ?_
 ·
  refine V ?_
  refine AWp.seqJ (fun s => ∃ eF rE t9 t10 t11, s = ⟨36, (aF (aF (aF (aF (aF fa 0 (.sl (eF.flatMap (csl aT)) eF.length false)) 3 (vi rE)) 9 (.sl (t9.flatMap (csl aT)) t9.length false)) 10 (vi t10)) 11 (vi t11)), ⟨aX, 64⟩⟩ ∧ mR (fL n1) eF rE t9 t10 t11 = some r) ?_ ?_
  ·
   obtain ⟨x2, h1, hm⟩ := bnd hm
   refine W ?_
   refine cm hm (fun hm => ?_) fun hm => ?_
   · cases hm
   exact L
  rintro s ⟨eF, rE, t9, t10, t11, rfl, hm⟩
  exact L
 obtain ⟨r4, h3, hm⟩ := bnd hm
 refine W ?_
 refine aV.callF (id := 129) Zd Z1 bNg (fun H => (cV (cV .nil))) bU Z5 (aGi h3) ?_
 refine W ?_
 refine lp (fun m s => ∃ oC t25 t26 t27, s = ⟨36, (aF (aF (aF (aF fa 6 (.own 1 0 oC.length)) 25 (.sl (t25.flatMap (csl aT)) t25.length false)) 26 (vi t26)) 27 (vi t27)), ⟨(upd aX 1 (.cells 3 (oC.flatMap aT) 0)), 64⟩⟩ ∧ gL m oC t25 t26 t27 = some r) (Lr (fun j => bif j == 1 then 129 else 0)) ?_
 rintro n2 s ⟨oC, t25, t26, t27, rfl, hm⟩
 refine W ?_
 refine cm hm (fun hm => ?_) fun hm => ?_
 ·
  obtain ⟨x6, h5, hm⟩ := bnd hm
  obtain ⟨l8, h7, hm⟩ := bnd hm
  refine W ?_
  exact Lr (fun j => bif j == 1 then 194 else 0)
 exact E
def aB6 (rec1 : List aC → aC → Int → Option ((List aC) × Int)) (l_1 : List aC) (dH : aC) (iG : Int) : Option ((List aC) × Int) :=
 ((fF ((decide (iG < (l_1.length : Int))) == true) (aC.mk 0 0 0) (idx l_1 iG)).bind fun x11 =>
 ((fF ((decide (iG < (l_1.length : Int))) == true) false (qX x11 dH)).bind fun r13 =>
 (bif ((decide (iG < (l_1.length : Int))) && r13) then
  rec1 l_1 dH (IntKind.i64.wrap (iG + 1))
 else
  ((slc l_1 0 iG).bind fun l15 =>
  ((slc l_1 iG (l_1.length : Int)).bind fun l17 =>
  ((gY [l15, [dH], l17]).bind fun r19 =>
  some (r19, 0)))))))
def sQ : Nat → List aC → aC → Int → Option ((List aC) × Int)
 | 0 => fun _ _ _ => none
 | n + 1 => aB6 (sQ n)
def aAn (n_0 : Int) (l_1 : List aC) (u_2 : Int) (v_3 : Int) : Option ((List aC) × Int) :=
 ((gC n_0 l_1).bind fun r2 =>
 ((fF ((!r2) == false) false (eG n_0 u_2)).bind fun r4 =>
 ((fF (((!r2) || (!r4)) == false) false (eG n_0 v_3)).bind fun r6 =>
 (bif (((!r2) || (!r4)) || (!r6)) then
  some (l_1, 1)
 else
  (bif (u_2 == v_3) then
   some (l_1, 8)
  else
   ((lQ l_1 u_2 v_3).bind fun ⟨r8, r9⟩ =>
   (bif r9 then
    some (l_1, 4)
   else
    sQ bK l_1 (aC.mk (if v_3 < u_2 then v_3 else u_2) (if u_2 < v_3 then v_3 else u_2) 0) 0)))))))
theorem aU8 {n_0 : Int} {l_1 : List aC} {u_2 : Int} {v_3 : Int} {r : (List aC) × Int} (hm : aAn n_0 l_1 u_2 v_3 = some r) : aZ Tryz.prog 116 [vi n_0, vl aT l_1, vi u_2, vi v_3] (.tup [vl aT r.1, vi r.2]) := by
 refine bd 75 Tryz.func116 ?_
 obtain ⟨r2, h1, hm⟩ := bnd hm
 refine W ?_
 refine cq (jX h1) ?_
 obtain ⟨r4, h3, hm⟩ := bnd hm
 refine W ?_
 refine cg (fun hb => jB (cJ h3 hb)) ?_
 obtain ⟨r6, h5, hm⟩ := bnd hm
 refine W ?_
 refine cg (fun hb => jB (cJ h5 hb)) ?_
 refine W ?_
 refine cm hm (fun hm => ?_) fun hm => ?_
 · exact E
 refine W ?_
 refine cm hm (fun hm => ?_) fun hm => ?_
 · exact E
 refine W ?_
 obtain ⟨⟨r8, r9⟩, h7, hm⟩ := bnd hm
 refine cq (vV h7) ?_
 refine W ?_
 refine cm hm (fun hm => ?_) fun hm => ?_
 · exact E
 refine W ?_
 refine pu rfl (by simp only [go_sem, Nat.reduceBEq]; exact (by kernel_rfl : cL Tryz.prog 102 [(0, .v (.int .i64 (if v_3 < u_2 then v_3 else u_2))), (1, .v (.int .i64 (if u_2 < v_3 then v_3 else u_2)))] = some (.agg [.v (.int .i64 (if v_3 < u_2 then v_3 else u_2)), .v (.int .i64 (if u_2 < v_3 then v_3 else u_2)), .v (.int .i64 0)]))) ?_
 refine W ?_
 refine lp (fun m s => ∃ l_1 dH iG, s = ⟨75, (aF (aF (aF fa 1 (vl aT l_1)) 12 (.adr 1 0)) 13 (vi iG)), ⟨(upd aX 1 (.cells 1 [vi dH.U, vi dH.V, vi dH.Tier] 0)), 64⟩⟩ ∧ sQ m l_1 dH iG = some r) (Lr (fun j => bif j == 1 then 327 else 0)) ?_
 rintro n1 s ⟨l_1, dH, iG, rfl, hm⟩
 obtain ⟨x11, h10, hm⟩ := bnd hm
 obtain ⟨r13, h12, hm⟩ := bnd hm
 refine W ?_
 refine cg (fun hb => aDw (cJ h12 hb)) ?_
 refine W ?_
 refine cm hm (fun hm => ?_) fun hm => ?_
 ·
  refine W ?_
  exact Lr (fun j => bif j == 1 then 1 else 0)
 obtain ⟨l15, h14, hm⟩ := bnd hm
 iterate 10 refine S1 ?_
 refine aV.pop Zd (wL (ps := [(0, .agg [.v (.int .i64 dH.U), .v (.int .i64 dH.V), .v (.int .i64 dH.Tier)])]) (by simp only [go_sem, Nat.reduceBEq]; try rfl) (qD (.agg _ (bU.dat dH)) aJ7)) (aFt bU (l := [dH]) (xs := [.v (.int .i64 dH.U), .v (.int .i64 dH.V), .v (.int .i64 dH.Tier)]) Tryz.underlying28 aC6 aMt Zd Zd Zd (ps := [(0, .agg [.v (.int .i64 dH.U), .v (.int .i64 dH.V), .v (.int .i64 dH.Tier)])]) (by simp only [go_sem, Nat.reduceBEq]; try rfl) (by kernel_rfl) (fun H => (.cons (.data _ (.v _)) (.cons (.data _ (.v _)) (.cons (.data _ (.v _)) .nil))))) rfl ?_
 obtain ⟨l17, h16, hm⟩ := bnd hm
 iterate 3 refine S1 ?_
 refine aV.pop Zd (wL (ps := [(0, .sl (l15.flatMap aT) l15.length (false && (iG : Int).toNat == l_1.length)), (1, .sl (([dH]).flatMap aT) ([dH]).length false), (2, .sl (l17.flatMap aT) l17.length (false && ((l_1.length : Int) : Int).toNat == l_1.length))]) (by simp only [go_sem, Nat.reduceBEq]; try rfl) (qD (bU.sl _ _ _) (qD (bU.sl _ _ _) (qD (bU.sl _ _ _) aJ7)))) (aFt (CFl bU) (l := [l15, [dH], l17]) (xs := [.sl (l15.flatMap aT) l15.length (false && (iG : Int).toNat == l_1.length), .sl (([dH]).flatMap aT) ([dH]).length false, .sl (l17.flatMap aT) l17.length (false && ((l_1.length : Int) : Int).toNat == l_1.length)]) Tryz.underlying225 bI1 bIx Zd Zd Zd (ps := [(0, .sl (l15.flatMap aT) l15.length (false && (iG : Int).toNat == l_1.length)), (1, .sl (([dH]).flatMap aT) ([dH]).length false), (2, .sl (l17.flatMap aT) l17.length (false && ((l_1.length : Int) : Int).toNat == l_1.length))]) (by simp only [go_sem, Nat.reduceBEq]; try rfl) (by kernel_rfl) (fun H => (.cons (tdf rfl (bU.sl _ _ _)) (.cons (.data _ (bU.sl _ _ _)) (.cons (tdf rfl (bU.sl _ _ _)) .nil))))) rfl ?_
 obtain ⟨r19, h18, hm⟩ := bnd hm
 refine cq (vE h18) ?_
 exact E
def rQ (n_0 : Int) (l_1 : List aC) (u_2 : Int) (v_3 : Int) : Option ((List aC) × Int) :=
 ((gC n_0 l_1).bind fun r2 =>
 ((fF ((!r2) == false) false (eG n_0 u_2)).bind fun r4 =>
 ((fF (((!r2) || (!r4)) == false) false (eG n_0 v_3)).bind fun r6 =>
 (bif (((!r2) || (!r4)) || (!r6)) then
  some (l_1, 1)
 else
  ((lQ l_1 u_2 v_3).bind fun ⟨r8, r9⟩ =>
  (bif (!r9) then
   some (l_1, 9)
  else
   ((slc l_1 0 r8).bind fun l11 =>
   ((slc l_1 (IntKind.i64.wrap (r8 + 1)) (l_1.length : Int)).bind fun l13 =>
   ((gY [l11, l13]).bind fun r15 =>
   some (r15, 0))))))))))
theorem aLw {n_0 : Int} {l_1 : List aC} {u_2 : Int} {v_3 : Int} {r : (List aC) × Int} (hm : rQ n_0 l_1 u_2 v_3 = some r) : aZ Tryz.prog 118 [vi n_0, vl aT l_1, vi u_2, vi v_3] (.tup [vl aT r.1, vi r.2]) := by
 refine bd 48 Tryz.func118 ?_
 obtain ⟨r2, h1, hm⟩ := bnd hm
 refine W ?_
 refine cq (jX h1) ?_
 obtain ⟨r4, h3, hm⟩ := bnd hm
 refine W ?_
 refine cg (fun hb => jB (cJ h3 hb)) ?_
 obtain ⟨r6, h5, hm⟩ := bnd hm
 refine W ?_
 refine cg (fun hb => jB (cJ h5 hb)) ?_
 refine W ?_
 refine cm hm (fun hm => ?_) fun hm => ?_
 · exact E
 refine W ?_
 obtain ⟨⟨r8, r9⟩, h7, hm⟩ := bnd hm
 refine cq (vV h7) ?_
 refine W ?_
 refine cm hm (fun hm => ?_) fun hm => ?_
 · exact E
 obtain ⟨l11, h10, hm⟩ := bnd hm
 obtain ⟨l13, h12, hm⟩ := bnd hm
 iterate 10 refine S1 ?_
 refine aV.pop Zd (wL (ps := [(0, .sl (l11.flatMap aT) l11.length (false && (r8 : Int).toNat == l_1.length)), (1, .sl (l13.flatMap aT) l13.length (false && ((l_1.length : Int) : Int).toNat == l_1.length))]) (by simp only [go_sem, Nat.reduceBEq]; try rfl) (qD (bU.sl _ _ _) (qD (bU.sl _ _ _) aJ7))) (aFt (CFl bU) (l := [l11, l13]) (xs := [.sl (l11.flatMap aT) l11.length (false && (r8 : Int).toNat == l_1.length), .sl (l13.flatMap aT) l13.length (false && ((l_1.length : Int) : Int).toNat == l_1.length)]) Tryz.underlying225 bI1 bIx Zd Zd Zd (ps := [(0, .sl (l11.flatMap aT) l11.length (false && (r8 : Int).toNat == l_1.length)), (1, .sl (l13.flatMap aT) l13.length (false && ((l_1.length : Int) : Int).toNat == l_1.length))]) (by simp only [go_sem, Nat.reduceBEq]; try rfl) (by kernel_rfl) (fun H => (.cons (tdf rfl (bU.sl _ _ _)) (.cons (tdf rfl (bU.sl _ _ _)) .nil)))) rfl ?_
 obtain ⟨r15, h14, hm⟩ := bnd hm
 refine cq (vE h14) ?_
 exact E
def aAg (n_0 : Int) : Option (Int) :=
 some (Int.tmod n_0 2305843009213693951)
theorem aJ9 {n_0 : Int} {r : Int} (hm : aAg n_0 = some r) : aZ Tryz.prog 164 [vu n_0] (vu r) := by
 refine bd 5 Tryz.func164 ?_
 exact E
def aKl (a_0 : Int) (b_1 : Int) : Option (Int) :=
 ((aAg a_0).bind fun r2 =>
 ((aAg b_1).bind fun r4 =>
 some (Int.tmod (IntKind.u64.wrap (r2 + r4)) 2305843009213693951)))
theorem bDl {a_0 : Int} {b_1 : Int} {r : Int} (hm : aKl a_0 b_1 = some r) : aZ Tryz.prog 138 [vu a_0, vu b_1] (vu r) := by
 refine bd 11 Tryz.func138 ?_
 obtain ⟨r2, h1, hm⟩ := bnd hm
 refine W ?_
 refine cq (aJ9 h1) ?_
 obtain ⟨r4, h3, hm⟩ := bnd hm
 refine W ?_
 refine cq (aJ9 h3) ?_
 exact E
def wC (x_0 : Int) (y_1 : Int) : Option (Int × Int) :=
 some ((IntKind.u64.wrap ((IntKind.u64.wrap ((IntKind.u64.wrap ((shr .u64 x_0 32) * (shr .u64 y_1 32))) + (shr .u64 (IntKind.u64.wrap ((IntKind.u64.wrap ((shr .u64 x_0 32) * (aCi .u64 y_1 4294967295))) + (shr .u64 (IntKind.u64.wrap ((aCi .u64 x_0 4294967295) * (aCi .u64 y_1 4294967295))) 32))) 32))) + (shr .u64 (IntKind.u64.wrap ((aCi .u64 (IntKind.u64.wrap ((IntKind.u64.wrap ((shr .u64 x_0 32) * (aCi .u64 y_1 4294967295))) + (shr .u64 (IntKind.u64.wrap ((aCi .u64 x_0 4294967295) * (aCi .u64 y_1 4294967295))) 32))) 4294967295) + (IntKind.u64.wrap ((aCi .u64 x_0 4294967295) * (shr .u64 y_1 32))))) 32))), (IntKind.u64.wrap (x_0 * y_1)))
theorem aS7 {x_0 : Int} {y_1 : Int} {r : Int × Int} (hm : wC x_0 y_1 = some r) : aZ Tryz.prog 165 [vu x_0, vu y_1] (.tup [vu r.1, vu r.2]) := by
 refine bd 51 Tryz.func165 ?_
 exact E
def yR (x_0 : Int) (n_2 : Int) : Option (Int) :=
 ((bG9 bDj (IntKind.u8.wrap x_0)).bind fun b2 =>
 some (IntKind.i64.wrap (n_2 + (IntKind.i64.wrap b2))))
def zB (x_0 : Int) (n_2 : Int) : Option (Int) :=
 (bif (decide (256 ≤ x_0)) then
  yR (shr .u64 x_0 8) (IntKind.i64.wrap (n_2 + 8))
 else
  yR x_0 n_2)
def aA7 (x_0 : Int) (n_2 : Int) : Option (Int) :=
 (bif (decide (65536 ≤ x_0)) then
  zB (shr .u64 x_0 16) (IntKind.i64.wrap (n_2 + 16))
 else
  zB x_0 n_2)
def aAz (x_0 : Int) : Option (Int) :=
 (bif (decide (4294967296 ≤ x_0)) then
  aA7 (shr .u64 x_0 32) 32
 else
  aA7 x_0 0)
theorem aIf {x_0 : Int} {r : Int} (hm : aAz x_0 = some r) : aZ Tryz.prog 155 [vu x_0] (vi r) := by
 refine bd 25 Tryz.func155 ?_
 refine V ?_
 refine AWp.seqJ (fun s => ∃ x_0 n_2, s = ⟨25, (aF (aF fa 0 (vu x_0)) 2 (vi n_2)), ⟨aX, 64⟩⟩ ∧ aA7 x_0 n_2 = some r) ?_ ?_
 ·
  refine W ?_
  refine cm hm (fun hm => ?_) fun hm => ?_
  · exact L
  exact L
 rintro s ⟨x_0, n_2, rfl, hm⟩
 refine AWp.seqJ (fun s => ∃ x_0 n_2, s = ⟨25, (aF (aF fa 0 (vu x_0)) 2 (vi n_2)), ⟨aX, 64⟩⟩ ∧ zB x_0 n_2 = some r) ?_ ?_
 ·
  refine W ?_
  refine cm hm (fun hm => ?_) fun hm => ?_
  · exact L
  exact L
 rintro s ⟨x_0, n_2, rfl, hm⟩
 refine AWp.seqJ (fun s => ∃ x_0 n_2, s = ⟨25, (aF (aF fa 0 (vu x_0)) 2 (vi n_2)), ⟨aX, 64⟩⟩ ∧ yR x_0 n_2 = some r) ?_ ?_
 ·
  refine W ?_
  refine cm hm (fun hm => ?_) fun hm => ?_
  · exact L
  exact L
 rintro s ⟨x_0, n_2, rfl, hm⟩
 obtain ⟨b2, h1, hm⟩ := bnd hm
 exact E
def lH (x_0 : Int) : Option (Int) :=
 ((aAz x_0).bind fun r2 =>
 some (IntKind.i64.wrap (64 - r2)))
theorem aCd {x_0 : Int} {r : Int} (hm : lH x_0 = some r) : aZ Tryz.prog 196 [vu x_0] (vi r) := by
 refine bd 6 Tryz.func196 ?_
 obtain ⟨r2, h1, hm⟩ := bnd hm
 refine W ?_
 refine cq (aIf h1) ?_
 exact E
def qG (y_2 : Int) (s_8 : Int) (fQ : Int) (gM : Int) (mN : Int) (tM : Int) : Option (Int × Int) :=
 ((chk (decide (0 ≤ s_8))).bind fun _ =>
 some ((IntKind.u64.wrap ((IntKind.u64.wrap (gM * 4294967296)) + tM)), (shr .u64 (IntKind.u64.wrap ((IntKind.u64.wrap ((IntKind.u64.wrap (mN * 4294967296)) + fQ)) - (IntKind.u64.wrap (tM * y_2)))) s_8)))
def zI (rec1 : Int → Int → Int → Int → Int → Int → Int → Int → Int → Option (Int × Int)) (y_2 : Int) (s_8 : Int) (jQ : Int) (jA : Int) (fQ : Int) (gM : Int) (jU : Int) (mN : Int) (tM : Int) : Option (Int × Int) :=
 (bif ((decide (4294967296 ≤ tM)) || (decide ((IntKind.u64.wrap ((IntKind.u64.wrap (4294967296 * jU)) + fQ)) < (IntKind.u64.wrap (tM * jA))))) then
  (bif (decide (4294967296 ≤ (IntKind.u64.wrap (jU + jQ)))) then
   qG y_2 s_8 fQ gM mN (IntKind.u64.wrap (tM - 1))
  else
   rec1 y_2 s_8 jQ jA fQ gM (IntKind.u64.wrap (jU + jQ)) mN (IntKind.u64.wrap (tM - 1)))
 else
  qG y_2 s_8 fQ gM mN tM)
def mC : Nat → Int → Int → Int → Int → Int → Int → Int → Int → Int → Option (Int × Int)
 | 0 => fun _ _ _ _ _ _ _ _ _ => none
 | n + 1 => zI (mC n)
def lW (y_2 : Int) (s_8 : Int) (jQ : Int) (jA : Int) (jD : Int) (lL : Int) (fQ : Int) (gM : Int) : Option (Int × Int) :=
 ((chk (jQ != 0)).bind fun _ =>
 mC bK y_2 s_8 jQ jA fQ gM (IntKind.u64.wrap ((IntKind.u64.wrap ((IntKind.u64.wrap ((IntKind.u64.wrap (jD * 4294967296)) + lL)) - (IntKind.u64.wrap (gM * y_2)))) - (IntKind.u64.wrap ((IntKind.u64.wrap (Int.tdiv (IntKind.u64.wrap ((IntKind.u64.wrap ((IntKind.u64.wrap (jD * 4294967296)) + lL)) - (IntKind.u64.wrap (gM * y_2)))) jQ)) * jQ)))) (IntKind.u64.wrap ((IntKind.u64.wrap ((IntKind.u64.wrap (jD * 4294967296)) + lL)) - (IntKind.u64.wrap (gM * y_2)))) (IntKind.u64.wrap (Int.tdiv (IntKind.u64.wrap ((IntKind.u64.wrap ((IntKind.u64.wrap (jD * 4294967296)) + lL)) - (IntKind.u64.wrap (gM * y_2)))) jQ)))
def zV (rec2 : Int → Int → Int → Int → Int → Int → Int → Int → Int → Option (Int × Int)) (y_2 : Int) (s_8 : Int) (jQ : Int) (jA : Int) (jD : Int) (lL : Int) (fQ : Int) (gM : Int) (jU : Int) : Option (Int × Int) :=
 (bif ((decide (4294967296 ≤ gM)) || (decide ((IntKind.u64.wrap ((IntKind.u64.wrap (4294967296 * jU)) + lL)) < (IntKind.u64.wrap (gM * jA))))) then
  (bif (decide (4294967296 ≤ (IntKind.u64.wrap (jU + jQ)))) then
   lW y_2 s_8 jQ jA jD lL fQ (IntKind.u64.wrap (gM - 1))
  else
   rec2 y_2 s_8 jQ jA jD lL fQ (IntKind.u64.wrap (gM - 1)) (IntKind.u64.wrap (jU + jQ)))
 else
  lW y_2 s_8 jQ jA jD lL fQ gM)
def mH : Nat → Int → Int → Int → Int → Int → Int → Int → Int → Int → Option (Int × Int)
 | 0 => fun _ _ _ _ _ _ _ _ _ => none
 | n + 1 => zV (mH n)
def zW (sG : Int) (qT : Int) (y_2 : Int) : Option (Int × Int) :=
 (bif (sG == 0) then
  ((chk (y_2 != 0)).bind fun _ =>
  ((chk (y_2 != 0)).bind fun _ =>
  some ((IntKind.u64.wrap (Int.tdiv qT y_2)), (Int.tmod qT y_2))))
 else
  ((lH y_2).bind fun r4 =>
  ((chk (decide (0 ≤ (IntKind.u64.wrap r4)))).bind fun _ =>
  ((chk (decide (0 ≤ (IntKind.u64.wrap r4)))).bind fun _ =>
  ((chk (decide (0 ≤ (IntKind.u64.wrap (64 - (IntKind.u64.wrap r4)))))).bind fun _ =>
  ((chk (decide (0 ≤ (IntKind.u64.wrap r4)))).bind fun _ =>
  ((chk ((shr .u64 (shl .u64 y_2 (IntKind.u64.wrap r4)) 32) != 0)).bind fun _ =>
  mH bK (shl .u64 y_2 (IntKind.u64.wrap r4)) (IntKind.u64.wrap r4) (shr .u64 (shl .u64 y_2 (IntKind.u64.wrap r4)) 32) (aCi .u64 (shl .u64 y_2 (IntKind.u64.wrap r4)) 4294967295) (bor .u64 (shl .u64 sG (IntKind.u64.wrap r4)) (shr .u64 qT (IntKind.u64.wrap (64 - (IntKind.u64.wrap r4))))) (shr .u64 (shl .u64 qT (IntKind.u64.wrap r4)) 32) (aCi .u64 (shl .u64 qT (IntKind.u64.wrap r4)) 4294967295) (IntKind.u64.wrap (Int.tdiv (bor .u64 (shl .u64 sG (IntKind.u64.wrap r4)) (shr .u64 qT (IntKind.u64.wrap (64 - (IntKind.u64.wrap r4))))) (shr .u64 (shl .u64 y_2 (IntKind.u64.wrap r4)) 32))) (IntKind.u64.wrap ((bor .u64 (shl .u64 sG (IntKind.u64.wrap r4)) (shr .u64 qT (IntKind.u64.wrap (64 - (IntKind.u64.wrap r4))))) - (IntKind.u64.wrap ((IntKind.u64.wrap (Int.tdiv (bor .u64 (shl .u64 sG (IntKind.u64.wrap r4)) (shr .u64 qT (IntKind.u64.wrap (64 - (IntKind.u64.wrap r4))))) (shr .u64 (shl .u64 y_2 (IntKind.u64.wrap r4)) 32))) * (shr .u64 (shl .u64 y_2 (IntKind.u64.wrap r4)) 32))))))))))))
def aA8 (sG : Int) (qT : Int) (y_2 : Int) : Option (Int × Int) :=
 (bif (decide (y_2 ≤ sG)) then
  none
 else
  zW sG qT y_2)
def wM (sG : Int) (qT : Int) (y_2 : Int) : Option (Int × Int) :=
 (bif (y_2 == 0) then
  none
 else
  aA8 sG qT y_2)
theorem aQ4 {sG : Int} {qT : Int} {y_2 : Int} {r : Int × Int} (hm : wM sG qT y_2 = some r) : aZ Tryz.prog 183 [vu sG, vu qT, vu y_2] (.tup [vu r.1, vu r.2]) := by
 refine bd 135 Tryz.func183 ?_
 refine V ?_
 refine AWp.seqJ (fun s => ∃ sG qT y_2, s = ⟨135, (aF (aF (aF fa 0 (vu sG)) 1 (vu qT)) 2 (vu y_2)), ⟨aX, 64⟩⟩ ∧ aA8 sG qT y_2 = some r) ?_ ?_
 ·
  refine W ?_
  refine cm hm (fun hm => ?_) fun hm => ?_
  · cases hm
  exact L
 rintro s ⟨sG, qT, y_2, rfl, hm⟩
 refine AWp.seqJ (fun s => ∃ sG qT y_2, s = ⟨135, (aF (aF (aF fa 0 (vu sG)) 1 (vu qT)) 2 (vu y_2)), ⟨aX, 64⟩⟩ ∧ zW sG qT y_2 = some r) ?_ ?_
 ·
  refine W ?_
  refine cm hm (fun hm => ?_) fun hm => ?_
  · cases hm
  exact L
 rintro s ⟨sG, qT, y_2, rfl, hm⟩
 refine W ?_
 refine cm hm (fun hm => ?_) fun hm => ?_
 ·
  obtain ⟨_, h1, hm⟩ := bnd hm
  obtain ⟨_, h2, hm⟩ := bnd hm
  exact E
 obtain ⟨r4, h3, hm⟩ := bnd hm
 refine W ?_
 refine cq (aCd h3) ?_
 obtain ⟨_, h5, hm⟩ := bnd hm
 obtain ⟨_, h6, hm⟩ := bnd hm
 obtain ⟨_, h7, hm⟩ := bnd hm
 obtain ⟨_, h8, hm⟩ := bnd hm
 obtain ⟨_, h9, hm⟩ := bnd hm
 refine V ?_
 refine AWp.seqJ (fun s => ∃ y_2 s_8 jQ jA jD lL fQ gM, s = ⟨135, (aF (aF (aF (aF (aF (aF (aF (aF fa 2 (vu y_2)) 8 (vu s_8)) 9 (vu jQ)) 10 (vu jA)) 11 (vu jD)) 13 (vu lL)) 14 (vu fQ)) 15 (vu gM)), ⟨aX, 64⟩⟩ ∧ lW y_2 s_8 jQ jA jD lL fQ gM = some r) ?_ ?_
 ·
  refine W ?_
  refine lp (fun m s => ∃ y_2 s_8 jQ jA jD lL fQ gM jU, s = ⟨135, (aF (aF (aF (aF (aF (aF (aF (aF (aF fa 2 (vu y_2)) 8 (vu s_8)) 9 (vu jQ)) 10 (vu jA)) 11 (vu jD)) 13 (vu lL)) 14 (vu fQ)) 15 (vu gM)) 16 (vu jU)), ⟨aX, 64⟩⟩ ∧ mH m y_2 s_8 jQ jA jD lL fQ gM jU = some r) L ?_
  rintro n2 s ⟨y_2, s_8, jQ, jA, jD, lL, fQ, gM, jU, rfl, hm⟩
  refine W ?_
  refine cm hm (fun hm => ?_) fun hm => ?_
  ·
   refine W ?_
   refine cm hm (fun hm => ?_) fun hm => ?_
   ·
    refine W ?_
    refine aN4 Zd ?_
    exact L
   exact L
  exact L
 rintro s ⟨y_2, s_8, jQ, jA, jD, lL, fQ, gM, rfl, hm⟩
 obtain ⟨_, h10, hm⟩ := bnd hm
 refine V ?_
 refine AWp.seqJ (fun s => ∃ y_2 s_8 fQ gM mN tM, s = ⟨135, (aF (aF (aF (aF (aF (aF fa 2 (vu y_2)) 8 (vu s_8)) 14 (vu fQ)) 15 (vu gM)) 17 (vu mN)) 18 (vu tM)), ⟨aX, 64⟩⟩ ∧ qG y_2 s_8 fQ gM mN tM = some r) ?_ ?_
 ·
  refine W ?_
  refine lp (fun m s => ∃ y_2 s_8 jQ jA fQ gM jU mN tM, s = ⟨135, (aF (aF (aF (aF (aF (aF (aF (aF (aF fa 2 (vu y_2)) 8 (vu s_8)) 9 (vu jQ)) 10 (vu jA)) 14 (vu fQ)) 15 (vu gM)) 16 (vu jU)) 17 (vu mN)) 18 (vu tM)), ⟨aX, 64⟩⟩ ∧ mC m y_2 s_8 jQ jA fQ gM jU mN tM = some r) L ?_
  rintro n1 s ⟨y_2, s_8, jQ, jA, fQ, gM, jU, mN, tM, rfl, hm⟩
  refine W ?_
  refine cm hm (fun hm => ?_) fun hm => ?_
  ·
   refine W ?_
   refine cm hm (fun hm => ?_) fun hm => ?_
   ·
    refine W ?_
    refine aN4 Zd ?_
    exact L
   exact L
  exact L
 rintro s ⟨y_2, s_8, fQ, gM, mN, tM, rfl, hm⟩
 obtain ⟨_, h11, hm⟩ := bnd hm
 exact E
end Go.Proofs.YtkdohhmacfoolaaGreat
