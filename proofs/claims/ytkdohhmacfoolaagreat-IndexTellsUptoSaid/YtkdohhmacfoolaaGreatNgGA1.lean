/- Facts. No condition. -/
import Derived.Test.YtkdohhmacfoolaaGreatNgOf
import Derived.Test.YtkdohhmacfoolaaGreatNgAmF
set_option linter.unusedVariables false
set_option linter.unusedSimpArgs false
set_option maxRecDepth 20000
set_option maxHeartbeats 4000000
namespace Go.Proofs.YtkdohhmacfoolaaGreat
open Go.Proofs.Tryz Go Go.AM
def bJe : ByteArray := ⟨#[0, 1, 2, 2, 3, 3, 3, 3, 4, 4, 4, 4, 4, 4, 4, 4, 5, 5, 5, 5, 5, 5, 5, 5, 5, 5, 5, 5, 5, 5, 5, 5, 6, 6, 6, 6, 6, 6, 6, 6, 6, 6, 6, 6, 6, 6, 6, 6, 6, 6, 6, 6, 6, 6, 6, 6, 6, 6, 6, 6, 6, 6, 6, 6, 7, 7, 7, 7, 7, 7, 7, 7, 7, 7, 7, 7, 7, 7, 7, 7, 7, 7, 7, 7, 7, 7, 7, 7, 7, 7, 7, 7, 7, 7, 7, 7, 7, 7, 7, 7, 7, 7, 7, 7, 7, 7, 7, 7, 7, 7, 7, 7, 7, 7, 7, 7, 7, 7, 7, 7, 7, 7, 7, 7, 7, 7, 7, 7, 8, 8, 8, 8, 8, 8, 8, 8, 8, 8, 8, 8, 8, 8, 8, 8, 8, 8, 8, 8, 8, 8, 8, 8, 8, 8, 8, 8, 8, 8, 8, 8, 8, 8, 8, 8, 8, 8, 8, 8, 8, 8, 8, 8, 8, 8, 8, 8, 8, 8, 8, 8, 8, 8, 8, 8, 8, 8, 8, 8, 8, 8, 8, 8, 8, 8, 8, 8, 8, 8, 8, 8, 8, 8, 8, 8, 8, 8, 8, 8, 8, 8, 8, 8, 8, 8, 8, 8, 8, 8, 8, 8, 8, 8, 8, 8, 8, 8, 8, 8, 8, 8, 8, 8, 8, 8, 8, 8, 8, 8, 8, 8, 8, 8, 8, 8, 8, 8, 8, 8, 8, 8, 8, 8, 8, 8, 8, 8]⟩
structure bV where
 A : Int
 B : Int
deriving DecidableEq
def bE (e : bV) : List AV := [.v (.int .u64 e.A), .v (.int .u64 e.B)]
theorem mP : CF bE 2 := ⟨fun _ => rfl, fun a x hx => by
 simp only [bE, List.mem_cons, List.not_mem_nil, or_false] at hx
 rcases hx with rfl | rfl
 ·
  exact (.v _)
 ·
  exact (.v _), fun _ => rfl⟩
instance : CC bE 2 := ⟨mP⟩
@[go_sem] theorem aZv (e : bV) (r : List AV) : bE e ++ r = .v (.int .u64 e.A) :: .v (.int .u64 e.B) :: r := rfl
structure aT where
 N : Int
 L : Int
 R : Int
deriving DecidableEq
def aPa (e : aT) : List AV := [.v (.int .i64 e.N), .v (.int .i64 e.L), .v (.int .i64 e.R)]
@[go_sem] theorem aUl (e : aT) (r : List AV) : aPa e ++ r = .v (.int .i64 e.N) :: .v (.int .i64 e.L) :: .v (.int .i64 e.R) :: r := rfl
structure aI where
 Config : aT
 Hashes : List bV
 Edges : List aC
deriving DecidableEq
def bMw (e : aI) : List AV := [.v (.int .i64 e.Config.N), .v (.int .i64 e.Config.L), .v (.int .i64 e.Config.R), .sl (e.Hashes.flatMap bE) e.Hashes.length false, .sl (e.Edges.flatMap aO) e.Edges.length false]
@[go_sem] theorem aX0 (e : aI) (r : List AV) : bMw e ++ r = .v (.int .i64 e.Config.N) :: .v (.int .i64 e.Config.L) :: .v (.int .i64 e.Config.R) :: .sl (e.Hashes.flatMap bE) e.Hashes.length false :: .sl (e.Edges.flatMap aO) e.Edges.length false :: r := rfl
theorem bFo (x0 y0 x1 y1 x2 y2 : Int) : eT prog .eql 102 (.agg [.v (.int .i64 x0), .v (.int .i64 x1), .v (.int .i64 x2)]) (.agg [.v (.int .i64 y0), .v (.int .i64 y1), .v (.int .i64 y2)]) = some (.v (.bool ((x0 == y0) && ((x1 == y1) && (x2 == y2))))) :=
 (by kernel_rfl : eT prog .eql 102 (.agg [.v (.int .i64 x0), .v (.int .i64 x1), .v (.int .i64 x2)]) (.agg [.v (.int .i64 y0), .v (.int .i64 y1), .v (.int .i64 y2)]) = some (.v (.bool ((x0 == y0) && ((x1 == y1) && ((x2 == y2) && true)))))).trans (by rw [Bool.and_true])
theorem bHs (x0 y0 x1 y1 x2 y2 : Int) : eT prog .neq 102 (.agg [.v (.int .i64 x0), .v (.int .i64 x1), .v (.int .i64 x2)]) (.agg [.v (.int .i64 y0), .v (.int .i64 y1), .v (.int .i64 y2)]) = some (.v (.bool (!((x0 == y0) && ((x1 == y1) && (x2 == y2)))))) :=
 (by kernel_rfl : eT prog .neq 102 (.agg [.v (.int .i64 x0), .v (.int .i64 x1), .v (.int .i64 x2)]) (.agg [.v (.int .i64 y0), .v (.int .i64 y1), .v (.int .i64 y2)]) = some (.v (.bool (!((x0 == y0) && ((x1 == y1) && ((x2 == y2) && true))))))).trans (by rw [Bool.and_true])
attribute [go_sem] bFo bHs
theorem bFp (x0 y0 x1 y1 : Int) : eT prog .eql 120 (.agg [.v (.int .u64 x0), .v (.int .u64 x1)]) (.agg [.v (.int .u64 y0), .v (.int .u64 y1)]) = some (.v (.bool ((x0 == y0) && (x1 == y1)))) :=
 (by kernel_rfl : eT prog .eql 120 (.agg [.v (.int .u64 x0), .v (.int .u64 x1)]) (.agg [.v (.int .u64 y0), .v (.int .u64 y1)]) = some (.v (.bool ((x0 == y0) && ((x1 == y1) && true))))).trans (by rw [Bool.and_true])
theorem bHt (x0 y0 x1 y1 : Int) : eT prog .neq 120 (.agg [.v (.int .u64 x0), .v (.int .u64 x1)]) (.agg [.v (.int .u64 y0), .v (.int .u64 y1)]) = some (.v (.bool (!((x0 == y0) && (x1 == y1))))) :=
 (by kernel_rfl : eT prog .neq 120 (.agg [.v (.int .u64 x0), .v (.int .u64 x1)]) (.agg [.v (.int .u64 y0), .v (.int .u64 y1)]) = some (.v (.bool (!((x0 == y0) && ((x1 == y1) && true)))))).trans (by rw [Bool.and_true])
attribute [go_sem] bFp bHt
theorem bJr (x0 y0 x1 y1 x2 y2 : Int) : eT prog .eql 23 (.agg [.v (.int .i64 x0), .v (.int .i64 x1), .v (.int .i64 x2)]) (.agg [.v (.int .i64 y0), .v (.int .i64 y1), .v (.int .i64 y2)]) = some (.v (.bool ((x0 == y0) && ((x1 == y1) && (x2 == y2))))) :=
 (by kernel_rfl : eT prog .eql 23 (.agg [.v (.int .i64 x0), .v (.int .i64 x1), .v (.int .i64 x2)]) (.agg [.v (.int .i64 y0), .v (.int .i64 y1), .v (.int .i64 y2)]) = some (.v (.bool ((x0 == y0) && ((x1 == y1) && ((x2 == y2) && true)))))).trans (by rw [Bool.and_true])
theorem bLa (x0 y0 x1 y1 x2 y2 : Int) : eT prog .neq 23 (.agg [.v (.int .i64 x0), .v (.int .i64 x1), .v (.int .i64 x2)]) (.agg [.v (.int .i64 y0), .v (.int .i64 y1), .v (.int .i64 y2)]) = some (.v (.bool (!((x0 == y0) && ((x1 == y1) && (x2 == y2)))))) :=
 (by kernel_rfl : eT prog .neq 23 (.agg [.v (.int .i64 x0), .v (.int .i64 x1), .v (.int .i64 x2)]) (.agg [.v (.int .i64 y0), .v (.int .i64 y1), .v (.int .i64 y2)]) = some (.v (.bool (!((x0 == y0) && ((x1 == y1) && ((x2 == y2) && true))))))).trans (by rw [Bool.and_true])
attribute [go_sem] bJr bLa
@[go_sem] theorem bAc (xs : List AV) : aJ prog 102 (.ptr (xs)) 0 = some (.ptr xs) := by kernel_rfl
@[go_sem] theorem bAe (x0 : AV) (xs : List AV) : aJ prog 102 (.ptr (x0 :: xs)) 1 = some (.ptr xs) := by kernel_rfl
@[go_sem] theorem bAg (x0 : AV) (x1 : AV) (xs : List AV) : aJ prog 102 (.ptr (x0 :: x1 :: xs)) 2 = some (.ptr xs) := by kernel_rfl
@[go_sem] theorem bAw (i o : Nat) : aJ prog 102 (.adr i o) 0 = some (.adr i (o + 0)) := by kernel_rfl
@[go_sem] theorem bB3 (i o : Nat) : aJ prog 102 (.adr i o) 1 = some (.adr i (o + 1)) := by kernel_rfl
@[go_sem] theorem bBa (i o : Nat) : aJ prog 102 (.adr i o) 2 = some (.adr i (o + 2)) := by kernel_rfl
@[go_sem] theorem bBj (i o : Nat) : aJ prog 120 (.adr i o) 0 = some (.adr i (o + 0)) := by kernel_rfl
@[go_sem] theorem bBm (i o : Nat) : aJ prog 120 (.adr i o) 1 = some (.adr i (o + 1)) := by kernel_rfl
@[go_sem] theorem bFt (i o : Nat) : aJ prog 23 (.adr i o) 0 = some (.adr i (o + 0)) := by kernel_rfl
@[go_sem] theorem bFz (i o : Nat) : aJ prog 23 (.adr i o) 1 = some (.adr i (o + 1)) := by kernel_rfl
@[go_sem] theorem bG5 (i o : Nat) : aJ prog 23 (.adr i o) 2 = some (.adr i (o + 2)) := by kernel_rfl
@[go_sem] theorem bGa (i o : Nat) : aJ prog 30 (.adr i o) 0 = some (.adr i (o + 0)) := by kernel_rfl
@[go_sem] theorem bGg (i o : Nat) : aJ prog 30 (.adr i o) 1 = some (.adr i (o + 3)) := by kernel_rfl
@[go_sem] theorem bGk (i o : Nat) : aJ prog 30 (.adr i o) 2 = some (.adr i (o + 4)) := by kernel_rfl
@[go_sem] theorem bKd (H : aN) (x0 x1 x2 : AV) (xs : List AV) : bS prog H 102 (.ptr (x0 :: x1 :: x2 :: xs)) = some (.agg [x0, x1, x2]) := by kernel_rfl
@[go_sem] theorem bKl (H : aN) (x0 x1 : AV) (xs : List AV) : bS prog H 120 (.ptr (x0 :: x1 :: xs)) = some (.agg [x0, x1]) := by kernel_rfl
@[go_sem] theorem bNn (H : aN) (x0 x1 x2 : AV) (xs : List AV) : bS prog H 23 (.ptr (x0 :: x1 :: x2 :: xs)) = some (.agg [x0, x1, x2]) := by kernel_rfl
@[go_sem] theorem bNv (H : aN) (x : AV) (xs : List AV) : bS prog H 27 (.ptr (x :: xs)) = some x := by kernel_rfl
@[go_sem] theorem bNz (H : aN) (x : AV) (xs : List AV) : bS prog H 28 (.ptr (x :: xs)) = some x := by kernel_rfl
@[go_sem] theorem bR9 (H : aN) (x : AV) (xs : List AV) : bS prog H 3 (.ptr (x :: xs)) = some x := by kernel_rfl
@[go_sem] theorem bO5 (H : aN) (x0 x1 x2 x3 x4 : AV) (xs : List AV) : bS prog H 30 (.ptr (x0 :: x1 :: x2 :: x3 :: x4 :: xs)) = some (.agg [x0, x1, x2, x3, x4]) := by kernel_rfl
@[go_sem] theorem bOn (H : aN) (x : AV) (xs : List AV) : bS prog H 43 (.ptr (x :: xs)) = some x := by kernel_rfl
@[go_sem] theorem bA4 (H : aN) (k : IntKind) (n : Int) : mU prog H 3 198 (.v (.int k n)) = some (.v (.int .u64 (IntKind.u64.wrap n))) := gO underlying3 underlying198
@[go_sem] theorem bJk (H : aN) (k : IntKind) (n : Int) : mU prog H 5 3 (.v (.int k n)) = some (.v (.int .i64 (IntKind.i64.wrap n))) := gO underlying5 underlying3
@[go_sem] theorem bFi (H : aN) (k : IntKind) (n : Int) : mU prog H 43 5 (.v (.int k n)) = some (.v (.int .u8 (IntKind.u8.wrap n))) := gO underlying43 underlying5
def aE0 (rec1 : List bV → List bV → Int → Option (Bool)) (a_0 : List bV) (b_1 : List bV) (i_5 : Int) : Option (Bool) :=
 (bif (decide (i_5 < (a_0.length : Int))) then
  ((idx a_0 i_5).bind fun x2 =>
  ((idx b_1 i_5).bind fun x4 =>
  (bif (!((x2.A == x4.A) && (x2.B == x4.B))) then
   some false
  else
   rec1 a_0 b_1 (IntKind.i64.wrap (i_5 + 1)))))
 else
  some true)
def tF : Nat → List bV → List bV → Int → Option (Bool)
 | 0 => fun _ _ _ => none
 | n + 1 => aE0 (tF n)
def aAz (a_0 : List bV) (b_1 : List bV) : Option (Bool) :=
 (bif ((a_0.length : Int) != (b_1.length : Int)) then
  some false
 else
  tF bF a_0 b_1 0)
theorem aYg {a_0 : List bV} {b_1 : List bV} {r : Bool} (hm : aAz a_0 b_1 = some r) : bC prog 64 [vl bE a_0, vl bE b_1] (vb r) := by
 refine bd 26 func64 ?_
 refine W ?_
 refine cm hm (fun hm => ?_) fun hm => ?_
 · exact E
 refine W ?_
 refine lp (fun m s => ∃ a_0 b_1 i_5, s = ⟨26, (aE (aE (aE fa 0 (vl bE a_0)) 1 (vl bE b_1)) 5 (vi i_5)), ⟨aV, 64⟩⟩ ∧ tF m a_0 b_1 i_5 = some r) L ?_
 rintro n1 s ⟨a_0, b_1, i_5, rfl, hm⟩
 refine W ?_
 refine cm hm (fun hm => ?_) fun hm => ?_
 ·
  obtain ⟨x2, h1, hm⟩ := bnd hm
  obtain ⟨x4, h3, hm⟩ := bnd hm
  refine W ?_
  refine cm hm (fun hm => ?_) fun hm => ?_
  · exact E
  exact L
 exact E
def aDu (rec1 : List aC → List aC → Int → Option (Bool)) (a_0 : List aC) (b_1 : List aC) (i_5 : Int) : Option (Bool) :=
 (bif (decide (i_5 < (a_0.length : Int))) then
  ((idx a_0 i_5).bind fun x2 =>
  ((idx b_1 i_5).bind fun x4 =>
  (bif (!((x2.U == x4.U) && ((x2.V == x4.V) && (x2.Tier == x4.Tier)))) then
   some false
  else
   rec1 a_0 b_1 (IntKind.i64.wrap (i_5 + 1)))))
 else
  some true)
def tA : Nat → List aC → List aC → Int → Option (Bool)
 | 0 => fun _ _ _ => none
 | n + 1 => aDu (tA n)
def aAw (a_0 : List aC) (b_1 : List aC) : Option (Bool) :=
 (bif ((a_0.length : Int) != (b_1.length : Int)) then
  some false
 else
  tA bF a_0 b_1 0)
theorem aYd {a_0 : List aC} {b_1 : List aC} {r : Bool} (hm : aAw a_0 b_1 = some r) : bC prog 65 [vl aO a_0, vl aO b_1] (vb r) := by
 refine bd 26 func65 ?_
 refine W ?_
 refine cm hm (fun hm => ?_) fun hm => ?_
 · exact E
 refine W ?_
 refine lp (fun m s => ∃ a_0 b_1 i_5, s = ⟨26, (aE (aE (aE fa 0 (vl aO a_0)) 1 (vl aO b_1)) 5 (vi i_5)), ⟨aV, 64⟩⟩ ∧ tA m a_0 b_1 i_5 = some r) L ?_
 rintro n1 s ⟨a_0, b_1, i_5, rfl, hm⟩
 refine W ?_
 refine cm hm (fun hm => ?_) fun hm => ?_
 ·
  obtain ⟨x2, h1, hm⟩ := bnd hm
  obtain ⟨x4, h3, hm⟩ := bnd hm
  refine W ?_
  refine cm hm (fun hm => ?_) fun hm => ?_
  · exact E
  exact L
 exact E
def aB0 (a_0 : aI) (b_1 : aI) : Option (Bool) :=
 ((eP (((a_0.Config.N == b_1.Config.N) && ((a_0.Config.L == b_1.Config.L) && (a_0.Config.R == b_1.Config.R))) == true) false (aAz a_0.Hashes b_1.Hashes)).bind fun r2 =>
 ((eP ((((a_0.Config.N == b_1.Config.N) && ((a_0.Config.L == b_1.Config.L) && (a_0.Config.R == b_1.Config.R))) && r2) == true) false (aAw a_0.Edges b_1.Edges)).bind fun r4 =>
 some ((((a_0.Config.N == b_1.Config.N) && ((a_0.Config.L == b_1.Config.L) && (a_0.Config.R == b_1.Config.R))) && r2) && r4)))
theorem aYh {a_0 : aI} {b_1 : aI} {r : Bool} (hm : aB0 a_0 b_1 = some r) : bC prog 24 [.agg [vi a_0.Config.N, vi a_0.Config.L, vi a_0.Config.R, vl bE a_0.Hashes, vl aO a_0.Edges], .agg [vi b_1.Config.N, vi b_1.Config.L, vi b_1.Config.R, vl bE b_1.Hashes, vl aO b_1.Edges]] (vb r) := by
 refine bd 24 func24 ?_
 obtain ⟨r2, h1, hm⟩ := bnd hm
 refine W ?_
 refine cg (fun hb => aYg (cK h1 hb)) ?_
 obtain ⟨r4, h3, hm⟩ := bnd hm
 refine W ?_
 refine cg (fun hb => aYd (cK h3 hb)) ?_
 exact E
def aDv (rec1 : List Int → List Int → Int → Option (Bool)) (a_0 : List Int) (b_1 : List Int) (i_5 : Int) : Option (Bool) :=
 (bif (decide (i_5 < (a_0.length : Int))) then
  ((idx a_0 i_5).bind fun x2 =>
  ((idx b_1 i_5).bind fun x4 =>
  (bif (x2 != x4) then
   some false
  else
   rec1 a_0 b_1 (IntKind.i64.wrap (i_5 + 1)))))
 else
  some true)
def tB : Nat → List Int → List Int → Int → Option (Bool)
 | 0 => fun _ _ _ => none
 | n + 1 => aDv (tB n)
def wP (a_0 : List Int) (b_1 : List Int) : Option (Bool) :=
 (bif ((a_0.length : Int) != (b_1.length : Int)) then
  some false
 else
  tB bF a_0 b_1 0)
theorem aNf {a_0 : List Int} {b_1 : List Int} {r : Bool} (hm : wP a_0 b_1 = some r) : bC prog 33 [vl (ci .u64) a_0, vl (ci .u64) b_1] (vb r) := by
 refine bd 26 func33 ?_
 refine W ?_
 refine cm hm (fun hm => ?_) fun hm => ?_
 · exact E
 refine W ?_
 refine lp (fun m s => ∃ a_0 b_1 i_5, s = ⟨26, (aE (aE (aE fa 0 (vl (ci .u64) a_0)) 1 (vl (ci .u64) b_1)) 5 (vi i_5)), ⟨aV, 64⟩⟩ ∧ tB m a_0 b_1 i_5 = some r) L ?_
 rintro n1 s ⟨a_0, b_1, i_5, rfl, hm⟩
 refine W ?_
 refine cm hm (fun hm => ?_) fun hm => ?_
 ·
  obtain ⟨x2, h1, hm⟩ := bnd hm
  obtain ⟨x4, h3, hm⟩ := bnd hm
  refine W ?_
  refine cm hm (fun hm => ?_) fun hm => ?_
  · exact E
  exact L
 exact E
def fP (l : List bV) : Option (List bV) := aUd 16 [] l
theorem aJ3 {r : List bV} (hm : some [] = some r) : dO prog 69 [.v (.slice none 0 0)] 2 (r.flatMap bE) r.length := by
 refine dO.of_body func69 rfl (mP.fmdat r) ?_
 simp only [ntmps69, List.length_cons, List.length_nil, Nat.reduceAdd, Nat.reduceSub, fL]
 refine sN 64 (pA ?_)
 refine fs (AWp.seq' (sN 128 (pA ?_)))
 refine pu rfl (xB Z1 Z1 (aJk underlying27)) ?_
 refine fs (AWp.condT Z1 ?_)
 refine sN 192 (pA ?_)
 refine fs (AWp.weaken (kH 2 900002 2 Z1 Z5) ?_)
 refine AWp.ret (kJ ?_)
 cases hm
 exact aKq (.inr rfl) Tryz.results69 Z1 Z3 Z6
theorem aJ4 {a : Addr} {c : Nat} {r : List bV} (hm : ((aUd 16 [] []).bind fun l2 =>
some l2) = some r) : dO prog 69 [.v (.slice (some a) 0 c)] 2 (r.flatMap bE) r.length := by
 refine dO.of_body func69 rfl (mP.fmdat r) ?_
 simp only [ntmps69, List.length_cons, List.length_nil, Nat.reduceAdd, Nat.reduceSub, fL]
 refine sN 64 (pA ?_)
 refine fs (AWp.seq' (sN 128 (pA ?_)))
 refine pu rfl (xB Z1 Z1 (aH2 underlying27)) ?_
 refine fs (AWp.condF Z1 ?_)
 refine AWp.skip (cG (sN 192 (hp (id := 128) rfl rfl (lF mP (l := []) underlying27 bM0 bMa Z5 Zd Zd Zd (by simp only [go_sem, Nat.reduceBEq]; try rfl) (by kernel_rfl)) ?_)))
 refine pA ?_
 obtain ⟨l2, h1, hm⟩ := bnd hm
 refine hp (id := 130) rfl rfl (bDe mP underlying27 underlying27 rfl bK9 bM4 aTt (by rw [aTt]; decide) bM6 Zd Zd Z1 Z3 Z6 (aOl Z1) rfl Z5 h1) ?_
 refine pA ?_
 refine fs (AWp.ret ?_)
 cases hm
 exact aKq (.inr rfl) Tryz.results69 Z1 Z3 Z6
theorem aJ5 {x0 : bV} {l0 : List bV} {r : List bV} (hm : ((aUd 16 [] (x0 :: l0)).bind fun l2 =>
some l2) = some r) : dO prog 69 [.sl ((x0 :: l0).flatMap bE) (x0 :: l0).length false] 2 (r.flatMap bE) r.length := by
 refine dO.of_body func69 rfl (mP.fmdat r) ?_
 simp only [ntmps69, List.length_cons, List.length_nil, Nat.reduceAdd, Nat.reduceSub, fL]
 refine sN 64 (pA ?_)
 refine fs (AWp.seq' (sN 128 (pA ?_)))
 refine pu rfl (xB Z1 Z1 (aH1 underlying27 (by simp))) ?_
 refine fs (AWp.condF Z1 ?_)
 refine AWp.skip (cG (sN 192 (hp (id := 128) rfl rfl (lF mP (l := []) underlying27 bM0 bMa Z5 Zd Zd Zd (by simp only [go_sem, Nat.reduceBEq]; try rfl) (by kernel_rfl)) ?_)))
 refine pA ?_
 obtain ⟨l2, h1, hm⟩ := bnd hm
 refine hp (id := 130) rfl rfl (bDe mP underlying27 underlying27 rfl bK9 bM4 aTt (by rw [aTt]; decide) bM6 Zd Zd Z1 Z3 Z6 (aMs mP Z1 rfl) rfl Z5 h1) ?_
 refine pA ?_
 refine fs (AWp.ret ?_)
 cases hm
 exact aKq (.inr rfl) Tryz.results69 Z1 Z3 Z6
theorem aB5 {l r : List bV} (hm : fP l = some r) : dO prog 69 [.sl (l.flatMap bE) l.length false] 2 (r.flatMap bE) r.length := by
 cases l with
 | nil =>
  have hr : r = [] := by unfold fP aUd at hm; simpa using hm.symm
  subst hr
  exact dO.nil_arg (aJ3 (r := []) rfl) (fun a c => aJ4 (r := []) rfl)
 | cons x0 l0 =>
  refine aJ5 ?_
  show (aUd 16 [] (x0 :: l0)).bind _ = _
  unfold fP at hm
  rw [hm]; rfl
theorem aKz {l r : List bV} (hm : fP l = some r) : bC prog 69 [.sl (l.flatMap bE) l.length false] (.sl (r.flatMap bE) r.length false) := bC.of_fresh mP (aB5 hm)
def qU (aRc : Int) : Option (Bool) :=
 some ((decide (0 ≤ aRc)) && (decide (aRc ≤ 16)))
theorem aI6 {aRc : Int} {r : Bool} (hm : qU aRc = some r) : bC prog 120 [vi aRc] (vb r) := by
 refine bd 9 func120 ?_
 exact E
def uO (a_0 : aC) (b_1 : aC) : Option (Bool) :=
 some ((decide (a_0.U < b_1.U)) || ((a_0.U == b_1.U) && (decide (a_0.V < b_1.V))))
theorem aIr {a_0 : aC} {b_1 : aC} {r : Bool} (hm : uO a_0 b_1 = some r) : bC prog 121 [.agg [vi a_0.U, vi a_0.V, vi a_0.Tier], .agg [vi b_1.U, vi b_1.V, vi b_1.Tier]] (vb r) := by
 refine bd 24 func121 ?_
 exact E
def aBs (rec1 : Int → List aC → List aC → Int → Int → Option (Bool)) (n_0 : Int) (l_1 : List aC) (t13 : List aC) (t14 : Int) (t15 : Int) : Option (Bool) :=
 (bif (decide (t15 < t14)) then
  ((idx t13 t15).bind fun x2 =>
  ((eP ((((decide (x2.U < 0)) || (decide (x2.V ≤ x2.U))) || (decide (n_0 ≤ x2.V))) == false) false (qU x2.Tier)).bind fun r4 =>
  (bif ((((decide (x2.U < 0)) || (decide (x2.V ≤ x2.U))) || (decide (n_0 ≤ x2.V))) || (!r4)) then
   some false
  else
   ((eP ((decide (0 < t15)) == true) (aC.mk 0 0 0) (idx l_1 (IntKind.i64.wrap (t15 - 1)))).bind fun x6 =>
   ((eP ((decide (0 < t15)) == true) false (uO x6 x2)).bind fun r8 =>
   (bif ((decide (0 < t15)) && (!r8)) then
    some false
   else
    rec1 n_0 l_1 t13 t14 (IntKind.i64.wrap (t15 + 1))))))))
 else
  some true)
def qT : Nat → Int → List aC → List aC → Int → Int → Option (Bool)
 | 0 => fun _ _ _ _ _ => none
 | n + 1 => aBs (qT n)
def hY (n_0 : Int) (l_1 : List aC) : Option (Bool) :=
 (bif ((decide (n_0 < 0)) || (decide (1024 < n_0))) then
  some false
 else
  qT bF n_0 l_1 l_1 (l_1.length : Int) 0)
theorem lR {n_0 : Int} {l_1 : List aC} {r : Bool} (hm : hY n_0 l_1 = some r) : bC prog 89 [vi n_0, vl aO l_1] (vb r) := by
 refine bd 55 func89 ?_
 refine W ?_
 refine cm hm (fun hm => ?_) fun hm => ?_
 · exact E
 refine W ?_
 refine lp (fun m s => ∃ n_0 l_1 t13 t14 t15, s = ⟨55, (aE (aE (aE (aE (aE fa 0 (vi n_0)) 1 (vl aO l_1)) 13 (vl aO t13)) 14 (vi t14)) 15 (vi t15)), ⟨aV, 64⟩⟩ ∧ qT m n_0 l_1 t13 t14 t15 = some r) L ?_
 rintro n1 s ⟨n_0, l_1, t13, t14, t15, rfl, hm⟩
 refine W ?_
 refine cm hm (fun hm => ?_) fun hm => ?_
 ·
  obtain ⟨x2, h1, hm⟩ := bnd hm
  obtain ⟨r4, h3, hm⟩ := bnd hm
  refine W ?_
  refine cg (fun hb => aI6 (cK h3 hb)) ?_
  refine W ?_
  refine cm hm (fun hm => ?_) fun hm => ?_
  · exact E
  obtain ⟨x6, h5, hm⟩ := bnd hm
  obtain ⟨r8, h7, hm⟩ := bnd hm
  refine W ?_
  refine cg (fun hb => aIr (cK h7 hb)) ?_
  refine W ?_
  refine cm hm (fun hm => ?_) fun hm => ?_
  · exact E
  exact L
 exact E
def tW (rec1 : Int → List aC → List aC → Int → Int → Option ((List aC))) (lS : Int) (jC : List aC) (t14 : List aC) (t15 : Int) (t16 : Int) : Option ((List aC)) :=
 rec1 lS jC t14 t15 (IntKind.i64.wrap (t16 + 1))
def aAc (rec1 : Int → List aC → List aC → Int → Int → Option ((List aC))) (lS : Int) (jC : List aC) (t14 : List aC) (t15 : Int) (t16 : Int) : Option ((List aC)) :=
 (bif (decide (t16 < t15)) then
  ((idx t14 t16).bind fun x4 =>
  (bif ((decide (1 ≤ x4.Tier)) && (decide (x4.Tier ≤ lS))) then
   ((app jC [x4]).bind fun l6 =>
   tW rec1 lS l6 t14 t15 t16)
  else
   tW rec1 lS jC t14 t15 t16))
 else
  some jC)
def kX : Nat → Int → List aC → List aC → Int → Int → Option ((List aC))
 | 0 => fun _ _ _ _ _ => none
 | n + 1 => aAc (kX n)
def gZ (n_0 : Int) (l_1 : List aC) (lS : Int) : Option ((List aC)) :=
 ((hY n_0 l_1).bind fun r2 =>
 (bif (!r2) then
  some []
 else
  kX bF lS [] l_1 (l_1.length : Int) 0))
theorem qS {n_0 : Int} {l_1 : List aC} {lS : Int} {r : (List aC)} (hm : gZ n_0 l_1 lS = some r) : bC prog 91 [vi n_0, vl aO l_1, vi lS] (vl aO r) := by
 refine bd 35 func91 ?_
 obtain ⟨r2, h1, hm⟩ := bnd hm
 refine W ?_
 refine cq (lR h1) ?_
 refine W ?_
 refine cm hm (fun hm => ?_) fun hm => ?_
 · exact E
 refine W ?_
 refine lp (fun m s => ∃ lS jC t14 t15 t16, s = ⟨35, (aE (aE (aE (aE (aE fa 2 (vi lS)) 7 (.own 1 0 jC.length)) 14 (vl aO t14)) 15 (vi t15)) 16 (vi t16)), ⟨(upd aV 1 (.cells 3 (jC.flatMap aO) 0)), 64⟩⟩ ∧ kX m lS jC t14 t15 t16 = some r) ?_ ?_
 ·
  refine ⟨_, ?_, lS, [], l_1, (l_1.length : Int), 0, rfl, hm⟩
  refine St.Le.trans (kH 7 900007 3 Z1 Z5) ?_
  exact cn (fun j => bif j == 1 then 900007 else 0)
 rintro n1 s ⟨lS, jC, t14, t15, t16, rfl, hm⟩
 refine W ?_
 refine cm hm (fun hm => ?_) fun hm => ?_
 ·
  refine V ?_
  refine AWp.seqJ (fun s => ∃ lS jC t14 t15 t16, s = ⟨35, (aE (aE (aE (aE (aE fa 2 (vi lS)) 7 (.own 1 0 jC.length)) 14 (vl aO t14)) 15 (vi t15)) 16 (vi t16)), ⟨(upd aV 1 (.cells 3 (jC.flatMap aO) 0)), 64⟩⟩ ∧ tW (kX n1) lS jC t14 t15 t16 = some r) ?_ ?_
  ·
   obtain ⟨x4, h3, hm⟩ := bnd hm
   refine W ?_
   refine cm hm (fun hm => ?_) fun hm => ?_
   ·
    refine W ?_
    refine aL cE [x4] ?_
    obtain ⟨l6, h5, hm⟩ := bnd hm
    refine W ?_
    exact Lr (fun j => bif j == 1 then 259 else 0)
   refine W ?_
   exact Lr (fun j => bif j == 1 then 1 else 0)
  rintro s ⟨lS, jC, t14, t15, t16, rfl, hm⟩
  refine W ?_
  exact Lr (fun j => bif j == 1 then 1 else 0)
 exact E
def aDo (rec1 : List Int → List Int → Int → Int → Option (Bool)) (p_0 : List Int) (t5 : List Int) (t6 : Int) (t7 : Int) : Option (Bool) :=
 (bif (decide (t7 < t6)) then
  ((idx t5 t7).bind fun x2 =>
  ((gL (p_0.length : Int) x2).bind fun r4 =>
  ((eP (((!r4) || (decide (t7 < x2))) == false) 0 (idx p_0 x2)).bind fun x6 =>
  (bif (((!r4) || (decide (t7 < x2))) || (x6 != x2)) then
   some false
  else
   rec1 p_0 t5 t6 (IntKind.i64.wrap (t7 + 1))))))
 else
  some true)
def sY : Nat → List Int → List Int → Int → Int → Option (Bool)
 | 0 => fun _ _ _ _ => none
 | n + 1 => aDo (sY n)
def wK (p_0 : List Int) : Option (Bool) :=
 sY bF p_0 p_0 (p_0.length : Int) 0
theorem aNc {p_0 : List Int} {r : Bool} (hm : wK p_0 = some r) : bC prog 102 [vl (ci .i64) p_0] (vb r) := by
 refine bd 31 func102 ?_
 refine W ?_
 refine lp (fun m s => ∃ p_0 t5 t6 t7, s = ⟨31, (aE (aE (aE (aE fa 0 (vl (ci .i64) p_0)) 5 (vl (ci .i64) t5)) 6 (vi t6)) 7 (vi t7)), ⟨aV, 64⟩⟩ ∧ sY m p_0 t5 t6 t7 = some r) L ?_
 rintro n1 s ⟨p_0, t5, t6, t7, rfl, hm⟩
 refine W ?_
 refine cm hm (fun hm => ?_) fun hm => ?_
 ·
  obtain ⟨x2, h1, hm⟩ := bnd hm
  obtain ⟨r4, h3, hm⟩ := bnd hm
  refine W ?_
  refine cq (aAu h3) ?_
  obtain ⟨x6, h5, hm⟩ := bnd hm
  refine W ?_
  refine cm hm (fun hm => ?_) fun hm => ?_
  · exact E
  exact L
 exact E
def aAt (rec1 : Int → List Int → Int → Int → Option (Int)) (uM : Int) (t9 : List Int) (t10 : Int) (t11 : Int) : Option (Int) :=
 rec1 uM t9 t10 (IntKind.i64.wrap (t11 + 1))
def aG7 (rec1 : Int → List Int → Int → Int → Option (Int)) (uM : Int) (t9 : List Int) (t10 : Int) (t11 : Int) : Option (Int) :=
 (bif (decide (t11 < t10)) then
  ((idx t9 t11).bind fun x4 =>
  (bif (t11 == x4) then
   aAt rec1 (IntKind.i64.wrap (uM + 1)) t9 t10 t11
  else
   aAt rec1 uM t9 t10 t11))
 else
  some uM)
def rW : Nat → Int → List Int → Int → Int → Option (Int)
 | 0 => fun _ _ _ _ => none
 | n + 1 => aG7 (rW n)
def aDn (p_0 : List Int) : Option (Int) :=
 ((wK p_0).bind fun r2 =>
 (bif (!r2) then
  some 0
 else
  rW bF 0 p_0 (p_0.length : Int) 0))
theorem bCl {p_0 : List Int} {r : Int} (hm : aDn p_0 = some r) : bC prog 122 [vl (ci .i64) p_0] (vi r) := by
 refine bd 23 func122 ?_
 obtain ⟨r2, h1, hm⟩ := bnd hm
 refine W ?_
 refine cq (aNc h1) ?_
 refine W ?_
 refine cm hm (fun hm => ?_) fun hm => ?_
 · exact E
 refine W ?_
 refine lp (fun m s => ∃ uM t9 t10 t11, s = ⟨23, (aE (aE (aE (aE fa 3 (vi uM)) 9 (vl (ci .i64) t9)) 10 (vi t10)) 11 (vi t11)), ⟨aV, 64⟩⟩ ∧ rW m uM t9 t10 t11 = some r) L ?_
 rintro n1 s ⟨uM, t9, t10, t11, rfl, hm⟩
 refine W ?_
 refine cm hm (fun hm => ?_) fun hm => ?_
 ·
  refine V ?_
  refine AWp.seqJ (fun s => ∃ uM t9 t10 t11, s = ⟨23, (aE (aE (aE (aE fa 3 (vi uM)) 9 (vl (ci .i64) t9)) 10 (vi t10)) 11 (vi t11)), ⟨aV, 64⟩⟩ ∧ aAt (rW n1) uM t9 t10 t11 = some r) ?_ ?_
  ·
   obtain ⟨x4, h3, hm⟩ := bnd hm
   refine W ?_
   refine cm hm (fun hm => ?_) fun hm => ?_
   · exact L
   exact L
  rintro s ⟨uM, t9, t10, t11, rfl, hm⟩
  exact L
 exact E
def oL (n_0 : Int) (l_1 : List aC) : Option (Bool) :=
 ((sX n_0 l_1).bind fun ⟨r2, r3⟩ =>
 ((eP ((r3 == 0) == true) 0 (aDn r2)).bind fun r5 =>
 some ((r3 == 0) && (r5 == (IntKind.i64.wrap (n_0 - (l_1.length : Int)))))))
theorem aD2 {n_0 : Int} {l_1 : List aC} {r : Bool} (hm : oL n_0 l_1 = some r) : bC prog 90 [vi n_0, vl aO l_1] (vb r) := by
 refine bd 24 func90 ?_
 refine W ?_
 obtain ⟨⟨r2, r3⟩, h1, hm⟩ := bnd hm
 refine cq (aKj h1) ?_
 obtain ⟨r5, h4, hm⟩ := bnd hm
 refine W ?_
 refine cg (fun hb => bCl (cK h4 hb)) ?_
 exact E
def aA6 (rec2 : aI → aT → List aC → Int → Int → Option (Bool)) (g_1 : aI) (c_3 : aT) (t70 : List aC) (t71 : Int) (t72 : Int) : Option (Bool) :=
 (bif (decide (t72 < t71)) then
  ((idx t70 t72).bind fun x6 =>
  (bif (decide (c_3.L < x6.Tier)) then
   some false
  else
   rec2 g_1 c_3 t70 t71 (IntKind.i64.wrap (t72 + 1))))
 else
  ((gZ c_3.N g_1.Edges c_3.L).bind fun r8 =>
  ((oL c_3.N r8).bind fun r10 =>
  some r10)))
def nS : Nat → aI → aT → List aC → Int → Int → Option (Bool)
 | 0 => fun _ _ _ _ _ => none
 | n + 1 => aA6 (nS n)
def aA5 (rec1 : aI → aT → List bV → Int → Int → Option (Bool)) (g_1 : aI) (c_3 : aT) (t48 : List bV) (t49 : Int) (t50 : Int) : Option (Bool) :=
 (bif (decide (t50 < t49)) then
  ((idx t48 t50).bind fun x2 =>
  (bif ((decide (2305843009213693951 ≤ x2.A)) || (decide (2305843009213693951 ≤ x2.B))) then
   some false
  else
   rec1 g_1 c_3 t48 t49 (IntKind.i64.wrap (t50 + 1))))
 else
  ((hY c_3.N g_1.Edges).bind fun r4 =>
  (bif (!r4) then
   some false
  else
   nS bF g_1 c_3 g_1.Edges (g_1.Edges.length : Int) 0)))
def nR : Nat → aI → aT → List bV → Int → Int → Option (Bool)
 | 0 => fun _ _ _ _ _ => none
 | n + 1 => aA5 (nR n)
def eW (g_0 : aI) : Option (Bool) :=
 (bif ((((((decide (g_0.Config.N < 1)) || (decide (1024 < g_0.Config.N))) || (decide (g_0.Config.L < 1))) || (decide (16 < g_0.Config.L))) || (decide (g_0.Config.R < 1))) || (decide (8 < g_0.Config.R))) then
  some false
 else
  (bif ((g_0.Hashes.length : Int) != (IntKind.i64.wrap (g_0.Config.L * g_0.Config.R))) then
   some false
  else
   nR bF g_0 g_0.Config g_0.Hashes (g_0.Hashes.length : Int) 0))
theorem iX {g_0 : aI} {r : Bool} (hm : eW g_0 = some r) : bC prog 49 [.agg [vi g_0.Config.N, vi g_0.Config.L, vi g_0.Config.R, vl bE g_0.Hashes, vl aO g_0.Edges]] (vb r) := by
 refine bd 92 func49 ?_
 refine W ?_
 refine cm hm (fun hm => ?_) fun hm => ?_
 · exact E
 refine W ?_
 refine cm hm (fun hm => ?_) fun hm => ?_
 · exact E
 refine W ?_
 refine lp (fun m s => ∃ g_1 c_3 t48 t49 t50, s = ⟨92, (aE (aE (aE (aE (aE fa 1 (.adr 1 0)) 3 (.adr 2 0)) 48 (vl bE t48)) 49 (vi t49)) 50 (vi t50)), ⟨(upd (upd aV 1 (.cells 1 [vi g_1.Config.N, vi g_1.Config.L, vi g_1.Config.R, vl bE g_1.Hashes, vl aO g_1.Edges] 0)) 2 (.cells 1 [vi c_3.N, vi c_3.L, vi c_3.R] 0)), 64⟩⟩ ∧ nR m g_1 c_3 t48 t49 t50 = some r) (Lr (fun j => bif j == 1 then 0 else bif j == 2 then 66 else 0)) ?_
 rintro n1 s ⟨g_1, c_3, t48, t49, t50, rfl, hm⟩
 refine W ?_
 refine cm hm (fun hm => ?_) fun hm => ?_
 ·
  obtain ⟨x2, h1, hm⟩ := bnd hm
  refine W ?_
  refine cm hm (fun hm => ?_) fun hm => ?_
  · exact E
  refine W ?_
  exact Lr (fun j => bif j == 1 then 1 else bif j == 2 then 2 else 0)
 obtain ⟨r4, h3, hm⟩ := bnd hm
 refine W ?_
 refine cq (lR h3) ?_
 refine W ?_
 refine cm hm (fun hm => ?_) fun hm => ?_
 · exact E
 refine W ?_
 refine lp (fun m s => ∃ g_1 c_3 t70 t71 t72, s = ⟨92, (aE (aE (aE (aE (aE fa 1 (.adr 1 0)) 3 (.adr 2 0)) 70 (vl aO t70)) 71 (vi t71)) 72 (vi t72)), ⟨(upd (upd aV 1 (.cells 1 [vi g_1.Config.N, vi g_1.Config.L, vi g_1.Config.R, vl bE g_1.Hashes, vl aO g_1.Edges] 0)) 2 (.cells 1 [vi c_3.N, vi c_3.L, vi c_3.R] 0)), 64⟩⟩ ∧ nS m g_1 c_3 t70 t71 t72 = some r) (Lr (fun j => bif j == 1 then 1 else bif j == 2 then 2 else 0)) ?_
 rintro n2 s ⟨g_1, c_3, t70, t71, t72, rfl, hm⟩
 refine W ?_
 refine cm hm (fun hm => ?_) fun hm => ?_
 ·
  obtain ⟨x6, h5, hm⟩ := bnd hm
  refine W ?_
  refine cm hm (fun hm => ?_) fun hm => ?_
  · exact E
  refine W ?_
  exact Lr (fun j => bif j == 1 then 1 else bif j == 2 then 2 else 0)
 obtain ⟨r8, h7, hm⟩ := bnd hm
 refine W ?_
 refine cq (qS h7) ?_
 obtain ⟨r10, h9, hm⟩ := bnd hm
 refine cq (aD2 h9) ?_
 exact E
def aEq (c_0 : aT) (aK5 : List bV) : Option (aI × Int) :=
 ((fP aK5).bind fun r2 =>
 ((eW (aI.mk c_0 r2 [])).bind fun r4 =>
 (bif (!r4) then
  some ((aI.mk (aT.mk 0 0 0) [] []), 1)
 else
  some ((aI.mk c_0 r2 []), 0))))
theorem bD4 {c_0 : aT} {aK5 : List bV} {r : aI × Int} (hm : aEq c_0 aK5 = some r) : bC prog 36 [.agg [vi c_0.N, vi c_0.L, vi c_0.R], vl bE aK5] (.tup [.agg [vi r.1.Config.N, vi r.1.Config.L, vi r.1.Config.R, vl bE r.1.Hashes, vl aO r.1.Edges], vi r.2]) := by
 refine bd 16 func36 ?_
 obtain ⟨r2, h1, hm⟩ := bnd hm
 refine W ?_
 refine cq (aKz h1) ?_
 refine bU (.agg [vi c_0.N, vi c_0.L, vi c_0.R, vl bE r2, .v (.slice none 0 0)]) ?_
 obtain ⟨r4, h3, hm⟩ := bnd hm
 refine W ?_
 refine cq (iX h3) ?_
 refine W ?_
 refine cm hm (fun hm => ?_) fun hm => ?_
 ·
  refine W ?_
  refine bU (.agg [vi 0, vi 0, vi 0, .v (.slice none 0 0), .v (.slice none 0 0)]) ?_
  exact E
 exact E
def aDw (rec1 : List Int → List Int → Int → Option (Bool)) (a_0 : List Int) (b_1 : List Int) (i_5 : Int) : Option (Bool) :=
 (bif (decide (i_5 < (a_0.length : Int))) then
  ((idx a_0 i_5).bind fun x2 =>
  ((idx b_1 i_5).bind fun x4 =>
  (bif (x2 != x4) then
   some false
  else
   rec1 a_0 b_1 (IntKind.i64.wrap (i_5 + 1)))))
 else
  some true)
def tC : Nat → List Int → List Int → Int → Option (Bool)
 | 0 => fun _ _ _ => none
 | n + 1 => aDw (tC n)
def aAx (a_0 : List Int) (b_1 : List Int) : Option (Bool) :=
 (bif ((a_0.length : Int) != (b_1.length : Int)) then
  some false
 else
  tC bF a_0 b_1 0)
theorem aYe {a_0 : List Int} {b_1 : List Int} {r : Bool} (hm : aAx a_0 b_1 = some r) : bC prog 57 [vl (ci .i64) a_0, vl (ci .i64) b_1] (vb r) := by
 refine bd 26 func57 ?_
 refine W ?_
 refine cm hm (fun hm => ?_) fun hm => ?_
 · exact E
 refine W ?_
 refine lp (fun m s => ∃ a_0 b_1 i_5, s = ⟨26, (aE (aE (aE fa 0 (vl (ci .i64) a_0)) 1 (vl (ci .i64) b_1)) 5 (vi i_5)), ⟨aV, 64⟩⟩ ∧ tC m a_0 b_1 i_5 = some r) L ?_
 rintro n1 s ⟨a_0, b_1, i_5, rfl, hm⟩
 refine W ?_
 refine cm hm (fun hm => ?_) fun hm => ?_
 ·
  obtain ⟨x2, h1, hm⟩ := bnd hm
  obtain ⟨x4, h3, hm⟩ := bnd hm
  refine W ?_
  refine cm hm (fun hm => ?_) fun hm => ?_
  · exact E
  exact L
 exact E
def tE (rec1 : List aC → Int → List aC → Int → Option ((List aC))) (l_0 : List aC) (cC : Int) (cJ : List aC) (i_6 : Int) : Option ((List aC)) :=
 rec1 l_0 cC cJ (IntKind.i64.wrap (i_6 + 1))
def zY (rec1 : List aC → Int → List aC → Int → Option ((List aC))) (l_0 : List aC) (cC : Int) (cJ : List aC) (i_6 : Int) : Option ((List aC)) :=
 (bif (decide (i_6 < (l_0.length : Int))) then
  ((idx l_0 i_6).bind fun x2 =>
  ((eP ((decide (0 < x2.Tier)) == true) (aC.mk 0 0 0) (idx l_0 i_6)).bind fun x4 =>
  (bif ((decide (0 < x2.Tier)) && (decide (x4.Tier ≤ cC))) then
   ((idx l_0 i_6).bind fun x6 =>
   ((app cJ [x6]).bind fun l8 =>
   tE rec1 l_0 cC l8 i_6))
  else
   tE rec1 l_0 cC cJ i_6)))
 else
  some cJ)
def kR : Nat → List aC → Int → List aC → Int → Option ((List aC))
 | 0 => fun _ _ _ _ => none
 | n + 1 => zY (kR n)
def mH (l_0 : List aC) (cC : Int) : Option ((List aC)) :=
 kR bF l_0 cC [] 0
theorem aHx {l_0 : List aC} {cC : Int} {r : (List aC)} (hm : mH l_0 cC = some r) : bC prog 92 [vl aO l_0, vi cC] (vl aO r) := by
 refine bd 36 func92 ?_
 refine W ?_
 refine lp (fun m s => ∃ l_0 cC cJ i_6, s = ⟨36, (aE (aE (aE (aE fa 0 (vl aO l_0)) 1 (vi cC)) 5 (.own 1 0 cJ.length)) 6 (vi i_6)), ⟨(upd aV 1 (.cells 3 (cJ.flatMap aO) 0)), 64⟩⟩ ∧ kR m l_0 cC cJ i_6 = some r) ?_ ?_
 ·
  refine ⟨_, ?_, l_0, cC, [], 0, rfl, hm⟩
  refine St.Le.trans (kH 5 900005 3 Z1 Z5) ?_
  exact cn (fun j => bif j == 1 then 900005 else 0)
 rintro n1 s ⟨l_0, cC, cJ, i_6, rfl, hm⟩
 refine W ?_
 refine cm hm (fun hm => ?_) fun hm => ?_
 ·
  refine V ?_
  refine AWp.seqJ (fun s => ∃ l_0 cC cJ i_6, s = ⟨36, (aE (aE (aE (aE fa 0 (vl aO l_0)) 1 (vi cC)) 5 (.own 1 0 cJ.length)) 6 (vi i_6)), ⟨(upd aV 1 (.cells 3 (cJ.flatMap aO) 0)), 64⟩⟩ ∧ tE (kR n1) l_0 cC cJ i_6 = some r) ?_ ?_
  ·
   obtain ⟨x2, h1, hm⟩ := bnd hm
   obtain ⟨x4, h3, hm⟩ := bnd hm
   refine W ?_
   refine cm hm (fun hm => ?_) fun hm => ?_
   ·
    have hm := sb hm h1
    refine W ?_
    refine aL cE [x2] ?_
    obtain ⟨l8, h7, hm⟩ := bnd hm
    refine W ?_
    exact Lr (fun j => bif j == 1 then 198 else 0)
   refine W ?_
   exact Lr (fun j => bif j == 1 then 1 else 0)
  rintro s ⟨l_0, cC, cJ, i_6, rfl, hm⟩
  refine W ?_
  exact Lr (fun j => bif j == 1 then 1 else 0)
 exact E
def aDx (rec2 : List aC → List Int → Bool → Option ((List Int))) (rec3 : List aC → List Int → Bool → Int → Option ((List Int))) (l_1 : List aC) (p_5 : List Int) (fY : Bool) (i_8 : Int) : Option ((List Int)) :=
 rec3 l_1 p_5 fY (IntKind.i64.wrap (i_8 + 1))
def aDy (rec2 : List aC → List Int → Bool → Option ((List Int))) (rec3 : List aC → List Int → Bool → Int → Option ((List Int))) (l_1 : List aC) (p_5 : List Int) (fY : Bool) (i_8 : Int) (a_9 : Int) (bF5 : Int) : Option ((List Int)) :=
 (bif (decide (bF5 < a_9)) then
  ((idx l_1 i_8).bind fun x12 =>
  ((idx p_5 x12.U).bind fun x14 =>
  ((stt p_5 x12.U bF5).bind fun l16 =>
  aDx rec2 rec3 l_1 l16 true i_8)))
 else
  aDx rec2 rec3 l_1 p_5 fY i_8)
def zW (rec2 : List aC → List Int → Bool → Option ((List Int))) (rec3 : List aC → List Int → Bool → Int → Option ((List Int))) (l_1 : List aC) (p_5 : List Int) (fY : Bool) (i_8 : Int) : Option ((List Int)) :=
 (bif (decide (i_8 < (l_1.length : Int))) then
  ((idx l_1 i_8).bind fun x4 =>
  ((idx p_5 x4.U).bind fun x6 =>
  ((idx l_1 i_8).bind fun x8 =>
  ((idx p_5 x8.V).bind fun x10 =>
  (bif (decide (x6 < x10)) then
   ((idx l_1 i_8).bind fun x18 =>
   ((idx p_5 x18.V).bind fun x20 =>
   ((stt p_5 x18.V x6).bind fun l22 =>
   aDy rec2 rec3 l_1 l22 true i_8 x6 x10)))
  else
   aDy rec2 rec3 l_1 p_5 fY i_8 x6 x10)))))
 else
  rec2 l_1 p_5 fY)
def iJ (rec2 : List aC → List Int → Bool → Option ((List Int))) : Nat → List aC → List Int → Bool → Int → Option ((List Int))
 | 0 => fun _ _ _ _ => none
 | n + 1 => zW rec2 (iJ rec2 n)
def zV (rec2 : List aC → List Int → Bool → Option ((List Int))) (l_1 : List aC) (p_5 : List Int) (fY : Bool) : Option ((List Int)) :=
 (bif fY then
  iJ rec2 bF l_1 p_5 false 0
 else
  some p_5)
def iI : Nat → List aC → List Int → Bool → Option ((List Int))
 | 0 => fun _ _ _ => none
 | n + 1 => zV (iI n)
def aIv (rec1 : Int → List aC → List Int → Int → Option ((List Int))) (n_0 : Int) (l_1 : List aC) (p_5 : List Int) (i_6 : Int) : Option ((List Int)) :=
 (bif (decide (i_6 < n_0)) then
  ((app p_5 [i_6]).bind fun l2 =>
  rec1 n_0 l_1 l2 (IntKind.i64.wrap (i_6 + 1)))
 else
  iI bF l_1 p_5 true)
def zX : Nat → Int → List aC → List Int → Int → Option ((List Int))
 | 0 => fun _ _ _ _ => none
 | n + 1 => aIv (zX n)
def aCc (n_0 : Int) (l_1 : List aC) : Option ((List Int)) :=
 zX bF n_0 l_1 [] 0
theorem aTd {n_0 : Int} {l_1 : List aC} {r : (List Int)} (hm : aCc n_0 l_1 = some r) : bC prog 93 [vi n_0, vl aO l_1] (vl (ci .i64) r) := by
 refine bd 66 func93 ?_
 refine W ?_
 refine lp (fun m s => ∃ n_0 l_1 p_5 i_6, s = ⟨66, (aE (aE (aE (aE fa 0 (vi n_0)) 1 (vl aO l_1)) 5 (.own 1 0 p_5.length)) 6 (vi i_6)), ⟨(upd aV 1 (.cells 1 (p_5.flatMap (ci .i64)) 0)), 64⟩⟩ ∧ zX m n_0 l_1 p_5 i_6 = some r) ?_ ?_
 ·
  refine ⟨_, ?_, n_0, l_1, [], 0, rfl, hm⟩
  refine St.Le.trans (kH 5 900005 1 Z1 Z5) ?_
  exact cn (fun j => bif j == 1 then 900005 else 0)
 rintro n1 s ⟨n_0, l_1, p_5, i_6, rfl, hm⟩
 refine W ?_
 refine cm hm (fun hm => ?_) fun hm => ?_
 ·
  refine W ?_
  refine aL (CFi .i64) [i_6] ?_
  obtain ⟨l2, h1, hm⟩ := bnd hm
  refine W ?_
  exact Lr (fun j => bif j == 1 then 131 else 0)
 refine W ?_
 refine lp (fun m s => ∃ l_1 p_5 fY, s = ⟨66, (aE (aE (aE fa 1 (vl aO l_1)) 5 (.own 1 0 p_5.length)) 7 (vb fY)), ⟨(upd aV 1 (.cells 1 (p_5.flatMap (ci .i64)) 0)), 64⟩⟩ ∧ iI m l_1 p_5 fY = some r) (Lr (fun j => bif j == 1 then 1 else 0)) ?_
 rintro n2 s ⟨l_1, p_5, fY, rfl, hm⟩
 refine W ?_
 refine cm hm (fun hm => ?_) fun hm => ?_
 ·
  refine W ?_
  refine lp (fun m s => ∃ l_1 p_5 fY i_8, s = ⟨66, (aE (aE (aE (aE fa 1 (vl aO l_1)) 5 (.own 1 0 p_5.length)) 7 (vb fY)) 8 (vi i_8)), ⟨(upd aV 1 (.cells 1 (p_5.flatMap (ci .i64)) 0)), 64⟩⟩ ∧ iJ (iI n2) m l_1 p_5 fY i_8 = some r) (Lr (fun j => bif j == 1 then 1 else 0)) ?_
  rintro n3 s ⟨l_1, p_5, fY, i_8, rfl, hm⟩
  refine W ?_
  refine cm hm (fun hm => ?_) fun hm => ?_
  ·
   refine V ?_
   refine AWp.seqJ (fun s => ∃ l_1 p_5 fY i_8, s = ⟨66, (aE (aE (aE (aE fa 1 (vl aO l_1)) 5 (.own 1 0 p_5.length)) 7 (vb fY)) 8 (vi i_8)), ⟨(upd aV 1 (.cells 1 (p_5.flatMap (ci .i64)) 0)), 64⟩⟩ ∧ aDx (iI n2) (iJ (iI n2) n3) l_1 p_5 fY i_8 = some r) ?_ ?_
   ·
    obtain ⟨x4, h3, hm⟩ := bnd hm
    obtain ⟨x6, h5, hm⟩ := bnd hm
    have hm := sb hm h3
    obtain ⟨x10, h9, hm⟩ := bnd hm
    refine V ?_
    refine AWp.seqJ (fun s => ∃ l_1 p_5 fY i_8 a_9 bF5, s = ⟨66, (aE (aE (aE (aE (aE (aE fa 1 (vl aO l_1)) 5 (.own 1 0 p_5.length)) 7 (vb fY)) 8 (vi i_8)) 9 (vi a_9)) 10 (vi bF5)), ⟨(upd aV 1 (.cells 1 (p_5.flatMap (ci .i64)) 0)), 64⟩⟩ ∧ aDy (iI n2) (iJ (iI n2) n3) l_1 p_5 fY i_8 a_9 bF5 = some r) ?_ ?_
    ·
     refine W ?_
     refine cm hm (fun hm => ?_) fun hm => ?_
     ·
      have hm := sb hm h3
      have hm := sb hm h9
      obtain ⟨l22, h21, hm⟩ := bnd hm
      refine W ?_
      have qh21 := jI h21
      refine aS h21 ?_
      refine W ?_
      exact Lr (fun j => bif j == 1 then 1 else 0)
     refine W ?_
     exact Lr (fun j => bif j == 1 then 1 else 0)
    rintro s ⟨l_1, p_5, fY, i_8, a_9, bF5, rfl, hm⟩
    refine W ?_
    refine cm hm (fun hm => ?_) fun hm => ?_
    ·
     obtain ⟨x12, h11, hm⟩ := bnd hm
     obtain ⟨x14, h13, hm⟩ := bnd hm
     obtain ⟨l16, h15, hm⟩ := bnd hm
     refine W ?_
     have qh15 := jI h15
     refine aS h15 ?_
     refine W ?_
     exact Lr (fun j => bif j == 1 then 1 else 0)
    refine W ?_
    exact Lr (fun j => bif j == 1 then 1 else 0)
   rintro s ⟨l_1, p_5, fY, i_8, rfl, hm⟩
   refine W ?_
   exact Lr (fun j => bif j == 1 then 1 else 0)
  refine W ?_
  exact Lr (fun j => bif j == 1 then 1 else 0)
 exact E
def jU (g_0 : aI) : Option ((List Int)) :=
 ((mH g_0.Edges g_0.Config.L).bind fun r2 =>
 ((aCc g_0.Config.N r2).bind fun r4 =>
 some r4))
theorem aGc {g_0 : aI} {r : (List Int)} (hm : jU g_0 = some r) : bC prog 58 [.agg [vi g_0.Config.N, vi g_0.Config.L, vi g_0.Config.R, vl bE g_0.Hashes, vl aO g_0.Edges]] (vl (ci .i64) r) := by
 refine bd 13 func58 ?_
 obtain ⟨r2, h1, hm⟩ := bnd hm
 refine W ?_
 refine cq (aHx h1) ?_
 obtain ⟨r4, h3, hm⟩ := bnd hm
 refine cq (aTd h3) ?_
 exact E
def aCd (g_0 : aI) : Option ((List Int)) :=
 ((aCc g_0.Config.N g_0.Edges).bind fun r2 =>
 some r2)
theorem bHz {g_0 : aI} {r : (List Int)} (hm : aCd g_0 = some r) : bC prog 59 [.agg [vi g_0.Config.N, vi g_0.Config.L, vi g_0.Config.R, vl bE g_0.Hashes, vl aO g_0.Edges]] (vl (ci .i64) r) := by
 refine bd 9 func59 ?_
 obtain ⟨r2, h1, hm⟩ := bnd hm
 refine W ?_
 refine cq (aTd h1) ?_
 exact E
def nZ (g_0 : aI) : Option ((List Int)) :=
 ((eW g_0).bind fun r2 =>
 (bif (!r2) then
  some []
 else
  ((gZ g_0.Config.N g_0.Edges g_0.Config.L).bind fun r4 =>
  ((sX g_0.Config.N r4).bind fun ⟨r6, r7⟩ =>
  some r6))))
theorem aNv {g_0 : aI} {r : (List Int)} (hm : nZ g_0 = some r) : bC prog 73 [.agg [vi g_0.Config.N, vi g_0.Config.L, vi g_0.Config.R, vl bE g_0.Hashes, vl aO g_0.Edges]] (vl (ci .i64) r) := by
 refine bd 25 func73 ?_
 obtain ⟨r2, h1, hm⟩ := bnd hm
 refine W ?_
 refine cq (iX h1) ?_
 refine W ?_
 refine cm hm (fun hm => ?_) fun hm => ?_
 · exact E
 obtain ⟨r4, h3, hm⟩ := bnd hm
 refine W ?_
 refine cq (qS h3) ?_
 obtain ⟨⟨r6, r7⟩, h5, hm⟩ := bnd hm
 refine cq (aKj h5) ?_
 exact E
def aG1 (rec1 : Int → Int → List aC → Int → Int → Option (Int × Bool)) (u_1 : Int) (v_2 : Int) (t10 : List aC) (t11 : Int) (t12 : Int) : Option (Int × Bool) :=
 (bif (decide (t12 < t11)) then
  ((idx t10 t12).bind fun x2 =>
  (bif (((x2.U == u_1) && (x2.V == v_2)) || ((x2.U == v_2) && (x2.V == u_1))) then
   some (t12, true)
  else
   rec1 u_1 v_2 t10 t11 (IntKind.i64.wrap (t12 + 1))))
 else
  some (0, false))
def wI : Nat → Int → Int → List aC → Int → Int → Option (Int × Bool)
 | 0 => fun _ _ _ _ _ => none
 | n + 1 => aG1 (wI n)
def nK (l_0 : List aC) (u_1 : Int) (v_2 : Int) : Option (Int × Bool) :=
 wI bF u_1 v_2 l_0 (l_0.length : Int) 0
theorem zR {l_0 : List aC} {u_1 : Int} {v_2 : Int} {r : Int × Bool} (hm : nK l_0 u_1 v_2 = some r) : bC prog 74 [vl aO l_0, vi u_1, vi v_2] (.tup [vi r.1, vb r.2]) := by
 refine bd 41 func74 ?_
 refine W ?_
 refine lp (fun m s => ∃ u_1 v_2 t10 t11 t12, s = ⟨41, (aE (aE (aE (aE (aE fa 1 (vi u_1)) 2 (vi v_2)) 10 (vl aO t10)) 11 (vi t11)) 12 (vi t12)), ⟨aV, 64⟩⟩ ∧ wI m u_1 v_2 t10 t11 t12 = some r) L ?_
 rintro n1 s ⟨u_1, v_2, t10, t11, t12, rfl, hm⟩
 refine W ?_
 refine cm hm (fun hm => ?_) fun hm => ?_
 ·
  obtain ⟨x2, h1, hm⟩ := bnd hm
  refine W ?_
  refine cm hm (fun hm => ?_) fun hm => ?_
  · exact E
  exact L
 exact E
def yJ (rec1 : List Int → Int → List Int → List Int → Int → Int → Option ((List Int))) (p_0 : List Int) (v_1 : Int) (lG : List Int) (t18 : List Int) (t19 : Int) (t20 : Int) : Option ((List Int)) :=
 rec1 p_0 v_1 lG t18 t19 (IntKind.i64.wrap (t20 + 1))
def aDl (rec1 : List Int → Int → List Int → List Int → Int → Int → Option ((List Int))) (p_0 : List Int) (v_1 : Int) (lG : List Int) (t18 : List Int) (t19 : Int) (t20 : Int) : Option ((List Int)) :=
 (bif (decide (t20 < t19)) then
  ((idx t18 t20).bind fun x6 =>
  ((idx p_0 v_1).bind fun x8 =>
  (bif (x6 == x8) then
   ((app lG [t20]).bind fun l10 =>
   yJ rec1 p_0 v_1 l10 t18 t19 t20)
  else
   yJ rec1 p_0 v_1 lG t18 t19 t20)))
 else
  some lG)
def oQ : Nat → List Int → Int → List Int → List Int → Int → Int → Option ((List Int))
 | 0 => fun _ _ _ _ _ _ => none
 | n + 1 => aDl (oQ n)
def rV (p_0 : List Int) (v_1 : Int) : Option ((List Int)) :=
 ((wK p_0).bind fun r2 =>
 ((eP ((!r2) == false) false (gL (p_0.length : Int) v_1)).bind fun r4 =>
 (bif ((!r2) || (!r4)) then
  some []
 else
  oQ bF p_0 v_1 [] p_0 (p_0.length : Int) 0)))
theorem aG6 {p_0 : List Int} {v_1 : Int} {r : (List Int)} (hm : rV p_0 v_1 = some r) : bC prog 78 [vl (ci .i64) p_0, vi v_1] (vl (ci .i64) r) := by
 refine bd 37 func78 ?_
 obtain ⟨r2, h1, hm⟩ := bnd hm
 refine W ?_
 refine cq (aNc h1) ?_
 obtain ⟨r4, h3, hm⟩ := bnd hm
 refine W ?_
 refine cg (fun hb => aAu (cK h3 hb)) ?_
 refine W ?_
 refine cm hm (fun hm => ?_) fun hm => ?_
 · exact E
 refine W ?_
 refine lp (fun m s => ∃ p_0 v_1 lG t18 t19 t20, s = ⟨37, (aE (aE (aE (aE (aE (aE fa 0 (vl (ci .i64) p_0)) 1 (vi v_1)) 5 (.own 1 0 lG.length)) 18 (vl (ci .i64) t18)) 19 (vi t19)) 20 (vi t20)), ⟨(upd aV 1 (.cells 1 (lG.flatMap (ci .i64)) 0)), 64⟩⟩ ∧ oQ m p_0 v_1 lG t18 t19 t20 = some r) ?_ ?_
 ·
  refine ⟨_, ?_, p_0, v_1, [], p_0, (p_0.length : Int), 0, rfl, hm⟩
  refine St.Le.trans (kH 5 900005 1 Z1 Z5) ?_
  exact cn (fun j => bif j == 1 then 900005 else 0)
 rintro n1 s ⟨p_0, v_1, lG, t18, t19, t20, rfl, hm⟩
 refine W ?_
 refine cm hm (fun hm => ?_) fun hm => ?_
 ·
  refine V ?_
  refine AWp.seqJ (fun s => ∃ p_0 v_1 lG t18 t19 t20, s = ⟨37, (aE (aE (aE (aE (aE (aE fa 0 (vl (ci .i64) p_0)) 1 (vi v_1)) 5 (.own 1 0 lG.length)) 18 (vl (ci .i64) t18)) 19 (vi t19)) 20 (vi t20)), ⟨(upd aV 1 (.cells 1 (lG.flatMap (ci .i64)) 0)), 64⟩⟩ ∧ yJ (oQ n1) p_0 v_1 lG t18 t19 t20 = some r) ?_ ?_
  ·
   obtain ⟨x6, h5, hm⟩ := bnd hm
   obtain ⟨x8, h7, hm⟩ := bnd hm
   refine W ?_
   refine cm hm (fun hm => ?_) fun hm => ?_
   ·
    refine W ?_
    refine aL (CFi .i64) [t20] ?_
    obtain ⟨l10, h9, hm⟩ := bnd hm
    refine W ?_
    exact Lr (fun j => bif j == 1 then 259 else 0)
   refine W ?_
   exact Lr (fun j => bif j == 1 then 1 else 0)
  rintro s ⟨p_0, v_1, lG, t18, t19, t20, rfl, hm⟩
  refine W ?_
  exact Lr (fun j => bif j == 1 then 1 else 0)
 exact E
def aH3 (g_0 : aI) : Option ((List Int)) :=
 ((eW g_0).bind fun r2 =>
 (bif (!r2) then
  some []
 else
  ((sX g_0.Config.N g_0.Edges).bind fun ⟨r4, r5⟩ =>
  some r4)))
theorem bF0 {g_0 : aI} {r : (List Int)} (hm : aH3 g_0 = some r) : bC prog 109 [.agg [vi g_0.Config.N, vi g_0.Config.L, vi g_0.Config.R, vl bE g_0.Hashes, vl aO g_0.Edges]] (vl (ci .i64) r) := by
 refine bd 18 func109 ?_
 obtain ⟨r2, h1, hm⟩ := bnd hm
 refine W ?_
 refine cq (iX h1) ?_
 refine W ?_
 refine cm hm (fun hm => ?_) fun hm => ?_
 · exact E
 refine W ?_
 obtain ⟨⟨r4, r5⟩, h3, hm⟩ := bnd hm
 refine cq (aKj h3) ?_
 exact E
def tU (rec1 : List Int → List Int → Int → Int → Option (Bool)) (aM6 : List Int) (aOg : List Int) (t12 : Int) (t13 : Int) : Option (Bool) :=
 (bif (decide (t13 < t12)) then
  ((idx aM6 t13).bind fun x2 =>
  ((idx aOg t13).bind fun x4 =>
  (bif (x2 != x4) then
   some false
  else
   rec1 aM6 aOg t12 (IntKind.i64.wrap (t13 + 1)))))
 else
  some true)
def jX : Nat → List Int → List Int → Int → Int → Option (Bool)
 | 0 => fun _ _ _ _ => none
 | n + 1 => tU (jX n)
def oU (aM6 : List Int) (aOg : List Int) : Option (Bool) :=
 (bif ((aM6.length : Int) != (aOg.length : Int)) then
  some false
 else
  jX bF aM6 aOg (aM6.length : Int) 0)
theorem aMa {aM6 : List Int} {aOg : List Int} {r : Bool} (hm : oU aM6 aOg = some r) : bC prog 108 [vl (ci .i64) aM6, vl (ci .i64) aOg] (vb r) := by
 refine bd 26 func108 ?_
 refine W ?_
 refine cm hm (fun hm => ?_) fun hm => ?_
 · exact E
 refine W ?_
 refine lp (fun m s => ∃ aM6 aOg t12 t13, s = ⟨26, (aE (aE (aE (aE fa 0 (vl (ci .i64) aM6)) 1 (vl (ci .i64) aOg)) 12 (vi t12)) 13 (vi t13)), ⟨aV, 64⟩⟩ ∧ jX m aM6 aOg t12 t13 = some r) L ?_
 rintro n1 s ⟨aM6, aOg, t12, t13, rfl, hm⟩
 refine W ?_
 refine cm hm (fun hm => ?_) fun hm => ?_
 ·
  obtain ⟨x2, h1, hm⟩ := bnd hm
  obtain ⟨x4, h3, hm⟩ := bnd hm
  refine W ?_
  refine cm hm (fun hm => ?_) fun hm => ?_
  · exact E
  exact L
 exact E
def yB (g_0 : aI) : Option (Bool) :=
 ((eW g_0).bind fun r2 =>
 ((eP (r2 == true) [] (nZ g_0)).bind fun r4 =>
 ((eP (r2 == true) [] (aH3 g_0)).bind fun r6 =>
 ((eP (r2 == true) false (oU r4 r6)).bind fun r8 =>
 some (r2 && r8)))))
theorem aUh {g_0 : aI} {r : Bool} (hm : yB g_0 = some r) : bC prog 81 [.agg [vi g_0.Config.N, vi g_0.Config.L, vi g_0.Config.R, vl bE g_0.Hashes, vl aO g_0.Edges]] (vb r) := by
 refine bd 12 func81 ?_
 obtain ⟨r2, h1, hm⟩ := bnd hm
 refine W ?_
 refine cq (iX h1) ?_
 obtain ⟨r4, h3, hm⟩ := bnd hm
 refine W ?_
 refine cg (fun hb => aNv (cK h3 hb)) ?_
 obtain ⟨r6, h5, hm⟩ := bnd hm
 refine W ?_
 refine cg (fun hb => bF0 (cK h5 hb)) ?_
 obtain ⟨r8, h7, hm⟩ := bnd hm
 refine cg (fun hb => aMa (cK h7 hb)) ?_
 exact E
def fH (n_0 : Int) (v_1 : Int) : Option (Bool) :=
 some ((decide (0 ≤ v_1)) && (decide (v_1 < n_0)))
theorem kL {n_0 : Int} {v_1 : Int} {r : Bool} (hm : fH n_0 v_1 = some r) : bC prog 135 [vi n_0, vi v_1] (vb r) := by
 refine bd 12 func135 ?_
 exact E
def tX (rec1 : Int → List Int → List aC → Int → Int → Option ((List Int))) (v_2 : Int) (oZ : List Int) (t20 : List aC) (t21 : Int) (t22 : Int) : Option ((List Int)) :=
 rec1 v_2 oZ t20 t21 (IntKind.i64.wrap (t22 + 1))
def aEo (rec1 : Int → List Int → List aC → Int → Int → Option ((List Int))) (v_2 : Int) (oZ : List Int) (t20 : List aC) (t21 : Int) (t22 : Int) : Option ((List Int)) :=
 (bif (decide (t22 < t21)) then
  ((idx t20 t22).bind fun x6 =>
  (bif (v_2 == x6.U) then
   ((app oZ [x6.V]).bind fun l8 =>
   tX rec1 v_2 l8 t20 t21 t22)
  else
   (bif (v_2 == x6.V) then
    ((app oZ [x6.U]).bind fun l10 =>
    tX rec1 v_2 l10 t20 t21 t22)
   else
    tX rec1 v_2 oZ t20 t21 t22)))
 else
  some oZ)
def oV : Nat → Int → List Int → List aC → Int → Int → Option ((List Int))
 | 0 => fun _ _ _ _ _ => none
 | n + 1 => aEo (oV n)
def aGw (n_0 : Int) (l_1 : List aC) (v_2 : Int) : Option ((List Int)) :=
 ((hY n_0 l_1).bind fun r2 =>
 ((eP ((!r2) == false) false (fH n_0 v_2)).bind fun r4 =>
 (bif ((!r2) || (!r4)) then
  some []
 else
  oV bF v_2 [] l_1 (l_1.length : Int) 0)))
theorem aYz {n_0 : Int} {l_1 : List aC} {v_2 : Int} {r : (List Int)} (hm : aGw n_0 l_1 v_2 = some r) : bC prog 101 [vi n_0, vl aO l_1, vi v_2] (vl (ci .i64) r) := by
 refine bd 47 func101 ?_
 obtain ⟨r2, h1, hm⟩ := bnd hm
 refine W ?_
 refine cq (lR h1) ?_
 obtain ⟨r4, h3, hm⟩ := bnd hm
 refine W ?_
 refine cg (fun hb => kL (cK h3 hb)) ?_
 refine W ?_
 refine cm hm (fun hm => ?_) fun hm => ?_
 · exact E
 refine W ?_
 refine lp (fun m s => ∃ v_2 oZ t20 t21 t22, s = ⟨47, (aE (aE (aE (aE (aE fa 2 (vi v_2)) 7 (.own 1 0 oZ.length)) 20 (vl aO t20)) 21 (vi t21)) 22 (vi t22)), ⟨(upd aV 1 (.cells 1 (oZ.flatMap (ci .i64)) 0)), 64⟩⟩ ∧ oV m v_2 oZ t20 t21 t22 = some r) ?_ ?_
 ·
  refine ⟨_, ?_, v_2, [], l_1, (l_1.length : Int), 0, rfl, hm⟩
  refine St.Le.trans (kH 7 900007 1 Z1 Z5) ?_
  exact cn (fun j => bif j == 1 then 900007 else 0)
 rintro n1 s ⟨v_2, oZ, t20, t21, t22, rfl, hm⟩
 refine W ?_
 refine cm hm (fun hm => ?_) fun hm => ?_
 ·
  refine V ?_
  refine AWp.seqJ (fun s => ∃ v_2 oZ t20 t21 t22, s = ⟨47, (aE (aE (aE (aE (aE fa 2 (vi v_2)) 7 (.own 1 0 oZ.length)) 20 (vl aO t20)) 21 (vi t21)) 22 (vi t22)), ⟨(upd aV 1 (.cells 1 (oZ.flatMap (ci .i64)) 0)), 64⟩⟩ ∧ tX (oV n1) v_2 oZ t20 t21 t22 = some r) ?_ ?_
  ·
   obtain ⟨x6, h5, hm⟩ := bnd hm
   refine W ?_
   refine cm hm (fun hm => ?_) fun hm => ?_
   ·
    refine W ?_
    refine aL (CFi .i64) [x6.V] ?_
    obtain ⟨l8, h7, hm⟩ := bnd hm
    refine W ?_
    exact Lr (fun j => bif j == 1 then 324 else 0)
   refine W ?_
   refine cm hm (fun hm => ?_) fun hm => ?_
   ·
    refine W ?_
    refine aL (CFi .i64) [x6.U] ?_
    obtain ⟨l10, h9, hm⟩ := bnd hm
    refine W ?_
    exact Lr (fun j => bif j == 1 then 388 else 0)
   refine W ?_
   exact Lr (fun j => bif j == 1 then 1 else 0)
  rintro s ⟨v_2, oZ, t20, t21, t22, rfl, hm⟩
  refine W ?_
  exact Lr (fun j => bif j == 1 then 1 else 0)
 exact E
def wZ (g_0 : aI) (u_1 : Int) (v_2 : Int) : Option (Bool) :=
 ((eW g_0).bind fun r2 =>
 some ((((r2 && (decide (0 ≤ u_1))) && (decide (u_1 < g_0.Config.N))) && (decide (0 ≤ v_2))) && (decide (v_2 < g_0.Config.N))))
theorem aNu {g_0 : aI} {u_1 : Int} {v_2 : Int} {r : Bool} (hm : wZ g_0 u_1 v_2 = some r) : bC prog 115 [.agg [vi g_0.Config.N, vi g_0.Config.L, vi g_0.Config.R, vl bE g_0.Hashes, vl aO g_0.Edges], vi u_1, vi v_2] (vb r) := by
 refine bd 31 func115 ?_
 obtain ⟨r2, h1, hm⟩ := bnd hm
 refine W ?_
 refine cq (iX h1) ?_
 exact E
def jY (s_0 : List aC) : Option ((List aC)) :=
 some s_0
def mT (n_1 : Int) : Option ((List aC)) :=
 (bif (decide (0 < (IntKind.i64.wrap (n_1 - (IntKind.i64.wrap (((0 : Nat) : Int) - ((0 : Nat) : Int))))))) then
  ((chk (((0 : Nat) : Int) == 0)).bind fun _ =>
  ((chk (decide (0 < (IntKind.i64.wrap (n_1 - (IntKind.i64.wrap (((0 : Nat) : Int) - ((0 : Nat) : Int)))))) && decide ((IntKind.i64.wrap (n_1 - (IntKind.i64.wrap (((0 : Nat) : Int) - ((0 : Nat) : Int))))) ≤ 4294967296))).bind fun _ =>
  ((chk (((0 : Nat) : Int) == 0)).bind fun _ =>
  jY [])))
 else
  jY [])
def kW (n_1 : Int) : Option ((List aC)) :=
 (bif (decide (n_1 < 0)) then
  none
 else
  mT n_1)
theorem aMb {n_1 : Int} {r : (List aC)} (hm : kW n_1 = some r) : dO prog 167 [.v (.slice none 0 0), .v (.int .i64 n_1)] 3 (r.flatMap aO) r.length := by
 refine dO.of_body func167 rfl (cE.fmdat r) ?_
 simp only [ntmps167, List.length_cons, List.length_nil, Nat.reduceAdd, Nat.reduceSub, fL]
 unfold kW at hm
 refine sN 64 (pA ?_)
 refine fs (AWp.seqJ (fun s => ∃ (n_1 : Int), s = (⟨27, (aE (aE (fun _ => AV.any) 0 (.v (.slice none 0 0))) 1 (.v (.int .i64 n_1))), ⟨aV, 64⟩⟩ : St) ∧ mT n_1 = some r) ?_ ?_)
 ·
  refine sN 128 ?_
  iterate 2 refine pA ?_
  refine fs (AWp.condM hm Z1 (fun _ hm => ?_) (fun _ hm => ?_))
  ·
   cases hm
  ·
   refine AWp.skip (aNa ?_)
   refine ⟨_, ?_, n_1, rfl, hm⟩
   exact dV id (wV (wV fE)) aV0
 ·
  rintro s ⟨n_1, rfl, hm⟩
  unfold mT at hm
  refine AWp.seqJ (fun s => ∃ (s_0 : List aC), s = (⟨27, (aE (fun _ => AV.any) 0 (.own 1 0 s_0.length)), ⟨(upd aV 1 (.cells 3 (s_0.flatMap aO) 0)), 64⟩⟩ : St) ∧ jY s_0 = some r) ?_ ?_
  ·
   refine sN 128 ?_
   iterate 2 refine pA ?_
   refine pu rfl (bDh underlying28 Z1) ?_
   iterate 5 refine pA ?_
   refine fs (sN 192 ?_)
   iterate 2 refine pA ?_
   refine fs (AWp.condM hm Z1 (fun _ hm => ?_) (fun _ hm => ?_))
   ·
    refine AWp.reg 64 (N' := 256) rfl ?_
    iterate 2 refine pA ?_
    refine pu rfl (bDh underlying28 Z1) ?_
    obtain ⟨_, h3, hm⟩ := bnd hm
    refine pu rfl (bIr underlying28 aCi Z1 Z1 (eq_of_beq (pZ h3))) ?_
    refine pA ?_
    obtain ⟨_, h4, hm⟩ := bnd hm
    refine hp (id := 197) rfl rfl (bMj underlying28 underlying3 rfl bDv bEq (by rw [aNt]; decide) (by rw [aNt]; decide) bEr Zd Zd Z1 Z1 Z5 h4) ?_
    iterate 2 refine pA ?_
    obtain ⟨_, h8, hm⟩ := bnd hm
    refine pu rfl (bMq underlying28 aCi Z1 Z3 Z1 (eq_of_beq (pZ h8))) ?_
    refine pA ?_
    refine aW.fin (aNa ?_)
    refine ⟨_, ?_, [], rfl, hm⟩
    refine St.Le.trans (bP4 197 Z3) ?_
    exact dV (fun j => bif j == 1 then 197 else 0) (wO fE) (hW (eU cE gC))
   ·
    refine AWp.skip (aNa ?_)
    refine ⟨_, ?_, [], rfl, hm⟩
    refine St.Le.trans (kH 0 900000 3 Z1 Z5) ?_
    exact dV (fun j => bif j == 1 then 900000 else 0) (wO fE) (hW (eU cE gC))
  ·
   rintro s ⟨s_0, rfl, hm⟩
   unfold jY at hm
   refine sN 128 ?_
   iterate 2 refine pA ?_
   refine fs (AWp.ret ?_)
   cases hm
   exact aKq (.inr rfl) Tryz.results167 Z1 Z3 Z6
def pO (rec1 : List (List aC) → Int → List (List aC) → Int → Int → Option ((List aC))) (fG : List (List aC)) (uS : Int) (t9 : List (List aC)) (t10 : Int) (t11 : Int) : Option ((List aC)) :=
 rec1 fG uS t9 t10 (IntKind.i64.wrap (t11 + 1))
def pH (rec2 : List aC → List (List aC) → Int → Int → Option ((List aC))) (rK : List aC) (t25 : List (List aC)) (t26 : Int) (t27 : Int) : Option ((List aC)) :=
 (bif (decide (t27 < t26)) then
  ((idx t25 t27).bind fun x6 =>
  ((app rK x6).bind fun l8 =>
  rec2 l8 t25 t26 (IntKind.i64.wrap (t27 + 1))))
 else
  some rK)
def iP : Nat → List aC → List (List aC) → Int → Int → Option ((List aC))
 | 0 => fun _ _ _ _ => none
 | n + 1 => pH (iP n)
def pF (rec1 : List (List aC) → Int → List (List aC) → Int → Int → Option ((List aC))) (fG : List (List aC)) (uS : Int) (t9 : List (List aC)) (t10 : Int) (t11 : Int) : Option ((List aC)) :=
 (bif (decide (t11 < t10)) then
  ((idx t9 t11).bind fun x2 =>
  (bif (decide ((IntKind.i64.wrap (uS + (x2.length : Int))) < 0)) then
   none
  else
   pO rec1 fG (IntKind.i64.wrap (uS + (x2.length : Int))) t9 t10 t11))
 else
  ((kW uS).bind fun r4 =>
  iP bF r4 fG (fG.length : Int) 0))
def gI : Nat → List (List aC) → Int → List (List aC) → Int → Int → Option ((List aC))
 | 0 => fun _ _ _ _ _ => none
 | n + 1 => pF (gI n)
def jF (fG : List (List aC)) : Option ((List aC)) :=
 gI bF fG 0 fG (fG.length : Int) 0
theorem aAa {fG : List (List aC)} {r : (List aC)} (hm : jF fG = some r) : bC prog 140 [.sl (fG.flatMap (csl aO)) fG.length false] (vl aO r) := by
 refine bd 36 func140 ?_
 refine W ?_
 refine lp (fun m s => ∃ fG uS t9 t10 t11, s = ⟨36, (aE (aE (aE (aE (aE fa 0 (.sl (fG.flatMap (csl aO)) fG.length false)) 3 (vi uS)) 9 (.sl (t9.flatMap (csl aO)) t9.length false)) 10 (vi t10)) 11 (vi t11)), ⟨aV, 64⟩⟩ ∧ gI m fG uS t9 t10 t11 = some r) L ?_
 rintro n1 s ⟨fG, uS, t9, t10, t11, rfl, hm⟩
 refine W ?_
 refine cm hm (fun hm => ?_) fun hm => ?_
 ·
  refine V ?_
  refine AWp.seqJ (fun s => ∃ fG uS t9 t10 t11, s = ⟨36, (aE (aE (aE (aE (aE fa 0 (.sl (fG.flatMap (csl aO)) fG.length false)) 3 (vi uS)) 9 (.sl (t9.flatMap (csl aO)) t9.length false)) 10 (vi t10)) 11 (vi t11)), ⟨aV, 64⟩⟩ ∧ pO (gI n1) fG uS t9 t10 t11 = some r) ?_ ?_
  ·
   obtain ⟨x2, h1, hm⟩ := bnd hm
   refine W ?_
   refine cm hm (fun hm => ?_) fun hm => ?_
   · cases hm
   exact L
  rintro s ⟨fG, uS, t9, t10, t11, rfl, hm⟩
  exact L
 obtain ⟨r4, h3, hm⟩ := bnd hm
 refine W ?_
 refine aW.callF (id := 129) Zd Z1 bT7 (fun H => (cV (cV .nil))) cE Z5 (aMb h3) ?_
 refine W ?_
 refine lp (fun m s => ∃ rK t25 t26 t27, s = ⟨36, (aE (aE (aE (aE fa 6 (.own 1 0 rK.length)) 25 (.sl (t25.flatMap (csl aO)) t25.length false)) 26 (vi t26)) 27 (vi t27)), ⟨(upd aV 1 (.cells 3 (rK.flatMap aO) 0)), 64⟩⟩ ∧ iP m rK t25 t26 t27 = some r) (Lr (fun j => bif j == 1 then 129 else 0)) ?_
 rintro n2 s ⟨rK, t25, t26, t27, rfl, hm⟩
 refine W ?_
 refine cm hm (fun hm => ?_) fun hm => ?_
 ·
  obtain ⟨x6, h5, hm⟩ := bnd hm
  obtain ⟨l8, h7, hm⟩ := bnd hm
  refine W ?_
  exact Lr (fun j => bif j == 1 then 194 else 0)
 exact E
def aGv (rec1 : List aC → aC → Int → Option ((List aC) × Int)) (l_1 : List aC) (dY : aC) (jT : Int) : Option ((List aC) × Int) :=
 ((eP ((decide (jT < (l_1.length : Int))) == true) (aC.mk 0 0 0) (idx l_1 jT)).bind fun x11 =>
 ((eP ((decide (jT < (l_1.length : Int))) == true) false (uO x11 dY)).bind fun r13 =>
 (bif ((decide (jT < (l_1.length : Int))) && r13) then
  rec1 l_1 dY (IntKind.i64.wrap (jT + 1))
 else
  ((slc l_1 0 jT).bind fun l15 =>
  ((slc l_1 jT (l_1.length : Int)).bind fun l17 =>
  ((jF [l15, [dY], l17]).bind fun r19 =>
  some (r19, 0)))))))
def wY : Nat → List aC → aC → Int → Option ((List aC) × Int)
 | 0 => fun _ _ _ => none
 | n + 1 => aGv (wY n)
def aEn (n_0 : Int) (l_1 : List aC) (u_2 : Int) (v_3 : Int) : Option ((List aC) × Int) :=
 ((hY n_0 l_1).bind fun r2 =>
 ((eP ((!r2) == false) false (fH n_0 u_2)).bind fun r4 =>
 ((eP (((!r2) || (!r4)) == false) false (fH n_0 v_3)).bind fun r6 =>
 (bif (((!r2) || (!r4)) || (!r6)) then
  some (l_1, 1)
 else
  (bif (u_2 == v_3) then
   some (l_1, 8)
  else
   ((nK l_1 u_2 v_3).bind fun ⟨r8, r9⟩ =>
   (bif r9 then
    some (l_1, 4)
   else
    wY bF l_1 (aC.mk (if v_3 < u_2 then v_3 else u_2) (if u_2 < v_3 then v_3 else u_2) 0) 0)))))))
theorem bD3 {n_0 : Int} {l_1 : List aC} {u_2 : Int} {v_3 : Int} {r : (List aC) × Int} (hm : aEn n_0 l_1 u_2 v_3 = some r) : bC prog 116 [vi n_0, vl aO l_1, vi u_2, vi v_3] (.tup [vl aO r.1, vi r.2]) := by
 refine bd 75 func116 ?_
 obtain ⟨r2, h1, hm⟩ := bnd hm
 refine W ?_
 refine cq (lR h1) ?_
 obtain ⟨r4, h3, hm⟩ := bnd hm
 refine W ?_
 refine cg (fun hb => kL (cK h3 hb)) ?_
 obtain ⟨r6, h5, hm⟩ := bnd hm
 refine W ?_
 refine cg (fun hb => kL (cK h5 hb)) ?_
 refine W ?_
 refine cm hm (fun hm => ?_) fun hm => ?_
 · exact E
 refine W ?_
 refine cm hm (fun hm => ?_) fun hm => ?_
 · exact E
 refine W ?_
 obtain ⟨⟨r8, r9⟩, h7, hm⟩ := bnd hm
 refine cq (zR h7) ?_
 refine W ?_
 refine cm hm (fun hm => ?_) fun hm => ?_
 · exact E
 refine W ?_
 refine bU (.agg [.v (.int .i64 (if v_3 < u_2 then v_3 else u_2)), .v (.int .i64 (if u_2 < v_3 then v_3 else u_2)), vi 0]) ?_
 refine W ?_
 refine lp (fun m s => ∃ l_1 dY jT, s = ⟨75, (aE (aE (aE fa 1 (vl aO l_1)) 12 (.adr 1 0)) 13 (vi jT)), ⟨(upd aV 1 (.cells 1 [vi dY.U, vi dY.V, vi dY.Tier] 0)), 64⟩⟩ ∧ wY m l_1 dY jT = some r) (Lr (fun j => bif j == 1 then 327 else 0)) ?_
 rintro n1 s ⟨l_1, dY, jT, rfl, hm⟩
 obtain ⟨x11, h10, hm⟩ := bnd hm
 obtain ⟨r13, h12, hm⟩ := bnd hm
 refine W ?_
 refine cg (fun hb => aIr (cK h12 hb)) ?_
 refine W ?_
 refine cm hm (fun hm => ?_) fun hm => ?_
 ·
  refine W ?_
  exact Lr (fun j => bif j == 1 then 1 else 0)
 obtain ⟨l15, h14, hm⟩ := bnd hm
 iterate 10 refine S1 ?_
 refine aW.pop Zd (aAp (ps := [(0, .agg [.v (.int .i64 dY.U), .v (.int .i64 dY.V), .v (.int .i64 dY.Tier)])]) (by simp only [go_sem, Nat.reduceBEq]; try rfl) (sL (.agg _ (cE.dat dY)) aOn)) (aKl cE (l := [dY]) (xs := [.v (.int .i64 dY.U), .v (.int .i64 dY.V), .v (.int .i64 dY.Tier)]) underlying28 aCi aTy Zd Zd Zd (ps := [(0, .agg [.v (.int .i64 dY.U), .v (.int .i64 dY.V), .v (.int .i64 dY.Tier)])]) (by simp only [go_sem, Nat.reduceBEq]; try rfl) (by kernel_rfl) (fun H => (.cons (.data _ (.v _)) (.cons (.data _ (.v _)) (.cons (.data _ (.v _)) .nil))))) rfl ?_
 obtain ⟨l17, h16, hm⟩ := bnd hm
 iterate 3 refine S1 ?_
 refine aW.pop Zd (aAp (ps := [(0, .sl (l15.flatMap aO) l15.length (false && (jT : Int).toNat == l_1.length)), (1, .sl (([dY]).flatMap aO) ([dY]).length false), (2, .sl (l17.flatMap aO) l17.length (false && ((l_1.length : Int) : Int).toNat == l_1.length))]) (by simp only [go_sem, Nat.reduceBEq]; try rfl) (sL (cE.sl _ _ _) (sL (cE.sl _ _ _) (sL (cE.sl _ _ _) aOn)))) (aKl (CFl cE) (l := [l15, [dY], l17]) (xs := [.sl (l15.flatMap aO) l15.length (false && (jT : Int).toNat == l_1.length), .sl (([dY]).flatMap aO) ([dY]).length false, .sl (l17.flatMap aO) l17.length (false && ((l_1.length : Int) : Int).toNat == l_1.length)]) underlying225 bRz bSa Zd Zd Zd (ps := [(0, .sl (l15.flatMap aO) l15.length (false && (jT : Int).toNat == l_1.length)), (1, .sl (([dY]).flatMap aO) ([dY]).length false), (2, .sl (l17.flatMap aO) l17.length (false && ((l_1.length : Int) : Int).toNat == l_1.length))]) (by simp only [go_sem, Nat.reduceBEq]; try rfl) (by kernel_rfl) (fun H => (.cons (tdf rfl (cE.sl _ _ _)) (.cons (.data _ (cE.sl _ _ _)) (.cons (tdf rfl (cE.sl _ _ _)) .nil))))) rfl ?_
 obtain ⟨r19, h18, hm⟩ := bnd hm
 refine cq (aAa h18) ?_
 exact E
def vL (n_0 : Int) (l_1 : List aC) (u_2 : Int) (v_3 : Int) : Option ((List aC) × Int) :=
 ((hY n_0 l_1).bind fun r2 =>
 ((eP ((!r2) == false) false (fH n_0 u_2)).bind fun r4 =>
 ((eP (((!r2) || (!r4)) == false) false (fH n_0 v_3)).bind fun r6 =>
 (bif (((!r2) || (!r4)) || (!r6)) then
  some (l_1, 1)
 else
  ((nK l_1 u_2 v_3).bind fun ⟨r8, r9⟩ =>
  (bif (!r9) then
   some (l_1, 9)
  else
   ((slc l_1 0 r8).bind fun l11 =>
   ((slc l_1 (IntKind.i64.wrap (r8 + 1)) (l_1.length : Int)).bind fun l13 =>
   ((jF [l11, l13]).bind fun r15 =>
   some (r15, 0))))))))))
theorem aSh {n_0 : Int} {l_1 : List aC} {u_2 : Int} {v_3 : Int} {r : (List aC) × Int} (hm : vL n_0 l_1 u_2 v_3 = some r) : bC prog 118 [vi n_0, vl aO l_1, vi u_2, vi v_3] (.tup [vl aO r.1, vi r.2]) := by
 refine bd 48 func118 ?_
 obtain ⟨r2, h1, hm⟩ := bnd hm
 refine W ?_
 refine cq (lR h1) ?_
 obtain ⟨r4, h3, hm⟩ := bnd hm
 refine W ?_
 refine cg (fun hb => kL (cK h3 hb)) ?_
 obtain ⟨r6, h5, hm⟩ := bnd hm
 refine W ?_
 refine cg (fun hb => kL (cK h5 hb)) ?_
 refine W ?_
 refine cm hm (fun hm => ?_) fun hm => ?_
 · exact E
 refine W ?_
 obtain ⟨⟨r8, r9⟩, h7, hm⟩ := bnd hm
 refine cq (zR h7) ?_
 refine W ?_
 refine cm hm (fun hm => ?_) fun hm => ?_
 · exact E
 obtain ⟨l11, h10, hm⟩ := bnd hm
 obtain ⟨l13, h12, hm⟩ := bnd hm
 iterate 10 refine S1 ?_
 refine aW.pop Zd (aAp (ps := [(0, .sl (l11.flatMap aO) l11.length (false && (r8 : Int).toNat == l_1.length)), (1, .sl (l13.flatMap aO) l13.length (false && ((l_1.length : Int) : Int).toNat == l_1.length))]) (by simp only [go_sem, Nat.reduceBEq]; try rfl) (sL (cE.sl _ _ _) (sL (cE.sl _ _ _) aOn))) (aKl (CFl cE) (l := [l11, l13]) (xs := [.sl (l11.flatMap aO) l11.length (false && (r8 : Int).toNat == l_1.length), .sl (l13.flatMap aO) l13.length (false && ((l_1.length : Int) : Int).toNat == l_1.length)]) underlying225 bRz bSa Zd Zd Zd (ps := [(0, .sl (l11.flatMap aO) l11.length (false && (r8 : Int).toNat == l_1.length)), (1, .sl (l13.flatMap aO) l13.length (false && ((l_1.length : Int) : Int).toNat == l_1.length))]) (by simp only [go_sem, Nat.reduceBEq]; try rfl) (by kernel_rfl) (fun H => (.cons (tdf rfl (cE.sl _ _ _)) (.cons (tdf rfl (cE.sl _ _ _)) .nil)))) rfl ?_
 obtain ⟨r15, h14, hm⟩ := bnd hm
 refine cq (aAa h14) ?_
 exact E
def uP (a_0 : Int) (b_1 : Int) : Option (Int) :=
 some (Int.tmod (IntKind.u64.wrap ((Int.tmod a_0 2305843009213693951) + (Int.tmod b_1 2305843009213693951))) 2305843009213693951)
theorem aIu {a_0 : Int} {b_1 : Int} {r : Int} (hm : uP a_0 b_1 = some r) : bC prog 123 [vu a_0, vu b_1] (vu r) := by
 refine bd 11 func123 ?_
 exact E
def aAv (rec1 : Int → Int → Int → Int → Option (Int)) (a_0 : Int) (b_1 : Int) (cJ : Int) (i_6 : Int) : Option (Int) :=
 rec1 a_0 b_1 cJ (IntKind.i64.wrap (i_6 - 1))
def wN (rec1 : Int → Int → Int → Int → Option (Int)) (a_0 : Int) (b_1 : Int) (cJ : Int) (i_6 : Int) : Option (Int) :=
 (bif (decide (0 ≤ i_6)) then
  ((uP cJ cJ).bind fun r2 =>
  ((chk (decide (0 ≤ (IntKind.u64.wrap i_6)))).bind fun _ =>
  (bif ((Int.tmod (shr .u64 b_1 (IntKind.u64.wrap i_6)) 2) == 1) then
   ((uP r2 a_0).bind fun r5 =>
   aAv rec1 a_0 b_1 r5 i_6)
  else
   aAv rec1 a_0 b_1 r2 i_6)))
 else
  some cJ)
def nL : Nat → Int → Int → Int → Int → Option (Int)
 | 0 => fun _ _ _ _ => none
 | n + 1 => wN (nL n)
def aDs (a_0 : Int) (b_1 : Int) : Option (Int) :=
 nL bF (Int.tmod a_0 2305843009213693951) (Int.tmod b_1 2305843009213693951) 0 60
theorem bCt {a_0 : Int} {b_1 : Int} {r : Int} (hm : aDs a_0 b_1 = some r) : bC prog 124 [vu a_0, vu b_1] (vu r) := by
 refine bd 28 func124 ?_
 refine W ?_
 refine lp (fun m s => ∃ a_0 b_1 cJ i_6, s = ⟨28, (aE (aE (aE (aE fa 0 (vu a_0)) 1 (vu b_1)) 5 (vu cJ)) 6 (vi i_6)), ⟨aV, 64⟩⟩ ∧ nL m a_0 b_1 cJ i_6 = some r) L ?_
 rintro n1 s ⟨a_0, b_1, cJ, i_6, rfl, hm⟩
 refine W ?_
 refine cm hm (fun hm => ?_) fun hm => ?_
 ·
  refine V ?_
  refine AWp.seqJ (fun s => ∃ a_0 b_1 cJ i_6, s = ⟨28, (aE (aE (aE (aE fa 0 (vu a_0)) 1 (vu b_1)) 5 (vu cJ)) 6 (vi i_6)), ⟨aV, 64⟩⟩ ∧ aAv (nL n1) a_0 b_1 cJ i_6 = some r) ?_ ?_
  ·
   obtain ⟨r2, h1, hm⟩ := bnd hm
   refine W ?_
   refine cq (aIu h1) ?_
   obtain ⟨_, h3, hm⟩ := bnd hm
   refine W ?_
   refine cm hm (fun hm => ?_) fun hm => ?_
   ·
    obtain ⟨r5, h4, hm⟩ := bnd hm
    refine W ?_
    refine cq (aIu h4) ?_
    exact L
   exact L
  rintro s ⟨a_0, b_1, cJ, i_6, rfl, hm⟩
  exact L
 exact E
def aAo (n_0 : Int) : Option (Int) :=
 some (Int.tmod n_0 2305843009213693951)
theorem aOt {n_0 : Int} {r : Int} (hm : aAo n_0 = some r) : bC prog 164 [vu n_0] (vu r) := by
 refine bd 5 func164 ?_
 exact E
def aFz (a_0 : Int) (b_1 : Int) : Option (Int) :=
 ((aAo a_0).bind fun r2 =>
 ((aAo b_1).bind fun r4 =>
 some (Int.tmod (IntKind.u64.wrap (r2 + r4)) 2305843009213693951)))
theorem aY1 {a_0 : Int} {b_1 : Int} {r : Int} (hm : aFz a_0 b_1 = some r) : bC prog 138 [vu a_0, vu b_1] (vu r) := by
 refine bd 11 func138 ?_
 obtain ⟨r2, h1, hm⟩ := bnd hm
 refine W ?_
 refine cq (aOt h1) ?_
 obtain ⟨r4, h3, hm⟩ := bnd hm
 refine W ?_
 refine cq (aOt h3) ?_
 exact E
def aAk (x_0 : Int) (y_1 : Int) : Option (Int × Int) :=
 some ((IntKind.u64.wrap ((IntKind.u64.wrap ((IntKind.u64.wrap ((shr .u64 x_0 32) * (shr .u64 y_1 32))) + (shr .u64 (IntKind.u64.wrap ((IntKind.u64.wrap ((shr .u64 x_0 32) * (aF8 .u64 y_1 4294967295))) + (shr .u64 (IntKind.u64.wrap ((aF8 .u64 x_0 4294967295) * (aF8 .u64 y_1 4294967295))) 32))) 32))) + (shr .u64 (IntKind.u64.wrap ((aF8 .u64 (IntKind.u64.wrap ((IntKind.u64.wrap ((shr .u64 x_0 32) * (aF8 .u64 y_1 4294967295))) + (shr .u64 (IntKind.u64.wrap ((aF8 .u64 x_0 4294967295) * (aF8 .u64 y_1 4294967295))) 32))) 4294967295) + (IntKind.u64.wrap ((aF8 .u64 x_0 4294967295) * (shr .u64 y_1 32))))) 32))), (IntKind.u64.wrap (x_0 * y_1)))
theorem aWx {x_0 : Int} {y_1 : Int} {r : Int × Int} (hm : aAk x_0 y_1 = some r) : bC prog 165 [vu x_0, vu y_1] (.tup [vu r.1, vu r.2]) := by
 refine bd 51 func165 ?_
 exact E
def aCt (x_0 : Int) (n_2 : Int) : Option (Int) :=
 ((aYt bJe (IntKind.u8.wrap x_0)).bind fun b2 =>
 some (IntKind.i64.wrap (n_2 + (IntKind.i64.wrap b2))))
def aCs (x_0 : Int) (n_2 : Int) : Option (Int) :=
 (bif (decide (256 ≤ x_0)) then
  aCt (shr .u64 x_0 8) (IntKind.i64.wrap (n_2 + 8))
 else
  aCt x_0 n_2)
def aCr (x_0 : Int) (n_2 : Int) : Option (Int) :=
 (bif (decide (65536 ≤ x_0)) then
  aCs (shr .u64 x_0 16) (IntKind.i64.wrap (n_2 + 16))
 else
  aCs x_0 n_2)
def aFa (x_0 : Int) : Option (Int) :=
 (bif (decide (4294967296 ≤ x_0)) then
  aCr (shr .u64 x_0 32) 32
 else
  aCr x_0 0)
theorem aMt {x_0 : Int} {r : Int} (hm : aFa x_0 = some r) : bC prog 155 [vu x_0] (vi r) := by
 refine bd 25 func155 ?_
 refine V ?_
 refine AWp.seqJ (fun s => ∃ x_0 n_2, s = ⟨25, (aE (aE fa 0 (vu x_0)) 2 (vi n_2)), ⟨aV, 64⟩⟩ ∧ aCr x_0 n_2 = some r) ?_ ?_
 ·
  refine W ?_
  refine cm hm (fun hm => ?_) fun hm => ?_
  · exact L
  exact L
 rintro s ⟨x_0, n_2, rfl, hm⟩
 refine AWp.seqJ (fun s => ∃ x_0 n_2, s = ⟨25, (aE (aE fa 0 (vu x_0)) 2 (vi n_2)), ⟨aV, 64⟩⟩ ∧ aCs x_0 n_2 = some r) ?_ ?_
 ·
  refine W ?_
  refine cm hm (fun hm => ?_) fun hm => ?_
  · exact L
  exact L
 rintro s ⟨x_0, n_2, rfl, hm⟩
 refine AWp.seqJ (fun s => ∃ x_0 n_2, s = ⟨25, (aE (aE fa 0 (vu x_0)) 2 (vi n_2)), ⟨aV, 64⟩⟩ ∧ aCt x_0 n_2 = some r) ?_ ?_
 ·
  refine W ?_
  refine cm hm (fun hm => ?_) fun hm => ?_
  · exact L
  exact L
 rintro s ⟨x_0, n_2, rfl, hm⟩
 obtain ⟨b2, h1, hm⟩ := bnd hm
 exact E
def mW (x_0 : Int) : Option (Int) :=
 ((aFa x_0).bind fun r2 =>
 some (IntKind.i64.wrap (64 - r2)))
theorem aF9 {x_0 : Int} {r : Int} (hm : mW x_0 = some r) : bC prog 196 [vu x_0] (vi r) := by
 refine bd 6 func196 ?_
 obtain ⟨r2, h1, hm⟩ := bnd hm
 refine W ?_
 refine cq (aMt h1) ?_
 exact E
def sG (y_2 : Int) (s_8 : Int) (gM : Int) (iN : Int) (oW : Int) (xY : Int) : Option (Int × Int) :=
 ((chk (decide (0 ≤ s_8))).bind fun _ =>
 some ((IntKind.u64.wrap ((IntKind.u64.wrap (iN * 4294967296)) + xY)), (shr .u64 (IntKind.u64.wrap ((IntKind.u64.wrap ((IntKind.u64.wrap (oW * 4294967296)) + gM)) - (IntKind.u64.wrap (xY * y_2)))) s_8)))
def aCn (rec1 : Int → Int → Int → Int → Int → Int → Int → Int → Int → Option (Int × Int)) (y_2 : Int) (s_8 : Int) (kZ : Int) (kM : Int) (gM : Int) (iN : Int) (lN : Int) (oW : Int) (xY : Int) : Option (Int × Int) :=
 (bif ((decide (4294967296 ≤ xY)) || (decide ((IntKind.u64.wrap ((IntKind.u64.wrap (4294967296 * lN)) + gM)) < (IntKind.u64.wrap (xY * kM))))) then
  (bif (decide (4294967296 ≤ (IntKind.u64.wrap (lN + kZ)))) then
   sG y_2 s_8 gM iN oW (IntKind.u64.wrap (xY - 1))
  else
   rec1 y_2 s_8 kZ kM gM iN (IntKind.u64.wrap (lN + kZ)) oW (IntKind.u64.wrap (xY - 1)))
 else
  sG y_2 s_8 gM iN oW xY)
def oF : Nat → Int → Int → Int → Int → Int → Int → Int → Int → Int → Option (Int × Int)
 | 0 => fun _ _ _ _ _ _ _ _ _ => none
 | n + 1 => aCn (oF n)
def oE (y_2 : Int) (s_8 : Int) (kZ : Int) (kM : Int) (kO : Int) (oB : Int) (gM : Int) (iN : Int) : Option (Int × Int) :=
 ((chk (kZ != 0)).bind fun _ =>
 oF bF y_2 s_8 kZ kM gM iN (IntKind.u64.wrap ((IntKind.u64.wrap ((IntKind.u64.wrap ((IntKind.u64.wrap (kO * 4294967296)) + oB)) - (IntKind.u64.wrap (iN * y_2)))) - (IntKind.u64.wrap ((IntKind.u64.wrap (Int.tdiv (IntKind.u64.wrap ((IntKind.u64.wrap ((IntKind.u64.wrap (kO * 4294967296)) + oB)) - (IntKind.u64.wrap (iN * y_2)))) kZ)) * kZ)))) (IntKind.u64.wrap ((IntKind.u64.wrap ((IntKind.u64.wrap (kO * 4294967296)) + oB)) - (IntKind.u64.wrap (iN * y_2)))) (IntKind.u64.wrap (Int.tdiv (IntKind.u64.wrap ((IntKind.u64.wrap ((IntKind.u64.wrap (kO * 4294967296)) + oB)) - (IntKind.u64.wrap (iN * y_2)))) kZ)))
def aCo (rec2 : Int → Int → Int → Int → Int → Int → Int → Int → Int → Option (Int × Int)) (y_2 : Int) (s_8 : Int) (kZ : Int) (kM : Int) (kO : Int) (oB : Int) (gM : Int) (iN : Int) (lN : Int) : Option (Int × Int) :=
 (bif ((decide (4294967296 ≤ iN)) || (decide ((IntKind.u64.wrap ((IntKind.u64.wrap (4294967296 * lN)) + oB)) < (IntKind.u64.wrap (iN * kM))))) then
  (bif (decide (4294967296 ≤ (IntKind.u64.wrap (lN + kZ)))) then
   oE y_2 s_8 kZ kM kO oB gM (IntKind.u64.wrap (iN - 1))
  else
   rec2 y_2 s_8 kZ kM kO oB gM (IntKind.u64.wrap (iN - 1)) (IntKind.u64.wrap (lN + kZ)))
 else
  oE y_2 s_8 kZ kM kO oB gM iN)
def oG : Nat → Int → Int → Int → Int → Int → Int → Int → Int → Int → Option (Int × Int)
 | 0 => fun _ _ _ _ _ _ _ _ _ => none
 | n + 1 => aCo (oG n)
def aCq (vZ : Int) (uA : Int) (y_2 : Int) : Option (Int × Int) :=
 (bif (vZ == 0) then
  ((chk (y_2 != 0)).bind fun _ =>
  ((chk (y_2 != 0)).bind fun _ =>
  some ((IntKind.u64.wrap (Int.tdiv uA y_2)), (Int.tmod uA y_2))))
 else
  ((mW y_2).bind fun r4 =>
  ((chk (decide (0 ≤ (IntKind.u64.wrap r4)))).bind fun _ =>
  ((chk (decide (0 ≤ (IntKind.u64.wrap r4)))).bind fun _ =>
  ((chk (decide (0 ≤ (IntKind.u64.wrap (64 - (IntKind.u64.wrap r4)))))).bind fun _ =>
  ((chk (decide (0 ≤ (IntKind.u64.wrap r4)))).bind fun _ =>
  ((chk ((shr .u64 (shl .u64 y_2 (IntKind.u64.wrap r4)) 32) != 0)).bind fun _ =>
  oG bF (shl .u64 y_2 (IntKind.u64.wrap r4)) (IntKind.u64.wrap r4) (shr .u64 (shl .u64 y_2 (IntKind.u64.wrap r4)) 32) (aF8 .u64 (shl .u64 y_2 (IntKind.u64.wrap r4)) 4294967295) (bor .u64 (shl .u64 vZ (IntKind.u64.wrap r4)) (shr .u64 uA (IntKind.u64.wrap (64 - (IntKind.u64.wrap r4))))) (shr .u64 (shl .u64 uA (IntKind.u64.wrap r4)) 32) (aF8 .u64 (shl .u64 uA (IntKind.u64.wrap r4)) 4294967295) (IntKind.u64.wrap (Int.tdiv (bor .u64 (shl .u64 vZ (IntKind.u64.wrap r4)) (shr .u64 uA (IntKind.u64.wrap (64 - (IntKind.u64.wrap r4))))) (shr .u64 (shl .u64 y_2 (IntKind.u64.wrap r4)) 32))) (IntKind.u64.wrap ((bor .u64 (shl .u64 vZ (IntKind.u64.wrap r4)) (shr .u64 uA (IntKind.u64.wrap (64 - (IntKind.u64.wrap r4))))) - (IntKind.u64.wrap ((IntKind.u64.wrap (Int.tdiv (bor .u64 (shl .u64 vZ (IntKind.u64.wrap r4)) (shr .u64 uA (IntKind.u64.wrap (64 - (IntKind.u64.wrap r4))))) (shr .u64 (shl .u64 y_2 (IntKind.u64.wrap r4)) 32))) * (shr .u64 (shl .u64 y_2 (IntKind.u64.wrap r4)) 32))))))))))))
def aCp (vZ : Int) (uA : Int) (y_2 : Int) : Option (Int × Int) :=
 (bif (decide (y_2 ≤ vZ)) then
  none
 else
  aCq vZ uA y_2)
def aAj (vZ : Int) (uA : Int) (y_2 : Int) : Option (Int × Int) :=
 (bif (y_2 == 0) then
  none
 else
  aCp vZ uA y_2)
theorem aWw {vZ : Int} {uA : Int} {y_2 : Int} {r : Int × Int} (hm : aAj vZ uA y_2 = some r) : bC prog 183 [vu vZ, vu uA, vu y_2] (.tup [vu r.1, vu r.2]) := by
 refine bd 135 func183 ?_
 refine V ?_
 refine AWp.seqJ (fun s => ∃ vZ uA y_2, s = ⟨135, (aE (aE (aE fa 0 (vu vZ)) 1 (vu uA)) 2 (vu y_2)), ⟨aV, 64⟩⟩ ∧ aCp vZ uA y_2 = some r) ?_ ?_
 ·
  refine W ?_
  refine cm hm (fun hm => ?_) fun hm => ?_
  · cases hm
  exact L
 rintro s ⟨vZ, uA, y_2, rfl, hm⟩
 refine AWp.seqJ (fun s => ∃ vZ uA y_2, s = ⟨135, (aE (aE (aE fa 0 (vu vZ)) 1 (vu uA)) 2 (vu y_2)), ⟨aV, 64⟩⟩ ∧ aCq vZ uA y_2 = some r) ?_ ?_
 ·
  refine W ?_
  refine cm hm (fun hm => ?_) fun hm => ?_
  · cases hm
  exact L
 rintro s ⟨vZ, uA, y_2, rfl, hm⟩
 refine W ?_
 refine cm hm (fun hm => ?_) fun hm => ?_
 ·
  obtain ⟨_, h1, hm⟩ := bnd hm
  obtain ⟨_, h2, hm⟩ := bnd hm
  exact E
 obtain ⟨r4, h3, hm⟩ := bnd hm
 refine W ?_
 refine cq (aF9 h3) ?_
 obtain ⟨_, h5, hm⟩ := bnd hm
 obtain ⟨_, h6, hm⟩ := bnd hm
 obtain ⟨_, h7, hm⟩ := bnd hm
 obtain ⟨_, h8, hm⟩ := bnd hm
 obtain ⟨_, h9, hm⟩ := bnd hm
 refine V ?_
 refine AWp.seqJ (fun s => ∃ y_2 s_8 kZ kM kO oB gM iN, s = ⟨135, (aE (aE (aE (aE (aE (aE (aE (aE fa 2 (vu y_2)) 8 (vu s_8)) 9 (vu kZ)) 10 (vu kM)) 11 (vu kO)) 13 (vu oB)) 14 (vu gM)) 15 (vu iN)), ⟨aV, 64⟩⟩ ∧ oE y_2 s_8 kZ kM kO oB gM iN = some r) ?_ ?_
 ·
  refine W ?_
  refine lp (fun m s => ∃ y_2 s_8 kZ kM kO oB gM iN lN, s = ⟨135, (aE (aE (aE (aE (aE (aE (aE (aE (aE fa 2 (vu y_2)) 8 (vu s_8)) 9 (vu kZ)) 10 (vu kM)) 11 (vu kO)) 13 (vu oB)) 14 (vu gM)) 15 (vu iN)) 16 (vu lN)), ⟨aV, 64⟩⟩ ∧ oG m y_2 s_8 kZ kM kO oB gM iN lN = some r) L ?_
  rintro n2 s ⟨y_2, s_8, kZ, kM, kO, oB, gM, iN, lN, rfl, hm⟩
  refine W ?_
  refine cm hm (fun hm => ?_) fun hm => ?_
  ·
   refine W ?_
   refine cm hm (fun hm => ?_) fun hm => ?_
   ·
    refine W ?_
    refine aT0 Zd ?_
    exact L
   exact L
  exact L
 rintro s ⟨y_2, s_8, kZ, kM, kO, oB, gM, iN, rfl, hm⟩
 obtain ⟨_, h10, hm⟩ := bnd hm
 refine V ?_
 refine AWp.seqJ (fun s => ∃ y_2 s_8 gM iN oW xY, s = ⟨135, (aE (aE (aE (aE (aE (aE fa 2 (vu y_2)) 8 (vu s_8)) 14 (vu gM)) 15 (vu iN)) 17 (vu oW)) 18 (vu xY)), ⟨aV, 64⟩⟩ ∧ sG y_2 s_8 gM iN oW xY = some r) ?_ ?_
 ·
  refine W ?_
  refine lp (fun m s => ∃ y_2 s_8 kZ kM gM iN lN oW xY, s = ⟨135, (aE (aE (aE (aE (aE (aE (aE (aE (aE fa 2 (vu y_2)) 8 (vu s_8)) 9 (vu kZ)) 10 (vu kM)) 14 (vu gM)) 15 (vu iN)) 16 (vu lN)) 17 (vu oW)) 18 (vu xY)), ⟨aV, 64⟩⟩ ∧ oF m y_2 s_8 kZ kM gM iN lN oW xY = some r) L ?_
  rintro n1 s ⟨y_2, s_8, kZ, kM, gM, iN, lN, oW, xY, rfl, hm⟩
  refine W ?_
  refine cm hm (fun hm => ?_) fun hm => ?_
  ·
   refine W ?_
   refine cm hm (fun hm => ?_) fun hm => ?_
   ·
    refine W ?_
    refine aT0 Zd ?_
    exact L
   exact L
  exact L
 rintro s ⟨y_2, s_8, gM, iN, oW, xY, rfl, hm⟩
 obtain ⟨_, h11, hm⟩ := bnd hm
 exact E
end Go.Proofs.YtkdohhmacfoolaaGreat
