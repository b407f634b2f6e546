/- Facts that the statement's proof is made of. No condition. -/
import Derived.Test.YtkdohhmacfoolaaGreatNdGC1
import Derived.Test.YtkdohhmacfoolaaGreatNdAmQ
import Derived.Test.YtkdohhmacfoolaaGreatNdPl
set_option linter.unusedVariables false
set_option linter.unusedSimpArgs false
set_option maxRecDepth 20000
set_option maxHeartbeats 4000000
namespace Go.Proofs.YtkdohhmacfoolaaGreat
open Go Go.AM
structure bD where
 Do : Int
 A : Int
 B : Int
 Text : ByteArray
deriving DecidableEq
def dS (e : bD) : List AV := [.v (.int .i64 e.Do), .v (.int .u64 e.A), .v (.int .u64 e.B), .v (.string e.Text)]
theorem nY : CF dS 4 := ⟨fun _ => rfl, fun a x hx => by
 simp only [dS, List.mem_cons, List.not_mem_nil, or_false] at hx
 rcases hx with rfl | rfl | rfl | rfl
 ·
  exact (.v _)
 ·
  exact (.v _)
 ·
  exact (.v _)
 ·
  exact (.v _), fun _ => rfl⟩
instance : CC dS 4 := ⟨nY⟩
theorem aEd (e : bD) (r : List AV) : dS e ++ r = .v (.int .i64 e.Do) :: .v (.int .u64 e.A) :: .v (.int .u64 e.B) :: .v (.string e.Text) :: r := rfl
attribute [go_sem] aEd
structure bC where
 List : List Int
 At : Int
deriving DecidableEq
def aRp (e : bC) : List AV := [.sl (e.List.flatMap (ci .u64)) e.List.length false, .v (.int .i64 e.At)]
theorem aIu (e : bC) (r : List AV) : aRp e ++ r = .sl (e.List.flatMap (ci .u64)) e.List.length false :: .v (.int .i64 e.At) :: r := rfl
attribute [go_sem] aIu
structure aJ where
 Used : Bool
 Key : Int
deriving DecidableEq
def aW (e : aJ) : List AV := [.v (.bool e.Used), .v (.int .u64 e.Key)]
theorem dH : CF aW 2 := ⟨fun _ => rfl, fun a x hx => by
 simp only [aW, List.mem_cons, List.not_mem_nil, or_false] at hx
 rcases hx with rfl | rfl
 ·
  exact (.v _)
 ·
  exact (.v _), fun _ => rfl⟩
instance : CC aW 2 := ⟨dH⟩
theorem aJ9 (e : aJ) (r : List AV) : aW e ++ r = .v (.bool e.Used) :: .v (.int .u64 e.Key) :: r := rfl
attribute [go_sem] aJ9
structure aD where
 Graph : aG
 Slots : List aJ
deriving DecidableEq
def aQc (e : aD) : List AV := [.v (.int .i64 e.Graph.Config.N), .v (.int .i64 e.Graph.Config.L), .v (.int .i64 e.Graph.Config.R), .sl (e.Graph.Hashes.flatMap bH) e.Graph.Hashes.length false, .sl (e.Graph.Edges.flatMap aT) e.Graph.Edges.length false, .sl (e.Slots.flatMap aW) e.Slots.length false]
theorem aJ8 (e : aD) (r : List AV) : aQc e ++ r = .v (.int .i64 e.Graph.Config.N) :: .v (.int .i64 e.Graph.Config.L) :: .v (.int .i64 e.Graph.Config.R) :: .sl (e.Graph.Hashes.flatMap bH) e.Graph.Hashes.length false :: .sl (e.Graph.Edges.flatMap aT) e.Graph.Edges.length false :: .sl (e.Slots.flatMap aW) e.Slots.length false :: r := rfl
attribute [go_sem] aJ8
structure bJ where
 Key : Int
 N : Int
deriving DecidableEq
def qZ (e : bJ) : List AV := [.v (.int .u64 e.Key), .v (.int .i64 e.N)]
theorem dY : CF qZ 2 := ⟨fun _ => rfl, fun a x hx => by
 simp only [qZ, List.mem_cons, List.not_mem_nil, or_false] at hx
 rcases hx with rfl | rfl
 ·
  exact (.v _)
 ·
  exact (.v _), fun _ => rfl⟩
instance : CC qZ 2 := ⟨dY⟩
theorem aK4 (e : bJ) (r : List AV) : qZ e ++ r = .v (.int .u64 e.Key) :: .v (.int .i64 e.N) :: r := rfl
attribute [go_sem] aK4
inductive aB where
 | nil
 | mk (ahead : aB) (behind : aB) (thing : bJ) (height : Int) (size : Int)
def aB.ahead : aB → aB
 | .nil => aB.nil
 | .mk ahead behind thing height size => ahead
def aB.behind : aB → aB
 | .nil => aB.nil
 | .mk ahead behind thing height size => behind
def aB.thing : aB → bJ
 | .nil => (bJ.mk 0 0)
 | .mk ahead behind thing height size => thing
def aB.height : aB → Int
 | .nil => 0
 | .mk ahead behind thing height size => height
def aB.size : aB → Int
 | .nil => 0
 | .mk ahead behind thing height size => size
def aB.nn : aB → Bool
 | .nil => false
 | .mk _ _ _ _ _ => true
def aB.av : aB → AV
 | .nil => .v (.pointer none)
 | .mk ahead behind thing height size => .ptr [ahead.av, behind.av, .v (.int .u64 thing.Key), .v (.int .i64 thing.N), .v (.int .i64 height), .v (.int .i64 size)]
theorem aB.data : (e : aB) → AM.Data e.av
 | .nil => .v _
 | .mk ahead behind thing height size => .ptr _ (fun a hx => by
  simp only [List.mem_cons, List.not_mem_nil, or_false] at hx
  rcases hx with rfl | rfl | rfl | rfl | rfl | rfl
  ·
   exact ahead.data
  ·
   exact behind.data
  ·
   exact (.v _)
  ·
   exact (.v _)
  ·
   exact (.v _)
  ·
   exact (.v _))
theorem aB.av_nn {e : aB} (h : e.nn = true) : e.av = .ptr [aB.av e.ahead, aB.av e.behind, .v (.int .u64 e.thing.Key), .v (.int .i64 e.thing.N), .v (.int .i64 e.height), .v (.int .i64 e.size)] := by
 cases e with
 | nil => cases h
 | mk ahead behind thing height size => rfl
theorem aB.isn (e : aB) : ((!e.nn) = true ∧ e.av = .v (.pointer none)) ∨ ((!e.nn) = false ∧ ∃ xs, e.av = .ptr xs) := by
 cases e with
 | nil => exact .inl ⟨rfl, rfl⟩
 | mk ahead behind thing height size => exact .inr ⟨rfl, _, rfl⟩
theorem aB.cells (e : aB) : e.av.cells? = some [e.av] := by cases e <;> rfl
theorem aB.one (e : aB) : e.av.one = true := by cases e <;> rfl
structure bO where
 s : aB
def vX (e : bO) : List AV := [aB.av e.s]
theorem wY : CF vX 1 := ⟨fun _ => rfl, fun a x hx => by
 simp only [vX, List.mem_cons, List.not_mem_nil, or_false] at hx
 rcases hx with rfl
 ·
  exact (aB.data a.s), fun e => by unfold vX; simp only [List.all_cons, List.all_nil, Bool.and_true, aB.one]; try rfl⟩
instance : CC vX 1 := ⟨wY⟩
theorem aL0 (e : bO) (r : List AV) : vX e ++ r = aB.av e.s :: r := rfl
attribute [go_sem] aL0
theorem bCc {a0 : AV} (a0h : a0.cells? = some [a0]) : cL Tryz.prog 130 [(0, a0)] = some (.agg [a0]) := by
 unfold cL
 rw [bH6, Tryz.underlying130]
 simp only []
 rw [(by kernel_rfl : placesOf Tryz.prog _ = some [(0, 1)])]
 simp only []
 simp [uY, a0h, aNx, aNd, aL3]
theorem bAj {a0 : AV} {a1 : AV} {a2_Key : Int} {a2_N : Int} {a3 : Int} {a4 : Int} (a0h : a0.cells? = some [a0]) (a1h : a1.cells? = some [a1]) : cL Tryz.prog 192 [(0, a0), (1, a1), (2, .agg [.v (.int .u64 a2_Key), .v (.int .i64 a2_N)]), (3, .v (.int .i64 a3)), (4, .v (.int .i64 a4))] = some (.agg [a0, a1, .v (.int .u64 a2_Key), .v (.int .i64 a2_N), .v (.int .i64 a3), .v (.int .i64 a4)]) := by
 unfold cL
 rw [bNv, Tryz.underlying192]
 simp only []
 rw [(by kernel_rfl : placesOf Tryz.prog _ = some [(0, 1), (1, 1), (2, 2), (4, 1), (5, 1)])]
 simp only []
 simp [uY, a0h, a1h, aNx, aNd, aL3]
theorem aVb (xs : List AV) : aI Tryz.prog 104 (.ptr (xs)) 0 = some (.ptr xs) := by kernel_rfl
attribute [go_sem] aVb
theorem aVd (x0 : AV) (xs : List AV) : aI Tryz.prog 104 (.ptr (x0 :: xs)) 1 = some (.ptr xs) := by kernel_rfl
attribute [go_sem] aVd
theorem aUf (xs : List AV) : aI Tryz.prog 130 (.ptr (xs)) 0 = some (.ptr xs) := by kernel_rfl
attribute [go_sem] aUf
theorem aUn (xs : List AV) : aI Tryz.prog 192 (.ptr (xs)) 0 = some (.ptr xs) := by kernel_rfl
attribute [go_sem] aUn
theorem aSm (x0 : AV) (xs : List AV) : aI Tryz.prog 192 (.ptr (x0 :: xs)) 1 = some (.ptr xs) := by kernel_rfl
attribute [go_sem] aSm
theorem aT2 (x0 : AV) (x1 : AV) (xs : List AV) : aI Tryz.prog 192 (.ptr (x0 :: x1 :: xs)) 2 = some (.ptr xs) := by kernel_rfl
attribute [go_sem] aT2
theorem aU4 (x0 : AV) (x1 : AV) (x2 : AV) (x3 : AV) (xs : List AV) : aI Tryz.prog 192 (.ptr (x0 :: x1 :: x2 :: x3 :: xs)) 3 = some (.ptr xs) := by kernel_rfl
attribute [go_sem] aU4
theorem aTk (x0 : AV) (x1 : AV) (x2 : AV) (x3 : AV) (x4 : AV) (xs : List AV) : aI Tryz.prog 192 (.ptr (x0 :: x1 :: x2 :: x3 :: x4 :: xs)) 4 = some (.ptr xs) := by kernel_rfl
attribute [go_sem] aTk
theorem aSq (i o : Nat) : aI Tryz.prog 102 (.adr i o) 0 = some (.adr i (o + 0)) := by kernel_rfl
attribute [go_sem] aSq
theorem aUm (i o : Nat) : aI Tryz.prog 102 (.adr i o) 1 = some (.adr i (o + 1)) := by kernel_rfl
attribute [go_sem] aUm
theorem aVe (i o : Nat) : aI Tryz.prog 104 (.adr i o) 0 = some (.adr i (o + 0)) := by kernel_rfl
attribute [go_sem] aVe
theorem aT1 (i o : Nat) : aI Tryz.prog 104 (.adr i o) 1 = some (.adr i (o + 1)) := by kernel_rfl
attribute [go_sem] aT1
theorem aVn (i o : Nat) : aI Tryz.prog 130 (.adr i o) 0 = some (.adr i (o + 0)) := by kernel_rfl
attribute [go_sem] aVn
theorem aTv (i o : Nat) : aI Tryz.prog 158 (.adr i o) 0 = some (.adr i (o + 0)) := by kernel_rfl
attribute [go_sem] aTv
theorem aUx (i o : Nat) : aI Tryz.prog 158 (.adr i o) 1 = some (.adr i (o + 1)) := by kernel_rfl
attribute [go_sem] aUx
theorem aXt (i o : Nat) : aI Tryz.prog 23 (.adr i o) 0 = some (.adr i (o + 0)) := by kernel_rfl
attribute [go_sem] aXt
theorem aZw (i o : Nat) : aI Tryz.prog 23 (.adr i o) 1 = some (.adr i (o + 1)) := by kernel_rfl
attribute [go_sem] aZw
theorem aZ9 (i o : Nat) : aI Tryz.prog 23 (.adr i o) 2 = some (.adr i (o + 2)) := by kernel_rfl
attribute [go_sem] aZ9
theorem bAa (i o : Nat) : aI Tryz.prog 30 (.adr i o) 0 = some (.adr i (o + 0)) := by kernel_rfl
attribute [go_sem] bAa
theorem aYd (i o : Nat) : aI Tryz.prog 30 (.adr i o) 2 = some (.adr i (o + 4)) := by kernel_rfl
attribute [go_sem] aYd
theorem aZc (i o : Nat) : aI Tryz.prog 33 (.adr i o) 0 = some (.adr i (o + 0)) := by kernel_rfl
attribute [go_sem] aZc
theorem aXe (i o : Nat) : aI Tryz.prog 33 (.adr i o) 1 = some (.adr i (o + 5)) := by kernel_rfl
attribute [go_sem] aXe
theorem aYu (i o : Nat) : aI Tryz.prog 35 (.adr i o) 0 = some (.adr i (o + 0)) := by kernel_rfl
attribute [go_sem] aYu
theorem aYs (i o : Nat) : aI Tryz.prog 35 (.adr i o) 1 = some (.adr i (o + 1)) := by kernel_rfl
attribute [go_sem] aYs
theorem aZo (i o : Nat) : aI Tryz.prog 45 (.adr i o) 3 = some (.adr i (o + 3)) := by kernel_rfl
attribute [go_sem] aZo
theorem bC5 (H : aH) (x0 x1 x2 : AV) (xs : List AV) : bP Tryz.prog H 102 (.ptr (x0 :: x1 :: x2 :: xs)) = some (.agg [x0, x1, x2]) := by kernel_rfl
attribute [go_sem] bC5
theorem bCw (H : aH) (x0 x1 : AV) (xs : List AV) : bP Tryz.prog H 104 (.ptr (x0 :: x1 :: xs)) = some (.agg [x0, x1]) := by kernel_rfl
attribute [go_sem] bCw
theorem bB8 (H : aH) (x : AV) (xs : List AV) : bP Tryz.prog H 128 (.ptr (x :: xs)) = some x := by kernel_rfl
attribute [go_sem] bB8
theorem bAl (H : aH) (x0 : AV) (xs : List AV) : bP Tryz.prog H 130 (.ptr (x0 :: xs)) = some (.agg [x0]) := by kernel_rfl
attribute [go_sem] bAl
theorem bC6 (H : aH) (x0 x1 : AV) (xs : List AV) : bP Tryz.prog H 158 (.ptr (x0 :: x1 :: xs)) = some (.agg [x0, x1]) := by kernel_rfl
attribute [go_sem] bC6
theorem bFt (H : aH) (x0 x1 x2 : AV) (xs : List AV) : bP Tryz.prog H 23 (.ptr (x0 :: x1 :: x2 :: xs)) = some (.agg [x0, x1, x2]) := by kernel_rfl
attribute [go_sem] bFt
theorem bFu (H : aH) (x : AV) (xs : List AV) : bP Tryz.prog H 24 (.ptr (x :: xs)) = some x := by kernel_rfl
attribute [go_sem] bFu
theorem bGv (H : aH) (x : AV) (xs : List AV) : bP Tryz.prog H 28 (.ptr (x :: xs)) = some x := by kernel_rfl
attribute [go_sem] bGv
theorem bIj (H : aH) (x : AV) (xs : List AV) : bP Tryz.prog H 3 (.ptr (x :: xs)) = some x := by kernel_rfl
attribute [go_sem] bIj
theorem bF6 (H : aH) (x0 x1 x2 x3 x4 : AV) (xs : List AV) : bP Tryz.prog H 30 (.ptr (x0 :: x1 :: x2 :: x3 :: x4 :: xs)) = some (.agg [x0, x1, x2, x3, x4]) := by kernel_rfl
attribute [go_sem] bF6
theorem bEj (H : aH) (x : AV) (xs : List AV) : bP Tryz.prog H 31 (.ptr (x :: xs)) = some x := by kernel_rfl
attribute [go_sem] bEj
theorem bF3 (H : aH) (x0 x1 x2 x3 x4 x5 : AV) (xs : List AV) : bP Tryz.prog H 33 (.ptr (x0 :: x1 :: x2 :: x3 :: x4 :: x5 :: xs)) = some (.agg [x0, x1, x2, x3, x4, x5]) := by kernel_rfl
attribute [go_sem] bF3
theorem bDz (H : aH) (x0 x1 : AV) (xs : List AV) : bP Tryz.prog H 35 (.ptr (x0 :: x1 :: xs)) = some (.agg [x0, x1]) := by kernel_rfl
attribute [go_sem] bDz
theorem bI0 (H : aH) (x : AV) (xs : List AV) : bP Tryz.prog H 4 (.ptr (x :: xs)) = some x := by kernel_rfl
attribute [go_sem] bI0
theorem bE2 (H : aH) (x : AV) (xs : List AV) : bP Tryz.prog H 43 (.ptr (x :: xs)) = some x := by kernel_rfl
attribute [go_sem] bE2
theorem bG7 (H : aH) (x0 x1 x2 x3 : AV) (xs : List AV) : bP Tryz.prog H 45 (.ptr (x0 :: x1 :: x2 :: x3 :: xs)) = some (.agg [x0, x1, x2, x3]) := by kernel_rfl
attribute [go_sem] bG7
theorem bFd (H : aH) (x0 x1 : AV) (xs : List AV) : bP Tryz.prog H 69 (.ptr (x0 :: x1 :: xs)) = some (.agg [x0, x1]) := by kernel_rfl
attribute [go_sem] bFd
theorem bJb (H : aH) (x : AV) (xs : List AV) : bP Tryz.prog H 9 (.ptr (x :: xs)) = some x := by kernel_rfl
attribute [go_sem] bJb
theorem aTl (H : aH) (k : IntKind) (n : Int) : nH Tryz.prog H 3 198 (.v (.int k n)) = some (.v (.int .u64 (IntKind.u64.wrap n))) := gL Tryz.underlying3 Tryz.underlying198
attribute [go_sem] aTl
theorem aVu (H : aH) (k : IntKind) (n : Int) : nH Tryz.prog H 198 3 (.v (.int k n)) = some (.v (.int .i64 (IntKind.i64.wrap n))) := gL Tryz.underlying198 Tryz.underlying3
attribute [go_sem] aVu
def aB7 (rec1 : Int → List bD → Int → Int → Option (Int)) (n_7 : Int) (t29 : List bD) (t30 : Int) (t31 : Int) : Option (Int) :=
 (bif (decide (t31 < t30)) then
  ((idx t29 t31).bind fun x4 =>
  (bif (decide (1000 < (x4.Text.size : Int))) then
   some (-1)
  else
   rec1 n_7 t29 t30 (IntKind.i64.wrap (t31 + 1))))
 else
  some n_7)
def tB : Nat → Int → List bD → Int → Int → Option (Int)
 | 0 => fun _ _ _ _ => none
 | n + 1 => aB7 (tB n)
def rC (c_0 : aN) (l_1 : List bD) (aAt : Int) : Option (Int) :=
 (bif (((decide (10 < c_0.N)) || (decide (4 < c_0.L))) || (decide (3 < c_0.R))) then
  some (-1)
 else
  ((slc l_1 0 (if aAt < (l_1.length : Int) then aAt else (l_1.length : Int))).bind fun l2 =>
  tB bK (if aAt < (l_1.length : Int) then aAt else (l_1.length : Int)) l2 (l2.length : Int) 0))
theorem aSw {c_0 : aN} {l_1 : List bD} {aAt : Int} {r : Int} (hm : rC c_0 l_1 aAt = some r) : aZ Tryz.prog 12 [.agg [vi c_0.N, vi c_0.L, vi c_0.R], vl dS l_1, vi aAt] (vi r) := by
 refine bd 41 Tryz.func12 ?_
 refine W ?_
 refine cm hm (fun hm => ?_) fun hm => ?_
 · exact E
 obtain ⟨l2, h1, hm⟩ := bnd hm
 refine W ?_
 refine lp (fun m s => ∃ n_7 t29 t30 t31, s = ⟨41, (aF (aF (aF (aF fa 7 (vi n_7)) 29 (vl dS t29)) 30 (vi t30)) 31 (vi t31)), ⟨aX, 64⟩⟩ ∧ tB m n_7 t29 t30 t31 = some r) ?_ ?_
 ·
  refine ⟨_, ?_, (if aAt < (l_1.length : Int) then aAt else (l_1.length : Int)), l2, (l2.length : Int), 0, rfl, hm⟩
  refine St.Le.trans (aV1 29 (.sl (l2.flatMap dS) l2.length false) (fun H => (tdf Z1 (nY.sl _ _ _)))) ?_
  exact cn id
 rintro n1 s ⟨n_7, t29, t30, t31, rfl, hm⟩
 refine W ?_
 refine cm hm (fun hm => ?_) fun hm => ?_
 ·
  obtain ⟨x4, h3, hm⟩ := bnd hm
  refine W ?_
  refine cm hm (fun hm => ?_) fun hm => ?_
  · exact E
  exact L
 exact E
def oO (w_0 : bC) : Option (Bool) :=
 some ((decide (0 ≤ w_0.At)) && (decide (w_0.At ≤ (w_0.List.length : Int))))
theorem aIk {w_0 : bC} {r : Bool} (hm : oO w_0 = some r) : aZ Tryz.prog 67 [.agg [vl (ci .u64) w_0.List, vi w_0.At]] (vb r) := by
 refine bd 14 Tryz.func67 ?_
 exact E
def zG (rec1 : bC → bC → Int → Option (Int × bC × Int)) (w_1 : bC) (t3 : bC) (aDt : Int) : Option (Int × bC × Int) :=
 (bif (decide (aDt < (w_1.List.length : Int))) then
  ((idx w_1.List aDt).bind fun x4 =>
  (bif (decide ((aC8 .u64 x4 2305843009213693951) < 2305843009213693951)) then
   some ((aC8 .u64 x4 2305843009213693951), (bC.mk w_1.List (IntKind.i64.wrap (aDt + 1))), 0)
  else
   rec1 w_1 t3 (IntKind.i64.wrap (aDt + 1))))
 else
  some (0, w_1, 5))
def pH : Nat → bC → bC → Int → Option (Int × bC × Int)
 | 0 => fun _ _ _ => none
 | n + 1 => zG (pH n)
def sY (w_0 : bC) : Option (Int × bC × Int) :=
 ((oO w_0).bind fun r2 =>
 (bif (!r2) then
  some (0, w_0, 1)
 else
  pH bK w_0 (bC.mk [] 0) w_0.At))
theorem aHx {w_0 : bC} {r : Int × bC × Int} (hm : sY w_0 = some r) : aZ Tryz.prog 68 [.agg [vl (ci .u64) w_0.List, vi w_0.At]] (.tup [vu r.1, .agg [vl (ci .u64) r.2.1.List, vi r.2.1.At], vi r.2.2]) := by
 refine bd 35 Tryz.func68 ?_
 obtain ⟨r2, h1, hm⟩ := bnd hm
 refine W ?_
 refine cq (aIk h1) ?_
 refine W ?_
 refine cm hm (fun hm => ?_) fun hm => ?_
 · exact E
 refine W ?_
 refine lp (fun m s => ∃ w_1 t3 aDt, s = ⟨35, (aF (aF (aF fa 1 (.adr 1 0)) 3 (.adr 2 0)) 5 (vi aDt)), ⟨(upd (upd aX 1 (.cells 1 [vl (ci .u64) w_1.List, vi w_1.At] 0)) 2 (.cells 1 [vl (ci .u64) t3.List, vi t3.At] 0)), 64⟩⟩ ∧ pH m w_1 t3 aDt = some r) ?_ ?_
 ·
  refine ⟨_, ?_, w_0, (bC.mk [] 0), w_0.At, rfl, hm⟩
  refine St.Le.trans (iT 2 (ys := [.sl (((bC.mk [] 0).List).flatMap (ci .u64)) ((bC.mk [] 0).List).length false, .v (.int .i64 ((bC.mk [] 0).At))]) Z3 (.cons (.nil false) (.cons (.data _ (.v _)) .nil))) ?_
  exact cn (fun j => bif j == 1 then 0 else bif j == 2 then 2 else 0)
 rintro n1 s ⟨w_1, t3, aDt, rfl, hm⟩
 refine W ?_
 refine cm hm (fun hm => ?_) fun hm => ?_
 ·
  obtain ⟨x4, h3, hm⟩ := bnd hm
  refine W ?_
  refine cm hm (fun hm => ?_) fun hm => ?_
  ·
   refine W ?_
   refine pu rfl (by simp only [go_sem, Nat.reduceBEq]; exact (by kernel_rfl : cL Tryz.prog 35 [(0, .sl (w_1.List.flatMap (ci .u64)) w_1.List.length false), (1, .v (.int .i64 (IntKind.i64.wrap (aDt + 1))))] = some (.agg [.sl (w_1.List.flatMap (ci .u64)) w_1.List.length false, .v (.int .i64 (IntKind.i64.wrap (aDt + 1)))]))) ?_
   exact E
  refine W ?_
  exact Lr (fun j => bif j == 1 then 1 else bif j == 2 then 2 else 0)
 exact E
def nE (rec1 : bC → bC → List bS → bC → Int → Int → Option ((List bS) × bC × Int)) (w_2 : bC) (t5 : bC) (sQ : List bS) (aEc : bC) (t31 : Int) (t32 : Int) : Option ((List bS) × bC × Int) :=
 (bif (decide (t32 < t31)) then
  ((sY aEc).bind fun ⟨r6, r7, r8⟩ =>
  (bif (r8 != 0) then
   some ([], w_2, r8)
  else
   ((sY r7).bind fun ⟨r10, r11, r12⟩ =>
   (bif (r12 != 0) then
    some ([], w_2, r12)
   else
    ((idx sQ t32).bind fun x14 =>
    ((stt sQ t32 (bS.mk r6 r10)).bind fun l16 =>
    rec1 w_2 t5 l16 r11 t31 (IntKind.i64.wrap (t32 + 1))))))))
 else
  some (sQ, aEc, 0))
def kW : Nat → bC → bC → List bS → bC → Int → Int → Option ((List bS) × bC × Int)
 | 0 => fun _ _ _ _ _ _ => none
 | n + 1 => nE (kW n)
def qG (w_0 : bC) (n_1 : Int) : Option ((List bS) × bC × Int) :=
 ((oO w_0).bind fun r2 =>
 (bif (((!r2) || (decide (n_1 < 0))) || (decide (128 < n_1))) then
  some ([], w_0, 1)
 else
  ((mkc n_1 n_1 (bS.mk 0 0)).bind fun l4 =>
  kW bK w_0 (bC.mk [] 0) l4 w_0 (l4.length : Int) 0)))
theorem aOm {w_0 : bC} {n_1 : Int} {r : (List bS) × bC × Int} (hm : qG w_0 n_1 = some r) : aZ Tryz.prog 35 [.agg [vl (ci .u64) w_0.List, vi w_0.At], vi n_1] (.tup [vl bH r.1, .agg [vl (ci .u64) r.2.1.List, vi r.2.1.At], vi r.2.2]) := by
 refine bd 65 Tryz.func35 ?_
 obtain ⟨r2, h1, hm⟩ := bnd hm
 refine W ?_
 refine cq (aIk h1) ?_
 refine W ?_
 refine cm hm (fun hm => ?_) fun hm => ?_
 · exact E
 obtain ⟨l4, h3, hm⟩ := bnd hm
 refine W ?_
 refine aK mK h3 ?_
 refine W ?_
 refine lp (fun m s => ∃ w_2 t5 sQ aEc t31 t32, s = ⟨65, (aF (aF (aF (aF (aF (aF fa 2 (.adr 1 0)) 5 (.adr 2 0)) 7 (.own 3 0 sQ.length)) 8 (.adr 4 0)) 31 (vi t31)) 32 (vi t32)), ⟨(upd (upd (upd (upd aX 1 (.cells 1 [vl (ci .u64) w_2.List, vi w_2.At] 0)) 2 (.cells 1 [vl (ci .u64) t5.List, vi t5.At] 0)) 3 (.cells 2 (sQ.flatMap bH) 0)) 4 (.cells 1 [vl (ci .u64) aEc.List, vi aEc.At] 0)), 64⟩⟩ ∧ kW m w_2 t5 sQ aEc t31 t32 = some r) ?_ ?_
 ·
  refine ⟨_, ?_, w_0, (bC.mk [] 0), l4, w_0, (l4.length : Int), 0, rfl, hm⟩
  refine St.Le.trans (iT 2 (ys := [.sl (((bC.mk [] 0).List).flatMap (ci .u64)) ((bC.mk [] 0).List).length false, .v (.int .i64 ((bC.mk [] 0).At))]) Z3 (.cons (.nil false) (.cons (.data _ (.v _)) .nil))) ?_
  exact cn (fun j => bif j == 1 then 0 else bif j == 2 then 2 else bif j == 3 then 129 else bif j == 4 then 193 else 0)
 rintro n1 s ⟨w_2, t5, sQ, aEc, t31, t32, rfl, hm⟩
 refine W ?_
 refine cm hm (fun hm => ?_) fun hm => ?_
 ·
  refine W ?_
  obtain ⟨⟨r6, r7, r8⟩, h5, hm⟩ := bnd hm
  refine cq (aHx h5) ?_
  refine W ?_
  refine cm hm (fun hm => ?_) fun hm => ?_
  · exact E
  refine W ?_
  obtain ⟨⟨r10, r11, r12⟩, h9, hm⟩ := bnd hm
  refine cq (aHx h9) ?_
  refine W ?_
  refine cm hm (fun hm => ?_) fun hm => ?_
  · exact E
  refine W ?_
  refine pu rfl (by simp only [go_sem, Nat.reduceBEq]; exact (by kernel_rfl : cL Tryz.prog 120 [(0, .v (.int .u64 r6)), (1, .v (.int .u64 r10))] = some (.agg [.v (.int .u64 r6), .v (.int .u64 r10)]))) ?_
  obtain ⟨x14, h13, hm⟩ := bnd hm
  obtain ⟨l16, h15, hm⟩ := bnd hm
  refine W ?_
  have qh15 := jH h15
  refine aS h15 ?_
  refine W ?_
  exact Lr (fun j => bif j == 1 then 1 else bif j == 2 then 2 else bif j == 3 then 3 else bif j == 4 then 4 else 0)
 exact E
def mP (n_0 : Int) : Option (Bool) :=
 some ((decide (1 ≤ n_0)) && (decide (n_0 ≤ 1024)))
theorem aFi {n_0 : Int} {r : Bool} (hm : mP n_0 = some r) : aZ Tryz.prog 70 [vi n_0] (vb r) := by
 refine bd 9 Tryz.func70 ?_
 exact E
def aDu (n_0 : Int) : Option ((List aJ) × Int) :=
 ((mP n_0).bind fun r2 =>
 (bif (!r2) then
  some ([], 1)
 else
  ((mkc n_0 n_0 (aJ.mk false 0)).bind fun l4 =>
  some (l4, 0))))
theorem aV5 {n_0 : Int} {r : (List aJ) × Int} (hm : aDu n_0 = some r) : aZ Tryz.prog 37 [vi n_0] (.tup [vl aW r.1, vi r.2]) := by
 refine bd 9 Tryz.func37 ?_
 obtain ⟨r2, h1, hm⟩ := bnd hm
 refine W ?_
 refine cq (aFi h1) ?_
 refine W ?_
 refine cm hm (fun hm => ?_) fun hm => ?_
 · exact E
 obtain ⟨l4, h3, hm⟩ := bnd hm
 refine W ?_
 refine aK dH h3 ?_
 exact E
def jZ (c_0 : aN) (w_1 : bC) : Option (aD × bC × Int) :=
 (bif ((((((decide (c_0.N < 1)) || (decide (1024 < c_0.N))) || (decide (c_0.L < 1))) || (decide (16 < c_0.L))) || (decide (c_0.R < 1))) || (decide (8 < c_0.R))) then
  some ((aD.mk (aG.mk (aN.mk 0 0 0) [] []) []), w_1, 1)
 else
  ((qG w_1 (IntKind.i64.wrap (c_0.L * c_0.R))).bind fun ⟨r2, r3, r4⟩ =>
  (bif (r4 != 0) then
   some ((aD.mk (aG.mk (aN.mk 0 0 0) [] []) []), w_1, r4)
  else
   ((aAd c_0 r2).bind fun ⟨r6, r7⟩ =>
   (bif (r7 != 0) then
    some ((aD.mk (aG.mk (aN.mk 0 0 0) [] []) []), w_1, r7)
   else
    ((aDu c_0.N).bind fun ⟨r9, r10⟩ =>
    (bif (r10 != 0) then
     some ((aD.mk (aG.mk (aN.mk 0 0 0) [] []) []), w_1, r10)
    else
     some ((aD.mk r6 r9), r3, 0))))))))
theorem aJw {c_0 : aN} {w_1 : bC} {r : aD × bC × Int} (hm : jZ c_0 w_1 = some r) : aZ Tryz.prog 13 [.agg [vi c_0.N, vi c_0.L, vi c_0.R], .agg [vl (ci .u64) w_1.List, vi w_1.At]] (.tup [.agg [vi r.1.Graph.Config.N, vi r.1.Graph.Config.L, vi r.1.Graph.Config.R, vl bH r.1.Graph.Hashes, vl aT r.1.Graph.Edges, vl aW r.1.Slots], .agg [vl (ci .u64) r.2.1.List, vi r.2.1.At], vi r.2.2]) := by
 refine bd 84 Tryz.func13 ?_
 refine W ?_
 refine cm hm (fun hm => ?_) fun hm => ?_
 ·
  refine W ?_
  refine AWp.regV [(3, 1), (4, 2), (5, 3)] 64 mix (by kernel_rfl) (by kernel_rfl) (IV.cons (off := 0) Z1 (IV.cons (off := 0) Z1 (IV.cons (off := 0) Z1 IV.nil))) (N' := 192) rfl ?_
  refine pu rfl (by simp only [go_sem, Nat.reduceBEq]; exact (by kernel_rfl : cL Tryz.prog 33 [] = some (.agg [.v (.int .i64 0), .v (.int .i64 0), .v (.int .i64 0), .v (.slice none 0 0), .v (.slice none 0 0), .v (.slice none 0 0)]))) ?_
  exact E
 refine W ?_
 obtain ⟨⟨r2, r3, r4⟩, h1, hm⟩ := bnd hm
 refine cq (aOm h1) ?_
 refine W ?_
 refine cm hm (fun hm => ?_) fun hm => ?_
 ·
  refine W ?_
  refine AWp.regV [(3, 1), (4, 2), (5, 3)] 64 mix (by kernel_rfl) (by kernel_rfl) (IV.cons (off := 0) Z1 (IV.cons (off := 0) Z1 (IV.cons (off := 0) Z1 IV.nil))) (N' := 320) rfl ?_
  refine pu rfl (by simp only [go_sem, Nat.reduceBEq]; exact (by kernel_rfl : cL Tryz.prog 33 [] = some (.agg [.v (.int .i64 0), .v (.int .i64 0), .v (.int .i64 0), .v (.slice none 0 0), .v (.slice none 0 0), .v (.slice none 0 0)]))) ?_
  exact E
 refine W ?_
 obtain ⟨⟨r6, r7⟩, h5, hm⟩ := bnd hm
 refine cq (aVi h5) ?_
 refine W ?_
 refine cm hm (fun hm => ?_) fun hm => ?_
 ·
  refine W ?_
  refine AWp.regV [(3, 1), (4, 2), (5, 3)] 64 mix (by kernel_rfl) (by kernel_rfl) (IV.cons (off := 0) Z1 (IV.cons (off := 0) Z1 (IV.cons (off := 0) Z1 IV.nil))) (N' := 448) rfl ?_
  refine pu rfl (by simp only [go_sem, Nat.reduceBEq]; exact (by kernel_rfl : cL Tryz.prog 33 [] = some (.agg [.v (.int .i64 0), .v (.int .i64 0), .v (.int .i64 0), .v (.slice none 0 0), .v (.slice none 0 0), .v (.slice none 0 0)]))) ?_
  exact E
 refine W ?_
 obtain ⟨⟨r9, r10⟩, h8, hm⟩ := bnd hm
 refine cq (aV5 h8) ?_
 refine W ?_
 refine cm hm (fun hm => ?_) fun hm => ?_
 ·
  refine W ?_
  refine AWp.regV [(3, 1), (4, 2), (5, 3)] 64 mix (by kernel_rfl) (by kernel_rfl) (IV.cons (off := 0) Z1 (IV.cons (off := 0) Z1 (IV.cons (off := 0) Z1 IV.nil))) (N' := 576) rfl ?_
  refine pu rfl (by simp only [go_sem, Nat.reduceBEq]; exact (by kernel_rfl : cL Tryz.prog 33 [] = some (.agg [.v (.int .i64 0), .v (.int .i64 0), .v (.int .i64 0), .v (.slice none 0 0), .v (.slice none 0 0), .v (.slice none 0 0)]))) ?_
  exact E
 refine W ?_
 refine AWp.regV [(4, 2), (5, 3), (8, 139), (10, 262)] 64 mix (by kernel_rfl) (by kernel_rfl) (IV.cons (off := 0) Z1 (IV.cons (off := 0) Z1 (IV.cons (off := 0) Z1 (IV.cons (off := 0) Z1 IV.nil)))) (N' := 576) rfl ?_
 refine W ?_
 refine pu rfl (by simp only [go_sem, Nat.reduceBEq]; exact (by kernel_rfl : cL Tryz.prog 33 [(0, .agg [.v (.int .i64 r6.Config.N), .v (.int .i64 r6.Config.L), .v (.int .i64 r6.Config.R), .sl (r6.Hashes.flatMap bH) r6.Hashes.length false, .sl (r6.Edges.flatMap aT) r6.Edges.length false]), (1, .sl (r9.flatMap aW) r9.length false)] = some (.agg [.v (.int .i64 r6.Config.N), .v (.int .i64 r6.Config.L), .v (.int .i64 r6.Config.R), .sl (r6.Hashes.flatMap bH) r6.Hashes.length false, .sl (r6.Edges.flatMap aT) r6.Edges.length false, .sl (r9.flatMap aW) r9.length false]))) ?_
 exact E
def gE (s_0 : aB) : Option (Int) :=
 (bif (!s_0.nn) then
  some 0
 else
  ((chk s_0.nn).bind fun _ =>
  some s_0.size))
theorem kB {s_0 : aB} {r : Int} (hm : gE s_0 = some r) : aZ Tryz.prog 128 [aB.av s_0] (vi r) := by
 refine bd 9 Tryz.func128 ?_
 refine W ?_
 refine pu rfl (bD3 Tryz.underlying128 Z1 (aB.isn s_0) Z1) ?_
 refine W ?_
 refine cm hm (fun hm => ?_) fun hm => ?_
 · exact E
 obtain ⟨_, h1, hm⟩ := bnd hm
 exact E
def zU (rec1 : aB → Int → bJ → Option (bJ × Bool)) (s_0 : aB) (i_1 : Int) (t4 : bJ) : Option (bJ × Bool) :=
 ((chk s_0.nn).bind fun _ =>
 ((gE s_0.ahead).bind fun r5 =>
 (bif (decide (i_1 < r5)) then
  ((chk s_0.nn).bind fun _ =>
  rec1 s_0.ahead i_1 t4)
 else
  (bif (decide (r5 < i_1)) then
   ((chk s_0.nn).bind fun _ =>
   rec1 s_0.behind (IntKind.i64.wrap (i_1 - (IntKind.i64.wrap (r5 + 1)))) t4)
  else
   ((chk s_0.nn).bind fun _ =>
   some (s_0.thing, true))))))
def oW : Nat → aB → Int → bJ → Option (bJ × Bool)
 | 0 => fun _ _ _ => none
 | n + 1 => zU (oW n)
def lV (s_0 : aB) (i_1 : Int) : Option (bJ × Bool) :=
 ((fE ((decide (i_1 < 0)) == false) 0 (gE s_0)).bind fun r2 =>
 (bif ((decide (i_1 < 0)) || (decide (r2 ≤ i_1))) then
  some ((bJ.mk 0 0), false)
 else
  oW bK s_0 i_1 (bJ.mk 0 0)))
theorem xJ {s_0 : aB} {i_1 : Int} {r : bJ × Bool} (hm : lV s_0 i_1 = some r) : aZ Tryz.prog 97 [aB.av s_0, vi i_1] (.tup [.agg [vu r.1.Key, vi r.1.N], vb r.2]) := by
 refine bd 46 Tryz.func97 ?_
 obtain ⟨r2, h1, hm⟩ := bnd hm
 refine W ?_
 refine cg (fun hb => kB (cM h1 hb)) ?_
 refine W ?_
 refine cm hm (fun hm => ?_) fun hm => ?_
 · exact E
 refine W ?_
 refine lp (fun m s => ∃ s_0 i_1 t4, s = ⟨46, (aF (aF (aF fa 0 (aB.av s_0)) 1 (vi i_1)) 4 (.adr 1 0)), ⟨(upd aX 1 (.cells 1 [vu t4.Key, vi t4.N] 0)), 64⟩⟩ ∧ oW m s_0 i_1 t4 = some r) (Lr (fun j => bif j == 1 then 0 else 0)) ?_
 rintro n1 s ⟨s_0, i_1, t4, rfl, hm⟩
 obtain ⟨_, h3, hm⟩ := bnd hm
 obtain ⟨r5, h4, hm⟩ := bnd hm
 refine W ?_
 refine cq (kB h4) ?_
 refine W ?_
 refine cm hm (fun hm => ?_) fun hm => ?_
 ·
  obtain ⟨_, h6, hm⟩ := bnd hm
  refine W ?_
  exact Lr (fun j => bif j == 1 then 1 else 0)
 refine W ?_
 refine cm hm (fun hm => ?_) fun hm => ?_
 ·
  obtain ⟨_, h7, hm⟩ := bnd hm
  refine W ?_
  exact Lr (fun j => bif j == 1 then 1 else 0)
 obtain ⟨_, h8, hm⟩ := bnd hm
 exact E
def qF (i_0 : Int) (t1 : bO) (t2 : Int) : Option (Bool) :=
 ((lV t1.s i_0).bind fun ⟨r2, r3⟩ =>
 some (decide (t2 ≤ r2.Key)))
theorem aQ1 {i_0 : Int} {t1 : bO} {t2 : Int} {r : Bool} (hm : qF i_0 t1 t2 = some r) : aZ Tryz.prog 130 [vi i_0, .ptr [aB.av t1.s], .ptr [vu t2]] (vb r) := by
 refine bd 18 Tryz.func130 ?_
 refine W ?_
 obtain ⟨⟨r2, r3⟩, h1, hm⟩ := bnd hm
 refine cq (xJ h1) ?_
 exact E
def yG (f_1 : (Int → Option (Bool))) (rec1 : Int → Int → Option (Int)) (i_5 : Int) (j_6 : Int) : Option (Int) :=
 (bif (decide (i_5 < j_6)) then
  ((f_1 (IntKind.i64.wrap (shr .u64 (IntKind.u64.wrap (IntKind.i64.wrap (i_5 + j_6))) 1))).bind fun r2 =>
  (bif (!r2) then
   rec1 (IntKind.i64.wrap ((IntKind.i64.wrap (shr .u64 (IntKind.u64.wrap (IntKind.i64.wrap (i_5 + j_6))) 1)) + 1)) j_6
  else
   rec1 i_5 (IntKind.i64.wrap (shr .u64 (IntKind.u64.wrap (IntKind.i64.wrap (i_5 + j_6))) 1))))
 else
  some i_5)
def nC (f_1 : (Int → Option (Bool))) : Nat → Int → Int → Option (Int)
 | 0 => fun _ _ => none
 | n + 1 => yG f_1 (nC f_1 n)
def zK (n_0 : Int) (f_1 : (Int → Option (Bool))) : Option (Int) :=
 nC f_1 bK 0 n_0
theorem aPp {n_0 : Int} {f_1 : (Int → Option (Bool))} {r : Int} (hm : zK n_0 f_1 = some r) {aF6 : FuncId} {uC : List AV} (aLk : ∀ a, a ∈ uC → AM.Data a) (aW6 : (Program.funcs Tryz.prog)[aF6]?.any (fun fn => fn.body.isSome && fn.name != "runtime.NumGoroutine") = true) (aSx : ∀ {x0 r}, f_1 x0 = some r → aZ Tryz.prog aF6 ([vi x0] ++ uC) (vb r)) : aZ Tryz.prog 129 [vi n_0, .clo (.func aF6) [] uC] (vi r) := by
 refine bd 26 Tryz.func129 ?_
 refine W ?_
 refine lp (fun m s => ∃ i_5 j_6, s = ⟨26, (aF (aF (aF fa 1 (.clo (.func aF6) [] uC)) 5 (vi i_5)) 6 (vi j_6)), ⟨aX, 64⟩⟩ ∧ nC f_1 m i_5 j_6 = some r) L ?_
 rintro n1 s ⟨i_5, j_6, rfl, hm⟩
 refine W ?_
 refine cm hm (fun hm => ?_) fun hm => ?_
 ·
  obtain ⟨r2, h1, hm⟩ := bnd hm
  refine W ?_
  refine aU.callQC (r := .v (.bool r2)) Zd Z1 aLk aW6 (fun H => (cV .nil)) (aSx h1) ?_
  refine W ?_
  refine cm hm (fun hm => ?_) fun hm => ?_
  · exact L
  exact L
 exact E
def vR (d_0 : bO) (eE : Int) : Option (Int) :=
 ((gE d_0.s).bind fun r2 =>
 ((zK r2 (fun x0 => qF x0 d_0 eE)).bind fun r4 =>
 some r4))
theorem aJv {d_0 : bO} {eE : Int} {r : Int} (hm : vR d_0 eE = some r) : aZ Tryz.prog 98 [.agg [aB.av d_0.s], vu eE] (vi r) := by
 refine bd 10 Tryz.func98 ?_
 refine S1 ?_
 refine aU.pop Zd (aBu Z1 (.agg _ (wY.dat d_0))) (aP9 (ys := [aB.av d_0.s]) Z1 (fun H => (.cons (.data _ (aB.data d_0.s)) .nil))) rfl ?_
 refine aU.pop Zd (aBu Z1 (.v _)) (aP9 (ys := [.v (.int .u64 eE)]) Z1 (fun H => (.cons (.data _ (.v _)) .nil))) rfl ?_
 obtain ⟨r2, h1, hm⟩ := bnd hm
 refine W ?_
 refine cq (kB h1) ?_
 obtain ⟨r4, h3, hm⟩ := bnd hm
 refine W ?_
 refine aU.callQ (r := .v (.int .i64 r4)) Zd Z1 bKx (fun H => (cV (.cons (td Z1 (bBa (nT (.ptr _ (wY.dat d_0)) (nT (.ptr _ ((CFi .u64).dat eE)) aEq)))) .nil))) (aPp h3 (nT (.ptr _ (wY.dat d_0)) (nT (.ptr _ ((CFi .u64).dat eE)) aEq)) bOa (fun h => aQ1 h)) ?_
 exact E
def rR (d_0 : bO) (eE : Int) : Option (Int × Bool) :=
 ((vR d_0 eE).bind fun r2 =>
 ((lV d_0.s r2).bind fun ⟨r4, r5⟩ =>
 (bif ((!r5) || (r4.Key != eE)) then
  some (0, false)
 else
  some (r4.N, true))))
theorem aCq {d_0 : bO} {eE : Int} {r : Int × Bool} (hm : rR d_0 eE = some r) : aZ Tryz.prog 72 [.agg [aB.av d_0.s], vu eE] (.tup [vi r.1, vb r.2]) := by
 refine bd 27 Tryz.func72 ?_
 obtain ⟨r2, h1, hm⟩ := bnd hm
 refine W ?_
 refine cq (aJv h1) ?_
 obtain ⟨⟨r4, r5⟩, h3, hm⟩ := bnd hm
 refine cq (xJ h3) ?_
 refine W ?_
 refine cm hm (fun hm => ?_) fun hm => ?_
 · exact E
 exact E
def cF (s_0 : aB) : Option (Int) :=
 (bif (!s_0.nn) then
  some 0
 else
  ((chk s_0.nn).bind fun _ =>
  some s_0.height))
theorem cR {s_0 : aB} {r : Int} (hm : cF s_0 = some r) : aZ Tryz.prog 173 [aB.av s_0] (vi r) := by
 refine bd 9 Tryz.func173 ?_
 refine W ?_
 refine pu rfl (bD3 Tryz.underlying128 Z1 (aB.isn s_0) Z1) ?_
 refine W ?_
 refine cm hm (fun hm => ?_) fun hm => ?_
 · exact E
 obtain ⟨_, h1, hm⟩ := bnd hm
 exact E
def cZ (bM : aB) (cW : bJ) (bF : aB) : Option (aB) :=
 ((cF bM).bind fun r2 =>
 ((cF bF).bind fun r4 =>
 ((gE bM).bind fun r6 =>
 ((gE bF).bind fun r8 =>
 some (aB.mk bM bF cW (IntKind.i64.wrap ((if r2 < r4 then r4 else r2) + 1)) (IntKind.i64.wrap ((IntKind.i64.wrap (r6 + 1)) + r8)))))))
theorem dW {bM : aB} {cW : bJ} {bF : aB} {r : aB} (hm : cZ bM cW bF = some r) : aZ Tryz.prog 144 [aB.av bM, .agg [vu cW.Key, vi cW.N], aB.av bF] (aB.av r) := by
 refine bd 24 Tryz.func144 ?_
 obtain ⟨r2, h1, hm⟩ := bnd hm
 refine W ?_
 refine cq (cR h1) ?_
 obtain ⟨r4, h3, hm⟩ := bnd hm
 refine W ?_
 refine cq (cR h3) ?_
 obtain ⟨r6, h5, hm⟩ := bnd hm
 refine W ?_
 refine cq (kB h5) ?_
 obtain ⟨r8, h7, hm⟩ := bnd hm
 refine W ?_
 refine cq (kB h7) ?_
 refine W ?_
 refine pu rfl (by simp only [go_sem, Nat.reduceBEq]; exact bAj (aB.cells _) (aB.cells _)) ?_
 refine aU.pop Zd (aBu Z1 (.agg _ (nT (aB.data bM) (nT (aB.data bF) (nT (.v _) (nT (.v _) (nT (.v _) (nT (.v _) aEq)))))))) (aP9 (ys := [aB.av ((aB.mk bM bF cW (IntKind.i64.wrap ((if r2 < r4 then r4 else r2) + 1)) (IntKind.i64.wrap ((IntKind.i64.wrap (r6 + 1)) + r8))).ahead), aB.av ((aB.mk bM bF cW (IntKind.i64.wrap ((if r2 < r4 then r4 else r2) + 1)) (IntKind.i64.wrap ((IntKind.i64.wrap (r6 + 1)) + r8))).behind), .v (.int .u64 (((aB.mk bM bF cW (IntKind.i64.wrap ((if r2 < r4 then r4 else r2) + 1)) (IntKind.i64.wrap ((IntKind.i64.wrap (r6 + 1)) + r8))).thing).Key)), .v (.int .i64 (((aB.mk bM bF cW (IntKind.i64.wrap ((if r2 < r4 then r4 else r2) + 1)) (IntKind.i64.wrap ((IntKind.i64.wrap (r6 + 1)) + r8))).thing).N)), .v (.int .i64 ((aB.mk bM bF cW (IntKind.i64.wrap ((if r2 < r4 then r4 else r2) + 1)) (IntKind.i64.wrap ((IntKind.i64.wrap (r6 + 1)) + r8))).height)), .v (.int .i64 ((aB.mk bM bF cW (IntKind.i64.wrap ((if r2 < r4 then r4 else r2) + 1)) (IntKind.i64.wrap ((IntKind.i64.wrap (r6 + 1)) + r8))).size))]) Z1 (fun H => (.cons (.data _ (aB.data bM)) (.cons (.data _ (aB.data bF)) (.cons (.data _ (.v _)) (.cons (.data _ (.v _)) (.cons (.data _ (.v _)) (.cons (.data _ (.v _)) .nil)))))))) rfl ?_
 exact E
def kQ (bM : aB) (cW : bJ) (bF : aB) : Option (aB) :=
 ((cF bM).bind fun r2 =>
 ((cF bF).bind fun r4 =>
 (bif (decide ((IntKind.i64.wrap (r4 + 1)) < r2)) then
  ((chk bM.nn).bind fun _ =>
  ((cF bM.ahead).bind fun r7 =>
  ((chk bM.nn).bind fun _ =>
  ((cF bM.behind).bind fun r10 =>
  (bif (decide (r10 ≤ r7)) then
   ((chk bM.nn).bind fun _ =>
   ((chk bM.nn).bind fun _ =>
   ((chk bM.nn).bind fun _ =>
   ((cZ bM.behind cW bF).bind fun r15 =>
   ((cZ bM.ahead bM.thing r15).bind fun r17 =>
   some r17)))))
  else
   ((chk bM.nn).bind fun _ =>
   ((chk bM.nn).bind fun _ =>
   ((chk bM.nn).bind fun _ =>
   ((chk bM.behind.nn).bind fun _ =>
   ((cZ bM.ahead bM.thing bM.behind.ahead).bind fun r23 =>
   ((chk bM.behind.nn).bind fun _ =>
   ((chk bM.behind.nn).bind fun _ =>
   ((cZ bM.behind.behind cW bF).bind fun r27 =>
   ((cZ r23 bM.behind.thing r27).bind fun r29 =>
   some r29))))))))))))))
 else
  ((cF bF).bind fun r31 =>
  ((cF bM).bind fun r33 =>
  (bif (decide ((IntKind.i64.wrap (r33 + 1)) < r31)) then
   ((chk bF.nn).bind fun _ =>
   ((cF bF.behind).bind fun r36 =>
   ((chk bF.nn).bind fun _ =>
   ((cF bF.ahead).bind fun r39 =>
   (bif (decide (r39 ≤ r36)) then
    ((chk bF.nn).bind fun _ =>
    ((cZ bM cW bF.ahead).bind fun r42 =>
    ((chk bF.nn).bind fun _ =>
    ((chk bF.nn).bind fun _ =>
    ((cZ r42 bF.thing bF.behind).bind fun r46 =>
    some r46)))))
   else
    ((chk bF.nn).bind fun _ =>
    ((chk bF.ahead.nn).bind fun _ =>
    ((cZ bM cW bF.ahead.ahead).bind fun r50 =>
    ((chk bF.ahead.nn).bind fun _ =>
    ((chk bF.ahead.nn).bind fun _ =>
    ((chk bF.nn).bind fun _ =>
    ((chk bF.nn).bind fun _ =>
    ((cZ bF.ahead.behind bF.thing bF.behind).bind fun r56 =>
    ((cZ r50 bF.ahead.thing r56).bind fun r58 =>
    some r58))))))))))))))
  else
   ((cZ bM cW bF).bind fun r60 =>
   some r60)))))))
theorem aB1 {bM : aB} {cW : bJ} {bF : aB} {r : aB} (hm : kQ bM cW bF = some r) : aZ Tryz.prog 174 [aB.av bM, .agg [vu cW.Key, vi cW.N], aB.av bF] (aB.av r) := by
 refine bd 139 Tryz.func174 ?_
 obtain ⟨r2, h1, hm⟩ := bnd hm
 refine W ?_
 refine cq (cR h1) ?_
 obtain ⟨r4, h3, hm⟩ := bnd hm
 refine W ?_
 refine cq (cR h3) ?_
 refine W ?_
 refine cm hm (fun hm => ?_) fun hm => ?_
 ·
  obtain ⟨_, h5, hm⟩ := bnd hm
  obtain ⟨r7, h6, hm⟩ := bnd hm
  refine W ?_
  refine cq (cR h6) ?_
  obtain ⟨_, h8, hm⟩ := bnd hm
  obtain ⟨r10, h9, hm⟩ := bnd hm
  refine W ?_
  refine cq (cR h9) ?_
  refine W ?_
  refine cm hm (fun hm => ?_) fun hm => ?_
  ·
   obtain ⟨_, h11, hm⟩ := bnd hm
   obtain ⟨_, h12, hm⟩ := bnd hm
   obtain ⟨_, h13, hm⟩ := bnd hm
   obtain ⟨r15, h14, hm⟩ := bnd hm
   refine W ?_
   refine cq (dW h14) ?_
   obtain ⟨r17, h16, hm⟩ := bnd hm
   refine cq (dW h16) ?_
   exact E
  obtain ⟨_, h18, hm⟩ := bnd hm
  obtain ⟨_, h19, hm⟩ := bnd hm
  obtain ⟨_, h20, hm⟩ := bnd hm
  obtain ⟨_, h21, hm⟩ := bnd hm
  obtain ⟨r23, h22, hm⟩ := bnd hm
  refine W ?_
  refine cq (dW h22) ?_
  obtain ⟨_, h24, hm⟩ := bnd hm
  obtain ⟨_, h25, hm⟩ := bnd hm
  obtain ⟨r27, h26, hm⟩ := bnd hm
  refine W ?_
  refine cq (dW h26) ?_
  obtain ⟨r29, h28, hm⟩ := bnd hm
  refine cq (dW h28) ?_
  exact E
 have hm := sb hm h3
 refine W ?_
 refine cq (cR h3) ?_
 have hm := sb hm h1
 refine W ?_
 refine cq (cR h1) ?_
 refine W ?_
 refine cm hm (fun hm => ?_) fun hm => ?_
 ·
  obtain ⟨_, h34, hm⟩ := bnd hm
  obtain ⟨r36, h35, hm⟩ := bnd hm
  refine W ?_
  refine cq (cR h35) ?_
  obtain ⟨_, h37, hm⟩ := bnd hm
  obtain ⟨r39, h38, hm⟩ := bnd hm
  refine W ?_
  refine cq (cR h38) ?_
  refine W ?_
  refine cm hm (fun hm => ?_) fun hm => ?_
  ·
   obtain ⟨_, h40, hm⟩ := bnd hm
   obtain ⟨r42, h41, hm⟩ := bnd hm
   refine W ?_
   refine cq (dW h41) ?_
   obtain ⟨_, h43, hm⟩ := bnd hm
   obtain ⟨_, h44, hm⟩ := bnd hm
   obtain ⟨r46, h45, hm⟩ := bnd hm
   refine W ?_
   refine cq (dW h45) ?_
   exact E
  obtain ⟨_, h47, hm⟩ := bnd hm
  obtain ⟨_, h48, hm⟩ := bnd hm
  obtain ⟨r50, h49, hm⟩ := bnd hm
  refine W ?_
  refine cq (dW h49) ?_
  obtain ⟨_, h51, hm⟩ := bnd hm
  obtain ⟨_, h52, hm⟩ := bnd hm
  obtain ⟨_, h53, hm⟩ := bnd hm
  obtain ⟨_, h54, hm⟩ := bnd hm
  obtain ⟨r56, h55, hm⟩ := bnd hm
  refine W ?_
  refine cq (dW h55) ?_
  obtain ⟨r58, h57, hm⟩ := bnd hm
  refine cq (dW h57) ?_
  exact E
 obtain ⟨r60, h59, hm⟩ := bnd hm
 refine W ?_
 refine cq (dW h59) ?_
 exact E
def kN (recf : aB → bJ → aB → Option (aB)) (bM : aB) (cW : bJ) (bF : aB) : Option (aB) :=
 ((cF bM).bind fun r2 =>
 ((cF bF).bind fun r4 =>
 (bif (decide ((IntKind.i64.wrap (r4 + 1)) < r2)) then
  ((chk bM.nn).bind fun _ =>
  ((chk bM.nn).bind fun _ =>
  ((chk bM.nn).bind fun _ =>
  ((recf bM.behind cW bF).bind fun r9 =>
  ((kQ bM.ahead bM.thing r9).bind fun r11 =>
  some r11)))))
 else
  ((cF bF).bind fun r13 =>
  ((cF bM).bind fun r15 =>
  (bif (decide ((IntKind.i64.wrap (r15 + 1)) < r13)) then
   ((chk bF.nn).bind fun _ =>
   ((recf bM cW bF.ahead).bind fun r18 =>
   ((chk bF.nn).bind fun _ =>
   ((chk bF.nn).bind fun _ =>
   ((kQ r18 bF.thing bF.behind).bind fun r22 =>
   some r22)))))
  else
   ((cZ bM cW bF).bind fun r24 =>
   some r24)))))))
def iL : Nat → aB → bJ → aB → Option (aB)
 | 0 => fun _ _ _ => none
 | n + 1 => kN (iL n)
def kM (bM : aB) (cW : bJ) (bF : aB) : Option (aB) := iL bK bM cW bF
theorem aH6 : ∀ (nn : Nat) {bM : aB} {cW : bJ} {bF : aB} {r : aB} (hm : iL nn bM cW bF = some r), aZ Tryz.prog 143 [aB.av bM, .agg [.v (.int .u64 cW.Key), .v (.int .i64 cW.N)], aB.av bF] (aB.av r) := by
 intro nn
 induction nn with
 | zero =>
  intro bM cW bF r hm
  replace hm : none = some r := hm
  cases hm
 | succ nn ih =>
  intro bM cW bF r hm
  replace hm : kN (iL nn) bM cW bF = some r := hm
  refine aZ.of_body Tryz.func143 rfl ?_
  simp only [Tryz.ntmps143, List.length_cons, List.length_nil, Nat.reduceAdd, Nat.reduceSub, eR]
  unfold kN at hm
  refine sN 64 (hp (id := 0) rfl rfl (aO3 Z1 Z5) ?_)
  refine pA ?_
  refine fs (AWp.seq' (AWp.block (sN 128 (pA ?_))))
  obtain ⟨r2, h1, hm⟩ := bnd hm
  refine aU.callQ (r := .v (.int .i64 r2)) Zd Z1 aWw (fun H => (cD (aB.data _) .nil)) (cR h1) ?_
  refine pA ?_
  obtain ⟨r4, h3, hm⟩ := bnd hm
  refine aU.callQ (r := .v (.int .i64 r4)) Zd Z1 aWw (fun H => (cD (aB.data _) .nil)) (cR h3) ?_
  iterate 3 refine pA ?_
  refine fs (AWp.condM hm Z1 (fun _ hm => ?_) (fun _ hm => ?_))
  ·
   refine sd mix (by kernel_rfl) (N' := 192) rfl ?_
   refine pA ?_
   obtain ⟨_, h5, hm⟩ := bnd hm
   refine pu rfl (qJ Z1 (aB.av_nn (nR h5))) ?_
   iterate 3 refine pA ?_
   obtain ⟨_, h6, hm⟩ := bnd hm
   refine pu rfl (qJ Z1 (aB.av_nn (nR h6))) ?_
   iterate 3 refine pA ?_
   obtain ⟨_, h7, hm⟩ := bnd hm
   refine pu rfl (qJ Z1 (aB.av_nn (nR h7))) ?_
   iterate 2 refine pA ?_
   refine pu rfl (rL Z1 Z3 Z2) ?_
   refine pA ?_
   obtain ⟨r9, h8, hm⟩ := bnd hm
   refine aU.callQ (r := aB.av r9) Zd Z1 aXb (fun H => (cD (aB.data _) (cD (.agg _ (dY.dat _)) (cD (aB.data _) .nil)))) (ih h8) ?_
   obtain ⟨r11, h10, hm⟩ := bnd hm
   refine aU.callQ (r := aB.av r11) Zd Z1 bH5 (fun H => (cD (aB.data _) (cD (.agg _ (dY.dat _)) (cD (aB.data _) .nil)))) (aB1 h10) ?_
   refine pA ?_
   refine fs (AWp.ret (yM (jD ?_)))
   cases hm
   exact aI4 (.inr rfl) Tryz.results143 (td Z1 (aB.data _))
  ·
   refine sN 192 (pA ?_)
   obtain ⟨r13, h12, hm⟩ := bnd hm
   refine aU.callQ (r := .v (.int .i64 r13)) Zd Z1 aWw (fun H => (cD (aB.data _) .nil)) (cR h12) ?_
   refine pA ?_
   obtain ⟨r15, h14, hm⟩ := bnd hm
   refine aU.callQ (r := .v (.int .i64 r15)) Zd Z1 aWw (fun H => (cD (aB.data _) .nil)) (cR h14) ?_
   iterate 3 refine pA ?_
   refine fs (AWp.condM hm Z1 (fun _ hm => ?_) (fun _ hm => ?_))
   ·
    refine sd mix (by kernel_rfl) (N' := 256) rfl ?_
    refine pA ?_
    refine pu rfl (rL Z1 Z3 Z2) ?_
    refine pA ?_
    obtain ⟨_, h16, hm⟩ := bnd hm
    refine pu rfl (qJ Z1 (aB.av_nn (nR h16))) ?_
    iterate 2 refine pA ?_
    obtain ⟨r18, h17, hm⟩ := bnd hm
    refine aU.callQ (r := aB.av r18) Zd Z1 aXb (fun H => (cD (aB.data _) (cD (.agg _ (dY.dat _)) (cD (aB.data _) .nil)))) (ih h17) ?_
    refine pA ?_
    obtain ⟨_, h19, hm⟩ := bnd hm
    refine pu rfl (qJ Z1 (aB.av_nn (nR h19))) ?_
    iterate 3 refine pA ?_
    obtain ⟨_, h20, hm⟩ := bnd hm
    refine pu rfl (qJ Z1 (aB.av_nn (nR h20))) ?_
    iterate 2 refine pA ?_
    obtain ⟨r22, h21, hm⟩ := bnd hm
    refine aU.callQ (r := aB.av r22) Zd Z1 bH5 (fun H => (cD (aB.data _) (cD (.agg _ (dY.dat _)) (cD (aB.data _) .nil)))) (aB1 h21) ?_
    refine pA ?_
    refine fs (AWp.ret (yM (jD ?_)))
    cases hm
    exact aI4 (.inr rfl) Tryz.results143 (td Z1 (aB.data _))
   ·
    refine AWp.skip (kG (bU (sN 256 (pA ?_))))
    refine pu rfl (rL Z1 Z3 Z2) ?_
    refine pA ?_
    obtain ⟨r24, h23, hm⟩ := bnd hm
    refine aU.callQ (r := aB.av r24) Zd Z1 bHh (fun H => (cD (aB.data _) (cD (.agg _ (dY.dat _)) (cD (aB.data _) .nil)))) (dW h23) ?_
    refine pA ?_
    refine fs (AWp.ret ?_)
    cases hm
    exact aI4 (.inr rfl) Tryz.results143 (td Z1 (aB.data _))
theorem tE {bM : aB} {cW : bJ} {bF : aB} {r : aB} (hm : kM bM cW bF = some r) : aZ Tryz.prog 143 [aB.av bM, .agg [.v (.int .u64 cW.Key), .v (.int .i64 cW.N)], aB.av bF] (aB.av r) := aH6 bK hm
def lY (recf : aB → Int → Option (aB × aB)) (s_0 : aB) (aDa : Int) : Option (aB × aB) :=
 (bif (decide (aDa ≤ 0)) then
  some (aB.nil, s_0)
 else
  ((gE s_0).bind fun r2 =>
  (bif (decide (r2 ≤ aDa)) then
   some (s_0, aB.nil)
  else
   ((chk s_0.nn).bind fun _ =>
   ((gE s_0.ahead).bind fun r5 =>
   (bif (decide (aDa ≤ r5)) then
    ((chk s_0.nn).bind fun _ =>
    ((recf s_0.ahead aDa).bind fun ⟨r8, r9⟩ =>
    ((chk s_0.nn).bind fun _ =>
    ((chk s_0.nn).bind fun _ =>
    ((kM r9 s_0.thing s_0.behind).bind fun r13 =>
    some (r8, r13))))))
   else
    ((chk s_0.nn).bind fun _ =>
    ((recf s_0.behind (IntKind.i64.wrap ((IntKind.i64.wrap (aDa - r5)) - 1))).bind fun ⟨r16, r17⟩ =>
    ((chk s_0.nn).bind fun _ =>
    ((chk s_0.nn).bind fun _ =>
    ((kM s_0.ahead s_0.thing r16).bind fun r21 =>
    some (r21, r17))))))))))))
def jQ : Nat → aB → Int → Option (aB × aB)
 | 0 => fun _ _ => none
 | n + 1 => lY (jQ n)
def lX (s_0 : aB) (aDa : Int) : Option (aB × aB) := jQ bK s_0 aDa
theorem aJ5 : ∀ (nn : Nat) {s_0 : aB} {aDa : Int} {r : aB × aB} (hm : jQ nn s_0 aDa = some r), aZ Tryz.prog 125 [aB.av s_0, .v (.int .i64 aDa)] (.tup [aB.av r.1, aB.av r.2]) := by
 intro nn
 induction nn with
 | zero =>
  intro s_0 aDa r hm
  replace hm : none = some r := hm
  cases hm
 | succ nn ih =>
  intro s_0 aDa r hm
  replace hm : lY (jQ nn) s_0 aDa = some r := hm
  refine aZ.of_body Tryz.func125 rfl ?_
  simp only [Tryz.ntmps125, List.length_cons, List.length_nil, Nat.reduceAdd, Nat.reduceSub, eR]
  unfold lY at hm
  refine sN 64 ?_
  iterate 2 refine pA ?_
  refine fs (AWp.seq' (sN 128 ?_))
  iterate 2 refine pA ?_
  refine fs (AWp.condM hm Z1 (fun _ hm => ?_) (fun _ hm => ?_))
  ·
   refine sN 192 ?_
   iterate 3 refine pA ?_
   refine fs (AWp.ret (jD ?_))
   cases hm
   exact aIf (.inr rfl) Tryz.results125 (td Z1 (aB.data _)) (td Z1 (aB.data _))
  ·
   refine AWp.skip (bU (AWp.seq' (sN 192 ?_)))
   iterate 2 refine pA ?_
   obtain ⟨r2, h1, hm⟩ := bnd hm
   refine aU.callQ (r := .v (.int .i64 r2)) Zd Z1 bHc (fun H => (cD (aB.data _) .nil)) (kB h1) ?_
   refine pA ?_
   refine fs (AWp.condM hm Z1 (fun _ hm => ?_) (fun _ hm => ?_))
   ·
    refine sN 256 ?_
    iterate 3 refine pA ?_
    refine fs (AWp.ret (jD ?_))
    cases hm
    exact aIf (.inr rfl) Tryz.results125 (td Z1 (aB.data _)) (td Z1 (aB.data _))
   ·
    refine AWp.skip (bU (sN 256 (pA ?_)))
    obtain ⟨_, h3, hm⟩ := bnd hm
    refine pu rfl (qJ Z1 (aB.av_nn (nR h3))) ?_
    iterate 2 refine pA ?_
    obtain ⟨r5, h4, hm⟩ := bnd hm
    refine aU.callQ (r := .v (.int .i64 r5)) Zd Z1 bHc (fun H => (cD (aB.data _) .nil)) (kB h4) ?_
    refine pA ?_
    refine fs (AWp.seq' (sN 320 ?_))
    iterate 3 refine pA ?_
    refine fs (AWp.condM hm Z1 (fun _ hm => ?_) (fun _ hm => ?_))
    ·
     refine sN 384 (pA ?_)
     obtain ⟨_, h6, hm⟩ := bnd hm
     refine pu rfl (qJ Z1 (aB.av_nn (nR h6))) ?_
     iterate 3 refine pA ?_
     obtain ⟨⟨r8, r9⟩, h7, hm⟩ := bnd hm
     refine aU.callQ (r := .tup [aB.av r8, aB.av r9]) Zd Z1 bHk (fun H => (cD (aB.data _) (cV .nil))) (ih h7) ?_
     iterate 5 refine pA ?_
     refine fs (sd mix (by kernel_rfl) (N' := 448) rfl ?_)
     iterate 3 refine pA ?_
     obtain ⟨_, h10, hm⟩ := bnd hm
     refine pu rfl (qJ Z1 (aB.av_nn (nR h10))) ?_
     iterate 3 refine pA ?_
     obtain ⟨_, h11, hm⟩ := bnd hm
     refine pu rfl (qJ Z1 (aB.av_nn (nR h11))) ?_
     iterate 2 refine pA ?_
     obtain ⟨r13, h12, hm⟩ := bnd hm
     refine aU.callQ (r := aB.av r13) Zd Z1 aXb (fun H => (cD (aB.data _) (cD (.agg _ (dY.dat _)) (cD (aB.data _) .nil)))) (tE h12) ?_
     iterate 2 refine pA ?_
     refine fs (AWp.ret (jD ?_))
     cases hm
     exact aIf (.inr rfl) Tryz.results125 (td Z1 (aB.data _)) (td Z1 (aB.data _))
    ·
     refine AWp.skip (bU (sN 384 (pA ?_)))
     obtain ⟨_, h14, hm⟩ := bnd hm
     refine pu rfl (qJ Z1 (aB.av_nn (nR h14))) ?_
     iterate 6 refine pA ?_
     obtain ⟨⟨r16, r17⟩, h15, hm⟩ := bnd hm
     refine aU.callQ (r := .tup [aB.av r16, aB.av r17]) Zd Z1 bHk (fun H => (cD (aB.data _) (cV .nil))) (ih h15) ?_
     iterate 5 refine pA ?_
     refine fs (sd mix (by kernel_rfl) (N' := 448) rfl ?_)
     refine pA ?_
     obtain ⟨_, h18, hm⟩ := bnd hm
     refine pu rfl (qJ Z1 (aB.av_nn (nR h18))) ?_
     iterate 3 refine pA ?_
     obtain ⟨_, h19, hm⟩ := bnd hm
     refine pu rfl (qJ Z1 (aB.av_nn (nR h19))) ?_
     iterate 3 refine pA ?_
     obtain ⟨r21, h20, hm⟩ := bnd hm
     refine aU.callQ (r := aB.av r21) Zd Z1 aXb (fun H => (cD (aB.data _) (cD (.agg _ (dY.dat _)) (cD (aB.data _) .nil)))) (tE h20) ?_
     iterate 3 refine pA ?_
     refine fs (AWp.ret ?_)
     cases hm
     exact aIf (.inr rfl) Tryz.results125 (td Z1 (aB.data _)) (td Z1 (aB.data _))
theorem vH {s_0 : aB} {aDa : Int} {r : aB × aB} (hm : lX s_0 aDa = some r) : aZ Tryz.prog 125 [aB.av s_0, .v (.int .i64 aDa)] (.tup [aB.av r.1, aB.av r.2]) := aJ5 bK hm
def lR (recf : (List bJ) → Option (aB)) (l_0 : List bJ) : Option (aB) :=
 (bif ((l_0.length : Int) == 0) then
  some aB.nil
 else
  ((slc l_0 0 (IntKind.i64.wrap (Int.tdiv (l_0.length : Int) 2))).bind fun l2 =>
  ((recf l2).bind fun r4 =>
  ((idx l_0 (IntKind.i64.wrap (Int.tdiv (l_0.length : Int) 2))).bind fun x6 =>
  ((slc l_0 (IntKind.i64.wrap ((IntKind.i64.wrap (Int.tdiv (l_0.length : Int) 2)) + 1)) (l_0.length : Int)).bind fun l8 =>
  ((recf l8).bind fun r10 =>
  ((cZ r4 x6 r10).bind fun r12 =>
  some r12)))))))
def oR : Nat → (List bJ) → Option (aB)
 | 0 => fun _ => none
 | n + 1 => lR (oR n)
def wL (l_0 : List bJ) : Option (aB) := oR bK l_0
theorem aQ8 : ∀ (nn : Nat) {l_0 : List bJ} {r : aB} (hm : oR nn l_0 = some r), aZ Tryz.prog 127 [.sl (l_0.flatMap qZ) l_0.length false] (aB.av r) := by
 intro nn
 induction nn with
 | zero =>
  intro l_0 r hm
  replace hm : none = some r := hm
  cases hm
 | succ nn ih =>
  intro l_0 r hm
  replace hm : lR (oR nn) l_0 = some r := hm
  refine aZ.of_body Tryz.func127 rfl ?_
  simp only [Tryz.ntmps127, List.length_cons, List.length_nil, Nat.reduceAdd, Nat.reduceSub, eR]
  unfold lR at hm
  refine sN 64 (pA ?_)
  refine fs (AWp.seq' (sN 128 ?_))
  iterate 3 refine pA ?_
  refine fs (AWp.condM hm Z1 (fun _ hm => ?_) (fun _ hm => ?_))
  ·
   refine sN 192 (pA ?_)
   refine fs (AWp.ret (jD ?_))
   cases hm
   exact aI4 (.inr rfl) Tryz.results127 (td Z1 (aB.data _))
  ·
   refine AWp.skip (bU (sN 192 ?_))
   iterate 4 refine pu rfl (by simp only [go_sem, Nat.reduceBEq, Int.reduceEq, Int.reduceLE]; try with_reducible rfl) ?_
   refine fs (sd mix (by kernel_rfl) (N' := 256) rfl ?_)
   iterate 2 refine pA ?_
   obtain ⟨l2, h1, hm⟩ := bnd hm
   refine pu rfl (aU5 dY Tryz.underlying204 aW7 Z1 rfl aRj (aJo Z1 (aWo h1).2) h1) ?_
   obtain ⟨r4, h3, hm⟩ := bnd hm
   refine aU.callQ (r := aB.av r4) Zd Z1 bDl (fun H => (.cons (tdf Z1 (dY.sl _ _ _)) .nil)) (ih h3) ?_
   iterate 2 refine pA ?_
   obtain ⟨x6, h5, hm⟩ := bnd hm
   refine pu rfl (aE8 dY Zd Tryz.underlying204 aW7 Z1 rfl Z1 h5) ?_
   iterate 4 refine pA ?_
   obtain ⟨l8, h7, hm⟩ := bnd hm
   refine pu rfl (aU5 dY Tryz.underlying204 aW7 Z1 rfl (aJo Z1 (aWo h7).1) (aW9 _) h7) ?_
   obtain ⟨r10, h9, hm⟩ := bnd hm
   refine aU.callQ (r := aB.av r10) Zd Z1 bDl (fun H => (.cons (tdf Z1 (dY.sl _ _ _)) .nil)) (ih h9) ?_
   obtain ⟨r12, h11, hm⟩ := bnd hm
   refine aU.callQ (r := aB.av r12) Zd Z1 bHh (fun H => (cD (aB.data _) (cD (.agg _ (dY.dat _)) (cD (aB.data _) .nil)))) (dW h11) ?_
   refine pA ?_
   refine fs (AWp.ret ?_)
   cases hm
   exact aI4 (.inr rfl) Tryz.results127 (td Z1 (aB.data _))
theorem aQr {l_0 : List bJ} {r : aB} (hm : wL l_0 = some r) : aZ Tryz.prog 127 [.sl (l_0.flatMap qZ) l_0.length false] (aB.av r) := aQ8 bK hm
def nP (a_0 : aB) (b_1 : aB) : Option (aB) :=
 ((lV b_1 0).bind fun ⟨r2, r3⟩ =>
 (bif (!r3) then
  some a_0
 else
  ((lX b_1 1).bind fun ⟨r5, r6⟩ =>
  ((kM a_0 r2 r6).bind fun r8 =>
  some r8))))
theorem aDl {a_0 : aB} {b_1 : aB} {r : aB} (hm : nP a_0 b_1 = some r) : aZ Tryz.prog 126 [aB.av a_0, aB.av b_1] (aB.av r) := by
 refine bd 26 Tryz.func126 ?_
 refine W ?_
 obtain ⟨⟨r2, r3⟩, h1, hm⟩ := bnd hm
 refine cq (xJ h1) ?_
 refine W ?_
 refine cm hm (fun hm => ?_) fun hm => ?_
 · exact E
 refine W ?_
 obtain ⟨⟨r5, r6⟩, h4, hm⟩ := bnd hm
 refine cq (vH h4) ?_
 obtain ⟨r8, h7, hm⟩ := bnd hm
 refine W ?_
 refine cq (tE h7) ?_
 exact E
def aAo (eE : Int) (n_2 : Int) (t6 : bO) (aK9 : aB) (aBm : aB) : Option (bO) :=
 ((wL [(bJ.mk eE n_2)]).bind fun r7 =>
 ((nP r7 aBm).bind fun r9 =>
 ((nP aK9 r9).bind fun r11 =>
 some (bO.mk r11))))
def aCn (d_0 : bO) (eE : Int) (n_2 : Int) : Option (bO) :=
 ((vR d_0 eE).bind fun r2 =>
 ((lX d_0.s r2).bind fun ⟨r4, r5⟩ =>
 ((lV r5 0).bind fun ⟨r13, r14⟩ =>
 (bif (r14 && (r13.Key == eE)) then
  ((lX r5 1).bind fun ⟨r16, r17⟩ =>
  aAo eE n_2 (bO.mk aB.nil) r4 r17)
 else
  aAo eE n_2 (bO.mk aB.nil) r4 r5))))
theorem aZa {d_0 : bO} {eE : Int} {n_2 : Int} {r : bO} (hm : aCn d_0 eE n_2 = some r) : aZ Tryz.prog 96 [.agg [aB.av d_0.s], vu eE, vi n_2] (.agg [aB.av r.s]) := by
 refine bd 47 Tryz.func96 ?_
 obtain ⟨r2, h1, hm⟩ := bnd hm
 refine W ?_
 refine cq (aJv h1) ?_
 obtain ⟨⟨r4, r5⟩, h3, hm⟩ := bnd hm
 refine cq (vH h3) ?_
 refine V ?_
 refine AWp.seqJ (fun s => ∃ eE n_2 t6 aK9 aBm, s = ⟨47, (aF (aF (aF (aF (aF fa 1 (vu eE)) 2 (vi n_2)) 6 (.adr 1 0)) 7 (aB.av aK9)) 8 (aB.av aBm)), ⟨(upd aX 1 (.cells 1 [aB.av t6.s] 0)), 64⟩⟩ ∧ aAo eE n_2 t6 aK9 aBm = some r) ?_ ?_
 ·
  refine W ?_
  obtain ⟨⟨r13, r14⟩, h12, hm⟩ := bnd hm
  refine cq (xJ h12) ?_
  refine W ?_
  refine cm hm (fun hm => ?_) fun hm => ?_
  ·
   refine W ?_
   obtain ⟨⟨r16, r17⟩, h15, hm⟩ := bnd hm
   refine cq (vH h15) ?_
   refine W ?_
   exact Lr (fun j => bif j == 1 then 1 else 0)
  refine W ?_
  exact Lr (fun j => bif j == 1 then 1 else 0)
 rintro s ⟨eE, n_2, t6, aK9, aBm, rfl, hm⟩
 refine W ?_
 refine pu rfl (by simp only [go_sem, Nat.reduceBEq]; exact (by kernel_rfl : cL Tryz.prog 158 [(0, .v (.int .u64 eE)), (1, .v (.int .i64 n_2))] = some (.agg [.v (.int .u64 eE), .v (.int .i64 n_2)]))) ?_
 refine aL dY [(bJ.mk eE n_2)] ?_
 obtain ⟨r7, h6, hm⟩ := bnd hm
 refine aU.callL1 (r := aB.av r7) (id := 68) Zd Z1 bDl Z3 (.cons (tdl dY Z1 Z3 (by simp) Z6) .nil) (aQr h6) ?_
 obtain ⟨r9, h8, hm⟩ := bnd hm
 refine W ?_
 refine cq (aDl h8) ?_
 obtain ⟨r11, h10, hm⟩ := bnd hm
 refine cq (aDl h10) ?_
 refine pu rfl (by simp only [go_sem, Nat.reduceBEq]; exact bCc (aB.cells _)) ?_
 exact E
def rV (rec1 : bO → bO → List aJ → Int → Int → Option (bO × Bool)) (t2 : bO) (fJ : bO) (t14 : List aJ) (t15 : Int) (t16 : Int) : Option (bO × Bool) :=
 rec1 t2 fJ t14 t15 (IntKind.i64.wrap (t16 + 1))
def yA (rec1 : bO → bO → List aJ → Int → Int → Option (bO × Bool)) (t2 : bO) (fJ : bO) (t14 : List aJ) (t15 : Int) (t16 : Int) : Option (bO × Bool) :=
 (bif (decide (t16 < t15)) then
  ((idx t14 t16).bind fun x4 =>
  (bif (!x4.Used) then
   (bif (x4.Key != 0) then
    some ((bO.mk aB.nil), false)
   else
    rV rec1 t2 fJ t14 t15 t16)
  else
   ((rR fJ x4.Key).bind fun ⟨r6, r7⟩ =>
   (bif r7 then
    some ((bO.mk aB.nil), false)
   else
    ((aCn fJ x4.Key t16).bind fun r9 =>
    rV rec1 t2 r9 t14 t15 t16)))))
 else
  some (fJ, true))
def kV : Nat → bO → bO → List aJ → Int → Int → Option (bO × Bool)
 | 0 => fun _ _ _ _ _ => none
 | n + 1 => yA (kV n)
def jX (l_0 : List aJ) : Option (bO × Bool) :=
 ((mP (l_0.length : Int)).bind fun r2 =>
 (bif (!r2) then
  some ((bO.mk aB.nil), false)
 else
  kV bK (bO.mk aB.nil) (bO.mk aB.nil) l_0 (l_0.length : Int) 0))
theorem uM {l_0 : List aJ} {r : bO × Bool} (hm : jX l_0 = some r) : aZ Tryz.prog 71 [vl aW l_0] (.tup [.agg [aB.av r.1.s], vb r.2]) := by
 refine bd 44 Tryz.func71 ?_
 obtain ⟨r2, h1, hm⟩ := bnd hm
 refine W ?_
 refine cq (aFi h1) ?_
 refine W ?_
 refine cm hm (fun hm => ?_) fun hm => ?_
 · exact E
 refine W ?_
 refine lp (fun m s => ∃ t2 fJ t14 t15 t16, s = ⟨44, (aF (aF (aF (aF (aF fa 2 (.adr 1 0)) 4 (.adr 2 0)) 14 (vl aW t14)) 15 (vi t15)) 16 (vi t16)), ⟨(upd (upd aX 1 (.cells 1 [aB.av t2.s] 0)) 2 (.cells 1 [aB.av fJ.s] 0)), 64⟩⟩ ∧ kV m t2 fJ t14 t15 t16 = some r) (Lr (fun j => bif j == 1 then 0 else bif j == 2 then 64 else 0)) ?_
 rintro n1 s ⟨t2, fJ, t14, t15, t16, rfl, hm⟩
 refine W ?_
 refine cm hm (fun hm => ?_) fun hm => ?_
 ·
  refine V ?_
  refine AWp.seqJ (fun s => ∃ t2 fJ t14 t15 t16, s = ⟨44, (aF (aF (aF (aF (aF fa 2 (.adr 1 0)) 4 (.adr 2 0)) 14 (vl aW t14)) 15 (vi t15)) 16 (vi t16)), ⟨(upd (upd aX 1 (.cells 1 [aB.av t2.s] 0)) 2 (.cells 1 [aB.av fJ.s] 0)), 64⟩⟩ ∧ rV (kV n1) t2 fJ t14 t15 t16 = some r) ?_ ?_
  ·
   obtain ⟨x4, h3, hm⟩ := bnd hm
   refine W ?_
   refine cm hm (fun hm => ?_) fun hm => ?_
   ·
    refine W ?_
    refine cm hm (fun hm => ?_) fun hm => ?_
    ·
     refine W ?_
     refine pu rfl (by simp only [go_sem, Nat.reduceBEq]; exact (by kernel_rfl : cL Tryz.prog 130 [] = some (.agg [aB.av aB.nil]))) ?_
     exact E
    refine W ?_
    exact Lr (fun j => bif j == 1 then 1 else bif j == 2 then 2 else 0)
   refine W ?_
   obtain ⟨⟨r6, r7⟩, h5, hm⟩ := bnd hm
   refine cq (aCq h5) ?_
   refine W ?_
   refine cm hm (fun hm => ?_) fun hm => ?_
   ·
    refine W ?_
    refine pu rfl (by simp only [go_sem, Nat.reduceBEq]; exact (by kernel_rfl : cL Tryz.prog 130 [] = some (.agg [aB.av aB.nil]))) ?_
    exact E
   obtain ⟨r9, h8, hm⟩ := bnd hm
   refine W ?_
   refine cq (aZa h8) ?_
   refine W ?_
   exact Lr (fun j => bif j == 1 then 1 else bif j == 2 then 2 else 0)
  rintro s ⟨t2, fJ, t14, t15, t16, rfl, hm⟩
  refine W ?_
  exact Lr (fun j => bif j == 1 then 1 else bif j == 2 then 2 else 0)
 exact E
def uB (l_0 : List aJ) : Option (Bool) :=
 ((jX l_0).bind fun ⟨r2, r3⟩ =>
 some r3)
theorem aOd {l_0 : List aJ} {r : Bool} (hm : uB l_0 = some r) : aZ Tryz.prog 50 [vl aW l_0] (vb r) := by
 refine bd 11 Tryz.func50 ?_
 refine W ?_
 obtain ⟨⟨r2, r3⟩, h1, hm⟩ := bnd hm
 refine cq (uM h1) ?_
 exact E
def yX (rec1 : aD → List aC → Int → Int → Option (Bool)) (s_1 : aD) (t27 : List aC) (t28 : Int) (t29 : Int) : Option (Bool) :=
 (bif (decide (t29 < t28)) then
  ((idx t27 t29).bind fun x6 =>
  ((idx s_1.Slots x6.U).bind fun x8 =>
  ((fE ((!x8.Used) == false) (aJ.mk false 0) (idx s_1.Slots x6.V)).bind fun x10 =>
  (bif ((!x8.Used) || (!x10.Used)) then
   some false
  else
   rec1 s_1 t27 t28 (IntKind.i64.wrap (t29 + 1))))))
 else
  some true)
def pZ : Nat → aD → List aC → Int → Int → Option (Bool)
 | 0 => fun _ _ _ _ => none
 | n + 1 => yX (pZ n)
def sW (s_0 : aD) : Option (Bool) :=
 ((dU s_0.Graph).bind fun r2 =>
 ((fE ((!r2) == false) false (uB s_0.Slots)).bind fun r4 =>
 (bif (((!r2) || (!r4)) || ((s_0.Slots.length : Int) != s_0.Graph.Config.N)) then
  some false
 else
  pZ bK s_0 s_0.Graph.Edges (s_0.Graph.Edges.length : Int) 0)))
theorem aSe {s_0 : aD} {r : Bool} (hm : sW s_0 = some r) : aZ Tryz.prog 19 [.agg [vi s_0.Graph.Config.N, vi s_0.Graph.Config.L, vi s_0.Graph.Config.R, vl bH s_0.Graph.Hashes, vl aT s_0.Graph.Edges, vl aW s_0.Slots]] (vb r) := by
 refine bd 52 Tryz.func19 ?_
 obtain ⟨r2, h1, hm⟩ := bnd hm
 refine W ?_
 refine cq (hY h1) ?_
 obtain ⟨r4, h3, hm⟩ := bnd hm
 refine W ?_
 refine cg (fun hb => aOd (cM h3 hb)) ?_
 refine W ?_
 refine cm hm (fun hm => ?_) fun hm => ?_
 · exact E
 refine W ?_
 refine lp (fun m s => ∃ s_1 t27 t28 t29, s = ⟨52, (aF (aF (aF (aF fa 1 (.adr 1 0)) 27 (vl aT t27)) 28 (vi t28)) 29 (vi t29)), ⟨(upd aX 1 (.cells 1 [vi s_1.Graph.Config.N, vi s_1.Graph.Config.L, vi s_1.Graph.Config.R, vl bH s_1.Graph.Hashes, vl aT s_1.Graph.Edges, vl aW s_1.Slots] 0)), 64⟩⟩ ∧ pZ m s_1 t27 t28 t29 = some r) (Lr (fun j => bif j == 1 then 0 else 0)) ?_
 rintro n1 s ⟨s_1, t27, t28, t29, rfl, hm⟩
 refine W ?_
 refine cm hm (fun hm => ?_) fun hm => ?_
 ·
  obtain ⟨x6, h5, hm⟩ := bnd hm
  obtain ⟨x8, h7, hm⟩ := bnd hm
  obtain ⟨x10, h9, hm⟩ := bnd hm
  refine W ?_
  refine cm hm (fun hm => ?_) fun hm => ?_
  · exact E
  refine W ?_
  exact Lr (fun j => bif j == 1 then 1 else 0)
 exact E
def oL (l_0 : List aJ) (eE : Int) : Option (Int × Bool) :=
 ((jX l_0).bind fun ⟨r2, r3⟩ =>
 (bif (!r3) then
  some (0, false)
 else
  ((rR r2 eE).bind fun ⟨r5, r6⟩ =>
  some (r5, r6))))
theorem aHj {l_0 : List aJ} {eE : Int} {r : Int × Bool} (hm : oL l_0 eE = some r) : aZ Tryz.prog 39 [vl aW l_0, vu eE] (.tup [vi r.1, vb r.2]) := by
 refine bd 20 Tryz.func39 ?_
 refine W ?_
 obtain ⟨⟨r2, r3⟩, h1, hm⟩ := bnd hm
 refine cq (uM h1) ?_
 refine W ?_
 refine cm hm (fun hm => ?_) fun hm => ?_
 · exact E
 refine W ?_
 obtain ⟨⟨r5, r6⟩, h4, hm⟩ := bnd hm
 refine cq (aCq h4) ?_
 exact E
def tZ (aFw : Int) : Option (Bool) :=
 some (((decide (2 ≤ aFw)) && (decide (aFw ≤ 11))) && (aFw != 10))
theorem aOo {aFw : Int} {r : Bool} (hm : tZ aFw = some r) : aZ Tryz.prog 40 [vi aFw] (vb r) := by
 refine bd 13 Tryz.func40 ?_
 exact E
def uD (aFw : Int) : Option (Bool) :=
 some ((((aFw == 3) || (aFw == 4)) || (aFw == 5)) || (aFw == 8))
theorem aPn {aFw : Int} {r : Bool} (hm : uD aFw = some r) : aZ Tryz.prog 41 [vi aFw] (vb r) := by
 refine bd 17 Tryz.func41 ?_
 exact E
def tC (s_0 : aD) (v_1 : Int) : Option ((List Int)) :=
 ((aB8 s_0.Graph.Config.N s_0.Graph.Edges v_1).bind fun r2 =>
 some r2)
theorem aHq {s_0 : aD} {v_1 : Int} {r : (List Int)} (hm : tC s_0 v_1 = some r) : aZ Tryz.prog 77 [.agg [vi s_0.Graph.Config.N, vi s_0.Graph.Config.L, vi s_0.Graph.Config.R, vl bH s_0.Graph.Hashes, vl aT s_0.Graph.Edges, vl aW s_0.Slots], vi v_1] (vl (ci .i64) r) := by
 refine bd 14 Tryz.func77 ?_
 obtain ⟨r2, h1, hm⟩ := bnd hm
 refine W ?_
 refine cq (aQb h1) ?_
 exact E
def sB (s_0 : aD) (v_1 : Int) : Option (Int) :=
 ((tC s_0 v_1).bind fun r2 =>
 some (r2.length : Int))
theorem aDf {s_0 : aD} {v_1 : Int} {r : Int} (hm : sB s_0 v_1 = some r) : aZ Tryz.prog 75 [.agg [vi s_0.Graph.Config.N, vi s_0.Graph.Config.L, vi s_0.Graph.Config.R, vl bH s_0.Graph.Hashes, vl aT s_0.Graph.Edges, vl aW s_0.Slots], vi v_1] (vi r) := by
 refine bd 9 Tryz.func75 ?_
 obtain ⟨r2, h1, hm⟩ := bnd hm
 refine W ?_
 refine cq (aHq h1) ?_
 exact E
def fT (x_0 : Int) : Option (Bool) :=
 some (x_0 != x_0)
theorem mT {x_0 : Int} {r : Bool} (hm : fT x_0 = some r) : aZ Tryz.prog 137 [vu x_0] (vb r) := by
 refine bd 6 Tryz.func137 ?_
 exact E
def nX (x_0 : Int) (y_1 : Int) : Option (Bool) :=
 ((fT x_0).bind fun r2 =>
 ((fE (r2 == true) false (fT y_1)).bind fun r4 =>
 some ((r2 && (!r4)) || (decide (x_0 < y_1)))))
theorem aJb {x_0 : Int} {y_1 : Int} {r : Bool} (hm : nX x_0 y_1 = some r) : aZ Tryz.prog 151 [vu x_0, vu y_1] (vb r) := by
 refine bd 17 Tryz.func151 ?_
 obtain ⟨r2, h1, hm⟩ := bnd hm
 refine W ?_
 refine cq (mT h1) ?_
 obtain ⟨r4, h3, hm⟩ := bnd hm
 refine W ?_
 refine cg (fun hb => mT (cM h3 hb)) ?_
 exact E
def cO (rec1 : List Int → Int → Int → Int → Option (List Int)) (rec2 : List Int → Int → Int → Int → Int → Option (List Int)) (bG : List Int) (a_1 : Int) (b_2 : Int) (i_6 : Int) (j_7 : Int) : Option (List Int) :=
 ((fE ((decide (a_1 < j_7)) == true) 0 (idx bG j_7)).bind fun x2 =>
 ((fE ((decide (a_1 < j_7)) == true) 0 (idx bG (IntKind.i64.wrap (j_7 - 1)))).bind fun x4 =>
 ((fE ((decide (a_1 < j_7)) == true) false (nX x2 x4)).bind fun r6 =>
 (bif ((decide (a_1 < j_7)) && r6) then
  ((idx bG (IntKind.i64.wrap (j_7 - 1))).bind fun x8 =>
  ((idx bG j_7).bind fun x10 =>
  ((idx bG j_7).bind fun x12 =>
  ((stt bG j_7 x8).bind fun l14 =>
  ((idx l14 (IntKind.i64.wrap (j_7 - 1))).bind fun x16 =>
  ((stt l14 (IntKind.i64.wrap (j_7 - 1)) x10).bind fun l18 =>
  rec2 l18 a_1 b_2 i_6 (IntKind.i64.wrap (j_7 - 1))))))))
 else
  rec1 bG a_1 b_2 (IntKind.i64.wrap (i_6 + 1))))))
def cG (rec1 : List Int → Int → Int → Int → Option (List Int)) : Nat → List Int → Int → Int → Int → Int → Option (List Int)
 | 0 => fun _ _ _ _ _ => none
 | n + 1 => cO rec1 (cG rec1 n)
def bW (rec1 : List Int → Int → Int → Int → Option (List Int)) (bG : List Int) (a_1 : Int) (b_2 : Int) (i_6 : Int) : Option (List Int) :=
 (bif (decide (i_6 < b_2)) then
  cG rec1 bK bG a_1 b_2 i_6 i_6
 else
  some bG)
def bN : Nat → List Int → Int → Int → Int → Option (List Int)
 | 0 => fun _ _ _ _ => none
 | n + 1 => bW (bN n)
def cX (bG : List Int) (a_1 : Int) (b_2 : Int) : Option (List Int) :=
 bN bK bG a_1 b_2 (IntKind.i64.wrap (a_1 + 1))
theorem oC {bG : List Int} {a_1 : Int} {b_2 : Int} {r : List Int} (hm : cX bG a_1 b_2 = some r) {H : aH} {i0 : Nat} (he : H.ent i0 = .cells 1 (bG.flatMap (ci .u64)) 0) : dG Tryz.prog 145 [.own i0 0 bG.length, .v (.int .i64 a_1), .v (.int .i64 b_2)] H (.tup []) (H.put i0 (.cells 1 (r.flatMap (ci .u64)) 0)) := by
 refine dG.of_bodyM Tryz.func145 rfl he ?_
 generalize H.ent = h0
 simp only [Tryz.ntmps145, List.length_cons, List.length_nil, Nat.reduceAdd, Nat.reduceSub]
 unfold cX at hm
 refine sN 64 ?_
 iterate 3 refine pA ?_
 refine fs (AWp.block (AWp.loopM (fun m s => ∃ (bG : List Int) (a_1 : Int) (b_2 : Int) (i_6 : Int), s = (⟨49, (aF (aF (aF (aF (fun _ => AV.any) 0 (.own i0 0 bG.length)) 1 (.v (.int .i64 a_1))) 2 (.v (.int .i64 b_2))) 6 (.v (.int .i64 i_6))), ⟨(upd h0 i0 (.cells 1 (bG.flatMap (ci .u64)) 0)), 64⟩⟩ : St) ∧ bN m bG a_1 b_2 i_6 = some r) bK ?_ ?_ ?_))
 ·
  rintro s ⟨_, _, _, _, _, h⟩
  cases h
 ·
  refine ⟨_, ?_, bG, a_1, b_2, (IntKind.i64.wrap (a_1 + 1)), rfl, hm⟩
  exact tG (bT 6 _ Z1 (bT 2 _ Z1 (bT 1 _ Z1 (bT 0 _ (tS Z1 Z6) nU)))) (by simp only [gX]; try rfl)
 ·
  rintro n1 s ⟨bG, a_1, b_2, i_6, rfl, hm⟩
  replace hm : bW (bN n1) bG a_1 b_2 i_6 = some r := hm
  unfold bW at hm
  refine AWp.seq' (sN 128 ?_)
  iterate 3 refine pA ?_
  refine fs (AWp.condM hm Z1 (fun _ hm => ?_) (fun _ hm => ?_))
  ·
   refine AWp.skip (bU (AWp.seq' (AWp.block (sN 192 ?_))))
   iterate 2 refine pA ?_
   refine fs (AWp.block (AWp.loopM (fun m s => ∃ (bG : List Int) (a_1 : Int) (b_2 : Int) (i_6 : Int) (j_7 : Int), s = (⟨49, (aF (aF (aF (aF (aF (fun _ => AV.any) 0 (.own i0 0 bG.length)) 1 (.v (.int .i64 a_1))) 2 (.v (.int .i64 b_2))) 6 (.v (.int .i64 i_6))) 7 (.v (.int .i64 j_7))), ⟨(upd h0 i0 (.cells 1 (bG.flatMap (ci .u64)) 0)), 64⟩⟩ : St) ∧ cG (bN n1) m bG a_1 b_2 i_6 j_7 = some r) bK ?_ ?_ ?_))
   ·
    rintro s ⟨_, _, _, _, _, _, h⟩
    cases h
   ·
    refine ⟨_, ?_, bG, a_1, b_2, i_6, i_6, rfl, hm⟩
    exact tG (bT 7 _ Z1 (bT 6 _ Z1 (bT 2 _ Z1 (bT 1 _ Z1 (bT 0 _ (tS Z1 Z6) nU))))) (by simp only [gX]; try rfl)
   ·
    rintro n2 s ⟨bG, a_1, b_2, i_6, j_7, rfl, hm⟩
    replace hm : cO (bN n1) (cG (bN n1) n2) bG a_1 b_2 i_6 j_7 = some r := hm
    unfold cO at hm
    refine AWp.seq' (sd mix (by kernel_rfl) (N' := 128) rfl ?_)
    iterate 6 first | refine pA ?_ | refine pB ?_
    obtain ⟨x2, h1, hm⟩ := bnd hm
    refine pg rfl rfl Z2 (fun hb => (dK Tryz.underlying24 aF9 (Zh hb) (by simp only [aY, beq_self_eq_true, Nat.reduceBEq, cond_true, cond_false]; try rfl) Z6 (Zh hb) (cM h1 hb))) ?_
    refine pg rfl rfl Z2 (fun hb => (lM (CFi .u64) (Zh hb) (by simp only [aY, beq_self_eq_true, Nat.reduceBEq, cond_true, cond_false]; try rfl) (cM h1 hb) (fun _ => by simp only [go_sem, Nat.reduceBEq]; try with_reducible rfl))) ?_
    iterate 3 refine pB ?_
    obtain ⟨x4, h3, hm⟩ := bnd hm
    refine pg rfl rfl Z2 (fun hb => (dK Tryz.underlying24 aF9 (Zh hb) (by simp only [aY, beq_self_eq_true, Nat.reduceBEq, cond_true, cond_false]; try rfl) Z6 (Zh hb) (cM h3 hb))) ?_
    refine pg rfl rfl Z2 (fun hb => (lM (CFi .u64) (Zh hb) (by simp only [aY, beq_self_eq_true, Nat.reduceBEq, cond_true, cond_false]; try rfl) (cM h3 hb) (fun _ => by simp only [go_sem, Nat.reduceBEq]; try with_reducible rfl))) ?_
    obtain ⟨r6, h5, hm⟩ := bnd hm
    refine aU.callQG (r := .v (.bool r6)) Zd rfl Z2 Z1 bOz (fun hb H => (.cons (td (Zh hb) (.v _)) (.cons (td (Zh hb) (.v _)) .nil))) (fun hb => aJb (cM h5 hb)) ?_
    refine pA ?_
    refine fs (AWp.condM hm Z1 (fun _ hm => ?_) (fun _ hm => ?_))
    ·
     refine AWp.skip (bU (AWp.seq' (AWp.block (AWp.regD 64 mix (by kernel_rfl) (N' := 192) rfl ?_))))
     iterate 8 refine pA ?_
     obtain ⟨x8, h7, hm⟩ := bnd hm
     refine pu rfl (dK Tryz.underlying24 aF9 Z1 (by simp only [aY, beq_self_eq_true, Nat.reduceBEq, cond_true, cond_false]; try rfl) Z6 Z1 h7) ?_
     refine pu rfl (lM (CFi .u64) Z1 (by simp only [aY, beq_self_eq_true, Nat.reduceBEq, cond_true, cond_false]; try rfl) h7 (fun _ => by simp only [go_sem, Nat.reduceBEq]; try with_reducible rfl)) ?_
     iterate 2 refine pA ?_
     obtain ⟨x10, h9, hm⟩ := bnd hm
     refine pu rfl (dK Tryz.underlying24 aF9 Z1 (by simp only [aY, beq_self_eq_true, Nat.reduceBEq, cond_true, cond_false]; try rfl) Z6 Z1 h9) ?_
     refine pu rfl (lM (CFi .u64) Z1 (by simp only [aY, beq_self_eq_true, Nat.reduceBEq, cond_true, cond_false]; try rfl) h9 (fun _ => by simp only [go_sem, Nat.reduceBEq]; try with_reducible rfl)) ?_
     obtain ⟨x12, h11, hm⟩ := bnd hm
     refine pu rfl (dK Tryz.underlying24 aF9 Z1 (by simp only [aY, beq_self_eq_true, Nat.reduceBEq, cond_true, cond_false]; try rfl) Z6 Z1 h11) ?_
     obtain ⟨l14, h13, hm⟩ := bnd hm
     have qh13 := jH h13
     refine aU.heap0 (id := 143) rfl (vN (CFi .u64) aF9 Z1 Z1 (by simp only [aY, beq_self_eq_true, Nat.reduceBEq, cond_true, cond_false]; try rfl) rfl h13) ?_
     obtain ⟨x16, h15, hm⟩ := bnd hm
     refine pu rfl (dK Tryz.underlying24 aF9 Z1 (by simp only [aY, beq_self_eq_true, Nat.reduceBEq, cond_true, cond_false]; try rfl) Z6 Z1 h15) ?_
     obtain ⟨l18, h17, hm⟩ := bnd hm
     have qh17 := jH h17
     refine aU.heap0 (id := 145) rfl (vN (CFi .u64) aF9 Z1 Z1 (by simp only [aY, beq_self_eq_true, Nat.reduceBEq, cond_true, cond_false]; try rfl) rfl h17) ?_
     refine aU.fin (kG (bU (AWp.reg 64 (N' := 256) rfl ?_)))
     iterate 3 refine pA ?_
     refine aU.fin (fS ?_)
     refine ⟨_, ?_, l18, a_1, b_2, i_6, (IntKind.i64.wrap (j_7 - 1)), rfl, hm⟩
     exact tG (bT 7 _ Z1 (bT 6 _ Z1 (bT 2 _ Z1 (bT 1 _ Z1 (bT 0 _ (tS Z1 Z6) nU))))) (by simp only [gX]; try rfl)
    ·
     refine AWp.exit (iO (gI (gG (kG (bU (AWp.reg 64 (N' := 192) rfl ?_))))))
     iterate 3 refine pA ?_
     refine aU.fin (fS ?_)
     refine ⟨_, ?_, bG, a_1, b_2, (IntKind.i64.wrap (i_6 + 1)), rfl, hm⟩
     exact tG (bT 6 _ Z1 (bT 2 _ Z1 (bT 1 _ Z1 (bT 0 _ (tS Z1 Z6) nU)))) (by simp only [gX]; try rfl)
  ·
   refine AWp.exit (iO (gI (gG ?_)))
   cases hm
   exact aN8 (.inl rfl) Tryz.results145 (by simp only [gX]; try rfl)
def dN (rec1 : List Int → Int → Int → Int → Bool → Bool → Option (List Int)) (bG : List Int) (a_1 : Int) (b_2 : Int) (eX : Int) (nM : Bool) (jM : Bool) : Option (List Int) :=
 (bif (decide ((IntKind.i64.wrap (b_2 - a_1)) ≤ 12)) then
  ((aFj (fun x => x.length) bG.length (cX bG a_1 b_2)).bind fun l2 =>
  some l2)
 else
  (bif (eX == 0) then
   none
  else
   none))
def dO : Nat → List Int → Int → Int → Int → Bool → Bool → Option (List Int)
 | 0 => fun _ _ _ _ _ _ => none
 | n + 1 => dN (dO n)
def eZ (bG : List Int) (a_1 : Int) (b_2 : Int) (eX : Int) : Option (List Int) :=
 dO bK bG a_1 b_2 eX true true
theorem tN {bG : List Int} {a_1 : Int} {b_2 : Int} {eX : Int} {r : List Int} (hm : eZ bG a_1 b_2 eX = some r) {H : aH} {i0 : Nat} (he : H.ent i0 = .cells 1 (bG.flatMap (ci .u64)) 0) : dG Tryz.prog 133 [.own i0 0 bG.length, .v (.int .i64 a_1), .v (.int .i64 b_2), .v (.int .i64 eX)] H (.tup []) (H.put i0 (.cells 1 (r.flatMap (ci .u64)) 0)) := by
 refine dG.of_bodyM Tryz.func133 rfl he ?_
 generalize H.ent = h0
 simp only [Tryz.ntmps133, List.length_cons, List.length_nil, Nat.reduceAdd, Nat.reduceSub]
 unfold eZ at hm
 refine sN 64 (pA ?_)
 refine fs (sN 128 (pA ?_))
 refine fs (AWp.block (AWp.loopM (fun m s => ∃ (bG : List Int) (a_1 : Int) (b_2 : Int) (eX : Int) (nM : Bool) (jM : Bool), s = (⟨134, (aF (aF (aF (aF (aF (aF (fun _ => AV.any) 0 (.own i0 0 bG.length)) 1 (.v (.int .i64 a_1))) 2 (.v (.int .i64 b_2))) 3 (.v (.int .i64 eX))) 8 (.v (.bool nM))) 9 (.v (.bool jM))), ⟨(upd h0 i0 (.cells 1 (bG.flatMap (ci .u64)) 0)), 64⟩⟩ : St) ∧ dO m bG a_1 b_2 eX nM jM = some r) bK ?_ ?_ ?_))
 ·
  rintro s ⟨_, _, _, _, _, _, _, h⟩
  cases h
 ·
  refine ⟨_, ?_, bG, a_1, b_2, eX, true, true, rfl, hm⟩
  exact tG (bT 9 _ Z1 (bT 8 _ Z1 (bT 3 _ Z1 (bT 2 _ Z1 (bT 1 _ Z1 (bT 0 _ (tS Z1 Z6) nU)))))) (by simp only [gX]; try rfl)
 ·
  rintro n1 s ⟨bG, a_1, b_2, eX, nM, jM, rfl, hm⟩
  replace hm : dN (dO n1) bG a_1 b_2 eX nM jM = some r := hm
  unfold dN at hm
  refine AWp.block (sN 128 ?_)
  iterate 4 refine pA ?_
  refine fs (AWp.seq' (sN 192 ?_))
  iterate 2 refine pA ?_
  refine fs (AWp.condM hm Z1 (fun _ hm => ?_) (fun _ hm => ?_))
  ·
   refine sN 256 ?_
   iterate 3 refine pA ?_
   obtain ⟨l2, h1, hm⟩ := bnd hm
   have qh1 := aH8 h1
   refine aU.callM Zd Z1 bK7 Z1 (oC (aEp h1) (by simp only [aY, beq_self_eq_true, Nat.reduceBEq, cond_true, cond_false]; try rfl)) ?_
   refine fs (AWp.ret (jD (yM (xI (yM ?_)))))
   cases hm
   exact aN8 (.inr rfl) Tryz.results133 (by simp only [gX]; try rfl)
  ·
   refine AWp.skip (bU (AWp.seq' (sN 256 ?_)))
   iterate 2 refine pA ?_
   refine fs (AWp.condM hm Z1 (fun _ hm => ?_) (fun _ hm => ?_))
   ·
    cases hm
   ·
    cases hm
def fU (x_0 : List Int) : Option (List Int) :=
 ((yS (IntKind.u64.wrap (x_0.length : Int))).bind fun r2 =>
 ((aFj (fun x => x.length) x_0.length (eZ x_0 0 (x_0.length : Int) r2)).bind fun l4 =>
 some l4))
theorem aEk {x_0 : List Int} {r : List Int} (hm : fU x_0 = some r) {H : aH} {i0 : Nat} (he : H.ent i0 = .cells 1 (x_0.flatMap (ci .u64)) 0) : dG Tryz.prog 100 [.own i0 0 x_0.length] H (.tup []) (H.put i0 (.cells 1 (r.flatMap (ci .u64)) 0)) := by
 refine dG.of_bodyM Tryz.func100 rfl he ?_
 generalize H.ent = h0
 simp only [Tryz.ntmps100, List.length_cons, List.length_nil, Nat.reduceAdd, Nat.reduceSub]
 unfold fU at hm
 refine sN 64 ?_
 iterate 3 refine pA ?_
 refine fs (AWp.reg 64 (N' := 128) rfl ?_)
 iterate 4 refine pA ?_
 obtain ⟨r2, h1, hm⟩ := bnd hm
 refine aU.callQ (r := .v (.int .i64 r2)) Zd Z1 bHi (fun H => (cV .nil)) (aHb h1) ?_
 obtain ⟨l4, h3, hm⟩ := bnd hm
 have qh3 := aH8 h3
 refine aU.callM Zd Z1 bJh Z1 (tN (aEp h3) (by simp only [aY, beq_self_eq_true, Nat.reduceBEq, cond_true, cond_false]; try rfl)) ?_
 refine aU.fin ?_
 cases hm
 exact aN8 (.inl rfl) Tryz.results100 (by simp only [gX]; try rfl)
def tX (rec1 : aD → List Int → List Int → Int → Int → Option ((List Int))) (s_2 : aD) (dA : List Int) (t8 : List Int) (t9 : Int) (t10 : Int) : Option ((List Int)) :=
 rec1 s_2 dA t8 t9 (IntKind.i64.wrap (t10 + 1))
def aA4 (rec1 : aD → List Int → List Int → Int → Int → Option ((List Int))) (s_2 : aD) (dA : List Int) (t8 : List Int) (t9 : Int) (t10 : Int) : Option ((List Int)) :=
 (bif (decide (t10 < t9)) then
  ((idx t8 t10).bind fun x2 =>
  ((idx s_2.Slots x2).bind fun x4 =>
  (bif x4.Used then
   ((idx s_2.Slots x2).bind fun x6 =>
   ((app dA [x6.Key]).bind fun l8 =>
   tX rec1 s_2 l8 t8 t9 t10))
  else
   tX rec1 s_2 dA t8 t9 t10)))
 else
  ((aFj (fun x => x.length) dA.length (fU dA)).bind fun l10 =>
  some l10))
def mC : Nat → aD → List Int → List Int → Int → Int → Option ((List Int))
 | 0 => fun _ _ _ _ _ => none
 | n + 1 => aA4 (mC n)
def lZ (s_0 : aD) (l_1 : List Int) : Option ((List Int)) :=
 mC bK s_0 [] l_1 (l_1.length : Int) 0
theorem aBa {s_0 : aD} {l_1 : List Int} {r : (List Int)} (hm : lZ s_0 l_1 = some r) : aZ Tryz.prog 76 [.agg [vi s_0.Graph.Config.N, vi s_0.Graph.Config.L, vi s_0.Graph.Config.R, vl bH s_0.Graph.Hashes, vl aT s_0.Graph.Edges, vl aW s_0.Slots], vl (ci .i64) l_1] (vl (ci .u64) r) := by
 refine bd 33 Tryz.func76 ?_
 refine W ?_
 refine lp (fun m s => ∃ s_2 dA t8 t9 t10, s = ⟨33, (aF (aF (aF (aF (aF fa 2 (.adr 1 0)) 5 (.own 2 0 dA.length)) 8 (vl (ci .i64) t8)) 9 (vi t9)) 10 (vi t10)), ⟨(upd (upd aX 1 (.cells 1 [vi s_2.Graph.Config.N, vi s_2.Graph.Config.L, vi s_2.Graph.Config.R, vl bH s_2.Graph.Hashes, vl aT s_2.Graph.Edges, vl aW s_2.Slots] 0)) 2 (.cells 1 (dA.flatMap (ci .u64)) 0)), 64⟩⟩ ∧ mC m s_2 dA t8 t9 t10 = some r) ?_ ?_
 ·
  refine ⟨_, ?_, s_0, [], l_1, (l_1.length : Int), 0, rfl, hm⟩
  refine St.Le.trans (oD 5 900005 1 Z1 Z5) ?_
  exact cn (fun j => bif j == 1 then 0 else bif j == 2 then 900005 else 0)
 rintro n1 s ⟨s_2, dA, t8, t9, t10, rfl, hm⟩
 refine W ?_
 refine cm hm (fun hm => ?_) fun hm => ?_
 ·
  refine V ?_
  refine AWp.seqJ (fun s => ∃ s_2 dA t8 t9 t10, s = ⟨33, (aF (aF (aF (aF (aF fa 2 (.adr 1 0)) 5 (.own 2 0 dA.length)) 8 (vl (ci .i64) t8)) 9 (vi t9)) 10 (vi t10)), ⟨(upd (upd aX 1 (.cells 1 [vi s_2.Graph.Config.N, vi s_2.Graph.Config.L, vi s_2.Graph.Config.R, vl bH s_2.Graph.Hashes, vl aT s_2.Graph.Edges, vl aW s_2.Slots] 0)) 2 (.cells 1 (dA.flatMap (ci .u64)) 0)), 64⟩⟩ ∧ tX (mC n1) s_2 dA t8 t9 t10 = some r) ?_ ?_
  ·
   obtain ⟨x2, h1, hm⟩ := bnd hm
   obtain ⟨x4, h3, hm⟩ := bnd hm
   refine W ?_
   refine cm hm (fun hm => ?_) fun hm => ?_
   ·
    have hm := sb hm h3
    refine W ?_
    refine aL (CFi .u64) [x4.Key] ?_
    obtain ⟨l8, h7, hm⟩ := bnd hm
    refine W ?_
    exact Lr (fun j => bif j == 1 then 1 else bif j == 2 then 264 else 0)
   refine W ?_
   exact Lr (fun j => bif j == 1 then 1 else bif j == 2 then 2 else 0)
  rintro s ⟨s_2, dA, t8, t9, t10, rfl, hm⟩
  refine W ?_
  exact Lr (fun j => bif j == 1 then 1 else bif j == 2 then 2 else 0)
 obtain ⟨l10, h9, hm⟩ := bnd hm
 refine W ?_
 have qh9 := aH8 h9
 refine aU.callM Zd Z1 bJq Z1 (aEk (aEp h9) Z3) ?_
 exact E
def nS (rec1 : aD → Int → List Int → Int → Int → Option (Int)) (s_2 : aD) (rI : Int) (t8 : List Int) (t9 : Int) (t10 : Int) : Option (Int) :=
 rec1 s_2 rI t8 t9 (IntKind.i64.wrap (t10 + 1))
def tF (rec1 : aD → Int → List Int → Int → Int → Option (Int)) (s_2 : aD) (rI : Int) (t8 : List Int) (t9 : Int) (t10 : Int) : Option (Int) :=
 (bif (decide (t10 < t9)) then
  ((idx t8 t10).bind fun x2 =>
  ((fE ((t10 == x2) == true) (aJ.mk false 0) (idx s_2.Slots t10)).bind fun x4 =>
  (bif ((t10 == x2) && x4.Used) then
   nS rec1 s_2 (IntKind.i64.wrap (rI + 1)) t8 t9 t10
  else
   nS rec1 s_2 rI t8 t9 t10)))
 else
  some rI)
def gM : Nat → aD → Int → List Int → Int → Int → Option (Int)
 | 0 => fun _ _ _ _ _ => none
 | n + 1 => tF (gM n)
def wH (s_0 : aD) (aK0 : List Int) : Option (Int) :=
 gM bK s_0 0 aK0 (aK0.length : Int) 0
theorem aLc {s_0 : aD} {aK0 : List Int} {r : Int} (hm : wH s_0 aK0 = some r) : aZ Tryz.prog 79 [.agg [vi s_0.Graph.Config.N, vi s_0.Graph.Config.L, vi s_0.Graph.Config.R, vl bH s_0.Graph.Hashes, vl aT s_0.Graph.Edges, vl aW s_0.Slots], vl (ci .i64) aK0] (vi r) := by
 refine bd 30 Tryz.func79 ?_
 refine W ?_
 refine lp (fun m s => ∃ s_2 rI t8 t9 t10, s = ⟨30, (aF (aF (aF (aF (aF fa 2 (.adr 1 0)) 5 (vi rI)) 8 (vl (ci .i64) t8)) 9 (vi t9)) 10 (vi t10)), ⟨(upd aX 1 (.cells 1 [vi s_2.Graph.Config.N, vi s_2.Graph.Config.L, vi s_2.Graph.Config.R, vl bH s_2.Graph.Hashes, vl aT s_2.Graph.Edges, vl aW s_2.Slots] 0)), 64⟩⟩ ∧ gM m s_2 rI t8 t9 t10 = some r) (Lr (fun j => bif j == 1 then 0 else 0)) ?_
 rintro n1 s ⟨s_2, rI, t8, t9, t10, rfl, hm⟩
 refine W ?_
 refine cm hm (fun hm => ?_) fun hm => ?_
 ·
  refine V ?_
  refine AWp.seqJ (fun s => ∃ s_2 rI t8 t9 t10, s = ⟨30, (aF (aF (aF (aF (aF fa 2 (.adr 1 0)) 5 (vi rI)) 8 (vl (ci .i64) t8)) 9 (vi t9)) 10 (vi t10)), ⟨(upd aX 1 (.cells 1 [vi s_2.Graph.Config.N, vi s_2.Graph.Config.L, vi s_2.Graph.Config.R, vl bH s_2.Graph.Hashes, vl aT s_2.Graph.Edges, vl aW s_2.Slots] 0)), 64⟩⟩ ∧ nS (gM n1) s_2 rI t8 t9 t10 = some r) ?_ ?_
  ·
   obtain ⟨x2, h1, hm⟩ := bnd hm
   obtain ⟨x4, h3, hm⟩ := bnd hm
   refine W ?_
   refine cm hm (fun hm => ?_) fun hm => ?_
   ·
    refine W ?_
    exact Lr (fun j => bif j == 1 then 1 else 0)
   refine W ?_
   exact Lr (fun j => bif j == 1 then 1 else 0)
  rintro s ⟨s_2, rI, t8, t9, t10, rfl, hm⟩
  refine W ?_
  exact Lr (fun j => bif j == 1 then 1 else 0)
 exact E
def eW (lU : (aR → aR → Option (Int))) (rec1 : List aR → Int → Int → Int → Option (List aR)) (rec2 : List aR → Int → Int → Int → Int → Option (List aR)) (bG : List aR) (a_1 : Int) (b_2 : Int) (i_8 : Int) (j_9 : Int) : Option (List aR) :=
 ((fE ((decide (a_1 < j_9)) == true) (aR.mk 0 0) (idx bG j_9)).bind fun x2 =>
 ((fE ((decide (a_1 < j_9)) == true) (aR.mk 0 0) (idx bG (IntKind.i64.wrap (j_9 - 1)))).bind fun x4 =>
 ((fE ((decide (a_1 < j_9)) == true) 0 (lU x2 x4)).bind fun r6 =>
 (bif ((decide (a_1 < j_9)) && (decide (r6 < 0))) then
  ((idx bG (IntKind.i64.wrap (j_9 - 1))).bind fun x8 =>
  ((idx bG j_9).bind fun x10 =>
  ((idx bG j_9).bind fun x12 =>
  ((stt bG j_9 x8).bind fun l14 =>
  ((idx l14 (IntKind.i64.wrap (j_9 - 1))).bind fun x16 =>
  ((stt l14 (IntKind.i64.wrap (j_9 - 1)) x10).bind fun l18 =>
  rec2 l18 a_1 b_2 i_8 (IntKind.i64.wrap (j_9 - 1))))))))
 else
  rec1 bG a_1 b_2 (IntKind.i64.wrap (i_8 + 1))))))
def dL (lU : (aR → aR → Option (Int))) (rec1 : List aR → Int → Int → Int → Option (List aR)) : Nat → List aR → Int → Int → Int → Int → Option (List aR)
 | 0 => fun _ _ _ _ _ => none
 | n + 1 => eW lU rec1 (dL lU rec1 n)
def eN (lU : (aR → aR → Option (Int))) (rec1 : List aR → Int → Int → Int → Option (List aR)) (bG : List aR) (a_1 : Int) (b_2 : Int) (i_8 : Int) : Option (List aR) :=
 (bif (decide (i_8 < b_2)) then
  dL lU rec1 bK bG a_1 b_2 i_8 i_8
 else
  some bG)
def bX (lU : (aR → aR → Option (Int))) : Nat → List aR → Int → Int → Int → Option (List aR)
 | 0 => fun _ _ _ _ => none
 | n + 1 => eN lU (bX lU n)
def fC (bG : List aR) (a_1 : Int) (b_2 : Int) (lU : (aR → aR → Option (Int))) : Option (List aR) :=
 bX lU bK bG a_1 b_2 (IntKind.i64.wrap (a_1 + 1))
theorem oE {bG : List aR} {a_1 : Int} {b_2 : Int} {lU : (aR → aR → Option (Int))} {r : List aR} (hm : fC bG a_1 b_2 lU = some r) {aFq : FuncId} {yL : List AV} (aT8 : ∀ a, a ∈ yL → AM.Data a) (bBu : (Program.funcs Tryz.prog)[aFq]?.any (fun fn => fn.body.isSome && fn.name != "runtime.NumGoroutine") = true) (bAm : ∀ {x0 x1 r}, lU x0 x1 = some r → aZ Tryz.prog aFq ([.agg [.v (.int .u64 x0.x0), .v (.int .u64 x0.x1)], .agg [.v (.int .u64 x1.x0), .v (.int .u64 x1.x1)]] ++ yL) (.v (.int .i64 r))) {H : aH} {i0 : Nat} (he : H.ent i0 = .cells 2 (bG.flatMap bQ) 0) : dG Tryz.prog 156 [.own i0 0 bG.length, .v (.int .i64 a_1), .v (.int .i64 b_2), .clo (.func aFq) [] yL] H (.tup []) (H.put i0 (.cells 2 (r.flatMap bQ) 0)) := by
 refine dG.of_bodyM Tryz.func156 rfl he ?_
 generalize H.ent = h0
 simp only [Tryz.ntmps156, List.length_cons, List.length_nil, Nat.reduceAdd, Nat.reduceSub]
 unfold fC at hm
 refine sN 64 ?_
 iterate 3 refine pA ?_
 refine fs (AWp.block (AWp.loopM (fun m s => ∃ (bG : List aR) (a_1 : Int) (b_2 : Int) (i_8 : Int), s = (⟨53, (aF (aF (aF (aF (aF (fun _ => AV.any) 0 (.own i0 0 bG.length)) 1 (.v (.int .i64 a_1))) 2 (.v (.int .i64 b_2))) 3 (.clo (.func aFq) [] yL)) 8 (.v (.int .i64 i_8))), ⟨(upd h0 i0 (.cells 2 (bG.flatMap bQ) 0)), 64⟩⟩ : St) ∧ bX lU m bG a_1 b_2 i_8 = some r) bK ?_ ?_ ?_))
 ·
  rintro s ⟨_, _, _, _, _, h⟩
  cases h
 ·
  refine ⟨_, ?_, bG, a_1, b_2, (IntKind.i64.wrap (a_1 + 1)), rfl, hm⟩
  exact tG (bT 8 _ Z1 (bT 3 _ Z1 (bT 2 _ Z1 (bT 1 _ Z1 (bT 0 _ (tS Z1 Z6) nU))))) (by simp only [gX]; try rfl)
 ·
  rintro n1 s ⟨bG, a_1, b_2, i_8, rfl, hm⟩
  replace hm : eN lU (bX lU n1) bG a_1 b_2 i_8 = some r := hm
  unfold eN at hm
  refine AWp.seq' (sN 128 ?_)
  iterate 3 refine pA ?_
  refine fs (AWp.condM hm Z1 (fun _ hm => ?_) (fun _ hm => ?_))
  ·
   refine AWp.skip (bU (AWp.seq' (AWp.block (sN 192 ?_))))
   iterate 2 refine pA ?_
   refine fs (AWp.block (AWp.loopM (fun m s => ∃ (bG : List aR) (a_1 : Int) (b_2 : Int) (i_8 : Int) (j_9 : Int), s = (⟨53, (aF (aF (aF (aF (aF (aF (fun _ => AV.any) 0 (.own i0 0 bG.length)) 1 (.v (.int .i64 a_1))) 2 (.v (.int .i64 b_2))) 3 (.clo (.func aFq) [] yL)) 8 (.v (.int .i64 i_8))) 9 (.v (.int .i64 j_9))), ⟨(upd h0 i0 (.cells 2 (bG.flatMap bQ) 0)), 64⟩⟩ : St) ∧ dL lU (bX lU n1) m bG a_1 b_2 i_8 j_9 = some r) bK ?_ ?_ ?_))
   ·
    rintro s ⟨_, _, _, _, _, _, h⟩
    cases h
   ·
    refine ⟨_, ?_, bG, a_1, b_2, i_8, i_8, rfl, hm⟩
    exact tG (bT 9 _ Z1 (bT 8 _ Z1 (bT 3 _ Z1 (bT 2 _ Z1 (bT 1 _ Z1 (bT 0 _ (tS Z1 Z6) nU)))))) (by simp only [gX]; try rfl)
   ·
    rintro n2 s ⟨bG, a_1, b_2, i_8, j_9, rfl, hm⟩
    replace hm : eW lU (bX lU n1) (dL lU (bX lU n1) n2) bG a_1 b_2 i_8 j_9 = some r := hm
    unfold eW at hm
    refine AWp.seq' (sd mix (by kernel_rfl) (N' := 128) rfl ?_)
    iterate 7 first | refine pA ?_ | refine pB ?_
    obtain ⟨x2, h1, hm⟩ := bnd hm
    refine pg rfl rfl Z2 (fun hb => (dK Tryz.underlying40 aOi (Zh hb) (by simp only [aY, beq_self_eq_true, Nat.reduceBEq, cond_true, cond_false]; try rfl) Z6 (Zh hb) (cM h1 hb))) ?_
    refine pg rfl rfl Z2 (fun hb => (lM eG (Zh hb) (by simp only [aY, beq_self_eq_true, Nat.reduceBEq, cond_true, cond_false]; try rfl) (cM h1 hb) (fun _ => by simp only [go_sem, Nat.reduceBEq]; try with_reducible rfl))) ?_
    iterate 3 refine pB ?_
    obtain ⟨x4, h3, hm⟩ := bnd hm
    refine pg rfl rfl Z2 (fun hb => (dK Tryz.underlying40 aOi (Zh hb) (by simp only [aY, beq_self_eq_true, Nat.reduceBEq, cond_true, cond_false]; try rfl) Z6 (Zh hb) (cM h3 hb))) ?_
    refine pg rfl rfl Z2 (fun hb => (lM eG (Zh hb) (by simp only [aY, beq_self_eq_true, Nat.reduceBEq, cond_true, cond_false]; try rfl) (cM h3 hb) (fun _ => by simp only [go_sem, Nat.reduceBEq]; try with_reducible rfl))) ?_
    obtain ⟨r6, h5, hm⟩ := bnd hm
    refine aU.callQCG (r := .v (.int .i64 r6)) Zd rfl Z2 (fun hb => (Zh hb)) aT8 bBu (fun hb H => (.cons (td (Zh hb) (.agg _ (eG.dat _))) (.cons (td (Zh hb) (.agg _ (eG.dat _))) .nil))) (fun hb => bAm (cM h5 hb)) ?_
    iterate 2 first | refine pA ?_ | refine pB ?_
    refine fs (AWp.condM hm Z1 (fun _ hm => ?_) (fun _ hm => ?_))
    ·
     refine AWp.skip (bU (AWp.seq' (AWp.block (AWp.regD 64 mix (by kernel_rfl) (N' := 192) rfl ?_))))
     iterate 8 refine pA ?_
     obtain ⟨x8, h7, hm⟩ := bnd hm
     refine pu rfl (dK Tryz.underlying40 aOi Z1 (by simp only [aY, beq_self_eq_true, Nat.reduceBEq, cond_true, cond_false]; try rfl) Z6 Z1 h7) ?_
     refine pu rfl (lM eG Z1 (by simp only [aY, beq_self_eq_true, Nat.reduceBEq, cond_true, cond_false]; try rfl) h7 (fun _ => by simp only [go_sem, Nat.reduceBEq]; try with_reducible rfl)) ?_
     iterate 2 refine pA ?_
     obtain ⟨x10, h9, hm⟩ := bnd hm
     refine pu rfl (dK Tryz.underlying40 aOi Z1 (by simp only [aY, beq_self_eq_true, Nat.reduceBEq, cond_true, cond_false]; try rfl) Z6 Z1 h9) ?_
     refine pu rfl (lM eG Z1 (by simp only [aY, beq_self_eq_true, Nat.reduceBEq, cond_true, cond_false]; try rfl) h9 (fun _ => by simp only [go_sem, Nat.reduceBEq]; try with_reducible rfl)) ?_
     obtain ⟨x12, h11, hm⟩ := bnd hm
     refine pu rfl (dK Tryz.underlying40 aOi Z1 (by simp only [aY, beq_self_eq_true, Nat.reduceBEq, cond_true, cond_false]; try rfl) Z6 Z1 h11) ?_
     obtain ⟨l14, h13, hm⟩ := bnd hm
     have qh13 := jH h13
     refine aU.heap0 (id := 143) rfl (vN eG aOi Z1 Z1 (by simp only [aY, beq_self_eq_true, Nat.reduceBEq, cond_true, cond_false]; try rfl) rfl h13) ?_
     obtain ⟨x16, h15, hm⟩ := bnd hm
     refine pu rfl (dK Tryz.underlying40 aOi Z1 (by simp only [aY, beq_self_eq_true, Nat.reduceBEq, cond_true, cond_false]; try rfl) Z6 Z1 h15) ?_
     obtain ⟨l18, h17, hm⟩ := bnd hm
     have qh17 := jH h17
     refine aU.heap0 (id := 145) rfl (vN eG aOi Z1 Z1 (by simp only [aY, beq_self_eq_true, Nat.reduceBEq, cond_true, cond_false]; try rfl) rfl h17) ?_
     refine aU.fin (kG (bU (AWp.reg 64 (N' := 256) rfl ?_)))
     iterate 3 refine pA ?_
     refine aU.fin (fS ?_)
     refine ⟨_, ?_, l18, a_1, b_2, i_8, (IntKind.i64.wrap (j_9 - 1)), rfl, hm⟩
     exact tG (bT 9 _ Z1 (bT 8 _ Z1 (bT 3 _ Z1 (bT 2 _ Z1 (bT 1 _ Z1 (bT 0 _ (tS Z1 Z6) nU)))))) (by simp only [gX]; try rfl)
    ·
     refine AWp.exit (iO (gI (gG (kG (bU (AWp.reg 64 (N' := 192) rfl ?_))))))
     iterate 3 refine pA ?_
     refine aU.fin (fS ?_)
     refine ⟨_, ?_, bG, a_1, b_2, (IntKind.i64.wrap (i_8 + 1)), rfl, hm⟩
     exact tG (bT 8 _ Z1 (bT 3 _ Z1 (bT 2 _ Z1 (bT 1 _ Z1 (bT 0 _ (tS Z1 Z6) nU))))) (by simp only [gX]; try rfl)
  ·
   refine AWp.exit (iO (gI (gG ?_)))
   cases hm
   exact aN8 (.inl rfl) Tryz.results156 (by simp only [gX]; try rfl)
def gH (aB0 : (aR → aR → Option (Int))) (rec1 : List aR → Int → Int → Int → Bool → Bool → Option (List aR)) (bG : List aR) (a_1 : Int) (b_2 : Int) (eX : Int) (lK : Bool) (iP : Bool) : Option (List aR) :=
 (bif (decide ((IntKind.i64.wrap (b_2 - a_1)) ≤ 12)) then
  ((aFj (fun x => x.length) bG.length (fC bG a_1 b_2 aB0)).bind fun l2 =>
  some l2)
 else
  (bif (eX == 0) then
   none
  else
   none))
def eJ (aB0 : (aR → aR → Option (Int))) : Nat → List aR → Int → Int → Int → Bool → Bool → Option (List aR)
 | 0 => fun _ _ _ _ _ _ => none
 | n + 1 => gH aB0 (eJ aB0 n)
def gO (bG : List aR) (a_1 : Int) (b_2 : Int) (eX : Int) (aB0 : (aR → aR → Option (Int))) : Option (List aR) :=
 eJ aB0 bK bG a_1 b_2 eX true true
theorem tL {bG : List aR} {a_1 : Int} {b_2 : Int} {eX : Int} {aB0 : (aR → aR → Option (Int))} {r : List aR} (hm : gO bG a_1 b_2 eX aB0 = some r) {aJm : FuncId} {aCp : List AV} (aSz : ∀ a, a ∈ aCp → AM.Data a) (bDm : (Program.funcs Tryz.prog)[aJm]?.any (fun fn => fn.body.isSome && fn.name != "runtime.NumGoroutine") = true) (bCh : ∀ {x0 x1 r}, aB0 x0 x1 = some r → aZ Tryz.prog aJm ([.agg [.v (.int .u64 x0.x0), .v (.int .u64 x0.x1)], .agg [.v (.int .u64 x1.x0), .v (.int .u64 x1.x1)]] ++ aCp) (.v (.int .i64 r))) {H : aH} {i0 : Nat} (he : H.ent i0 = .cells 2 (bG.flatMap bQ) 0) : dG Tryz.prog 136 [.own i0 0 bG.length, .v (.int .i64 a_1), .v (.int .i64 b_2), .v (.int .i64 eX), .clo (.func aJm) [] aCp] H (.tup []) (H.put i0 (.cells 2 (r.flatMap bQ) 0)) := by
 refine dG.of_bodyM Tryz.func136 rfl he ?_
 generalize H.ent = h0
 simp only [Tryz.ntmps136, List.length_cons, List.length_nil, Nat.reduceAdd, Nat.reduceSub]
 unfold gO at hm
 refine sN 64 (pA ?_)
 refine fs (sN 128 (pA ?_))
 refine fs (AWp.block (AWp.loopM (fun m s => ∃ (bG : List aR) (a_1 : Int) (b_2 : Int) (eX : Int) (lK : Bool) (iP : Bool), s = (⟨148, (aF (aF (aF (aF (aF (aF (aF (fun _ => AV.any) 0 (.own i0 0 bG.length)) 1 (.v (.int .i64 a_1))) 2 (.v (.int .i64 b_2))) 3 (.v (.int .i64 eX))) 4 (.clo (.func aJm) [] aCp)) 10 (.v (.bool lK))) 11 (.v (.bool iP))), ⟨(upd h0 i0 (.cells 2 (bG.flatMap bQ) 0)), 64⟩⟩ : St) ∧ eJ aB0 m bG a_1 b_2 eX lK iP = some r) bK ?_ ?_ ?_))
 ·
  rintro s ⟨_, _, _, _, _, _, _, h⟩
  cases h
 ·
  refine ⟨_, ?_, bG, a_1, b_2, eX, true, true, rfl, hm⟩
  exact tG (bT 11 _ Z1 (bT 10 _ Z1 (bT 4 _ Z1 (bT 3 _ Z1 (bT 2 _ Z1 (bT 1 _ Z1 (bT 0 _ (tS Z1 Z6) nU))))))) (by simp only [gX]; try rfl)
 ·
  rintro n1 s ⟨bG, a_1, b_2, eX, lK, iP, rfl, hm⟩
  replace hm : gH aB0 (eJ aB0 n1) bG a_1 b_2 eX lK iP = some r := hm
  unfold gH at hm
  refine AWp.block (sN 128 ?_)
  iterate 4 refine pA ?_
  refine fs (AWp.seq' (sN 192 ?_))
  iterate 2 refine pA ?_
  refine fs (AWp.condM hm Z1 (fun _ hm => ?_) (fun _ hm => ?_))
  ·
   refine sN 256 ?_
   iterate 4 refine pA ?_
   obtain ⟨l2, h1, hm⟩ := bnd hm
   have qh1 := aH8 h1
   refine aU.callM Zd Z1 bKv Z1 (oE (aEp h1) aSz bDm bCh (by simp only [aY, beq_self_eq_true, Nat.reduceBEq, cond_true, cond_false]; try rfl)) ?_
   refine fs (AWp.ret (jD (yM (xI (yM ?_)))))
   cases hm
   exact aN8 (.inr rfl) Tryz.results136 (by simp only [gX]; try rfl)
  ·
   refine AWp.skip (bU (AWp.seq' (sN 256 ?_)))
   iterate 2 refine pA ?_
   refine fs (AWp.condM hm Z1 (fun _ hm => ?_) (fun _ hm => ?_))
   ·
    cases hm
   ·
    cases hm
def kF (x_0 : List aR) (aWm : (aR → aR → Option (Int))) : Option (List aR) :=
 ((yS (IntKind.u64.wrap (x_0.length : Int))).bind fun r2 =>
 ((aFj (fun x => x.length) x_0.length (gO x_0 0 (x_0.length : Int) r2 aWm)).bind fun l4 =>
 some l4))
theorem aAr {x_0 : List aR} {aWm : (aR → aR → Option (Int))} {r : List aR} (hm : kF x_0 aWm = some r) {aPs : FuncId} {aGt : List AV} (aV7 : ∀ a, a ∈ aGt → AM.Data a) (bDr : (Program.funcs Tryz.prog)[aPs]?.any (fun fn => fn.body.isSome && fn.name != "runtime.NumGoroutine") = true) (bDh : ∀ {x0 x1 r}, aWm x0 x1 = some r → aZ Tryz.prog aPs ([.agg [.v (.int .u64 x0.x0), .v (.int .u64 x0.x1)], .agg [.v (.int .u64 x1.x0), .v (.int .u64 x1.x1)]] ++ aGt) (.v (.int .i64 r))) {H : aH} {i0 : Nat} (he : H.ent i0 = .cells 2 (x_0.flatMap bQ) 0) : dG Tryz.prog 104 [.own i0 0 x_0.length, .clo (.func aPs) [] aGt] H (.tup []) (H.put i0 (.cells 2 (r.flatMap bQ) 0)) := by
 refine dG.of_bodyM Tryz.func104 rfl he ?_
 generalize H.ent = h0
 simp only [Tryz.ntmps104, List.length_cons, List.length_nil, Nat.reduceAdd, Nat.reduceSub]
 unfold kF at hm
 refine sN 64 ?_
 iterate 3 refine pA ?_
 refine fs (AWp.reg 64 (N' := 128) rfl ?_)
 iterate 4 refine pA ?_
 obtain ⟨r2, h1, hm⟩ := bnd hm
 refine aU.callQ (r := .v (.int .i64 r2)) Zd Z1 bHi (fun H => (cV .nil)) (aHb h1) ?_
 refine pA ?_
 obtain ⟨l4, h3, hm⟩ := bnd hm
 have qh3 := aH8 h3
 refine aU.callM Zd Z1 bOd Z1 (tL (aEp h3) aV7 bDr bDh (by simp only [aY, beq_self_eq_true, Nat.reduceBEq, cond_true, cond_false]; try rfl)) ?_
 refine aU.fin ?_
 cases hm
 exact aN8 (.inl rfl) Tryz.results104 (by simp only [gX]; try rfl)
def oF (x_0 : Int) (y_1 : Int) : Option (Int) :=
 ((fT x_0).bind fun r2 =>
 ((fT y_1).bind fun r4 =>
 (bif r2 then
  (bif r4 then
   some 0
  else
   some (-1))
 else
  (bif r4 then
   some 1
  else
   (bif (decide (x_0 < y_1)) then
    some (-1)
   else
    (bif (decide (y_1 < x_0)) then
     some 1
    else
     some 0))))))
theorem vK {x_0 : Int} {y_1 : Int} {r : Int} (hm : oF x_0 y_1 = some r) : aZ Tryz.prog 107 [vu x_0, vu y_1] (vi r) := by
 refine bd 20 Tryz.func107 ?_
 obtain ⟨r2, h1, hm⟩ := bnd hm
 refine W ?_
 refine cq (mT h1) ?_
 obtain ⟨r4, h3, hm⟩ := bnd hm
 refine W ?_
 refine cq (mT h3) ?_
 refine W ?_
 refine cm hm (fun hm => ?_) fun hm => ?_
 ·
  refine W ?_
  refine cm hm (fun hm => ?_) fun hm => ?_
  · exact E
  exact E
 refine W ?_
 refine cm hm (fun hm => ?_) fun hm => ?_
 · exact E
 refine W ?_
 refine cm hm (fun hm => ?_) fun hm => ?_
 · exact E
 refine W ?_
 refine cm hm (fun hm => ?_) fun hm => ?_
 · exact E
 exact E
end Go.Proofs.YtkdohhmacfoolaaGreat
