/- Facts that the statement's proof is made of. No condition. -/
import Derived.Test.YtkdohhmacfoolaaGreatNcGC1
import Derived.Test.YtkdohhmacfoolaaGreatNcAmQ
import Derived.Test.YtkdohhmacfoolaaGreatNcPl
set_option linter.unusedVariables false
set_option linter.unusedSimpArgs false
set_option maxRecDepth 20000
set_option maxHeartbeats 4000000
namespace Go.Proofs.YtkdohhmacfoolaaGreat
open Go Go.AM
structure bF where
 Do : Int
 A : Int
 B : Int
 Text : ByteArray
deriving DecidableEq
def dQ (e : bF) : List AV := [.v (.int .i64 e.Do), .v (.int .u64 e.A), .v (.int .u64 e.B), .v (.string e.Text)]
theorem nR : CF dQ 4 := ⟨fun _ => rfl, fun a x hx => by
 simp only [dQ, List.mem_cons, List.not_mem_nil, or_false] at hx
 rcases hx with rfl | rfl | rfl | rfl
 ·
  exact (.v _)
 ·
  exact (.v _)
 ·
  exact (.v _)
 ·
  exact (.v _), fun _ => rfl⟩
instance : CC dQ 4 := ⟨nR⟩
theorem aEj (e : bF) (r : List AV) : dQ e ++ r = .v (.int .i64 e.Do) :: .v (.int .u64 e.A) :: .v (.int .u64 e.B) :: .v (.string e.Text) :: r := rfl
attribute [go_sem] aEj
structure bC where
 List : List Int
 At : Int
deriving DecidableEq
def aQ8 (e : bC) : List AV := [.sl (e.List.flatMap (ci .u64)) e.List.length false, .v (.int .i64 e.At)]
theorem aJ4 (e : bC) (r : List AV) : aQ8 e ++ r = .sl (e.List.flatMap (ci .u64)) e.List.length false :: .v (.int .i64 e.At) :: r := rfl
attribute [go_sem] aJ4
structure aM where
 Used : Bool
 Key : Int
deriving DecidableEq
def aW (e : aM) : List AV := [.v (.bool e.Used), .v (.int .u64 e.Key)]
theorem dG : CF aW 2 := ⟨fun _ => rfl, fun a x hx => by
 simp only [aW, List.mem_cons, List.not_mem_nil, or_false] at hx
 rcases hx with rfl | rfl
 ·
  exact (.v _)
 ·
  exact (.v _), fun _ => rfl⟩
instance : CC aW 2 := ⟨dG⟩
theorem aIm (e : aM) (r : List AV) : aW e ++ r = .v (.bool e.Used) :: .v (.int .u64 e.Key) :: r := rfl
attribute [go_sem] aIm
structure aD where
 Graph : aG
 Slots : List aM
deriving DecidableEq
def aQz (e : aD) : List AV := [.v (.int .i64 e.Graph.Config.N), .v (.int .i64 e.Graph.Config.L), .v (.int .i64 e.Graph.Config.R), .sl (e.Graph.Hashes.flatMap bH) e.Graph.Hashes.length false, .sl (e.Graph.Edges.flatMap aT) e.Graph.Edges.length false, .sl (e.Slots.flatMap aW) e.Slots.length false]
theorem aIz (e : aD) (r : List AV) : aQz e ++ r = .v (.int .i64 e.Graph.Config.N) :: .v (.int .i64 e.Graph.Config.L) :: .v (.int .i64 e.Graph.Config.R) :: .sl (e.Graph.Hashes.flatMap bH) e.Graph.Hashes.length false :: .sl (e.Graph.Edges.flatMap aT) e.Graph.Edges.length false :: .sl (e.Slots.flatMap aW) e.Slots.length false :: r := rfl
attribute [go_sem] aIz
structure bJ where
 Key : Int
 N : Int
deriving DecidableEq
def rG (e : bJ) : List AV := [.v (.int .u64 e.Key), .v (.int .i64 e.N)]
theorem dW : CF rG 2 := ⟨fun _ => rfl, fun a x hx => by
 simp only [rG, List.mem_cons, List.not_mem_nil, or_false] at hx
 rcases hx with rfl | rfl
 ·
  exact (.v _)
 ·
  exact (.v _), fun _ => rfl⟩
instance : CC rG 2 := ⟨dW⟩
theorem aKv (e : bJ) (r : List AV) : rG e ++ r = .v (.int .u64 e.Key) :: .v (.int .i64 e.N) :: r := rfl
attribute [go_sem] aKv
inductive aB where
 | nil
 | mk (ahead : aB) (behind : aB) (thing : bJ) (height : Int) (size : Int)
def aB.ahead : aB → aB
 | .nil => aB.nil
 | .mk ahead behind thing height size => ahead
def aB.behind : aB → aB
 | .nil => aB.nil
 | .mk ahead behind thing height size => behind
def aB.thing : aB → bJ
 | .nil => (bJ.mk 0 0)
 | .mk ahead behind thing height size => thing
def aB.height : aB → Int
 | .nil => 0
 | .mk ahead behind thing height size => height
def aB.size : aB → Int
 | .nil => 0
 | .mk ahead behind thing height size => size
def aB.nn : aB → Bool
 | .nil => false
 | .mk _ _ _ _ _ => true
def aB.av : aB → AV
 | .nil => .v (.pointer none)
 | .mk ahead behind thing height size => .ptr [ahead.av, behind.av, .v (.int .u64 thing.Key), .v (.int .i64 thing.N), .v (.int .i64 height), .v (.int .i64 size)]
theorem aB.data : (e : aB) → AM.Data e.av
 | .nil => .v _
 | .mk ahead behind thing height size => .ptr _ (fun a hx => by
  simp only [List.mem_cons, List.not_mem_nil, or_false] at hx
  rcases hx with rfl | rfl | rfl | rfl | rfl | rfl
  ·
   exact ahead.data
  ·
   exact behind.data
  ·
   exact (.v _)
  ·
   exact (.v _)
  ·
   exact (.v _)
  ·
   exact (.v _))
theorem aB.av_nn {e : aB} (h : e.nn = true) : e.av = .ptr [aB.av e.ahead, aB.av e.behind, .v (.int .u64 e.thing.Key), .v (.int .i64 e.thing.N), .v (.int .i64 e.height), .v (.int .i64 e.size)] := by
 cases e with
 | nil => cases h
 | mk ahead behind thing height size => rfl
theorem aB.isn (e : aB) : ((!e.nn) = true ∧ e.av = .v (.pointer none)) ∨ ((!e.nn) = false ∧ ∃ xs, e.av = .ptr xs) := by
 cases e with
 | nil => exact .inl ⟨rfl, rfl⟩
 | mk ahead behind thing height size => exact .inr ⟨rfl, _, rfl⟩
theorem aB.cells (e : aB) : e.av.cells? = some [e.av] := by cases e <;> rfl
theorem aB.one (e : aB) : e.av.one = true := by cases e <;> rfl
structure bO where
 s : aB
def vK (e : bO) : List AV := [aB.av e.s]
theorem wR : CF vK 1 := ⟨fun _ => rfl, fun a x hx => by
 simp only [vK, List.mem_cons, List.not_mem_nil, or_false] at hx
 rcases hx with rfl
 ·
  exact (aB.data a.s), fun e => by unfold vK; simp only [List.all_cons, List.all_nil, Bool.and_true, aB.one]; try rfl⟩
instance : CC vK 1 := ⟨wR⟩
theorem aLe (e : bO) (r : List AV) : vK e ++ r = aB.av e.s :: r := rfl
attribute [go_sem] aLe
theorem bBb {a0 : AV} (a0h : a0.cells? = some [a0]) : cL Tryz.prog 130 [(0, a0)] = some (.agg [a0]) := by
 unfold cL
 rw [bH4, Tryz.underlying130]
 simp only []
 rw [(by kernel_rfl : placesOf Tryz.prog _ = some [(0, 1)])]
 simp only []
 simp [uT, a0h, aN7, aMs, aL0]
theorem bAv {a0 : AV} {a1 : AV} {a2_Key : Int} {a2_N : Int} {a3 : Int} {a4 : Int} (a0h : a0.cells? = some [a0]) (a1h : a1.cells? = some [a1]) : cL Tryz.prog 192 [(0, a0), (1, a1), (2, .agg [.v (.int .u64 a2_Key), .v (.int .i64 a2_N)]), (3, .v (.int .i64 a3)), (4, .v (.int .i64 a4))] = some (.agg [a0, a1, .v (.int .u64 a2_Key), .v (.int .i64 a2_N), .v (.int .i64 a3), .v (.int .i64 a4)]) := by
 unfold cL
 rw [bLs, Tryz.underlying192]
 simp only []
 rw [(by kernel_rfl : placesOf Tryz.prog _ = some [(0, 1), (1, 1), (2, 2), (4, 1), (5, 1)])]
 simp only []
 simp [uT, a0h, a1h, aN7, aMs, aL0]
theorem aTx (xs : List AV) : aI Tryz.prog 104 (.ptr (xs)) 0 = some (.ptr xs) := by kernel_rfl
attribute [go_sem] aTx
theorem aVf (x0 : AV) (xs : List AV) : aI Tryz.prog 104 (.ptr (x0 :: xs)) 1 = some (.ptr xs) := by kernel_rfl
attribute [go_sem] aVf
theorem aTt (xs : List AV) : aI Tryz.prog 130 (.ptr (xs)) 0 = some (.ptr xs) := by kernel_rfl
attribute [go_sem] aTt
theorem aUn (xs : List AV) : aI Tryz.prog 192 (.ptr (xs)) 0 = some (.ptr xs) := by kernel_rfl
attribute [go_sem] aUn
theorem aVu (x0 : AV) (xs : List AV) : aI Tryz.prog 192 (.ptr (x0 :: xs)) 1 = some (.ptr xs) := by kernel_rfl
attribute [go_sem] aVu
theorem aUh (x0 : AV) (x1 : AV) (xs : List AV) : aI Tryz.prog 192 (.ptr (x0 :: x1 :: xs)) 2 = some (.ptr xs) := by kernel_rfl
attribute [go_sem] aUh
theorem aTy (x0 : AV) (x1 : AV) (x2 : AV) (x3 : AV) (xs : List AV) : aI Tryz.prog 192 (.ptr (x0 :: x1 :: x2 :: x3 :: xs)) 3 = some (.ptr xs) := by kernel_rfl
attribute [go_sem] aTy
theorem aT1 (x0 : AV) (x1 : AV) (x2 : AV) (x3 : AV) (x4 : AV) (xs : List AV) : aI Tryz.prog 192 (.ptr (x0 :: x1 :: x2 :: x3 :: x4 :: xs)) 4 = some (.ptr xs) := by kernel_rfl
attribute [go_sem] aT1
theorem aUd (i o : Nat) : aI Tryz.prog 102 (.adr i o) 0 = some (.adr i (o + 0)) := by kernel_rfl
attribute [go_sem] aUd
theorem aSq (i o : Nat) : aI Tryz.prog 102 (.adr i o) 1 = some (.adr i (o + 1)) := by kernel_rfl
attribute [go_sem] aSq
theorem aT0 (i o : Nat) : aI Tryz.prog 104 (.adr i o) 0 = some (.adr i (o + 0)) := by kernel_rfl
attribute [go_sem] aT0
theorem aVj (i o : Nat) : aI Tryz.prog 104 (.adr i o) 1 = some (.adr i (o + 1)) := by kernel_rfl
attribute [go_sem] aVj
theorem aTm (i o : Nat) : aI Tryz.prog 130 (.adr i o) 0 = some (.adr i (o + 0)) := by kernel_rfl
attribute [go_sem] aTm
theorem aUf (i o : Nat) : aI Tryz.prog 158 (.adr i o) 0 = some (.adr i (o + 0)) := by kernel_rfl
attribute [go_sem] aUf
theorem aSz (i o : Nat) : aI Tryz.prog 158 (.adr i o) 1 = some (.adr i (o + 1)) := by kernel_rfl
attribute [go_sem] aSz
theorem aY4 (i o : Nat) : aI Tryz.prog 23 (.adr i o) 0 = some (.adr i (o + 0)) := by kernel_rfl
attribute [go_sem] aY4
theorem aXx (i o : Nat) : aI Tryz.prog 23 (.adr i o) 1 = some (.adr i (o + 1)) := by kernel_rfl
attribute [go_sem] aXx
theorem aZp (i o : Nat) : aI Tryz.prog 23 (.adr i o) 2 = some (.adr i (o + 2)) := by kernel_rfl
attribute [go_sem] aZp
theorem aZn (i o : Nat) : aI Tryz.prog 30 (.adr i o) 0 = some (.adr i (o + 0)) := by kernel_rfl
attribute [go_sem] aZn
theorem aXe (i o : Nat) : aI Tryz.prog 30 (.adr i o) 2 = some (.adr i (o + 4)) := by kernel_rfl
attribute [go_sem] aXe
theorem aZw (i o : Nat) : aI Tryz.prog 33 (.adr i o) 0 = some (.adr i (o + 0)) := by kernel_rfl
attribute [go_sem] aZw
theorem aXq (i o : Nat) : aI Tryz.prog 33 (.adr i o) 1 = some (.adr i (o + 5)) := by kernel_rfl
attribute [go_sem] aXq
theorem aY6 (i o : Nat) : aI Tryz.prog 35 (.adr i o) 0 = some (.adr i (o + 0)) := by kernel_rfl
attribute [go_sem] aY6
theorem aXw (i o : Nat) : aI Tryz.prog 35 (.adr i o) 1 = some (.adr i (o + 1)) := by kernel_rfl
attribute [go_sem] aXw
theorem aYz (i o : Nat) : aI Tryz.prog 45 (.adr i o) 3 = some (.adr i (o + 3)) := by kernel_rfl
attribute [go_sem] aYz
theorem bCa (H : aH) (x0 x1 x2 : AV) (xs : List AV) : bP Tryz.prog H 102 (.ptr (x0 :: x1 :: x2 :: xs)) = some (.agg [x0, x1, x2]) := by kernel_rfl
attribute [go_sem] bCa
theorem bDi (H : aH) (x0 x1 : AV) (xs : List AV) : bP Tryz.prog H 104 (.ptr (x0 :: x1 :: xs)) = some (.agg [x0, x1]) := by kernel_rfl
attribute [go_sem] bDi
theorem bBx (H : aH) (x : AV) (xs : List AV) : bP Tryz.prog H 128 (.ptr (x :: xs)) = some x := by kernel_rfl
attribute [go_sem] bBx
theorem bBe (H : aH) (x0 : AV) (xs : List AV) : bP Tryz.prog H 130 (.ptr (x0 :: xs)) = some (.agg [x0]) := by kernel_rfl
attribute [go_sem] bBe
theorem bBu (H : aH) (x0 x1 : AV) (xs : List AV) : bP Tryz.prog H 158 (.ptr (x0 :: x1 :: xs)) = some (.agg [x0, x1]) := by kernel_rfl
attribute [go_sem] bBu
theorem bF8 (H : aH) (x0 x1 x2 : AV) (xs : List AV) : bP Tryz.prog H 23 (.ptr (x0 :: x1 :: x2 :: xs)) = some (.agg [x0, x1, x2]) := by kernel_rfl
attribute [go_sem] bF8
theorem bE6 (H : aH) (x : AV) (xs : List AV) : bP Tryz.prog H 24 (.ptr (x :: xs)) = some x := by kernel_rfl
attribute [go_sem] bE6
theorem bE5 (H : aH) (x : AV) (xs : List AV) : bP Tryz.prog H 28 (.ptr (x :: xs)) = some x := by kernel_rfl
attribute [go_sem] bE5
theorem bIb (H : aH) (x : AV) (xs : List AV) : bP Tryz.prog H 3 (.ptr (x :: xs)) = some x := by kernel_rfl
attribute [go_sem] bIb
theorem bGk (H : aH) (x0 x1 x2 x3 x4 : AV) (xs : List AV) : bP Tryz.prog H 30 (.ptr (x0 :: x1 :: x2 :: x3 :: x4 :: xs)) = some (.agg [x0, x1, x2, x3, x4]) := by kernel_rfl
attribute [go_sem] bGk
theorem bGa (H : aH) (x : AV) (xs : List AV) : bP Tryz.prog H 31 (.ptr (x :: xs)) = some x := by kernel_rfl
attribute [go_sem] bGa
theorem bE8 (H : aH) (x0 x1 x2 x3 x4 x5 : AV) (xs : List AV) : bP Tryz.prog H 33 (.ptr (x0 :: x1 :: x2 :: x3 :: x4 :: x5 :: xs)) = some (.agg [x0, x1, x2, x3, x4, x5]) := by kernel_rfl
attribute [go_sem] bE8
theorem bGb (H : aH) (x0 x1 : AV) (xs : List AV) : bP Tryz.prog H 35 (.ptr (x0 :: x1 :: xs)) = some (.agg [x0, x1]) := by kernel_rfl
attribute [go_sem] bGb
theorem bJ1 (H : aH) (x : AV) (xs : List AV) : bP Tryz.prog H 4 (.ptr (x :: xs)) = some x := by kernel_rfl
attribute [go_sem] bJ1
theorem bEi (H : aH) (x : AV) (xs : List AV) : bP Tryz.prog H 43 (.ptr (x :: xs)) = some x := by kernel_rfl
attribute [go_sem] bEi
theorem bEl (H : aH) (x0 x1 x2 x3 : AV) (xs : List AV) : bP Tryz.prog H 45 (.ptr (x0 :: x1 :: x2 :: x3 :: xs)) = some (.agg [x0, x1, x2, x3]) := by kernel_rfl
attribute [go_sem] bEl
theorem bFm (H : aH) (x0 x1 : AV) (xs : List AV) : bP Tryz.prog H 69 (.ptr (x0 :: x1 :: xs)) = some (.agg [x0, x1]) := by kernel_rfl
attribute [go_sem] bFm
theorem bIs (H : aH) (x : AV) (xs : List AV) : bP Tryz.prog H 9 (.ptr (x :: xs)) = some x := by kernel_rfl
attribute [go_sem] bIs
theorem aVv (H : aH) (k : IntKind) (n : Int) : nG Tryz.prog H 3 198 (.v (.int k n)) = some (.v (.int .u64 (IntKind.u64.wrap n))) := gH Tryz.underlying3 Tryz.underlying198
attribute [go_sem] aVv
theorem aSy (H : aH) (k : IntKind) (n : Int) : nG Tryz.prog H 198 3 (.v (.int k n)) = some (.v (.int .i64 (IntKind.i64.wrap n))) := gH Tryz.underlying198 Tryz.underlying3
attribute [go_sem] aSy
def aC8 (rec1 : Int → List bF → Int → Int → Option (Int)) (n_7 : Int) (t29 : List bF) (t30 : Int) (t31 : Int) : Option (Int) :=
 (bif (decide (t31 < t30)) then
  ((idx t29 t31).bind fun x4 =>
  (bif (decide (1000 < (x4.Text.size : Int))) then
   some (-1)
  else
   rec1 n_7 t29 t30 (IntKind.i64.wrap (t31 + 1))))
 else
  some n_7)
def sC : Nat → Int → List bF → Int → Int → Option (Int)
 | 0 => fun _ _ _ _ => none
 | n + 1 => aC8 (sC n)
def rO (c_0 : aN) (l_1 : List bF) (yP : Int) : Option (Int) :=
 (bif (((decide (10 < c_0.N)) || (decide (4 < c_0.L))) || (decide (3 < c_0.R))) then
  some (-1)
 else
  ((slc l_1 0 (if yP < (l_1.length : Int) then yP else (l_1.length : Int))).bind fun l2 =>
  sC bK (if yP < (l_1.length : Int) then yP else (l_1.length : Int)) l2 (l2.length : Int) 0))
theorem aTu {c_0 : aN} {l_1 : List bF} {yP : Int} {r : Int} (hm : rO c_0 l_1 yP = some r) : aZ Tryz.prog 12 [.agg [vi c_0.N, vi c_0.L, vi c_0.R], vl dQ l_1, vi yP] (vi r) := by
 refine bd 41 Tryz.func12 ?_
 refine W ?_
 refine cm hm (fun hm => ?_) fun hm => ?_
 · exact E
 obtain ⟨l2, h1, hm⟩ := bnd hm
 refine W ?_
 refine lp (fun m s => ∃ n_7 t29 t30 t31, s = ⟨41, (aF (aF (aF (aF fa 7 (vi n_7)) 29 (vl dQ t29)) 30 (vi t30)) 31 (vi t31)), ⟨aX, 64⟩⟩ ∧ sC m n_7 t29 t30 t31 = some r) ?_ ?_
 ·
  refine ⟨_, ?_, (if yP < (l_1.length : Int) then yP else (l_1.length : Int)), l2, (l2.length : Int), 0, rfl, hm⟩
  refine St.Le.trans (aVr 29 (.sl (l2.flatMap dQ) l2.length false) (fun H => (tdf Z1 (nR.sl _ _ _)))) ?_
  exact cn id
 rintro n1 s ⟨n_7, t29, t30, t31, rfl, hm⟩
 refine W ?_
 refine cm hm (fun hm => ?_) fun hm => ?_
 ·
  obtain ⟨x4, h3, hm⟩ := bnd hm
  refine W ?_
  refine cm hm (fun hm => ?_) fun hm => ?_
  · exact E
  exact L
 exact E
def oF (w_0 : bC) : Option (Bool) :=
 some ((decide (0 ≤ w_0.At)) && (decide (w_0.At ≤ (w_0.List.length : Int))))
theorem aHe {w_0 : bC} {r : Bool} (hm : oF w_0 = some r) : aZ Tryz.prog 67 [.agg [vl (ci .u64) w_0.List, vi w_0.At]] (vb r) := by
 refine bd 14 Tryz.func67 ?_
 exact E
def aAe (rec1 : bC → bC → Int → Option (Int × bC × Int)) (w_1 : bC) (t3 : bC) (aEg : Int) : Option (Int × bC × Int) :=
 (bif (decide (aEg < (w_1.List.length : Int))) then
  ((idx w_1.List aEg).bind fun x4 =>
  (bif (decide ((aCi .u64 x4 2305843009213693951) < 2305843009213693951)) then
   some ((aCi .u64 x4 2305843009213693951), (bC.mk w_1.List (IntKind.i64.wrap (aEg + 1))), 0)
  else
   rec1 w_1 t3 (IntKind.i64.wrap (aEg + 1))))
 else
  some (0, w_1, 5))
def pU : Nat → bC → bC → Int → Option (Int × bC × Int)
 | 0 => fun _ _ _ => none
 | n + 1 => aAe (pU n)
def sE (w_0 : bC) : Option (Int × bC × Int) :=
 ((oF w_0).bind fun r2 =>
 (bif (!r2) then
  some (0, w_0, 1)
 else
  pU bK w_0 (bC.mk [] 0) w_0.At))
theorem aHp {w_0 : bC} {r : Int × bC × Int} (hm : sE w_0 = some r) : aZ Tryz.prog 68 [.agg [vl (ci .u64) w_0.List, vi w_0.At]] (.tup [vu r.1, .agg [vl (ci .u64) r.2.1.List, vi r.2.1.At], vi r.2.2]) := by
 refine bd 35 Tryz.func68 ?_
 obtain ⟨r2, h1, hm⟩ := bnd hm
 refine W ?_
 refine cq (aHe h1) ?_
 refine W ?_
 refine cm hm (fun hm => ?_) fun hm => ?_
 · exact E
 refine W ?_
 refine lp (fun m s => ∃ w_1 t3 aEg, s = ⟨35, (aF (aF (aF fa 1 (.adr 1 0)) 3 (.adr 2 0)) 5 (vi aEg)), ⟨(upd (upd aX 1 (.cells 1 [vl (ci .u64) w_1.List, vi w_1.At] 0)) 2 (.cells 1 [vl (ci .u64) t3.List, vi t3.At] 0)), 64⟩⟩ ∧ pU m w_1 t3 aEg = some r) ?_ ?_
 ·
  refine ⟨_, ?_, w_0, (bC.mk [] 0), w_0.At, rfl, hm⟩
  refine St.Le.trans (iI 2 (ys := [.sl (((bC.mk [] 0).List).flatMap (ci .u64)) ((bC.mk [] 0).List).length false, .v (.int .i64 ((bC.mk [] 0).At))]) Z3 (.cons (.nil false) (.cons (.data _ (.v _)) .nil))) ?_
  exact cn (fun j => bif j == 1 then 0 else bif j == 2 then 2 else 0)
 rintro n1 s ⟨w_1, t3, aEg, rfl, hm⟩
 refine W ?_
 refine cm hm (fun hm => ?_) fun hm => ?_
 ·
  obtain ⟨x4, h3, hm⟩ := bnd hm
  refine W ?_
  refine cm hm (fun hm => ?_) fun hm => ?_
  ·
   refine W ?_
   refine pu rfl (by simp only [go_sem, Nat.reduceBEq]; exact (by kernel_rfl : cL Tryz.prog 35 [(0, .sl (w_1.List.flatMap (ci .u64)) w_1.List.length false), (1, .v (.int .i64 (IntKind.i64.wrap (aEg + 1))))] = some (.agg [.sl (w_1.List.flatMap (ci .u64)) w_1.List.length false, .v (.int .i64 (IntKind.i64.wrap (aEg + 1)))]))) ?_
   exact E
  refine W ?_
  exact Lr (fun j => bif j == 1 then 1 else bif j == 2 then 2 else 0)
 exact E
def mZ (rec1 : bC → bC → List bQ → bC → Int → Int → Option ((List bQ) × bC × Int)) (w_2 : bC) (t5 : bC) (sR : List bQ) (aE6 : bC) (t31 : Int) (t32 : Int) : Option ((List bQ) × bC × Int) :=
 (bif (decide (t32 < t31)) then
  ((sE aE6).bind fun ⟨r6, r7, r8⟩ =>
  (bif (r8 != 0) then
   some ([], w_2, r8)
  else
   ((sE r7).bind fun ⟨r10, r11, r12⟩ =>
   (bif (r12 != 0) then
    some ([], w_2, r12)
   else
    ((idx sR t32).bind fun x14 =>
    ((stt sR t32 (bQ.mk r6 r10)).bind fun l16 =>
    rec1 w_2 t5 l16 r11 t31 (IntKind.i64.wrap (t32 + 1))))))))
 else
  some (sR, aE6, 0))
def kP : Nat → bC → bC → List bQ → bC → Int → Int → Option ((List bQ) × bC × Int)
 | 0 => fun _ _ _ _ _ _ => none
 | n + 1 => mZ (kP n)
def pF (w_0 : bC) (n_1 : Int) : Option ((List bQ) × bC × Int) :=
 ((oF w_0).bind fun r2 =>
 (bif (((!r2) || (decide (n_1 < 0))) || (decide (128 < n_1))) then
  some ([], w_0, 1)
 else
  ((mkc n_1 n_1 (bQ.mk 0 0)).bind fun l4 =>
  kP bK w_0 (bC.mk [] 0) l4 w_0 (l4.length : Int) 0)))
theorem aP1 {w_0 : bC} {n_1 : Int} {r : (List bQ) × bC × Int} (hm : pF w_0 n_1 = some r) : aZ Tryz.prog 35 [.agg [vl (ci .u64) w_0.List, vi w_0.At], vi n_1] (.tup [vl bH r.1, .agg [vl (ci .u64) r.2.1.List, vi r.2.1.At], vi r.2.2]) := by
 refine bd 65 Tryz.func35 ?_
 obtain ⟨r2, h1, hm⟩ := bnd hm
 refine W ?_
 refine cq (aHe h1) ?_
 refine W ?_
 refine cm hm (fun hm => ?_) fun hm => ?_
 · exact E
 obtain ⟨l4, h3, hm⟩ := bnd hm
 refine W ?_
 refine aK lV h3 ?_
 refine W ?_
 refine lp (fun m s => ∃ w_2 t5 sR aE6 t31 t32, s = ⟨65, (aF (aF (aF (aF (aF (aF fa 2 (.adr 1 0)) 5 (.adr 2 0)) 7 (.own 3 0 sR.length)) 8 (.adr 4 0)) 31 (vi t31)) 32 (vi t32)), ⟨(upd (upd (upd (upd aX 1 (.cells 1 [vl (ci .u64) w_2.List, vi w_2.At] 0)) 2 (.cells 1 [vl (ci .u64) t5.List, vi t5.At] 0)) 3 (.cells 2 (sR.flatMap bH) 0)) 4 (.cells 1 [vl (ci .u64) aE6.List, vi aE6.At] 0)), 64⟩⟩ ∧ kP m w_2 t5 sR aE6 t31 t32 = some r) ?_ ?_
 ·
  refine ⟨_, ?_, w_0, (bC.mk [] 0), l4, w_0, (l4.length : Int), 0, rfl, hm⟩
  refine St.Le.trans (iI 2 (ys := [.sl (((bC.mk [] 0).List).flatMap (ci .u64)) ((bC.mk [] 0).List).length false, .v (.int .i64 ((bC.mk [] 0).At))]) Z3 (.cons (.nil false) (.cons (.data _ (.v _)) .nil))) ?_
  exact cn (fun j => bif j == 1 then 0 else bif j == 2 then 2 else bif j == 3 then 129 else bif j == 4 then 193 else 0)
 rintro n1 s ⟨w_2, t5, sR, aE6, t31, t32, rfl, hm⟩
 refine W ?_
 refine cm hm (fun hm => ?_) fun hm => ?_
 ·
  refine W ?_
  obtain ⟨⟨r6, r7, r8⟩, h5, hm⟩ := bnd hm
  refine cq (aHp h5) ?_
  refine W ?_
  refine cm hm (fun hm => ?_) fun hm => ?_
  · exact E
  refine W ?_
  obtain ⟨⟨r10, r11, r12⟩, h9, hm⟩ := bnd hm
  refine cq (aHp h9) ?_
  refine W ?_
  refine cm hm (fun hm => ?_) fun hm => ?_
  · exact E
  refine W ?_
  refine pu rfl (by simp only [go_sem, Nat.reduceBEq]; exact (by kernel_rfl : cL Tryz.prog 120 [(0, .v (.int .u64 r6)), (1, .v (.int .u64 r10))] = some (.agg [.v (.int .u64 r6), .v (.int .u64 r10)]))) ?_
  obtain ⟨x14, h13, hm⟩ := bnd hm
  obtain ⟨l16, h15, hm⟩ := bnd hm
  refine W ?_
  have qh15 := jC h15
  refine aS h15 ?_
  refine W ?_
  exact Lr (fun j => bif j == 1 then 1 else bif j == 2 then 2 else bif j == 3 then 3 else bif j == 4 then 4 else 0)
 exact E
def mK (n_0 : Int) : Option (Bool) :=
 some ((decide (1 ≤ n_0)) && (decide (n_0 ≤ 1024)))
theorem aF6 {n_0 : Int} {r : Bool} (hm : mK n_0 = some r) : aZ Tryz.prog 70 [vi n_0] (vb r) := by
 refine bd 9 Tryz.func70 ?_
 exact E
def aE7 (n_0 : Int) : Option ((List aM) × Int) :=
 ((mK n_0).bind fun r2 =>
 (bif (!r2) then
  some ([], 1)
 else
  ((mkc n_0 n_0 (aM.mk false 0)).bind fun l4 =>
  some (l4, 0))))
theorem aVb {n_0 : Int} {r : (List aM) × Int} (hm : aE7 n_0 = some r) : aZ Tryz.prog 37 [vi n_0] (.tup [vl aW r.1, vi r.2]) := by
 refine bd 9 Tryz.func37 ?_
 obtain ⟨r2, h1, hm⟩ := bnd hm
 refine W ?_
 refine cq (aF6 h1) ?_
 refine W ?_
 refine cm hm (fun hm => ?_) fun hm => ?_
 · exact E
 obtain ⟨l4, h3, hm⟩ := bnd hm
 refine W ?_
 refine aK dG h3 ?_
 exact E
def kA (c_0 : aN) (w_1 : bC) : Option (aD × bC × Int) :=
 (bif ((((((decide (c_0.N < 1)) || (decide (1024 < c_0.N))) || (decide (c_0.L < 1))) || (decide (16 < c_0.L))) || (decide (c_0.R < 1))) || (decide (8 < c_0.R))) then
  some ((aD.mk (aG.mk (aN.mk 0 0 0) [] []) []), w_1, 1)
 else
  ((pF w_1 (IntKind.i64.wrap (c_0.L * c_0.R))).bind fun ⟨r2, r3, r4⟩ =>
  (bif (r4 != 0) then
   some ((aD.mk (aG.mk (aN.mk 0 0 0) [] []) []), w_1, r4)
  else
   ((zT c_0 r2).bind fun ⟨r6, r7⟩ =>
   (bif (r7 != 0) then
    some ((aD.mk (aG.mk (aN.mk 0 0 0) [] []) []), w_1, r7)
   else
    ((aE7 c_0.N).bind fun ⟨r9, r10⟩ =>
    (bif (r10 != 0) then
     some ((aD.mk (aG.mk (aN.mk 0 0 0) [] []) []), w_1, r10)
    else
     some ((aD.mk r6 r9), r3, 0))))))))
theorem aK1 {c_0 : aN} {w_1 : bC} {r : aD × bC × Int} (hm : kA c_0 w_1 = some r) : aZ Tryz.prog 13 [.agg [vi c_0.N, vi c_0.L, vi c_0.R], .agg [vl (ci .u64) w_1.List, vi w_1.At]] (.tup [.agg [vi r.1.Graph.Config.N, vi r.1.Graph.Config.L, vi r.1.Graph.Config.R, vl bH r.1.Graph.Hashes, vl aT r.1.Graph.Edges, vl aW r.1.Slots], .agg [vl (ci .u64) r.2.1.List, vi r.2.1.At], vi r.2.2]) := by
 refine bd 84 Tryz.func13 ?_
 refine W ?_
 refine cm hm (fun hm => ?_) fun hm => ?_
 ·
  refine W ?_
  refine AWp.regV [(3, 1), (4, 2), (5, 3)] 64 mix (by kernel_rfl) (by kernel_rfl) (IV.cons (off := 0) Z1 (IV.cons (off := 0) Z1 (IV.cons (off := 0) Z1 IV.nil))) (N' := 192) rfl ?_
  refine pu rfl (by simp only [go_sem, Nat.reduceBEq]; exact (by kernel_rfl : cL Tryz.prog 33 [] = some (.agg [.v (.int .i64 0), .v (.int .i64 0), .v (.int .i64 0), .v (.slice none 0 0), .v (.slice none 0 0), .v (.slice none 0 0)]))) ?_
  exact E
 refine W ?_
 obtain ⟨⟨r2, r3, r4⟩, h1, hm⟩ := bnd hm
 refine cq (aP1 h1) ?_
 refine W ?_
 refine cm hm (fun hm => ?_) fun hm => ?_
 ·
  refine W ?_
  refine AWp.regV [(3, 1), (4, 2), (5, 3)] 64 mix (by kernel_rfl) (by kernel_rfl) (IV.cons (off := 0) Z1 (IV.cons (off := 0) Z1 (IV.cons (off := 0) Z1 IV.nil))) (N' := 320) rfl ?_
  refine pu rfl (by simp only [go_sem, Nat.reduceBEq]; exact (by kernel_rfl : cL Tryz.prog 33 [] = some (.agg [.v (.int .i64 0), .v (.int .i64 0), .v (.int .i64 0), .v (.slice none 0 0), .v (.slice none 0 0), .v (.slice none 0 0)]))) ?_
  exact E
 refine W ?_
 obtain ⟨⟨r6, r7⟩, h5, hm⟩ := bnd hm
 refine cq (aUm h5) ?_
 refine W ?_
 refine cm hm (fun hm => ?_) fun hm => ?_
 ·
  refine W ?_
  refine AWp.regV [(3, 1), (4, 2), (5, 3)] 64 mix (by kernel_rfl) (by kernel_rfl) (IV.cons (off := 0) Z1 (IV.cons (off := 0) Z1 (IV.cons (off := 0) Z1 IV.nil))) (N' := 448) rfl ?_
  refine pu rfl (by simp only [go_sem, Nat.reduceBEq]; exact (by kernel_rfl : cL Tryz.prog 33 [] = some (.agg [.v (.int .i64 0), .v (.int .i64 0), .v (.int .i64 0), .v (.slice none 0 0), .v (.slice none 0 0), .v (.slice none 0 0)]))) ?_
  exact E
 refine W ?_
 obtain ⟨⟨r9, r10⟩, h8, hm⟩ := bnd hm
 refine cq (aVb h8) ?_
 refine W ?_
 refine cm hm (fun hm => ?_) fun hm => ?_
 ·
  refine W ?_
  refine AWp.regV [(3, 1), (4, 2), (5, 3)] 64 mix (by kernel_rfl) (by kernel_rfl) (IV.cons (off := 0) Z1 (IV.cons (off := 0) Z1 (IV.cons (off := 0) Z1 IV.nil))) (N' := 576) rfl ?_
  refine pu rfl (by simp only [go_sem, Nat.reduceBEq]; exact (by kernel_rfl : cL Tryz.prog 33 [] = some (.agg [.v (.int .i64 0), .v (.int .i64 0), .v (.int .i64 0), .v (.slice none 0 0), .v (.slice none 0 0), .v (.slice none 0 0)]))) ?_
  exact E
 refine W ?_
 refine AWp.regV [(4, 2), (5, 3), (8, 139), (10, 262)] 64 mix (by kernel_rfl) (by kernel_rfl) (IV.cons (off := 0) Z1 (IV.cons (off := 0) Z1 (IV.cons (off := 0) Z1 (IV.cons (off := 0) Z1 IV.nil)))) (N' := 576) rfl ?_
 refine W ?_
 refine pu rfl (by simp only [go_sem, Nat.reduceBEq]; exact (by kernel_rfl : cL Tryz.prog 33 [(0, .agg [.v (.int .i64 r6.Config.N), .v (.int .i64 r6.Config.L), .v (.int .i64 r6.Config.R), .sl (r6.Hashes.flatMap bH) r6.Hashes.length false, .sl (r6.Edges.flatMap aT) r6.Edges.length false]), (1, .sl (r9.flatMap aW) r9.length false)] = some (.agg [.v (.int .i64 r6.Config.N), .v (.int .i64 r6.Config.L), .v (.int .i64 r6.Config.R), .sl (r6.Hashes.flatMap bH) r6.Hashes.length false, .sl (r6.Edges.flatMap aT) r6.Edges.length false, .sl (r9.flatMap aW) r9.length false]))) ?_
 exact E
def fW (s_0 : aB) : Option (Int) :=
 (bif (!s_0.nn) then
  some 0
 else
  ((chk s_0.nn).bind fun _ =>
  some s_0.size))
theorem jY {s_0 : aB} {r : Int} (hm : fW s_0 = some r) : aZ Tryz.prog 128 [aB.av s_0] (vi r) := by
 refine bd 9 Tryz.func128 ?_
 refine W ?_
 refine pu rfl (bDg Tryz.underlying128 Z1 (aB.isn s_0) Z1) ?_
 refine W ?_
 refine cm hm (fun hm => ?_) fun hm => ?_
 · exact E
 obtain ⟨_, h1, hm⟩ := bnd hm
 exact E
def zD (rec1 : aB → Int → bJ → Option (bJ × Bool)) (s_0 : aB) (i_1 : Int) (t4 : bJ) : Option (bJ × Bool) :=
 ((chk s_0.nn).bind fun _ =>
 ((fW s_0.ahead).bind fun r5 =>
 (bif (decide (i_1 < r5)) then
  ((chk s_0.nn).bind fun _ =>
  rec1 s_0.ahead i_1 t4)
 else
  (bif (decide (r5 < i_1)) then
   ((chk s_0.nn).bind fun _ =>
   rec1 s_0.behind (IntKind.i64.wrap (i_1 - (IntKind.i64.wrap (r5 + 1)))) t4)
  else
   ((chk s_0.nn).bind fun _ =>
   some (s_0.thing, true))))))
def oO : Nat → aB → Int → bJ → Option (bJ × Bool)
 | 0 => fun _ _ _ => none
 | n + 1 => zD (oO n)
def lG (s_0 : aB) (i_1 : Int) : Option (bJ × Bool) :=
 ((fF ((decide (i_1 < 0)) == false) 0 (fW s_0)).bind fun r2 =>
 (bif ((decide (i_1 < 0)) || (decide (r2 ≤ i_1))) then
  some ((bJ.mk 0 0), false)
 else
  oO bK s_0 i_1 (bJ.mk 0 0)))
theorem vX {s_0 : aB} {i_1 : Int} {r : bJ × Bool} (hm : lG s_0 i_1 = some r) : aZ Tryz.prog 97 [aB.av s_0, vi i_1] (.tup [.agg [vu r.1.Key, vi r.1.N], vb r.2]) := by
 refine bd 46 Tryz.func97 ?_
 obtain ⟨r2, h1, hm⟩ := bnd hm
 refine W ?_
 refine cg (fun hb => jY (cJ h1 hb)) ?_
 refine W ?_
 refine cm hm (fun hm => ?_) fun hm => ?_
 · exact E
 refine W ?_
 refine lp (fun m s => ∃ s_0 i_1 t4, s = ⟨46, (aF (aF (aF fa 0 (aB.av s_0)) 1 (vi i_1)) 4 (.adr 1 0)), ⟨(upd aX 1 (.cells 1 [vu t4.Key, vi t4.N] 0)), 64⟩⟩ ∧ oO m s_0 i_1 t4 = some r) (Lr (fun j => bif j == 1 then 0 else 0)) ?_
 rintro n1 s ⟨s_0, i_1, t4, rfl, hm⟩
 obtain ⟨_, h3, hm⟩ := bnd hm
 obtain ⟨r5, h4, hm⟩ := bnd hm
 refine W ?_
 refine cq (jY h4) ?_
 refine W ?_
 refine cm hm (fun hm => ?_) fun hm => ?_
 ·
  obtain ⟨_, h6, hm⟩ := bnd hm
  refine W ?_
  exact Lr (fun j => bif j == 1 then 1 else 0)
 refine W ?_
 refine cm hm (fun hm => ?_) fun hm => ?_
 ·
  obtain ⟨_, h7, hm⟩ := bnd hm
  refine W ?_
  exact Lr (fun j => bif j == 1 then 1 else 0)
 obtain ⟨_, h8, hm⟩ := bnd hm
 exact E
def qN (i_0 : Int) (t1 : bO) (t2 : Int) : Option (Bool) :=
 ((lG t1.s i_0).bind fun ⟨r2, r3⟩ =>
 some (decide (t2 ≤ r2.Key)))
theorem aPy {i_0 : Int} {t1 : bO} {t2 : Int} {r : Bool} (hm : qN i_0 t1 t2 = some r) : aZ Tryz.prog 130 [vi i_0, .ptr [aB.av t1.s], .ptr [vu t2]] (vb r) := by
 refine bd 18 Tryz.func130 ?_
 refine W ?_
 obtain ⟨⟨r2, r3⟩, h1, hm⟩ := bnd hm
 refine cq (vX h1) ?_
 exact E
def xS (f_1 : (Int → Option (Bool))) (rec1 : Int → Int → Option (Int)) (i_5 : Int) (j_6 : Int) : Option (Int) :=
 (bif (decide (i_5 < j_6)) then
  ((f_1 (IntKind.i64.wrap (shr .u64 (IntKind.u64.wrap (IntKind.i64.wrap (i_5 + j_6))) 1))).bind fun r2 =>
  (bif (!r2) then
   rec1 (IntKind.i64.wrap ((IntKind.i64.wrap (shr .u64 (IntKind.u64.wrap (IntKind.i64.wrap (i_5 + j_6))) 1)) + 1)) j_6
  else
   rec1 i_5 (IntKind.i64.wrap (shr .u64 (IntKind.u64.wrap (IntKind.i64.wrap (i_5 + j_6))) 1))))
 else
  some i_5)
def nJ (f_1 : (Int → Option (Bool))) : Nat → Int → Int → Option (Int)
 | 0 => fun _ _ => none
 | n + 1 => xS f_1 (nJ f_1 n)
def aA5 (n_0 : Int) (f_1 : (Int → Option (Bool))) : Option (Int) :=
 nJ f_1 bK 0 n_0
theorem aOa {n_0 : Int} {f_1 : (Int → Option (Bool))} {r : Int} (hm : aA5 n_0 f_1 = some r) {aEq : FuncId} {uF : List AV} (aLs : ∀ a, a ∈ uF → AM.Data a) (aSv : (Program.funcs Tryz.prog)[aEq]?.any (fun fn => fn.body.isSome && fn.name != "runtime.NumGoroutine") = true) (aV1 : ∀ {x0 r}, f_1 x0 = some r → aZ Tryz.prog aEq ([vi x0] ++ uF) (vb r)) : aZ Tryz.prog 129 [vi n_0, .clo (.func aEq) [] uF] (vi r) := by
 refine bd 26 Tryz.func129 ?_
 refine W ?_
 refine lp (fun m s => ∃ i_5 j_6, s = ⟨26, (aF (aF (aF fa 1 (.clo (.func aEq) [] uF)) 5 (vi i_5)) 6 (vi j_6)), ⟨aX, 64⟩⟩ ∧ nJ f_1 m i_5 j_6 = some r) L ?_
 rintro n1 s ⟨i_5, j_6, rfl, hm⟩
 refine W ?_
 refine cm hm (fun hm => ?_) fun hm => ?_
 ·
  obtain ⟨r2, h1, hm⟩ := bnd hm
  refine W ?_
  refine aV.callQC (r := .v (.bool r2)) Zd Z1 aLs aSv (fun H => (cV .nil)) (aV1 h1) ?_
  refine W ?_
  refine cm hm (fun hm => ?_) fun hm => ?_
  · exact L
  exact L
 exact E
def vS (d_0 : bO) (eC : Int) : Option (Int) :=
 ((fW d_0.s).bind fun r2 =>
 ((aA5 r2 (fun x0 => qN x0 d_0 eC)).bind fun r4 =>
 some r4))
theorem aKt {d_0 : bO} {eC : Int} {r : Int} (hm : vS d_0 eC = some r) : aZ Tryz.prog 98 [.agg [aB.av d_0.s], vu eC] (vi r) := by
 refine bd 10 Tryz.func98 ?_
 refine S1 ?_
 refine aV.pop Zd (aBb Z1 (.agg _ (wR.dat d_0))) (aPc (ys := [aB.av d_0.s]) Z1 (fun H => (.cons (.data _ (aB.data d_0.s)) .nil))) rfl ?_
 refine aV.pop Zd (aBb Z1 (.v _)) (aPc (ys := [.v (.int .u64 eC)]) Z1 (fun H => (.cons (.data _ (.v _)) .nil))) rfl ?_
 obtain ⟨r2, h1, hm⟩ := bnd hm
 refine W ?_
 refine cq (jY h1) ?_
 obtain ⟨r4, h3, hm⟩ := bnd hm
 refine W ?_
 refine aV.callQ (r := .v (.int .i64 r4)) Zd Z1 bK8 (fun H => (cV (.cons (td Z1 (bBc (nP (.ptr _ (wR.dat d_0)) (nP (.ptr _ ((CFi .u64).dat eC)) aE4)))) .nil))) (aOa h3 (nP (.ptr _ (wR.dat d_0)) (nP (.ptr _ ((CFi .u64).dat eC)) aE4)) bOk (fun h => aPy h)) ?_
 exact E
def qW (d_0 : bO) (eC : Int) : Option (Int × Bool) :=
 ((vS d_0 eC).bind fun r2 =>
 ((lG d_0.s r2).bind fun ⟨r4, r5⟩ =>
 (bif ((!r5) || (r4.Key != eC)) then
  some (0, false)
 else
  some (r4.N, true))))
theorem aCp {d_0 : bO} {eC : Int} {r : Int × Bool} (hm : qW d_0 eC = some r) : aZ Tryz.prog 72 [.agg [aB.av d_0.s], vu eC] (.tup [vi r.1, vb r.2]) := by
 refine bd 27 Tryz.func72 ?_
 obtain ⟨r2, h1, hm⟩ := bnd hm
 refine W ?_
 refine cq (aKt h1) ?_
 obtain ⟨⟨r4, r5⟩, h3, hm⟩ := bnd hm
 refine cq (vX h3) ?_
 refine W ?_
 refine cm hm (fun hm => ?_) fun hm => ?_
 · exact E
 exact E
def cE (s_0 : aB) : Option (Int) :=
 (bif (!s_0.nn) then
  some 0
 else
  ((chk s_0.nn).bind fun _ =>
  some s_0.height))
theorem cT {s_0 : aB} {r : Int} (hm : cE s_0 = some r) : aZ Tryz.prog 173 [aB.av s_0] (vi r) := by
 refine bd 9 Tryz.func173 ?_
 refine W ?_
 refine pu rfl (bDg Tryz.underlying128 Z1 (aB.isn s_0) Z1) ?_
 refine W ?_
 refine cm hm (fun hm => ?_) fun hm => ?_
 · exact E
 obtain ⟨_, h1, hm⟩ := bnd hm
 exact E
def cY (bM : aB) (cR : bJ) (bE : aB) : Option (aB) :=
 ((cE bM).bind fun r2 =>
 ((cE bE).bind fun r4 =>
 ((fW bM).bind fun r6 =>
 ((fW bE).bind fun r8 =>
 some (aB.mk bM bE cR (IntKind.i64.wrap ((if r2 < r4 then r4 else r2) + 1)) (IntKind.i64.wrap ((IntKind.i64.wrap (r6 + 1)) + r8)))))))
theorem dT {bM : aB} {cR : bJ} {bE : aB} {r : aB} (hm : cY bM cR bE = some r) : aZ Tryz.prog 144 [aB.av bM, .agg [vu cR.Key, vi cR.N], aB.av bE] (aB.av r) := by
 refine bd 24 Tryz.func144 ?_
 obtain ⟨r2, h1, hm⟩ := bnd hm
 refine W ?_
 refine cq (cT h1) ?_
 obtain ⟨r4, h3, hm⟩ := bnd hm
 refine W ?_
 refine cq (cT h3) ?_
 obtain ⟨r6, h5, hm⟩ := bnd hm
 refine W ?_
 refine cq (jY h5) ?_
 obtain ⟨r8, h7, hm⟩ := bnd hm
 refine W ?_
 refine cq (jY h7) ?_
 refine W ?_
 refine pu rfl (by simp only [go_sem, Nat.reduceBEq]; exact bAv (aB.cells _) (aB.cells _)) ?_
 refine aV.pop Zd (aBb Z1 (.agg _ (nP (aB.data bM) (nP (aB.data bE) (nP (.v _) (nP (.v _) (nP (.v _) (nP (.v _) aE4)))))))) (aPc (ys := [aB.av ((aB.mk bM bE cR (IntKind.i64.wrap ((if r2 < r4 then r4 else r2) + 1)) (IntKind.i64.wrap ((IntKind.i64.wrap (r6 + 1)) + r8))).ahead), aB.av ((aB.mk bM bE cR (IntKind.i64.wrap ((if r2 < r4 then r4 else r2) + 1)) (IntKind.i64.wrap ((IntKind.i64.wrap (r6 + 1)) + r8))).behind), .v (.int .u64 (((aB.mk bM bE cR (IntKind.i64.wrap ((if r2 < r4 then r4 else r2) + 1)) (IntKind.i64.wrap ((IntKind.i64.wrap (r6 + 1)) + r8))).thing).Key)), .v (.int .i64 (((aB.mk bM bE cR (IntKind.i64.wrap ((if r2 < r4 then r4 else r2) + 1)) (IntKind.i64.wrap ((IntKind.i64.wrap (r6 + 1)) + r8))).thing).N)), .v (.int .i64 ((aB.mk bM bE cR (IntKind.i64.wrap ((if r2 < r4 then r4 else r2) + 1)) (IntKind.i64.wrap ((IntKind.i64.wrap (r6 + 1)) + r8))).height)), .v (.int .i64 ((aB.mk bM bE cR (IntKind.i64.wrap ((if r2 < r4 then r4 else r2) + 1)) (IntKind.i64.wrap ((IntKind.i64.wrap (r6 + 1)) + r8))).size))]) Z1 (fun H => (.cons (.data _ (aB.data bM)) (.cons (.data _ (aB.data bE)) (.cons (.data _ (.v _)) (.cons (.data _ (.v _)) (.cons (.data _ (.v _)) (.cons (.data _ (.v _)) .nil)))))))) rfl ?_
 exact E
def kG (bM : aB) (cR : bJ) (bE : aB) : Option (aB) :=
 ((cE bM).bind fun r2 =>
 ((cE bE).bind fun r4 =>
 (bif (decide ((IntKind.i64.wrap (r4 + 1)) < r2)) then
  ((chk bM.nn).bind fun _ =>
  ((cE bM.ahead).bind fun r7 =>
  ((chk bM.nn).bind fun _ =>
  ((cE bM.behind).bind fun r10 =>
  (bif (decide (r10 ≤ r7)) then
   ((chk bM.nn).bind fun _ =>
   ((chk bM.nn).bind fun _ =>
   ((chk bM.nn).bind fun _ =>
   ((cY bM.behind cR bE).bind fun r15 =>
   ((cY bM.ahead bM.thing r15).bind fun r17 =>
   some r17)))))
  else
   ((chk bM.nn).bind fun _ =>
   ((chk bM.nn).bind fun _ =>
   ((chk bM.nn).bind fun _ =>
   ((chk bM.behind.nn).bind fun _ =>
   ((cY bM.ahead bM.thing bM.behind.ahead).bind fun r23 =>
   ((chk bM.behind.nn).bind fun _ =>
   ((chk bM.behind.nn).bind fun _ =>
   ((cY bM.behind.behind cR bE).bind fun r27 =>
   ((cY r23 bM.behind.thing r27).bind fun r29 =>
   some r29))))))))))))))
 else
  ((cE bE).bind fun r31 =>
  ((cE bM).bind fun r33 =>
  (bif (decide ((IntKind.i64.wrap (r33 + 1)) < r31)) then
   ((chk bE.nn).bind fun _ =>
   ((cE bE.behind).bind fun r36 =>
   ((chk bE.nn).bind fun _ =>
   ((cE bE.ahead).bind fun r39 =>
   (bif (decide (r39 ≤ r36)) then
    ((chk bE.nn).bind fun _ =>
    ((cY bM cR bE.ahead).bind fun r42 =>
    ((chk bE.nn).bind fun _ =>
    ((chk bE.nn).bind fun _ =>
    ((cY r42 bE.thing bE.behind).bind fun r46 =>
    some r46)))))
   else
    ((chk bE.nn).bind fun _ =>
    ((chk bE.ahead.nn).bind fun _ =>
    ((cY bM cR bE.ahead.ahead).bind fun r50 =>
    ((chk bE.ahead.nn).bind fun _ =>
    ((chk bE.ahead.nn).bind fun _ =>
    ((chk bE.nn).bind fun _ =>
    ((chk bE.nn).bind fun _ =>
    ((cY bE.ahead.behind bE.thing bE.behind).bind fun r56 =>
    ((cY r50 bE.ahead.thing r56).bind fun r58 =>
    some r58))))))))))))))
  else
   ((cY bM cR bE).bind fun r60 =>
   some r60)))))))
theorem aAu {bM : aB} {cR : bJ} {bE : aB} {r : aB} (hm : kG bM cR bE = some r) : aZ Tryz.prog 174 [aB.av bM, .agg [vu cR.Key, vi cR.N], aB.av bE] (aB.av r) := by
 refine bd 139 Tryz.func174 ?_
 obtain ⟨r2, h1, hm⟩ := bnd hm
 refine W ?_
 refine cq (cT h1) ?_
 obtain ⟨r4, h3, hm⟩ := bnd hm
 refine W ?_
 refine cq (cT h3) ?_
 refine W ?_
 refine cm hm (fun hm => ?_) fun hm => ?_
 ·
  obtain ⟨_, h5, hm⟩ := bnd hm
  obtain ⟨r7, h6, hm⟩ := bnd hm
  refine W ?_
  refine cq (cT h6) ?_
  obtain ⟨_, h8, hm⟩ := bnd hm
  obtain ⟨r10, h9, hm⟩ := bnd hm
  refine W ?_
  refine cq (cT h9) ?_
  refine W ?_
  refine cm hm (fun hm => ?_) fun hm => ?_
  ·
   obtain ⟨_, h11, hm⟩ := bnd hm
   obtain ⟨_, h12, hm⟩ := bnd hm
   obtain ⟨_, h13, hm⟩ := bnd hm
   obtain ⟨r15, h14, hm⟩ := bnd hm
   refine W ?_
   refine cq (dT h14) ?_
   obtain ⟨r17, h16, hm⟩ := bnd hm
   refine cq (dT h16) ?_
   exact E
  obtain ⟨_, h18, hm⟩ := bnd hm
  obtain ⟨_, h19, hm⟩ := bnd hm
  obtain ⟨_, h20, hm⟩ := bnd hm
  obtain ⟨_, h21, hm⟩ := bnd hm
  obtain ⟨r23, h22, hm⟩ := bnd hm
  refine W ?_
  refine cq (dT h22) ?_
  obtain ⟨_, h24, hm⟩ := bnd hm
  obtain ⟨_, h25, hm⟩ := bnd hm
  obtain ⟨r27, h26, hm⟩ := bnd hm
  refine W ?_
  refine cq (dT h26) ?_
  obtain ⟨r29, h28, hm⟩ := bnd hm
  refine cq (dT h28) ?_
  exact E
 have hm := sb hm h3
 refine W ?_
 refine cq (cT h3) ?_
 have hm := sb hm h1
 refine W ?_
 refine cq (cT h1) ?_
 refine W ?_
 refine cm hm (fun hm => ?_) fun hm => ?_
 ·
  obtain ⟨_, h34, hm⟩ := bnd hm
  obtain ⟨r36, h35, hm⟩ := bnd hm
  refine W ?_
  refine cq (cT h35) ?_
  obtain ⟨_, h37, hm⟩ := bnd hm
  obtain ⟨r39, h38, hm⟩ := bnd hm
  refine W ?_
  refine cq (cT h38) ?_
  refine W ?_
  refine cm hm (fun hm => ?_) fun hm => ?_
  ·
   obtain ⟨_, h40, hm⟩ := bnd hm
   obtain ⟨r42, h41, hm⟩ := bnd hm
   refine W ?_
   refine cq (dT h41) ?_
   obtain ⟨_, h43, hm⟩ := bnd hm
   obtain ⟨_, h44, hm⟩ := bnd hm
   obtain ⟨r46, h45, hm⟩ := bnd hm
   refine W ?_
   refine cq (dT h45) ?_
   exact E
  obtain ⟨_, h47, hm⟩ := bnd hm
  obtain ⟨_, h48, hm⟩ := bnd hm
  obtain ⟨r50, h49, hm⟩ := bnd hm
  refine W ?_
  refine cq (dT h49) ?_
  obtain ⟨_, h51, hm⟩ := bnd hm
  obtain ⟨_, h52, hm⟩ := bnd hm
  obtain ⟨_, h53, hm⟩ := bnd hm
  obtain ⟨_, h54, hm⟩ := bnd hm
  obtain ⟨r56, h55, hm⟩ := bnd hm
  refine W ?_
  refine cq (dT h55) ?_
  obtain ⟨r58, h57, hm⟩ := bnd hm
  refine cq (dT h57) ?_
  exact E
 obtain ⟨r60, h59, hm⟩ := bnd hm
 refine W ?_
 refine cq (dT h59) ?_
 exact E
def kH (recf : aB → bJ → aB → Option (aB)) (bM : aB) (cR : bJ) (bE : aB) : Option (aB) :=
 ((cE bM).bind fun r2 =>
 ((cE bE).bind fun r4 =>
 (bif (decide ((IntKind.i64.wrap (r4 + 1)) < r2)) then
  ((chk bM.nn).bind fun _ =>
  ((chk bM.nn).bind fun _ =>
  ((chk bM.nn).bind fun _ =>
  ((recf bM.behind cR bE).bind fun r9 =>
  ((kG bM.ahead bM.thing r9).bind fun r11 =>
  some r11)))))
 else
  ((cE bE).bind fun r13 =>
  ((cE bM).bind fun r15 =>
  (bif (decide ((IntKind.i64.wrap (r15 + 1)) < r13)) then
   ((chk bE.nn).bind fun _ =>
   ((recf bM cR bE.ahead).bind fun r18 =>
   ((chk bE.nn).bind fun _ =>
   ((chk bE.nn).bind fun _ =>
   ((kG r18 bE.thing bE.behind).bind fun r22 =>
   some r22)))))
  else
   ((cY bM cR bE).bind fun r24 =>
   some r24)))))))
def iC : Nat → aB → bJ → aB → Option (aB)
 | 0 => fun _ _ _ => none
 | n + 1 => kH (iC n)
def kF (bM : aB) (cR : bJ) (bE : aB) : Option (aB) := iC bK bM cR bE
theorem aH6 : ∀ (nn : Nat) {bM : aB} {cR : bJ} {bE : aB} {r : aB} (hm : iC nn bM cR bE = some r), aZ Tryz.prog 143 [aB.av bM, .agg [.v (.int .u64 cR.Key), .v (.int .i64 cR.N)], aB.av bE] (aB.av r) := by
 intro nn
 induction nn with
 | zero =>
  intro bM cR bE r hm
  replace hm : none = some r := hm
  cases hm
 | succ nn ih =>
  intro bM cR bE r hm
  replace hm : kH (iC nn) bM cR bE = some r := hm
  refine aZ.of_body Tryz.func143 rfl ?_
  simp only [Tryz.ntmps143, List.length_cons, List.length_nil, Nat.reduceAdd, Nat.reduceSub, eR]
  unfold kH at hm
  refine sN 64 (hp (id := 0) rfl rfl (aNn Z1 Z5) ?_)
  refine pA ?_
  refine fs (AWp.seq' (AWp.block (sN 128 (pA ?_))))
  obtain ⟨r2, h1, hm⟩ := bnd hm
  refine aV.callQ (r := .v (.int .i64 r2)) Zd Z1 aWd (fun H => (cD (aB.data _) .nil)) (cT h1) ?_
  refine pA ?_
  obtain ⟨r4, h3, hm⟩ := bnd hm
  refine aV.callQ (r := .v (.int .i64 r4)) Zd Z1 aWd (fun H => (cD (aB.data _) .nil)) (cT h3) ?_
  iterate 3 refine pA ?_
  refine fs (AWp.condM hm Z1 (fun _ hm => ?_) (fun _ hm => ?_))
  ·
   refine sd mix (by kernel_rfl) (N' := 192) rfl ?_
   refine pA ?_
   obtain ⟨_, h5, hm⟩ := bnd hm
   refine pu rfl (qL Z1 (aB.av_nn (mY h5))) ?_
   iterate 3 refine pA ?_
   obtain ⟨_, h6, hm⟩ := bnd hm
   refine pu rfl (qL Z1 (aB.av_nn (mY h6))) ?_
   iterate 3 refine pA ?_
   obtain ⟨_, h7, hm⟩ := bnd hm
   refine pu rfl (qL Z1 (aB.av_nn (mY h7))) ?_
   iterate 2 refine pA ?_
   refine pu rfl (rK Z1 Z3 Z2) ?_
   refine pA ?_
   obtain ⟨r9, h8, hm⟩ := bnd hm
   refine aV.callQ (r := aB.av r9) Zd Z1 aX2 (fun H => (cD (aB.data _) (cD (.agg _ (dW.dat _)) (cD (aB.data _) .nil)))) (ih h8) ?_
   obtain ⟨r11, h10, hm⟩ := bnd hm
   refine aV.callQ (r := aB.av r11) Zd Z1 bGx (fun H => (cD (aB.data _) (cD (.agg _ (dW.dat _)) (cD (aB.data _) .nil)))) (aAu h10) ?_
   refine pA ?_
   refine fs (AWp.ret (aFk (lC ?_)))
   cases hm
   exact aHv (.inr rfl) Tryz.results143 (td Z1 (aB.data _))
  ·
   refine sN 192 (pA ?_)
   obtain ⟨r13, h12, hm⟩ := bnd hm
   refine aV.callQ (r := .v (.int .i64 r13)) Zd Z1 aWd (fun H => (cD (aB.data _) .nil)) (cT h12) ?_
   refine pA ?_
   obtain ⟨r15, h14, hm⟩ := bnd hm
   refine aV.callQ (r := .v (.int .i64 r15)) Zd Z1 aWd (fun H => (cD (aB.data _) .nil)) (cT h14) ?_
   iterate 3 refine pA ?_
   refine fs (AWp.condM hm Z1 (fun _ hm => ?_) (fun _ hm => ?_))
   ·
    refine sd mix (by kernel_rfl) (N' := 256) rfl ?_
    refine pA ?_
    refine pu rfl (rK Z1 Z3 Z2) ?_
    refine pA ?_
    obtain ⟨_, h16, hm⟩ := bnd hm
    refine pu rfl (qL Z1 (aB.av_nn (mY h16))) ?_
    iterate 2 refine pA ?_
    obtain ⟨r18, h17, hm⟩ := bnd hm
    refine aV.callQ (r := aB.av r18) Zd Z1 aX2 (fun H => (cD (aB.data _) (cD (.agg _ (dW.dat _)) (cD (aB.data _) .nil)))) (ih h17) ?_
    refine pA ?_
    obtain ⟨_, h19, hm⟩ := bnd hm
    refine pu rfl (qL Z1 (aB.av_nn (mY h19))) ?_
    iterate 3 refine pA ?_
    obtain ⟨_, h20, hm⟩ := bnd hm
    refine pu rfl (qL Z1 (aB.av_nn (mY h20))) ?_
    iterate 2 refine pA ?_
    obtain ⟨r22, h21, hm⟩ := bnd hm
    refine aV.callQ (r := aB.av r22) Zd Z1 bGx (fun H => (cD (aB.data _) (cD (.agg _ (dW.dat _)) (cD (aB.data _) .nil)))) (aAu h21) ?_
    refine pA ?_
    refine fs (AWp.ret (aFk (lC ?_)))
    cases hm
    exact aHv (.inr rfl) Tryz.results143 (td Z1 (aB.data _))
   ·
    refine AWp.skip (nY (bY (sN 256 (pA ?_))))
    refine pu rfl (rK Z1 Z3 Z2) ?_
    refine pA ?_
    obtain ⟨r24, h23, hm⟩ := bnd hm
    refine aV.callQ (r := aB.av r24) Zd Z1 bH7 (fun H => (cD (aB.data _) (cD (.agg _ (dW.dat _)) (cD (aB.data _) .nil)))) (dT h23) ?_
    refine pA ?_
    refine fs (AWp.ret ?_)
    cases hm
    exact aHv (.inr rfl) Tryz.results143 (td Z1 (aB.data _))
theorem tE {bM : aB} {cR : bJ} {bE : aB} {r : aB} (hm : kF bM cR bE = some r) : aZ Tryz.prog 143 [aB.av bM, .agg [.v (.int .u64 cR.Key), .v (.int .i64 cR.N)], aB.av bE] (aB.av r) := aH6 bK hm
def lR (recf : aB → Int → Option (aB × aB)) (s_0 : aB) (aD2 : Int) : Option (aB × aB) :=
 (bif (decide (aD2 ≤ 0)) then
  some (aB.nil, s_0)
 else
  ((fW s_0).bind fun r2 =>
  (bif (decide (r2 ≤ aD2)) then
   some (s_0, aB.nil)
  else
   ((chk s_0.nn).bind fun _ =>
   ((fW s_0.ahead).bind fun r5 =>
   (bif (decide (aD2 ≤ r5)) then
    ((chk s_0.nn).bind fun _ =>
    ((recf s_0.ahead aD2).bind fun ⟨r8, r9⟩ =>
    ((chk s_0.nn).bind fun _ =>
    ((chk s_0.nn).bind fun _ =>
    ((kF r9 s_0.thing s_0.behind).bind fun r13 =>
    some (r8, r13))))))
   else
    ((chk s_0.nn).bind fun _ =>
    ((recf s_0.behind (IntKind.i64.wrap ((IntKind.i64.wrap (aD2 - r5)) - 1))).bind fun ⟨r16, r17⟩ =>
    ((chk s_0.nn).bind fun _ =>
    ((chk s_0.nn).bind fun _ =>
    ((kF s_0.ahead s_0.thing r16).bind fun r21 =>
    some (r21, r17))))))))))))
def jN : Nat → aB → Int → Option (aB × aB)
 | 0 => fun _ _ => none
 | n + 1 => lR (jN n)
def lS (s_0 : aB) (aD2 : Int) : Option (aB × aB) := jN bK s_0 aD2
theorem aIx : ∀ (nn : Nat) {s_0 : aB} {aD2 : Int} {r : aB × aB} (hm : jN nn s_0 aD2 = some r), aZ Tryz.prog 125 [aB.av s_0, .v (.int .i64 aD2)] (.tup [aB.av r.1, aB.av r.2]) := by
 intro nn
 induction nn with
 | zero =>
  intro s_0 aD2 r hm
  replace hm : none = some r := hm
  cases hm
 | succ nn ih =>
  intro s_0 aD2 r hm
  replace hm : lR (jN nn) s_0 aD2 = some r := hm
  refine aZ.of_body Tryz.func125 rfl ?_
  simp only [Tryz.ntmps125, List.length_cons, List.length_nil, Nat.reduceAdd, Nat.reduceSub, eR]
  unfold lR at hm
  refine sN 64 ?_
  iterate 2 refine pA ?_
  refine fs (AWp.seq' (sN 128 ?_))
  iterate 2 refine pA ?_
  refine fs (AWp.condM hm Z1 (fun _ hm => ?_) (fun _ hm => ?_))
  ·
   refine sN 192 ?_
   iterate 3 refine pA ?_
   refine fs (AWp.ret (lC ?_))
   cases hm
   exact aIg (.inr rfl) Tryz.results125 (td Z1 (aB.data _)) (td Z1 (aB.data _))
  ·
   refine AWp.skip (bY (AWp.seq' (sN 192 ?_)))
   iterate 2 refine pA ?_
   obtain ⟨r2, h1, hm⟩ := bnd hm
   refine aV.callQ (r := .v (.int .i64 r2)) Zd Z1 bH9 (fun H => (cD (aB.data _) .nil)) (jY h1) ?_
   refine pA ?_
   refine fs (AWp.condM hm Z1 (fun _ hm => ?_) (fun _ hm => ?_))
   ·
    refine sN 256 ?_
    iterate 3 refine pA ?_
    refine fs (AWp.ret (lC ?_))
    cases hm
    exact aIg (.inr rfl) Tryz.results125 (td Z1 (aB.data _)) (td Z1 (aB.data _))
   ·
    refine AWp.skip (bY (sN 256 (pA ?_)))
    obtain ⟨_, h3, hm⟩ := bnd hm
    refine pu rfl (qL Z1 (aB.av_nn (mY h3))) ?_
    iterate 2 refine pA ?_
    obtain ⟨r5, h4, hm⟩ := bnd hm
    refine aV.callQ (r := .v (.int .i64 r5)) Zd Z1 bH9 (fun H => (cD (aB.data _) .nil)) (jY h4) ?_
    refine pA ?_
    refine fs (AWp.seq' (sN 320 ?_))
    iterate 3 refine pA ?_
    refine fs (AWp.condM hm Z1 (fun _ hm => ?_) (fun _ hm => ?_))
    ·
     refine sN 384 (pA ?_)
     obtain ⟨_, h6, hm⟩ := bnd hm
     refine pu rfl (qL Z1 (aB.av_nn (mY h6))) ?_
     iterate 3 refine pA ?_
     obtain ⟨⟨r8, r9⟩, h7, hm⟩ := bnd hm
     refine aV.callQ (r := .tup [aB.av r8, aB.av r9]) Zd Z1 bH0 (fun H => (cD (aB.data _) (cV .nil))) (ih h7) ?_
     iterate 5 refine pA ?_
     refine fs (sd mix (by kernel_rfl) (N' := 448) rfl ?_)
     iterate 3 refine pA ?_
     obtain ⟨_, h10, hm⟩ := bnd hm
     refine pu rfl (qL Z1 (aB.av_nn (mY h10))) ?_
     iterate 3 refine pA ?_
     obtain ⟨_, h11, hm⟩ := bnd hm
     refine pu rfl (qL Z1 (aB.av_nn (mY h11))) ?_
     iterate 2 refine pA ?_
     obtain ⟨r13, h12, hm⟩ := bnd hm
     refine aV.callQ (r := aB.av r13) Zd Z1 aX2 (fun H => (cD (aB.data _) (cD (.agg _ (dW.dat _)) (cD (aB.data _) .nil)))) (tE h12) ?_
     iterate 2 refine pA ?_
     refine fs (AWp.ret (lC ?_))
     cases hm
     exact aIg (.inr rfl) Tryz.results125 (td Z1 (aB.data _)) (td Z1 (aB.data _))
    ·
     refine AWp.skip (bY (sN 384 (pA ?_)))
     obtain ⟨_, h14, hm⟩ := bnd hm
     refine pu rfl (qL Z1 (aB.av_nn (mY h14))) ?_
     iterate 6 refine pA ?_
     obtain ⟨⟨r16, r17⟩, h15, hm⟩ := bnd hm
     refine aV.callQ (r := .tup [aB.av r16, aB.av r17]) Zd Z1 bH0 (fun H => (cD (aB.data _) (cV .nil))) (ih h15) ?_
     iterate 5 refine pA ?_
     refine fs (sd mix (by kernel_rfl) (N' := 448) rfl ?_)
     refine pA ?_
     obtain ⟨_, h18, hm⟩ := bnd hm
     refine pu rfl (qL Z1 (aB.av_nn (mY h18))) ?_
     iterate 3 refine pA ?_
     obtain ⟨_, h19, hm⟩ := bnd hm
     refine pu rfl (qL Z1 (aB.av_nn (mY h19))) ?_
     iterate 3 refine pA ?_
     obtain ⟨r21, h20, hm⟩ := bnd hm
     refine aV.callQ (r := aB.av r21) Zd Z1 aX2 (fun H => (cD (aB.data _) (cD (.agg _ (dW.dat _)) (cD (aB.data _) .nil)))) (tE h20) ?_
     iterate 3 refine pA ?_
     refine fs (AWp.ret ?_)
     cases hm
     exact aIg (.inr rfl) Tryz.results125 (td Z1 (aB.data _)) (td Z1 (aB.data _))
theorem vI {s_0 : aB} {aD2 : Int} {r : aB × aB} (hm : lS s_0 aD2 = some r) : aZ Tryz.prog 125 [aB.av s_0, .v (.int .i64 aD2)] (.tup [aB.av r.1, aB.av r.2]) := aIx bK hm
def lF (recf : (List bJ) → Option (aB)) (l_0 : List bJ) : Option (aB) :=
 (bif ((l_0.length : Int) == 0) then
  some aB.nil
 else
  ((slc l_0 0 (IntKind.i64.wrap (Int.tdiv (l_0.length : Int) 2))).bind fun l2 =>
  ((recf l2).bind fun r4 =>
  ((idx l_0 (IntKind.i64.wrap (Int.tdiv (l_0.length : Int) 2))).bind fun x6 =>
  ((slc l_0 (IntKind.i64.wrap ((IntKind.i64.wrap (Int.tdiv (l_0.length : Int) 2)) + 1)) (l_0.length : Int)).bind fun l8 =>
  ((recf l8).bind fun r10 =>
  ((cY r4 x6 r10).bind fun r12 =>
  some r12)))))))
def oH : Nat → (List bJ) → Option (aB)
 | 0 => fun _ => none
 | n + 1 => lF (oH n)
def wI (l_0 : List bJ) : Option (aB) := oH bK l_0
theorem aP6 : ∀ (nn : Nat) {l_0 : List bJ} {r : aB} (hm : oH nn l_0 = some r), aZ Tryz.prog 127 [.sl (l_0.flatMap rG) l_0.length false] (aB.av r) := by
 intro nn
 induction nn with
 | zero =>
  intro l_0 r hm
  replace hm : none = some r := hm
  cases hm
 | succ nn ih =>
  intro l_0 r hm
  replace hm : lF (oH nn) l_0 = some r := hm
  refine aZ.of_body Tryz.func127 rfl ?_
  simp only [Tryz.ntmps127, List.length_cons, List.length_nil, Nat.reduceAdd, Nat.reduceSub, eR]
  unfold lF at hm
  refine sN 64 (pA ?_)
  refine fs (AWp.seq' (sN 128 ?_))
  iterate 3 refine pA ?_
  refine fs (AWp.condM hm Z1 (fun _ hm => ?_) (fun _ hm => ?_))
  ·
   refine sN 192 (pA ?_)
   refine fs (AWp.ret (lC ?_))
   cases hm
   exact aHv (.inr rfl) Tryz.results127 (td Z1 (aB.data _))
  ·
   refine AWp.skip (bY (sN 192 ?_))
   iterate 4 refine pu rfl (by simp only [go_sem, Nat.reduceBEq, Int.reduceEq, Int.reduceLE]; try with_reducible rfl) ?_
   refine fs (sd mix (by kernel_rfl) (N' := 256) rfl ?_)
   iterate 2 refine pA ?_
   obtain ⟨l2, h1, hm⟩ := bnd hm
   refine pu rfl (aV9 dW Tryz.underlying204 aW2 Z1 rfl aQk (aJa Z1 (aWo h1).2) h1) ?_
   obtain ⟨r4, h3, hm⟩ := bnd hm
   refine aV.callQ (r := aB.av r4) Zd Z1 bD4 (fun H => (.cons (tdf Z1 (dW.sl _ _ _)) .nil)) (ih h3) ?_
   iterate 2 refine pA ?_
   obtain ⟨x6, h5, hm⟩ := bnd hm
   refine pu rfl (aDv dW Zd Tryz.underlying204 aW2 Z1 rfl Z1 h5) ?_
   iterate 4 refine pA ?_
   obtain ⟨l8, h7, hm⟩ := bnd hm
   refine pu rfl (aV9 dW Tryz.underlying204 aW2 Z1 rfl (aJa Z1 (aWo h7).1) (aWj _) h7) ?_
   obtain ⟨r10, h9, hm⟩ := bnd hm
   refine aV.callQ (r := aB.av r10) Zd Z1 bD4 (fun H => (.cons (tdf Z1 (dW.sl _ _ _)) .nil)) (ih h9) ?_
   obtain ⟨r12, h11, hm⟩ := bnd hm
   refine aV.callQ (r := aB.av r12) Zd Z1 bH7 (fun H => (cD (aB.data _) (cD (.agg _ (dW.dat _)) (cD (aB.data _) .nil)))) (dT h11) ?_
   refine pA ?_
   refine fs (AWp.ret ?_)
   cases hm
   exact aHv (.inr rfl) Tryz.results127 (td Z1 (aB.data _))
theorem aR2 {l_0 : List bJ} {r : aB} (hm : wI l_0 = some r) : aZ Tryz.prog 127 [.sl (l_0.flatMap rG) l_0.length false] (aB.av r) := aP6 bK hm
def mW (a_0 : aB) (b_1 : aB) : Option (aB) :=
 ((lG b_1 0).bind fun ⟨r2, r3⟩ =>
 (bif (!r3) then
  some a_0
 else
  ((lS b_1 1).bind fun ⟨r5, r6⟩ =>
  ((kF a_0 r2 r6).bind fun r8 =>
  some r8))))
theorem aDj {a_0 : aB} {b_1 : aB} {r : aB} (hm : mW a_0 b_1 = some r) : aZ Tryz.prog 126 [aB.av a_0, aB.av b_1] (aB.av r) := by
 refine bd 26 Tryz.func126 ?_
 refine W ?_
 obtain ⟨⟨r2, r3⟩, h1, hm⟩ := bnd hm
 refine cq (vX h1) ?_
 refine W ?_
 refine cm hm (fun hm => ?_) fun hm => ?_
 · exact E
 refine W ?_
 obtain ⟨⟨r5, r6⟩, h4, hm⟩ := bnd hm
 refine cq (vI h4) ?_
 obtain ⟨r8, h7, hm⟩ := bnd hm
 refine W ?_
 refine cq (tE h7) ?_
 exact E
def yS (eC : Int) (n_2 : Int) (t6 : bO) (aKk : aB) (aCg : aB) : Option (bO) :=
 ((wI [(bJ.mk eC n_2)]).bind fun r7 =>
 ((mW r7 aCg).bind fun r9 =>
 ((mW aKk r9).bind fun r11 =>
 some (bO.mk r11))))
def aD0 (d_0 : bO) (eC : Int) (n_2 : Int) : Option (bO) :=
 ((vS d_0 eC).bind fun r2 =>
 ((lS d_0.s r2).bind fun ⟨r4, r5⟩ =>
 ((lG r5 0).bind fun ⟨r13, r14⟩ =>
 (bif (r14 && (r13.Key == eC)) then
  ((lS r5 1).bind fun ⟨r16, r17⟩ =>
  yS eC n_2 (bO.mk aB.nil) r4 r17)
 else
  yS eC n_2 (bO.mk aB.nil) r4 r5))))
theorem aZ5 {d_0 : bO} {eC : Int} {n_2 : Int} {r : bO} (hm : aD0 d_0 eC n_2 = some r) : aZ Tryz.prog 96 [.agg [aB.av d_0.s], vu eC, vi n_2] (.agg [aB.av r.s]) := by
 refine bd 47 Tryz.func96 ?_
 obtain ⟨r2, h1, hm⟩ := bnd hm
 refine W ?_
 refine cq (aKt h1) ?_
 obtain ⟨⟨r4, r5⟩, h3, hm⟩ := bnd hm
 refine cq (vI h3) ?_
 refine V ?_
 refine AWp.seqJ (fun s => ∃ eC n_2 t6 aKk aCg, s = ⟨47, (aF (aF (aF (aF (aF fa 1 (vu eC)) 2 (vi n_2)) 6 (.adr 1 0)) 7 (aB.av aKk)) 8 (aB.av aCg)), ⟨(upd aX 1 (.cells 1 [aB.av t6.s] 0)), 64⟩⟩ ∧ yS eC n_2 t6 aKk aCg = some r) ?_ ?_
 ·
  refine W ?_
  obtain ⟨⟨r13, r14⟩, h12, hm⟩ := bnd hm
  refine cq (vX h12) ?_
  refine W ?_
  refine cm hm (fun hm => ?_) fun hm => ?_
  ·
   refine W ?_
   obtain ⟨⟨r16, r17⟩, h15, hm⟩ := bnd hm
   refine cq (vI h15) ?_
   refine W ?_
   exact Lr (fun j => bif j == 1 then 1 else 0)
  refine W ?_
  exact Lr (fun j => bif j == 1 then 1 else 0)
 rintro s ⟨eC, n_2, t6, aKk, aCg, rfl, hm⟩
 refine W ?_
 refine pu rfl (by simp only [go_sem, Nat.reduceBEq]; exact (by kernel_rfl : cL Tryz.prog 158 [(0, .v (.int .u64 eC)), (1, .v (.int .i64 n_2))] = some (.agg [.v (.int .u64 eC), .v (.int .i64 n_2)]))) ?_
 refine aL dW [(bJ.mk eC n_2)] ?_
 obtain ⟨r7, h6, hm⟩ := bnd hm
 refine aV.callL1 (r := aB.av r7) (id := 68) Zd Z1 bD4 Z3 (.cons (tdl dW Z1 Z3 (by simp) Z6) .nil) (aR2 h6) ?_
 obtain ⟨r9, h8, hm⟩ := bnd hm
 refine W ?_
 refine cq (aDj h8) ?_
 obtain ⟨r11, h10, hm⟩ := bnd hm
 refine cq (aDj h10) ?_
 refine pu rfl (by simp only [go_sem, Nat.reduceBEq]; exact bBb (aB.cells _)) ?_
 exact E
def rV (rec1 : bO → bO → List aM → Int → Int → Option (bO × Bool)) (t2 : bO) (fI : bO) (t14 : List aM) (t15 : Int) (t16 : Int) : Option (bO × Bool) :=
 rec1 t2 fI t14 t15 (IntKind.i64.wrap (t16 + 1))
def xW (rec1 : bO → bO → List aM → Int → Int → Option (bO × Bool)) (t2 : bO) (fI : bO) (t14 : List aM) (t15 : Int) (t16 : Int) : Option (bO × Bool) :=
 (bif (decide (t16 < t15)) then
  ((idx t14 t16).bind fun x4 =>
  (bif (!x4.Used) then
   (bif (x4.Key != 0) then
    some ((bO.mk aB.nil), false)
   else
    rV rec1 t2 fI t14 t15 t16)
  else
   ((qW fI x4.Key).bind fun ⟨r6, r7⟩ =>
   (bif r7 then
    some ((bO.mk aB.nil), false)
   else
    ((aD0 fI x4.Key t16).bind fun r9 =>
    rV rec1 t2 r9 t14 t15 t16)))))
 else
  some (fI, true))
def kM : Nat → bO → bO → List aM → Int → Int → Option (bO × Bool)
 | 0 => fun _ _ _ _ _ => none
 | n + 1 => xW (kM n)
def jT (l_0 : List aM) : Option (bO × Bool) :=
 ((mK (l_0.length : Int)).bind fun r2 =>
 (bif (!r2) then
  some ((bO.mk aB.nil), false)
 else
  kM bK (bO.mk aB.nil) (bO.mk aB.nil) l_0 (l_0.length : Int) 0))
theorem tW {l_0 : List aM} {r : bO × Bool} (hm : jT l_0 = some r) : aZ Tryz.prog 71 [vl aW l_0] (.tup [.agg [aB.av r.1.s], vb r.2]) := by
 refine bd 44 Tryz.func71 ?_
 obtain ⟨r2, h1, hm⟩ := bnd hm
 refine W ?_
 refine cq (aF6 h1) ?_
 refine W ?_
 refine cm hm (fun hm => ?_) fun hm => ?_
 · exact E
 refine W ?_
 refine lp (fun m s => ∃ t2 fI t14 t15 t16, s = ⟨44, (aF (aF (aF (aF (aF fa 2 (.adr 1 0)) 4 (.adr 2 0)) 14 (vl aW t14)) 15 (vi t15)) 16 (vi t16)), ⟨(upd (upd aX 1 (.cells 1 [aB.av t2.s] 0)) 2 (.cells 1 [aB.av fI.s] 0)), 64⟩⟩ ∧ kM m t2 fI t14 t15 t16 = some r) (Lr (fun j => bif j == 1 then 0 else bif j == 2 then 64 else 0)) ?_
 rintro n1 s ⟨t2, fI, t14, t15, t16, rfl, hm⟩
 refine W ?_
 refine cm hm (fun hm => ?_) fun hm => ?_
 ·
  refine V ?_
  refine AWp.seqJ (fun s => ∃ t2 fI t14 t15 t16, s = ⟨44, (aF (aF (aF (aF (aF fa 2 (.adr 1 0)) 4 (.adr 2 0)) 14 (vl aW t14)) 15 (vi t15)) 16 (vi t16)), ⟨(upd (upd aX 1 (.cells 1 [aB.av t2.s] 0)) 2 (.cells 1 [aB.av fI.s] 0)), 64⟩⟩ ∧ rV (kM n1) t2 fI t14 t15 t16 = some r) ?_ ?_
  ·
   obtain ⟨x4, h3, hm⟩ := bnd hm
   refine W ?_
   refine cm hm (fun hm => ?_) fun hm => ?_
   ·
    refine W ?_
    refine cm hm (fun hm => ?_) fun hm => ?_
    ·
     refine W ?_
     refine pu rfl (by simp only [go_sem, Nat.reduceBEq]; exact (by kernel_rfl : cL Tryz.prog 130 [] = some (.agg [aB.av aB.nil]))) ?_
     exact E
    refine W ?_
    exact Lr (fun j => bif j == 1 then 1 else bif j == 2 then 2 else 0)
   refine W ?_
   obtain ⟨⟨r6, r7⟩, h5, hm⟩ := bnd hm
   refine cq (aCp h5) ?_
   refine W ?_
   refine cm hm (fun hm => ?_) fun hm => ?_
   ·
    refine W ?_
    refine pu rfl (by simp only [go_sem, Nat.reduceBEq]; exact (by kernel_rfl : cL Tryz.prog 130 [] = some (.agg [aB.av aB.nil]))) ?_
    exact E
   obtain ⟨r9, h8, hm⟩ := bnd hm
   refine W ?_
   refine cq (aZ5 h8) ?_
   refine W ?_
   exact Lr (fun j => bif j == 1 then 1 else bif j == 2 then 2 else 0)
  rintro s ⟨t2, fI, t14, t15, t16, rfl, hm⟩
  refine W ?_
  exact Lr (fun j => bif j == 1 then 1 else bif j == 2 then 2 else 0)
 exact E
def tQ (l_0 : List aM) : Option (Bool) :=
 ((jT l_0).bind fun ⟨r2, r3⟩ =>
 some r3)
theorem aPp {l_0 : List aM} {r : Bool} (hm : tQ l_0 = some r) : aZ Tryz.prog 50 [vl aW l_0] (vb r) := by
 refine bd 11 Tryz.func50 ?_
 refine W ?_
 obtain ⟨⟨r2, r3⟩, h1, hm⟩ := bnd hm
 refine cq (tW h1) ?_
 exact E
def zF (rec1 : aD → List aC → Int → Int → Option (Bool)) (s_1 : aD) (t27 : List aC) (t28 : Int) (t29 : Int) : Option (Bool) :=
 (bif (decide (t29 < t28)) then
  ((idx t27 t29).bind fun x6 =>
  ((idx s_1.Slots x6.U).bind fun x8 =>
  ((fF ((!x8.Used) == false) (aM.mk false 0) (idx s_1.Slots x6.V)).bind fun x10 =>
  (bif ((!x8.Used) || (!x10.Used)) then
   some false
  else
   rec1 s_1 t27 t28 (IntKind.i64.wrap (t29 + 1))))))
 else
  some true)
def qQ : Nat → aD → List aC → Int → Int → Option (Bool)
 | 0 => fun _ _ _ _ => none
 | n + 1 => zF (qQ n)
def sB (s_0 : aD) : Option (Bool) :=
 ((dV s_0.Graph).bind fun r2 =>
 ((fF ((!r2) == false) false (tQ s_0.Slots)).bind fun r4 =>
 (bif (((!r2) || (!r4)) || ((s_0.Slots.length : Int) != s_0.Graph.Config.N)) then
  some false
 else
  qQ bK s_0 s_0.Graph.Edges (s_0.Graph.Edges.length : Int) 0)))
theorem aS0 {s_0 : aD} {r : Bool} (hm : sB s_0 = some r) : aZ Tryz.prog 19 [.agg [vi s_0.Graph.Config.N, vi s_0.Graph.Config.L, vi s_0.Graph.Config.R, vl bH s_0.Graph.Hashes, vl aT s_0.Graph.Edges, vl aW s_0.Slots]] (vb r) := by
 refine bd 52 Tryz.func19 ?_
 obtain ⟨r2, h1, hm⟩ := bnd hm
 refine W ?_
 refine cq (gR h1) ?_
 obtain ⟨r4, h3, hm⟩ := bnd hm
 refine W ?_
 refine cg (fun hb => aPp (cJ h3 hb)) ?_
 refine W ?_
 refine cm hm (fun hm => ?_) fun hm => ?_
 · exact E
 refine W ?_
 refine lp (fun m s => ∃ s_1 t27 t28 t29, s = ⟨52, (aF (aF (aF (aF fa 1 (.adr 1 0)) 27 (vl aT t27)) 28 (vi t28)) 29 (vi t29)), ⟨(upd aX 1 (.cells 1 [vi s_1.Graph.Config.N, vi s_1.Graph.Config.L, vi s_1.Graph.Config.R, vl bH s_1.Graph.Hashes, vl aT s_1.Graph.Edges, vl aW s_1.Slots] 0)), 64⟩⟩ ∧ qQ m s_1 t27 t28 t29 = some r) (Lr (fun j => bif j == 1 then 0 else 0)) ?_
 rintro n1 s ⟨s_1, t27, t28, t29, rfl, hm⟩
 refine W ?_
 refine cm hm (fun hm => ?_) fun hm => ?_
 ·
  obtain ⟨x6, h5, hm⟩ := bnd hm
  obtain ⟨x8, h7, hm⟩ := bnd hm
  obtain ⟨x10, h9, hm⟩ := bnd hm
  refine W ?_
  refine cm hm (fun hm => ?_) fun hm => ?_
  · exact E
  refine W ?_
  exact Lr (fun j => bif j == 1 then 1 else 0)
 exact E
def oE (l_0 : List aM) (eC : Int) : Option (Int × Bool) :=
 ((jT l_0).bind fun ⟨r2, r3⟩ =>
 (bif (!r3) then
  some (0, false)
 else
  ((qW r2 eC).bind fun ⟨r5, r6⟩ =>
  some (r5, r6))))
theorem aHt {l_0 : List aM} {eC : Int} {r : Int × Bool} (hm : oE l_0 eC = some r) : aZ Tryz.prog 39 [vl aW l_0, vu eC] (.tup [vi r.1, vb r.2]) := by
 refine bd 20 Tryz.func39 ?_
 refine W ?_
 obtain ⟨⟨r2, r3⟩, h1, hm⟩ := bnd hm
 refine cq (tW h1) ?_
 refine W ?_
 refine cm hm (fun hm => ?_) fun hm => ?_
 · exact E
 refine W ?_
 obtain ⟨⟨r5, r6⟩, h4, hm⟩ := bnd hm
 refine cq (aCp h4) ?_
 exact E
def uC (aFb : Int) : Option (Bool) :=
 some (((decide (2 ≤ aFb)) && (decide (aFb ≤ 11))) && (aFb != 10))
theorem aP9 {aFb : Int} {r : Bool} (hm : uC aFb = some r) : aZ Tryz.prog 40 [vi aFb] (vb r) := by
 refine bd 13 Tryz.func40 ?_
 exact E
def uD (aFb : Int) : Option (Bool) :=
 some ((((aFb == 3) || (aFb == 4)) || (aFb == 5)) || (aFb == 8))
theorem aNx {aFb : Int} {r : Bool} (hm : uD aFb = some r) : aZ Tryz.prog 41 [vi aFb] (vb r) := by
 refine bd 17 Tryz.func41 ?_
 exact E
def sK (s_0 : aD) (v_1 : Int) : Option ((List Int)) :=
 ((aB5 s_0.Graph.Config.N s_0.Graph.Edges v_1).bind fun r2 =>
 some r2)
theorem aI5 {s_0 : aD} {v_1 : Int} {r : (List Int)} (hm : sK s_0 v_1 = some r) : aZ Tryz.prog 77 [.agg [vi s_0.Graph.Config.N, vi s_0.Graph.Config.L, vi s_0.Graph.Config.R, vl bH s_0.Graph.Hashes, vl aT s_0.Graph.Edges, vl aW s_0.Slots], vi v_1] (vl (ci .i64) r) := by
 refine bd 14 Tryz.func77 ?_
 obtain ⟨r2, h1, hm⟩ := bnd hm
 refine W ?_
 refine cq (aQs h1) ?_
 exact E
def nF (s_0 : aD) (v_1 : Int) : Option (Int) :=
 ((sK s_0 v_1).bind fun r2 =>
 some (r2.length : Int))
theorem aDh {s_0 : aD} {v_1 : Int} {r : Int} (hm : nF s_0 v_1 = some r) : aZ Tryz.prog 75 [.agg [vi s_0.Graph.Config.N, vi s_0.Graph.Config.L, vi s_0.Graph.Config.R, vl bH s_0.Graph.Hashes, vl aT s_0.Graph.Edges, vl aW s_0.Slots], vi v_1] (vi r) := by
 refine bd 9 Tryz.func75 ?_
 obtain ⟨r2, h1, hm⟩ := bnd hm
 refine W ?_
 refine cq (aI5 h1) ?_
 exact E
def fU (x_0 : Int) : Option (Bool) :=
 some (x_0 != x_0)
theorem mJ {x_0 : Int} {r : Bool} (hm : fU x_0 = some r) : aZ Tryz.prog 137 [vu x_0] (vb r) := by
 refine bd 6 Tryz.func137 ?_
 exact E
def nT (x_0 : Int) (y_1 : Int) : Option (Bool) :=
 ((fU x_0).bind fun r2 =>
 ((fF (r2 == true) false (fU y_1)).bind fun r4 =>
 some ((r2 && (!r4)) || (decide (x_0 < y_1)))))
theorem aIw {x_0 : Int} {y_1 : Int} {r : Bool} (hm : nT x_0 y_1 = some r) : aZ Tryz.prog 151 [vu x_0, vu y_1] (vb r) := by
 refine bd 17 Tryz.func151 ?_
 obtain ⟨r2, h1, hm⟩ := bnd hm
 refine W ?_
 refine cq (mJ h1) ?_
 obtain ⟨r4, h3, hm⟩ := bnd hm
 refine W ?_
 refine cg (fun hb => mJ (cJ h3 hb)) ?_
 exact E
def cN (rec1 : List Int → Int → Int → Int → Option (List Int)) (rec2 : List Int → Int → Int → Int → Int → Option (List Int)) (bG : List Int) (a_1 : Int) (b_2 : Int) (i_6 : Int) (j_7 : Int) : Option (List Int) :=
 ((fF ((decide (a_1 < j_7)) == true) 0 (idx bG j_7)).bind fun x2 =>
 ((fF ((decide (a_1 < j_7)) == true) 0 (idx bG (IntKind.i64.wrap (j_7 - 1)))).bind fun x4 =>
 ((fF ((decide (a_1 < j_7)) == true) false (nT x2 x4)).bind fun r6 =>
 (bif ((decide (a_1 < j_7)) && r6) then
  ((idx bG (IntKind.i64.wrap (j_7 - 1))).bind fun x8 =>
  ((idx bG j_7).bind fun x10 =>
  ((idx bG j_7).bind fun x12 =>
  ((stt bG j_7 x8).bind fun l14 =>
  ((idx l14 (IntKind.i64.wrap (j_7 - 1))).bind fun x16 =>
  ((stt l14 (IntKind.i64.wrap (j_7 - 1)) x10).bind fun l18 =>
  rec2 l18 a_1 b_2 i_6 (IntKind.i64.wrap (j_7 - 1))))))))
 else
  rec1 bG a_1 b_2 (IntKind.i64.wrap (i_6 + 1))))))
def cG (rec1 : List Int → Int → Int → Int → Option (List Int)) : Nat → List Int → Int → Int → Int → Int → Option (List Int)
 | 0 => fun _ _ _ _ _ => none
 | n + 1 => cN rec1 (cG rec1 n)
def bV (rec1 : List Int → Int → Int → Int → Option (List Int)) (bG : List Int) (a_1 : Int) (b_2 : Int) (i_6 : Int) : Option (List Int) :=
 (bif (decide (i_6 < b_2)) then
  cG rec1 bK bG a_1 b_2 i_6 i_6
 else
  some bG)
def bN : Nat → List Int → Int → Int → Int → Option (List Int)
 | 0 => fun _ _ _ _ => none
 | n + 1 => bV (bN n)
def cW (bG : List Int) (a_1 : Int) (b_2 : Int) : Option (List Int) :=
 bN bK bG a_1 b_2 (IntKind.i64.wrap (a_1 + 1))
theorem nV {bG : List Int} {a_1 : Int} {b_2 : Int} {r : List Int} (hm : cW bG a_1 b_2 = some r) {H : aH} {i0 : Nat} (he : H.ent i0 = .cells 1 (bG.flatMap (ci .u64)) 0) : dF Tryz.prog 145 [.own i0 0 bG.length, .v (.int .i64 a_1), .v (.int .i64 b_2)] H (.tup []) (H.put i0 (.cells 1 (r.flatMap (ci .u64)) 0)) := by
 refine dF.of_bodyM Tryz.func145 rfl he ?_
 generalize H.ent = h0
 simp only [Tryz.ntmps145, List.length_cons, List.length_nil, Nat.reduceAdd, Nat.reduceSub]
 unfold cW at hm
 refine sN 64 ?_
 iterate 3 refine pA ?_
 refine fs (AWp.block (AWp.loopM (fun m s => ∃ (bG : List Int) (a_1 : Int) (b_2 : Int) (i_6 : Int), s = (⟨49, (aF (aF (aF (aF (fun _ => AV.any) 0 (.own i0 0 bG.length)) 1 (.v (.int .i64 a_1))) 2 (.v (.int .i64 b_2))) 6 (.v (.int .i64 i_6))), ⟨(upd h0 i0 (.cells 1 (bG.flatMap (ci .u64)) 0)), 64⟩⟩ : St) ∧ bN m bG a_1 b_2 i_6 = some r) bK ?_ ?_ ?_))
 ·
  rintro s ⟨_, _, _, _, _, h⟩
  cases h
 ·
  refine ⟨_, ?_, bG, a_1, b_2, (IntKind.i64.wrap (a_1 + 1)), rfl, hm⟩
  exact tF (bS 6 _ Z1 (bS 2 _ Z1 (bS 1 _ Z1 (bS 0 _ (tB Z1 Z6) nO)))) (by simp only [gP]; try rfl)
 ·
  rintro n1 s ⟨bG, a_1, b_2, i_6, rfl, hm⟩
  replace hm : bV (bN n1) bG a_1 b_2 i_6 = some r := hm
  unfold bV at hm
  refine AWp.seq' (sN 128 ?_)
  iterate 3 refine pA ?_
  refine fs (AWp.condM hm Z1 (fun _ hm => ?_) (fun _ hm => ?_))
  ·
   refine AWp.skip (bY (AWp.seq' (AWp.block (sN 192 ?_))))
   iterate 2 refine pA ?_
   refine fs (AWp.block (AWp.loopM (fun m s => ∃ (bG : List Int) (a_1 : Int) (b_2 : Int) (i_6 : Int) (j_7 : Int), s = (⟨49, (aF (aF (aF (aF (aF (fun _ => AV.any) 0 (.own i0 0 bG.length)) 1 (.v (.int .i64 a_1))) 2 (.v (.int .i64 b_2))) 6 (.v (.int .i64 i_6))) 7 (.v (.int .i64 j_7))), ⟨(upd h0 i0 (.cells 1 (bG.flatMap (ci .u64)) 0)), 64⟩⟩ : St) ∧ cG (bN n1) m bG a_1 b_2 i_6 j_7 = some r) bK ?_ ?_ ?_))
   ·
    rintro s ⟨_, _, _, _, _, _, h⟩
    cases h
   ·
    refine ⟨_, ?_, bG, a_1, b_2, i_6, i_6, rfl, hm⟩
    exact tF (bS 7 _ Z1 (bS 6 _ Z1 (bS 2 _ Z1 (bS 1 _ Z1 (bS 0 _ (tB Z1 Z6) nO))))) (by simp only [gP]; try rfl)
   ·
    rintro n2 s ⟨bG, a_1, b_2, i_6, j_7, rfl, hm⟩
    replace hm : cN (bN n1) (cG (bN n1) n2) bG a_1 b_2 i_6 j_7 = some r := hm
    unfold cN at hm
    refine AWp.seq' (sd mix (by kernel_rfl) (N' := 128) rfl ?_)
    iterate 6 first | refine pA ?_ | refine pB ?_
    obtain ⟨x2, h1, hm⟩ := bnd hm
    refine pg rfl rfl Z2 (fun hb => (dI Tryz.underlying24 aFa (Zh hb) (by simp only [aY, beq_self_eq_true, Nat.reduceBEq, cond_true, cond_false]; try rfl) Z6 (Zh hb) (cJ h1 hb))) ?_
    refine pg rfl rfl Z2 (fun hb => (lT (CFi .u64) (Zh hb) (by simp only [aY, beq_self_eq_true, Nat.reduceBEq, cond_true, cond_false]; try rfl) (cJ h1 hb) (fun _ => by simp only [go_sem, Nat.reduceBEq]; try with_reducible rfl))) ?_
    iterate 3 refine pB ?_
    obtain ⟨x4, h3, hm⟩ := bnd hm
    refine pg rfl rfl Z2 (fun hb => (dI Tryz.underlying24 aFa (Zh hb) (by simp only [aY, beq_self_eq_true, Nat.reduceBEq, cond_true, cond_false]; try rfl) Z6 (Zh hb) (cJ h3 hb))) ?_
    refine pg rfl rfl Z2 (fun hb => (lT (CFi .u64) (Zh hb) (by simp only [aY, beq_self_eq_true, Nat.reduceBEq, cond_true, cond_false]; try rfl) (cJ h3 hb) (fun _ => by simp only [go_sem, Nat.reduceBEq]; try with_reducible rfl))) ?_
    obtain ⟨r6, h5, hm⟩ := bnd hm
    refine aV.callQG (r := .v (.bool r6)) Zd rfl Z2 Z1 bJv (fun hb H => (.cons (td (Zh hb) (.v _)) (.cons (td (Zh hb) (.v _)) .nil))) (fun hb => aIw (cJ h5 hb)) ?_
    refine pA ?_
    refine fs (AWp.condM hm Z1 (fun _ hm => ?_) (fun _ hm => ?_))
    ·
     refine AWp.skip (bY (AWp.seq' (AWp.block (AWp.regD 64 mix (by kernel_rfl) (N' := 192) rfl ?_))))
     iterate 8 refine pA ?_
     obtain ⟨x8, h7, hm⟩ := bnd hm
     refine pu rfl (dI Tryz.underlying24 aFa Z1 (by simp only [aY, beq_self_eq_true, Nat.reduceBEq, cond_true, cond_false]; try rfl) Z6 Z1 h7) ?_
     refine pu rfl (lT (CFi .u64) Z1 (by simp only [aY, beq_self_eq_true, Nat.reduceBEq, cond_true, cond_false]; try rfl) h7 (fun _ => by simp only [go_sem, Nat.reduceBEq]; try with_reducible rfl)) ?_
     iterate 2 refine pA ?_
     obtain ⟨x10, h9, hm⟩ := bnd hm
     refine pu rfl (dI Tryz.underlying24 aFa Z1 (by simp only [aY, beq_self_eq_true, Nat.reduceBEq, cond_true, cond_false]; try rfl) Z6 Z1 h9) ?_
     refine pu rfl (lT (CFi .u64) Z1 (by simp only [aY, beq_self_eq_true, Nat.reduceBEq, cond_true, cond_false]; try rfl) h9 (fun _ => by simp only [go_sem, Nat.reduceBEq]; try with_reducible rfl)) ?_
     obtain ⟨x12, h11, hm⟩ := bnd hm
     refine pu rfl (dI Tryz.underlying24 aFa Z1 (by simp only [aY, beq_self_eq_true, Nat.reduceBEq, cond_true, cond_false]; try rfl) Z6 Z1 h11) ?_
     obtain ⟨l14, h13, hm⟩ := bnd hm
     have qh13 := jC h13
     refine aV.heap0 (id := 143) rfl (vU (CFi .u64) aFa Z1 Z1 (by simp only [aY, beq_self_eq_true, Nat.reduceBEq, cond_true, cond_false]; try rfl) rfl h13) ?_
     obtain ⟨x16, h15, hm⟩ := bnd hm
     refine pu rfl (dI Tryz.underlying24 aFa Z1 (by simp only [aY, beq_self_eq_true, Nat.reduceBEq, cond_true, cond_false]; try rfl) Z6 Z1 h15) ?_
     obtain ⟨l18, h17, hm⟩ := bnd hm
     have qh17 := jC h17
     refine aV.heap0 (id := 145) rfl (vU (CFi .u64) aFa Z1 Z1 (by simp only [aY, beq_self_eq_true, Nat.reduceBEq, cond_true, cond_false]; try rfl) rfl h17) ?_
     refine aV.fin (nY (bY (AWp.reg 64 (N' := 256) rfl ?_)))
     iterate 3 refine pA ?_
     refine aV.fin (iJ ?_)
     refine ⟨_, ?_, l18, a_1, b_2, i_6, (IntKind.i64.wrap (j_7 - 1)), rfl, hm⟩
     exact tF (bS 7 _ Z1 (bS 6 _ Z1 (bS 2 _ Z1 (bS 1 _ Z1 (bS 0 _ (tB Z1 Z6) nO))))) (by simp only [gP]; try rfl)
    ·
     refine AWp.exit (lX (jL (jE (nY (bY (AWp.reg 64 (N' := 192) rfl ?_))))))
     iterate 3 refine pA ?_
     refine aV.fin (iJ ?_)
     refine ⟨_, ?_, bG, a_1, b_2, (IntKind.i64.wrap (i_6 + 1)), rfl, hm⟩
     exact tF (bS 6 _ Z1 (bS 2 _ Z1 (bS 1 _ Z1 (bS 0 _ (tB Z1 Z6) nO)))) (by simp only [gP]; try rfl)
  ·
   refine AWp.exit (lX (jL (jE ?_)))
   cases hm
   exact aMz (.inl rfl) Tryz.results145 (by simp only [gP]; try rfl)
def dM (rec1 : List Int → Int → Int → Int → Bool → Bool → Option (List Int)) (bG : List Int) (a_1 : Int) (b_2 : Int) (eX : Int) (nK : Bool) (jG : Bool) : Option (List Int) :=
 (bif (decide ((IntKind.i64.wrap (b_2 - a_1)) ≤ 12)) then
  ((aFs (fun x => x.length) bG.length (cW bG a_1 b_2)).bind fun l2 =>
  some l2)
 else
  (bif (eX == 0) then
   none
  else
   none))
def dL : Nat → List Int → Int → Int → Int → Bool → Bool → Option (List Int)
 | 0 => fun _ _ _ _ _ _ => none
 | n + 1 => dM (dL n)
def eZ (bG : List Int) (a_1 : Int) (b_2 : Int) (eX : Int) : Option (List Int) :=
 dL bK bG a_1 b_2 eX true true
theorem tH {bG : List Int} {a_1 : Int} {b_2 : Int} {eX : Int} {r : List Int} (hm : eZ bG a_1 b_2 eX = some r) {H : aH} {i0 : Nat} (he : H.ent i0 = .cells 1 (bG.flatMap (ci .u64)) 0) : dF Tryz.prog 133 [.own i0 0 bG.length, .v (.int .i64 a_1), .v (.int .i64 b_2), .v (.int .i64 eX)] H (.tup []) (H.put i0 (.cells 1 (r.flatMap (ci .u64)) 0)) := by
 refine dF.of_bodyM Tryz.func133 rfl he ?_
 generalize H.ent = h0
 simp only [Tryz.ntmps133, List.length_cons, List.length_nil, Nat.reduceAdd, Nat.reduceSub]
 unfold eZ at hm
 refine sN 64 (pA ?_)
 refine fs (sN 128 (pA ?_))
 refine fs (AWp.block (AWp.loopM (fun m s => ∃ (bG : List Int) (a_1 : Int) (b_2 : Int) (eX : Int) (nK : Bool) (jG : Bool), s = (⟨134, (aF (aF (aF (aF (aF (aF (fun _ => AV.any) 0 (.own i0 0 bG.length)) 1 (.v (.int .i64 a_1))) 2 (.v (.int .i64 b_2))) 3 (.v (.int .i64 eX))) 8 (.v (.bool nK))) 9 (.v (.bool jG))), ⟨(upd h0 i0 (.cells 1 (bG.flatMap (ci .u64)) 0)), 64⟩⟩ : St) ∧ dL m bG a_1 b_2 eX nK jG = some r) bK ?_ ?_ ?_))
 ·
  rintro s ⟨_, _, _, _, _, _, _, h⟩
  cases h
 ·
  refine ⟨_, ?_, bG, a_1, b_2, eX, true, true, rfl, hm⟩
  exact tF (bS 9 _ Z1 (bS 8 _ Z1 (bS 3 _ Z1 (bS 2 _ Z1 (bS 1 _ Z1 (bS 0 _ (tB Z1 Z6) nO)))))) (by simp only [gP]; try rfl)
 ·
  rintro n1 s ⟨bG, a_1, b_2, eX, nK, jG, rfl, hm⟩
  replace hm : dM (dL n1) bG a_1 b_2 eX nK jG = some r := hm
  unfold dM at hm
  refine AWp.block (sN 128 ?_)
  iterate 4 refine pA ?_
  refine fs (AWp.seq' (sN 192 ?_))
  iterate 2 refine pA ?_
  refine fs (AWp.condM hm Z1 (fun _ hm => ?_) (fun _ hm => ?_))
  ·
   refine sN 256 ?_
   iterate 3 refine pA ?_
   obtain ⟨l2, h1, hm⟩ := bnd hm
   have qh1 := aH0 h1
   refine aV.callM Zd Z1 bMm Z1 (nV (aDo h1) (by simp only [aY, beq_self_eq_true, Nat.reduceBEq, cond_true, cond_false]; try rfl)) ?_
   refine fs (AWp.ret (lC (aFk (aJk (aFk ?_)))))
   cases hm
   exact aMz (.inr rfl) Tryz.results133 (by simp only [gP]; try rfl)
  ·
   refine AWp.skip (bY (AWp.seq' (sN 256 ?_)))
   iterate 2 refine pA ?_
   refine fs (AWp.condM hm Z1 (fun _ hm => ?_) (fun _ hm => ?_))
   ·
    cases hm
   ·
    cases hm
def fT (x_0 : List Int) : Option (List Int) :=
 ((yB (IntKind.u64.wrap (x_0.length : Int))).bind fun r2 =>
 ((aFs (fun x => x.length) x_0.length (eZ x_0 0 (x_0.length : Int) r2)).bind fun l4 =>
 some l4))
theorem aDu {x_0 : List Int} {r : List Int} (hm : fT x_0 = some r) {H : aH} {i0 : Nat} (he : H.ent i0 = .cells 1 (x_0.flatMap (ci .u64)) 0) : dF Tryz.prog 100 [.own i0 0 x_0.length] H (.tup []) (H.put i0 (.cells 1 (r.flatMap (ci .u64)) 0)) := by
 refine dF.of_bodyM Tryz.func100 rfl he ?_
 generalize H.ent = h0
 simp only [Tryz.ntmps100, List.length_cons, List.length_nil, Nat.reduceAdd, Nat.reduceSub]
 unfold fT at hm
 refine sN 64 ?_
 iterate 3 refine pA ?_
 refine fs (AWp.reg 64 (N' := 128) rfl ?_)
 iterate 4 refine pA ?_
 obtain ⟨r2, h1, hm⟩ := bnd hm
 refine aV.callQ (r := .v (.int .i64 r2)) Zd Z1 bGw (fun H => (cV .nil)) (aGg h1) ?_
 obtain ⟨l4, h3, hm⟩ := bnd hm
 have qh3 := aH0 h3
 refine aV.callM Zd Z1 bNd Z1 (tH (aDo h3) (by simp only [aY, beq_self_eq_true, Nat.reduceBEq, cond_true, cond_false]; try rfl)) ?_
 refine aV.fin ?_
 cases hm
 exact aMz (.inl rfl) Tryz.results100 (by simp only [gP]; try rfl)
def tY (rec1 : aD → List Int → List Int → Int → Int → Option ((List Int))) (s_2 : aD) (cZ : List Int) (t8 : List Int) (t9 : Int) (t10 : Int) : Option ((List Int)) :=
 rec1 s_2 cZ t8 t9 (IntKind.i64.wrap (t10 + 1))
def yT (rec1 : aD → List Int → List Int → Int → Int → Option ((List Int))) (s_2 : aD) (cZ : List Int) (t8 : List Int) (t9 : Int) (t10 : Int) : Option ((List Int)) :=
 (bif (decide (t10 < t9)) then
  ((idx t8 t10).bind fun x2 =>
  ((idx s_2.Slots x2).bind fun x4 =>
  (bif x4.Used then
   ((idx s_2.Slots x2).bind fun x6 =>
   ((app cZ [x6.Key]).bind fun l8 =>
   tY rec1 s_2 l8 t8 t9 t10))
  else
   tY rec1 s_2 cZ t8 t9 t10)))
 else
  ((aFs (fun x => x.length) cZ.length (fT cZ)).bind fun l10 =>
  some l10))
def mI : Nat → aD → List Int → List Int → Int → Int → Option ((List Int))
 | 0 => fun _ _ _ _ _ => none
 | n + 1 => yT (mI n)
def oN (s_0 : aD) (l_1 : List Int) : Option ((List Int)) :=
 mI bK s_0 [] l_1 (l_1.length : Int) 0
theorem aBz {s_0 : aD} {l_1 : List Int} {r : (List Int)} (hm : oN s_0 l_1 = some r) : aZ Tryz.prog 76 [.agg [vi s_0.Graph.Config.N, vi s_0.Graph.Config.L, vi s_0.Graph.Config.R, vl bH s_0.Graph.Hashes, vl aT s_0.Graph.Edges, vl aW s_0.Slots], vl (ci .i64) l_1] (vl (ci .u64) r) := by
 refine bd 33 Tryz.func76 ?_
 refine W ?_
 refine lp (fun m s => ∃ s_2 cZ t8 t9 t10, s = ⟨33, (aF (aF (aF (aF (aF fa 2 (.adr 1 0)) 5 (.own 2 0 cZ.length)) 8 (vl (ci .i64) t8)) 9 (vi t9)) 10 (vi t10)), ⟨(upd (upd aX 1 (.cells 1 [vi s_2.Graph.Config.N, vi s_2.Graph.Config.L, vi s_2.Graph.Config.R, vl bH s_2.Graph.Hashes, vl aT s_2.Graph.Edges, vl aW s_2.Slots] 0)) 2 (.cells 1 (cZ.flatMap (ci .u64)) 0)), 64⟩⟩ ∧ mI m s_2 cZ t8 t9 t10 = some r) ?_ ?_
 ·
  refine ⟨_, ?_, s_0, [], l_1, (l_1.length : Int), 0, rfl, hm⟩
  refine St.Le.trans (nX 5 900005 1 Z1 Z5) ?_
  exact cn (fun j => bif j == 1 then 0 else bif j == 2 then 900005 else 0)
 rintro n1 s ⟨s_2, cZ, t8, t9, t10, rfl, hm⟩
 refine W ?_
 refine cm hm (fun hm => ?_) fun hm => ?_
 ·
  refine V ?_
  refine AWp.seqJ (fun s => ∃ s_2 cZ t8 t9 t10, s = ⟨33, (aF (aF (aF (aF (aF fa 2 (.adr 1 0)) 5 (.own 2 0 cZ.length)) 8 (vl (ci .i64) t8)) 9 (vi t9)) 10 (vi t10)), ⟨(upd (upd aX 1 (.cells 1 [vi s_2.Graph.Config.N, vi s_2.Graph.Config.L, vi s_2.Graph.Config.R, vl bH s_2.Graph.Hashes, vl aT s_2.Graph.Edges, vl aW s_2.Slots] 0)) 2 (.cells 1 (cZ.flatMap (ci .u64)) 0)), 64⟩⟩ ∧ tY (mI n1) s_2 cZ t8 t9 t10 = some r) ?_ ?_
  ·
   obtain ⟨x2, h1, hm⟩ := bnd hm
   obtain ⟨x4, h3, hm⟩ := bnd hm
   refine W ?_
   refine cm hm (fun hm => ?_) fun hm => ?_
   ·
    have hm := sb hm h3
    refine W ?_
    refine aL (CFi .u64) [x4.Key] ?_
    obtain ⟨l8, h7, hm⟩ := bnd hm
    refine W ?_
    exact Lr (fun j => bif j == 1 then 1 else bif j == 2 then 264 else 0)
   refine W ?_
   exact Lr (fun j => bif j == 1 then 1 else bif j == 2 then 2 else 0)
  rintro s ⟨s_2, cZ, t8, t9, t10, rfl, hm⟩
  refine W ?_
  exact Lr (fun j => bif j == 1 then 1 else bif j == 2 then 2 else 0)
 obtain ⟨l10, h9, hm⟩ := bnd hm
 refine W ?_
 have qh9 := aH0 h9
 refine aV.callM Zd Z1 bMc Z1 (aDu (aDo h9) Z3) ?_
 exact E
def tJ (rec1 : aD → Int → List Int → Int → Int → Option (Int)) (s_2 : aD) (rI : Int) (t8 : List Int) (t9 : Int) (t10 : Int) : Option (Int) :=
 rec1 s_2 rI t8 t9 (IntKind.i64.wrap (t10 + 1))
def aIq (rec1 : aD → Int → List Int → Int → Int → Option (Int)) (s_2 : aD) (rI : Int) (t8 : List Int) (t9 : Int) (t10 : Int) : Option (Int) :=
 (bif (decide (t10 < t9)) then
  ((idx t8 t10).bind fun x2 =>
  ((fF ((t10 == x2) == true) (aM.mk false 0) (idx s_2.Slots t10)).bind fun x4 =>
  (bif ((t10 == x2) && x4.Used) then
   tJ rec1 s_2 (IntKind.i64.wrap (rI + 1)) t8 t9 t10
  else
   tJ rec1 s_2 rI t8 t9 t10)))
 else
  some rI)
def nQ : Nat → aD → Int → List Int → Int → Int → Option (Int)
 | 0 => fun _ _ _ _ _ => none
 | n + 1 => aIq (nQ n)
def aB2 (s_0 : aD) (aKd : List Int) : Option (Int) :=
 nQ bK s_0 0 aKd (aKd.length : Int) 0
theorem aKf {s_0 : aD} {aKd : List Int} {r : Int} (hm : aB2 s_0 aKd = some r) : aZ Tryz.prog 79 [.agg [vi s_0.Graph.Config.N, vi s_0.Graph.Config.L, vi s_0.Graph.Config.R, vl bH s_0.Graph.Hashes, vl aT s_0.Graph.Edges, vl aW s_0.Slots], vl (ci .i64) aKd] (vi r) := by
 refine bd 30 Tryz.func79 ?_
 refine W ?_
 refine lp (fun m s => ∃ s_2 rI t8 t9 t10, s = ⟨30, (aF (aF (aF (aF (aF fa 2 (.adr 1 0)) 5 (vi rI)) 8 (vl (ci .i64) t8)) 9 (vi t9)) 10 (vi t10)), ⟨(upd aX 1 (.cells 1 [vi s_2.Graph.Config.N, vi s_2.Graph.Config.L, vi s_2.Graph.Config.R, vl bH s_2.Graph.Hashes, vl aT s_2.Graph.Edges, vl aW s_2.Slots] 0)), 64⟩⟩ ∧ nQ m s_2 rI t8 t9 t10 = some r) (Lr (fun j => bif j == 1 then 0 else 0)) ?_
 rintro n1 s ⟨s_2, rI, t8, t9, t10, rfl, hm⟩
 refine W ?_
 refine cm hm (fun hm => ?_) fun hm => ?_
 ·
  refine V ?_
  refine AWp.seqJ (fun s => ∃ s_2 rI t8 t9 t10, s = ⟨30, (aF (aF (aF (aF (aF fa 2 (.adr 1 0)) 5 (vi rI)) 8 (vl (ci .i64) t8)) 9 (vi t9)) 10 (vi t10)), ⟨(upd aX 1 (.cells 1 [vi s_2.Graph.Config.N, vi s_2.Graph.Config.L, vi s_2.Graph.Config.R, vl bH s_2.Graph.Hashes, vl aT s_2.Graph.Edges, vl aW s_2.Slots] 0)), 64⟩⟩ ∧ tJ (nQ n1) s_2 rI t8 t9 t10 = some r) ?_ ?_
  ·
   obtain ⟨x2, h1, hm⟩ := bnd hm
   obtain ⟨x4, h3, hm⟩ := bnd hm
   refine W ?_
   refine cm hm (fun hm => ?_) fun hm => ?_
   ·
    refine W ?_
    exact Lr (fun j => bif j == 1 then 1 else 0)
   refine W ?_
   exact Lr (fun j => bif j == 1 then 1 else 0)
  rintro s ⟨s_2, rI, t8, t9, t10, rfl, hm⟩
  refine W ?_
  exact Lr (fun j => bif j == 1 then 1 else 0)
 exact E
def eQ (lE : (aO → aO → Option (Int))) (rec1 : List aO → Int → Int → Int → Option (List aO)) (rec2 : List aO → Int → Int → Int → Int → Option (List aO)) (bG : List aO) (a_1 : Int) (b_2 : Int) (i_8 : Int) (j_9 : Int) : Option (List aO) :=
 ((fF ((decide (a_1 < j_9)) == true) (aO.mk 0 0) (idx bG j_9)).bind fun x2 =>
 ((fF ((decide (a_1 < j_9)) == true) (aO.mk 0 0) (idx bG (IntKind.i64.wrap (j_9 - 1)))).bind fun x4 =>
 ((fF ((decide (a_1 < j_9)) == true) 0 (lE x2 x4)).bind fun r6 =>
 (bif ((decide (a_1 < j_9)) && (decide (r6 < 0))) then
  ((idx bG (IntKind.i64.wrap (j_9 - 1))).bind fun x8 =>
  ((idx bG j_9).bind fun x10 =>
  ((idx bG j_9).bind fun x12 =>
  ((stt bG j_9 x8).bind fun l14 =>
  ((idx l14 (IntKind.i64.wrap (j_9 - 1))).bind fun x16 =>
  ((stt l14 (IntKind.i64.wrap (j_9 - 1)) x10).bind fun l18 =>
  rec2 l18 a_1 b_2 i_8 (IntKind.i64.wrap (j_9 - 1))))))))
 else
  rec1 bG a_1 b_2 (IntKind.i64.wrap (i_8 + 1))))))
def dJ (lE : (aO → aO → Option (Int))) (rec1 : List aO → Int → Int → Int → Option (List aO)) : Nat → List aO → Int → Int → Int → Int → Option (List aO)
 | 0 => fun _ _ _ _ _ => none
 | n + 1 => eQ lE rec1 (dJ lE rec1 n)
def eP (lE : (aO → aO → Option (Int))) (rec1 : List aO → Int → Int → Int → Option (List aO)) (bG : List aO) (a_1 : Int) (b_2 : Int) (i_8 : Int) : Option (List aO) :=
 (bif (decide (i_8 < b_2)) then
  dJ lE rec1 bK bG a_1 b_2 i_8 i_8
 else
  some bG)
def bW (lE : (aO → aO → Option (Int))) : Nat → List aO → Int → Int → Int → Option (List aO)
 | 0 => fun _ _ _ _ => none
 | n + 1 => eP lE (bW lE n)
def fE (bG : List aO) (a_1 : Int) (b_2 : Int) (lE : (aO → aO → Option (Int))) : Option (List aO) :=
 bW lE bK bG a_1 b_2 (IntKind.i64.wrap (a_1 + 1))
theorem oD {bG : List aO} {a_1 : Int} {b_2 : Int} {lE : (aO → aO → Option (Int))} {r : List aO} (hm : fE bG a_1 b_2 lE = some r) {aFu : FuncId} {yJ : List AV} (aT7 : ∀ a, a ∈ yJ → AM.Data a) (bBg : (Program.funcs Tryz.prog)[aFu]?.any (fun fn => fn.body.isSome && fn.name != "runtime.NumGoroutine") = true) (bAb : ∀ {x0 x1 r}, lE x0 x1 = some r → aZ Tryz.prog aFu ([.agg [.v (.int .u64 x0.x0), .v (.int .u64 x0.x1)], .agg [.v (.int .u64 x1.x0), .v (.int .u64 x1.x1)]] ++ yJ) (.v (.int .i64 r))) {H : aH} {i0 : Nat} (he : H.ent i0 = .cells 2 (bG.flatMap bT) 0) : dF Tryz.prog 156 [.own i0 0 bG.length, .v (.int .i64 a_1), .v (.int .i64 b_2), .clo (.func aFu) [] yJ] H (.tup []) (H.put i0 (.cells 2 (r.flatMap bT) 0)) := by
 refine dF.of_bodyM Tryz.func156 rfl he ?_
 generalize H.ent = h0
 simp only [Tryz.ntmps156, List.length_cons, List.length_nil, Nat.reduceAdd, Nat.reduceSub]
 unfold fE at hm
 refine sN 64 ?_
 iterate 3 refine pA ?_
 refine fs (AWp.block (AWp.loopM (fun m s => ∃ (bG : List aO) (a_1 : Int) (b_2 : Int) (i_8 : Int), s = (⟨53, (aF (aF (aF (aF (aF (fun _ => AV.any) 0 (.own i0 0 bG.length)) 1 (.v (.int .i64 a_1))) 2 (.v (.int .i64 b_2))) 3 (.clo (.func aFu) [] yJ)) 8 (.v (.int .i64 i_8))), ⟨(upd h0 i0 (.cells 2 (bG.flatMap bT) 0)), 64⟩⟩ : St) ∧ bW lE m bG a_1 b_2 i_8 = some r) bK ?_ ?_ ?_))
 ·
  rintro s ⟨_, _, _, _, _, h⟩
  cases h
 ·
  refine ⟨_, ?_, bG, a_1, b_2, (IntKind.i64.wrap (a_1 + 1)), rfl, hm⟩
  exact tF (bS 8 _ Z1 (bS 3 _ Z1 (bS 2 _ Z1 (bS 1 _ Z1 (bS 0 _ (tB Z1 Z6) nO))))) (by simp only [gP]; try rfl)
 ·
  rintro n1 s ⟨bG, a_1, b_2, i_8, rfl, hm⟩
  replace hm : eP lE (bW lE n1) bG a_1 b_2 i_8 = some r := hm
  unfold eP at hm
  refine AWp.seq' (sN 128 ?_)
  iterate 3 refine pA ?_
  refine fs (AWp.condM hm Z1 (fun _ hm => ?_) (fun _ hm => ?_))
  ·
   refine AWp.skip (bY (AWp.seq' (AWp.block (sN 192 ?_))))
   iterate 2 refine pA ?_
   refine fs (AWp.block (AWp.loopM (fun m s => ∃ (bG : List aO) (a_1 : Int) (b_2 : Int) (i_8 : Int) (j_9 : Int), s = (⟨53, (aF (aF (aF (aF (aF (aF (fun _ => AV.any) 0 (.own i0 0 bG.length)) 1 (.v (.int .i64 a_1))) 2 (.v (.int .i64 b_2))) 3 (.clo (.func aFu) [] yJ)) 8 (.v (.int .i64 i_8))) 9 (.v (.int .i64 j_9))), ⟨(upd h0 i0 (.cells 2 (bG.flatMap bT) 0)), 64⟩⟩ : St) ∧ dJ lE (bW lE n1) m bG a_1 b_2 i_8 j_9 = some r) bK ?_ ?_ ?_))
   ·
    rintro s ⟨_, _, _, _, _, _, h⟩
    cases h
   ·
    refine ⟨_, ?_, bG, a_1, b_2, i_8, i_8, rfl, hm⟩
    exact tF (bS 9 _ Z1 (bS 8 _ Z1 (bS 3 _ Z1 (bS 2 _ Z1 (bS 1 _ Z1 (bS 0 _ (tB Z1 Z6) nO)))))) (by simp only [gP]; try rfl)
   ·
    rintro n2 s ⟨bG, a_1, b_2, i_8, j_9, rfl, hm⟩
    replace hm : eQ lE (bW lE n1) (dJ lE (bW lE n1) n2) bG a_1 b_2 i_8 j_9 = some r := hm
    unfold eQ at hm
    refine AWp.seq' (sd mix (by kernel_rfl) (N' := 128) rfl ?_)
    iterate 7 first | refine pA ?_ | refine pB ?_
    obtain ⟨x2, h1, hm⟩ := bnd hm
    refine pg rfl rfl Z2 (fun hb => (dI Tryz.underlying40 aPz (Zh hb) (by simp only [aY, beq_self_eq_true, Nat.reduceBEq, cond_true, cond_false]; try rfl) Z6 (Zh hb) (cJ h1 hb))) ?_
    refine pg rfl rfl Z2 (fun hb => (lT eE (Zh hb) (by simp only [aY, beq_self_eq_true, Nat.reduceBEq, cond_true, cond_false]; try rfl) (cJ h1 hb) (fun _ => by simp only [go_sem, Nat.reduceBEq]; try with_reducible rfl))) ?_
    iterate 3 refine pB ?_
    obtain ⟨x4, h3, hm⟩ := bnd hm
    refine pg rfl rfl Z2 (fun hb => (dI Tryz.underlying40 aPz (Zh hb) (by simp only [aY, beq_self_eq_true, Nat.reduceBEq, cond_true, cond_false]; try rfl) Z6 (Zh hb) (cJ h3 hb))) ?_
    refine pg rfl rfl Z2 (fun hb => (lT eE (Zh hb) (by simp only [aY, beq_self_eq_true, Nat.reduceBEq, cond_true, cond_false]; try rfl) (cJ h3 hb) (fun _ => by simp only [go_sem, Nat.reduceBEq]; try with_reducible rfl))) ?_
    obtain ⟨r6, h5, hm⟩ := bnd hm
    refine aV.callQCG (r := .v (.int .i64 r6)) Zd rfl Z2 (fun hb => (Zh hb)) aT7 bBg (fun hb H => (.cons (td (Zh hb) (.agg _ (eE.dat _))) (.cons (td (Zh hb) (.agg _ (eE.dat _))) .nil))) (fun hb => bAb (cJ h5 hb)) ?_
    iterate 2 first | refine pA ?_ | refine pB ?_
    refine fs (AWp.condM hm Z1 (fun _ hm => ?_) (fun _ hm => ?_))
    ·
     refine AWp.skip (bY (AWp.seq' (AWp.block (AWp.regD 64 mix (by kernel_rfl) (N' := 192) rfl ?_))))
     iterate 8 refine pA ?_
     obtain ⟨x8, h7, hm⟩ := bnd hm
     refine pu rfl (dI Tryz.underlying40 aPz Z1 (by simp only [aY, beq_self_eq_true, Nat.reduceBEq, cond_true, cond_false]; try rfl) Z6 Z1 h7) ?_
     refine pu rfl (lT eE Z1 (by simp only [aY, beq_self_eq_true, Nat.reduceBEq, cond_true, cond_false]; try rfl) h7 (fun _ => by simp only [go_sem, Nat.reduceBEq]; try with_reducible rfl)) ?_
     iterate 2 refine pA ?_
     obtain ⟨x10, h9, hm⟩ := bnd hm
     refine pu rfl (dI Tryz.underlying40 aPz Z1 (by simp only [aY, beq_self_eq_true, Nat.reduceBEq, cond_true, cond_false]; try rfl) Z6 Z1 h9) ?_
     refine pu rfl (lT eE Z1 (by simp only [aY, beq_self_eq_true, Nat.reduceBEq, cond_true, cond_false]; try rfl) h9 (fun _ => by simp only [go_sem, Nat.reduceBEq]; try with_reducible rfl)) ?_
     obtain ⟨x12, h11, hm⟩ := bnd hm
     refine pu rfl (dI Tryz.underlying40 aPz Z1 (by simp only [aY, beq_self_eq_true, Nat.reduceBEq, cond_true, cond_false]; try rfl) Z6 Z1 h11) ?_
     obtain ⟨l14, h13, hm⟩ := bnd hm
     have qh13 := jC h13
     refine aV.heap0 (id := 143) rfl (vU eE aPz Z1 Z1 (by simp only [aY, beq_self_eq_true, Nat.reduceBEq, cond_true, cond_false]; try rfl) rfl h13) ?_
     obtain ⟨x16, h15, hm⟩ := bnd hm
     refine pu rfl (dI Tryz.underlying40 aPz Z1 (by simp only [aY, beq_self_eq_true, Nat.reduceBEq, cond_true, cond_false]; try rfl) Z6 Z1 h15) ?_
     obtain ⟨l18, h17, hm⟩ := bnd hm
     have qh17 := jC h17
     refine aV.heap0 (id := 145) rfl (vU eE aPz Z1 Z1 (by simp only [aY, beq_self_eq_true, Nat.reduceBEq, cond_true, cond_false]; try rfl) rfl h17) ?_
     refine aV.fin (nY (bY (AWp.reg 64 (N' := 256) rfl ?_)))
     iterate 3 refine pA ?_
     refine aV.fin (iJ ?_)
     refine ⟨_, ?_, l18, a_1, b_2, i_8, (IntKind.i64.wrap (j_9 - 1)), rfl, hm⟩
     exact tF (bS 9 _ Z1 (bS 8 _ Z1 (bS 3 _ Z1 (bS 2 _ Z1 (bS 1 _ Z1 (bS 0 _ (tB Z1 Z6) nO)))))) (by simp only [gP]; try rfl)
    ·
     refine AWp.exit (lX (jL (jE (nY (bY (AWp.reg 64 (N' := 192) rfl ?_))))))
     iterate 3 refine pA ?_
     refine aV.fin (iJ ?_)
     refine ⟨_, ?_, bG, a_1, b_2, (IntKind.i64.wrap (i_8 + 1)), rfl, hm⟩
     exact tF (bS 8 _ Z1 (bS 3 _ Z1 (bS 2 _ Z1 (bS 1 _ Z1 (bS 0 _ (tB Z1 Z6) nO))))) (by simp only [gP]; try rfl)
  ·
   refine AWp.exit (lX (jL (jE ?_)))
   cases hm
   exact aMz (.inl rfl) Tryz.results156 (by simp only [gP]; try rfl)
def gD (aAt : (aO → aO → Option (Int))) (rec1 : List aO → Int → Int → Int → Bool → Bool → Option (List aO)) (bG : List aO) (a_1 : Int) (b_2 : Int) (eX : Int) (lP : Bool) (iN : Bool) : Option (List aO) :=
 (bif (decide ((IntKind.i64.wrap (b_2 - a_1)) ≤ 12)) then
  ((aFs (fun x => x.length) bG.length (fE bG a_1 b_2 aAt)).bind fun l2 =>
  some l2)
 else
  (bif (eX == 0) then
   none
  else
   none))
def eI (aAt : (aO → aO → Option (Int))) : Nat → List aO → Int → Int → Int → Bool → Bool → Option (List aO)
 | 0 => fun _ _ _ _ _ _ => none
 | n + 1 => gD aAt (eI aAt n)
def gK (bG : List aO) (a_1 : Int) (b_2 : Int) (eX : Int) (aAt : (aO → aO → Option (Int))) : Option (List aO) :=
 eI aAt bK bG a_1 b_2 eX true true
theorem tC {bG : List aO} {a_1 : Int} {b_2 : Int} {eX : Int} {aAt : (aO → aO → Option (Int))} {r : List aO} (hm : gK bG a_1 b_2 eX aAt = some r) {aJf : FuncId} {aCl : List AV} (aUq : ∀ a, a ∈ aCl → AM.Data a) (bBt : (Program.funcs Tryz.prog)[aJf]?.any (fun fn => fn.body.isSome && fn.name != "runtime.NumGoroutine") = true) (bAy : ∀ {x0 x1 r}, aAt x0 x1 = some r → aZ Tryz.prog aJf ([.agg [.v (.int .u64 x0.x0), .v (.int .u64 x0.x1)], .agg [.v (.int .u64 x1.x0), .v (.int .u64 x1.x1)]] ++ aCl) (.v (.int .i64 r))) {H : aH} {i0 : Nat} (he : H.ent i0 = .cells 2 (bG.flatMap bT) 0) : dF Tryz.prog 136 [.own i0 0 bG.length, .v (.int .i64 a_1), .v (.int .i64 b_2), .v (.int .i64 eX), .clo (.func aJf) [] aCl] H (.tup []) (H.put i0 (.cells 2 (r.flatMap bT) 0)) := by
 refine dF.of_bodyM Tryz.func136 rfl he ?_
 generalize H.ent = h0
 simp only [Tryz.ntmps136, List.length_cons, List.length_nil, Nat.reduceAdd, Nat.reduceSub]
 unfold gK at hm
 refine sN 64 (pA ?_)
 refine fs (sN 128 (pA ?_))
 refine fs (AWp.block (AWp.loopM (fun m s => ∃ (bG : List aO) (a_1 : Int) (b_2 : Int) (eX : Int) (lP : Bool) (iN : Bool), s = (⟨148, (aF (aF (aF (aF (aF (aF (aF (fun _ => AV.any) 0 (.own i0 0 bG.length)) 1 (.v (.int .i64 a_1))) 2 (.v (.int .i64 b_2))) 3 (.v (.int .i64 eX))) 4 (.clo (.func aJf) [] aCl)) 10 (.v (.bool lP))) 11 (.v (.bool iN))), ⟨(upd h0 i0 (.cells 2 (bG.flatMap bT) 0)), 64⟩⟩ : St) ∧ eI aAt m bG a_1 b_2 eX lP iN = some r) bK ?_ ?_ ?_))
 ·
  rintro s ⟨_, _, _, _, _, _, _, h⟩
  cases h
 ·
  refine ⟨_, ?_, bG, a_1, b_2, eX, true, true, rfl, hm⟩
  exact tF (bS 11 _ Z1 (bS 10 _ Z1 (bS 4 _ Z1 (bS 3 _ Z1 (bS 2 _ Z1 (bS 1 _ Z1 (bS 0 _ (tB Z1 Z6) nO))))))) (by simp only [gP]; try rfl)
 ·
  rintro n1 s ⟨bG, a_1, b_2, eX, lP, iN, rfl, hm⟩
  replace hm : gD aAt (eI aAt n1) bG a_1 b_2 eX lP iN = some r := hm
  unfold gD at hm
  refine AWp.block (sN 128 ?_)
  iterate 4 refine pA ?_
  refine fs (AWp.seq' (sN 192 ?_))
  iterate 2 refine pA ?_
  refine fs (AWp.condM hm Z1 (fun _ hm => ?_) (fun _ hm => ?_))
  ·
   refine sN 256 ?_
   iterate 4 refine pA ?_
   obtain ⟨l2, h1, hm⟩ := bnd hm
   have qh1 := aH0 h1
   refine aV.callM Zd Z1 bP3 Z1 (oD (aDo h1) aUq bBt bAy (by simp only [aY, beq_self_eq_true, Nat.reduceBEq, cond_true, cond_false]; try rfl)) ?_
   refine fs (AWp.ret (lC (aFk (aJk (aFk ?_)))))
   cases hm
   exact aMz (.inr rfl) Tryz.results136 (by simp only [gP]; try rfl)
  ·
   refine AWp.skip (bY (AWp.seq' (sN 256 ?_)))
   iterate 2 refine pA ?_
   refine fs (AWp.condM hm Z1 (fun _ hm => ?_) (fun _ hm => ?_))
   ·
    cases hm
   ·
    cases hm
def jZ (x_0 : List aO) (aWw : (aO → aO → Option (Int))) : Option (List aO) :=
 ((yB (IntKind.u64.wrap (x_0.length : Int))).bind fun r2 =>
 ((aFs (fun x => x.length) x_0.length (gK x_0 0 (x_0.length : Int) r2 aWw)).bind fun l4 =>
 some l4))
theorem yO {x_0 : List aO} {aWw : (aO → aO → Option (Int))} {r : List aO} (hm : jZ x_0 aWw = some r) {aPf : FuncId} {aGr : List AV} (aUw : ∀ a, a ∈ aGr → AM.Data a) (bAz : (Program.funcs Tryz.prog)[aPf]?.any (fun fn => fn.body.isSome && fn.name != "runtime.NumGoroutine") = true) (bCl : ∀ {x0 x1 r}, aWw x0 x1 = some r → aZ Tryz.prog aPf ([.agg [.v (.int .u64 x0.x0), .v (.int .u64 x0.x1)], .agg [.v (.int .u64 x1.x0), .v (.int .u64 x1.x1)]] ++ aGr) (.v (.int .i64 r))) {H : aH} {i0 : Nat} (he : H.ent i0 = .cells 2 (x_0.flatMap bT) 0) : dF Tryz.prog 104 [.own i0 0 x_0.length, .clo (.func aPf) [] aGr] H (.tup []) (H.put i0 (.cells 2 (r.flatMap bT) 0)) := by
 refine dF.of_bodyM Tryz.func104 rfl he ?_
 generalize H.ent = h0
 simp only [Tryz.ntmps104, List.length_cons, List.length_nil, Nat.reduceAdd, Nat.reduceSub]
 unfold jZ at hm
 refine sN 64 ?_
 iterate 3 refine pA ?_
 refine fs (AWp.reg 64 (N' := 128) rfl ?_)
 iterate 4 refine pA ?_
 obtain ⟨r2, h1, hm⟩ := bnd hm
 refine aV.callQ (r := .v (.int .i64 r2)) Zd Z1 bGw (fun H => (cV .nil)) (aGg h1) ?_
 refine pA ?_
 obtain ⟨l4, h3, hm⟩ := bnd hm
 have qh3 := aH0 h3
 refine aV.callM Zd Z1 bL4 Z1 (tC (aDo h3) aUw bAz bCl (by simp only [aY, beq_self_eq_true, Nat.reduceBEq, cond_true, cond_false]; try rfl)) ?_
 refine aV.fin ?_
 cases hm
 exact aMz (.inl rfl) Tryz.results104 (by simp only [gP]; try rfl)
def nU (x_0 : Int) (y_1 : Int) : Option (Int) :=
 ((fU x_0).bind fun r2 =>
 ((fU y_1).bind fun r4 =>
 (bif r2 then
  (bif r4 then
   some 0
  else
   some (-1))
 else
  (bif r4 then
   some 1
  else
   (bif (decide (x_0 < y_1)) then
    some (-1)
   else
    (bif (decide (y_1 < x_0)) then
     some 1
    else
     some 0))))))
theorem vR {x_0 : Int} {y_1 : Int} {r : Int} (hm : nU x_0 y_1 = some r) : aZ Tryz.prog 107 [vu x_0, vu y_1] (vi r) := by
 refine bd 20 Tryz.func107 ?_
 obtain ⟨r2, h1, hm⟩ := bnd hm
 refine W ?_
 refine cq (mJ h1) ?_
 obtain ⟨r4, h3, hm⟩ := bnd hm
 refine W ?_
 refine cq (mJ h3) ?_
 refine W ?_
 refine cm hm (fun hm => ?_) fun hm => ?_
 ·
  refine W ?_
  refine cm hm (fun hm => ?_) fun hm => ?_
  · exact E
  exact E
 refine W ?_
 refine cm hm (fun hm => ?_) fun hm => ?_
 · exact E
 refine W ?_
 refine cm hm (fun hm => ?_) fun hm => ?_
 · exact E
 refine W ?_
 refine cm hm (fun hm => ?_) fun hm => ?_
 · exact E
 exact E
end Go.Proofs.YtkdohhmacfoolaaGreat
