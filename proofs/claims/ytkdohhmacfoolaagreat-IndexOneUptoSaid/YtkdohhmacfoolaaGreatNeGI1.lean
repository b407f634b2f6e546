/- Facts that the statement's proof is made of. No condition. -/
import Derived.Test.YtkdohhmacfoolaaGreatNeGC1
import Derived.Test.YtkdohhmacfoolaaGreatNeAmQ
import Derived.Test.YtkdohhmacfoolaaGreatNePl
set_option linter.unusedVariables false
set_option linter.unusedSimpArgs false
set_option maxRecDepth 20000
set_option maxHeartbeats 4000000
namespace Go.Proofs.YtkdohhmacfoolaaGreat
open Go Go.AM
structure aY where
 Do : Int
 A : Int
 B : Int
 Text : ByteArray
deriving DecidableEq
def cP (e : aY) : List AV := [.v (.int .i64 e.Do), .v (.int .u64 e.A), .v (.int .u64 e.B), .v (.string e.Text)]
theorem iS : CF cP 4 := ⟨fun _ => rfl, fun a x hx => by
 simp only [cP, List.mem_cons, List.not_mem_nil, or_false] at hx
 rcases hx with rfl | rfl | rfl | rfl
 ·
  exact (.v _)
 ·
  exact (.v _)
 ·
  exact (.v _)
 ·
  exact (.v _), fun _ => rfl⟩
instance : CC cP 4 := ⟨iS⟩
theorem aFp (e : aY) (r : List AV) : cP e ++ r = .v (.int .i64 e.Do) :: .v (.int .u64 e.A) :: .v (.int .u64 e.B) :: .v (.string e.Text) :: r := rfl
attribute [go_sem] aFp
structure bD where
 List : List Int
 At : Int
deriving DecidableEq
def aU7 (e : bD) : List AV := [.sl (e.List.flatMap (ci .u64)) e.List.length false, .v (.int .i64 e.At)]
theorem aKe (e : bD) (r : List AV) : aU7 e ++ r = .sl (e.List.flatMap (ci .u64)) e.List.length false :: .v (.int .i64 e.At) :: r := rfl
attribute [go_sem] aKe
structure aM where
 Used : Bool
 Key : Int
deriving DecidableEq
def aW (e : aM) : List AV := [.v (.bool e.Used), .v (.int .u64 e.Key)]
theorem dP : CF aW 2 := ⟨fun _ => rfl, fun a x hx => by
 simp only [aW, List.mem_cons, List.not_mem_nil, or_false] at hx
 rcases hx with rfl | rfl
 ·
  exact (.v _)
 ·
  exact (.v _), fun _ => rfl⟩
instance : CC aW 2 := ⟨dP⟩
theorem aKy (e : aM) (r : List AV) : aW e ++ r = .v (.bool e.Used) :: .v (.int .u64 e.Key) :: r := rfl
attribute [go_sem] aKy
structure aE where
 Graph : aG
 Slots : List aM
deriving DecidableEq
def aTl (e : aE) : List AV := [.v (.int .i64 e.Graph.Config.N), .v (.int .i64 e.Graph.Config.L), .v (.int .i64 e.Graph.Config.R), .sl (e.Graph.Hashes.flatMap bI) e.Graph.Hashes.length false, .sl (e.Graph.Edges.flatMap aT) e.Graph.Edges.length false, .sl (e.Slots.flatMap aW) e.Slots.length false]
theorem aKr (e : aE) (r : List AV) : aTl e ++ r = .v (.int .i64 e.Graph.Config.N) :: .v (.int .i64 e.Graph.Config.L) :: .v (.int .i64 e.Graph.Config.R) :: .sl (e.Graph.Hashes.flatMap bI) e.Graph.Hashes.length false :: .sl (e.Graph.Edges.flatMap aT) e.Graph.Edges.length false :: .sl (e.Slots.flatMap aW) e.Slots.length false :: r := rfl
attribute [go_sem] aKr
structure bL where
 Key : Int
 N : Int
deriving DecidableEq
def sG (e : bL) : List AV := [.v (.int .u64 e.Key), .v (.int .i64 e.N)]
theorem eI : CF sG 2 := ⟨fun _ => rfl, fun a x hx => by
 simp only [sG, List.mem_cons, List.not_mem_nil, or_false] at hx
 rcases hx with rfl | rfl
 ·
  exact (.v _)
 ·
  exact (.v _), fun _ => rfl⟩
instance : CC sG 2 := ⟨eI⟩
theorem aNn (e : bL) (r : List AV) : sG e ++ r = .v (.int .u64 e.Key) :: .v (.int .i64 e.N) :: r := rfl
attribute [go_sem] aNn
inductive aB where
 | nil
 | mk (ahead : aB) (behind : aB) (thing : bL) (height : Int) (size : Int)
def aB.ahead : aB → aB
 | .nil => aB.nil
 | .mk ahead behind thing height size => ahead
def aB.behind : aB → aB
 | .nil => aB.nil
 | .mk ahead behind thing height size => behind
def aB.thing : aB → bL
 | .nil => (bL.mk 0 0)
 | .mk ahead behind thing height size => thing
def aB.height : aB → Int
 | .nil => 0
 | .mk ahead behind thing height size => height
def aB.size : aB → Int
 | .nil => 0
 | .mk ahead behind thing height size => size
def aB.nn : aB → Bool
 | .nil => false
 | .mk _ _ _ _ _ => true
def aB.av : aB → AV
 | .nil => .v (.pointer none)
 | .mk ahead behind thing height size => .ptr [ahead.av, behind.av, .v (.int .u64 thing.Key), .v (.int .i64 thing.N), .v (.int .i64 height), .v (.int .i64 size)]
theorem aB.data : (e : aB) → AM.Data e.av
 | .nil => .v _
 | .mk ahead behind thing height size => .ptr _ (fun a hx => by
  simp only [List.mem_cons, List.not_mem_nil, or_false] at hx
  rcases hx with rfl | rfl | rfl | rfl | rfl | rfl
  ·
   exact ahead.data
  ·
   exact behind.data
  ·
   exact (.v _)
  ·
   exact (.v _)
  ·
   exact (.v _)
  ·
   exact (.v _))
theorem aB.av_nn {e : aB} (h : e.nn = true) : e.av = .ptr [aB.av e.ahead, aB.av e.behind, .v (.int .u64 e.thing.Key), .v (.int .i64 e.thing.N), .v (.int .i64 e.height), .v (.int .i64 e.size)] := by
 cases e with
 | nil => cases h
 | mk ahead behind thing height size => rfl
theorem aB.isn (e : aB) : ((!e.nn) = true ∧ e.av = .v (.pointer none)) ∨ ((!e.nn) = false ∧ ∃ xs, e.av = .ptr xs) := by
 cases e with
 | nil => exact .inl ⟨rfl, rfl⟩
 | mk ahead behind thing height size => exact .inr ⟨rfl, _, rfl⟩
theorem aB.cells (e : aB) : e.av.cells? = some [e.av] := by cases e <;> rfl
theorem aB.one (e : aB) : e.av.one = true := by cases e <;> rfl
structure bS where
 s : aB
def xR (e : bS) : List AV := [aB.av e.s]
theorem zB : CF xR 1 := ⟨fun _ => rfl, fun a x hx => by
 simp only [xR, List.mem_cons, List.not_mem_nil, or_false] at hx
 rcases hx with rfl
 ·
  exact (aB.data a.s), fun e => by unfold xR; simp only [List.all_cons, List.all_nil, Bool.and_true, aB.one]; try rfl⟩
instance : CC xR 1 := ⟨zB⟩
theorem aN5 (e : bS) (r : List AV) : xR e ++ r = aB.av e.s :: r := rfl
attribute [go_sem] aN5
theorem bGc {a0 : AV} (a0h : a0.cells? = some [a0]) : cN Tryz.prog 130 [(0, a0)] = some (.agg [a0]) := by
 unfold cN
 rw [bM0, Tryz.underlying130]
 simp only []
 rw [(by kernel_rfl : placesOf Tryz.prog _ = some [(0, 1)])]
 simp only []
 simp [wT, a0h, aPt, aP3, aNm]
theorem bFp {a0 : AV} {a1 : AV} {a2_Key : Int} {a2_N : Int} {a3 : Int} {a4 : Int} (a0h : a0.cells? = some [a0]) (a1h : a1.cells? = some [a1]) : cN Tryz.prog 192 [(0, a0), (1, a1), (2, .agg [.v (.int .u64 a2_Key), .v (.int .i64 a2_N)]), (3, .v (.int .i64 a3)), (4, .v (.int .i64 a4))] = some (.agg [a0, a1, .v (.int .u64 a2_Key), .v (.int .i64 a2_N), .v (.int .i64 a3), .v (.int .i64 a4)]) := by
 unfold cN
 rw [bT3, Tryz.underlying192]
 simp only []
 rw [(by kernel_rfl : placesOf Tryz.prog _ = some [(0, 1), (1, 1), (2, 2), (4, 1), (5, 1)])]
 simp only []
 simp [wT, a0h, a1h, aPt, aP3, aNm]
theorem aX7 (xs : List AV) : aH Tryz.prog 104 (.ptr (xs)) 0 = some (.ptr xs) := by kernel_rfl
attribute [go_sem] aX7
theorem aVy (x0 : AV) (xs : List AV) : aH Tryz.prog 104 (.ptr (x0 :: xs)) 1 = some (.ptr xs) := by kernel_rfl
attribute [go_sem] aVy
theorem aYf (xs : List AV) : aH Tryz.prog 130 (.ptr (xs)) 0 = some (.ptr xs) := by kernel_rfl
attribute [go_sem] aYf
theorem aYl (xs : List AV) : aH Tryz.prog 192 (.ptr (xs)) 0 = some (.ptr xs) := by kernel_rfl
attribute [go_sem] aYl
theorem aWy (x0 : AV) (xs : List AV) : aH Tryz.prog 192 (.ptr (x0 :: xs)) 1 = some (.ptr xs) := by kernel_rfl
attribute [go_sem] aWy
theorem aXi (x0 : AV) (x1 : AV) (xs : List AV) : aH Tryz.prog 192 (.ptr (x0 :: x1 :: xs)) 2 = some (.ptr xs) := by kernel_rfl
attribute [go_sem] aXi
theorem aWl (x0 : AV) (x1 : AV) (x2 : AV) (x3 : AV) (xs : List AV) : aH Tryz.prog 192 (.ptr (x0 :: x1 :: x2 :: x3 :: xs)) 3 = some (.ptr xs) := by kernel_rfl
attribute [go_sem] aWl
theorem aXt (x0 : AV) (x1 : AV) (x2 : AV) (x3 : AV) (x4 : AV) (xs : List AV) : aH Tryz.prog 192 (.ptr (x0 :: x1 :: x2 :: x3 :: x4 :: xs)) 4 = some (.ptr xs) := by kernel_rfl
attribute [go_sem] aXt
theorem aWf (i o : Nat) : aH Tryz.prog 102 (.adr i o) 0 = some (.adr i (o + 0)) := by kernel_rfl
attribute [go_sem] aWf
theorem aVc (i o : Nat) : aH Tryz.prog 102 (.adr i o) 1 = some (.adr i (o + 1)) := by kernel_rfl
attribute [go_sem] aVc
theorem aY4 (i o : Nat) : aH Tryz.prog 104 (.adr i o) 0 = some (.adr i (o + 0)) := by kernel_rfl
attribute [go_sem] aY4
theorem aVx (i o : Nat) : aH Tryz.prog 104 (.adr i o) 1 = some (.adr i (o + 1)) := by kernel_rfl
attribute [go_sem] aVx
theorem aW0 (i o : Nat) : aH Tryz.prog 130 (.adr i o) 0 = some (.adr i (o + 0)) := by kernel_rfl
attribute [go_sem] aW0
theorem aY2 (i o : Nat) : aH Tryz.prog 158 (.adr i o) 0 = some (.adr i (o + 0)) := by kernel_rfl
attribute [go_sem] aY2
theorem aVg (i o : Nat) : aH Tryz.prog 158 (.adr i o) 1 = some (.adr i (o + 1)) := by kernel_rfl
attribute [go_sem] aVg
theorem bAr (i o : Nat) : aH Tryz.prog 23 (.adr i o) 0 = some (.adr i (o + 0)) := by kernel_rfl
attribute [go_sem] bAr
theorem bAl (i o : Nat) : aH Tryz.prog 23 (.adr i o) 1 = some (.adr i (o + 1)) := by kernel_rfl
attribute [go_sem] bAl
theorem bC0 (i o : Nat) : aH Tryz.prog 23 (.adr i o) 2 = some (.adr i (o + 2)) := by kernel_rfl
attribute [go_sem] bC0
theorem bAz (i o : Nat) : aH Tryz.prog 30 (.adr i o) 0 = some (.adr i (o + 0)) := by kernel_rfl
attribute [go_sem] bAz
theorem bD3 (i o : Nat) : aH Tryz.prog 30 (.adr i o) 2 = some (.adr i (o + 4)) := by kernel_rfl
attribute [go_sem] bD3
theorem bCl (i o : Nat) : aH Tryz.prog 33 (.adr i o) 0 = some (.adr i (o + 0)) := by kernel_rfl
attribute [go_sem] bCl
theorem bC2 (i o : Nat) : aH Tryz.prog 33 (.adr i o) 1 = some (.adr i (o + 5)) := by kernel_rfl
attribute [go_sem] bC2
theorem bBl (i o : Nat) : aH Tryz.prog 35 (.adr i o) 0 = some (.adr i (o + 0)) := by kernel_rfl
attribute [go_sem] bBl
theorem bCo (i o : Nat) : aH Tryz.prog 35 (.adr i o) 1 = some (.adr i (o + 1)) := by kernel_rfl
attribute [go_sem] bCo
theorem bB9 (i o : Nat) : aH Tryz.prog 45 (.adr i o) 3 = some (.adr i (o + 3)) := by kernel_rfl
attribute [go_sem] bB9
theorem bE3 (H : aJ) (x0 x1 x2 : AV) (xs : List AV) : bM Tryz.prog H 102 (.ptr (x0 :: x1 :: x2 :: xs)) = some (.agg [x0, x1, x2]) := by kernel_rfl
attribute [go_sem] bE3
theorem bGk (H : aJ) (x0 x1 : AV) (xs : List AV) : bM Tryz.prog H 104 (.ptr (x0 :: x1 :: xs)) = some (.agg [x0, x1]) := by kernel_rfl
attribute [go_sem] bGk
theorem bGe (H : aJ) (x : AV) (xs : List AV) : bM Tryz.prog H 128 (.ptr (x :: xs)) = some x := by kernel_rfl
attribute [go_sem] bGe
theorem bGy (H : aJ) (x0 : AV) (xs : List AV) : bM Tryz.prog H 130 (.ptr (x0 :: xs)) = some (.agg [x0]) := by kernel_rfl
attribute [go_sem] bGy
theorem bFz (H : aJ) (x0 x1 : AV) (xs : List AV) : bM Tryz.prog H 158 (.ptr (x0 :: x1 :: xs)) = some (.agg [x0, x1]) := by kernel_rfl
attribute [go_sem] bFz
theorem bKm (H : aJ) (x0 x1 x2 : AV) (xs : List AV) : bM Tryz.prog H 23 (.ptr (x0 :: x1 :: x2 :: xs)) = some (.agg [x0, x1, x2]) := by kernel_rfl
attribute [go_sem] bKm
theorem bKp (H : aJ) (x : AV) (xs : List AV) : bM Tryz.prog H 24 (.ptr (x :: xs)) = some x := by kernel_rfl
attribute [go_sem] bKp
theorem bKq (H : aJ) (x : AV) (xs : List AV) : bM Tryz.prog H 28 (.ptr (x :: xs)) = some x := by kernel_rfl
attribute [go_sem] bKq
theorem bMg (H : aJ) (x : AV) (xs : List AV) : bM Tryz.prog H 3 (.ptr (x :: xs)) = some x := by kernel_rfl
attribute [go_sem] bMg
theorem bIp (H : aJ) (x0 x1 x2 x3 x4 : AV) (xs : List AV) : bM Tryz.prog H 30 (.ptr (x0 :: x1 :: x2 :: x3 :: x4 :: xs)) = some (.agg [x0, x1, x2, x3, x4]) := by kernel_rfl
attribute [go_sem] bIp
theorem bIg (H : aJ) (x : AV) (xs : List AV) : bM Tryz.prog H 31 (.ptr (x :: xs)) = some x := by kernel_rfl
attribute [go_sem] bIg
theorem bJi (H : aJ) (x0 x1 x2 x3 x4 x5 : AV) (xs : List AV) : bM Tryz.prog H 33 (.ptr (x0 :: x1 :: x2 :: x3 :: x4 :: x5 :: xs)) = some (.agg [x0, x1, x2, x3, x4, x5]) := by kernel_rfl
attribute [go_sem] bJi
theorem bK3 (H : aJ) (x0 x1 : AV) (xs : List AV) : bM Tryz.prog H 35 (.ptr (x0 :: x1 :: xs)) = some (.agg [x0, x1]) := by kernel_rfl
attribute [go_sem] bK3
theorem bMc (H : aJ) (x : AV) (xs : List AV) : bM Tryz.prog H 4 (.ptr (x :: xs)) = some x := by kernel_rfl
attribute [go_sem] bMc
theorem bJ7 (H : aJ) (x : AV) (xs : List AV) : bM Tryz.prog H 43 (.ptr (x :: xs)) = some x := by kernel_rfl
attribute [go_sem] bJ7
theorem bIc (H : aJ) (x0 x1 x2 x3 : AV) (xs : List AV) : bM Tryz.prog H 45 (.ptr (x0 :: x1 :: x2 :: x3 :: xs)) = some (.agg [x0, x1, x2, x3]) := by kernel_rfl
attribute [go_sem] bIc
theorem bI0 (H : aJ) (x0 x1 : AV) (xs : List AV) : bM Tryz.prog H 69 (.ptr (x0 :: x1 :: xs)) = some (.agg [x0, x1]) := by kernel_rfl
attribute [go_sem] bI0
theorem bMz (H : aJ) (x : AV) (xs : List AV) : bM Tryz.prog H 9 (.ptr (x :: xs)) = some x := by kernel_rfl
attribute [go_sem] bMz
theorem aY6 (H : aJ) (k : IntKind) (n : Int) : lU Tryz.prog H 3 198 (.v (.int k n)) = some (.v (.int .u64 (IntKind.u64.wrap n))) := fP Tryz.underlying3 Tryz.underlying198
attribute [go_sem] aY6
theorem aXr (H : aJ) (k : IntKind) (n : Int) : lU Tryz.prog H 198 3 (.v (.int k n)) = some (.v (.int .i64 (IntKind.i64.wrap n))) := fP Tryz.underlying198 Tryz.underlying3
attribute [go_sem] aXr
def aDr (rec1 : Int → List aY → Int → Int → Option (Int)) (n_7 : Int) (t29 : List aY) (t30 : Int) (t31 : Int) : Option (Int) :=
 (bif (decide (t31 < t30)) then
  ((idx t29 t31).bind fun x4 =>
  (bif (decide (1000 < (x4.Text.size : Int))) then
   some (-1)
  else
   rec1 n_7 t29 t30 (IntKind.i64.wrap (t31 + 1))))
 else
  some n_7)
def tX : Nat → Int → List aY → Int → Int → Option (Int)
 | 0 => fun _ _ _ _ => none
 | n + 1 => aDr (tX n)
def mN (c_0 : aO) (l_1 : List aY) (aB1 : Int) : Option (Int) :=
 (bif (((decide (10 < c_0.N)) || (decide (4 < c_0.L))) || (decide (3 < c_0.R))) then
  some (-1)
 else
  ((slc l_1 0 (if aB1 < (l_1.length : Int) then aB1 else (l_1.length : Int))).bind fun l2 =>
  tX bF (if aB1 < (l_1.length : Int) then aB1 else (l_1.length : Int)) l2 (l2.length : Int) 0))
theorem aLs {c_0 : aO} {l_1 : List aY} {aB1 : Int} {r : Int} (hm : mN c_0 l_1 aB1 = some r) : aZ Tryz.prog 12 [.agg [vi c_0.N, vi c_0.L, vi c_0.R], vl cP l_1, vi aB1] (vi r) := by
 refine bd 41 Tryz.func12 ?_
 refine W ?_
 refine cm hm (fun hm => ?_) fun hm => ?_
 · exact E
 obtain ⟨l2, h1, hm⟩ := bnd hm
 refine W ?_
 refine lp (fun m s => ∃ n_7 t29 t30 t31, s = ⟨41, (aF (aF (aF (aF fa 7 (vi n_7)) 29 (vl cP t29)) 30 (vi t30)) 31 (vi t31)), ⟨aX, 64⟩⟩ ∧ tX m n_7 t29 t30 t31 = some r) ?_ ?_
 ·
  refine ⟨_, ?_, (if aB1 < (l_1.length : Int) then aB1 else (l_1.length : Int)), l2, (l2.length : Int), 0, rfl, hm⟩
  refine St.Le.trans (aRc 29 (.sl (l2.flatMap cP) l2.length false) (fun H => (tdf Z1 (iS.sl _ _ _)))) ?_
  exact cn id
 rintro n1 s ⟨n_7, t29, t30, t31, rfl, hm⟩
 refine W ?_
 refine cm hm (fun hm => ?_) fun hm => ?_
 ·
  obtain ⟨x4, h3, hm⟩ := bnd hm
  refine W ?_
  refine cm hm (fun hm => ?_) fun hm => ?_
  · exact E
  exact L
 exact E
def qL (w_0 : bD) : Option (Bool) :=
 some ((decide (0 ≤ w_0.At)) && (decide (w_0.At ≤ (w_0.List.length : Int))))
theorem aK1 {w_0 : bD} {r : Bool} (hm : qL w_0 = some r) : aZ Tryz.prog 67 [.agg [vl (ci .u64) w_0.List, vi w_0.At]] (vb r) := by
 refine bd 14 Tryz.func67 ?_
 exact E
def aAy (rec1 : bD → bD → Int → Option (Int × bD × Int)) (w_1 : bD) (t3 : bD) (aGb : Int) : Option (Int × bD × Int) :=
 (bif (decide (aGb < (w_1.List.length : Int))) then
  ((idx w_1.List aGb).bind fun x4 =>
  (bif (decide ((aDa .u64 x4 2305843009213693951) < 2305843009213693951)) then
   some ((aDa .u64 x4 2305843009213693951), (bD.mk w_1.List (IntKind.i64.wrap (aGb + 1))), 0)
  else
   rec1 w_1 t3 (IntKind.i64.wrap (aGb + 1))))
 else
  some (0, w_1, 5))
def qY : Nat → bD → bD → Int → Option (Int × bD × Int)
 | 0 => fun _ _ _ => none
 | n + 1 => aAy (qY n)
def uI (w_0 : bD) : Option (Int × bD × Int) :=
 ((qL w_0).bind fun r2 =>
 (bif (!r2) then
  some (0, w_0, 1)
 else
  qY bF w_0 (bD.mk [] 0) w_0.At))
theorem aK8 {w_0 : bD} {r : Int × bD × Int} (hm : uI w_0 = some r) : aZ Tryz.prog 68 [.agg [vl (ci .u64) w_0.List, vi w_0.At]] (.tup [vu r.1, .agg [vl (ci .u64) r.2.1.List, vi r.2.1.At], vi r.2.2]) := by
 refine bd 35 Tryz.func68 ?_
 obtain ⟨r2, h1, hm⟩ := bnd hm
 refine W ?_
 refine cq (aK1 h1) ?_
 refine W ?_
 refine cm hm (fun hm => ?_) fun hm => ?_
 · exact E
 refine W ?_
 refine lp (fun m s => ∃ w_1 t3 aGb, s = ⟨35, (aF (aF (aF fa 1 (.adr 1 0)) 3 (.adr 2 0)) 5 (vi aGb)), ⟨(upd (upd aX 1 (.cells 1 [vl (ci .u64) w_1.List, vi w_1.At] 0)) 2 (.cells 1 [vl (ci .u64) t3.List, vi t3.At] 0)), 64⟩⟩ ∧ qY m w_1 t3 aGb = some r) ?_ ?_
 ·
  refine ⟨_, ?_, w_0, (bD.mk [] 0), w_0.At, rfl, hm⟩
  refine St.Le.trans (iJ 2 (ys := [.sl (((bD.mk [] 0).List).flatMap (ci .u64)) ((bD.mk [] 0).List).length false, .v (.int .i64 ((bD.mk [] 0).At))]) Z3 (.cons (.nil false) (.cons (.data _ (.v _)) .nil))) ?_
  exact cn (fun j => bif j == 1 then 0 else bif j == 2 then 2 else 0)
 rintro n1 s ⟨w_1, t3, aGb, rfl, hm⟩
 refine W ?_
 refine cm hm (fun hm => ?_) fun hm => ?_
 ·
  obtain ⟨x4, h3, hm⟩ := bnd hm
  refine W ?_
  refine cm hm (fun hm => ?_) fun hm => ?_
  ·
   refine W ?_
   refine pu rfl (by simp only [go_sem, Nat.reduceBEq]; exact (by kernel_rfl : cN Tryz.prog 35 [(0, .sl (w_1.List.flatMap (ci .u64)) w_1.List.length false), (1, .v (.int .i64 (IntKind.i64.wrap (aGb + 1))))] = some (.agg [.sl (w_1.List.flatMap (ci .u64)) w_1.List.length false, .v (.int .i64 (IntKind.i64.wrap (aGb + 1)))]))) ?_
   exact E
  refine W ?_
  exact Lr (fun j => bif j == 1 then 1 else bif j == 2 then 2 else 0)
 exact E
def oE (rec1 : bD → bD → List bT → bD → Int → Int → Option ((List bT) × bD × Int)) (w_2 : bD) (t5 : bD) (tT : List bT) (aG7 : bD) (t31 : Int) (t32 : Int) : Option ((List bT) × bD × Int) :=
 (bif (decide (t32 < t31)) then
  ((uI aG7).bind fun ⟨r6, r7, r8⟩ =>
  (bif (r8 != 0) then
   some ([], w_2, r8)
  else
   ((uI r7).bind fun ⟨r10, r11, r12⟩ =>
   (bif (r12 != 0) then
    some ([], w_2, r12)
   else
    ((idx tT t32).bind fun x14 =>
    ((stt tT t32 (bT.mk r6 r10)).bind fun l16 =>
    rec1 w_2 t5 l16 r11 t31 (IntKind.i64.wrap (t32 + 1))))))))
 else
  some (tT, aG7, 0))
def lE : Nat → bD → bD → List bT → bD → Int → Int → Option ((List bT) × bD × Int)
 | 0 => fun _ _ _ _ _ _ => none
 | n + 1 => oE (lE n)
def rE (w_0 : bD) (n_1 : Int) : Option ((List bT) × bD × Int) :=
 ((qL w_0).bind fun r2 =>
 (bif (((!r2) || (decide (n_1 < 0))) || (decide (128 < n_1))) then
  some ([], w_0, 1)
 else
  ((mkc n_1 n_1 (bT.mk 0 0)).bind fun l4 =>
  lE bF w_0 (bD.mk [] 0) l4 w_0 (l4.length : Int) 0)))
theorem aR8 {w_0 : bD} {n_1 : Int} {r : (List bT) × bD × Int} (hm : rE w_0 n_1 = some r) : aZ Tryz.prog 35 [.agg [vl (ci .u64) w_0.List, vi w_0.At], vi n_1] (.tup [vl bI r.1, .agg [vl (ci .u64) r.2.1.List, vi r.2.1.At], vi r.2.2]) := by
 refine bd 65 Tryz.func35 ?_
 obtain ⟨r2, h1, hm⟩ := bnd hm
 refine W ?_
 refine cq (aK1 h1) ?_
 refine W ?_
 refine cm hm (fun hm => ?_) fun hm => ?_
 · exact E
 obtain ⟨l4, h3, hm⟩ := bnd hm
 refine W ?_
 refine aK nG h3 ?_
 refine W ?_
 refine lp (fun m s => ∃ w_2 t5 tT aG7 t31 t32, s = ⟨65, (aF (aF (aF (aF (aF (aF fa 2 (.adr 1 0)) 5 (.adr 2 0)) 7 (.own 3 0 tT.length)) 8 (.adr 4 0)) 31 (vi t31)) 32 (vi t32)), ⟨(upd (upd (upd (upd aX 1 (.cells 1 [vl (ci .u64) w_2.List, vi w_2.At] 0)) 2 (.cells 1 [vl (ci .u64) t5.List, vi t5.At] 0)) 3 (.cells 2 (tT.flatMap bI) 0)) 4 (.cells 1 [vl (ci .u64) aG7.List, vi aG7.At] 0)), 64⟩⟩ ∧ lE m w_2 t5 tT aG7 t31 t32 = some r) ?_ ?_
 ·
  refine ⟨_, ?_, w_0, (bD.mk [] 0), l4, w_0, (l4.length : Int), 0, rfl, hm⟩
  refine St.Le.trans (iJ 2 (ys := [.sl (((bD.mk [] 0).List).flatMap (ci .u64)) ((bD.mk [] 0).List).length false, .v (.int .i64 ((bD.mk [] 0).At))]) Z3 (.cons (.nil false) (.cons (.data _ (.v _)) .nil))) ?_
  exact cn (fun j => bif j == 1 then 0 else bif j == 2 then 2 else bif j == 3 then 129 else bif j == 4 then 193 else 0)
 rintro n1 s ⟨w_2, t5, tT, aG7, t31, t32, rfl, hm⟩
 refine W ?_
 refine cm hm (fun hm => ?_) fun hm => ?_
 ·
  refine W ?_
  obtain ⟨⟨r6, r7, r8⟩, h5, hm⟩ := bnd hm
  refine cq (aK8 h5) ?_
  refine W ?_
  refine cm hm (fun hm => ?_) fun hm => ?_
  · exact E
  refine W ?_
  obtain ⟨⟨r10, r11, r12⟩, h9, hm⟩ := bnd hm
  refine cq (aK8 h9) ?_
  refine W ?_
  refine cm hm (fun hm => ?_) fun hm => ?_
  · exact E
  refine W ?_
  refine pu rfl (by simp only [go_sem, Nat.reduceBEq]; exact (by kernel_rfl : cN Tryz.prog 120 [(0, .v (.int .u64 r6)), (1, .v (.int .u64 r10))] = some (.agg [.v (.int .u64 r6), .v (.int .u64 r10)]))) ?_
  obtain ⟨x14, h13, hm⟩ := bnd hm
  obtain ⟨l16, h15, hm⟩ := bnd hm
  refine W ?_
  have qh15 := jU h15
  refine aS h15 ?_
  refine W ?_
  exact Lr (fun j => bif j == 1 then 1 else bif j == 2 then 2 else bif j == 3 then 3 else bif j == 4 then 4 else 0)
 exact E
def mX (n_0 : Int) : Option (Bool) :=
 some ((decide (1 ≤ n_0)) && (decide (n_0 ≤ 1024)))
theorem aH2 {n_0 : Int} {r : Bool} (hm : mX n_0 = some r) : aZ Tryz.prog 70 [vi n_0] (vb r) := by
 refine bd 9 Tryz.func70 ?_
 exact E
def aG5 (n_0 : Int) : Option ((List aM) × Int) :=
 ((mX n_0).bind fun r2 =>
 (bif (!r2) then
  some ([], 1)
 else
  ((mkc n_0 n_0 (aM.mk false 0)).bind fun l4 =>
  some (l4, 0))))
theorem aVs {n_0 : Int} {r : (List aM) × Int} (hm : aG5 n_0 = some r) : aZ Tryz.prog 37 [vi n_0] (.tup [vl aW r.1, vi r.2]) := by
 refine bd 9 Tryz.func37 ?_
 obtain ⟨r2, h1, hm⟩ := bnd hm
 refine W ?_
 refine cq (aH2 h1) ?_
 refine W ?_
 refine cm hm (fun hm => ?_) fun hm => ?_
 · exact E
 obtain ⟨l4, h3, hm⟩ := bnd hm
 refine W ?_
 refine aK dP h3 ?_
 exact E
def jQ (c_0 : aO) (w_1 : bD) : Option (aE × bD × Int) :=
 (bif ((((((decide (c_0.N < 1)) || (decide (1024 < c_0.N))) || (decide (c_0.L < 1))) || (decide (16 < c_0.L))) || (decide (c_0.R < 1))) || (decide (8 < c_0.R))) then
  some ((aE.mk (aG.mk (aO.mk 0 0 0) [] []) []), w_1, 1)
 else
  ((rE w_1 (IntKind.i64.wrap (c_0.L * c_0.R))).bind fun ⟨r2, r3, r4⟩ =>
  (bif (r4 != 0) then
   some ((aE.mk (aG.mk (aO.mk 0 0 0) [] []) []), w_1, r4)
  else
   ((aBh c_0 r2).bind fun ⟨r6, r7⟩ =>
   (bif (r7 != 0) then
    some ((aE.mk (aG.mk (aO.mk 0 0 0) [] []) []), w_1, r7)
   else
    ((aG5 c_0.N).bind fun ⟨r9, r10⟩ =>
    (bif (r10 != 0) then
     some ((aE.mk (aG.mk (aO.mk 0 0 0) [] []) []), w_1, r10)
    else
     some ((aE.mk r6 r9), r3, 0))))))))
theorem aG9 {c_0 : aO} {w_1 : bD} {r : aE × bD × Int} (hm : jQ c_0 w_1 = some r) : aZ Tryz.prog 13 [.agg [vi c_0.N, vi c_0.L, vi c_0.R], .agg [vl (ci .u64) w_1.List, vi w_1.At]] (.tup [.agg [vi r.1.Graph.Config.N, vi r.1.Graph.Config.L, vi r.1.Graph.Config.R, vl bI r.1.Graph.Hashes, vl aT r.1.Graph.Edges, vl aW r.1.Slots], .agg [vl (ci .u64) r.2.1.List, vi r.2.1.At], vi r.2.2]) := by
 refine bd 84 Tryz.func13 ?_
 refine W ?_
 refine cm hm (fun hm => ?_) fun hm => ?_
 ·
  refine W ?_
  refine AWp.regV [(3, 1), (4, 2), (5, 3)] 64 mix (by kernel_rfl) (by kernel_rfl) (IV.cons (off := 0) Z1 (IV.cons (off := 0) Z1 (IV.cons (off := 0) Z1 IV.nil))) (N' := 192) rfl ?_
  refine pu rfl (by simp only [go_sem, Nat.reduceBEq]; exact (by kernel_rfl : cN Tryz.prog 33 [] = some (.agg [.v (.int .i64 0), .v (.int .i64 0), .v (.int .i64 0), .v (.slice none 0 0), .v (.slice none 0 0), .v (.slice none 0 0)]))) ?_
  exact E
 refine W ?_
 obtain ⟨⟨r2, r3, r4⟩, h1, hm⟩ := bnd hm
 refine cq (aR8 h1) ?_
 refine W ?_
 refine cm hm (fun hm => ?_) fun hm => ?_
 ·
  refine W ?_
  refine AWp.regV [(3, 1), (4, 2), (5, 3)] 64 mix (by kernel_rfl) (by kernel_rfl) (IV.cons (off := 0) Z1 (IV.cons (off := 0) Z1 (IV.cons (off := 0) Z1 IV.nil))) (N' := 320) rfl ?_
  refine pu rfl (by simp only [go_sem, Nat.reduceBEq]; exact (by kernel_rfl : cN Tryz.prog 33 [] = some (.agg [.v (.int .i64 0), .v (.int .i64 0), .v (.int .i64 0), .v (.slice none 0 0), .v (.slice none 0 0), .v (.slice none 0 0)]))) ?_
  exact E
 refine W ?_
 obtain ⟨⟨r6, r7⟩, h5, hm⟩ := bnd hm
 refine cq (aUz h5) ?_
 refine W ?_
 refine cm hm (fun hm => ?_) fun hm => ?_
 ·
  refine W ?_
  refine AWp.regV [(3, 1), (4, 2), (5, 3)] 64 mix (by kernel_rfl) (by kernel_rfl) (IV.cons (off := 0) Z1 (IV.cons (off := 0) Z1 (IV.cons (off := 0) Z1 IV.nil))) (N' := 448) rfl ?_
  refine pu rfl (by simp only [go_sem, Nat.reduceBEq]; exact (by kernel_rfl : cN Tryz.prog 33 [] = some (.agg [.v (.int .i64 0), .v (.int .i64 0), .v (.int .i64 0), .v (.slice none 0 0), .v (.slice none 0 0), .v (.slice none 0 0)]))) ?_
  exact E
 refine W ?_
 obtain ⟨⟨r9, r10⟩, h8, hm⟩ := bnd hm
 refine cq (aVs h8) ?_
 refine W ?_
 refine cm hm (fun hm => ?_) fun hm => ?_
 ·
  refine W ?_
  refine AWp.regV [(3, 1), (4, 2), (5, 3)] 64 mix (by kernel_rfl) (by kernel_rfl) (IV.cons (off := 0) Z1 (IV.cons (off := 0) Z1 (IV.cons (off := 0) Z1 IV.nil))) (N' := 576) rfl ?_
  refine pu rfl (by simp only [go_sem, Nat.reduceBEq]; exact (by kernel_rfl : cN Tryz.prog 33 [] = some (.agg [.v (.int .i64 0), .v (.int .i64 0), .v (.int .i64 0), .v (.slice none 0 0), .v (.slice none 0 0), .v (.slice none 0 0)]))) ?_
  exact E
 refine W ?_
 refine AWp.regV [(4, 2), (5, 3), (8, 139), (10, 262)] 64 mix (by kernel_rfl) (by kernel_rfl) (IV.cons (off := 0) Z1 (IV.cons (off := 0) Z1 (IV.cons (off := 0) Z1 (IV.cons (off := 0) Z1 IV.nil)))) (N' := 576) rfl ?_
 refine W ?_
 refine pu rfl (by simp only [go_sem, Nat.reduceBEq]; exact (by kernel_rfl : cN Tryz.prog 33 [(0, .agg [.v (.int .i64 r6.Config.N), .v (.int .i64 r6.Config.L), .v (.int .i64 r6.Config.R), .sl (r6.Hashes.flatMap bI) r6.Hashes.length false, .sl (r6.Edges.flatMap aT) r6.Edges.length false]), (1, .sl (r9.flatMap aW) r9.length false)] = some (.agg [.v (.int .i64 r6.Config.N), .v (.int .i64 r6.Config.L), .v (.int .i64 r6.Config.R), .sl (r6.Hashes.flatMap bI) r6.Hashes.length false, .sl (r6.Edges.flatMap aT) r6.Edges.length false, .sl (r9.flatMap aW) r9.length false]))) ?_
 exact E
def gJ (s_0 : aB) : Option (Int) :=
 (bif (!s_0.nn) then
  some 0
 else
  ((chk s_0.nn).bind fun _ =>
  some s_0.size))
theorem kJ {s_0 : aB} {r : Int} (hm : gJ s_0 = some r) : aZ Tryz.prog 128 [aB.av s_0] (vi r) := by
 refine bd 9 Tryz.func128 ?_
 refine W ?_
 refine pu rfl (bEi Tryz.underlying128 Z1 (aB.isn s_0) Z1) ?_
 refine W ?_
 refine cm hm (fun hm => ?_) fun hm => ?_
 · exact E
 obtain ⟨_, h1, hm⟩ := bnd hm
 exact E
def aB0 (rec1 : aB → Int → bL → Option (bL × Bool)) (s_0 : aB) (i_1 : Int) (t4 : bL) : Option (bL × Bool) :=
 ((chk s_0.nn).bind fun _ =>
 ((gJ s_0.ahead).bind fun r5 =>
 (bif (decide (i_1 < r5)) then
  ((chk s_0.nn).bind fun _ =>
  rec1 s_0.ahead i_1 t4)
 else
  (bif (decide (r5 < i_1)) then
   ((chk s_0.nn).bind fun _ =>
   rec1 s_0.behind (IntKind.i64.wrap (i_1 - (IntKind.i64.wrap (r5 + 1)))) t4)
  else
   ((chk s_0.nn).bind fun _ =>
   some (s_0.thing, true))))))
def rL : Nat → aB → Int → bL → Option (bL × Bool)
 | 0 => fun _ _ _ => none
 | n + 1 => aB0 (rL n)
def mM (s_0 : aB) (i_1 : Int) : Option (bL × Bool) :=
 ((fC ((decide (i_1 < 0)) == false) 0 (gJ s_0)).bind fun r2 =>
 (bif ((decide (i_1 < 0)) || (decide (r2 ≤ i_1))) then
  some ((bL.mk 0 0), false)
 else
  rL bF s_0 i_1 (bL.mk 0 0)))
theorem yM {s_0 : aB} {i_1 : Int} {r : bL × Bool} (hm : mM s_0 i_1 = some r) : aZ Tryz.prog 97 [aB.av s_0, vi i_1] (.tup [.agg [vu r.1.Key, vi r.1.N], vb r.2]) := by
 refine bd 46 Tryz.func97 ?_
 obtain ⟨r2, h1, hm⟩ := bnd hm
 refine W ?_
 refine cg (fun hb => kJ (cM h1 hb)) ?_
 refine W ?_
 refine cm hm (fun hm => ?_) fun hm => ?_
 · exact E
 refine W ?_
 refine lp (fun m s => ∃ s_0 i_1 t4, s = ⟨46, (aF (aF (aF fa 0 (aB.av s_0)) 1 (vi i_1)) 4 (.adr 1 0)), ⟨(upd aX 1 (.cells 1 [vu t4.Key, vi t4.N] 0)), 64⟩⟩ ∧ rL m s_0 i_1 t4 = some r) (Lr (fun j => bif j == 1 then 0 else 0)) ?_
 rintro n1 s ⟨s_0, i_1, t4, rfl, hm⟩
 obtain ⟨_, h3, hm⟩ := bnd hm
 obtain ⟨r5, h4, hm⟩ := bnd hm
 refine W ?_
 refine cq (kJ h4) ?_
 refine W ?_
 refine cm hm (fun hm => ?_) fun hm => ?_
 ·
  obtain ⟨_, h6, hm⟩ := bnd hm
  refine W ?_
  exact Lr (fun j => bif j == 1 then 1 else 0)
 refine W ?_
 refine cm hm (fun hm => ?_) fun hm => ?_
 ·
  obtain ⟨_, h7, hm⟩ := bnd hm
  refine W ?_
  exact Lr (fun j => bif j == 1 then 1 else 0)
 obtain ⟨_, h8, hm⟩ := bnd hm
 exact E
def qR (i_0 : Int) (t1 : bS) (t2 : Int) : Option (Bool) :=
 ((mM t1.s i_0).bind fun ⟨r2, r3⟩ =>
 some (decide (t2 ≤ r2.Key)))
theorem aRu {i_0 : Int} {t1 : bS} {t2 : Int} {r : Bool} (hm : qR i_0 t1 t2 = some r) : aZ Tryz.prog 130 [vi i_0, .ptr [aB.av t1.s], .ptr [vu t2]] (vb r) := by
 refine bd 18 Tryz.func130 ?_
 refine W ?_
 obtain ⟨⟨r2, r3⟩, h1, hm⟩ := bnd hm
 refine cq (yM h1) ?_
 exact E
def zP (f_1 : (Int → Option (Bool))) (rec1 : Int → Int → Option (Int)) (i_5 : Int) (j_6 : Int) : Option (Int) :=
 (bif (decide (i_5 < j_6)) then
  ((f_1 (IntKind.i64.wrap (shr .u64 (IntKind.u64.wrap (IntKind.i64.wrap (i_5 + j_6))) 1))).bind fun r2 =>
  (bif (!r2) then
   rec1 (IntKind.i64.wrap ((IntKind.i64.wrap (shr .u64 (IntKind.u64.wrap (IntKind.i64.wrap (i_5 + j_6))) 1)) + 1)) j_6
  else
   rec1 i_5 (IntKind.i64.wrap (shr .u64 (IntKind.u64.wrap (IntKind.i64.wrap (i_5 + j_6))) 1))))
 else
  some i_5)
def oB (f_1 : (Int → Option (Bool))) : Nat → Int → Int → Option (Int)
 | 0 => fun _ _ => none
 | n + 1 => zP f_1 (oB f_1 n)
def aBu (n_0 : Int) (f_1 : (Int → Option (Bool))) : Option (Int) :=
 oB f_1 bF 0 n_0
theorem aRp {n_0 : Int} {f_1 : (Int → Option (Bool))} {r : Int} (hm : aBu n_0 f_1 = some r) {aGr : FuncId} {vO : List AV} (aLt : ∀ a, a ∈ vO → AM.Data a) (aY1 : (Program.funcs Tryz.prog)[aGr]?.any (fun fn => fn.body.isSome && fn.name != "runtime.NumGoroutine") = true) (aV6 : ∀ {x0 r}, f_1 x0 = some r → aZ Tryz.prog aGr ([vi x0] ++ vO) (vb r)) : aZ Tryz.prog 129 [vi n_0, .clo (.func aGr) [] vO] (vi r) := by
 refine bd 26 Tryz.func129 ?_
 refine W ?_
 refine lp (fun m s => ∃ i_5 j_6, s = ⟨26, (aF (aF (aF fa 1 (.clo (.func aGr) [] vO)) 5 (vi i_5)) 6 (vi j_6)), ⟨aX, 64⟩⟩ ∧ oB f_1 m i_5 j_6 = some r) L ?_
 rintro n1 s ⟨i_5, j_6, rfl, hm⟩
 refine W ?_
 refine cm hm (fun hm => ?_) fun hm => ?_
 ·
  obtain ⟨r2, h1, hm⟩ := bnd hm
  refine W ?_
  refine aU.callQC (r := .v (.bool r2)) Zd Z1 aLt aY1 (fun H => (cV .nil)) (aV6 h1) ?_
  refine W ?_
  refine cm hm (fun hm => ?_) fun hm => ?_
  · exact L
  exact L
 exact E
def xM (d_0 : bS) (eQ : Int) : Option (Int) :=
 ((gJ d_0.s).bind fun r2 =>
 ((aBu r2 (fun x0 => qR x0 d_0 eQ)).bind fun r4 =>
 some r4))
theorem aLu {d_0 : bS} {eQ : Int} {r : Int} (hm : xM d_0 eQ = some r) : aZ Tryz.prog 98 [.agg [aB.av d_0.s], vu eQ] (vi r) := by
 refine bd 10 Tryz.func98 ?_
 refine S1 ?_
 refine aU.pop Zd (zI Z1 (.agg _ (zB.dat d_0))) (aSa (ys := [aB.av d_0.s]) Z1 (fun H => (.cons (.data _ (aB.data d_0.s)) .nil))) rfl ?_
 refine aU.pop Zd (zI Z1 (.v _)) (aSa (ys := [.v (.int .u64 eQ)]) Z1 (fun H => (.cons (.data _ (.v _)) .nil))) rfl ?_
 obtain ⟨r2, h1, hm⟩ := bnd hm
 refine W ?_
 refine cq (kJ h1) ?_
 obtain ⟨r4, h3, hm⟩ := bnd hm
 refine W ?_
 refine aU.callQ (r := .v (.int .i64 r4)) Zd Z1 bQa (fun H => (cV (.cons (td Z1 (bGm (lV (.ptr _ (zB.dat d_0)) (lV (.ptr _ ((CFi .u64).dat eQ)) aCz)))) .nil))) (aRp h3 (lV (.ptr _ (zB.dat d_0)) (lV (.ptr _ ((CFi .u64).dat eQ)) aCz)) bSr (fun h => aRu h)) ?_
 exact E
def sH (d_0 : bS) (eQ : Int) : Option (Int × Bool) :=
 ((xM d_0 eQ).bind fun r2 =>
 ((mM d_0.s r2).bind fun ⟨r4, r5⟩ =>
 (bif ((!r5) || (r4.Key != eQ)) then
  some (0, false)
 else
  some (r4.N, true))))
theorem aDz {d_0 : bS} {eQ : Int} {r : Int × Bool} (hm : sH d_0 eQ = some r) : aZ Tryz.prog 72 [.agg [aB.av d_0.s], vu eQ] (.tup [vi r.1, vb r.2]) := by
 refine bd 27 Tryz.func72 ?_
 obtain ⟨r2, h1, hm⟩ := bnd hm
 refine W ?_
 refine cq (aLu h1) ?_
 obtain ⟨⟨r4, r5⟩, h3, hm⟩ := bnd hm
 refine cq (yM h3) ?_
 refine W ?_
 refine cm hm (fun hm => ?_) fun hm => ?_
 · exact E
 exact E
def cI (s_0 : aB) : Option (Int) :=
 (bif (!s_0.nn) then
  some 0
 else
  ((chk s_0.nn).bind fun _ =>
  some s_0.height))
theorem dB {s_0 : aB} {r : Int} (hm : cI s_0 = some r) : aZ Tryz.prog 173 [aB.av s_0] (vi r) := by
 refine bd 9 Tryz.func173 ?_
 refine W ?_
 refine pu rfl (bEi Tryz.underlying128 Z1 (aB.isn s_0) Z1) ?_
 refine W ?_
 refine cm hm (fun hm => ?_) fun hm => ?_
 · exact E
 obtain ⟨_, h1, hm⟩ := bnd hm
 exact E
def dG (bP : aB) (cZ : bL) (bG : aB) : Option (aB) :=
 ((cI bP).bind fun r2 =>
 ((cI bG).bind fun r4 =>
 ((gJ bP).bind fun r6 =>
 ((gJ bG).bind fun r8 =>
 some (aB.mk bP bG cZ (IntKind.i64.wrap ((if r2 < r4 then r4 else r2) + 1)) (IntKind.i64.wrap ((IntKind.i64.wrap (r6 + 1)) + r8)))))))
theorem eF {bP : aB} {cZ : bL} {bG : aB} {r : aB} (hm : dG bP cZ bG = some r) : aZ Tryz.prog 144 [aB.av bP, .agg [vu cZ.Key, vi cZ.N], aB.av bG] (aB.av r) := by
 refine bd 24 Tryz.func144 ?_
 obtain ⟨r2, h1, hm⟩ := bnd hm
 refine W ?_
 refine cq (dB h1) ?_
 obtain ⟨r4, h3, hm⟩ := bnd hm
 refine W ?_
 refine cq (dB h3) ?_
 obtain ⟨r6, h5, hm⟩ := bnd hm
 refine W ?_
 refine cq (kJ h5) ?_
 obtain ⟨r8, h7, hm⟩ := bnd hm
 refine W ?_
 refine cq (kJ h7) ?_
 refine W ?_
 refine pu rfl (by simp only [go_sem, Nat.reduceBEq]; exact bFp (aB.cells _) (aB.cells _)) ?_
 refine aU.pop Zd (zI Z1 (.agg _ (lV (aB.data bP) (lV (aB.data bG) (lV (.v _) (lV (.v _) (lV (.v _) (lV (.v _) aCz)))))))) (aSa (ys := [aB.av ((aB.mk bP bG cZ (IntKind.i64.wrap ((if r2 < r4 then r4 else r2) + 1)) (IntKind.i64.wrap ((IntKind.i64.wrap (r6 + 1)) + r8))).ahead), aB.av ((aB.mk bP bG cZ (IntKind.i64.wrap ((if r2 < r4 then r4 else r2) + 1)) (IntKind.i64.wrap ((IntKind.i64.wrap (r6 + 1)) + r8))).behind), .v (.int .u64 (((aB.mk bP bG cZ (IntKind.i64.wrap ((if r2 < r4 then r4 else r2) + 1)) (IntKind.i64.wrap ((IntKind.i64.wrap (r6 + 1)) + r8))).thing).Key)), .v (.int .i64 (((aB.mk bP bG cZ (IntKind.i64.wrap ((if r2 < r4 then r4 else r2) + 1)) (IntKind.i64.wrap ((IntKind.i64.wrap (r6 + 1)) + r8))).thing).N)), .v (.int .i64 ((aB.mk bP bG cZ (IntKind.i64.wrap ((if r2 < r4 then r4 else r2) + 1)) (IntKind.i64.wrap ((IntKind.i64.wrap (r6 + 1)) + r8))).height)), .v (.int .i64 ((aB.mk bP bG cZ (IntKind.i64.wrap ((if r2 < r4 then r4 else r2) + 1)) (IntKind.i64.wrap ((IntKind.i64.wrap (r6 + 1)) + r8))).size))]) Z1 (fun H => (.cons (.data _ (aB.data bP)) (.cons (.data _ (aB.data bG)) (.cons (.data _ (.v _)) (.cons (.data _ (.v _)) (.cons (.data _ (.v _)) (.cons (.data _ (.v _)) .nil)))))))) rfl ?_
 exact E
def kT (bP : aB) (cZ : bL) (bG : aB) : Option (aB) :=
 ((cI bP).bind fun r2 =>
 ((cI bG).bind fun r4 =>
 (bif (decide ((IntKind.i64.wrap (r4 + 1)) < r2)) then
  ((chk bP.nn).bind fun _ =>
  ((cI bP.ahead).bind fun r7 =>
  ((chk bP.nn).bind fun _ =>
  ((cI bP.behind).bind fun r10 =>
  (bif (decide (r10 ≤ r7)) then
   ((chk bP.nn).bind fun _ =>
   ((chk bP.nn).bind fun _ =>
   ((chk bP.nn).bind fun _ =>
   ((dG bP.behind cZ bG).bind fun r15 =>
   ((dG bP.ahead bP.thing r15).bind fun r17 =>
   some r17)))))
  else
   ((chk bP.nn).bind fun _ =>
   ((chk bP.nn).bind fun _ =>
   ((chk bP.nn).bind fun _ =>
   ((chk bP.behind.nn).bind fun _ =>
   ((dG bP.ahead bP.thing bP.behind.ahead).bind fun r23 =>
   ((chk bP.behind.nn).bind fun _ =>
   ((chk bP.behind.nn).bind fun _ =>
   ((dG bP.behind.behind cZ bG).bind fun r27 =>
   ((dG r23 bP.behind.thing r27).bind fun r29 =>
   some r29))))))))))))))
 else
  ((cI bG).bind fun r31 =>
  ((cI bP).bind fun r33 =>
  (bif (decide ((IntKind.i64.wrap (r33 + 1)) < r31)) then
   ((chk bG.nn).bind fun _ =>
   ((cI bG.behind).bind fun r36 =>
   ((chk bG.nn).bind fun _ =>
   ((cI bG.ahead).bind fun r39 =>
   (bif (decide (r39 ≤ r36)) then
    ((chk bG.nn).bind fun _ =>
    ((dG bP cZ bG.ahead).bind fun r42 =>
    ((chk bG.nn).bind fun _ =>
    ((chk bG.nn).bind fun _ =>
    ((dG r42 bG.thing bG.behind).bind fun r46 =>
    some r46)))))
   else
    ((chk bG.nn).bind fun _ =>
    ((chk bG.ahead.nn).bind fun _ =>
    ((dG bP cZ bG.ahead.ahead).bind fun r50 =>
    ((chk bG.ahead.nn).bind fun _ =>
    ((chk bG.ahead.nn).bind fun _ =>
    ((chk bG.nn).bind fun _ =>
    ((chk bG.nn).bind fun _ =>
    ((dG bG.ahead.behind bG.thing bG.behind).bind fun r56 =>
    ((dG r50 bG.ahead.thing r56).bind fun r58 =>
    some r58))))))))))))))
  else
   ((dG bP cZ bG).bind fun r60 =>
   some r60)))))))
theorem aC2 {bP : aB} {cZ : bL} {bG : aB} {r : aB} (hm : kT bP cZ bG = some r) : aZ Tryz.prog 174 [aB.av bP, .agg [vu cZ.Key, vi cZ.N], aB.av bG] (aB.av r) := by
 refine bd 139 Tryz.func174 ?_
 obtain ⟨r2, h1, hm⟩ := bnd hm
 refine W ?_
 refine cq (dB h1) ?_
 obtain ⟨r4, h3, hm⟩ := bnd hm
 refine W ?_
 refine cq (dB h3) ?_
 refine W ?_
 refine cm hm (fun hm => ?_) fun hm => ?_
 ·
  obtain ⟨_, h5, hm⟩ := bnd hm
  obtain ⟨r7, h6, hm⟩ := bnd hm
  refine W ?_
  refine cq (dB h6) ?_
  obtain ⟨_, h8, hm⟩ := bnd hm
  obtain ⟨r10, h9, hm⟩ := bnd hm
  refine W ?_
  refine cq (dB h9) ?_
  refine W ?_
  refine cm hm (fun hm => ?_) fun hm => ?_
  ·
   obtain ⟨_, h11, hm⟩ := bnd hm
   obtain ⟨_, h12, hm⟩ := bnd hm
   obtain ⟨_, h13, hm⟩ := bnd hm
   obtain ⟨r15, h14, hm⟩ := bnd hm
   refine W ?_
   refine cq (eF h14) ?_
   obtain ⟨r17, h16, hm⟩ := bnd hm
   refine cq (eF h16) ?_
   exact E
  obtain ⟨_, h18, hm⟩ := bnd hm
  obtain ⟨_, h19, hm⟩ := bnd hm
  obtain ⟨_, h20, hm⟩ := bnd hm
  obtain ⟨_, h21, hm⟩ := bnd hm
  obtain ⟨r23, h22, hm⟩ := bnd hm
  refine W ?_
  refine cq (eF h22) ?_
  obtain ⟨_, h24, hm⟩ := bnd hm
  obtain ⟨_, h25, hm⟩ := bnd hm
  obtain ⟨r27, h26, hm⟩ := bnd hm
  refine W ?_
  refine cq (eF h26) ?_
  obtain ⟨r29, h28, hm⟩ := bnd hm
  refine cq (eF h28) ?_
  exact E
 have hm := sb hm h3
 refine W ?_
 refine cq (dB h3) ?_
 have hm := sb hm h1
 refine W ?_
 refine cq (dB h1) ?_
 refine W ?_
 refine cm hm (fun hm => ?_) fun hm => ?_
 ·
  obtain ⟨_, h34, hm⟩ := bnd hm
  obtain ⟨r36, h35, hm⟩ := bnd hm
  refine W ?_
  refine cq (dB h35) ?_
  obtain ⟨_, h37, hm⟩ := bnd hm
  obtain ⟨r39, h38, hm⟩ := bnd hm
  refine W ?_
  refine cq (dB h38) ?_
  refine W ?_
  refine cm hm (fun hm => ?_) fun hm => ?_
  ·
   obtain ⟨_, h40, hm⟩ := bnd hm
   obtain ⟨r42, h41, hm⟩ := bnd hm
   refine W ?_
   refine cq (eF h41) ?_
   obtain ⟨_, h43, hm⟩ := bnd hm
   obtain ⟨_, h44, hm⟩ := bnd hm
   obtain ⟨r46, h45, hm⟩ := bnd hm
   refine W ?_
   refine cq (eF h45) ?_
   exact E
  obtain ⟨_, h47, hm⟩ := bnd hm
  obtain ⟨_, h48, hm⟩ := bnd hm
  obtain ⟨r50, h49, hm⟩ := bnd hm
  refine W ?_
  refine cq (eF h49) ?_
  obtain ⟨_, h51, hm⟩ := bnd hm
  obtain ⟨_, h52, hm⟩ := bnd hm
  obtain ⟨_, h53, hm⟩ := bnd hm
  obtain ⟨_, h54, hm⟩ := bnd hm
  obtain ⟨r56, h55, hm⟩ := bnd hm
  refine W ?_
  refine cq (eF h55) ?_
  obtain ⟨r58, h57, hm⟩ := bnd hm
  refine cq (eF h57) ?_
  exact E
 obtain ⟨r60, h59, hm⟩ := bnd hm
 refine W ?_
 refine cq (eF h59) ?_
 exact E
def kW (recf : aB → bL → aB → Option (aB)) (bP : aB) (cZ : bL) (bG : aB) : Option (aB) :=
 ((cI bP).bind fun r2 =>
 ((cI bG).bind fun r4 =>
 (bif (decide ((IntKind.i64.wrap (r4 + 1)) < r2)) then
  ((chk bP.nn).bind fun _ =>
  ((chk bP.nn).bind fun _ =>
  ((chk bP.nn).bind fun _ =>
  ((recf bP.behind cZ bG).bind fun r9 =>
  ((kT bP.ahead bP.thing r9).bind fun r11 =>
  some r11)))))
 else
  ((cI bG).bind fun r13 =>
  ((cI bP).bind fun r15 =>
  (bif (decide ((IntKind.i64.wrap (r15 + 1)) < r13)) then
   ((chk bG.nn).bind fun _ =>
   ((recf bP cZ bG.ahead).bind fun r18 =>
   ((chk bG.nn).bind fun _ =>
   ((chk bG.nn).bind fun _ =>
   ((kT r18 bG.thing bG.behind).bind fun r22 =>
   some r22)))))
  else
   ((dG bP cZ bG).bind fun r24 =>
   some r24)))))))
def iT : Nat → aB → bL → aB → Option (aB)
 | 0 => fun _ _ _ => none
 | n + 1 => kW (iT n)
def lA (bP : aB) (cZ : bL) (bG : aB) : Option (aB) := iT bF bP cZ bG
theorem aIj : ∀ (nn : Nat) {bP : aB} {cZ : bL} {bG : aB} {r : aB} (hm : iT nn bP cZ bG = some r), aZ Tryz.prog 143 [aB.av bP, .agg [.v (.int .u64 cZ.Key), .v (.int .i64 cZ.N)], aB.av bG] (aB.av r) := by
 intro nn
 induction nn with
 | zero =>
  intro bP cZ bG r hm
  replace hm : none = some r := hm
  cases hm
 | succ nn ih =>
  intro bP cZ bG r hm
  replace hm : kW (iT nn) bP cZ bG = some r := hm
  refine aZ.of_body Tryz.func143 rfl ?_
  simp only [Tryz.ntmps143, List.length_cons, List.length_nil, Nat.reduceAdd, Nat.reduceSub, fE]
  unfold kW at hm
  refine sN 64 (hp (id := 0) rfl rfl (aP5 Z1 Z5) ?_)
  refine pA ?_
  refine fs (AWp.seq' (AWp.block (sN 128 (pA ?_))))
  obtain ⟨r2, h1, hm⟩ := bnd hm
  refine aU.callQ (r := .v (.int .i64 r2)) Zd Z1 aZd (fun H => (cD (aB.data _) .nil)) (dB h1) ?_
  refine pA ?_
  obtain ⟨r4, h3, hm⟩ := bnd hm
  refine aU.callQ (r := .v (.int .i64 r4)) Zd Z1 aZd (fun H => (cD (aB.data _) .nil)) (dB h3) ?_
  iterate 3 refine pA ?_
  refine fs (AWp.condM hm Z1 (fun _ hm => ?_) (fun _ hm => ?_))
  ·
   refine sd mix (by kernel_rfl) (N' := 192) rfl ?_
   refine pA ?_
   obtain ⟨_, h5, hm⟩ := bnd hm
   refine pu rfl (rC Z1 (aB.av_nn (oH h5))) ?_
   iterate 3 refine pA ?_
   obtain ⟨_, h6, hm⟩ := bnd hm
   refine pu rfl (rC Z1 (aB.av_nn (oH h6))) ?_
   iterate 3 refine pA ?_
   obtain ⟨_, h7, hm⟩ := bnd hm
   refine pu rfl (rC Z1 (aB.av_nn (oH h7))) ?_
   iterate 2 refine pA ?_
   refine pu rfl (sM Z1 Z3 Z2) ?_
   refine pA ?_
   obtain ⟨r9, h8, hm⟩ := bnd hm
   refine aU.callQ (r := aB.av r9) Zd Z1 aYv (fun H => (cD (aB.data _) (cD (.agg _ (eI.dat _)) (cD (aB.data _) .nil)))) (ih h8) ?_
   obtain ⟨r11, h10, hm⟩ := bnd hm
   refine aU.callQ (r := aB.av r11) Zd Z1 bM3 (fun H => (cD (aB.data _) (cD (.agg _ (eI.dat _)) (cD (aB.data _) .nil)))) (aC2 h10) ?_
   refine pA ?_
   refine fs (AWp.ret (aAb (jJ ?_)))
   cases hm
   exact aJ6 (.inr rfl) Tryz.results143 (td Z1 (aB.data _))
  ·
   refine sN 192 (pA ?_)
   obtain ⟨r13, h12, hm⟩ := bnd hm
   refine aU.callQ (r := .v (.int .i64 r13)) Zd Z1 aZd (fun H => (cD (aB.data _) .nil)) (dB h12) ?_
   refine pA ?_
   obtain ⟨r15, h14, hm⟩ := bnd hm
   refine aU.callQ (r := .v (.int .i64 r15)) Zd Z1 aZd (fun H => (cD (aB.data _) .nil)) (dB h14) ?_
   iterate 3 refine pA ?_
   refine fs (AWp.condM hm Z1 (fun _ hm => ?_) (fun _ hm => ?_))
   ·
    refine sd mix (by kernel_rfl) (N' := 256) rfl ?_
    refine pA ?_
    refine pu rfl (sM Z1 Z3 Z2) ?_
    refine pA ?_
    obtain ⟨_, h16, hm⟩ := bnd hm
    refine pu rfl (rC Z1 (aB.av_nn (oH h16))) ?_
    iterate 2 refine pA ?_
    obtain ⟨r18, h17, hm⟩ := bnd hm
    refine aU.callQ (r := aB.av r18) Zd Z1 aYv (fun H => (cD (aB.data _) (cD (.agg _ (eI.dat _)) (cD (aB.data _) .nil)))) (ih h17) ?_
    refine pA ?_
    obtain ⟨_, h19, hm⟩ := bnd hm
    refine pu rfl (rC Z1 (aB.av_nn (oH h19))) ?_
    iterate 3 refine pA ?_
    obtain ⟨_, h20, hm⟩ := bnd hm
    refine pu rfl (rC Z1 (aB.av_nn (oH h20))) ?_
    iterate 2 refine pA ?_
    obtain ⟨r22, h21, hm⟩ := bnd hm
    refine aU.callQ (r := aB.av r22) Zd Z1 bM3 (fun H => (cD (aB.data _) (cD (.agg _ (eI.dat _)) (cD (aB.data _) .nil)))) (aC2 h21) ?_
    refine pA ?_
    refine fs (AWp.ret (aAb (jJ ?_)))
    cases hm
    exact aJ6 (.inr rfl) Tryz.results143 (td Z1 (aB.data _))
   ·
    refine AWp.skip (kP (bX (sN 256 (pA ?_))))
    refine pu rfl (sM Z1 Z3 Z2) ?_
    refine pA ?_
    obtain ⟨r24, h23, hm⟩ := bnd hm
    refine aU.callQ (r := aB.av r24) Zd Z1 bM2 (fun H => (cD (aB.data _) (cD (.agg _ (eI.dat _)) (cD (aB.data _) .nil)))) (eF h23) ?_
    refine pA ?_
    refine fs (AWp.ret ?_)
    cases hm
    exact aJ6 (.inr rfl) Tryz.results143 (td Z1 (aB.data _))
theorem uQ {bP : aB} {cZ : bL} {bG : aB} {r : aB} (hm : lA bP cZ bG = some r) : aZ Tryz.prog 143 [aB.av bP, .agg [.v (.int .u64 cZ.Key), .v (.int .i64 cZ.N)], aB.av bG] (aB.av r) := aIj bF hm
def mA (recf : aB → Int → Option (aB × aB)) (s_0 : aB) (aEo : Int) : Option (aB × aB) :=
 (bif (decide (aEo ≤ 0)) then
  some (aB.nil, s_0)
 else
  ((gJ s_0).bind fun r2 =>
  (bif (decide (r2 ≤ aEo)) then
   some (s_0, aB.nil)
  else
   ((chk s_0.nn).bind fun _ =>
   ((gJ s_0.ahead).bind fun r5 =>
   (bif (decide (aEo ≤ r5)) then
    ((chk s_0.nn).bind fun _ =>
    ((recf s_0.ahead aEo).bind fun ⟨r8, r9⟩ =>
    ((chk s_0.nn).bind fun _ =>
    ((chk s_0.nn).bind fun _ =>
    ((lA r9 s_0.thing s_0.behind).bind fun r13 =>
    some (r8, r13))))))
   else
    ((chk s_0.nn).bind fun _ =>
    ((recf s_0.behind (IntKind.i64.wrap ((IntKind.i64.wrap (aEo - r5)) - 1))).bind fun ⟨r16, r17⟩ =>
    ((chk s_0.nn).bind fun _ =>
    ((chk s_0.nn).bind fun _ =>
    ((lA s_0.ahead s_0.thing r16).bind fun r21 =>
    some (r21, r17))))))))))))
def kE : Nat → aB → Int → Option (aB × aB)
 | 0 => fun _ _ => none
 | n + 1 => mA (kE n)
def lZ (s_0 : aB) (aEo : Int) : Option (aB × aB) := kE bF s_0 aEo
theorem aKs : ∀ (nn : Nat) {s_0 : aB} {aEo : Int} {r : aB × aB} (hm : kE nn s_0 aEo = some r), aZ Tryz.prog 125 [aB.av s_0, .v (.int .i64 aEo)] (.tup [aB.av r.1, aB.av r.2]) := by
 intro nn
 induction nn with
 | zero =>
  intro s_0 aEo r hm
  replace hm : none = some r := hm
  cases hm
 | succ nn ih =>
  intro s_0 aEo r hm
  replace hm : mA (kE nn) s_0 aEo = some r := hm
  refine aZ.of_body Tryz.func125 rfl ?_
  simp only [Tryz.ntmps125, List.length_cons, List.length_nil, Nat.reduceAdd, Nat.reduceSub, fE]
  unfold mA at hm
  refine sN 64 ?_
  iterate 2 refine pA ?_
  refine fs (AWp.seq' (sN 128 ?_))
  iterate 2 refine pA ?_
  refine fs (AWp.condM hm Z1 (fun _ hm => ?_) (fun _ hm => ?_))
  ·
   refine sN 192 ?_
   iterate 3 refine pA ?_
   refine fs (AWp.ret (jJ ?_))
   cases hm
   exact aK3 (.inr rfl) Tryz.results125 (td Z1 (aB.data _)) (td Z1 (aB.data _))
  ·
   refine AWp.skip (bX (AWp.seq' (sN 192 ?_)))
   iterate 2 refine pA ?_
   obtain ⟨r2, h1, hm⟩ := bnd hm
   refine aU.callQ (r := .v (.int .i64 r2)) Zd Z1 bLx (fun H => (cD (aB.data _) .nil)) (kJ h1) ?_
   refine pA ?_
   refine fs (AWp.condM hm Z1 (fun _ hm => ?_) (fun _ hm => ?_))
   ·
    refine sN 256 ?_
    iterate 3 refine pA ?_
    refine fs (AWp.ret (jJ ?_))
    cases hm
    exact aK3 (.inr rfl) Tryz.results125 (td Z1 (aB.data _)) (td Z1 (aB.data _))
   ·
    refine AWp.skip (bX (sN 256 (pA ?_)))
    obtain ⟨_, h3, hm⟩ := bnd hm
    refine pu rfl (rC Z1 (aB.av_nn (oH h3))) ?_
    iterate 2 refine pA ?_
    obtain ⟨r5, h4, hm⟩ := bnd hm
    refine aU.callQ (r := .v (.int .i64 r5)) Zd Z1 bLx (fun H => (cD (aB.data _) .nil)) (kJ h4) ?_
    refine pA ?_
    refine fs (AWp.seq' (sN 320 ?_))
    iterate 3 refine pA ?_
    refine fs (AWp.condM hm Z1 (fun _ hm => ?_) (fun _ hm => ?_))
    ·
     refine sN 384 (pA ?_)
     obtain ⟨_, h6, hm⟩ := bnd hm
     refine pu rfl (rC Z1 (aB.av_nn (oH h6))) ?_
     iterate 3 refine pA ?_
     obtain ⟨⟨r8, r9⟩, h7, hm⟩ := bnd hm
     refine aU.callQ (r := .tup [aB.av r8, aB.av r9]) Zd Z1 bLr (fun H => (cD (aB.data _) (cV .nil))) (ih h7) ?_
     iterate 5 refine pA ?_
     refine fs (sd mix (by kernel_rfl) (N' := 448) rfl ?_)
     iterate 3 refine pA ?_
     obtain ⟨_, h10, hm⟩ := bnd hm
     refine pu rfl (rC Z1 (aB.av_nn (oH h10))) ?_
     iterate 3 refine pA ?_
     obtain ⟨_, h11, hm⟩ := bnd hm
     refine pu rfl (rC Z1 (aB.av_nn (oH h11))) ?_
     iterate 2 refine pA ?_
     obtain ⟨r13, h12, hm⟩ := bnd hm
     refine aU.callQ (r := aB.av r13) Zd Z1 aYv (fun H => (cD (aB.data _) (cD (.agg _ (eI.dat _)) (cD (aB.data _) .nil)))) (uQ h12) ?_
     iterate 2 refine pA ?_
     refine fs (AWp.ret (jJ ?_))
     cases hm
     exact aK3 (.inr rfl) Tryz.results125 (td Z1 (aB.data _)) (td Z1 (aB.data _))
    ·
     refine AWp.skip (bX (sN 384 (pA ?_)))
     obtain ⟨_, h14, hm⟩ := bnd hm
     refine pu rfl (rC Z1 (aB.av_nn (oH h14))) ?_
     iterate 6 refine pA ?_
     obtain ⟨⟨r16, r17⟩, h15, hm⟩ := bnd hm
     refine aU.callQ (r := .tup [aB.av r16, aB.av r17]) Zd Z1 bLr (fun H => (cD (aB.data _) (cV .nil))) (ih h15) ?_
     iterate 5 refine pA ?_
     refine fs (sd mix (by kernel_rfl) (N' := 448) rfl ?_)
     refine pA ?_
     obtain ⟨_, h18, hm⟩ := bnd hm
     refine pu rfl (rC Z1 (aB.av_nn (oH h18))) ?_
     iterate 3 refine pA ?_
     obtain ⟨_, h19, hm⟩ := bnd hm
     refine pu rfl (rC Z1 (aB.av_nn (oH h19))) ?_
     iterate 3 refine pA ?_
     obtain ⟨r21, h20, hm⟩ := bnd hm
     refine aU.callQ (r := aB.av r21) Zd Z1 aYv (fun H => (cD (aB.data _) (cD (.agg _ (eI.dat _)) (cD (aB.data _) .nil)))) (uQ h20) ?_
     iterate 3 refine pA ?_
     refine fs (AWp.ret ?_)
     cases hm
     exact aK3 (.inr rfl) Tryz.results125 (td Z1 (aB.data _)) (td Z1 (aB.data _))
theorem xC {s_0 : aB} {aEo : Int} {r : aB × aB} (hm : lZ s_0 aEo = some r) : aZ Tryz.prog 125 [aB.av s_0, .v (.int .i64 aEo)] (.tup [aB.av r.1, aB.av r.2]) := aKs bF hm
def mL (recf : (List bL) → Option (aB)) (l_0 : List bL) : Option (aB) :=
 (bif ((l_0.length : Int) == 0) then
  some aB.nil
 else
  ((slc l_0 0 (IntKind.i64.wrap (Int.tdiv (l_0.length : Int) 2))).bind fun l2 =>
  ((recf l2).bind fun r4 =>
  ((idx l_0 (IntKind.i64.wrap (Int.tdiv (l_0.length : Int) 2))).bind fun x6 =>
  ((slc l_0 (IntKind.i64.wrap ((IntKind.i64.wrap (Int.tdiv (l_0.length : Int) 2)) + 1)) (l_0.length : Int)).bind fun l8 =>
  ((recf l8).bind fun r10 =>
  ((dG r4 x6 r10).bind fun r12 =>
  some r12)))))))
def qI : Nat → (List bL) → Option (aB)
 | 0 => fun _ => none
 | n + 1 => mL (qI n)
def yP (l_0 : List bL) : Option (aB) := qI bF l_0
theorem aQk : ∀ (nn : Nat) {l_0 : List bL} {r : aB} (hm : qI nn l_0 = some r), aZ Tryz.prog 127 [.sl (l_0.flatMap sG) l_0.length false] (aB.av r) := by
 intro nn
 induction nn with
 | zero =>
  intro l_0 r hm
  replace hm : none = some r := hm
  cases hm
 | succ nn ih =>
  intro l_0 r hm
  replace hm : mL (qI nn) l_0 = some r := hm
  refine aZ.of_body Tryz.func127 rfl ?_
  simp only [Tryz.ntmps127, List.length_cons, List.length_nil, Nat.reduceAdd, Nat.reduceSub, fE]
  unfold mL at hm
  refine sN 64 (pA ?_)
  refine fs (AWp.seq' (sN 128 ?_))
  iterate 3 refine pA ?_
  refine fs (AWp.condM hm Z1 (fun _ hm => ?_) (fun _ hm => ?_))
  ·
   refine sN 192 (pA ?_)
   refine fs (AWp.ret (jJ ?_))
   cases hm
   exact aJ6 (.inr rfl) Tryz.results127 (td Z1 (aB.data _))
  ·
   refine AWp.skip (bX (sN 192 ?_))
   iterate 4 refine pu rfl (by simp only [go_sem, Nat.reduceBEq, Int.reduceEq, Int.reduceLE]; try with_reducible rfl) ?_
   refine fs (sd mix (by kernel_rfl) (N' := 256) rfl ?_)
   iterate 2 refine pA ?_
   obtain ⟨l2, h1, hm⟩ := bnd hm
   refine pu rfl (aW8 eI Tryz.underlying204 aZm Z1 rfl aUi (aKz Z1 (aZn h1).2) h1) ?_
   obtain ⟨r4, h3, hm⟩ := bnd hm
   refine aU.callQ (r := aB.av r4) Zd Z1 bG1 (fun H => (.cons (tdf Z1 (eI.sl _ _ _)) .nil)) (ih h3) ?_
   iterate 2 refine pA ?_
   obtain ⟨x6, h5, hm⟩ := bnd hm
   refine pu rfl (aFx eI Zd Tryz.underlying204 aZm Z1 rfl Z1 h5) ?_
   iterate 4 refine pA ?_
   obtain ⟨l8, h7, hm⟩ := bnd hm
   refine pu rfl (aW8 eI Tryz.underlying204 aZm Z1 rfl (aKz Z1 (aZn h7).1) (aZv _) h7) ?_
   obtain ⟨r10, h9, hm⟩ := bnd hm
   refine aU.callQ (r := aB.av r10) Zd Z1 bG1 (fun H => (.cons (tdf Z1 (eI.sl _ _ _)) .nil)) (ih h9) ?_
   obtain ⟨r12, h11, hm⟩ := bnd hm
   refine aU.callQ (r := aB.av r12) Zd Z1 bM2 (fun H => (cD (aB.data _) (cD (.agg _ (eI.dat _)) (cD (aB.data _) .nil)))) (eF h11) ?_
   refine pA ?_
   refine fs (AWp.ret ?_)
   cases hm
   exact aJ6 (.inr rfl) Tryz.results127 (td Z1 (aB.data _))
theorem aUs {l_0 : List bL} {r : aB} (hm : yP l_0 = some r) : aZ Tryz.prog 127 [.sl (l_0.flatMap sG) l_0.length false] (aB.av r) := aQk bF hm
def oJ (a_0 : aB) (b_1 : aB) : Option (aB) :=
 ((mM b_1 0).bind fun ⟨r2, r3⟩ =>
 (bif (!r3) then
  some a_0
 else
  ((lZ b_1 1).bind fun ⟨r5, r6⟩ =>
  ((lA a_0 r2 r6).bind fun r8 =>
  some r8))))
theorem aF5 {a_0 : aB} {b_1 : aB} {r : aB} (hm : oJ a_0 b_1 = some r) : aZ Tryz.prog 126 [aB.av a_0, aB.av b_1] (aB.av r) := by
 refine bd 26 Tryz.func126 ?_
 refine W ?_
 obtain ⟨⟨r2, r3⟩, h1, hm⟩ := bnd hm
 refine cq (yM h1) ?_
 refine W ?_
 refine cm hm (fun hm => ?_) fun hm => ?_
 · exact E
 refine W ?_
 obtain ⟨⟨r5, r6⟩, h4, hm⟩ := bnd hm
 refine cq (xC h4) ?_
 obtain ⟨r8, h7, hm⟩ := bnd hm
 refine W ?_
 refine cq (uQ h7) ?_
 exact E
def aAr (eQ : Int) (n_2 : Int) (t6 : bS) (aN0 : aB) (aD3 : aB) : Option (bS) :=
 ((yP [(bL.mk eQ n_2)]).bind fun r7 =>
 ((oJ r7 aD3).bind fun r9 =>
 ((oJ aN0 r9).bind fun r11 =>
 some (bS.mk r11))))
def aEd (d_0 : bS) (eQ : Int) (n_2 : Int) : Option (bS) :=
 ((xM d_0 eQ).bind fun r2 =>
 ((lZ d_0.s r2).bind fun ⟨r4, r5⟩ =>
 ((mM r5 0).bind fun ⟨r13, r14⟩ =>
 (bif (r14 && (r13.Key == eQ)) then
  ((lZ r5 1).bind fun ⟨r16, r17⟩ =>
  aAr eQ n_2 (bS.mk aB.nil) r4 r17)
 else
  aAr eQ n_2 (bS.mk aB.nil) r4 r5))))
theorem bAa {d_0 : bS} {eQ : Int} {n_2 : Int} {r : bS} (hm : aEd d_0 eQ n_2 = some r) : aZ Tryz.prog 96 [.agg [aB.av d_0.s], vu eQ, vi n_2] (.agg [aB.av r.s]) := by
 refine bd 47 Tryz.func96 ?_
 obtain ⟨r2, h1, hm⟩ := bnd hm
 refine W ?_
 refine cq (aLu h1) ?_
 obtain ⟨⟨r4, r5⟩, h3, hm⟩ := bnd hm
 refine cq (xC h3) ?_
 refine V ?_
 refine AWp.seqJ (fun s => ∃ eQ n_2 t6 aN0 aD3, s = ⟨47, (aF (aF (aF (aF (aF fa 1 (vu eQ)) 2 (vi n_2)) 6 (.adr 1 0)) 7 (aB.av aN0)) 8 (aB.av aD3)), ⟨(upd aX 1 (.cells 1 [aB.av t6.s] 0)), 64⟩⟩ ∧ aAr eQ n_2 t6 aN0 aD3 = some r) ?_ ?_
 ·
  refine W ?_
  obtain ⟨⟨r13, r14⟩, h12, hm⟩ := bnd hm
  refine cq (yM h12) ?_
  refine W ?_
  refine cm hm (fun hm => ?_) fun hm => ?_
  ·
   refine W ?_
   obtain ⟨⟨r16, r17⟩, h15, hm⟩ := bnd hm
   refine cq (xC h15) ?_
   refine W ?_
   exact Lr (fun j => bif j == 1 then 1 else 0)
  refine W ?_
  exact Lr (fun j => bif j == 1 then 1 else 0)
 rintro s ⟨eQ, n_2, t6, aN0, aD3, rfl, hm⟩
 refine W ?_
 refine pu rfl (by simp only [go_sem, Nat.reduceBEq]; exact (by kernel_rfl : cN Tryz.prog 158 [(0, .v (.int .u64 eQ)), (1, .v (.int .i64 n_2))] = some (.agg [.v (.int .u64 eQ), .v (.int .i64 n_2)]))) ?_
 refine aL eI [(bL.mk eQ n_2)] ?_
 obtain ⟨r7, h6, hm⟩ := bnd hm
 refine aU.callL1 (r := aB.av r7) (id := 68) Zd Z1 bG1 Z3 (.cons (tdl eI Z1 Z3 (by simp) Z6) .nil) (aUs h6) ?_
 obtain ⟨r9, h8, hm⟩ := bnd hm
 refine W ?_
 refine cq (aF5 h8) ?_
 obtain ⟨r11, h10, hm⟩ := bnd hm
 refine cq (aF5 h10) ?_
 refine pu rfl (by simp only [go_sem, Nat.reduceBEq]; exact bGc (aB.cells _)) ?_
 exact E
def sU (rec1 : bS → bS → List aM → Int → Int → Option (bS × Bool)) (t2 : bS) (fS : bS) (t14 : List aM) (t15 : Int) (t16 : Int) : Option (bS × Bool) :=
 rec1 t2 fS t14 t15 (IntKind.i64.wrap (t16 + 1))
def zR (rec1 : bS → bS → List aM → Int → Int → Option (bS × Bool)) (t2 : bS) (fS : bS) (t14 : List aM) (t15 : Int) (t16 : Int) : Option (bS × Bool) :=
 (bif (decide (t16 < t15)) then
  ((idx t14 t16).bind fun x4 =>
  (bif (!x4.Used) then
   (bif (x4.Key != 0) then
    some ((bS.mk aB.nil), false)
   else
    sU rec1 t2 fS t14 t15 t16)
  else
   ((sH fS x4.Key).bind fun ⟨r6, r7⟩ =>
   (bif r7 then
    some ((bS.mk aB.nil), false)
   else
    ((aEd fS x4.Key t16).bind fun r9 =>
    sU rec1 t2 r9 t14 t15 t16)))))
 else
  some (fS, true))
def lI : Nat → bS → bS → List aM → Int → Int → Option (bS × Bool)
 | 0 => fun _ _ _ _ _ => none
 | n + 1 => zR (lI n)
def kK (l_0 : List aM) : Option (bS × Bool) :=
 ((mX (l_0.length : Int)).bind fun r2 =>
 (bif (!r2) then
  some ((bS.mk aB.nil), false)
 else
  lI bF (bS.mk aB.nil) (bS.mk aB.nil) l_0 (l_0.length : Int) 0))
theorem vY {l_0 : List aM} {r : bS × Bool} (hm : kK l_0 = some r) : aZ Tryz.prog 71 [vl aW l_0] (.tup [.agg [aB.av r.1.s], vb r.2]) := by
 refine bd 44 Tryz.func71 ?_
 obtain ⟨r2, h1, hm⟩ := bnd hm
 refine W ?_
 refine cq (aH2 h1) ?_
 refine W ?_
 refine cm hm (fun hm => ?_) fun hm => ?_
 · exact E
 refine W ?_
 refine lp (fun m s => ∃ t2 fS t14 t15 t16, s = ⟨44, (aF (aF (aF (aF (aF fa 2 (.adr 1 0)) 4 (.adr 2 0)) 14 (vl aW t14)) 15 (vi t15)) 16 (vi t16)), ⟨(upd (upd aX 1 (.cells 1 [aB.av t2.s] 0)) 2 (.cells 1 [aB.av fS.s] 0)), 64⟩⟩ ∧ lI m t2 fS t14 t15 t16 = some r) (Lr (fun j => bif j == 1 then 0 else bif j == 2 then 64 else 0)) ?_
 rintro n1 s ⟨t2, fS, t14, t15, t16, rfl, hm⟩
 refine W ?_
 refine cm hm (fun hm => ?_) fun hm => ?_
 ·
  refine V ?_
  refine AWp.seqJ (fun s => ∃ t2 fS t14 t15 t16, s = ⟨44, (aF (aF (aF (aF (aF fa 2 (.adr 1 0)) 4 (.adr 2 0)) 14 (vl aW t14)) 15 (vi t15)) 16 (vi t16)), ⟨(upd (upd aX 1 (.cells 1 [aB.av t2.s] 0)) 2 (.cells 1 [aB.av fS.s] 0)), 64⟩⟩ ∧ sU (lI n1) t2 fS t14 t15 t16 = some r) ?_ ?_
  ·
   obtain ⟨x4, h3, hm⟩ := bnd hm
   refine W ?_
   refine cm hm (fun hm => ?_) fun hm => ?_
   ·
    refine W ?_
    refine cm hm (fun hm => ?_) fun hm => ?_
    ·
     refine W ?_
     refine pu rfl (by simp only [go_sem, Nat.reduceBEq]; exact (by kernel_rfl : cN Tryz.prog 130 [] = some (.agg [aB.av aB.nil]))) ?_
     exact E
    refine W ?_
    exact Lr (fun j => bif j == 1 then 1 else bif j == 2 then 2 else 0)
   refine W ?_
   obtain ⟨⟨r6, r7⟩, h5, hm⟩ := bnd hm
   refine cq (aDz h5) ?_
   refine W ?_
   refine cm hm (fun hm => ?_) fun hm => ?_
   ·
    refine W ?_
    refine pu rfl (by simp only [go_sem, Nat.reduceBEq]; exact (by kernel_rfl : cN Tryz.prog 130 [] = some (.agg [aB.av aB.nil]))) ?_
    exact E
   obtain ⟨r9, h8, hm⟩ := bnd hm
   refine W ?_
   refine cq (bAa h8) ?_
   refine W ?_
   exact Lr (fun j => bif j == 1 then 1 else bif j == 2 then 2 else 0)
  rintro s ⟨t2, fS, t14, t15, t16, rfl, hm⟩
  refine W ?_
  exact Lr (fun j => bif j == 1 then 1 else bif j == 2 then 2 else 0)
 exact E
def vM (l_0 : List aM) : Option (Bool) :=
 ((kK l_0).bind fun ⟨r2, r3⟩ =>
 some r3)
theorem aR6 {l_0 : List aM} {r : Bool} (hm : vM l_0 = some r) : aZ Tryz.prog 50 [vl aW l_0] (vb r) := by
 refine bd 11 Tryz.func50 ?_
 refine W ?_
 obtain ⟨⟨r2, r3⟩, h1, hm⟩ := bnd hm
 refine cq (vY h1) ?_
 exact E
def aB7 (rec1 : aE → List aD → Int → Int → Option (Bool)) (s_1 : aE) (t27 : List aD) (t28 : Int) (t29 : Int) : Option (Bool) :=
 (bif (decide (t29 < t28)) then
  ((idx t27 t29).bind fun x6 =>
  ((idx s_1.Slots x6.U).bind fun x8 =>
  ((fC ((!x8.Used) == false) (aM.mk false 0) (idx s_1.Slots x6.V)).bind fun x10 =>
  (bif ((!x8.Used) || (!x10.Used)) then
   some false
  else
   rec1 s_1 t27 t28 (IntKind.i64.wrap (t29 + 1))))))
 else
  some true)
def rW : Nat → aE → List aD → Int → Int → Option (Bool)
 | 0 => fun _ _ _ _ => none
 | n + 1 => aB7 (rW n)
def tI (s_0 : aE) : Option (Bool) :=
 ((eG s_0.Graph).bind fun r2 =>
 ((fC ((!r2) == false) false (vM s_0.Slots)).bind fun r4 =>
 (bif (((!r2) || (!r4)) || ((s_0.Slots.length : Int) != s_0.Graph.Config.N)) then
  some false
 else
  rW bF s_0 s_0.Graph.Edges (s_0.Graph.Edges.length : Int) 0)))
theorem aSj {s_0 : aE} {r : Bool} (hm : tI s_0 = some r) : aZ Tryz.prog 19 [.agg [vi s_0.Graph.Config.N, vi s_0.Graph.Config.L, vi s_0.Graph.Config.R, vl bI s_0.Graph.Hashes, vl aT s_0.Graph.Edges, vl aW s_0.Slots]] (vb r) := by
 refine bd 52 Tryz.func19 ?_
 obtain ⟨r2, h1, hm⟩ := bnd hm
 refine W ?_
 refine cq (iF h1) ?_
 obtain ⟨r4, h3, hm⟩ := bnd hm
 refine W ?_
 refine cg (fun hb => aR6 (cM h3 hb)) ?_
 refine W ?_
 refine cm hm (fun hm => ?_) fun hm => ?_
 · exact E
 refine W ?_
 refine lp (fun m s => ∃ s_1 t27 t28 t29, s = ⟨52, (aF (aF (aF (aF fa 1 (.adr 1 0)) 27 (vl aT t27)) 28 (vi t28)) 29 (vi t29)), ⟨(upd aX 1 (.cells 1 [vi s_1.Graph.Config.N, vi s_1.Graph.Config.L, vi s_1.Graph.Config.R, vl bI s_1.Graph.Hashes, vl aT s_1.Graph.Edges, vl aW s_1.Slots] 0)), 64⟩⟩ ∧ rW m s_1 t27 t28 t29 = some r) (Lr (fun j => bif j == 1 then 0 else 0)) ?_
 rintro n1 s ⟨s_1, t27, t28, t29, rfl, hm⟩
 refine W ?_
 refine cm hm (fun hm => ?_) fun hm => ?_
 ·
  obtain ⟨x6, h5, hm⟩ := bnd hm
  obtain ⟨x8, h7, hm⟩ := bnd hm
  obtain ⟨x10, h9, hm⟩ := bnd hm
  refine W ?_
  refine cm hm (fun hm => ?_) fun hm => ?_
  · exact E
  refine W ?_
  exact Lr (fun j => bif j == 1 then 1 else 0)
 exact E
def qK (l_0 : List aM) (eQ : Int) : Option (Int × Bool) :=
 ((kK l_0).bind fun ⟨r2, r3⟩ =>
 (bif (!r3) then
  some (0, false)
 else
  ((sH r2 eQ).bind fun ⟨r5, r6⟩ =>
  some (r5, r6))))
theorem aJd {l_0 : List aM} {eQ : Int} {r : Int × Bool} (hm : qK l_0 eQ = some r) : aZ Tryz.prog 39 [vl aW l_0, vu eQ] (.tup [vi r.1, vb r.2]) := by
 refine bd 20 Tryz.func39 ?_
 refine W ?_
 obtain ⟨⟨r2, r3⟩, h1, hm⟩ := bnd hm
 refine cq (vY h1) ?_
 refine W ?_
 refine cm hm (fun hm => ?_) fun hm => ?_
 · exact E
 refine W ?_
 obtain ⟨⟨r5, r6⟩, h4, hm⟩ := bnd hm
 refine cq (aDz h4) ?_
 exact E
def vG (aGg : Int) : Option (Bool) :=
 some (((decide (2 ≤ aGg)) && (decide (aGg ≤ 11))) && (aGg != 10))
theorem aS4 {aGg : Int} {r : Bool} (hm : vG aGg = some r) : aZ Tryz.prog 40 [vi aGg] (vb r) := by
 refine bd 13 Tryz.func40 ?_
 exact E
def vP (aGg : Int) : Option (Bool) :=
 some ((((aGg == 3) || (aGg == 4)) || (aGg == 5)) || (aGg == 8))
theorem aQc {aGg : Int} {r : Bool} (hm : vP aGg = some r) : aZ Tryz.prog 41 [vi aGg] (vb r) := by
 refine bd 17 Tryz.func41 ?_
 exact E
def tN (s_0 : aE) (v_1 : Int) : Option ((List Int)) :=
 ((aC9 s_0.Graph.Config.N s_0.Graph.Edges v_1).bind fun r2 =>
 some r2)
theorem aJv {s_0 : aE} {v_1 : Int} {r : (List Int)} (hm : tN s_0 v_1 = some r) : aZ Tryz.prog 77 [.agg [vi s_0.Graph.Config.N, vi s_0.Graph.Config.L, vi s_0.Graph.Config.R, vl bI s_0.Graph.Hashes, vl aT s_0.Graph.Edges, vl aW s_0.Slots], vi v_1] (vl (ci .i64) r) := by
 refine bd 14 Tryz.func77 ?_
 obtain ⟨r2, h1, hm⟩ := bnd hm
 refine W ?_
 refine cq (aSx h1) ?_
 exact E
def sX (s_0 : aE) (v_1 : Int) : Option (Int) :=
 ((tN s_0 v_1).bind fun r2 =>
 some (r2.length : Int))
theorem aF3 {s_0 : aE} {v_1 : Int} {r : Int} (hm : sX s_0 v_1 = some r) : aZ Tryz.prog 75 [.agg [vi s_0.Graph.Config.N, vi s_0.Graph.Config.L, vi s_0.Graph.Config.R, vl bI s_0.Graph.Hashes, vl aT s_0.Graph.Edges, vl aW s_0.Slots], vi v_1] (vi r) := by
 refine bd 9 Tryz.func75 ?_
 obtain ⟨r2, h1, hm⟩ := bnd hm
 refine W ?_
 refine cq (aJv h1) ?_
 exact E
def eX (x_0 : Int) : Option (Bool) :=
 some (x_0 != x_0)
theorem nJ {x_0 : Int} {r : Bool} (hm : eX x_0 = some r) : aZ Tryz.prog 137 [vu x_0] (vb r) := by
 refine bd 6 Tryz.func137 ?_
 exact E
def oY (x_0 : Int) (y_1 : Int) : Option (Bool) :=
 ((eX x_0).bind fun r2 =>
 ((fC (r2 == true) false (eX y_1)).bind fun r4 =>
 some ((r2 && (!r4)) || (decide (x_0 < y_1)))))
theorem aKk {x_0 : Int} {y_1 : Int} {r : Bool} (hm : oY x_0 y_1 = some r) : aZ Tryz.prog 151 [vu x_0, vu y_1] (vb r) := by
 refine bd 17 Tryz.func151 ?_
 obtain ⟨r2, h1, hm⟩ := bnd hm
 refine W ?_
 refine cq (nJ h1) ?_
 obtain ⟨r4, h3, hm⟩ := bnd hm
 refine W ?_
 refine cg (fun hb => nJ (cM h3 hb)) ?_
 exact E
def cU (rec1 : List Int → Int → Int → Int → Option (List Int)) (rec2 : List Int → Int → Int → Int → Int → Option (List Int)) (bH : List Int) (a_1 : Int) (b_2 : Int) (i_6 : Int) (j_7 : Int) : Option (List Int) :=
 ((fC ((decide (a_1 < j_7)) == true) 0 (idx bH j_7)).bind fun x2 =>
 ((fC ((decide (a_1 < j_7)) == true) 0 (idx bH (IntKind.i64.wrap (j_7 - 1)))).bind fun x4 =>
 ((fC ((decide (a_1 < j_7)) == true) false (oY x2 x4)).bind fun r6 =>
 (bif ((decide (a_1 < j_7)) && r6) then
  ((idx bH (IntKind.i64.wrap (j_7 - 1))).bind fun x8 =>
  ((idx bH j_7).bind fun x10 =>
  ((idx bH j_7).bind fun x12 =>
  ((stt bH j_7 x8).bind fun l14 =>
  ((idx l14 (IntKind.i64.wrap (j_7 - 1))).bind fun x16 =>
  ((stt l14 (IntKind.i64.wrap (j_7 - 1)) x10).bind fun l18 =>
  rec2 l18 a_1 b_2 i_6 (IntKind.i64.wrap (j_7 - 1))))))))
 else
  rec1 bH a_1 b_2 (IntKind.i64.wrap (i_6 + 1))))))
def cL (rec1 : List Int → Int → Int → Int → Option (List Int)) : Nat → List Int → Int → Int → Int → Int → Option (List Int)
 | 0 => fun _ _ _ _ _ => none
 | n + 1 => cU rec1 (cL rec1 n)
def cC (rec1 : List Int → Int → Int → Int → Option (List Int)) (bH : List Int) (a_1 : Int) (b_2 : Int) (i_6 : Int) : Option (List Int) :=
 (bif (decide (i_6 < b_2)) then
  cL rec1 bF bH a_1 b_2 i_6 i_6
 else
  some bH)
def bQ : Nat → List Int → Int → Int → Int → Option (List Int)
 | 0 => fun _ _ _ _ => none
 | n + 1 => cC (bQ n)
def dD (bH : List Int) (a_1 : Int) (b_2 : Int) : Option (List Int) :=
 bQ bF bH a_1 b_2 (IntKind.i64.wrap (a_1 + 1))
theorem pO {bH : List Int} {a_1 : Int} {b_2 : Int} {r : List Int} (hm : dD bH a_1 b_2 = some r) {H : aJ} {i0 : Nat} (he : H.ent i0 = .cells 1 (bH.flatMap (ci .u64)) 0) : dO Tryz.prog 145 [.own i0 0 bH.length, .v (.int .i64 a_1), .v (.int .i64 b_2)] H (.tup []) (H.put i0 (.cells 1 (r.flatMap (ci .u64)) 0)) := by
 refine dO.of_bodyM Tryz.func145 rfl he ?_
 generalize H.ent = h0
 simp only [Tryz.ntmps145, List.length_cons, List.length_nil, Nat.reduceAdd, Nat.reduceSub]
 unfold dD at hm
 refine sN 64 ?_
 iterate 3 refine pA ?_
 refine fs (AWp.block (AWp.loopM (fun m s => ∃ (bH : List Int) (a_1 : Int) (b_2 : Int) (i_6 : Int), s = (⟨49, (aF (aF (aF (aF (fun _ => AV.any) 0 (.own i0 0 bH.length)) 1 (.v (.int .i64 a_1))) 2 (.v (.int .i64 b_2))) 6 (.v (.int .i64 i_6))), ⟨(upd h0 i0 (.cells 1 (bH.flatMap (ci .u64)) 0)), 64⟩⟩ : St) ∧ bQ m bH a_1 b_2 i_6 = some r) bF ?_ ?_ ?_))
 ·
  rintro s ⟨_, _, _, _, _, h⟩
  cases h
 ·
  refine ⟨_, ?_, bH, a_1, b_2, (IntKind.i64.wrap (a_1 + 1)), rfl, hm⟩
  exact uL (bU 6 _ Z1 (bU 2 _ Z1 (bU 1 _ Z1 (bU 0 _ (uT Z1 Z6) oV)))) (by simp only [iB]; try rfl)
 ·
  rintro n1 s ⟨bH, a_1, b_2, i_6, rfl, hm⟩
  replace hm : cC (bQ n1) bH a_1 b_2 i_6 = some r := hm
  unfold cC at hm
  refine AWp.seq' (sN 128 ?_)
  iterate 3 refine pA ?_
  refine fs (AWp.condM hm Z1 (fun _ hm => ?_) (fun _ hm => ?_))
  ·
   refine AWp.skip (bX (AWp.seq' (AWp.block (sN 192 ?_))))
   iterate 2 refine pA ?_
   refine fs (AWp.block (AWp.loopM (fun m s => ∃ (bH : List Int) (a_1 : Int) (b_2 : Int) (i_6 : Int) (j_7 : Int), s = (⟨49, (aF (aF (aF (aF (aF (fun _ => AV.any) 0 (.own i0 0 bH.length)) 1 (.v (.int .i64 a_1))) 2 (.v (.int .i64 b_2))) 6 (.v (.int .i64 i_6))) 7 (.v (.int .i64 j_7))), ⟨(upd h0 i0 (.cells 1 (bH.flatMap (ci .u64)) 0)), 64⟩⟩ : St) ∧ cL (bQ n1) m bH a_1 b_2 i_6 j_7 = some r) bF ?_ ?_ ?_))
   ·
    rintro s ⟨_, _, _, _, _, _, h⟩
    cases h
   ·
    refine ⟨_, ?_, bH, a_1, b_2, i_6, i_6, rfl, hm⟩
    exact uL (bU 7 _ Z1 (bU 6 _ Z1 (bU 2 _ Z1 (bU 1 _ Z1 (bU 0 _ (uT Z1 Z6) oV))))) (by simp only [iB]; try rfl)
   ·
    rintro n2 s ⟨bH, a_1, b_2, i_6, j_7, rfl, hm⟩
    replace hm : cU (bQ n1) (cL (bQ n1) n2) bH a_1 b_2 i_6 j_7 = some r := hm
    unfold cU at hm
    refine AWp.seq' (sd mix (by kernel_rfl) (N' := 128) rfl ?_)
    iterate 6 first | refine pA ?_ | refine pB ?_
    obtain ⟨x2, h1, hm⟩ := bnd hm
    refine pg rfl rfl Z2 (fun hb => (dR Tryz.underlying24 aHh (Zh hb) (by simp only [bC, beq_self_eq_true, Nat.reduceBEq, cond_true, cond_false]; try rfl) Z6 (Zh hb) (cM h1 hb))) ?_
    refine pg rfl rfl Z2 (fun hb => (mE (CFi .u64) (Zh hb) (by simp only [bC, beq_self_eq_true, Nat.reduceBEq, cond_true, cond_false]; try rfl) (cM h1 hb) (fun _ => by simp only [go_sem, Nat.reduceBEq]; try with_reducible rfl))) ?_
    iterate 3 refine pB ?_
    obtain ⟨x4, h3, hm⟩ := bnd hm
    refine pg rfl rfl Z2 (fun hb => (dR Tryz.underlying24 aHh (Zh hb) (by simp only [bC, beq_self_eq_true, Nat.reduceBEq, cond_true, cond_false]; try rfl) Z6 (Zh hb) (cM h3 hb))) ?_
    refine pg rfl rfl Z2 (fun hb => (mE (CFi .u64) (Zh hb) (by simp only [bC, beq_self_eq_true, Nat.reduceBEq, cond_true, cond_false]; try rfl) (cM h3 hb) (fun _ => by simp only [go_sem, Nat.reduceBEq]; try with_reducible rfl))) ?_
    obtain ⟨r6, h5, hm⟩ := bnd hm
    refine aU.callQG (r := .v (.bool r6)) Zd rfl Z2 Z1 bPn (fun hb H => (.cons (td (Zh hb) (.v _)) (.cons (td (Zh hb) (.v _)) .nil))) (fun hb => aKk (cM h5 hb)) ?_
    refine pA ?_
    refine fs (AWp.condM hm Z1 (fun _ hm => ?_) (fun _ hm => ?_))
    ·
     refine AWp.skip (bX (AWp.seq' (AWp.block (AWp.regD 64 mix (by kernel_rfl) (N' := 192) rfl ?_))))
     iterate 8 refine pA ?_
     obtain ⟨x8, h7, hm⟩ := bnd hm
     refine pu rfl (dR Tryz.underlying24 aHh Z1 (by simp only [bC, beq_self_eq_true, Nat.reduceBEq, cond_true, cond_false]; try rfl) Z6 Z1 h7) ?_
     refine pu rfl (mE (CFi .u64) Z1 (by simp only [bC, beq_self_eq_true, Nat.reduceBEq, cond_true, cond_false]; try rfl) h7 (fun _ => by simp only [go_sem, Nat.reduceBEq]; try with_reducible rfl)) ?_
     iterate 2 refine pA ?_
     obtain ⟨x10, h9, hm⟩ := bnd hm
     refine pu rfl (dR Tryz.underlying24 aHh Z1 (by simp only [bC, beq_self_eq_true, Nat.reduceBEq, cond_true, cond_false]; try rfl) Z6 Z1 h9) ?_
     refine pu rfl (mE (CFi .u64) Z1 (by simp only [bC, beq_self_eq_true, Nat.reduceBEq, cond_true, cond_false]; try rfl) h9 (fun _ => by simp only [go_sem, Nat.reduceBEq]; try with_reducible rfl)) ?_
     obtain ⟨x12, h11, hm⟩ := bnd hm
     refine pu rfl (dR Tryz.underlying24 aHh Z1 (by simp only [bC, beq_self_eq_true, Nat.reduceBEq, cond_true, cond_false]; try rfl) Z6 Z1 h11) ?_
     obtain ⟨l14, h13, hm⟩ := bnd hm
     have qh13 := jU h13
     refine aU.heap0 (id := 143) rfl (xS (CFi .u64) aHh Z1 Z1 (by simp only [bC, beq_self_eq_true, Nat.reduceBEq, cond_true, cond_false]; try rfl) rfl h13) ?_
     obtain ⟨x16, h15, hm⟩ := bnd hm
     refine pu rfl (dR Tryz.underlying24 aHh Z1 (by simp only [bC, beq_self_eq_true, Nat.reduceBEq, cond_true, cond_false]; try rfl) Z6 Z1 h15) ?_
     obtain ⟨l18, h17, hm⟩ := bnd hm
     have qh17 := jU h17
     refine aU.heap0 (id := 145) rfl (xS (CFi .u64) aHh Z1 Z1 (by simp only [bC, beq_self_eq_true, Nat.reduceBEq, cond_true, cond_false]; try rfl) rfl h17) ?_
     refine aU.fin (kP (bX (AWp.reg 64 (N' := 256) rfl ?_)))
     iterate 3 refine pA ?_
     refine aU.fin (gA ?_)
     refine ⟨_, ?_, l18, a_1, b_2, i_6, (IntKind.i64.wrap (j_7 - 1)), rfl, hm⟩
     exact uL (bU 7 _ Z1 (bU 6 _ Z1 (bU 2 _ Z1 (bU 1 _ Z1 (bU 0 _ (uT Z1 Z6) oV))))) (by simp only [iB]; try rfl)
    ·
     refine AWp.exit (jB (gP (gN (kP (bX (AWp.reg 64 (N' := 192) rfl ?_))))))
     iterate 3 refine pA ?_
     refine aU.fin (gA ?_)
     refine ⟨_, ?_, bH, a_1, b_2, (IntKind.i64.wrap (i_6 + 1)), rfl, hm⟩
     exact uL (bU 6 _ Z1 (bU 2 _ Z1 (bU 1 _ Z1 (bU 0 _ (uT Z1 Z6) oV)))) (by simp only [iB]; try rfl)
  ·
   refine AWp.exit (jB (gP (gN ?_)))
   cases hm
   exact aPg (.inl rfl) Tryz.results145 (by simp only [iB]; try rfl)
def dT (rec1 : List Int → Int → Int → Int → Bool → Bool → Option (List Int)) (bH : List Int) (a_1 : Int) (b_2 : Int) (fJ : Int) (oC : Bool) (jX : Bool) : Option (List Int) :=
 (bif (decide ((IntKind.i64.wrap (b_2 - a_1)) ≤ 12)) then
  ((aC7 (fun x => x.length) bH.length (dD bH a_1 b_2)).bind fun l2 =>
  some l2)
 else
  (bif (fJ == 0) then
   none
  else
   none))
def dV : Nat → List Int → Int → Int → Int → Bool → Bool → Option (List Int)
 | 0 => fun _ _ _ _ _ _ => none
 | n + 1 => dT (dV n)
def fK (bH : List Int) (a_1 : Int) (b_2 : Int) (fJ : Int) : Option (List Int) :=
 dV bF bH a_1 b_2 fJ true true
theorem uP {bH : List Int} {a_1 : Int} {b_2 : Int} {fJ : Int} {r : List Int} (hm : fK bH a_1 b_2 fJ = some r) {H : aJ} {i0 : Nat} (he : H.ent i0 = .cells 1 (bH.flatMap (ci .u64)) 0) : dO Tryz.prog 133 [.own i0 0 bH.length, .v (.int .i64 a_1), .v (.int .i64 b_2), .v (.int .i64 fJ)] H (.tup []) (H.put i0 (.cells 1 (r.flatMap (ci .u64)) 0)) := by
 refine dO.of_bodyM Tryz.func133 rfl he ?_
 generalize H.ent = h0
 simp only [Tryz.ntmps133, List.length_cons, List.length_nil, Nat.reduceAdd, Nat.reduceSub]
 unfold fK at hm
 refine sN 64 (pA ?_)
 refine fs (sN 128 (pA ?_))
 refine fs (AWp.block (AWp.loopM (fun m s => ∃ (bH : List Int) (a_1 : Int) (b_2 : Int) (fJ : Int) (oC : Bool) (jX : Bool), s = (⟨134, (aF (aF (aF (aF (aF (aF (fun _ => AV.any) 0 (.own i0 0 bH.length)) 1 (.v (.int .i64 a_1))) 2 (.v (.int .i64 b_2))) 3 (.v (.int .i64 fJ))) 8 (.v (.bool oC))) 9 (.v (.bool jX))), ⟨(upd h0 i0 (.cells 1 (bH.flatMap (ci .u64)) 0)), 64⟩⟩ : St) ∧ dV m bH a_1 b_2 fJ oC jX = some r) bF ?_ ?_ ?_))
 ·
  rintro s ⟨_, _, _, _, _, _, _, h⟩
  cases h
 ·
  refine ⟨_, ?_, bH, a_1, b_2, fJ, true, true, rfl, hm⟩
  exact uL (bU 9 _ Z1 (bU 8 _ Z1 (bU 3 _ Z1 (bU 2 _ Z1 (bU 1 _ Z1 (bU 0 _ (uT Z1 Z6) oV)))))) (by simp only [iB]; try rfl)
 ·
  rintro n1 s ⟨bH, a_1, b_2, fJ, oC, jX, rfl, hm⟩
  replace hm : dT (dV n1) bH a_1 b_2 fJ oC jX = some r := hm
  unfold dT at hm
  refine AWp.block (sN 128 ?_)
  iterate 4 refine pA ?_
  refine fs (AWp.seq' (sN 192 ?_))
  iterate 2 refine pA ?_
  refine fs (AWp.condM hm Z1 (fun _ hm => ?_) (fun _ hm => ?_))
  ·
   refine sN 256 ?_
   iterate 3 refine pA ?_
   obtain ⟨l2, h1, hm⟩ := bnd hm
   have qh1 := aI6 h1
   refine aU.callM Zd Z1 bO3 Z1 (pO (aGc h1) (by simp only [bC, beq_self_eq_true, Nat.reduceBEq, cond_true, cond_false]; try rfl)) ?_
   refine fs (AWp.ret (jJ (aAb (yS (aAb ?_)))))
   cases hm
   exact aPg (.inr rfl) Tryz.results133 (by simp only [iB]; try rfl)
  ·
   refine AWp.skip (bX (AWp.seq' (sN 256 ?_)))
   iterate 2 refine pA ?_
   refine fs (AWp.condM hm Z1 (fun _ hm => ?_) (fun _ hm => ?_))
   ·
    cases hm
   ·
    cases hm
def gB (x_0 : List Int) : Option (List Int) :=
 ((zY (IntKind.u64.wrap (x_0.length : Int))).bind fun r2 =>
 ((aC7 (fun x => x.length) x_0.length (fK x_0 0 (x_0.length : Int) r2)).bind fun l4 =>
 some l4))
theorem aFb {x_0 : List Int} {r : List Int} (hm : gB x_0 = some r) {H : aJ} {i0 : Nat} (he : H.ent i0 = .cells 1 (x_0.flatMap (ci .u64)) 0) : dO Tryz.prog 100 [.own i0 0 x_0.length] H (.tup []) (H.put i0 (.cells 1 (r.flatMap (ci .u64)) 0)) := by
 refine dO.of_bodyM Tryz.func100 rfl he ?_
 generalize H.ent = h0
 simp only [Tryz.ntmps100, List.length_cons, List.length_nil, Nat.reduceAdd, Nat.reduceSub]
 unfold gB at hm
 refine sN 64 ?_
 iterate 3 refine pA ?_
 refine fs (AWp.reg 64 (N' := 128) rfl ?_)
 iterate 4 refine pA ?_
 obtain ⟨r2, h1, hm⟩ := bnd hm
 refine aU.callQ (r := .v (.int .i64 r2)) Zd Z1 bLm (fun H => (cV .nil)) (aIg h1) ?_
 obtain ⟨l4, h3, hm⟩ := bnd hm
 have qh3 := aI6 h3
 refine aU.callM Zd Z1 bPo Z1 (uP (aGc h3) (by simp only [bC, beq_self_eq_true, Nat.reduceBEq, cond_true, cond_false]; try rfl)) ?_
 refine aU.fin ?_
 cases hm
 exact aPg (.inl rfl) Tryz.results100 (by simp only [iB]; try rfl)
def vU (rec1 : aE → List Int → List Int → Int → Int → Option ((List Int))) (s_2 : aE) (dH : List Int) (t8 : List Int) (t9 : Int) (t10 : Int) : Option ((List Int)) :=
 rec1 s_2 dH t8 t9 (IntKind.i64.wrap (t10 + 1))
def aBx (rec1 : aE → List Int → List Int → Int → Int → Option ((List Int))) (s_2 : aE) (dH : List Int) (t8 : List Int) (t9 : Int) (t10 : Int) : Option ((List Int)) :=
 (bif (decide (t10 < t9)) then
  ((idx t8 t10).bind fun x2 =>
  ((idx s_2.Slots x2).bind fun x4 =>
  (bif x4.Used then
   ((idx s_2.Slots x2).bind fun x6 =>
   ((app dH [x6.Key]).bind fun l8 =>
   vU rec1 s_2 l8 t8 t9 t10))
  else
   vU rec1 s_2 dH t8 t9 t10)))
 else
  ((aC7 (fun x => x.length) dH.length (gB dH)).bind fun l10 =>
  some l10))
def nA : Nat → aE → List Int → List Int → Int → Int → Option ((List Int))
 | 0 => fun _ _ _ _ _ => none
 | n + 1 => aBx (nA n)
def mD (s_0 : aE) (l_1 : List Int) : Option ((List Int)) :=
 nA bF s_0 [] l_1 (l_1.length : Int) 0
theorem aCc {s_0 : aE} {l_1 : List Int} {r : (List Int)} (hm : mD s_0 l_1 = some r) : aZ Tryz.prog 76 [.agg [vi s_0.Graph.Config.N, vi s_0.Graph.Config.L, vi s_0.Graph.Config.R, vl bI s_0.Graph.Hashes, vl aT s_0.Graph.Edges, vl aW s_0.Slots], vl (ci .i64) l_1] (vl (ci .u64) r) := by
 refine bd 33 Tryz.func76 ?_
 refine W ?_
 refine lp (fun m s => ∃ s_2 dH t8 t9 t10, s = ⟨33, (aF (aF (aF (aF (aF fa 2 (.adr 1 0)) 5 (.own 2 0 dH.length)) 8 (vl (ci .i64) t8)) 9 (vi t9)) 10 (vi t10)), ⟨(upd (upd aX 1 (.cells 1 [vi s_2.Graph.Config.N, vi s_2.Graph.Config.L, vi s_2.Graph.Config.R, vl bI s_2.Graph.Hashes, vl aT s_2.Graph.Edges, vl aW s_2.Slots] 0)) 2 (.cells 1 (dH.flatMap (ci .u64)) 0)), 64⟩⟩ ∧ nA m s_2 dH t8 t9 t10 = some r) ?_ ?_
 ·
  refine ⟨_, ?_, s_0, [], l_1, (l_1.length : Int), 0, rfl, hm⟩
  refine St.Le.trans (nX 5 900005 1 Z1 Z5) ?_
  exact cn (fun j => bif j == 1 then 0 else bif j == 2 then 900005 else 0)
 rintro n1 s ⟨s_2, dH, t8, t9, t10, rfl, hm⟩
 refine W ?_
 refine cm hm (fun hm => ?_) fun hm => ?_
 ·
  refine V ?_
  refine AWp.seqJ (fun s => ∃ s_2 dH t8 t9 t10, s = ⟨33, (aF (aF (aF (aF (aF fa 2 (.adr 1 0)) 5 (.own 2 0 dH.length)) 8 (vl (ci .i64) t8)) 9 (vi t9)) 10 (vi t10)), ⟨(upd (upd aX 1 (.cells 1 [vi s_2.Graph.Config.N, vi s_2.Graph.Config.L, vi s_2.Graph.Config.R, vl bI s_2.Graph.Hashes, vl aT s_2.Graph.Edges, vl aW s_2.Slots] 0)) 2 (.cells 1 (dH.flatMap (ci .u64)) 0)), 64⟩⟩ ∧ vU (nA n1) s_2 dH t8 t9 t10 = some r) ?_ ?_
  ·
   obtain ⟨x2, h1, hm⟩ := bnd hm
   obtain ⟨x4, h3, hm⟩ := bnd hm
   refine W ?_
   refine cm hm (fun hm => ?_) fun hm => ?_
   ·
    have hm := sb hm h3
    refine W ?_
    refine aL (CFi .u64) [x4.Key] ?_
    obtain ⟨l8, h7, hm⟩ := bnd hm
    refine W ?_
    exact Lr (fun j => bif j == 1 then 1 else bif j == 2 then 264 else 0)
   refine W ?_
   exact Lr (fun j => bif j == 1 then 1 else bif j == 2 then 2 else 0)
  rintro s ⟨s_2, dH, t8, t9, t10, rfl, hm⟩
  refine W ?_
  exact Lr (fun j => bif j == 1 then 1 else bif j == 2 then 2 else 0)
 obtain ⟨l10, h9, hm⟩ := bnd hm
 refine W ?_
 have qh9 := aI6 h9
 refine aU.callM Zd Z1 bOt Z1 (aFb (aGc h9) Z3) ?_
 exact E
def oW (rec1 : aE → Int → List Int → Int → Int → Option (Int)) (s_2 : aE) (sL : Int) (t8 : List Int) (t9 : Int) (t10 : Int) : Option (Int) :=
 rec1 s_2 sL t8 t9 (IntKind.i64.wrap (t10 + 1))
def uW (rec1 : aE → Int → List Int → Int → Int → Option (Int)) (s_2 : aE) (sL : Int) (t8 : List Int) (t9 : Int) (t10 : Int) : Option (Int) :=
 (bif (decide (t10 < t9)) then
  ((idx t8 t10).bind fun x2 =>
  ((fC ((t10 == x2) == true) (aM.mk false 0) (idx s_2.Slots t10)).bind fun x4 =>
  (bif ((t10 == x2) && x4.Used) then
   oW rec1 s_2 (IntKind.i64.wrap (sL + 1)) t8 t9 t10
  else
   oW rec1 s_2 sL t8 t9 t10)))
 else
  some sL)
def gX : Nat → aE → Int → List Int → Int → Int → Option (Int)
 | 0 => fun _ _ _ _ _ => none
 | n + 1 => uW (gX n)
def wL (s_0 : aE) (aNr : List Int) : Option (Int) :=
 gX bF s_0 0 aNr (aNr.length : Int) 0
theorem aNe {s_0 : aE} {aNr : List Int} {r : Int} (hm : wL s_0 aNr = some r) : aZ Tryz.prog 79 [.agg [vi s_0.Graph.Config.N, vi s_0.Graph.Config.L, vi s_0.Graph.Config.R, vl bI s_0.Graph.Hashes, vl aT s_0.Graph.Edges, vl aW s_0.Slots], vl (ci .i64) aNr] (vi r) := by
 refine bd 30 Tryz.func79 ?_
 refine W ?_
 refine lp (fun m s => ∃ s_2 sL t8 t9 t10, s = ⟨30, (aF (aF (aF (aF (aF fa 2 (.adr 1 0)) 5 (vi sL)) 8 (vl (ci .i64) t8)) 9 (vi t9)) 10 (vi t10)), ⟨(upd aX 1 (.cells 1 [vi s_2.Graph.Config.N, vi s_2.Graph.Config.L, vi s_2.Graph.Config.R, vl bI s_2.Graph.Hashes, vl aT s_2.Graph.Edges, vl aW s_2.Slots] 0)), 64⟩⟩ ∧ gX m s_2 sL t8 t9 t10 = some r) (Lr (fun j => bif j == 1 then 0 else 0)) ?_
 rintro n1 s ⟨s_2, sL, t8, t9, t10, rfl, hm⟩
 refine W ?_
 refine cm hm (fun hm => ?_) fun hm => ?_
 ·
  refine V ?_
  refine AWp.seqJ (fun s => ∃ s_2 sL t8 t9 t10, s = ⟨30, (aF (aF (aF (aF (aF fa 2 (.adr 1 0)) 5 (vi sL)) 8 (vl (ci .i64) t8)) 9 (vi t9)) 10 (vi t10)), ⟨(upd aX 1 (.cells 1 [vi s_2.Graph.Config.N, vi s_2.Graph.Config.L, vi s_2.Graph.Config.R, vl bI s_2.Graph.Hashes, vl aT s_2.Graph.Edges, vl aW s_2.Slots] 0)), 64⟩⟩ ∧ oW (gX n1) s_2 sL t8 t9 t10 = some r) ?_ ?_
  ·
   obtain ⟨x2, h1, hm⟩ := bnd hm
   obtain ⟨x4, h3, hm⟩ := bnd hm
   refine W ?_
   refine cm hm (fun hm => ?_) fun hm => ?_
   ·
    refine W ?_
    exact Lr (fun j => bif j == 1 then 1 else 0)
   refine W ?_
   exact Lr (fun j => bif j == 1 then 1 else 0)
  rintro s ⟨s_2, sL, t8, t9, t10, rfl, hm⟩
  refine W ?_
  exact Lr (fun j => bif j == 1 then 1 else 0)
 exact E
def cW (mR : (aI → aI → Option (Int))) (rec1 : List aI → Int → Int → Int → Option (List aI)) (rec2 : List aI → Int → Int → Int → Int → Option (List aI)) (bH : List aI) (a_1 : Int) (b_2 : Int) (i_8 : Int) (j_9 : Int) : Option (List aI) :=
 ((fC ((decide (a_1 < j_9)) == true) (aI.mk 0 0) (idx bH j_9)).bind fun x2 =>
 ((fC ((decide (a_1 < j_9)) == true) (aI.mk 0 0) (idx bH (IntKind.i64.wrap (j_9 - 1)))).bind fun x4 =>
 ((fC ((decide (a_1 < j_9)) == true) 0 (mR x2 x4)).bind fun r6 =>
 (bif ((decide (a_1 < j_9)) && (decide (r6 < 0))) then
  ((idx bH (IntKind.i64.wrap (j_9 - 1))).bind fun x8 =>
  ((idx bH j_9).bind fun x10 =>
  ((idx bH j_9).bind fun x12 =>
  ((stt bH j_9 x8).bind fun l14 =>
  ((idx l14 (IntKind.i64.wrap (j_9 - 1))).bind fun x16 =>
  ((stt l14 (IntKind.i64.wrap (j_9 - 1)) x10).bind fun l18 =>
  rec2 l18 a_1 b_2 i_8 (IntKind.i64.wrap (j_9 - 1))))))))
 else
  rec1 bH a_1 b_2 (IntKind.i64.wrap (i_8 + 1))))))
def cJ (mR : (aI → aI → Option (Int))) (rec1 : List aI → Int → Int → Int → Option (List aI)) : Nat → List aI → Int → Int → Int → Int → Option (List aI)
 | 0 => fun _ _ _ _ _ => none
 | n + 1 => cW mR rec1 (cJ mR rec1 n)
def bZ (mR : (aI → aI → Option (Int))) (rec1 : List aI → Int → Int → Int → Option (List aI)) (bH : List aI) (a_1 : Int) (b_2 : Int) (i_8 : Int) : Option (List aI) :=
 (bif (decide (i_8 < b_2)) then
  cJ mR rec1 bF bH a_1 b_2 i_8 i_8
 else
  some bH)
def bR (mR : (aI → aI → Option (Int))) : Nat → List aI → Int → Int → Int → Option (List aI)
 | 0 => fun _ _ _ _ => none
 | n + 1 => bZ mR (bR mR n)
def dE (bH : List aI) (a_1 : Int) (b_2 : Int) (mR : (aI → aI → Option (Int))) : Option (List aI) :=
 bR mR bF bH a_1 b_2 (IntKind.i64.wrap (a_1 + 1))
theorem pP {bH : List aI} {a_1 : Int} {b_2 : Int} {mR : (aI → aI → Option (Int))} {r : List aI} (hm : dE bH a_1 b_2 mR = some r) {aGh : FuncId} {aA3 : List AV} (aXc : ∀ a, a ∈ aA3 → AM.Data a) (bHg : (Program.funcs Tryz.prog)[aGh]?.any (fun fn => fn.body.isSome && fn.name != "runtime.NumGoroutine") = true) (bGq : ∀ {x0 x1 r}, mR x0 x1 = some r → aZ Tryz.prog aGh ([.agg [.v (.int .u64 x0.x0), .v (.int .u64 x0.x1)], .agg [.v (.int .u64 x1.x0), .v (.int .u64 x1.x1)]] ++ aA3) (.v (.int .i64 r))) {H : aJ} {i0 : Nat} (he : H.ent i0 = .cells 2 (bH.flatMap bJ) 0) : dO Tryz.prog 156 [.own i0 0 bH.length, .v (.int .i64 a_1), .v (.int .i64 b_2), .clo (.func aGh) [] aA3] H (.tup []) (H.put i0 (.cells 2 (r.flatMap bJ) 0)) := by
 refine dO.of_bodyM Tryz.func156 rfl he ?_
 generalize H.ent = h0
 simp only [Tryz.ntmps156, List.length_cons, List.length_nil, Nat.reduceAdd, Nat.reduceSub]
 unfold dE at hm
 refine sN 64 ?_
 iterate 3 refine pA ?_
 refine fs (AWp.block (AWp.loopM (fun m s => ∃ (bH : List aI) (a_1 : Int) (b_2 : Int) (i_8 : Int), s = (⟨53, (aF (aF (aF (aF (aF (fun _ => AV.any) 0 (.own i0 0 bH.length)) 1 (.v (.int .i64 a_1))) 2 (.v (.int .i64 b_2))) 3 (.clo (.func aGh) [] aA3)) 8 (.v (.int .i64 i_8))), ⟨(upd h0 i0 (.cells 2 (bH.flatMap bJ) 0)), 64⟩⟩ : St) ∧ bR mR m bH a_1 b_2 i_8 = some r) bF ?_ ?_ ?_))
 ·
  rintro s ⟨_, _, _, _, _, h⟩
  cases h
 ·
  refine ⟨_, ?_, bH, a_1, b_2, (IntKind.i64.wrap (a_1 + 1)), rfl, hm⟩
  exact uL (bU 8 _ Z1 (bU 3 _ Z1 (bU 2 _ Z1 (bU 1 _ Z1 (bU 0 _ (uT Z1 Z6) oV))))) (by simp only [iB]; try rfl)
 ·
  rintro n1 s ⟨bH, a_1, b_2, i_8, rfl, hm⟩
  replace hm : bZ mR (bR mR n1) bH a_1 b_2 i_8 = some r := hm
  unfold bZ at hm
  refine AWp.seq' (sN 128 ?_)
  iterate 3 refine pA ?_
  refine fs (AWp.condM hm Z1 (fun _ hm => ?_) (fun _ hm => ?_))
  ·
   refine AWp.skip (bX (AWp.seq' (AWp.block (sN 192 ?_))))
   iterate 2 refine pA ?_
   refine fs (AWp.block (AWp.loopM (fun m s => ∃ (bH : List aI) (a_1 : Int) (b_2 : Int) (i_8 : Int) (j_9 : Int), s = (⟨53, (aF (aF (aF (aF (aF (aF (fun _ => AV.any) 0 (.own i0 0 bH.length)) 1 (.v (.int .i64 a_1))) 2 (.v (.int .i64 b_2))) 3 (.clo (.func aGh) [] aA3)) 8 (.v (.int .i64 i_8))) 9 (.v (.int .i64 j_9))), ⟨(upd h0 i0 (.cells 2 (bH.flatMap bJ) 0)), 64⟩⟩ : St) ∧ cJ mR (bR mR n1) m bH a_1 b_2 i_8 j_9 = some r) bF ?_ ?_ ?_))
   ·
    rintro s ⟨_, _, _, _, _, _, h⟩
    cases h
   ·
    refine ⟨_, ?_, bH, a_1, b_2, i_8, i_8, rfl, hm⟩
    exact uL (bU 9 _ Z1 (bU 8 _ Z1 (bU 3 _ Z1 (bU 2 _ Z1 (bU 1 _ Z1 (bU 0 _ (uT Z1 Z6) oV)))))) (by simp only [iB]; try rfl)
   ·
    rintro n2 s ⟨bH, a_1, b_2, i_8, j_9, rfl, hm⟩
    replace hm : cW mR (bR mR n1) (cJ mR (bR mR n1) n2) bH a_1 b_2 i_8 j_9 = some r := hm
    unfold cW at hm
    refine AWp.seq' (sd mix (by kernel_rfl) (N' := 128) rfl ?_)
    iterate 7 first | refine pA ?_ | refine pB ?_
    obtain ⟨x2, h1, hm⟩ := bnd hm
    refine pg rfl rfl Z2 (fun hb => (dR Tryz.underlying40 aS5 (Zh hb) (by simp only [bC, beq_self_eq_true, Nat.reduceBEq, cond_true, cond_false]; try rfl) Z6 (Zh hb) (cM h1 hb))) ?_
    refine pg rfl rfl Z2 (fun hb => (mE eN (Zh hb) (by simp only [bC, beq_self_eq_true, Nat.reduceBEq, cond_true, cond_false]; try rfl) (cM h1 hb) (fun _ => by simp only [go_sem, Nat.reduceBEq]; try with_reducible rfl))) ?_
    iterate 3 refine pB ?_
    obtain ⟨x4, h3, hm⟩ := bnd hm
    refine pg rfl rfl Z2 (fun hb => (dR Tryz.underlying40 aS5 (Zh hb) (by simp only [bC, beq_self_eq_true, Nat.reduceBEq, cond_true, cond_false]; try rfl) Z6 (Zh hb) (cM h3 hb))) ?_
    refine pg rfl rfl Z2 (fun hb => (mE eN (Zh hb) (by simp only [bC, beq_self_eq_true, Nat.reduceBEq, cond_true, cond_false]; try rfl) (cM h3 hb) (fun _ => by simp only [go_sem, Nat.reduceBEq]; try with_reducible rfl))) ?_
    obtain ⟨r6, h5, hm⟩ := bnd hm
    refine aU.callQCG (r := .v (.int .i64 r6)) Zd rfl Z2 (fun hb => (Zh hb)) aXc bHg (fun hb H => (.cons (td (Zh hb) (.agg _ (eN.dat _))) (.cons (td (Zh hb) (.agg _ (eN.dat _))) .nil))) (fun hb => bGq (cM h5 hb)) ?_
    iterate 2 first | refine pA ?_ | refine pB ?_
    refine fs (AWp.condM hm Z1 (fun _ hm => ?_) (fun _ hm => ?_))
    ·
     refine AWp.skip (bX (AWp.seq' (AWp.block (AWp.regD 64 mix (by kernel_rfl) (N' := 192) rfl ?_))))
     iterate 8 refine pA ?_
     obtain ⟨x8, h7, hm⟩ := bnd hm
     refine pu rfl (dR Tryz.underlying40 aS5 Z1 (by simp only [bC, beq_self_eq_true, Nat.reduceBEq, cond_true, cond_false]; try rfl) Z6 Z1 h7) ?_
     refine pu rfl (mE eN Z1 (by simp only [bC, beq_self_eq_true, Nat.reduceBEq, cond_true, cond_false]; try rfl) h7 (fun _ => by simp only [go_sem, Nat.reduceBEq]; try with_reducible rfl)) ?_
     iterate 2 refine pA ?_
     obtain ⟨x10, h9, hm⟩ := bnd hm
     refine pu rfl (dR Tryz.underlying40 aS5 Z1 (by simp only [bC, beq_self_eq_true, Nat.reduceBEq, cond_true, cond_false]; try rfl) Z6 Z1 h9) ?_
     refine pu rfl (mE eN Z1 (by simp only [bC, beq_self_eq_true, Nat.reduceBEq, cond_true, cond_false]; try rfl) h9 (fun _ => by simp only [go_sem, Nat.reduceBEq]; try with_reducible rfl)) ?_
     obtain ⟨x12, h11, hm⟩ := bnd hm
     refine pu rfl (dR Tryz.underlying40 aS5 Z1 (by simp only [bC, beq_self_eq_true, Nat.reduceBEq, cond_true, cond_false]; try rfl) Z6 Z1 h11) ?_
     obtain ⟨l14, h13, hm⟩ := bnd hm
     have qh13 := jU h13
     refine aU.heap0 (id := 143) rfl (xS eN aS5 Z1 Z1 (by simp only [bC, beq_self_eq_true, Nat.reduceBEq, cond_true, cond_false]; try rfl) rfl h13) ?_
     obtain ⟨x16, h15, hm⟩ := bnd hm
     refine pu rfl (dR Tryz.underlying40 aS5 Z1 (by simp only [bC, beq_self_eq_true, Nat.reduceBEq, cond_true, cond_false]; try rfl) Z6 Z1 h15) ?_
     obtain ⟨l18, h17, hm⟩ := bnd hm
     have qh17 := jU h17
     refine aU.heap0 (id := 145) rfl (xS eN aS5 Z1 Z1 (by simp only [bC, beq_self_eq_true, Nat.reduceBEq, cond_true, cond_false]; try rfl) rfl h17) ?_
     refine aU.fin (kP (bX (AWp.reg 64 (N' := 256) rfl ?_)))
     iterate 3 refine pA ?_
     refine aU.fin (gA ?_)
     refine ⟨_, ?_, l18, a_1, b_2, i_8, (IntKind.i64.wrap (j_9 - 1)), rfl, hm⟩
     exact uL (bU 9 _ Z1 (bU 8 _ Z1 (bU 3 _ Z1 (bU 2 _ Z1 (bU 1 _ Z1 (bU 0 _ (uT Z1 Z6) oV)))))) (by simp only [iB]; try rfl)
    ·
     refine AWp.exit (jB (gP (gN (kP (bX (AWp.reg 64 (N' := 192) rfl ?_))))))
     iterate 3 refine pA ?_
     refine aU.fin (gA ?_)
     refine ⟨_, ?_, bH, a_1, b_2, (IntKind.i64.wrap (i_8 + 1)), rfl, hm⟩
     exact uL (bU 8 _ Z1 (bU 3 _ Z1 (bU 2 _ Z1 (bU 1 _ Z1 (bU 0 _ (uT Z1 Z6) oV))))) (by simp only [iB]; try rfl)
  ·
   refine AWp.exit (jB (gP (gN ?_)))
   cases hm
   exact aPg (.inl rfl) Tryz.results156 (by simp only [iB]; try rfl)
def dX (aC0 : (aI → aI → Option (Int))) (rec1 : List aI → Int → Int → Int → Bool → Bool → Option (List aI)) (bH : List aI) (a_1 : Int) (b_2 : Int) (fJ : Int) (mV : Bool) (jF : Bool) : Option (List aI) :=
 (bif (decide ((IntKind.i64.wrap (b_2 - a_1)) ≤ 12)) then
  ((aC7 (fun x => x.length) bH.length (dE bH a_1 b_2 aC0)).bind fun l2 =>
  some l2)
 else
  (bif (fJ == 0) then
   none
  else
   none))
def dW (aC0 : (aI → aI → Option (Int))) : Nat → List aI → Int → Int → Int → Bool → Bool → Option (List aI)
 | 0 => fun _ _ _ _ _ _ => none
 | n + 1 => dX aC0 (dW aC0 n)
def fL (bH : List aI) (a_1 : Int) (b_2 : Int) (fJ : Int) (aC0 : (aI → aI → Option (Int))) : Option (List aI) :=
 dW aC0 bF bH a_1 b_2 fJ true true
theorem uR {bH : List aI} {a_1 : Int} {b_2 : Int} {fJ : Int} {aC0 : (aI → aI → Option (Int))} {r : List aI} (hm : fL bH a_1 b_2 fJ aC0 = some r) {aLf : FuncId} {aE1 : List AV} (aVb : ∀ a, a ∈ aE1 → AM.Data a) (bE5 : (Program.funcs Tryz.prog)[aLf]?.any (fun fn => fn.body.isSome && fn.name != "runtime.NumGoroutine") = true) (bG5 : ∀ {x0 x1 r}, aC0 x0 x1 = some r → aZ Tryz.prog aLf ([.agg [.v (.int .u64 x0.x0), .v (.int .u64 x0.x1)], .agg [.v (.int .u64 x1.x0), .v (.int .u64 x1.x1)]] ++ aE1) (.v (.int .i64 r))) {H : aJ} {i0 : Nat} (he : H.ent i0 = .cells 2 (bH.flatMap bJ) 0) : dO Tryz.prog 136 [.own i0 0 bH.length, .v (.int .i64 a_1), .v (.int .i64 b_2), .v (.int .i64 fJ), .clo (.func aLf) [] aE1] H (.tup []) (H.put i0 (.cells 2 (r.flatMap bJ) 0)) := by
 refine dO.of_bodyM Tryz.func136 rfl he ?_
 generalize H.ent = h0
 simp only [Tryz.ntmps136, List.length_cons, List.length_nil, Nat.reduceAdd, Nat.reduceSub]
 unfold fL at hm
 refine sN 64 (pA ?_)
 refine fs (sN 128 (pA ?_))
 refine fs (AWp.block (AWp.loopM (fun m s => ∃ (bH : List aI) (a_1 : Int) (b_2 : Int) (fJ : Int) (mV : Bool) (jF : Bool), s = (⟨148, (aF (aF (aF (aF (aF (aF (aF (fun _ => AV.any) 0 (.own i0 0 bH.length)) 1 (.v (.int .i64 a_1))) 2 (.v (.int .i64 b_2))) 3 (.v (.int .i64 fJ))) 4 (.clo (.func aLf) [] aE1)) 10 (.v (.bool mV))) 11 (.v (.bool jF))), ⟨(upd h0 i0 (.cells 2 (bH.flatMap bJ) 0)), 64⟩⟩ : St) ∧ dW aC0 m bH a_1 b_2 fJ mV jF = some r) bF ?_ ?_ ?_))
 ·
  rintro s ⟨_, _, _, _, _, _, _, h⟩
  cases h
 ·
  refine ⟨_, ?_, bH, a_1, b_2, fJ, true, true, rfl, hm⟩
  exact uL (bU 11 _ Z1 (bU 10 _ Z1 (bU 4 _ Z1 (bU 3 _ Z1 (bU 2 _ Z1 (bU 1 _ Z1 (bU 0 _ (uT Z1 Z6) oV))))))) (by simp only [iB]; try rfl)
 ·
  rintro n1 s ⟨bH, a_1, b_2, fJ, mV, jF, rfl, hm⟩
  replace hm : dX aC0 (dW aC0 n1) bH a_1 b_2 fJ mV jF = some r := hm
  unfold dX at hm
  refine AWp.block (sN 128 ?_)
  iterate 4 refine pA ?_
  refine fs (AWp.seq' (sN 192 ?_))
  iterate 2 refine pA ?_
  refine fs (AWp.condM hm Z1 (fun _ hm => ?_) (fun _ hm => ?_))
  ·
   refine sN 256 ?_
   iterate 4 refine pA ?_
   obtain ⟨l2, h1, hm⟩ := bnd hm
   have qh1 := aI6 h1
   refine aU.callM Zd Z1 bNs Z1 (pP (aGc h1) aVb bE5 bG5 (by simp only [bC, beq_self_eq_true, Nat.reduceBEq, cond_true, cond_false]; try rfl)) ?_
   refine fs (AWp.ret (jJ (aAb (yS (aAb ?_)))))
   cases hm
   exact aPg (.inr rfl) Tryz.results136 (by simp only [iB]; try rfl)
  ·
   refine AWp.skip (bX (AWp.seq' (sN 256 ?_)))
   iterate 2 refine pA ?_
   refine fs (AWp.condM hm Z1 (fun _ hm => ?_) (fun _ hm => ?_))
   ·
    cases hm
   ·
    cases hm
def eZ (x_0 : List aI) (aZx : (aI → aI → Option (Int))) : Option (List aI) :=
 ((zY (IntKind.u64.wrap (x_0.length : Int))).bind fun r2 =>
 ((aC7 (fun x => x.length) x_0.length (fL x_0 0 (x_0.length : Int) r2 aZx)).bind fun l4 =>
 some l4))
theorem aB8 {x_0 : List aI} {aZx : (aI → aI → Option (Int))} {r : List aI} (hm : eZ x_0 aZx = some r) {aQy : FuncId} {aIw : List AV} (aYs : ∀ a, a ∈ aIw → AM.Data a) (bGg : (Program.funcs Tryz.prog)[aQy]?.any (fun fn => fn.body.isSome && fn.name != "runtime.NumGoroutine") = true) (bFr : ∀ {x0 x1 r}, aZx x0 x1 = some r → aZ Tryz.prog aQy ([.agg [.v (.int .u64 x0.x0), .v (.int .u64 x0.x1)], .agg [.v (.int .u64 x1.x0), .v (.int .u64 x1.x1)]] ++ aIw) (.v (.int .i64 r))) {H : aJ} {i0 : Nat} (he : H.ent i0 = .cells 2 (x_0.flatMap bJ) 0) : dO Tryz.prog 104 [.own i0 0 x_0.length, .clo (.func aQy) [] aIw] H (.tup []) (H.put i0 (.cells 2 (r.flatMap bJ) 0)) := by
 refine dO.of_bodyM Tryz.func104 rfl he ?_
 generalize H.ent = h0
 simp only [Tryz.ntmps104, List.length_cons, List.length_nil, Nat.reduceAdd, Nat.reduceSub]
 unfold eZ at hm
 refine sN 64 ?_
 iterate 3 refine pA ?_
 refine fs (AWp.reg 64 (N' := 128) rfl ?_)
 iterate 4 refine pA ?_
 obtain ⟨r2, h1, hm⟩ := bnd hm
 refine aU.callQ (r := .v (.int .i64 r2)) Zd Z1 bLm (fun H => (cV .nil)) (aIg h1) ?_
 refine pA ?_
 obtain ⟨l4, h3, hm⟩ := bnd hm
 have qh3 := aI6 h3
 refine aU.callM Zd Z1 bNx Z1 (uR (aGc h3) aYs bGg bFr (by simp only [bC, beq_self_eq_true, Nat.reduceBEq, cond_true, cond_false]; try rfl)) ?_
 refine aU.fin ?_
 cases hm
 exact aPg (.inl rfl) Tryz.results104 (by simp only [iB]; try rfl)
def iM (x_0 : Int) (y_1 : Int) : Option (Int) :=
 ((eX x_0).bind fun r2 =>
 ((eX y_1).bind fun r4 =>
 (bif r2 then
  (bif r4 then
   some 0
  else
   some (-1))
 else
  (bif r4 then
   some 1
  else
   (bif (decide (x_0 < y_1)) then
    some (-1)
   else
    (bif (decide (y_1 < x_0)) then
     some 1
    else
     some 0))))))
theorem xK {x_0 : Int} {y_1 : Int} {r : Int} (hm : iM x_0 y_1 = some r) : aZ Tryz.prog 107 [vu x_0, vu y_1] (vi r) := by
 refine bd 20 Tryz.func107 ?_
 obtain ⟨r2, h1, hm⟩ := bnd hm
 refine W ?_
 refine cq (nJ h1) ?_
 obtain ⟨r4, h3, hm⟩ := bnd hm
 refine W ?_
 refine cq (nJ h3) ?_
 refine W ?_
 refine cm hm (fun hm => ?_) fun hm => ?_
 ·
  refine W ?_
  refine cm hm (fun hm => ?_) fun hm => ?_
  · exact E
  exact E
 refine W ?_
 refine cm hm (fun hm => ?_) fun hm => ?_
 · exact E
 refine W ?_
 refine cm hm (fun hm => ?_) fun hm => ?_
 · exact E
 refine W ?_
 refine cm hm (fun hm => ?_) fun hm => ?_
 · exact E
 exact E
end Go.Proofs.YtkdohhmacfoolaaGreat
