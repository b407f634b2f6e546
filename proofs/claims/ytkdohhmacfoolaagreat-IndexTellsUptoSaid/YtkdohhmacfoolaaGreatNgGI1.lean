/- Facts. No condition. -/
import Derived.Test.YtkdohhmacfoolaaGreatNgAmQ
import Derived.Test.YtkdohhmacfoolaaGreatNgSnP
set_option linter.unusedVariables false
set_option linter.unusedSimpArgs false
set_option maxRecDepth 20000
set_option maxHeartbeats 4000000
namespace Go.Proofs.YtkdohhmacfoolaaGreat
open Go.Proofs.Tryz Go Go.AM
structure bH where
 Do : Int
 A : Int
 B : Int
 Text : ByteArray
deriving DecidableEq
def dR (e : bH) : List AV := [.v (.int .i64 e.Do), .v (.int .u64 e.A), .v (.int .u64 e.B), .v (.string e.Text)]
theorem qX : CF dR 4 := ⟨fun _ => rfl, fun a x hx => by
 simp only [dR, List.mem_cons, List.not_mem_nil, or_false] at hx
 rcases hx with rfl | rfl | rfl | rfl
 ·
  exact (.v _)
 ·
  exact (.v _)
 ·
  exact (.v _)
 ·
  exact (.v _), fun _ => rfl⟩
instance : CC dR 4 := ⟨qX⟩
@[go_sem] theorem aIe (e : bH) (r : List AV) : dR e ++ r = .v (.int .i64 e.Do) :: .v (.int .u64 e.A) :: .v (.int .u64 e.B) :: .v (.string e.Text) :: r := rfl
structure bI where
 List : List Int
 At : Int
deriving DecidableEq
def aWz (e : bI) : List AV := [.sl (e.List.flatMap (ci .u64)) e.List.length false, .v (.int .i64 e.At)]
@[go_sem] theorem aO1 (e : bI) (r : List AV) : aWz e ++ r = .sl (e.List.flatMap (ci .u64)) e.List.length false :: .v (.int .i64 e.At) :: r := rfl
structure aM where
 Used : Bool
 Key : Int
deriving DecidableEq
def aY (e : aM) : List AV := [.v (.bool e.Used), .v (.int .u64 e.Key)]
theorem dX : CF aY 2 := ⟨fun _ => rfl, fun a x hx => by
 simp only [aY, List.mem_cons, List.not_mem_nil, or_false] at hx
 rcases hx with rfl | rfl
 ·
  exact (.v _)
 ·
  exact (.v _), fun _ => rfl⟩
instance : CC aY 2 := ⟨dX⟩
@[go_sem] theorem aO3 (e : aM) (r : List AV) : aY e ++ r = .v (.bool e.Used) :: .v (.int .u64 e.Key) :: r := rfl
structure aD where
 Graph : aI
 Slots : List aM
deriving DecidableEq
def aX1 (e : aD) : List AV := [.v (.int .i64 e.Graph.Config.N), .v (.int .i64 e.Graph.Config.L), .v (.int .i64 e.Graph.Config.R), .sl (e.Graph.Hashes.flatMap bE) e.Graph.Hashes.length false, .sl (e.Graph.Edges.flatMap aO) e.Graph.Edges.length false, .sl (e.Slots.flatMap aY) e.Slots.length false]
@[go_sem] theorem aO2 (e : aD) (r : List AV) : aX1 e ++ r = .v (.int .i64 e.Graph.Config.N) :: .v (.int .i64 e.Graph.Config.L) :: .v (.int .i64 e.Graph.Config.R) :: .sl (e.Graph.Hashes.flatMap bE) e.Graph.Hashes.length false :: .sl (e.Graph.Edges.flatMap aO) e.Graph.Edges.length false :: .sl (e.Slots.flatMap aY) e.Slots.length false :: r := rfl
structure bN where
 Key : Int
 N : Int
deriving DecidableEq
def uE (e : bN) : List AV := [.v (.int .u64 e.Key), .v (.int .i64 e.N)]
theorem eZ : CF uE 2 := ⟨fun _ => rfl, fun a x hx => by
 simp only [uE, List.mem_cons, List.not_mem_nil, or_false] at hx
 rcases hx with rfl | rfl
 ·
  exact (.v _)
 ·
  exact (.v _), fun _ => rfl⟩
instance : CC uE 2 := ⟨eZ⟩
@[go_sem] theorem aPc (e : bN) (r : List AV) : uE e ++ r = .v (.int .u64 e.Key) :: .v (.int .i64 e.N) :: r := rfl
inductive aB where
 | nil
 | mk (ahead : aB) (behind : aB) (thing : bN) (height : Int) (size : Int)
def aB.ahead : aB → aB
 | .nil => aB.nil
 | .mk ahead behind thing height size => ahead
def aB.behind : aB → aB
 | .nil => aB.nil
 | .mk ahead behind thing height size => behind
def aB.thing : aB → bN
 | .nil => (bN.mk 0 0)
 | .mk ahead behind thing height size => thing
def aB.height : aB → Int
 | .nil => 0
 | .mk ahead behind thing height size => height
def aB.size : aB → Int
 | .nil => 0
 | .mk ahead behind thing height size => size
def aB.nn : aB → Bool
 | .nil => false
 | .mk _ _ _ _ _ => true
def aB.av : aB → AV
 | .nil => .v (.pointer none)
 | .mk ahead behind thing height size => .ptr [ahead.av, behind.av, .v (.int .u64 thing.Key), .v (.int .i64 thing.N), .v (.int .i64 height), .v (.int .i64 size)]
theorem aB.data : (e : aB) → AM.Data e.av
 | .nil => .v _
 | .mk ahead behind thing height size => .ptr _ (fun a hx => by
  simp only [List.mem_cons, List.not_mem_nil, or_false] at hx
  rcases hx with rfl | rfl | rfl | rfl | rfl | rfl
  ·
   exact ahead.data
  ·
   exact behind.data
  ·
   exact (.v _)
  ·
   exact (.v _)
  ·
   exact (.v _)
  ·
   exact (.v _))
theorem aB.av_nn {e : aB} (h : e.nn = true) : e.av = .ptr [aB.av e.ahead, aB.av e.behind, .v (.int .u64 e.thing.Key), .v (.int .i64 e.thing.N), .v (.int .i64 e.height), .v (.int .i64 e.size)] := by
 cases e with
 | nil => cases h
 | mk ahead behind thing height size => rfl
theorem aB.isn (e : aB) : ((!e.nn) = true ∧ e.av = .v (.pointer none)) ∨ ((!e.nn) = false ∧ ∃ xs, e.av = .ptr xs) := by
 cases e with
 | nil => exact .inl ⟨rfl, rfl⟩
 | mk ahead behind thing height size => exact .inr ⟨rfl, _, rfl⟩
theorem aB.cells (e : aB) : e.av.cells? = some [e.av] := by cases e <;> rfl
theorem aB.one (e : aB) : e.av.one = true := by cases e <;> rfl
structure bZ where
 s : aB
def zE (e : bZ) : List AV := [aB.av e.s]
theorem aAh : CF zE 1 := ⟨fun _ => rfl, fun a x hx => by
 simp only [zE, List.mem_cons, List.not_mem_nil, or_false] at hx
 rcases hx with rfl
 ·
  exact (aB.data a.s), fun e => by unfold zE; simp only [List.all_cons, List.all_nil, Bool.and_true, aB.one]; try rfl⟩
instance : CC zE 1 := ⟨aAh⟩
@[go_sem] theorem aPb (e : bZ) (r : List AV) : zE e ++ r = aB.av e.s :: r := rfl
theorem bJ0 {a0 : AV} (a0h : a0.cells? = some [a0]) : aF5 prog 130 [(0, a0)] = some (.agg [a0]) := by
 unfold aF5
 rw [bQl, underlying130]
 simp only []
 rw [(by kernel_rfl : placesOf prog _ = some [(0, 1)])]
 simp only []
 simp [sE, a0h, aSr, aSs, aPh]
theorem bJ1 {a0 : AV} {a1 : AV} {a2_Key : Int} {a2_N : Int} {a3 : Int} {a4 : Int} (a0h : a0.cells? = some [a0]) (a1h : a1.cells? = some [a1]) : aF5 prog 192 [(0, a0), (1, a1), (2, .agg [.v (.int .u64 a2_Key), .v (.int .i64 a2_N)]), (3, .v (.int .i64 a3)), (4, .v (.int .i64 a4))] = some (.agg [a0, a1, .v (.int .u64 a2_Key), .v (.int .i64 a2_N), .v (.int .i64 a3), .v (.int .i64 a4)]) := by
 unfold aF5
 rw [bYu, underlying192]
 simp only []
 rw [(by kernel_rfl : placesOf prog _ = some [(0, 1), (1, 1), (2, 2), (4, 1), (5, 1)])]
 simp only []
 simp [sE, a0h, a1h, aSr, aSs, aPh]
@[go_sem] theorem bAh (xs : List AV) : aJ prog 104 (.ptr (xs)) 0 = some (.ptr xs) := by kernel_rfl
@[go_sem] theorem bAi (x0 : AV) (xs : List AV) : aJ prog 104 (.ptr (x0 :: xs)) 1 = some (.ptr xs) := by kernel_rfl
@[go_sem] theorem bAm (xs : List AV) : aJ prog 130 (.ptr (xs)) 0 = some (.ptr xs) := by kernel_rfl
@[go_sem] theorem bAp (xs : List AV) : aJ prog 192 (.ptr (xs)) 0 = some (.ptr xs) := by kernel_rfl
@[go_sem] theorem bAq (x0 : AV) (xs : List AV) : aJ prog 192 (.ptr (x0 :: xs)) 1 = some (.ptr xs) := by kernel_rfl
@[go_sem] theorem bAr (x0 : AV) (x1 : AV) (xs : List AV) : aJ prog 192 (.ptr (x0 :: x1 :: xs)) 2 = some (.ptr xs) := by kernel_rfl
@[go_sem] theorem bAs (x0 : AV) (x1 : AV) (x2 : AV) (x3 : AV) (xs : List AV) : aJ prog 192 (.ptr (x0 :: x1 :: x2 :: x3 :: xs)) 3 = some (.ptr xs) := by kernel_rfl
@[go_sem] theorem bAt (x0 : AV) (x1 : AV) (x2 : AV) (x3 : AV) (x4 : AV) (xs : List AV) : aJ prog 192 (.ptr (x0 :: x1 :: x2 :: x3 :: x4 :: xs)) 4 = some (.ptr xs) := by kernel_rfl
@[go_sem] theorem bAz (i o : Nat) : aJ prog 102 (.adr i o) 0 = some (.adr i (o + 0)) := by kernel_rfl
@[go_sem] theorem bB6 (i o : Nat) : aJ prog 102 (.adr i o) 1 = some (.adr i (o + 1)) := by kernel_rfl
@[go_sem] theorem bBf (i o : Nat) : aJ prog 104 (.adr i o) 0 = some (.adr i (o + 0)) := by kernel_rfl
@[go_sem] theorem bBh (i o : Nat) : aJ prog 104 (.adr i o) 1 = some (.adr i (o + 1)) := by kernel_rfl
@[go_sem] theorem bBp (i o : Nat) : aJ prog 130 (.adr i o) 0 = some (.adr i (o + 0)) := by kernel_rfl
@[go_sem] theorem bBs (i o : Nat) : aJ prog 158 (.adr i o) 0 = some (.adr i (o + 0)) := by kernel_rfl
@[go_sem] theorem bBt (i o : Nat) : aJ prog 158 (.adr i o) 1 = some (.adr i (o + 1)) := by kernel_rfl
@[go_sem] theorem bFw (i o : Nat) : aJ prog 23 (.adr i o) 0 = some (.adr i (o + 0)) := by kernel_rfl
@[go_sem] theorem bG2 (i o : Nat) : aJ prog 23 (.adr i o) 1 = some (.adr i (o + 1)) := by kernel_rfl
@[go_sem] theorem bG7 (i o : Nat) : aJ prog 23 (.adr i o) 2 = some (.adr i (o + 2)) := by kernel_rfl
@[go_sem] theorem bGd (i o : Nat) : aJ prog 30 (.adr i o) 0 = some (.adr i (o + 0)) := by kernel_rfl
@[go_sem] theorem bGn (i o : Nat) : aJ prog 30 (.adr i o) 2 = some (.adr i (o + 4)) := by kernel_rfl
@[go_sem] theorem bGq (i o : Nat) : aJ prog 33 (.adr i o) 0 = some (.adr i (o + 0)) := by kernel_rfl
@[go_sem] theorem bGt (i o : Nat) : aJ prog 33 (.adr i o) 1 = some (.adr i (o + 5)) := by kernel_rfl
@[go_sem] theorem bGw (i o : Nat) : aJ prog 35 (.adr i o) 0 = some (.adr i (o + 0)) := by kernel_rfl
@[go_sem] theorem bGx (i o : Nat) : aJ prog 35 (.adr i o) 1 = some (.adr i (o + 1)) := by kernel_rfl
@[go_sem] theorem bHb (i o : Nat) : aJ prog 45 (.adr i o) 3 = some (.adr i (o + 3)) := by kernel_rfl
@[go_sem] theorem bKg (H : aN) (x0 x1 x2 : AV) (xs : List AV) : bS prog H 102 (.ptr (x0 :: x1 :: x2 :: xs)) = some (.agg [x0, x1, x2]) := by kernel_rfl
@[go_sem] theorem bKj (H : aN) (x0 x1 : AV) (xs : List AV) : bS prog H 104 (.ptr (x0 :: x1 :: xs)) = some (.agg [x0, x1]) := by kernel_rfl
@[go_sem] theorem bKo (H : aN) (x : AV) (xs : List AV) : bS prog H 128 (.ptr (x :: xs)) = some x := by kernel_rfl
@[go_sem] theorem bKp (H : aN) (x0 : AV) (xs : List AV) : bS prog H 130 (.ptr (x0 :: xs)) = some (.agg [x0]) := by kernel_rfl
@[go_sem] theorem bKt (H : aN) (x0 x1 : AV) (xs : List AV) : bS prog H 158 (.ptr (x0 :: x1 :: xs)) = some (.agg [x0, x1]) := by kernel_rfl
@[go_sem] theorem bNo (H : aN) (x0 x1 x2 : AV) (xs : List AV) : bS prog H 23 (.ptr (x0 :: x1 :: x2 :: xs)) = some (.agg [x0, x1, x2]) := by kernel_rfl
@[go_sem] theorem bNs (H : aN) (x : AV) (xs : List AV) : bS prog H 24 (.ptr (x :: xs)) = some x := by kernel_rfl
@[go_sem] theorem bO2 (H : aN) (x : AV) (xs : List AV) : bS prog H 28 (.ptr (x :: xs)) = some x := by kernel_rfl
@[go_sem] theorem bRc (H : aN) (x : AV) (xs : List AV) : bS prog H 3 (.ptr (x :: xs)) = some x := by kernel_rfl
@[go_sem] theorem bO8 (H : aN) (x0 x1 x2 x3 x4 : AV) (xs : List AV) : bS prog H 30 (.ptr (x0 :: x1 :: x2 :: x3 :: x4 :: xs)) = some (.agg [x0, x1, x2, x3, x4]) := by kernel_rfl
@[go_sem] theorem bOb (H : aN) (x : AV) (xs : List AV) : bS prog H 31 (.ptr (x :: xs)) = some x := by kernel_rfl
@[go_sem] theorem bOe (H : aN) (x0 x1 x2 x3 x4 x5 : AV) (xs : List AV) : bS prog H 33 (.ptr (x0 :: x1 :: x2 :: x3 :: x4 :: x5 :: xs)) = some (.agg [x0, x1, x2, x3, x4, x5]) := by kernel_rfl
@[go_sem] theorem bOh (H : aN) (x0 x1 : AV) (xs : List AV) : bS prog H 35 (.ptr (x0 :: x1 :: xs)) = some (.agg [x0, x1]) := by kernel_rfl
@[go_sem] theorem bRh (H : aN) (x : AV) (xs : List AV) : bS prog H 4 (.ptr (x :: xs)) = some x := by kernel_rfl
@[go_sem] theorem bOp (H : aN) (x : AV) (xs : List AV) : bS prog H 43 (.ptr (x :: xs)) = some x := by kernel_rfl
@[go_sem] theorem bOs (H : aN) (x0 x1 x2 x3 : AV) (xs : List AV) : bS prog H 45 (.ptr (x0 :: x1 :: x2 :: x3 :: xs)) = some (.agg [x0, x1, x2, x3]) := by kernel_rfl
@[go_sem] theorem bP0 (H : aN) (x0 x1 : AV) (xs : List AV) : bS prog H 69 (.ptr (x0 :: x1 :: xs)) = some (.agg [x0, x1]) := by kernel_rfl
@[go_sem] theorem bRk (H : aN) (x : AV) (xs : List AV) : bS prog H 9 (.ptr (x :: xs)) = some x := by kernel_rfl
@[go_sem] theorem bA6 (H : aN) (k : IntKind) (n : Int) : mU prog H 3 198 (.v (.int k n)) = some (.v (.int .u64 (IntKind.u64.wrap n))) := gO underlying3 underlying198
@[go_sem] theorem bA2 (H : aN) (k : IntKind) (n : Int) : mU prog H 198 3 (.v (.int k n)) = some (.v (.int .i64 (IntKind.i64.wrap n))) := gO underlying198 underlying3
def aFu (rec1 : Int → List bH → Int → Int → Option (Int)) (n_7 : Int) (t29 : List bH) (t30 : Int) (t31 : Int) : Option (Int) :=
 (bif (decide (t31 < t30)) then
  ((idx t29 t31).bind fun x4 =>
  (bif (decide (1000 < (x4.Text.size : Int))) then
   some (-1)
  else
   rec1 n_7 t29 t30 (IntKind.i64.wrap (t31 + 1))))
 else
  some n_7)
def wE : Nat → Int → List bH → Int → Int → Option (Int)
 | 0 => fun _ _ _ _ => none
 | n + 1 => aFu (wE n)
def uL (c_0 : aT) (l_1 : List bH) (aDg : Int) : Option (Int) :=
 (bif (((decide (10 < c_0.N)) || (decide (4 < c_0.L))) || (decide (3 < c_0.R))) then
  some (-1)
 else
  ((slc l_1 0 (if aDg < (l_1.length : Int) then aDg else (l_1.length : Int))).bind fun l2 =>
  wE bF (if aDg < (l_1.length : Int) then aDg else (l_1.length : Int)) l2 (l2.length : Int) 0))
theorem bCb {c_0 : aT} {l_1 : List bH} {aDg : Int} {r : Int} (hm : uL c_0 l_1 aDg = some r) : bC prog 12 [.agg [vi c_0.N, vi c_0.L, vi c_0.R], vl dR l_1, vi aDg] (vi r) := by
 refine bd 41 func12 ?_
 refine W ?_
 refine cm hm (fun hm => ?_) fun hm => ?_
 · exact E
 obtain ⟨l2, h1, hm⟩ := bnd hm
 refine W ?_
 refine lp (fun m s => ∃ n_7 t29 t30 t31, s = ⟨41, (aE (aE (aE (aE fa 7 (vi n_7)) 29 (vl dR t29)) 30 (vi t30)) 31 (vi t31)), ⟨aV, 64⟩⟩ ∧ wE m n_7 t29 t30 t31 = some r) ?_ ?_
 ·
  refine ⟨_, ?_, (if aDg < (l_1.length : Int) then aDg else (l_1.length : Int)), l2, (l2.length : Int), 0, rfl, hm⟩
  refine St.Le.trans (bCe 29 (.sl (l2.flatMap dR) l2.length false) (fun H => (tdf Z1 (qX.sl _ _ _)))) ?_
  exact cn id
 rintro n1 s ⟨n_7, t29, t30, t31, rfl, hm⟩
 refine W ?_
 refine cm hm (fun hm => ?_) fun hm => ?_
 ·
  obtain ⟨x4, h3, hm⟩ := bnd hm
  refine W ?_
  refine cm hm (fun hm => ?_) fun hm => ?_
  · exact E
  exact L
 exact E
def rR (w_0 : bI) : Option (Bool) :=
 some ((decide (0 ≤ w_0.At)) && (decide (w_0.At ≤ (w_0.List.length : Int))))
theorem aN0 {w_0 : bI} {r : Bool} (hm : rR w_0 = some r) : bC prog 67 [.agg [vl (ci .u64) w_0.List, vi w_0.At]] (vb r) := by
 refine bd 14 func67 ?_
 exact E
def aD1 (rec1 : bI → bI → Int → Option (Int × bI × Int)) (w_1 : bI) (t3 : bI) (aJo : Int) : Option (Int × bI × Int) :=
 (bif (decide (aJo < (w_1.List.length : Int))) then
  ((idx w_1.List aJo).bind fun x4 =>
  (bif (decide ((aF8 .u64 x4 2305843009213693951) < 2305843009213693951)) then
   some ((aF8 .u64 x4 2305843009213693951), (bI.mk w_1.List (IntKind.i64.wrap (aJo + 1))), 0)
  else
   rec1 w_1 t3 (IntKind.i64.wrap (aJo + 1))))
 else
  some (0, w_1, 5))
def sM : Nat → bI → bI → Int → Option (Int × bI × Int)
 | 0 => fun _ _ _ => none
 | n + 1 => aD1 (sM n)
def vV (w_0 : bI) : Option (Int × bI × Int) :=
 ((rR w_0).bind fun r2 =>
 (bif (!r2) then
  some (0, w_0, 1)
 else
  sM bF w_0 (bI.mk [] 0) w_0.At))
theorem aMz {w_0 : bI} {r : Int × bI × Int} (hm : vV w_0 = some r) : bC prog 68 [.agg [vl (ci .u64) w_0.List, vi w_0.At]] (.tup [vu r.1, .agg [vl (ci .u64) r.2.1.List, vi r.2.1.At], vi r.2.2]) := by
 refine bd 35 func68 ?_
 obtain ⟨r2, h1, hm⟩ := bnd hm
 refine W ?_
 refine cq (aN0 h1) ?_
 refine W ?_
 refine cm hm (fun hm => ?_) fun hm => ?_
 · exact E
 refine W ?_
 refine lp (fun m s => ∃ w_1 t3 aJo, s = ⟨35, (aE (aE (aE fa 1 (.adr 1 0)) 3 (.adr 2 0)) 5 (vi aJo)), ⟨(upd (upd aV 1 (.cells 1 [vl (ci .u64) w_1.List, vi w_1.At] 0)) 2 (.cells 1 [vl (ci .u64) t3.List, vi t3.At] 0)), 64⟩⟩ ∧ sM m w_1 t3 aJo = some r) ?_ ?_
 ·
  refine ⟨_, ?_, w_0, (bI.mk [] 0), w_0.At, rfl, hm⟩
  refine St.Le.trans (jQ 2 (ys := [.sl (((bI.mk [] 0).List).flatMap (ci .u64)) ((bI.mk [] 0).List).length false, .v (.int .i64 ((bI.mk [] 0).At))]) Z3 (.cons (.nil false) (.cons (.data _ (.v _)) .nil))) ?_
  exact cn (fun j => bif j == 1 then 0 else bif j == 2 then 2 else 0)
 rintro n1 s ⟨w_1, t3, aJo, rfl, hm⟩
 refine W ?_
 refine cm hm (fun hm => ?_) fun hm => ?_
 ·
  obtain ⟨x4, h3, hm⟩ := bnd hm
  refine W ?_
  refine cm hm (fun hm => ?_) fun hm => ?_
  ·
   refine W ?_
   refine bU (.agg [vl (ci .u64) w_1.List, .v (.int .i64 (IntKind.i64.wrap (aJo + 1)))]) ?_
   exact E
  refine W ?_
  exact Lr (fun j => bif j == 1 then 1 else bif j == 2 then 2 else 0)
 exact E
def qC (rec1 : bI → bI → List bV → bI → Int → Int → Option ((List bV) × bI × Int)) (w_2 : bI) (t5 : bI) (vY : List bV) (aIy : bI) (t31 : Int) (t32 : Int) : Option ((List bV) × bI × Int) :=
 (bif (decide (t32 < t31)) then
  ((vV aIy).bind fun ⟨r6, r7, r8⟩ =>
  (bif (r8 != 0) then
   some ([], w_2, r8)
  else
   ((vV r7).bind fun ⟨r10, r11, r12⟩ =>
   (bif (r12 != 0) then
    some ([], w_2, r12)
   else
    ((idx vY t32).bind fun x14 =>
    ((stt vY t32 (bV.mk r6 r10)).bind fun l16 =>
    rec1 w_2 t5 l16 r11 t31 (IntKind.i64.wrap (t32 + 1))))))))
 else
  some (vY, aIy, 0))
def mE : Nat → bI → bI → List bV → bI → Int → Int → Option ((List bV) × bI × Int)
 | 0 => fun _ _ _ _ _ _ => none
 | n + 1 => qC (mE n)
def sO (w_0 : bI) (n_1 : Int) : Option ((List bV) × bI × Int) :=
 ((rR w_0).bind fun r2 =>
 (bif (((!r2) || (decide (n_1 < 0))) || (decide (128 < n_1))) then
  some ([], w_0, 1)
 else
  ((mkc n_1 n_1 (bV.mk 0 0)).bind fun l4 =>
  mE bF w_0 (bI.mk [] 0) l4 w_0 (l4.length : Int) 0)))
theorem aUr {w_0 : bI} {n_1 : Int} {r : (List bV) × bI × Int} (hm : sO w_0 n_1 = some r) : bC prog 35 [.agg [vl (ci .u64) w_0.List, vi w_0.At], vi n_1] (.tup [vl bE r.1, .agg [vl (ci .u64) r.2.1.List, vi r.2.1.At], vi r.2.2]) := by
 refine bd 65 func35 ?_
 obtain ⟨r2, h1, hm⟩ := bnd hm
 refine W ?_
 refine cq (aN0 h1) ?_
 refine W ?_
 refine cm hm (fun hm => ?_) fun hm => ?_
 · exact E
 obtain ⟨l4, h3, hm⟩ := bnd hm
 refine W ?_
 refine aK mP h3 ?_
 refine W ?_
 refine lp (fun m s => ∃ w_2 t5 vY aIy t31 t32, s = ⟨65, (aE (aE (aE (aE (aE (aE fa 2 (.adr 1 0)) 5 (.adr 2 0)) 7 (.own 3 0 vY.length)) 8 (.adr 4 0)) 31 (vi t31)) 32 (vi t32)), ⟨(upd (upd (upd (upd aV 1 (.cells 1 [vl (ci .u64) w_2.List, vi w_2.At] 0)) 2 (.cells 1 [vl (ci .u64) t5.List, vi t5.At] 0)) 3 (.cells 2 (vY.flatMap bE) 0)) 4 (.cells 1 [vl (ci .u64) aIy.List, vi aIy.At] 0)), 64⟩⟩ ∧ mE m w_2 t5 vY aIy t31 t32 = some r) ?_ ?_
 ·
  refine ⟨_, ?_, w_0, (bI.mk [] 0), l4, w_0, (l4.length : Int), 0, rfl, hm⟩
  refine St.Le.trans (jQ 2 (ys := [.sl (((bI.mk [] 0).List).flatMap (ci .u64)) ((bI.mk [] 0).List).length false, .v (.int .i64 ((bI.mk [] 0).At))]) Z3 (.cons (.nil false) (.cons (.data _ (.v _)) .nil))) ?_
  exact cn (fun j => bif j == 1 then 0 else bif j == 2 then 2 else bif j == 3 then 129 else bif j == 4 then 193 else 0)
 rintro n1 s ⟨w_2, t5, vY, aIy, t31, t32, rfl, hm⟩
 refine W ?_
 refine cm hm (fun hm => ?_) fun hm => ?_
 ·
  refine W ?_
  obtain ⟨⟨r6, r7, r8⟩, h5, hm⟩ := bnd hm
  refine cq (aMz h5) ?_
  refine W ?_
  refine cm hm (fun hm => ?_) fun hm => ?_
  · exact E
  refine W ?_
  obtain ⟨⟨r10, r11, r12⟩, h9, hm⟩ := bnd hm
  refine cq (aMz h9) ?_
  refine W ?_
  refine cm hm (fun hm => ?_) fun hm => ?_
  · exact E
  refine W ?_
  refine bU (.agg [vu r6, vu r10]) ?_
  obtain ⟨x14, h13, hm⟩ := bnd hm
  obtain ⟨l16, h15, hm⟩ := bnd hm
  refine W ?_
  have qh15 := jI h15
  refine aS h15 ?_
  refine W ?_
  exact Lr (fun j => bif j == 1 then 1 else bif j == 2 then 2 else bif j == 3 then 3 else bif j == 4 then 4 else 0)
 exact E
def oX (n_0 : Int) : Option (Bool) :=
 some ((decide (1 ≤ n_0)) && (decide (n_0 ≤ 1024)))
theorem aL7 {n_0 : Int} {r : Bool} (hm : oX n_0 = some r) : bC prog 70 [vi n_0] (vb r) := by
 refine bd 9 func70 ?_
 exact E
def aJf (n_0 : Int) : Option ((List aM) × Int) :=
 ((oX n_0).bind fun r2 =>
 (bif (!r2) then
  some ([], 1)
 else
  ((mkc n_0 n_0 (aM.mk false 0)).bind fun l4 =>
  some (l4, 0))))
theorem bD6 {n_0 : Int} {r : (List aM) × Int} (hm : aJf n_0 = some r) : bC prog 37 [vi n_0] (.tup [vl aY r.1, vi r.2]) := by
 refine bd 9 func37 ?_
 obtain ⟨r2, h1, hm⟩ := bnd hm
 refine W ?_
 refine cq (aL7 h1) ?_
 refine W ?_
 refine cm hm (fun hm => ?_) fun hm => ?_
 · exact E
 obtain ⟨l4, h3, hm⟩ := bnd hm
 refine W ?_
 refine aK dX h3 ?_
 exact E
def lI (c_0 : aT) (w_1 : bI) : Option (aD × bI × Int) :=
 (bif ((((((decide (c_0.N < 1)) || (decide (1024 < c_0.N))) || (decide (c_0.L < 1))) || (decide (16 < c_0.L))) || (decide (c_0.R < 1))) || (decide (8 < c_0.R))) then
  some ((aD.mk (aI.mk (aT.mk 0 0 0) [] []) []), w_1, 1)
 else
  ((sO w_1 (IntKind.i64.wrap (c_0.L * c_0.R))).bind fun ⟨r2, r3, r4⟩ =>
  (bif (r4 != 0) then
   some ((aD.mk (aI.mk (aT.mk 0 0 0) [] []) []), w_1, r4)
  else
   ((aEq c_0 r2).bind fun ⟨r6, r7⟩ =>
   (bif (r7 != 0) then
    some ((aD.mk (aI.mk (aT.mk 0 0 0) [] []) []), w_1, r7)
   else
    ((aJf c_0.N).bind fun ⟨r9, r10⟩ =>
    (bif (r10 != 0) then
     some ((aD.mk (aI.mk (aT.mk 0 0 0) [] []) []), w_1, r10)
    else
     some ((aD.mk r6 r9), r3, 0))))))))
theorem aQ1 {c_0 : aT} {w_1 : bI} {r : aD × bI × Int} (hm : lI c_0 w_1 = some r) : bC prog 13 [.agg [vi c_0.N, vi c_0.L, vi c_0.R], .agg [vl (ci .u64) w_1.List, vi w_1.At]] (.tup [.agg [vi r.1.Graph.Config.N, vi r.1.Graph.Config.L, vi r.1.Graph.Config.R, vl bE r.1.Graph.Hashes, vl aO r.1.Graph.Edges, vl aY r.1.Slots], .agg [vl (ci .u64) r.2.1.List, vi r.2.1.At], vi r.2.2]) := by
 refine bd 84 func13 ?_
 refine W ?_
 refine cm hm (fun hm => ?_) fun hm => ?_
 ·
  refine W ?_
  refine AWp.regV [(3, 1), (4, 2), (5, 3)] 64 mix (by kernel_rfl) (by kernel_rfl) (IV.cons (off := 0) Z1 (IV.cons (off := 0) Z1 (IV.cons (off := 0) Z1 IV.nil))) (N' := 192) rfl ?_
  refine bU (.agg [vi 0, vi 0, vi 0, .v (.slice none 0 0), .v (.slice none 0 0), .v (.slice none 0 0)]) ?_
  exact E
 refine W ?_
 obtain ⟨⟨r2, r3, r4⟩, h1, hm⟩ := bnd hm
 refine cq (aUr h1) ?_
 refine W ?_
 refine cm hm (fun hm => ?_) fun hm => ?_
 ·
  refine W ?_
  refine AWp.regV [(3, 1), (4, 2), (5, 3)] 64 mix (by kernel_rfl) (by kernel_rfl) (IV.cons (off := 0) Z1 (IV.cons (off := 0) Z1 (IV.cons (off := 0) Z1 IV.nil))) (N' := 320) rfl ?_
  refine bU (.agg [vi 0, vi 0, vi 0, .v (.slice none 0 0), .v (.slice none 0 0), .v (.slice none 0 0)]) ?_
  exact E
 refine W ?_
 obtain ⟨⟨r6, r7⟩, h5, hm⟩ := bnd hm
 refine cq (bD4 h5) ?_
 refine W ?_
 refine cm hm (fun hm => ?_) fun hm => ?_
 ·
  refine W ?_
  refine AWp.regV [(3, 1), (4, 2), (5, 3)] 64 mix (by kernel_rfl) (by kernel_rfl) (IV.cons (off := 0) Z1 (IV.cons (off := 0) Z1 (IV.cons (off := 0) Z1 IV.nil))) (N' := 448) rfl ?_
  refine bU (.agg [vi 0, vi 0, vi 0, .v (.slice none 0 0), .v (.slice none 0 0), .v (.slice none 0 0)]) ?_
  exact E
 refine W ?_
 obtain ⟨⟨r9, r10⟩, h8, hm⟩ := bnd hm
 refine cq (bD6 h8) ?_
 refine W ?_
 refine cm hm (fun hm => ?_) fun hm => ?_
 ·
  refine W ?_
  refine AWp.regV [(3, 1), (4, 2), (5, 3)] 64 mix (by kernel_rfl) (by kernel_rfl) (IV.cons (off := 0) Z1 (IV.cons (off := 0) Z1 (IV.cons (off := 0) Z1 IV.nil))) (N' := 576) rfl ?_
  refine bU (.agg [vi 0, vi 0, vi 0, .v (.slice none 0 0), .v (.slice none 0 0), .v (.slice none 0 0)]) ?_
  exact E
 refine W ?_
 refine AWp.regV [(4, 2), (5, 3), (8, 139), (10, 262)] 64 mix (by kernel_rfl) (by kernel_rfl) (IV.cons (off := 0) Z1 (IV.cons (off := 0) Z1 (IV.cons (off := 0) Z1 (IV.cons (off := 0) Z1 IV.nil)))) (N' := 576) rfl ?_
 refine W ?_
 refine bU (.agg [vi r6.Config.N, vi r6.Config.L, vi r6.Config.R, vl bE r6.Hashes, vl aO r6.Edges, vl aY r9]) ?_
 exact E
def gY (s_0 : aB) : Option (Int) :=
 (bif (!s_0.nn) then
  some 0
 else
  ((chk s_0.nn).bind fun _ =>
  some s_0.size))
theorem lO {s_0 : aB} {r : Int} (hm : gY s_0 = some r) : bC prog 128 [aB.av s_0] (vi r) := by
 refine bd 9 func128 ?_
 refine W ?_
 refine pu rfl (bIp underlying128 Z1 (aB.isn s_0) Z1) ?_
 refine W ?_
 refine cm hm (fun hm => ?_) fun hm => ?_
 · exact E
 obtain ⟨_, h1, hm⟩ := bnd hm
 exact E
def aEg (rec1 : aB → Int → bN → Option (bN × Bool)) (s_0 : aB) (i_1 : Int) (t4 : bN) : Option (bN × Bool) :=
 ((chk s_0.nn).bind fun _ =>
 ((gY s_0.ahead).bind fun r5 =>
 (bif (decide (i_1 < r5)) then
  ((chk s_0.nn).bind fun _ =>
  rec1 s_0.ahead i_1 t4)
 else
  (bif (decide (r5 < i_1)) then
   ((chk s_0.nn).bind fun _ =>
   rec1 s_0.behind (IntKind.i64.wrap (i_1 - (IntKind.i64.wrap (r5 + 1)))) t4)
  else
   ((chk s_0.nn).bind fun _ =>
   some (s_0.thing, true))))))
def tR : Nat → aB → Int → bN → Option (bN × Bool)
 | 0 => fun _ _ _ => none
 | n + 1 => aEg (tR n)
def nT (s_0 : aB) (i_1 : Int) : Option (bN × Bool) :=
 ((eP ((decide (i_1 < 0)) == false) 0 (gY s_0)).bind fun r2 =>
 (bif ((decide (i_1 < 0)) || (decide (r2 ≤ i_1))) then
  some ((bN.mk 0 0), false)
 else
  tR bF s_0 i_1 (bN.mk 0 0)))
theorem aB2 {s_0 : aB} {i_1 : Int} {r : bN × Bool} (hm : nT s_0 i_1 = some r) : bC prog 97 [aB.av s_0, vi i_1] (.tup [.agg [vu r.1.Key, vi r.1.N], vb r.2]) := by
 refine bd 46 func97 ?_
 obtain ⟨r2, h1, hm⟩ := bnd hm
 refine W ?_
 refine cg (fun hb => lO (cK h1 hb)) ?_
 refine W ?_
 refine cm hm (fun hm => ?_) fun hm => ?_
 · exact E
 refine W ?_
 refine lp (fun m s => ∃ s_0 i_1 t4, s = ⟨46, (aE (aE (aE fa 0 (aB.av s_0)) 1 (vi i_1)) 4 (.adr 1 0)), ⟨(upd aV 1 (.cells 1 [vu t4.Key, vi t4.N] 0)), 64⟩⟩ ∧ tR m s_0 i_1 t4 = some r) (Lr (fun j => bif j == 1 then 0 else 0)) ?_
 rintro n1 s ⟨s_0, i_1, t4, rfl, hm⟩
 obtain ⟨_, h3, hm⟩ := bnd hm
 obtain ⟨r5, h4, hm⟩ := bnd hm
 refine W ?_
 refine cq (lO h4) ?_
 refine W ?_
 refine cm hm (fun hm => ?_) fun hm => ?_
 ·
  obtain ⟨_, h6, hm⟩ := bnd hm
  refine W ?_
  exact Lr (fun j => bif j == 1 then 1 else 0)
 refine W ?_
 refine cm hm (fun hm => ?_) fun hm => ?_
 ·
  obtain ⟨_, h7, hm⟩ := bnd hm
  refine W ?_
  exact Lr (fun j => bif j == 1 then 1 else 0)
 obtain ⟨_, h8, hm⟩ := bnd hm
 exact E
def sK (i_0 : Int) (t1 : bZ) (t2 : Int) : Option (Bool) :=
 ((nT t1.s i_0).bind fun ⟨r2, r3⟩ =>
 some (decide (t2 ≤ r2.Key)))
theorem aUq {i_0 : Int} {t1 : bZ} {t2 : Int} {r : Bool} (hm : sK i_0 t1 t2 = some r) : bC prog 130 [vi i_0, .ptr [aB.av t1.s], .ptr [vu t2]] (vb r) := by
 refine bd 18 func130 ?_
 refine W ?_
 obtain ⟨⟨r2, r3⟩, h1, hm⟩ := bnd hm
 refine cq (aB2 h1) ?_
 exact E
def aBq (f_1 : (Int → Option (Bool))) (rec1 : Int → Int → Option (Int)) (i_5 : Int) (j_6 : Int) : Option (Int) :=
 (bif (decide (i_5 < j_6)) then
  ((f_1 (IntKind.i64.wrap (shr .u64 (IntKind.u64.wrap (IntKind.i64.wrap (i_5 + j_6))) 1))).bind fun r2 =>
  (bif (!r2) then
   rec1 (IntKind.i64.wrap ((IntKind.i64.wrap (shr .u64 (IntKind.u64.wrap (IntKind.i64.wrap (i_5 + j_6))) 1)) + 1)) j_6
  else
   rec1 i_5 (IntKind.i64.wrap (shr .u64 (IntKind.u64.wrap (IntKind.i64.wrap (i_5 + j_6))) 1))))
 else
  some i_5)
def qR (f_1 : (Int → Option (Bool))) : Nat → Int → Int → Option (Int)
 | 0 => fun _ _ => none
 | n + 1 => aBq f_1 (qR f_1 n)
def aEk (n_0 : Int) (f_1 : (Int → Option (Bool))) : Option (Int) :=
 qR f_1 bF 0 n_0
theorem aW4 {n_0 : Int} {f_1 : (Int → Option (Bool))} {r : Int} (hm : aEk n_0 f_1 = some r) {aK2 : FuncId} {yC : List AV} (aPx : ∀ a, a ∈ yC → AM.Data a) (bC1 : (Program.funcs prog)[aK2]?.any (fun fn => fn.body.isSome && fn.name != "runtime.NumGoroutine") = true) (bC5 : ∀ {x0 r}, f_1 x0 = some r → bC prog aK2 ([vi x0] ++ yC) (vb r)) : bC prog 129 [vi n_0, .clo (.func aK2) [] yC] (vi r) := by
 refine bd 26 func129 ?_
 refine W ?_
 refine lp (fun m s => ∃ i_5 j_6, s = ⟨26, (aE (aE (aE fa 1 (.clo (.func aK2) [] yC)) 5 (vi i_5)) 6 (vi j_6)), ⟨aV, 64⟩⟩ ∧ qR f_1 m i_5 j_6 = some r) L ?_
 rintro n1 s ⟨i_5, j_6, rfl, hm⟩
 refine W ?_
 refine cm hm (fun hm => ?_) fun hm => ?_
 ·
  obtain ⟨r2, h1, hm⟩ := bnd hm
  refine W ?_
  refine aW.callQC (r := .v (.bool r2)) Zd Z1 aPx bC1 (fun H => (cV .nil)) (bC5 h1) ?_
  refine W ?_
  refine cm hm (fun hm => ?_) fun hm => ?_
  · exact L
  exact L
 exact E
def zJ (d_0 : bZ) (dS : Int) : Option (Int) :=
 ((gY d_0.s).bind fun r2 =>
 ((aEk r2 (fun x0 => sK x0 d_0 dS)).bind fun r4 =>
 some r4))
theorem aPl {d_0 : bZ} {dS : Int} {r : Int} (hm : zJ d_0 dS = some r) : bC prog 98 [.agg [aB.av d_0.s], vu dS] (vi r) := by
 refine bd 10 func98 ?_
 refine S1 ?_
 refine aW.pop Zd (aDi Z1 (.agg _ (aAh.dat d_0))) (aVm (ys := [aB.av d_0.s]) Z1 (fun H => (.cons (.data _ (aB.data d_0.s)) .nil))) rfl ?_
 refine aW.pop Zd (aDi Z1 (.v _)) (aVm (ys := [.v (.int .u64 dS)]) Z1 (fun H => (.cons (.data _ (.v _)) .nil))) rfl ?_
 obtain ⟨r2, h1, hm⟩ := bnd hm
 refine W ?_
 refine cq (lO h1) ?_
 obtain ⟨r4, h3, hm⟩ := bnd hm
 refine W ?_
 refine aW.callQ (r := .v (.int .i64 r4)) Zd Z1 bSz (fun H => (cV (.cons (td Z1 (bJn (mQ (.ptr _ (aAh.dat d_0)) (mQ (.ptr _ ((CFi .u64).dat dS)) aFl)))) .nil))) (aW4 h3 (mQ (.ptr _ (aAh.dat d_0)) (mQ (.ptr _ ((CFi .u64).dat dS)) aFl)) bT0 (fun h => aUq h)) ?_
 exact E
def uF (d_0 : bZ) (dS : Int) : Option (Int × Bool) :=
 ((zJ d_0 dS).bind fun r2 =>
 ((nT d_0.s r2).bind fun ⟨r4, r5⟩ =>
 (bif ((!r5) || (r4.Key != dS)) then
  some (0, false)
 else
  some (r4.N, true))))
theorem aH6 {d_0 : bZ} {dS : Int} {r : Int × Bool} (hm : uF d_0 dS = some r) : bC prog 72 [.agg [aB.av d_0.s], vu dS] (.tup [vi r.1, vb r.2]) := by
 refine bd 27 func72 ?_
 obtain ⟨r2, h1, hm⟩ := bnd hm
 refine W ?_
 refine cq (aPl h1) ?_
 obtain ⟨⟨r4, r5⟩, h3, hm⟩ := bnd hm
 refine cq (aB2 h3) ?_
 refine W ?_
 refine cm hm (fun hm => ?_) fun hm => ?_
 · exact E
 exact E
def cP (s_0 : aB) : Option (Int) :=
 (bif (!s_0.nn) then
  some 0
 else
  ((chk s_0.nn).bind fun _ =>
  some s_0.height))
theorem dC {s_0 : aB} {r : Int} (hm : cP s_0 = some r) : bC prog 173 [aB.av s_0] (vi r) := by
 refine bd 9 func173 ?_
 refine W ?_
 refine pu rfl (bIp underlying128 Z1 (aB.isn s_0) Z1) ?_
 refine W ?_
 refine cm hm (fun hm => ?_) fun hm => ?_
 · exact E
 obtain ⟨_, h1, hm⟩ := bnd hm
 exact E
def dM (bT : aB) (dD : bN) (bK : aB) : Option (aB) :=
 ((cP bT).bind fun r2 =>
 ((cP bK).bind fun r4 =>
 ((gY bT).bind fun r6 =>
 ((gY bK).bind fun r8 =>
 some (aB.mk bT bK dD (IntKind.i64.wrap ((if r2 < r4 then r4 else r2) + 1)) (IntKind.i64.wrap ((IntKind.i64.wrap (r6 + 1)) + r8)))))))
theorem eX {bT : aB} {dD : bN} {bK : aB} {r : aB} (hm : dM bT dD bK = some r) : bC prog 144 [aB.av bT, .agg [vu dD.Key, vi dD.N], aB.av bK] (aB.av r) := by
 refine bd 24 func144 ?_
 obtain ⟨r2, h1, hm⟩ := bnd hm
 refine W ?_
 refine cq (dC h1) ?_
 obtain ⟨r4, h3, hm⟩ := bnd hm
 refine W ?_
 refine cq (dC h3) ?_
 obtain ⟨r6, h5, hm⟩ := bnd hm
 refine W ?_
 refine cq (lO h5) ?_
 obtain ⟨r8, h7, hm⟩ := bnd hm
 refine W ?_
 refine cq (lO h7) ?_
 refine W ?_
 refine pu rfl (by simp only [go_sem, Nat.reduceBEq]; exact bJ1 (aB.cells _) (aB.cells _)) ?_
 refine aW.pop Zd (aDi Z1 (.agg _ (mQ (aB.data bT) (mQ (aB.data bK) (mQ (.v _) (mQ (.v _) (mQ (.v _) (mQ (.v _) aFl)))))))) (aVm (ys := [aB.av ((aB.mk bT bK dD (IntKind.i64.wrap ((if r2 < r4 then r4 else r2) + 1)) (IntKind.i64.wrap ((IntKind.i64.wrap (r6 + 1)) + r8))).ahead), aB.av ((aB.mk bT bK dD (IntKind.i64.wrap ((if r2 < r4 then r4 else r2) + 1)) (IntKind.i64.wrap ((IntKind.i64.wrap (r6 + 1)) + r8))).behind), .v (.int .u64 (((aB.mk bT bK dD (IntKind.i64.wrap ((if r2 < r4 then r4 else r2) + 1)) (IntKind.i64.wrap ((IntKind.i64.wrap (r6 + 1)) + r8))).thing).Key)), .v (.int .i64 (((aB.mk bT bK dD (IntKind.i64.wrap ((if r2 < r4 then r4 else r2) + 1)) (IntKind.i64.wrap ((IntKind.i64.wrap (r6 + 1)) + r8))).thing).N)), .v (.int .i64 ((aB.mk bT bK dD (IntKind.i64.wrap ((if r2 < r4 then r4 else r2) + 1)) (IntKind.i64.wrap ((IntKind.i64.wrap (r6 + 1)) + r8))).height)), .v (.int .i64 ((aB.mk bT bK dD (IntKind.i64.wrap ((if r2 < r4 then r4 else r2) + 1)) (IntKind.i64.wrap ((IntKind.i64.wrap (r6 + 1)) + r8))).size))]) Z1 (fun H => (.cons (.data _ (aB.data bT)) (.cons (.data _ (aB.data bK)) (.cons (.data _ (.v _)) (.cons (.data _ (.v _)) (.cons (.data _ (.v _)) (.cons (.data _ (.v _)) .nil)))))))) rfl ?_
 exact E
def lZ (bT : aB) (dD : bN) (bK : aB) : Option (aB) :=
 ((cP bT).bind fun r2 =>
 ((cP bK).bind fun r4 =>
 (bif (decide ((IntKind.i64.wrap (r4 + 1)) < r2)) then
  ((chk bT.nn).bind fun _ =>
  ((cP bT.ahead).bind fun r7 =>
  ((chk bT.nn).bind fun _ =>
  ((cP bT.behind).bind fun r10 =>
  (bif (decide (r10 ≤ r7)) then
   ((chk bT.nn).bind fun _ =>
   ((chk bT.nn).bind fun _ =>
   ((chk bT.nn).bind fun _ =>
   ((dM bT.behind dD bK).bind fun r15 =>
   ((dM bT.ahead bT.thing r15).bind fun r17 =>
   some r17)))))
  else
   ((chk bT.nn).bind fun _ =>
   ((chk bT.nn).bind fun _ =>
   ((chk bT.nn).bind fun _ =>
   ((chk bT.behind.nn).bind fun _ =>
   ((dM bT.ahead bT.thing bT.behind.ahead).bind fun r23 =>
   ((chk bT.behind.nn).bind fun _ =>
   ((chk bT.behind.nn).bind fun _ =>
   ((dM bT.behind.behind dD bK).bind fun r27 =>
   ((dM r23 bT.behind.thing r27).bind fun r29 =>
   some r29))))))))))))))
 else
  ((cP bK).bind fun r31 =>
  ((cP bT).bind fun r33 =>
  (bif (decide ((IntKind.i64.wrap (r33 + 1)) < r31)) then
   ((chk bK.nn).bind fun _ =>
   ((cP bK.behind).bind fun r36 =>
   ((chk bK.nn).bind fun _ =>
   ((cP bK.ahead).bind fun r39 =>
   (bif (decide (r39 ≤ r36)) then
    ((chk bK.nn).bind fun _ =>
    ((dM bT dD bK.ahead).bind fun r42 =>
    ((chk bK.nn).bind fun _ =>
    ((chk bK.nn).bind fun _ =>
    ((dM r42 bK.thing bK.behind).bind fun r46 =>
    some r46)))))
   else
    ((chk bK.nn).bind fun _ =>
    ((chk bK.ahead.nn).bind fun _ =>
    ((dM bT dD bK.ahead.ahead).bind fun r50 =>
    ((chk bK.ahead.nn).bind fun _ =>
    ((chk bK.ahead.nn).bind fun _ =>
    ((chk bK.nn).bind fun _ =>
    ((chk bK.nn).bind fun _ =>
    ((dM bK.ahead.behind bK.thing bK.behind).bind fun r56 =>
    ((dM r50 bK.ahead.thing r56).bind fun r58 =>
    some r58))))))))))))))
  else
   ((dM bT dD bK).bind fun r60 =>
   some r60)))))))
theorem aEy {bT : aB} {dD : bN} {bK : aB} {r : aB} (hm : lZ bT dD bK = some r) : bC prog 174 [aB.av bT, .agg [vu dD.Key, vi dD.N], aB.av bK] (aB.av r) := by
 refine bd 139 func174 ?_
 obtain ⟨r2, h1, hm⟩ := bnd hm
 refine W ?_
 refine cq (dC h1) ?_
 obtain ⟨r4, h3, hm⟩ := bnd hm
 refine W ?_
 refine cq (dC h3) ?_
 refine W ?_
 refine cm hm (fun hm => ?_) fun hm => ?_
 ·
  obtain ⟨_, h5, hm⟩ := bnd hm
  obtain ⟨r7, h6, hm⟩ := bnd hm
  refine W ?_
  refine cq (dC h6) ?_
  obtain ⟨_, h8, hm⟩ := bnd hm
  obtain ⟨r10, h9, hm⟩ := bnd hm
  refine W ?_
  refine cq (dC h9) ?_
  refine W ?_
  refine cm hm (fun hm => ?_) fun hm => ?_
  ·
   obtain ⟨_, h11, hm⟩ := bnd hm
   obtain ⟨_, h12, hm⟩ := bnd hm
   obtain ⟨_, h13, hm⟩ := bnd hm
   obtain ⟨r15, h14, hm⟩ := bnd hm
   refine W ?_
   refine cq (eX h14) ?_
   obtain ⟨r17, h16, hm⟩ := bnd hm
   refine cq (eX h16) ?_
   exact E
  obtain ⟨_, h18, hm⟩ := bnd hm
  obtain ⟨_, h19, hm⟩ := bnd hm
  obtain ⟨_, h20, hm⟩ := bnd hm
  obtain ⟨_, h21, hm⟩ := bnd hm
  obtain ⟨r23, h22, hm⟩ := bnd hm
  refine W ?_
  refine cq (eX h22) ?_
  obtain ⟨_, h24, hm⟩ := bnd hm
  obtain ⟨_, h25, hm⟩ := bnd hm
  obtain ⟨r27, h26, hm⟩ := bnd hm
  refine W ?_
  refine cq (eX h26) ?_
  obtain ⟨r29, h28, hm⟩ := bnd hm
  refine cq (eX h28) ?_
  exact E
 have hm := sb hm h3
 refine W ?_
 refine cq (dC h3) ?_
 have hm := sb hm h1
 refine W ?_
 refine cq (dC h1) ?_
 refine W ?_
 refine cm hm (fun hm => ?_) fun hm => ?_
 ·
  obtain ⟨_, h34, hm⟩ := bnd hm
  obtain ⟨r36, h35, hm⟩ := bnd hm
  refine W ?_
  refine cq (dC h35) ?_
  obtain ⟨_, h37, hm⟩ := bnd hm
  obtain ⟨r39, h38, hm⟩ := bnd hm
  refine W ?_
  refine cq (dC h38) ?_
  refine W ?_
  refine cm hm (fun hm => ?_) fun hm => ?_
  ·
   obtain ⟨_, h40, hm⟩ := bnd hm
   obtain ⟨r42, h41, hm⟩ := bnd hm
   refine W ?_
   refine cq (eX h41) ?_
   obtain ⟨_, h43, hm⟩ := bnd hm
   obtain ⟨_, h44, hm⟩ := bnd hm
   obtain ⟨r46, h45, hm⟩ := bnd hm
   refine W ?_
   refine cq (eX h45) ?_
   exact E
  obtain ⟨_, h47, hm⟩ := bnd hm
  obtain ⟨_, h48, hm⟩ := bnd hm
  obtain ⟨r50, h49, hm⟩ := bnd hm
  refine W ?_
  refine cq (eX h49) ?_
  obtain ⟨_, h51, hm⟩ := bnd hm
  obtain ⟨_, h52, hm⟩ := bnd hm
  obtain ⟨_, h53, hm⟩ := bnd hm
  obtain ⟨_, h54, hm⟩ := bnd hm
  obtain ⟨r56, h55, hm⟩ := bnd hm
  refine W ?_
  refine cq (eX h55) ?_
  obtain ⟨r58, h57, hm⟩ := bnd hm
  refine cq (eX h57) ?_
  exact E
 obtain ⟨r60, h59, hm⟩ := bnd hm
 refine W ?_
 refine cq (eX h59) ?_
 exact E
def lX (recf : aB → bN → aB → Option (aB)) (bT : aB) (dD : bN) (bK : aB) : Option (aB) :=
 ((cP bT).bind fun r2 =>
 ((cP bK).bind fun r4 =>
 (bif (decide ((IntKind.i64.wrap (r4 + 1)) < r2)) then
  ((chk bT.nn).bind fun _ =>
  ((chk bT.nn).bind fun _ =>
  ((chk bT.nn).bind fun _ =>
  ((recf bT.behind dD bK).bind fun r9 =>
  ((lZ bT.ahead bT.thing r9).bind fun r11 =>
  some r11)))))
 else
  ((cP bK).bind fun r13 =>
  ((cP bT).bind fun r15 =>
  (bif (decide ((IntKind.i64.wrap (r15 + 1)) < r13)) then
   ((chk bK.nn).bind fun _ =>
   ((recf bT dD bK.ahead).bind fun r18 =>
   ((chk bK.nn).bind fun _ =>
   ((chk bK.nn).bind fun _ =>
   ((lZ r18 bK.thing bK.behind).bind fun r22 =>
   some r22)))))
  else
   ((dM bT dD bK).bind fun r24 =>
   some r24)))))))
def jM : Nat → aB → bN → aB → Option (aB)
 | 0 => fun _ _ _ => none
 | n + 1 => lX (jM n)
def lY (bT : aB) (dD : bN) (bK : aB) : Option (aB) := jM bF bT dD bK
theorem aM8 : ∀ (nn : Nat) {bT : aB} {dD : bN} {bK : aB} {r : aB} (hm : jM nn bT dD bK = some r), bC prog 143 [aB.av bT, .agg [.v (.int .u64 dD.Key), .v (.int .i64 dD.N)], aB.av bK] (aB.av r) := by
 intro nn
 induction nn with
 | zero =>
  intro bT dD bK r hm
  replace hm : none = some r := hm
  cases hm
 | succ nn ih =>
  intro bT dD bK r hm
  replace hm : lX (jM nn) bT dD bK = some r := hm
  refine bC.of_body func143 rfl ?_
  simp only [ntmps143, List.length_cons, List.length_nil, Nat.reduceAdd, Nat.reduceSub, fL]
  unfold lX at hm
  refine sN 64 (hp (id := 0) rfl rfl (aLd Z1 Z5) ?_)
  refine pA ?_
  refine fs (AWp.seq' (AWp.block (sN 128 (pA ?_))))
  obtain ⟨r2, h1, hm⟩ := bnd hm
  refine aW.callQ (r := .v (.int .i64 r2)) Zd Z1 bDp (fun H => (cD (aB.data _) .nil)) (dC h1) ?_
  refine pA ?_
  obtain ⟨r4, h3, hm⟩ := bnd hm
  refine aW.callQ (r := .v (.int .i64 r4)) Zd Z1 bDp (fun H => (cD (aB.data _) .nil)) (dC h3) ?_
  iterate 3 refine pA ?_
  refine fs (AWp.condM hm Z1 (fun _ hm => ?_) (fun _ hm => ?_))
  ·
   refine sd mix (by kernel_rfl) (N' := 192) rfl ?_
   refine pA ?_
   obtain ⟨_, h5, hm⟩ := bnd hm
   refine pu rfl (sF Z1 (aB.av_nn (pZ h5))) ?_
   iterate 3 refine pA ?_
   obtain ⟨_, h6, hm⟩ := bnd hm
   refine pu rfl (sF Z1 (aB.av_nn (pZ h6))) ?_
   iterate 3 refine pA ?_
   obtain ⟨_, h7, hm⟩ := bnd hm
   refine pu rfl (sF Z1 (aB.av_nn (pZ h7))) ?_
   iterate 2 refine pA ?_
   refine pu rfl (kC Z1 Z3 Z2) ?_
   refine pA ?_
   obtain ⟨r9, h8, hm⟩ := bnd hm
   refine aW.callQ (r := aB.av r9) Zd Z1 bDo (fun H => (cD (aB.data _) (cD (.agg _ (eZ.dat _)) (cD (aB.data _) .nil)))) (ih h8) ?_
   obtain ⟨r11, h10, hm⟩ := bnd hm
   refine aW.callQ (r := aB.av r11) Zd Z1 bQ8 (fun H => (cD (aB.data _) (cD (.agg _ (eZ.dat _)) (cD (aB.data _) .nil)))) (aEy h10) ?_
   refine pA ?_
   refine fs (AWp.ret (aCg (kJ ?_)))
   cases hm
   exact aKp (.inr rfl) Tryz.results143 (td Z1 (aB.data _))
  ·
   refine sN 192 (pA ?_)
   obtain ⟨r13, h12, hm⟩ := bnd hm
   refine aW.callQ (r := .v (.int .i64 r13)) Zd Z1 bDp (fun H => (cD (aB.data _) .nil)) (dC h12) ?_
   refine pA ?_
   obtain ⟨r15, h14, hm⟩ := bnd hm
   refine aW.callQ (r := .v (.int .i64 r15)) Zd Z1 bDp (fun H => (cD (aB.data _) .nil)) (dC h14) ?_
   iterate 3 refine pA ?_
   refine fs (AWp.condM hm Z1 (fun _ hm => ?_) (fun _ hm => ?_))
   ·
    refine sd mix (by kernel_rfl) (N' := 256) rfl ?_
    refine pA ?_
    refine pu rfl (kC Z1 Z3 Z2) ?_
    refine pA ?_
    obtain ⟨_, h16, hm⟩ := bnd hm
    refine pu rfl (sF Z1 (aB.av_nn (pZ h16))) ?_
    iterate 2 refine pA ?_
    obtain ⟨r18, h17, hm⟩ := bnd hm
    refine aW.callQ (r := aB.av r18) Zd Z1 bDo (fun H => (cD (aB.data _) (cD (.agg _ (eZ.dat _)) (cD (aB.data _) .nil)))) (ih h17) ?_
    refine pA ?_
    obtain ⟨_, h19, hm⟩ := bnd hm
    refine pu rfl (sF Z1 (aB.av_nn (pZ h19))) ?_
    iterate 3 refine pA ?_
    obtain ⟨_, h20, hm⟩ := bnd hm
    refine pu rfl (sF Z1 (aB.av_nn (pZ h20))) ?_
    iterate 2 refine pA ?_
    obtain ⟨r22, h21, hm⟩ := bnd hm
    refine aW.callQ (r := aB.av r22) Zd Z1 bQ8 (fun H => (cD (aB.data _) (cD (.agg _ (eZ.dat _)) (cD (aB.data _) .nil)))) (aEy h21) ?_
    refine pA ?_
    refine fs (AWp.ret (aCg (kJ ?_)))
    cases hm
    exact aKp (.inr rfl) Tryz.results143 (td Z1 (aB.data _))
   ·
    refine AWp.skip (kI (cG (sN 256 (pA ?_))))
    refine pu rfl (kC Z1 Z3 Z2) ?_
    refine pA ?_
    obtain ⟨r24, h23, hm⟩ := bnd hm
    refine aW.callQ (r := aB.av r24) Zd Z1 bQ7 (fun H => (cD (aB.data _) (cD (.agg _ (eZ.dat _)) (cD (aB.data _) .nil)))) (eX h23) ?_
    refine pA ?_
    refine fs (AWp.ret ?_)
    cases hm
    exact aKp (.inr rfl) Tryz.results143 (td Z1 (aB.data _))
theorem xR {bT : aB} {dD : bN} {bK : aB} {r : aB} (hm : lY bT dD bK = some r) : bC prog 143 [aB.av bT, .agg [.v (.int .u64 dD.Key), .v (.int .i64 dD.N)], aB.av bK] (aB.av r) := aM8 bF hm
def nV (recf : aB → Int → Option (aB × aB)) (s_0 : aB) (aHj : Int) : Option (aB × aB) :=
 (bif (decide (aHj ≤ 0)) then
  some (aB.nil, s_0)
 else
  ((gY s_0).bind fun r2 =>
  (bif (decide (r2 ≤ aHj)) then
   some (s_0, aB.nil)
  else
   ((chk s_0.nn).bind fun _ =>
   ((gY s_0.ahead).bind fun r5 =>
   (bif (decide (aHj ≤ r5)) then
    ((chk s_0.nn).bind fun _ =>
    ((recf s_0.ahead aHj).bind fun ⟨r8, r9⟩ =>
    ((chk s_0.nn).bind fun _ =>
    ((chk s_0.nn).bind fun _ =>
    ((lY r9 s_0.thing s_0.behind).bind fun r13 =>
    some (r8, r13))))))
   else
    ((chk s_0.nn).bind fun _ =>
    ((recf s_0.behind (IntKind.i64.wrap ((IntKind.i64.wrap (aHj - r5)) - 1))).bind fun ⟨r16, r17⟩ =>
    ((chk s_0.nn).bind fun _ =>
    ((chk s_0.nn).bind fun _ =>
    ((lY s_0.ahead s_0.thing r16).bind fun r21 =>
    some (r21, r17))))))))))))
def kU : Nat → aB → Int → Option (aB × aB)
 | 0 => fun _ _ => none
 | n + 1 => nV (kU n)
def nW (s_0 : aB) (aHj : Int) : Option (aB × aB) := kU bF s_0 aHj
theorem aOk : ∀ (nn : Nat) {s_0 : aB} {aHj : Int} {r : aB × aB} (hm : kU nn s_0 aHj = some r), bC prog 125 [aB.av s_0, .v (.int .i64 aHj)] (.tup [aB.av r.1, aB.av r.2]) := by
 intro nn
 induction nn with
 | zero =>
  intro s_0 aHj r hm
  replace hm : none = some r := hm
  cases hm
 | succ nn ih =>
  intro s_0 aHj r hm
  replace hm : nV (kU nn) s_0 aHj = some r := hm
  refine bC.of_body func125 rfl ?_
  simp only [ntmps125, List.length_cons, List.length_nil, Nat.reduceAdd, Nat.reduceSub, fL]
  unfold nV at hm
  refine sN 64 ?_
  iterate 2 refine pA ?_
  refine fs (AWp.seq' (sN 128 ?_))
  iterate 2 refine pA ?_
  refine fs (AWp.condM hm Z1 (fun _ hm => ?_) (fun _ hm => ?_))
  ·
   refine sN 192 ?_
   iterate 3 refine pA ?_
   refine fs (AWp.ret (kJ ?_))
   cases hm
   exact aNk (.inr rfl) Tryz.results125 (td Z1 (aB.data _)) (td Z1 (aB.data _))
  ·
   refine AWp.skip (cG (AWp.seq' (sN 192 ?_)))
   iterate 2 refine pA ?_
   obtain ⟨r2, h1, hm⟩ := bnd hm
   refine aW.callQ (r := .v (.int .i64 r2)) Zd Z1 bQ4 (fun H => (cD (aB.data _) .nil)) (lO h1) ?_
   refine pA ?_
   refine fs (AWp.condM hm Z1 (fun _ hm => ?_) (fun _ hm => ?_))
   ·
    refine sN 256 ?_
    iterate 3 refine pA ?_
    refine fs (AWp.ret (kJ ?_))
    cases hm
    exact aNk (.inr rfl) Tryz.results125 (td Z1 (aB.data _)) (td Z1 (aB.data _))
   ·
    refine AWp.skip (cG (sN 256 (pA ?_)))
    obtain ⟨_, h3, hm⟩ := bnd hm
    refine pu rfl (sF Z1 (aB.av_nn (pZ h3))) ?_
    iterate 2 refine pA ?_
    obtain ⟨r5, h4, hm⟩ := bnd hm
    refine aW.callQ (r := .v (.int .i64 r5)) Zd Z1 bQ4 (fun H => (cD (aB.data _) .nil)) (lO h4) ?_
    refine pA ?_
    refine fs (AWp.seq' (sN 320 ?_))
    iterate 3 refine pA ?_
    refine fs (AWp.condM hm Z1 (fun _ hm => ?_) (fun _ hm => ?_))
    ·
     refine sN 384 (pA ?_)
     obtain ⟨_, h6, hm⟩ := bnd hm
     refine pu rfl (sF Z1 (aB.av_nn (pZ h6))) ?_
     iterate 3 refine pA ?_
     obtain ⟨⟨r8, r9⟩, h7, hm⟩ := bnd hm
     refine aW.callQ (r := .tup [aB.av r8, aB.av r9]) Zd Z1 bQ3 (fun H => (cD (aB.data _) (cV .nil))) (ih h7) ?_
     iterate 5 refine pA ?_
     refine fs (sd mix (by kernel_rfl) (N' := 448) rfl ?_)
     iterate 3 refine pA ?_
     obtain ⟨_, h10, hm⟩ := bnd hm
     refine pu rfl (sF Z1 (aB.av_nn (pZ h10))) ?_
     iterate 3 refine pA ?_
     obtain ⟨_, h11, hm⟩ := bnd hm
     refine pu rfl (sF Z1 (aB.av_nn (pZ h11))) ?_
     iterate 2 refine pA ?_
     obtain ⟨r13, h12, hm⟩ := bnd hm
     refine aW.callQ (r := aB.av r13) Zd Z1 bDo (fun H => (cD (aB.data _) (cD (.agg _ (eZ.dat _)) (cD (aB.data _) .nil)))) (xR h12) ?_
     iterate 2 refine pA ?_
     refine fs (AWp.ret (kJ ?_))
     cases hm
     exact aNk (.inr rfl) Tryz.results125 (td Z1 (aB.data _)) (td Z1 (aB.data _))
    ·
     refine AWp.skip (cG (sN 384 (pA ?_)))
     obtain ⟨_, h14, hm⟩ := bnd hm
     refine pu rfl (sF Z1 (aB.av_nn (pZ h14))) ?_
     iterate 6 refine pA ?_
     obtain ⟨⟨r16, r17⟩, h15, hm⟩ := bnd hm
     refine aW.callQ (r := .tup [aB.av r16, aB.av r17]) Zd Z1 bQ3 (fun H => (cD (aB.data _) (cV .nil))) (ih h15) ?_
     iterate 5 refine pA ?_
     refine fs (sd mix (by kernel_rfl) (N' := 448) rfl ?_)
     refine pA ?_
     obtain ⟨_, h18, hm⟩ := bnd hm
     refine pu rfl (sF Z1 (aB.av_nn (pZ h18))) ?_
     iterate 3 refine pA ?_
     obtain ⟨_, h19, hm⟩ := bnd hm
     refine pu rfl (sF Z1 (aB.av_nn (pZ h19))) ?_
     iterate 3 refine pA ?_
     obtain ⟨r21, h20, hm⟩ := bnd hm
     refine aW.callQ (r := aB.av r21) Zd Z1 bDo (fun H => (cD (aB.data _) (cD (.agg _ (eZ.dat _)) (cD (aB.data _) .nil)))) (xR h20) ?_
     iterate 3 refine pA ?_
     refine fs (AWp.ret ?_)
     cases hm
     exact aNk (.inr rfl) Tryz.results125 (td Z1 (aB.data _)) (td Z1 (aB.data _))
theorem aA7 {s_0 : aB} {aHj : Int} {r : aB × aB} (hm : nW s_0 aHj = some r) : bC prog 125 [aB.av s_0, .v (.int .i64 aHj)] (.tup [aB.av r.1, aB.av r.2]) := aOk bF hm
def nU (recf : (List bN) → Option (aB)) (l_0 : List bN) : Option (aB) :=
 (bif ((l_0.length : Int) == 0) then
  some aB.nil
 else
  ((slc l_0 0 (IntKind.i64.wrap (Int.tdiv (l_0.length : Int) 2))).bind fun l2 =>
  ((recf l2).bind fun r4 =>
  ((idx l_0 (IntKind.i64.wrap (Int.tdiv (l_0.length : Int) 2))).bind fun x6 =>
  ((slc l_0 (IntKind.i64.wrap ((IntKind.i64.wrap (Int.tdiv (l_0.length : Int) 2)) + 1)) (l_0.length : Int)).bind fun l8 =>
  ((recf l8).bind fun r10 =>
  ((dM r4 x6 r10).bind fun r12 =>
  some r12)))))))
def rZ : Nat → (List bN) → Option (aB)
 | 0 => fun _ => none
 | n + 1 => nU (rZ n)
def aB3 (l_0 : List bN) : Option (aB) := rZ bF l_0
theorem aVz : ∀ (nn : Nat) {l_0 : List bN} {r : aB} (hm : rZ nn l_0 = some r), bC prog 127 [.sl (l_0.flatMap uE) l_0.length false] (aB.av r) := by
 intro nn
 induction nn with
 | zero =>
  intro l_0 r hm
  replace hm : none = some r := hm
  cases hm
 | succ nn ih =>
  intro l_0 r hm
  replace hm : nU (rZ nn) l_0 = some r := hm
  refine bC.of_body func127 rfl ?_
  simp only [ntmps127, List.length_cons, List.length_nil, Nat.reduceAdd, Nat.reduceSub, fL]
  unfold nU at hm
  refine sN 64 (pA ?_)
  refine fs (AWp.seq' (sN 128 ?_))
  iterate 3 refine pA ?_
  refine fs (AWp.condM hm Z1 (fun _ hm => ?_) (fun _ hm => ?_))
  ·
   refine sN 192 (pA ?_)
   refine fs (AWp.ret (kJ ?_))
   cases hm
   exact aKp (.inr rfl) Tryz.results127 (td Z1 (aB.data _))
  ·
   refine AWp.skip (cG (sN 192 ?_))
   iterate 4 refine pu rfl (by simp only [go_sem, Nat.reduceBEq, Int.reduceEq, Int.reduceLE]; try with_reducible rfl) ?_
   refine fs (sd mix (by kernel_rfl) (N' := 256) rfl ?_)
   iterate 2 refine pA ?_
   obtain ⟨l2, h1, hm⟩ := bnd hm
   refine pu rfl (aP4 eZ underlying204 bEm Z1 rfl aOz (aH0 Z1 (aTl h1).2) h1) ?_
   obtain ⟨r4, h3, hm⟩ := bnd hm
   refine aW.callQ (r := aB.av r4) Zd Z1 bJs (fun H => (.cons (tdf Z1 (eZ.sl _ _ _)) .nil)) (ih h3) ?_
   iterate 2 refine pA ?_
   obtain ⟨x6, h5, hm⟩ := bnd hm
   refine pu rfl (zB eZ Zd underlying204 bEm Z1 rfl Z1 h5) ?_
   iterate 4 refine pA ?_
   obtain ⟨l8, h7, hm⟩ := bnd hm
   refine pu rfl (aP4 eZ underlying204 bEm Z1 rfl (aH0 Z1 (aTl h7).1) (aU5 _) h7) ?_
   obtain ⟨r10, h9, hm⟩ := bnd hm
   refine aW.callQ (r := aB.av r10) Zd Z1 bJs (fun H => (.cons (tdf Z1 (eZ.sl _ _ _)) .nil)) (ih h9) ?_
   obtain ⟨r12, h11, hm⟩ := bnd hm
   refine aW.callQ (r := aB.av r12) Zd Z1 bQ7 (fun H => (cD (aB.data _) (cD (.agg _ (eZ.dat _)) (cD (aB.data _) .nil)))) (eX h11) ?_
   refine pA ?_
   refine fs (AWp.ret ?_)
   cases hm
   exact aKp (.inr rfl) Tryz.results127 (td Z1 (aB.data _))
theorem aYq {l_0 : List bN} {r : aB} (hm : aB3 l_0 = some r) : bC prog 127 [.sl (l_0.flatMap uE) l_0.length false] (aB.av r) := aVz bF hm
def qP (a_0 : aB) (b_1 : aB) : Option (aB) :=
 ((nT b_1 0).bind fun ⟨r2, r3⟩ =>
 (bif (!r3) then
  some a_0
 else
  ((nW b_1 1).bind fun ⟨r5, r6⟩ =>
  ((lY a_0 r2 r6).bind fun r8 =>
  some r8))))
theorem aI1 {a_0 : aB} {b_1 : aB} {r : aB} (hm : qP a_0 b_1 = some r) : bC prog 126 [aB.av a_0, aB.av b_1] (aB.av r) := by
 refine bd 26 func126 ?_
 refine W ?_
 obtain ⟨⟨r2, r3⟩, h1, hm⟩ := bnd hm
 refine cq (aB2 h1) ?_
 refine W ?_
 refine cm hm (fun hm => ?_) fun hm => ?_
 · exact E
 refine W ?_
 obtain ⟨⟨r5, r6⟩, h4, hm⟩ := bnd hm
 refine cq (aA7 h4) ?_
 obtain ⟨r8, h7, hm⟩ := bnd hm
 refine W ?_
 refine cq (xR h7) ?_
 exact E
def aD0 (dS : Int) (n_2 : Int) (t6 : bZ) (aQ5 : aB) (aG4 : aB) : Option (bZ) :=
 ((aB3 [(bN.mk dS n_2)]).bind fun r7 =>
 ((qP r7 aG4).bind fun r9 =>
 ((qP aQ5 r9).bind fun r11 =>
 some (bZ.mk r11))))
def aH7 (d_0 : bZ) (dS : Int) (n_2 : Int) : Option (bZ) :=
 ((zJ d_0 dS).bind fun r2 =>
 ((nW d_0.s r2).bind fun ⟨r4, r5⟩ =>
 ((nT r5 0).bind fun ⟨r13, r14⟩ =>
 (bif (r14 && (r13.Key == dS)) then
  ((nW r5 1).bind fun ⟨r16, r17⟩ =>
  aD0 dS n_2 (bZ.mk aB.nil) r4 r17)
 else
  aD0 dS n_2 (bZ.mk aB.nil) r4 r5))))
theorem bFn {d_0 : bZ} {dS : Int} {n_2 : Int} {r : bZ} (hm : aH7 d_0 dS n_2 = some r) : bC prog 96 [.agg [aB.av d_0.s], vu dS, vi n_2] (.agg [aB.av r.s]) := by
 refine bd 47 func96 ?_
 obtain ⟨r2, h1, hm⟩ := bnd hm
 refine W ?_
 refine cq (aPl h1) ?_
 obtain ⟨⟨r4, r5⟩, h3, hm⟩ := bnd hm
 refine cq (aA7 h3) ?_
 refine V ?_
 refine AWp.seqJ (fun s => ∃ dS n_2 t6 aQ5 aG4, s = ⟨47, (aE (aE (aE (aE (aE fa 1 (vu dS)) 2 (vi n_2)) 6 (.adr 1 0)) 7 (aB.av aQ5)) 8 (aB.av aG4)), ⟨(upd aV 1 (.cells 1 [aB.av t6.s] 0)), 64⟩⟩ ∧ aD0 dS n_2 t6 aQ5 aG4 = some r) ?_ ?_
 ·
  refine W ?_
  obtain ⟨⟨r13, r14⟩, h12, hm⟩ := bnd hm
  refine cq (aB2 h12) ?_
  refine W ?_
  refine cm hm (fun hm => ?_) fun hm => ?_
  ·
   refine W ?_
   obtain ⟨⟨r16, r17⟩, h15, hm⟩ := bnd hm
   refine cq (aA7 h15) ?_
   refine W ?_
   exact Lr (fun j => bif j == 1 then 1 else 0)
  refine W ?_
  exact Lr (fun j => bif j == 1 then 1 else 0)
 rintro s ⟨dS, n_2, t6, aQ5, aG4, rfl, hm⟩
 refine W ?_
 refine bU (.agg [vu dS, vi n_2]) ?_
 refine aL eZ [(bN.mk dS n_2)] ?_
 obtain ⟨r7, h6, hm⟩ := bnd hm
 refine aW.callL1 (r := aB.av r7) (id := 68) Zd Z1 bJs Z3 (.cons (tdl eZ Z1 Z3 (by simp) Z6) .nil) (aYq h6) ?_
 obtain ⟨r9, h8, hm⟩ := bnd hm
 refine W ?_
 refine cq (aI1 h8) ?_
 obtain ⟨r11, h10, hm⟩ := bnd hm
 refine cq (aI1 h10) ?_
 refine pu rfl (by simp only [go_sem, Nat.reduceBEq]; exact bJ0 (aB.cells _)) ?_
 exact E
def vP (rec1 : bZ → bZ → List aM → Int → Int → Option (bZ × Bool)) (t2 : bZ) (gH : bZ) (t14 : List aM) (t15 : Int) (t16 : Int) : Option (bZ × Bool) :=
 rec1 t2 gH t14 t15 (IntKind.i64.wrap (t16 + 1))
def aBt (rec1 : bZ → bZ → List aM → Int → Int → Option (bZ × Bool)) (t2 : bZ) (gH : bZ) (t14 : List aM) (t15 : Int) (t16 : Int) : Option (bZ × Bool) :=
 (bif (decide (t16 < t15)) then
  ((idx t14 t16).bind fun x4 =>
  (bif (!x4.Used) then
   (bif (x4.Key != 0) then
    some ((bZ.mk aB.nil), false)
   else
    vP rec1 t2 gH t14 t15 t16)
  else
   ((uF gH x4.Key).bind fun ⟨r6, r7⟩ =>
   (bif r7 then
    some ((bZ.mk aB.nil), false)
   else
    ((aH7 gH x4.Key t16).bind fun r9 =>
    vP rec1 t2 r9 t14 t15 t16)))))
 else
  some (gH, true))
def mM : Nat → bZ → bZ → List aM → Int → Int → Option (bZ × Bool)
 | 0 => fun _ _ _ _ _ => none
 | n + 1 => aBt (mM n)
def lT (l_0 : List aM) : Option (bZ × Bool) :=
 ((oX (l_0.length : Int)).bind fun r2 =>
 (bif (!r2) then
  some ((bZ.mk aB.nil), false)
 else
  mM bF (bZ.mk aB.nil) (bZ.mk aB.nil) l_0 (l_0.length : Int) 0))
theorem yP {l_0 : List aM} {r : bZ × Bool} (hm : lT l_0 = some r) : bC prog 71 [vl aY l_0] (.tup [.agg [aB.av r.1.s], vb r.2]) := by
 refine bd 44 func71 ?_
 obtain ⟨r2, h1, hm⟩ := bnd hm
 refine W ?_
 refine cq (aL7 h1) ?_
 refine W ?_
 refine cm hm (fun hm => ?_) fun hm => ?_
 · exact E
 refine W ?_
 refine lp (fun m s => ∃ t2 gH t14 t15 t16, s = ⟨44, (aE (aE (aE (aE (aE fa 2 (.adr 1 0)) 4 (.adr 2 0)) 14 (vl aY t14)) 15 (vi t15)) 16 (vi t16)), ⟨(upd (upd aV 1 (.cells 1 [aB.av t2.s] 0)) 2 (.cells 1 [aB.av gH.s] 0)), 64⟩⟩ ∧ mM m t2 gH t14 t15 t16 = some r) (Lr (fun j => bif j == 1 then 0 else bif j == 2 then 64 else 0)) ?_
 rintro n1 s ⟨t2, gH, t14, t15, t16, rfl, hm⟩
 refine W ?_
 refine cm hm (fun hm => ?_) fun hm => ?_
 ·
  refine V ?_
  refine AWp.seqJ (fun s => ∃ t2 gH t14 t15 t16, s = ⟨44, (aE (aE (aE (aE (aE fa 2 (.adr 1 0)) 4 (.adr 2 0)) 14 (vl aY t14)) 15 (vi t15)) 16 (vi t16)), ⟨(upd (upd aV 1 (.cells 1 [aB.av t2.s] 0)) 2 (.cells 1 [aB.av gH.s] 0)), 64⟩⟩ ∧ vP (mM n1) t2 gH t14 t15 t16 = some r) ?_ ?_
  ·
   obtain ⟨x4, h3, hm⟩ := bnd hm
   refine W ?_
   refine cm hm (fun hm => ?_) fun hm => ?_
   ·
    refine W ?_
    refine cm hm (fun hm => ?_) fun hm => ?_
    ·
     refine W ?_
     refine bU (.agg [aB.av aB.nil]) ?_
     exact E
    refine W ?_
    exact Lr (fun j => bif j == 1 then 1 else bif j == 2 then 2 else 0)
   refine W ?_
   obtain ⟨⟨r6, r7⟩, h5, hm⟩ := bnd hm
   refine cq (aH6 h5) ?_
   refine W ?_
   refine cm hm (fun hm => ?_) fun hm => ?_
   ·
    refine W ?_
    refine bU (.agg [aB.av aB.nil]) ?_
    exact E
   obtain ⟨r9, h8, hm⟩ := bnd hm
   refine W ?_
   refine cq (bFn h8) ?_
   refine W ?_
   exact Lr (fun j => bif j == 1 then 1 else bif j == 2 then 2 else 0)
  rintro s ⟨t2, gH, t14, t15, t16, rfl, hm⟩
  refine W ?_
  exact Lr (fun j => bif j == 1 then 1 else bif j == 2 then 2 else 0)
 exact E
def yQ (l_0 : List aM) : Option (Bool) :=
 ((lT l_0).bind fun ⟨r2, r3⟩ =>
 some r3)
theorem aW9 {l_0 : List aM} {r : Bool} (hm : yQ l_0 = some r) : bC prog 50 [vl aY l_0] (vb r) := by
 refine bd 11 func50 ?_
 refine W ?_
 obtain ⟨⟨r2, r3⟩, h1, hm⟩ := bnd hm
 refine cq (yP h1) ?_
 exact E
def aEi (rec1 : aD → List aC → Int → Int → Option (Bool)) (s_1 : aD) (t27 : List aC) (t28 : Int) (t29 : Int) : Option (Bool) :=
 (bif (decide (t29 < t28)) then
  ((idx t27 t29).bind fun x6 =>
  ((idx s_1.Slots x6.U).bind fun x8 =>
  ((eP ((!x8.Used) == false) (aM.mk false 0) (idx s_1.Slots x6.V)).bind fun x10 =>
  (bif ((!x8.Used) || (!x10.Used)) then
   some false
  else
   rec1 s_1 t27 t28 (IntKind.i64.wrap (t29 + 1))))))
 else
  some true)
def tV : Nat → aD → List aC → Int → Int → Option (Bool)
 | 0 => fun _ _ _ _ => none
 | n + 1 => aEi (tV n)
def lD (s_0 : aD) : Option (Bool) :=
 ((eW s_0.Graph).bind fun r2 =>
 ((eP ((!r2) == false) false (yQ s_0.Slots)).bind fun r4 =>
 (bif (((!r2) || (!r4)) || ((s_0.Slots.length : Int) != s_0.Graph.Config.N)) then
  some false
 else
  tV bF s_0 s_0.Graph.Edges (s_0.Graph.Edges.length : Int) 0)))
theorem aGq {s_0 : aD} {r : Bool} (hm : lD s_0 = some r) : bC prog 19 [.agg [vi s_0.Graph.Config.N, vi s_0.Graph.Config.L, vi s_0.Graph.Config.R, vl bE s_0.Graph.Hashes, vl aO s_0.Graph.Edges, vl aY s_0.Slots]] (vb r) := by
 refine bd 52 func19 ?_
 obtain ⟨r2, h1, hm⟩ := bnd hm
 refine W ?_
 refine cq (iX h1) ?_
 obtain ⟨r4, h3, hm⟩ := bnd hm
 refine W ?_
 refine cg (fun hb => aW9 (cK h3 hb)) ?_
 refine W ?_
 refine cm hm (fun hm => ?_) fun hm => ?_
 · exact E
 refine W ?_
 refine lp (fun m s => ∃ s_1 t27 t28 t29, s = ⟨52, (aE (aE (aE (aE fa 1 (.adr 1 0)) 27 (vl aO t27)) 28 (vi t28)) 29 (vi t29)), ⟨(upd aV 1 (.cells 1 [vi s_1.Graph.Config.N, vi s_1.Graph.Config.L, vi s_1.Graph.Config.R, vl bE s_1.Graph.Hashes, vl aO s_1.Graph.Edges, vl aY s_1.Slots] 0)), 64⟩⟩ ∧ tV m s_1 t27 t28 t29 = some r) (Lr (fun j => bif j == 1 then 0 else 0)) ?_
 rintro n1 s ⟨s_1, t27, t28, t29, rfl, hm⟩
 refine W ?_
 refine cm hm (fun hm => ?_) fun hm => ?_
 ·
  obtain ⟨x6, h5, hm⟩ := bnd hm
  obtain ⟨x8, h7, hm⟩ := bnd hm
  obtain ⟨x10, h9, hm⟩ := bnd hm
  refine W ?_
  refine cm hm (fun hm => ?_) fun hm => ?_
  · exact E
  refine W ?_
  exact Lr (fun j => bif j == 1 then 1 else 0)
 exact E
def sB (l_0 : List aM) (dS : Int) : Option (Int × Bool) :=
 ((lT l_0).bind fun ⟨r2, r3⟩ =>
 (bif (!r3) then
  some (0, false)
 else
  ((uF r2 dS).bind fun ⟨r5, r6⟩ =>
  some (r5, r6))))
theorem aNx {l_0 : List aM} {dS : Int} {r : Int × Bool} (hm : sB l_0 dS = some r) : bC prog 39 [vl aY l_0, vu dS] (.tup [vi r.1, vb r.2]) := by
 refine bd 20 func39 ?_
 refine W ?_
 obtain ⟨⟨r2, r3⟩, h1, hm⟩ := bnd hm
 refine cq (yP h1) ?_
 refine W ?_
 refine cm hm (fun hm => ?_) fun hm => ?_
 · exact E
 refine W ?_
 obtain ⟨⟨r5, r6⟩, h4, hm⟩ := bnd hm
 refine cq (aH6 h4) ?_
 exact E
def sS (aJv : Int) : Option (Bool) :=
 some (((decide (2 ≤ aJv)) && (decide (aJv ≤ 11))) && (aJv != 10))
theorem aV3 {aJv : Int} {r : Bool} (hm : sS aJv = some r) : bC prog 40 [vi aJv] (vb r) := by
 refine bd 13 func40 ?_
 exact E
def sT (aJv : Int) : Option (Bool) :=
 some ((((aJv == 3) || (aJv == 4)) || (aJv == 5)) || (aJv == 8))
theorem aV4 {aJv : Int} {r : Bool} (hm : sT aJv = some r) : bC prog 41 [vi aJv] (vb r) := by
 refine bd 17 func41 ?_
 exact E
def wA (s_0 : aD) (v_1 : Int) : Option ((List Int)) :=
 ((aGw s_0.Graph.Config.N s_0.Graph.Edges v_1).bind fun r2 =>
 some r2)
theorem aN5 {s_0 : aD} {v_1 : Int} {r : (List Int)} (hm : wA s_0 v_1 = some r) : bC prog 77 [.agg [vi s_0.Graph.Config.N, vi s_0.Graph.Config.L, vi s_0.Graph.Config.R, vl bE s_0.Graph.Hashes, vl aO s_0.Graph.Edges, vl aY s_0.Slots], vi v_1] (vl (ci .i64) r) := by
 refine bd 14 func77 ?_
 obtain ⟨r2, h1, hm⟩ := bnd hm
 refine W ?_
 refine cq (aYz h1) ?_
 exact E
def qH (s_0 : aD) (v_1 : Int) : Option (Int) :=
 ((wA s_0 v_1).bind fun r2 =>
 some (r2.length : Int))
theorem aHs {s_0 : aD} {v_1 : Int} {r : Int} (hm : qH s_0 v_1 = some r) : bC prog 75 [.agg [vi s_0.Graph.Config.N, vi s_0.Graph.Config.L, vi s_0.Graph.Config.R, vl bE s_0.Graph.Hashes, vl aO s_0.Graph.Edges, vl aY s_0.Slots], vi v_1] (vi r) := by
 refine bd 9 func75 ?_
 obtain ⟨r2, h1, hm⟩ := bnd hm
 refine W ?_
 refine cq (aN5 h1) ?_
 exact E
def fI (x_0 : Int) : Option (Bool) :=
 some (x_0 != x_0)
theorem oI {x_0 : Int} {r : Bool} (hm : fI x_0 = some r) : bC prog 137 [vu x_0] (vb r) := by
 refine bd 6 func137 ?_
 exact E
def qY (x_0 : Int) (y_1 : Int) : Option (Bool) :=
 ((fI x_0).bind fun r2 =>
 ((eP (r2 == true) false (fI y_1)).bind fun r4 =>
 some ((r2 && (!r4)) || (decide (x_0 < y_1)))))
theorem aO4 {x_0 : Int} {y_1 : Int} {r : Bool} (hm : qY x_0 y_1 = some r) : bC prog 151 [vu x_0, vu y_1] (vb r) := by
 refine bd 17 func151 ?_
 obtain ⟨r2, h1, hm⟩ := bnd hm
 refine W ?_
 refine cq (oI h1) ?_
 obtain ⟨r4, h3, hm⟩ := bnd hm
 refine W ?_
 refine cg (fun hb => oI (cK h3 hb)) ?_
 exact E
def cY (rec1 : List Int → Int → Int → Int → Option (List Int)) (rec2 : List Int → Int → Int → Int → Int → Option (List Int)) (bL : List Int) (a_1 : Int) (b_2 : Int) (i_6 : Int) (j_7 : Int) : Option (List Int) :=
 ((eP ((decide (a_1 < j_7)) == true) 0 (idx bL j_7)).bind fun x2 =>
 ((eP ((decide (a_1 < j_7)) == true) 0 (idx bL (IntKind.i64.wrap (j_7 - 1)))).bind fun x4 =>
 ((eP ((decide (a_1 < j_7)) == true) false (qY x2 x4)).bind fun r6 =>
 (bif ((decide (a_1 < j_7)) && r6) then
  ((idx bL (IntKind.i64.wrap (j_7 - 1))).bind fun x8 =>
  ((idx bL j_7).bind fun x10 =>
  ((idx bL j_7).bind fun x12 =>
  ((stt bL j_7 x8).bind fun l14 =>
  ((idx l14 (IntKind.i64.wrap (j_7 - 1))).bind fun x16 =>
  ((stt l14 (IntKind.i64.wrap (j_7 - 1)) x10).bind fun l18 =>
  rec2 l18 a_1 b_2 i_6 (IntKind.i64.wrap (j_7 - 1))))))))
 else
  rec1 bL a_1 b_2 (IntKind.i64.wrap (i_6 + 1))))))
def cR (rec1 : List Int → Int → Int → Int → Option (List Int)) : Nat → List Int → Int → Int → Int → Int → Option (List Int)
 | 0 => fun _ _ _ _ _ => none
 | n + 1 => cY rec1 (cR rec1 n)
def cM (rec1 : List Int → Int → Int → Int → Option (List Int)) (bL : List Int) (a_1 : Int) (b_2 : Int) (i_6 : Int) : Option (List Int) :=
 (bif (decide (i_6 < b_2)) then
  cR rec1 bF bL a_1 b_2 i_6 i_6
 else
  some bL)
def bX : Nat → List Int → Int → Int → Int → Option (List Int)
 | 0 => fun _ _ _ _ => none
 | n + 1 => cM (bX n)
def dG (bL : List Int) (a_1 : Int) (b_2 : Int) : Option (List Int) :=
 bX bF bL a_1 b_2 (IntKind.i64.wrap (a_1 + 1))
theorem rN {bL : List Int} {a_1 : Int} {b_2 : Int} {r : List Int} (hm : dG bL a_1 b_2 = some r) {H : aN} {i0 : Nat} (he : H.ent i0 = .cells 1 (bL.flatMap (ci .u64)) 0) : dW prog 145 [.own i0 0 bL.length, .v (.int .i64 a_1), .v (.int .i64 b_2)] H (.tup []) (H.put i0 (.cells 1 (r.flatMap (ci .u64)) 0)) := by
 refine dW.of_bodyM func145 rfl he ?_
 generalize H.ent = h0
 simp only [ntmps145, List.length_cons, List.length_nil, Nat.reduceAdd, Nat.reduceSub]
 unfold dG at hm
 refine sN 64 ?_
 iterate 3 refine pA ?_
 refine fs (AWp.block (AWp.loopM (fun m s => ∃ (bL : List Int) (a_1 : Int) (b_2 : Int) (i_6 : Int), s = (⟨49, (aE (aE (aE (aE (fun _ => AV.any) 0 (.own i0 0 bL.length)) 1 (.v (.int .i64 a_1))) 2 (.v (.int .i64 b_2))) 6 (.v (.int .i64 i_6))), ⟨(upd h0 i0 (.cells 1 (bL.flatMap (ci .u64)) 0)), 64⟩⟩ : St) ∧ bX m bL a_1 b_2 i_6 = some r) bF ?_ ?_ ?_))
 ·
  rintro s ⟨_, _, _, _, _, h⟩
  cases h
 ·
  refine ⟨_, ?_, bL, a_1, b_2, (IntKind.i64.wrap (a_1 + 1)), rfl, hm⟩
  exact xJ (cI 6 _ Z1 (cI 2 _ Z1 (cI 1 _ Z1 (cI 0 _ (xL Z1 Z6) rD)))) (by simp only [iS]; try rfl)
 ·
  rintro n1 s ⟨bL, a_1, b_2, i_6, rfl, hm⟩
  replace hm : cM (bX n1) bL a_1 b_2 i_6 = some r := hm
  unfold cM at hm
  refine AWp.seq' (sN 128 ?_)
  iterate 3 refine pA ?_
  refine fs (AWp.condM hm Z1 (fun _ hm => ?_) (fun _ hm => ?_))
  ·
   refine AWp.skip (cG (AWp.seq' (AWp.block (sN 192 ?_))))
   iterate 2 refine pA ?_
   refine fs (AWp.block (AWp.loopM (fun m s => ∃ (bL : List Int) (a_1 : Int) (b_2 : Int) (i_6 : Int) (j_7 : Int), s = (⟨49, (aE (aE (aE (aE (aE (fun _ => AV.any) 0 (.own i0 0 bL.length)) 1 (.v (.int .i64 a_1))) 2 (.v (.int .i64 b_2))) 6 (.v (.int .i64 i_6))) 7 (.v (.int .i64 j_7))), ⟨(upd h0 i0 (.cells 1 (bL.flatMap (ci .u64)) 0)), 64⟩⟩ : St) ∧ cR (bX n1) m bL a_1 b_2 i_6 j_7 = some r) bF ?_ ?_ ?_))
   ·
    rintro s ⟨_, _, _, _, _, _, h⟩
    cases h
   ·
    refine ⟨_, ?_, bL, a_1, b_2, i_6, i_6, rfl, hm⟩
    exact xJ (cI 7 _ Z1 (cI 6 _ Z1 (cI 2 _ Z1 (cI 1 _ Z1 (cI 0 _ (xL Z1 Z6) rD))))) (by simp only [iS]; try rfl)
   ·
    rintro n2 s ⟨bL, a_1, b_2, i_6, j_7, rfl, hm⟩
    replace hm : cY (bX n1) (cR (bX n1) n2) bL a_1 b_2 i_6 j_7 = some r := hm
    unfold cY at hm
    refine AWp.seq' (sd mix (by kernel_rfl) (N' := 128) rfl ?_)
    iterate 6 first | refine pA ?_ | refine pB ?_
    obtain ⟨x2, h1, hm⟩ := bnd hm
    refine pg rfl rfl Z2 (fun hb => (dQ underlying24 aJb (Zh hb) (by simp only [bG, beq_self_eq_true, Nat.reduceBEq, cond_true, cond_false]; try rfl) Z6 (Zh hb) (cK h1 hb))) ?_
    refine pg rfl rfl Z2 (fun hb => (mV (CFi .u64) (Zh hb) (by simp only [bG, beq_self_eq_true, Nat.reduceBEq, cond_true, cond_false]; try rfl) (cK h1 hb) (fun _ => by simp only [go_sem, Nat.reduceBEq]; try with_reducible rfl))) ?_
    iterate 3 refine pB ?_
    obtain ⟨x4, h3, hm⟩ := bnd hm
    refine pg rfl rfl Z2 (fun hb => (dQ underlying24 aJb (Zh hb) (by simp only [bG, beq_self_eq_true, Nat.reduceBEq, cond_true, cond_false]; try rfl) Z6 (Zh hb) (cK h3 hb))) ?_
    refine pg rfl rfl Z2 (fun hb => (mV (CFi .u64) (Zh hb) (by simp only [bG, beq_self_eq_true, Nat.reduceBEq, cond_true, cond_false]; try rfl) (cK h3 hb) (fun _ => by simp only [go_sem, Nat.reduceBEq]; try with_reducible rfl))) ?_
    obtain ⟨r6, h5, hm⟩ := bnd hm
    refine aW.callQG (r := .v (.bool r6)) Zd rfl Z2 Z1 bT5 (fun hb H => (.cons (td (Zh hb) (.v _)) (.cons (td (Zh hb) (.v _)) .nil))) (fun hb => aO4 (cK h5 hb)) ?_
    refine pA ?_
    refine fs (AWp.condM hm Z1 (fun _ hm => ?_) (fun _ hm => ?_))
    ·
     refine AWp.skip (cG (AWp.seq' (AWp.block (AWp.regD 64 mix (by kernel_rfl) (N' := 192) rfl ?_))))
     iterate 8 refine pA ?_
     obtain ⟨x8, h7, hm⟩ := bnd hm
     refine pu rfl (dQ underlying24 aJb Z1 (by simp only [bG, beq_self_eq_true, Nat.reduceBEq, cond_true, cond_false]; try rfl) Z6 Z1 h7) ?_
     refine pu rfl (mV (CFi .u64) Z1 (by simp only [bG, beq_self_eq_true, Nat.reduceBEq, cond_true, cond_false]; try rfl) h7 (fun _ => by simp only [go_sem, Nat.reduceBEq]; try with_reducible rfl)) ?_
     iterate 2 refine pA ?_
     obtain ⟨x10, h9, hm⟩ := bnd hm
     refine pu rfl (dQ underlying24 aJb Z1 (by simp only [bG, beq_self_eq_true, Nat.reduceBEq, cond_true, cond_false]; try rfl) Z6 Z1 h9) ?_
     refine pu rfl (mV (CFi .u64) Z1 (by simp only [bG, beq_self_eq_true, Nat.reduceBEq, cond_true, cond_false]; try rfl) h9 (fun _ => by simp only [go_sem, Nat.reduceBEq]; try with_reducible rfl)) ?_
     obtain ⟨x12, h11, hm⟩ := bnd hm
     refine pu rfl (dQ underlying24 aJb Z1 (by simp only [bG, beq_self_eq_true, Nat.reduceBEq, cond_true, cond_false]; try rfl) Z6 Z1 h11) ?_
     obtain ⟨l14, h13, hm⟩ := bnd hm
     have qh13 := jI h13
     refine aW.heap0 (id := 143) rfl (zA (CFi .u64) aJb Z1 Z1 (by simp only [bG, beq_self_eq_true, Nat.reduceBEq, cond_true, cond_false]; try rfl) rfl h13) ?_
     obtain ⟨x16, h15, hm⟩ := bnd hm
     refine pu rfl (dQ underlying24 aJb Z1 (by simp only [bG, beq_self_eq_true, Nat.reduceBEq, cond_true, cond_false]; try rfl) Z6 Z1 h15) ?_
     obtain ⟨l18, h17, hm⟩ := bnd hm
     have qh17 := jI h17
     refine aW.heap0 (id := 145) rfl (zA (CFi .u64) aJb Z1 Z1 (by simp only [bG, beq_self_eq_true, Nat.reduceBEq, cond_true, cond_false]; try rfl) rfl h17) ?_
     refine aW.fin (kI (cG (AWp.reg 64 (N' := 256) rfl ?_)))
     iterate 3 refine pA ?_
     refine aW.fin (fX ?_)
     refine ⟨_, ?_, l18, a_1, b_2, i_6, (IntKind.i64.wrap (j_7 - 1)), rfl, hm⟩
     exact xJ (cI 7 _ Z1 (cI 6 _ Z1 (cI 2 _ Z1 (cI 1 _ Z1 (cI 0 _ (xL Z1 Z6) rD))))) (by simp only [iS]; try rfl)
    ·
     refine AWp.exit (iQ (gE (gD (kI (cG (AWp.reg 64 (N' := 192) rfl ?_))))))
     iterate 3 refine pA ?_
     refine aW.fin (fX ?_)
     refine ⟨_, ?_, bL, a_1, b_2, (IntKind.i64.wrap (i_6 + 1)), rfl, hm⟩
     exact xJ (cI 6 _ Z1 (cI 2 _ Z1 (cI 1 _ Z1 (cI 0 _ (xL Z1 Z6) rD)))) (by simp only [iS]; try rfl)
  ·
   refine AWp.exit (iQ (gE (gD ?_)))
   cases hm
   exact aTg (.inl rfl) Tryz.results145 (by simp only [iS]; try rfl)
def eK (rec1 : List Int → Int → Int → Int → Bool → Bool → Option (List Int)) (bL : List Int) (a_1 : Int) (b_2 : Int) (fU : Int) (qW : Bool) (kY : Bool) : Option (List Int) :=
 (bif (decide ((IntKind.i64.wrap (b_2 - a_1)) ≤ 12)) then
  ((aF1 (fun x => x.length) bL.length (dG bL a_1 b_2)).bind fun l2 =>
  some l2)
 else
  (bif (fU == 0) then
   none
  else
   none))
def eN : Nat → List Int → Int → Int → Int → Bool → Bool → Option (List Int)
 | 0 => fun _ _ _ _ _ _ => none
 | n + 1 => eK (eN n)
def fW (bL : List Int) (a_1 : Int) (b_2 : Int) (fU : Int) : Option (List Int) :=
 eN bF bL a_1 b_2 fU true true
theorem xX {bL : List Int} {a_1 : Int} {b_2 : Int} {fU : Int} {r : List Int} (hm : fW bL a_1 b_2 fU = some r) {H : aN} {i0 : Nat} (he : H.ent i0 = .cells 1 (bL.flatMap (ci .u64)) 0) : dW prog 133 [.own i0 0 bL.length, .v (.int .i64 a_1), .v (.int .i64 b_2), .v (.int .i64 fU)] H (.tup []) (H.put i0 (.cells 1 (r.flatMap (ci .u64)) 0)) := by
 refine dW.of_bodyM func133 rfl he ?_
 generalize H.ent = h0
 simp only [ntmps133, List.length_cons, List.length_nil, Nat.reduceAdd, Nat.reduceSub]
 unfold fW at hm
 refine sN 64 (pA ?_)
 refine fs (sN 128 (pA ?_))
 refine fs (AWp.block (AWp.loopM (fun m s => ∃ (bL : List Int) (a_1 : Int) (b_2 : Int) (fU : Int) (qW : Bool) (kY : Bool), s = (⟨134, (aE (aE (aE (aE (aE (aE (fun _ => AV.any) 0 (.own i0 0 bL.length)) 1 (.v (.int .i64 a_1))) 2 (.v (.int .i64 b_2))) 3 (.v (.int .i64 fU))) 8 (.v (.bool qW))) 9 (.v (.bool kY))), ⟨(upd h0 i0 (.cells 1 (bL.flatMap (ci .u64)) 0)), 64⟩⟩ : St) ∧ eN m bL a_1 b_2 fU qW kY = some r) bF ?_ ?_ ?_))
 ·
  rintro s ⟨_, _, _, _, _, _, _, h⟩
  cases h
 ·
  refine ⟨_, ?_, bL, a_1, b_2, fU, true, true, rfl, hm⟩
  exact xJ (cI 9 _ Z1 (cI 8 _ Z1 (cI 3 _ Z1 (cI 2 _ Z1 (cI 1 _ Z1 (cI 0 _ (xL Z1 Z6) rD)))))) (by simp only [iS]; try rfl)
 ·
  rintro n1 s ⟨bL, a_1, b_2, fU, qW, kY, rfl, hm⟩
  replace hm : eK (eN n1) bL a_1 b_2 fU qW kY = some r := hm
  unfold eK at hm
  refine AWp.block (sN 128 ?_)
  iterate 4 refine pA ?_
  refine fs (AWp.seq' (sN 192 ?_))
  iterate 2 refine pA ?_
  refine fs (AWp.condM hm Z1 (fun _ hm => ?_) (fun _ hm => ?_))
  ·
   refine sN 256 ?_
   iterate 3 refine pA ?_
   obtain ⟨l2, h1, hm⟩ := bnd hm
   have qh1 := aLx h1
   refine aW.callM Zd Z1 bT4 Z1 (rN (aIo h1) (by simp only [bG, beq_self_eq_true, Nat.reduceBEq, cond_true, cond_false]; try rfl)) ?_
   refine fs (AWp.ret (kJ (aCg (aB1 (aCg ?_)))))
   cases hm
   exact aTg (.inr rfl) Tryz.results133 (by simp only [iS]; try rfl)
  ·
   refine AWp.skip (cG (AWp.seq' (sN 256 ?_)))
   iterate 2 refine pA ?_
   refine fs (AWp.condM hm Z1 (fun _ hm => ?_) (fun _ hm => ?_))
   ·
    cases hm
   ·
    cases hm
def gQ (x_0 : List Int) : Option (List Int) :=
 ((aBx (IntKind.u64.wrap (x_0.length : Int))).bind fun r2 =>
 ((aF1 (fun x => x.length) x_0.length (fW x_0 0 (x_0.length : Int) r2)).bind fun l4 =>
 some l4))
theorem aJ9 {x_0 : List Int} {r : List Int} (hm : gQ x_0 = some r) {H : aN} {i0 : Nat} (he : H.ent i0 = .cells 1 (x_0.flatMap (ci .u64)) 0) : dW prog 100 [.own i0 0 x_0.length] H (.tup []) (H.put i0 (.cells 1 (r.flatMap (ci .u64)) 0)) := by
 refine dW.of_bodyM func100 rfl he ?_
 generalize H.ent = h0
 simp only [ntmps100, List.length_cons, List.length_nil, Nat.reduceAdd, Nat.reduceSub]
 unfold gQ at hm
 refine sN 64 ?_
 iterate 3 refine pA ?_
 refine fs (AWp.reg 64 (N' := 128) rfl ?_)
 iterate 4 refine pA ?_
 obtain ⟨r2, h1, hm⟩ := bnd hm
 refine aW.callQ (r := .v (.int .i64 r2)) Zd Z1 bQ6 (fun H => (cV .nil)) (aLi h1) ?_
 obtain ⟨l4, h3, hm⟩ := bnd hm
 have qh3 := aLx h3
 refine aW.callM Zd Z1 bT2 Z1 (xX (aIo h3) (by simp only [bG, beq_self_eq_true, Nat.reduceBEq, cond_true, cond_false]; try rfl)) ?_
 refine aW.fin ?_
 cases hm
 exact aTg (.inl rfl) Tryz.results100 (by simp only [iS]; try rfl)
def yF (rec1 : aD → List Int → List Int → Int → Int → Option ((List Int))) (s_2 : aD) (cJ : List Int) (t8 : List Int) (t9 : Int) (t10 : Int) : Option ((List Int)) :=
 rec1 s_2 cJ t8 t9 (IntKind.i64.wrap (t10 + 1))
def aD3 (rec1 : aD → List Int → List Int → Int → Int → Option ((List Int))) (s_2 : aD) (cJ : List Int) (t8 : List Int) (t9 : Int) (t10 : Int) : Option ((List Int)) :=
 (bif (decide (t10 < t9)) then
  ((idx t8 t10).bind fun x2 =>
  ((idx s_2.Slots x2).bind fun x4 =>
  (bif x4.Used then
   ((idx s_2.Slots x2).bind fun x6 =>
   ((app cJ [x6.Key]).bind fun l8 =>
   yF rec1 s_2 l8 t8 t9 t10))
  else
   yF rec1 s_2 cJ t8 t9 t10)))
 else
  ((aF1 (fun x => x.length) cJ.length (gQ cJ)).bind fun l10 =>
  some l10))
def oM : Nat → aD → List Int → List Int → Int → Int → Option ((List Int))
 | 0 => fun _ _ _ _ _ => none
 | n + 1 => aD3 (oM n)
def nE (s_0 : aD) (l_1 : List Int) : Option ((List Int)) :=
 oM bF s_0 [] l_1 (l_1.length : Int) 0
theorem aFr {s_0 : aD} {l_1 : List Int} {r : (List Int)} (hm : nE s_0 l_1 = some r) : bC prog 76 [.agg [vi s_0.Graph.Config.N, vi s_0.Graph.Config.L, vi s_0.Graph.Config.R, vl bE s_0.Graph.Hashes, vl aO s_0.Graph.Edges, vl aY s_0.Slots], vl (ci .i64) l_1] (vl (ci .u64) r) := by
 refine bd 33 func76 ?_
 refine W ?_
 refine lp (fun m s => ∃ s_2 cJ t8 t9 t10, s = ⟨33, (aE (aE (aE (aE (aE fa 2 (.adr 1 0)) 5 (.own 2 0 cJ.length)) 8 (vl (ci .i64) t8)) 9 (vi t9)) 10 (vi t10)), ⟨(upd (upd aV 1 (.cells 1 [vi s_2.Graph.Config.N, vi s_2.Graph.Config.L, vi s_2.Graph.Config.R, vl bE s_2.Graph.Hashes, vl aO s_2.Graph.Edges, vl aY s_2.Slots] 0)) 2 (.cells 1 (cJ.flatMap (ci .u64)) 0)), 64⟩⟩ ∧ oM m s_2 cJ t8 t9 t10 = some r) ?_ ?_
 ·
  refine ⟨_, ?_, s_0, [], l_1, (l_1.length : Int), 0, rfl, hm⟩
  refine St.Le.trans (kH 5 900005 1 Z1 Z5) ?_
  exact cn (fun j => bif j == 1 then 0 else bif j == 2 then 900005 else 0)
 rintro n1 s ⟨s_2, cJ, t8, t9, t10, rfl, hm⟩
 refine W ?_
 refine cm hm (fun hm => ?_) fun hm => ?_
 ·
  refine V ?_
  refine AWp.seqJ (fun s => ∃ s_2 cJ t8 t9 t10, s = ⟨33, (aE (aE (aE (aE (aE fa 2 (.adr 1 0)) 5 (.own 2 0 cJ.length)) 8 (vl (ci .i64) t8)) 9 (vi t9)) 10 (vi t10)), ⟨(upd (upd aV 1 (.cells 1 [vi s_2.Graph.Config.N, vi s_2.Graph.Config.L, vi s_2.Graph.Config.R, vl bE s_2.Graph.Hashes, vl aO s_2.Graph.Edges, vl aY s_2.Slots] 0)) 2 (.cells 1 (cJ.flatMap (ci .u64)) 0)), 64⟩⟩ ∧ yF (oM n1) s_2 cJ t8 t9 t10 = some r) ?_ ?_
  ·
   obtain ⟨x2, h1, hm⟩ := bnd hm
   obtain ⟨x4, h3, hm⟩ := bnd hm
   refine W ?_
   refine cm hm (fun hm => ?_) fun hm => ?_
   ·
    have hm := sb hm h3
    refine W ?_
    refine aL (CFi .u64) [x4.Key] ?_
    obtain ⟨l8, h7, hm⟩ := bnd hm
    refine W ?_
    exact Lr (fun j => bif j == 1 then 1 else bif j == 2 then 264 else 0)
   refine W ?_
   exact Lr (fun j => bif j == 1 then 1 else bif j == 2 then 2 else 0)
  rintro s ⟨s_2, cJ, t8, t9, t10, rfl, hm⟩
  refine W ?_
  exact Lr (fun j => bif j == 1 then 1 else bif j == 2 then 2 else 0)
 obtain ⟨l10, h9, hm⟩ := bnd hm
 refine W ?_
 have qh9 := aLx h9
 refine aW.callM Zd Z1 bSt Z1 (aJ9 (aIo h9) Z3) ?_
 exact E
def rC (rec1 : aD → Int → List Int → Int → Int → Option (Int)) (s_2 : aD) (uN : Int) (t8 : List Int) (t9 : Int) (t10 : Int) : Option (Int) :=
 rec1 s_2 uN t8 t9 (IntKind.i64.wrap (t10 + 1))
def xI (rec1 : aD → Int → List Int → Int → Int → Option (Int)) (s_2 : aD) (uN : Int) (t8 : List Int) (t9 : Int) (t10 : Int) : Option (Int) :=
 (bif (decide (t10 < t9)) then
  ((idx t8 t10).bind fun x2 =>
  ((eP ((t10 == x2) == true) (aM.mk false 0) (idx s_2.Slots t10)).bind fun x4 =>
  (bif ((t10 == x2) && x4.Used) then
   rC rec1 s_2 (IntKind.i64.wrap (uN + 1)) t8 t9 t10
  else
   rC rec1 s_2 uN t8 t9 t10)))
 else
  some uN)
def iH : Nat → aD → Int → List Int → Int → Int → Option (Int)
 | 0 => fun _ _ _ _ _ => none
 | n + 1 => xI (iH n)
def zL (s_0 : aD) (aQ4 : List Int) : Option (Int) :=
 iH bF s_0 0 aQ4 (aQ4.length : Int) 0
theorem aQ0 {s_0 : aD} {aQ4 : List Int} {r : Int} (hm : zL s_0 aQ4 = some r) : bC prog 79 [.agg [vi s_0.Graph.Config.N, vi s_0.Graph.Config.L, vi s_0.Graph.Config.R, vl bE s_0.Graph.Hashes, vl aO s_0.Graph.Edges, vl aY s_0.Slots], vl (ci .i64) aQ4] (vi r) := by
 refine bd 30 func79 ?_
 refine W ?_
 refine lp (fun m s => ∃ s_2 uN t8 t9 t10, s = ⟨30, (aE (aE (aE (aE (aE fa 2 (.adr 1 0)) 5 (vi uN)) 8 (vl (ci .i64) t8)) 9 (vi t9)) 10 (vi t10)), ⟨(upd aV 1 (.cells 1 [vi s_2.Graph.Config.N, vi s_2.Graph.Config.L, vi s_2.Graph.Config.R, vl bE s_2.Graph.Hashes, vl aO s_2.Graph.Edges, vl aY s_2.Slots] 0)), 64⟩⟩ ∧ iH m s_2 uN t8 t9 t10 = some r) (Lr (fun j => bif j == 1 then 0 else 0)) ?_
 rintro n1 s ⟨s_2, uN, t8, t9, t10, rfl, hm⟩
 refine W ?_
 refine cm hm (fun hm => ?_) fun hm => ?_
 ·
  refine V ?_
  refine AWp.seqJ (fun s => ∃ s_2 uN t8 t9 t10, s = ⟨30, (aE (aE (aE (aE (aE fa 2 (.adr 1 0)) 5 (vi uN)) 8 (vl (ci .i64) t8)) 9 (vi t9)) 10 (vi t10)), ⟨(upd aV 1 (.cells 1 [vi s_2.Graph.Config.N, vi s_2.Graph.Config.L, vi s_2.Graph.Config.R, vl bE s_2.Graph.Hashes, vl aO s_2.Graph.Edges, vl aY s_2.Slots] 0)), 64⟩⟩ ∧ rC (iH n1) s_2 uN t8 t9 t10 = some r) ?_ ?_
  ·
   obtain ⟨x2, h1, hm⟩ := bnd hm
   obtain ⟨x4, h3, hm⟩ := bnd hm
   refine W ?_
   refine cm hm (fun hm => ?_) fun hm => ?_
   ·
    refine W ?_
    exact Lr (fun j => bif j == 1 then 1 else 0)
   refine W ?_
   exact Lr (fun j => bif j == 1 then 1 else 0)
  rintro s ⟨s_2, uN, t8, t9, t10, rfl, hm⟩
  refine W ?_
  exact Lr (fun j => bif j == 1 then 1 else 0)
 exact E
def cX (mZ : (aG → aG → Option (Int))) (rec1 : List aG → Int → Int → Int → Option (List aG)) (rec2 : List aG → Int → Int → Int → Int → Option (List aG)) (bL : List aG) (a_1 : Int) (b_2 : Int) (i_8 : Int) (j_9 : Int) : Option (List aG) :=
 ((eP ((decide (a_1 < j_9)) == true) (aG.mk 0 0) (idx bL j_9)).bind fun x2 =>
 ((eP ((decide (a_1 < j_9)) == true) (aG.mk 0 0) (idx bL (IntKind.i64.wrap (j_9 - 1)))).bind fun x4 =>
 ((eP ((decide (a_1 < j_9)) == true) 0 (mZ x2 x4)).bind fun r6 =>
 (bif ((decide (a_1 < j_9)) && (decide (r6 < 0))) then
  ((idx bL (IntKind.i64.wrap (j_9 - 1))).bind fun x8 =>
  ((idx bL j_9).bind fun x10 =>
  ((idx bL j_9).bind fun x12 =>
  ((stt bL j_9 x8).bind fun l14 =>
  ((idx l14 (IntKind.i64.wrap (j_9 - 1))).bind fun x16 =>
  ((stt l14 (IntKind.i64.wrap (j_9 - 1)) x10).bind fun l18 =>
  rec2 l18 a_1 b_2 i_8 (IntKind.i64.wrap (j_9 - 1))))))))
 else
  rec1 bL a_1 b_2 (IntKind.i64.wrap (i_8 + 1))))))
def cQ (mZ : (aG → aG → Option (Int))) (rec1 : List aG → Int → Int → Int → Option (List aG)) : Nat → List aG → Int → Int → Int → Int → Option (List aG)
 | 0 => fun _ _ _ _ _ => none
 | n + 1 => cX mZ rec1 (cQ mZ rec1 n)
def cL (mZ : (aG → aG → Option (Int))) (rec1 : List aG → Int → Int → Int → Option (List aG)) (bL : List aG) (a_1 : Int) (b_2 : Int) (i_8 : Int) : Option (List aG) :=
 (bif (decide (i_8 < b_2)) then
  cQ mZ rec1 bF bL a_1 b_2 i_8 i_8
 else
  some bL)
def bW (mZ : (aG → aG → Option (Int))) : Nat → List aG → Int → Int → Int → Option (List aG)
 | 0 => fun _ _ _ _ => none
 | n + 1 => cL mZ (bW mZ n)
def dF (bL : List aG) (a_1 : Int) (b_2 : Int) (mZ : (aG → aG → Option (Int))) : Option (List aG) :=
 bW mZ bF bL a_1 b_2 (IntKind.i64.wrap (a_1 + 1))
theorem rM {bL : List aG} {a_1 : Int} {b_2 : Int} {mZ : (aG → aG → Option (Int))} {r : List aG} (hm : dF bL a_1 b_2 mZ = some r) {aK1 : FuncId} {aC0 : List AV} (bC3 : ∀ a, a ∈ aC0 → AM.Data a) (bK3 : (Program.funcs prog)[aK1]?.any (fun fn => fn.body.isSome && fn.name != "runtime.NumGoroutine") = true) (bK6 : ∀ {x0 x1 r}, mZ x0 x1 = some r → bC prog aK1 ([.agg [.v (.int .u64 x0.x0), .v (.int .u64 x0.x1)], .agg [.v (.int .u64 x1.x0), .v (.int .u64 x1.x1)]] ++ aC0) (.v (.int .i64 r))) {H : aN} {i0 : Nat} (he : H.ent i0 = .cells 2 (bL.flatMap bO) 0) : dW prog 156 [.own i0 0 bL.length, .v (.int .i64 a_1), .v (.int .i64 b_2), .clo (.func aK1) [] aC0] H (.tup []) (H.put i0 (.cells 2 (r.flatMap bO) 0)) := by
 refine dW.of_bodyM func156 rfl he ?_
 generalize H.ent = h0
 simp only [ntmps156, List.length_cons, List.length_nil, Nat.reduceAdd, Nat.reduceSub]
 unfold dF at hm
 refine sN 64 ?_
 iterate 3 refine pA ?_
 refine fs (AWp.block (AWp.loopM (fun m s => ∃ (bL : List aG) (a_1 : Int) (b_2 : Int) (i_8 : Int), s = (⟨53, (aE (aE (aE (aE (aE (fun _ => AV.any) 0 (.own i0 0 bL.length)) 1 (.v (.int .i64 a_1))) 2 (.v (.int .i64 b_2))) 3 (.clo (.func aK1) [] aC0)) 8 (.v (.int .i64 i_8))), ⟨(upd h0 i0 (.cells 2 (bL.flatMap bO) 0)), 64⟩⟩ : St) ∧ bW mZ m bL a_1 b_2 i_8 = some r) bF ?_ ?_ ?_))
 ·
  rintro s ⟨_, _, _, _, _, h⟩
  cases h
 ·
  refine ⟨_, ?_, bL, a_1, b_2, (IntKind.i64.wrap (a_1 + 1)), rfl, hm⟩
  exact xJ (cI 8 _ Z1 (cI 3 _ Z1 (cI 2 _ Z1 (cI 1 _ Z1 (cI 0 _ (xL Z1 Z6) rD))))) (by simp only [iS]; try rfl)
 ·
  rintro n1 s ⟨bL, a_1, b_2, i_8, rfl, hm⟩
  replace hm : cL mZ (bW mZ n1) bL a_1 b_2 i_8 = some r := hm
  unfold cL at hm
  refine AWp.seq' (sN 128 ?_)
  iterate 3 refine pA ?_
  refine fs (AWp.condM hm Z1 (fun _ hm => ?_) (fun _ hm => ?_))
  ·
   refine AWp.skip (cG (AWp.seq' (AWp.block (sN 192 ?_))))
   iterate 2 refine pA ?_
   refine fs (AWp.block (AWp.loopM (fun m s => ∃ (bL : List aG) (a_1 : Int) (b_2 : Int) (i_8 : Int) (j_9 : Int), s = (⟨53, (aE (aE (aE (aE (aE (aE (fun _ => AV.any) 0 (.own i0 0 bL.length)) 1 (.v (.int .i64 a_1))) 2 (.v (.int .i64 b_2))) 3 (.clo (.func aK1) [] aC0)) 8 (.v (.int .i64 i_8))) 9 (.v (.int .i64 j_9))), ⟨(upd h0 i0 (.cells 2 (bL.flatMap bO) 0)), 64⟩⟩ : St) ∧ cQ mZ (bW mZ n1) m bL a_1 b_2 i_8 j_9 = some r) bF ?_ ?_ ?_))
   ·
    rintro s ⟨_, _, _, _, _, _, h⟩
    cases h
   ·
    refine ⟨_, ?_, bL, a_1, b_2, i_8, i_8, rfl, hm⟩
    exact xJ (cI 9 _ Z1 (cI 8 _ Z1 (cI 3 _ Z1 (cI 2 _ Z1 (cI 1 _ Z1 (cI 0 _ (xL Z1 Z6) rD)))))) (by simp only [iS]; try rfl)
   ·
    rintro n2 s ⟨bL, a_1, b_2, i_8, j_9, rfl, hm⟩
    replace hm : cX mZ (bW mZ n1) (cQ mZ (bW mZ n1) n2) bL a_1 b_2 i_8 j_9 = some r := hm
    unfold cX at hm
    refine AWp.seq' (sd mix (by kernel_rfl) (N' := 128) rfl ?_)
    iterate 7 first | refine pA ?_ | refine pB ?_
    obtain ⟨x2, h1, hm⟩ := bnd hm
    refine pg rfl rfl Z2 (fun hb => (dQ underlying40 aHl (Zh hb) (by simp only [bG, beq_self_eq_true, Nat.reduceBEq, cond_true, cond_false]; try rfl) Z6 (Zh hb) (cK h1 hb))) ?_
    refine pg rfl rfl Z2 (fun hb => (mV bY (Zh hb) (by simp only [bG, beq_self_eq_true, Nat.reduceBEq, cond_true, cond_false]; try rfl) (cK h1 hb) (fun _ => by simp only [go_sem, Nat.reduceBEq]; try with_reducible rfl))) ?_
    iterate 3 refine pB ?_
    obtain ⟨x4, h3, hm⟩ := bnd hm
    refine pg rfl rfl Z2 (fun hb => (dQ underlying40 aHl (Zh hb) (by simp only [bG, beq_self_eq_true, Nat.reduceBEq, cond_true, cond_false]; try rfl) Z6 (Zh hb) (cK h3 hb))) ?_
    refine pg rfl rfl Z2 (fun hb => (mV bY (Zh hb) (by simp only [bG, beq_self_eq_true, Nat.reduceBEq, cond_true, cond_false]; try rfl) (cK h3 hb) (fun _ => by simp only [go_sem, Nat.reduceBEq]; try with_reducible rfl))) ?_
    obtain ⟨r6, h5, hm⟩ := bnd hm
    refine aW.callQCG (r := .v (.int .i64 r6)) Zd rfl Z2 (fun hb => (Zh hb)) bC3 bK3 (fun hb H => (.cons (td (Zh hb) (.agg _ (bY.dat _))) (.cons (td (Zh hb) (.agg _ (bY.dat _))) .nil))) (fun hb => bK6 (cK h5 hb)) ?_
    iterate 2 first | refine pA ?_ | refine pB ?_
    refine fs (AWp.condM hm Z1 (fun _ hm => ?_) (fun _ hm => ?_))
    ·
     refine AWp.skip (cG (AWp.seq' (AWp.block (AWp.regD 64 mix (by kernel_rfl) (N' := 192) rfl ?_))))
     iterate 8 refine pA ?_
     obtain ⟨x8, h7, hm⟩ := bnd hm
     refine pu rfl (dQ underlying40 aHl Z1 (by simp only [bG, beq_self_eq_true, Nat.reduceBEq, cond_true, cond_false]; try rfl) Z6 Z1 h7) ?_
     refine pu rfl (mV bY Z1 (by simp only [bG, beq_self_eq_true, Nat.reduceBEq, cond_true, cond_false]; try rfl) h7 (fun _ => by simp only [go_sem, Nat.reduceBEq]; try with_reducible rfl)) ?_
     iterate 2 refine pA ?_
     obtain ⟨x10, h9, hm⟩ := bnd hm
     refine pu rfl (dQ underlying40 aHl Z1 (by simp only [bG, beq_self_eq_true, Nat.reduceBEq, cond_true, cond_false]; try rfl) Z6 Z1 h9) ?_
     refine pu rfl (mV bY Z1 (by simp only [bG, beq_self_eq_true, Nat.reduceBEq, cond_true, cond_false]; try rfl) h9 (fun _ => by simp only [go_sem, Nat.reduceBEq]; try with_reducible rfl)) ?_
     obtain ⟨x12, h11, hm⟩ := bnd hm
     refine pu rfl (dQ underlying40 aHl Z1 (by simp only [bG, beq_self_eq_true, Nat.reduceBEq, cond_true, cond_false]; try rfl) Z6 Z1 h11) ?_
     obtain ⟨l14, h13, hm⟩ := bnd hm
     have qh13 := jI h13
     refine aW.heap0 (id := 143) rfl (zA bY aHl Z1 Z1 (by simp only [bG, beq_self_eq_true, Nat.reduceBEq, cond_true, cond_false]; try rfl) rfl h13) ?_
     obtain ⟨x16, h15, hm⟩ := bnd hm
     refine pu rfl (dQ underlying40 aHl Z1 (by simp only [bG, beq_self_eq_true, Nat.reduceBEq, cond_true, cond_false]; try rfl) Z6 Z1 h15) ?_
     obtain ⟨l18, h17, hm⟩ := bnd hm
     have qh17 := jI h17
     refine aW.heap0 (id := 145) rfl (zA bY aHl Z1 Z1 (by simp only [bG, beq_self_eq_true, Nat.reduceBEq, cond_true, cond_false]; try rfl) rfl h17) ?_
     refine aW.fin (kI (cG (AWp.reg 64 (N' := 256) rfl ?_)))
     iterate 3 refine pA ?_
     refine aW.fin (fX ?_)
     refine ⟨_, ?_, l18, a_1, b_2, i_8, (IntKind.i64.wrap (j_9 - 1)), rfl, hm⟩
     exact xJ (cI 9 _ Z1 (cI 8 _ Z1 (cI 3 _ Z1 (cI 2 _ Z1 (cI 1 _ Z1 (cI 0 _ (xL Z1 Z6) rD)))))) (by simp only [iS]; try rfl)
    ·
     refine AWp.exit (iQ (gE (gD (kI (cG (AWp.reg 64 (N' := 192) rfl ?_))))))
     iterate 3 refine pA ?_
     refine aW.fin (fX ?_)
     refine ⟨_, ?_, bL, a_1, b_2, (IntKind.i64.wrap (i_8 + 1)), rfl, hm⟩
     exact xJ (cI 8 _ Z1 (cI 3 _ Z1 (cI 2 _ Z1 (cI 1 _ Z1 (cI 0 _ (xL Z1 Z6) rD))))) (by simp only [iS]; try rfl)
  ·
   refine AWp.exit (iQ (gE (gD ?_)))
   cases hm
   exact aTg (.inl rfl) Tryz.results156 (by simp only [iS]; try rfl)
def eG (aEv : (aG → aG → Option (Int))) (rec1 : List aG → Int → Int → Int → Bool → Bool → Option (List aG)) (bL : List aG) (a_1 : Int) (b_2 : Int) (fU : Int) (oC : Bool) (kB : Bool) : Option (List aG) :=
 (bif (decide ((IntKind.i64.wrap (b_2 - a_1)) ≤ 12)) then
  ((aF1 (fun x => x.length) bL.length (dF bL a_1 b_2 aEv)).bind fun l2 =>
  some l2)
 else
  (bif (fU == 0) then
   none
  else
   none))
def eJ (aEv : (aG → aG → Option (Int))) : Nat → List aG → Int → Int → Int → Bool → Bool → Option (List aG)
 | 0 => fun _ _ _ _ _ _ => none
 | n + 1 => eG aEv (eJ aEv n)
def fV (bL : List aG) (a_1 : Int) (b_2 : Int) (fU : Int) (aEv : (aG → aG → Option (Int))) : Option (List aG) :=
 eJ aEv bF bL a_1 b_2 fU true true
theorem xW {bL : List aG} {a_1 : Int} {b_2 : Int} {fU : Int} {aEv : (aG → aG → Option (Int))} {r : List aG} (hm : fV bL a_1 b_2 fU aEv = some r) {aOr : FuncId} {aH4 : List AV} (bC4 : ∀ a, a ∈ aH4 → AM.Data a) (bK4 : (Program.funcs prog)[aOr]?.any (fun fn => fn.body.isSome && fn.name != "runtime.NumGoroutine") = true) (bK7 : ∀ {x0 x1 r}, aEv x0 x1 = some r → bC prog aOr ([.agg [.v (.int .u64 x0.x0), .v (.int .u64 x0.x1)], .agg [.v (.int .u64 x1.x0), .v (.int .u64 x1.x1)]] ++ aH4) (.v (.int .i64 r))) {H : aN} {i0 : Nat} (he : H.ent i0 = .cells 2 (bL.flatMap bO) 0) : dW prog 136 [.own i0 0 bL.length, .v (.int .i64 a_1), .v (.int .i64 b_2), .v (.int .i64 fU), .clo (.func aOr) [] aH4] H (.tup []) (H.put i0 (.cells 2 (r.flatMap bO) 0)) := by
 refine dW.of_bodyM func136 rfl he ?_
 generalize H.ent = h0
 simp only [ntmps136, List.length_cons, List.length_nil, Nat.reduceAdd, Nat.reduceSub]
 unfold fV at hm
 refine sN 64 (pA ?_)
 refine fs (sN 128 (pA ?_))
 refine fs (AWp.block (AWp.loopM (fun m s => ∃ (bL : List aG) (a_1 : Int) (b_2 : Int) (fU : Int) (oC : Bool) (kB : Bool), s = (⟨148, (aE (aE (aE (aE (aE (aE (aE (fun _ => AV.any) 0 (.own i0 0 bL.length)) 1 (.v (.int .i64 a_1))) 2 (.v (.int .i64 b_2))) 3 (.v (.int .i64 fU))) 4 (.clo (.func aOr) [] aH4)) 10 (.v (.bool oC))) 11 (.v (.bool kB))), ⟨(upd h0 i0 (.cells 2 (bL.flatMap bO) 0)), 64⟩⟩ : St) ∧ eJ aEv m bL a_1 b_2 fU oC kB = some r) bF ?_ ?_ ?_))
 ·
  rintro s ⟨_, _, _, _, _, _, _, h⟩
  cases h
 ·
  refine ⟨_, ?_, bL, a_1, b_2, fU, true, true, rfl, hm⟩
  exact xJ (cI 11 _ Z1 (cI 10 _ Z1 (cI 4 _ Z1 (cI 3 _ Z1 (cI 2 _ Z1 (cI 1 _ Z1 (cI 0 _ (xL Z1 Z6) rD))))))) (by simp only [iS]; try rfl)
 ·
  rintro n1 s ⟨bL, a_1, b_2, fU, oC, kB, rfl, hm⟩
  replace hm : eG aEv (eJ aEv n1) bL a_1 b_2 fU oC kB = some r := hm
  unfold eG at hm
  refine AWp.block (sN 128 ?_)
  iterate 4 refine pA ?_
  refine fs (AWp.seq' (sN 192 ?_))
  iterate 2 refine pA ?_
  refine fs (AWp.condM hm Z1 (fun _ hm => ?_) (fun _ hm => ?_))
  ·
   refine sN 256 ?_
   iterate 4 refine pA ?_
   obtain ⟨l2, h1, hm⟩ := bnd hm
   have qh1 := aLx h1
   refine aW.callM Zd Z1 bT6 Z1 (rM (aIo h1) bC4 bK4 bK7 (by simp only [bG, beq_self_eq_true, Nat.reduceBEq, cond_true, cond_false]; try rfl)) ?_
   refine fs (AWp.ret (kJ (aCg (aB1 (aCg ?_)))))
   cases hm
   exact aTg (.inr rfl) Tryz.results136 (by simp only [iS]; try rfl)
  ·
   refine AWp.skip (cG (AWp.seq' (sN 256 ?_)))
   iterate 2 refine pA ?_
   refine fs (AWp.condM hm Z1 (fun _ hm => ?_) (fun _ hm => ?_))
   ·
    cases hm
   ·
    cases hm
def fK (x_0 : List aG) (bDm : (aG → aG → Option (Int))) : Option (List aG) :=
 ((aBx (IntKind.u64.wrap (x_0.length : Int))).bind fun r2 =>
 ((aF1 (fun x => x.length) x_0.length (fV x_0 0 (x_0.length : Int) r2 bDm)).bind fun l4 =>
 some l4))
theorem aEh {x_0 : List aG} {bDm : (aG → aG → Option (Int))} {r : List aG} (hm : fK x_0 bDm = some r) {aUs : FuncId} {aLk : List AV} (bC2 : ∀ a, a ∈ aLk → AM.Data a) (bK2 : (Program.funcs prog)[aUs]?.any (fun fn => fn.body.isSome && fn.name != "runtime.NumGoroutine") = true) (bK5 : ∀ {x0 x1 r}, bDm x0 x1 = some r → bC prog aUs ([.agg [.v (.int .u64 x0.x0), .v (.int .u64 x0.x1)], .agg [.v (.int .u64 x1.x0), .v (.int .u64 x1.x1)]] ++ aLk) (.v (.int .i64 r))) {H : aN} {i0 : Nat} (he : H.ent i0 = .cells 2 (x_0.flatMap bO) 0) : dW prog 104 [.own i0 0 x_0.length, .clo (.func aUs) [] aLk] H (.tup []) (H.put i0 (.cells 2 (r.flatMap bO) 0)) := by
 refine dW.of_bodyM func104 rfl he ?_
 generalize H.ent = h0
 simp only [ntmps104, List.length_cons, List.length_nil, Nat.reduceAdd, Nat.reduceSub]
 unfold fK at hm
 refine sN 64 ?_
 iterate 3 refine pA ?_
 refine fs (AWp.reg 64 (N' := 128) rfl ?_)
 iterate 4 refine pA ?_
 obtain ⟨r2, h1, hm⟩ := bnd hm
 refine aW.callQ (r := .v (.int .i64 r2)) Zd Z1 bQ6 (fun H => (cV .nil)) (aLi h1) ?_
 refine pA ?_
 obtain ⟨l4, h3, hm⟩ := bnd hm
 have qh3 := aLx h3
 refine aW.callM Zd Z1 bT3 Z1 (xW (aIo h3) bC2 bK2 bK5 (by simp only [bG, beq_self_eq_true, Nat.reduceBEq, cond_true, cond_false]; try rfl)) ?_
 refine aW.fin ?_
 cases hm
 exact aTg (.inl rfl) Tryz.results104 (by simp only [iS]; try rfl)
def jB (x_0 : Int) (y_1 : Int) : Option (Int) :=
 ((fI x_0).bind fun r2 =>
 ((fI y_1).bind fun r4 =>
 (bif r2 then
  (bif r4 then
   some 0
  else
   some (-1))
 else
  (bif r4 then
   some 1
  else
   (bif (decide (x_0 < y_1)) then
    some (-1)
   else
    (bif (decide (y_1 < x_0)) then
     some 1
    else
     some 0))))))
theorem zF {x_0 : Int} {y_1 : Int} {r : Int} (hm : jB x_0 y_1 = some r) : bC prog 107 [vu x_0, vu y_1] (vi r) := by
 refine bd 20 func107 ?_
 obtain ⟨r2, h1, hm⟩ := bnd hm
 refine W ?_
 refine cq (oI h1) ?_
 obtain ⟨r4, h3, hm⟩ := bnd hm
 refine W ?_
 refine cq (oI h3) ?_
 refine W ?_
 refine cm hm (fun hm => ?_) fun hm => ?_
 ·
  refine W ?_
  refine cm hm (fun hm => ?_) fun hm => ?_
  · exact E
  exact E
 refine W ?_
 refine cm hm (fun hm => ?_) fun hm => ?_
 · exact E
 refine W ?_
 refine cm hm (fun hm => ?_) fun hm => ?_
 · exact E
 refine W ?_
 refine cm hm (fun hm => ?_) fun hm => ?_
 · exact E
 exact E
end Go.Proofs.YtkdohhmacfoolaaGreat
