/- Facts that the statement's proof is made of. No condition. -/
import Derived.Test.YtkdohhmacfoolaaGreatNbGC1
import Derived.Test.YtkdohhmacfoolaaGreatNbAmQ
set_option linter.unusedVariables false
set_option linter.unusedSimpArgs false
set_option maxRecDepth 20000
set_option maxHeartbeats 4000000
namespace Go.Proofs.YtkdohhmacfoolaaGreat
open Go Go.AM
structure cY where
 Do : Int
 A : Int
 B : Int
 Text : ByteArray
deriving DecidableEq
def rW (e : cY) : List AV := [.v (.int .i64 e.Do), .v (.int .u64 e.A), .v (.int .u64 e.B), .v (.string e.Text)]
theorem fI : CF rW 4 := ⟨fun _ => rfl, fun a x hx => by
 simp only [rW, List.mem_cons, List.not_mem_nil, or_false] at hx
 rcases hx with rfl | rfl | rfl | rfl
 ·
  exact (.v _)
 ·
  exact (.v _)
 ·
  exact (.v _)
 ·
  exact (.v _), fun _ => rfl⟩
theorem aAj (e : cY) (r : List AV) : rW e ++ r = .v (.int .i64 e.Do) :: .v (.int .u64 e.A) :: .v (.int .u64 e.B) :: .v (.string e.Text) :: r := rfl
attribute [go_sem] aAj
structure bH where
 List : List Int
 At : Int
deriving DecidableEq
def xP (e : bH) : List AV := [.sl (e.List.flatMap (ci .u64)) e.List.length false, .v (.int .i64 e.At)]
theorem cI : CF xP 2 := ⟨fun _ => rfl, fun a x hx => by
 simp only [xP, List.mem_cons, List.not_mem_nil, or_false] at hx
 rcases hx with rfl | rfl
 ·
  exact ((CFi .u64).sl _ _ _)
 ·
  exact (.v _), fun _ => rfl⟩
theorem aEa (e : bH) (r : List AV) : xP e ++ r = .sl (e.List.flatMap (ci .u64)) e.List.length false :: .v (.int .i64 e.At) :: r := rfl
attribute [go_sem] aEa
structure bC where
 Used : Bool
 Key : Int
deriving DecidableEq
def aS (e : bC) : List AV := [.v (.bool e.Used), .v (.int .u64 e.Key)]
theorem bF : CF aS 2 := ⟨fun _ => rfl, fun a x hx => by
 simp only [aS, List.mem_cons, List.not_mem_nil, or_false] at hx
 rcases hx with rfl | rfl
 ·
  exact (.v _)
 ·
  exact (.v _), fun _ => rfl⟩
theorem aE9 (e : bC) (r : List AV) : aS e ++ r = .v (.bool e.Used) :: .v (.int .u64 e.Key) :: r := rfl
attribute [go_sem] aE9
structure aI where
 Graph : aJ
 Slots : List bC
deriving DecidableEq
def yL (e : aI) : List AV := [.v (.int .i64 e.Graph.Config.N), .v (.int .i64 e.Graph.Config.L), .v (.int .i64 e.Graph.Config.R), .sl (e.Graph.Hashes.flatMap bA) e.Graph.Hashes.length false, .sl (e.Graph.Edges.flatMap aL) e.Graph.Edges.length false, .sl (e.Slots.flatMap aS) e.Slots.length false]
theorem bE : CF yL 6 := ⟨fun _ => rfl, fun a x hx => by
 simp only [yL, List.mem_cons, List.not_mem_nil, or_false] at hx
 rcases hx with rfl | rfl | rfl | rfl | rfl | rfl
 ·
  exact (.v _)
 ·
  exact (.v _)
 ·
  exact (.v _)
 ·
  exact (cN.sl _ _ _)
 ·
  exact (aG.sl _ _ _)
 ·
  exact (bF.sl _ _ _), fun _ => rfl⟩
theorem aEe (e : aI) (r : List AV) : yL e ++ r = .v (.int .i64 e.Graph.Config.N) :: .v (.int .i64 e.Graph.Config.L) :: .v (.int .i64 e.Graph.Config.R) :: .sl (e.Graph.Hashes.flatMap bA) e.Graph.Hashes.length false :: .sl (e.Graph.Edges.flatMap aL) e.Graph.Edges.length false :: .sl (e.Slots.flatMap aS) e.Slots.length false :: r := rfl
attribute [go_sem] aEe
structure bR where
 Key : Int
 N : Int
deriving DecidableEq
def rZ (e : bR) : List AV := [.v (.int .u64 e.Key), .v (.int .i64 e.N)]
theorem cJ : CF rZ 2 := ⟨fun _ => rfl, fun a x hx => by
 simp only [rZ, List.mem_cons, List.not_mem_nil, or_false] at hx
 rcases hx with rfl | rfl
 ·
  exact (.v _)
 ·
  exact (.v _), fun _ => rfl⟩
theorem aEw (e : bR) (r : List AV) : rZ e ++ r = .v (.int .u64 e.Key) :: .v (.int .i64 e.N) :: r := rfl
attribute [go_sem] aEw
inductive aA where
 | nil
 | mk (ahead : aA) (behind : aA) (thing : bR) (height : Int) (size : Int)
def aA.ahead : aA → aA
 | .nil => aA.nil
 | .mk ahead behind thing height size => ahead
def aA.behind : aA → aA
 | .nil => aA.nil
 | .mk ahead behind thing height size => behind
def aA.thing : aA → bR
 | .nil => (bR.mk 0 0)
 | .mk ahead behind thing height size => thing
def aA.height : aA → Int
 | .nil => 0
 | .mk ahead behind thing height size => height
def aA.size : aA → Int
 | .nil => 0
 | .mk ahead behind thing height size => size
def aA.nn : aA → Bool
 | .nil => false
 | .mk _ _ _ _ _ => true
def aA.av : aA → AV
 | .nil => .v (.pointer none)
 | .mk ahead behind thing height size => .ptr [ahead.av, behind.av, .v (.int .u64 thing.Key), .v (.int .i64 thing.N), .v (.int .i64 height), .v (.int .i64 size)]
theorem aA.data : (e : aA) → AM.Data e.av
 | .nil => .v _
 | .mk ahead behind thing height size => .ptr _ (fun a hx => by
  simp only [List.mem_cons, List.not_mem_nil, or_false] at hx
  rcases hx with rfl | rfl | rfl | rfl | rfl | rfl
  ·
   exact ahead.data
  ·
   exact behind.data
  ·
   exact (.v _)
  ·
   exact (.v _)
  ·
   exact (.v _)
  ·
   exact (.v _))
theorem aA.av_nn {e : aA} (h : e.nn = true) : e.av = .ptr [aA.av e.ahead, aA.av e.behind, .v (.int .u64 e.thing.Key), .v (.int .i64 e.thing.N), .v (.int .i64 e.height), .v (.int .i64 e.size)] := by
 cases e with
 | nil => cases h
 | mk ahead behind thing height size => rfl
theorem aA.isn (e : aA) : ((!e.nn) = true ∧ e.av = .v (.pointer none)) ∨ ((!e.nn) = false ∧ ∃ xs, e.av = .ptr xs) := by
 cases e with
 | nil => exact .inl ⟨rfl, rfl⟩
 | mk ahead behind thing height size => exact .inr ⟨rfl, _, rfl⟩
theorem aA.cells (e : aA) : e.av.cells? = some [e.av] := by cases e <;> rfl
theorem aA.one (e : aA) : e.av.one = true := by cases e <;> rfl
structure bN where
 s : aA
def wF (e : bN) : List AV := [aA.av e.s]
theorem cX : CF wF 1 := ⟨fun _ => rfl, fun a x hx => by
 simp only [wF, List.mem_cons, List.not_mem_nil, or_false] at hx
 rcases hx with rfl
 ·
  exact (aA.data a.s), fun e => by unfold wF; simp only [List.all_cons, List.all_nil, Bool.and_true, aA.one]; try rfl⟩
theorem aGd (e : bN) (r : List AV) : wF e ++ r = aA.av e.s :: r := rfl
attribute [go_sem] aGd
theorem aTj {a0 : AV} (a0h : a0.cells? = some [a0]) : dJ Tryz.prog 130 [(0, a0)] = some (.agg [a0]) := by
 unfold dJ
 rw [aDk, Tryz.underlying130]
 simp only []
 rw [(by kernel_rfl : placesOf Tryz.prog _ = some [(0, 1)])]
 simp only []
 simp [tJ, a0h, aHv, aHi, aFv]
theorem aUd {a0 : AV} {a1 : AV} {a2_Key : Int} {a2_N : Int} {a3 : Int} {a4 : Int} (a0h : a0.cells? = some [a0]) (a1h : a1.cells? = some [a1]) : dJ Tryz.prog 192 [(0, a0), (1, a1), (2, .agg [.v (.int .u64 a2_Key), .v (.int .i64 a2_N)]), (3, .v (.int .i64 a3)), (4, .v (.int .i64 a4))] = some (.agg [a0, a1, .v (.int .u64 a2_Key), .v (.int .i64 a2_N), .v (.int .i64 a3), .v (.int .i64 a4)]) := by
 unfold dJ
 rw [bGn, Tryz.underlying192]
 simp only []
 rw [(by kernel_rfl : placesOf Tryz.prog _ = some [(0, 1), (1, 1), (2, 2), (4, 1), (5, 1)])]
 simp only []
 simp [tJ, a0h, a1h, aHv, aHi, aFv]
theorem aLk (xs : List AV) : aM Tryz.prog 104 (.ptr (xs)) 0 = some (.ptr xs) := by kernel_rfl
attribute [go_sem] aLk
theorem aNn (x0 : AV) (xs : List AV) : aM Tryz.prog 104 (.ptr (x0 :: xs)) 1 = some (.ptr xs) := by kernel_rfl
attribute [go_sem] aNn
theorem aN5 (xs : List AV) : aM Tryz.prog 130 (.ptr (xs)) 0 = some (.ptr xs) := by kernel_rfl
attribute [go_sem] aN5
theorem aM8 (xs : List AV) : aM Tryz.prog 192 (.ptr (xs)) 0 = some (.ptr xs) := by kernel_rfl
attribute [go_sem] aM8
theorem aMq (x0 : AV) (xs : List AV) : aM Tryz.prog 192 (.ptr (x0 :: xs)) 1 = some (.ptr xs) := by kernel_rfl
attribute [go_sem] aMq
theorem aM2 (x0 : AV) (x1 : AV) (xs : List AV) : aM Tryz.prog 192 (.ptr (x0 :: x1 :: xs)) 2 = some (.ptr xs) := by kernel_rfl
attribute [go_sem] aM2
theorem aNq (x0 : AV) (x1 : AV) (x2 : AV) (x3 : AV) (xs : List AV) : aM Tryz.prog 192 (.ptr (x0 :: x1 :: x2 :: x3 :: xs)) 3 = some (.ptr xs) := by kernel_rfl
attribute [go_sem] aNq
theorem aMm (x0 : AV) (x1 : AV) (x2 : AV) (x3 : AV) (x4 : AV) (xs : List AV) : aM Tryz.prog 192 (.ptr (x0 :: x1 :: x2 :: x3 :: x4 :: xs)) 4 = some (.ptr xs) := by kernel_rfl
attribute [go_sem] aMm
theorem aMp (i o : Nat) : aM Tryz.prog 102 (.adr i o) 0 = some (.adr i (o + 0)) := by kernel_rfl
attribute [go_sem] aMp
theorem aOn (i o : Nat) : aM Tryz.prog 102 (.adr i o) 1 = some (.adr i (o + 1)) := by kernel_rfl
attribute [go_sem] aOn
theorem aMt (i o : Nat) : aM Tryz.prog 104 (.adr i o) 0 = some (.adr i (o + 0)) := by kernel_rfl
attribute [go_sem] aMt
theorem aLz (i o : Nat) : aM Tryz.prog 104 (.adr i o) 1 = some (.adr i (o + 1)) := by kernel_rfl
attribute [go_sem] aLz
theorem aO7 (i o : Nat) : aM Tryz.prog 130 (.adr i o) 0 = some (.adr i (o + 0)) := by kernel_rfl
attribute [go_sem] aO7
theorem aNp (i o : Nat) : aM Tryz.prog 158 (.adr i o) 0 = some (.adr i (o + 0)) := by kernel_rfl
attribute [go_sem] aNp
theorem aOy (i o : Nat) : aM Tryz.prog 158 (.adr i o) 1 = some (.adr i (o + 1)) := by kernel_rfl
attribute [go_sem] aOy
theorem aQp (i o : Nat) : aM Tryz.prog 23 (.adr i o) 0 = some (.adr i (o + 0)) := by kernel_rfl
attribute [go_sem] aQp
theorem aSt (i o : Nat) : aM Tryz.prog 23 (.adr i o) 1 = some (.adr i (o + 1)) := by kernel_rfl
attribute [go_sem] aSt
theorem aQe (i o : Nat) : aM Tryz.prog 23 (.adr i o) 2 = some (.adr i (o + 2)) := by kernel_rfl
attribute [go_sem] aQe
theorem aSq (i o : Nat) : aM Tryz.prog 30 (.adr i o) 0 = some (.adr i (o + 0)) := by kernel_rfl
attribute [go_sem] aSq
theorem aSv (i o : Nat) : aM Tryz.prog 30 (.adr i o) 2 = some (.adr i (o + 4)) := by kernel_rfl
attribute [go_sem] aSv
theorem aRw (i o : Nat) : aM Tryz.prog 33 (.adr i o) 0 = some (.adr i (o + 0)) := by kernel_rfl
attribute [go_sem] aRw
theorem aQo (i o : Nat) : aM Tryz.prog 33 (.adr i o) 1 = some (.adr i (o + 5)) := by kernel_rfl
attribute [go_sem] aQo
theorem aSd (i o : Nat) : aM Tryz.prog 35 (.adr i o) 0 = some (.adr i (o + 0)) := by kernel_rfl
attribute [go_sem] aSd
theorem aS1 (i o : Nat) : aM Tryz.prog 35 (.adr i o) 1 = some (.adr i (o + 1)) := by kernel_rfl
attribute [go_sem] aS1
theorem aS0 (i o : Nat) : aM Tryz.prog 45 (.adr i o) 3 = some (.adr i (o + 3)) := by kernel_rfl
attribute [go_sem] aS0
theorem aU0 (H : aP) (x0 x1 x2 : AV) (xs : List AV) : cF Tryz.prog H 102 (.ptr (x0 :: x1 :: x2 :: xs)) = some (.agg [x0, x1, x2]) := by kernel_rfl
attribute [go_sem] aU0
theorem aU4 (H : aP) (x0 x1 : AV) (xs : List AV) : cF Tryz.prog H 104 (.ptr (x0 :: x1 :: xs)) = some (.agg [x0, x1]) := by kernel_rfl
attribute [go_sem] aU4
theorem aTf (H : aP) (x : AV) (xs : List AV) : cF Tryz.prog H 128 (.ptr (x :: xs)) = some x := by kernel_rfl
attribute [go_sem] aTf
theorem aU6 (H : aP) (x0 : AV) (xs : List AV) : cF Tryz.prog H 130 (.ptr (x0 :: xs)) = some (.agg [x0]) := by kernel_rfl
attribute [go_sem] aU6
theorem aTl (H : aP) (x0 x1 : AV) (xs : List AV) : cF Tryz.prog H 158 (.ptr (x0 :: x1 :: xs)) = some (.agg [x0, x1]) := by kernel_rfl
attribute [go_sem] aTl
theorem aVx (H : aP) (x0 x1 x2 : AV) (xs : List AV) : cF Tryz.prog H 23 (.ptr (x0 :: x1 :: x2 :: xs)) = some (.agg [x0, x1, x2]) := by kernel_rfl
attribute [go_sem] aVx
theorem aWw (H : aP) (x : AV) (xs : List AV) : cF Tryz.prog H 24 (.ptr (x :: xs)) = some x := by kernel_rfl
attribute [go_sem] aWw
theorem aX3 (H : aP) (x : AV) (xs : List AV) : cF Tryz.prog H 28 (.ptr (x :: xs)) = some x := by kernel_rfl
attribute [go_sem] aX3
theorem bA0 (H : aP) (x : AV) (xs : List AV) : cF Tryz.prog H 3 (.ptr (x :: xs)) = some x := by kernel_rfl
attribute [go_sem] bA0
theorem aVz (H : aP) (x0 x1 x2 x3 x4 : AV) (xs : List AV) : cF Tryz.prog H 30 (.ptr (x0 :: x1 :: x2 :: x3 :: x4 :: xs)) = some (.agg [x0, x1, x2, x3, x4]) := by kernel_rfl
attribute [go_sem] aVz
theorem aXi (H : aP) (x : AV) (xs : List AV) : cF Tryz.prog H 31 (.ptr (x :: xs)) = some x := by kernel_rfl
attribute [go_sem] aXi
theorem aW1 (H : aP) (x0 x1 x2 x3 x4 x5 : AV) (xs : List AV) : cF Tryz.prog H 33 (.ptr (x0 :: x1 :: x2 :: x3 :: x4 :: x5 :: xs)) = some (.agg [x0, x1, x2, x3, x4, x5]) := by kernel_rfl
attribute [go_sem] aW1
theorem aY4 (H : aP) (x0 x1 : AV) (xs : List AV) : cF Tryz.prog H 35 (.ptr (x0 :: x1 :: xs)) = some (.agg [x0, x1]) := by kernel_rfl
attribute [go_sem] aY4
theorem aZh (H : aP) (x : AV) (xs : List AV) : cF Tryz.prog H 4 (.ptr (x :: xs)) = some x := by kernel_rfl
attribute [go_sem] aZh
theorem aX6 (H : aP) (x : AV) (xs : List AV) : cF Tryz.prog H 43 (.ptr (x :: xs)) = some x := by kernel_rfl
attribute [go_sem] aX6
theorem aWs (H : aP) (x0 x1 x2 x3 : AV) (xs : List AV) : cF Tryz.prog H 45 (.ptr (x0 :: x1 :: x2 :: x3 :: xs)) = some (.agg [x0, x1, x2, x3]) := by kernel_rfl
attribute [go_sem] aWs
theorem aWu (H : aP) (x0 x1 : AV) (xs : List AV) : cF Tryz.prog H 69 (.ptr (x0 :: x1 :: xs)) = some (.agg [x0, x1]) := by kernel_rfl
attribute [go_sem] aWu
theorem aZj (H : aP) (x : AV) (xs : List AV) : cF Tryz.prog H 9 (.ptr (x :: xs)) = some x := by kernel_rfl
attribute [go_sem] aZj
theorem aM1 (H : aP) (k : IntKind) (n : Int) : jX Tryz.prog H 3 198 (.v (.int k n)) = some (.v (.int .u64 (IntKind.u64.wrap n))) := eY Tryz.underlying3 Tryz.underlying198
attribute [go_sem] aM1
theorem aMs (H : aP) (k : IntKind) (n : Int) : jX Tryz.prog H 198 3 (.v (.int k n)) = some (.v (.int .i64 (IntKind.i64.wrap n))) := eY Tryz.underlying198 Tryz.underlying3
attribute [go_sem] aMs
def kH (w_0 : bH) : Option (Bool) :=
 some ((decide (0 ≤ w_0.At)) && (decide (w_0.At ≤ (w_0.List.length : Int))))
theorem aDg {w_0 : bH} {r : Bool} (hm : kH w_0 = some r) : aT Tryz.prog 67 [.agg [.sl (w_0.List.flatMap (ci .u64)) w_0.List.length false, .v (.int .i64 w_0.At)]] (.v (.bool r)) := by
 refine aT.of_body Tryz.func67 rfl ?_
 simp only [Tryz.ntmps67, List.length_cons, List.length_nil, Nat.reduceAdd, Nat.reduceSub, aQ]
 unfold kH at hm
 refine sr (N' := 64) rfl ?_
 refine hp (id := 0) rfl rfl (bO Z1 Z5) ?_
 refine pA ?_
 refine fs ?_
 refine sr (N' := 128) rfl ?_
 refine pA ?_
 refine pu rfl (aD Z1 Z3 Z4) ?_
 iterate 3 first | refine pA ?_ | refine pB ?_
 refine pg rfl rfl Z2 (fun hb => (aD (Zh hb) Z3 Z4)) ?_
 refine pB ?_
 refine pg rfl rfl Z2 (fun hb => (aD (Zh hb) Z3 Z4)) ?_
 iterate 4 first | refine pA ?_ | refine pB ?_
 refine fs ?_
 refine AWp.ret ?_
 cases hm
 exact bM (.inr rfl) Tryz.results67 (td Z1 (.v _))
def nB (rec1 : bH → bH → Int → Option (Int × bH × Int)) (w_1 : bH) (t3 : bH) (at_5 : Int) : Option (Int × bH × Int) :=
 (bif (decide (at_5 < (w_1.List.length : Int))) then
  ((idx w_1.List at_5).bind fun x4 =>
  (bif (decide ((zK .u64 x4 2305843009213693951) < 2305843009213693951)) then
   some ((zK .u64 x4 2305843009213693951), (bH.mk w_1.List (IntKind.i64.wrap (at_5 + 1))), 0)
  else
   rec1 w_1 t3 (IntKind.i64.wrap (at_5 + 1))))
 else
  some (0, w_1, 5))
def lF : Nat → bH → bH → Int → Option (Int × bH × Int)
 | 0 => fun _ _ _ => none
 | n + 1 => nB (lF n)
def mK (w_0 : bH) : Option (Int × bH × Int) :=
 ((kH w_0).bind fun r2 =>
 (bif (!r2) then
  some (0, w_0, 1)
 else
  lF bY w_0 (bH.mk [] 0) w_0.At))
theorem aDt {w_0 : bH} {r : Int × bH × Int} (hm : mK w_0 = some r) : aT Tryz.prog 68 [.agg [.sl (w_0.List.flatMap (ci .u64)) w_0.List.length false, .v (.int .i64 w_0.At)]] (.tup [.v (.int .u64 r.1), .agg [.sl (r.2.1.List.flatMap (ci .u64)) r.2.1.List.length false, .v (.int .i64 r.2.1.At)], .v (.int .i64 r.2.2)]) := by
 refine aT.of_body Tryz.func68 rfl ?_
 simp only [Tryz.ntmps68, List.length_cons, List.length_nil, Nat.reduceAdd, Nat.reduceSub, aQ]
 unfold mK at hm
 refine sr (N' := 64) rfl ?_
 refine hp (id := 0) rfl rfl (bO Z1 Z5) ?_
 refine pA ?_
 refine hp (id := 2) rfl rfl (aY aIg Z5) ?_
 refine pA ?_
 refine fs ?_
 refine AWp.seq' ?_
 refine sr (N' := 128) rfl ?_
 refine pu rfl (aD Z1 Z3 Z2) ?_
 obtain ⟨r2, h1, hm⟩ := bnd hm
 refine aE.callQ (r := .v (.bool r2)) Zd Z1 bHj (fun H => (cD (.agg _ (cI.dat _)) .nil)) (aDg h1) ?_
 refine pA ?_
 refine fs ?_
 refine AWp.condM hm Z1 (fun _ hm => ?_) (fun _ hm => ?_)
 ·
  refine sd mix (by kernel_rfl) (N' := 192) rfl ?_
  refine pu rfl (aD Z1 Z3 Z2) ?_
  refine pA ?_
  refine aE.heap0 (id := 130) rfl (bG (ys := [.sl (w_0.List.flatMap (ci .u64)) w_0.List.length false, .v (.int .i64 w_0.At)]) uY Z1 Z1 Z3 rfl (Nat.le_of_ble_eq_true rfl) Z9 rfl) ?_
  refine pA ?_
  refine fs ?_
  refine AWp.ret ?_
  refine bB ?_
  cases hm
  exact fK (.inr rfl) (by rw [Tryz.results68]) (.tmp Z1 (.cell (cG Z1 Z3 Z2) (.tmp Z1 .nil))) rfl (tdt (.cons (td rfl (.v _)) (.cons (td rfl (.agg _ (cI.dat _))) (.cons (td rfl (.v _)) .nil))))
 ·
  refine AWp.skip ?_
  refine aF ?_
  refine AWp.seq' ?_
  refine sr (N' := 192) rfl ?_
  refine pA ?_
  refine pu rfl (aD Z1 Z3 Z4) ?_
  refine pA ?_
  refine fs ?_
  refine AWp.block ?_
  refine AWp.loopM (fun m s => ∃ (w_1 : bH) (t3 : bH) (at_5 : Int), s = (⟨35, (aK (aK (aK (fun _ => AV.any) 1 (.adr 1 0)) 3 (.adr 2 0)) 5 (.v (.int .i64 at_5))), ⟨(upd (upd bL 1 (.cells 1 [.sl (w_1.List.flatMap (ci .u64)) w_1.List.length false, .v (.int .i64 w_1.At)] 0)) 2 (.cells 1 [.sl (t3.List.flatMap (ci .u64)) t3.List.length false, .v (.int .i64 t3.At)] 0)), 64⟩⟩ : St) ∧ lF m w_1 t3 at_5 = some r) bY ?_ ?_ ?_
  ·
   rintro s ⟨_, _, _, _, h⟩
   cases h
  ·
   refine ⟨_, ?_, w_0, (bH.mk [] 0), w_0.At, rfl, hm⟩
   refine St.Le.trans (gP 2 (ys := [.sl (((bH.mk [] 0).List).flatMap (ci .u64)) ((bH.mk [] 0).List).length false, .v (.int .i64 ((bH.mk [] 0).At))]) Z3 (.cons (.nil false) (.cons (.data _ (.v _)) .nil))) ?_
   exact aN (fun j => bif j == 1 then 0 else bif j == 2 then 2 else 0) (wV (aX _ _ (bQ Z1 rfl Z7) (aX _ _ (bQ Z1 rfl Z7) aU))) (hW (aV (aO Z3 (Nat.le_refl _) (Nat.zero_le _) (cI.dat (bH.mk [] 0))) (aV (aO Z3 (Nat.le_refl _) (Nat.zero_le _) (cI.dat w_0)) aR)))
  ·
   rintro n1 s ⟨w_1, t3, at_5, rfl, hm⟩
   replace hm : nB (lF n1) w_1 t3 at_5 = some r := hm
   unfold nB at hm
   refine AWp.seq' ?_
   refine sr (N' := 128) rfl ?_
   iterate 2 refine pA ?_
   refine pu rfl (aD Z1 Z3 Z4) ?_
   iterate 2 refine pA ?_
   refine fs ?_
   refine AWp.condM hm Z1 (fun _ hm => ?_) (fun _ hm => ?_)
   ·
    refine AWp.skip ?_
    refine aF ?_
    refine AWp.seq' ?_
    refine AWp.block ?_
    refine sr (N' := 192) rfl ?_
    refine pA ?_
    refine pu rfl (aD Z1 Z3 Z4) ?_
    refine pA ?_
    obtain ⟨x4, h3, hm⟩ := bnd hm
    refine pu rfl (cP (CFi .u64) Zd Tryz.underlying24 nS Z1 rfl Z1 h3) ?_
    iterate 3 refine pA ?_
    refine fs ?_
    refine sr (N' := 256) rfl ?_
    iterate 2 refine pA ?_
    refine fs ?_
    refine AWp.condM hm Z1 (fun _ hm => ?_) (fun _ hm => ?_)
    ·
     refine sd mix (by kernel_rfl) (N' := 320) rfl ?_
     iterate 2 refine pA ?_
     refine pu rfl (aD Z1 Z3 Z4) ?_
     iterate 2 refine pA ?_
     refine pu rfl (by simp only [go_sem, Nat.reduceBEq]; exact (by kernel_rfl : dJ Tryz.prog 35 [(0, .sl (w_1.List.flatMap (ci .u64)) w_1.List.length false), (1, .v (.int .i64 (IntKind.i64.wrap (at_5 + 1))))] = some (.agg [.sl (w_1.List.flatMap (ci .u64)) w_1.List.length false, .v (.int .i64 (IntKind.i64.wrap (at_5 + 1)))]))) ?_
     refine pA ?_
     refine aE.heap0 (id := 263) rfl (bG (ys := [.sl (w_1.List.flatMap (ci .u64)) w_1.List.length false, .v (.int .i64 (IntKind.i64.wrap (at_5 + 1)))]) uY Z1 Z1 Z3 rfl (Nat.le_of_ble_eq_true rfl) Z9 rfl) ?_
     refine pA ?_
     refine fs ?_
     refine AWp.ret ?_
     refine dB ?_
     refine bB ?_
     refine eD ?_
     refine dB ?_
     refine bB ?_
     cases hm
     exact fK (.inr rfl) (by rw [Tryz.results68]) (.tmp Z1 (.cell (cG Z1 Z3 Z2) (.tmp Z1 .nil))) rfl (tdt (.cons (td rfl (.v _)) (.cons (td rfl (.agg _ (cI.dat (bH.mk w_1.List (IntKind.i64.wrap (at_5 + 1)))))) (.cons (td rfl (.v _)) .nil))))
    ·
     refine AWp.skip ?_
     refine cA ?_
     refine aF ?_
     refine AWp.reg 64 (N' := 320) rfl ?_
     iterate 3 refine pA ?_
     refine aE.fin ?_
     refine bU ?_
     refine ⟨_, ?_, w_1, t3, (IntKind.i64.wrap (at_5 + 1)), rfl, hm⟩
     exact aN (fun j => bif j == 1 then 1 else bif j == 2 then 2 else 0) (wV (aX _ _ (bQ Z1 rfl Z7) (aX _ _ (bQ Z1 rfl Z7) aU))) (hW (aV (aO Z3 (Nat.le_refl _) (Nat.zero_le _) (cI.dat t3)) (aV (aO Z3 (Nat.le_refl _) (Nat.zero_le _) (cI.dat w_1)) aR)))
   ·
    refine AWp.exit ?_
    refine cH ?_
    refine bW ?_
    refine bT ?_
    refine aF ?_
    refine sd mix (by kernel_rfl) (N' := 192) rfl ?_
    refine pu rfl (aD Z1 Z3 Z2) ?_
    refine pA ?_
    refine aE.heap0 (id := 130) rfl (bG (ys := [.sl (w_1.List.flatMap (ci .u64)) w_1.List.length false, .v (.int .i64 w_1.At)]) uY Z1 Z1 Z3 rfl (Nat.le_of_ble_eq_true rfl) Z9 rfl) ?_
    refine pA ?_
    refine fs ?_
    refine AWp.ret ?_
    cases hm
    exact fK (.inr rfl) (by rw [Tryz.results68]) (.tmp Z1 (.cell (cG Z1 Z3 Z2) (.tmp Z1 .nil))) rfl (tdt (.cons (td rfl (.v _)) (.cons (td rfl (.agg _ (cI.dat _))) (.cons (td rfl (.v _)) .nil))))
def hS (rec1 : bH → bH → List cC → bH → Int → Int → Option ((List cC) × bH × Int)) (w_2 : bH) (t5 : bH) (hashes_7 : List cC) (rest_8 : bH) (t31 : Int) (t32 : Int) : Option ((List cC) × bH × Int) :=
 (bif (decide (t32 < t31)) then
  ((mK rest_8).bind fun ⟨r6, r7, r8⟩ =>
  (bif (r8 != 0) then
   some ([], w_2, r8)
  else
   ((mK r7).bind fun ⟨r10, r11, r12⟩ =>
   (bif (r12 != 0) then
    some ([], w_2, r12)
   else
    ((idx hashes_7 t32).bind fun x14 =>
    ((stt hashes_7 t32 (cC.mk r6 r10)).bind fun l16 =>
    rec1 w_2 t5 l16 r11 t31 (IntKind.i64.wrap (t32 + 1))))))))
 else
  some (hashes_7, rest_8, 0))
def gX : Nat → bH → bH → List cC → bH → Int → Int → Option ((List cC) × bH × Int)
 | 0 => fun _ _ _ _ _ _ => none
 | n + 1 => hS (gX n)
def lI (w_0 : bH) (n_1 : Int) : Option ((List cC) × bH × Int) :=
 ((kH w_0).bind fun r2 =>
 (bif (((!r2) || (decide (n_1 < 0))) || (decide (128 < n_1))) then
  some ([], w_0, 1)
 else
  ((mkc n_1 n_1 (cC.mk 0 0)).bind fun l4 =>
  gX bY w_0 (bH.mk [] 0) l4 w_0 (l4.length : Int) 0)))
theorem aIj {w_0 : bH} {n_1 : Int} {r : (List cC) × bH × Int} (hm : lI w_0 n_1 = some r) : aT Tryz.prog 35 [.agg [.sl (w_0.List.flatMap (ci .u64)) w_0.List.length false, .v (.int .i64 w_0.At)], .v (.int .i64 n_1)] (.tup [.sl (r.1.flatMap bA) r.1.length false, .agg [.sl (r.2.1.List.flatMap (ci .u64)) r.2.1.List.length false, .v (.int .i64 r.2.1.At)], .v (.int .i64 r.2.2)]) := by
 refine aT.of_body Tryz.func35 rfl ?_
 simp only [Tryz.ntmps35, List.length_cons, List.length_nil, Nat.reduceAdd, Nat.reduceSub, aQ]
 unfold lI at hm
 refine sr (N' := 64) rfl ?_
 refine hp (id := 0) rfl rfl (bO Z1 Z5) ?_
 refine pA ?_
 refine hp (id := 2) rfl rfl (aY aIg Z5) ?_
 refine pA ?_
 refine fs ?_
 refine AWp.seq' ?_
 refine sr (N' := 128) rfl ?_
 refine pu rfl (aD Z1 Z3 Z2) ?_
 obtain ⟨r2, h1, hm⟩ := bnd hm
 refine aE.callQ (r := .v (.bool r2)) Zd Z1 bHj (fun H => (cD (.agg _ (cI.dat _)) .nil)) (aDg h1) ?_
 iterate 9 first | refine pA ?_ | refine pB ?_
 refine fs ?_
 refine AWp.condM hm Z1 (fun _ hm => ?_) (fun _ hm => ?_)
 ·
  refine sd mix (by kernel_rfl) (N' := 192) rfl ?_
  refine pu rfl (aD Z1 Z3 Z2) ?_
  refine pA ?_
  refine aE.heap0 (id := 130) rfl (bG (ys := [.sl (w_0.List.flatMap (ci .u64)) w_0.List.length false, .v (.int .i64 w_0.At)]) uY Z1 Z1 Z3 rfl (Nat.le_of_ble_eq_true rfl) Z9 rfl) ?_
  refine pA ?_
  refine fs ?_
  refine AWp.ret ?_
  refine bB ?_
  cases hm
  exact fK (.inr rfl) (by rw [Tryz.results35]) (.tmp Z1 (.cell (cG Z1 Z3 Z2) (.tmp Z1 .nil))) rfl (tdt (.cons (tdn rfl) (.cons (td rfl (.agg _ (cI.dat _))) (.cons (td rfl (.v _)) .nil))))
 ·
  refine AWp.skip ?_
  refine aF ?_
  refine sr (N' := 192) rfl ?_
  refine pA ?_
  obtain ⟨l4, h3, hm⟩ := bnd hm
  refine hp (id := 129) rfl rfl (aFz cN (z := (cC.mk 0 0)) Tryz.underlying27 aPn (aHt) (by rw [aGc]; decide) aPh Zd Z5 Z1 Z1 h3) ?_
  refine pA ?_
  refine fs ?_
  refine sr (N' := 256) rfl ?_
  refine pu rfl (aD Z1 Z3 Z2) ?_
  refine hp (id := 193) rfl rfl (aY aIg Z5) ?_
  refine aE.heap0 (id := 194) rfl (bG (ys := [.sl (w_0.List.flatMap (ci .u64)) w_0.List.length false, .v (.int .i64 w_0.At)]) uY Z1 Z1 Z3 rfl (Nat.le_of_ble_eq_true rfl) Z9 rfl) ?_
  refine fs ?_
  refine AWp.seq' ?_
  refine sr (N' := 320) rfl ?_
  iterate 3 refine pA ?_
  refine fs ?_
  refine AWp.block ?_
  refine AWp.loopM (fun m s => ∃ (w_2 : bH) (t5 : bH) (hashes_7 : List cC) (rest_8 : bH) (t31 : Int) (t32 : Int), s = (⟨65, (aK (aK (aK (aK (aK (aK (fun _ => AV.any) 2 (.adr 1 0)) 5 (.adr 2 0)) 7 (.own 3 0 hashes_7.length)) 8 (.adr 4 0)) 31 (.v (.int .i64 t31))) 32 (.v (.int .i64 t32))), ⟨(upd (upd (upd (upd bL 1 (.cells 1 [.sl (w_2.List.flatMap (ci .u64)) w_2.List.length false, .v (.int .i64 w_2.At)] 0)) 2 (.cells 1 [.sl (t5.List.flatMap (ci .u64)) t5.List.length false, .v (.int .i64 t5.At)] 0)) 3 (.cells 2 (hashes_7.flatMap bA) 0)) 4 (.cells 1 [.sl (rest_8.List.flatMap (ci .u64)) rest_8.List.length false, .v (.int .i64 rest_8.At)] 0)), 64⟩⟩ : St) ∧ gX m w_2 t5 hashes_7 rest_8 t31 t32 = some r) bY ?_ ?_ ?_
  ·
   rintro s ⟨_, _, _, _, _, _, _, h⟩
   cases h
  ·
   refine ⟨_, ?_, w_0, (bH.mk [] 0), l4, w_0, (l4.length : Int), 0, rfl, hm⟩
   refine St.Le.trans (gP 2 (ys := [.sl (((bH.mk [] 0).List).flatMap (ci .u64)) ((bH.mk [] 0).List).length false, .v (.int .i64 ((bH.mk [] 0).At))]) Z3 (.cons (.nil false) (.cons (.data _ (.v _)) .nil))) ?_
   exact aN (fun j => bif j == 1 then 0 else bif j == 2 then 2 else bif j == 3 then 129 else bif j == 4 then 193 else 0) (wV (wV (aX _ _ (bQ Z1 rfl Z7) (wO (aX _ _ (bQ Z1 rfl Z7) (aX _ _ (bQ Z1 rfl Z7) aU)))))) (cL _ (aV (aO Z3 (Nat.le_refl _) (Nat.zero_le _) (cI.dat w_0)) (eU cN (aV (aO Z3 (Nat.le_refl _) (Nat.zero_le _) (cI.dat (bH.mk [] 0))) (aV (aO Z3 (Nat.le_refl _) (Nat.zero_le _) (cI.dat w_0)) aR)))) Z8)
  ·
   rintro n1 s ⟨w_2, t5, hashes_7, rest_8, t31, t32, rfl, hm⟩
   replace hm : hS (gX n1) w_2 t5 hashes_7 rest_8 t31 t32 = some r := hm
   unfold hS at hm
   refine sr (N' := 128) rfl ?_
   refine pA ?_
   refine fs ?_
   refine AWp.seq' ?_
   refine AWp.condM hm Z1 (fun _ hm => ?_) (fun _ hm => ?_)
   ·
    refine AWp.skip ?_
    refine aF ?_
    refine AWp.seq' ?_
    refine AWp.block ?_
    refine sr (N' := 192) rfl ?_
    iterate 2 refine pA ?_
    refine fs ?_
    refine sr (N' := 256) rfl ?_
    refine pu rfl (aD Z1 Z3 Z2) ?_
    obtain ⟨⟨r6, r7, r8⟩, h5, hm⟩ := bnd hm
    refine aE.callQ (r := .tup [.v (.int .u64 r6), .agg [.sl (r7.List.flatMap (ci .u64)) r7.List.length false, .v (.int .i64 r7.At)], .v (.int .i64 r8)]) Zd Z1 bDu (fun H => (cD (.agg _ (cI.dat _)) .nil)) (aDt h5) ?_
    iterate 4 refine pA ?_
    refine hp (id := 198) rfl rfl (aY aIg Z5) ?_
    refine pA ?_
    refine aE.heap0 (id := 200) rfl (bG (ys := [.sl (r7.List.flatMap (ci .u64)) r7.List.length false, .v (.int .i64 r7.At)]) uY Z1 Z1 Z3 rfl (Nat.le_of_ble_eq_true rfl) Z9 rfl) ?_
    refine pA ?_
    refine fs ?_
    refine AWp.seq' ?_
    refine sr (N' := 320) rfl ?_
    iterate 2 refine pA ?_
    refine fs ?_
    refine AWp.condM hm Z1 (fun _ hm => ?_) (fun _ hm => ?_)
    ·
     refine sd mix (by kernel_rfl) (N' := 384) rfl ?_
     refine pu rfl (aD Z1 Z3 Z2) ?_
     iterate 2 refine pA ?_
     refine aE.heap0 (id := 323) rfl (bG (ys := [.sl (w_2.List.flatMap (ci .u64)) w_2.List.length false, .v (.int .i64 w_2.At)]) uY Z1 Z1 Z3 rfl (Nat.le_of_ble_eq_true rfl) Z9 rfl) ?_
     refine pA ?_
     refine fs ?_
     refine AWp.ret ?_
     refine bB ?_
     refine dB ?_
     refine bB ?_
     refine eD ?_
     refine dB ?_
     refine bB ?_
     cases hm
     exact fK (.inr rfl) (by rw [Tryz.results35]) (.tmp Z1 (.cell (cG Z1 Z3 Z2) (.tmp Z1 .nil))) rfl (tdt (.cons (tdn rfl) (.cons (td rfl (.agg _ (cI.dat _))) (.cons (td rfl (.v _)) .nil))))
    ·
     refine AWp.skip ?_
     refine aF ?_
     refine sr (N' := 384) rfl ?_
     refine pu rfl (aD Z1 Z3 Z2) ?_
     obtain ⟨⟨r10, r11, r12⟩, h9, hm⟩ := bnd hm
     refine aE.callQ (r := .tup [.v (.int .u64 r10), .agg [.sl (r11.List.flatMap (ci .u64)) r11.List.length false, .v (.int .i64 r11.At)], .v (.int .i64 r12)]) Zd Z1 bDu (fun H => (cD (.agg _ (cI.dat _)) .nil)) (aDt h9) ?_
     iterate 4 refine pA ?_
     refine hp (id := 326) rfl rfl (aY aIg Z5) ?_
     refine pA ?_
     refine aE.heap0 (id := 328) rfl (bG (ys := [.sl (r11.List.flatMap (ci .u64)) r11.List.length false, .v (.int .i64 r11.At)]) uY Z1 Z1 Z3 rfl (Nat.le_of_ble_eq_true rfl) Z9 rfl) ?_
     refine pA ?_
     refine fs ?_
     refine AWp.seq' ?_
     refine sr (N' := 448) rfl ?_
     iterate 2 refine pA ?_
     refine fs ?_
     refine AWp.condM hm Z1 (fun _ hm => ?_) (fun _ hm => ?_)
     ·
      refine sd mix (by kernel_rfl) (N' := 512) rfl ?_
      refine pu rfl (aD Z1 Z3 Z2) ?_
      iterate 2 refine pA ?_
      refine aE.heap0 (id := 451) rfl (bG (ys := [.sl (w_2.List.flatMap (ci .u64)) w_2.List.length false, .v (.int .i64 w_2.At)]) uY Z1 Z1 Z3 rfl (Nat.le_of_ble_eq_true rfl) Z9 rfl) ?_
      refine pA ?_
      refine fs ?_
      refine AWp.ret ?_
      refine bB ?_
      refine dB ?_
      refine bB ?_
      refine eD ?_
      refine dB ?_
      refine bB ?_
      cases hm
      exact fK (.inr rfl) (by rw [Tryz.results35]) (.tmp Z1 (.cell (cG Z1 Z3 Z2) (.tmp Z1 .nil))) rfl (tdt (.cons (tdn rfl) (.cons (td rfl (.agg _ (cI.dat _))) (.cons (td rfl (.v _)) .nil))))
     ·
      refine AWp.skip ?_
      refine aF ?_
      refine sr (N' := 512) rfl ?_
      iterate 4 refine pA ?_
      refine pu rfl (by simp only [go_sem, Nat.reduceBEq]; exact (by kernel_rfl : dJ Tryz.prog 120 [(0, .v (.int .u64 r6)), (1, .v (.int .u64 r10))] = some (.agg [.v (.int .u64 r6), .v (.int .u64 r10)]))) ?_
      obtain ⟨x14, h13, hm⟩ := bnd hm
      refine pu rfl (dD Tryz.underlying27 uT Z1 Z3 Z6 Z1 h13) ?_
      obtain ⟨l16, h15, hm⟩ := bnd hm
      have qh15 := iC h15
      refine aE.heap0 (id := 454) rfl (mC cN uT Z1 Z1 Z3 rfl h15) ?_
      refine fs ?_
      refine AWp.reg 64 (N' := 576) rfl ?_
      refine pu rfl (aD Z1 Z3 Z2) ?_
      refine aE.heap0 (id := 513) rfl (bG (ys := [.sl (r11.List.flatMap (ci .u64)) r11.List.length false, .v (.int .i64 r11.At)]) uY Z1 Z1 Z3 rfl (Nat.le_of_ble_eq_true rfl) Z9 rfl) ?_
      refine aE.fin ?_
      refine cA ?_
      refine aF ?_
      refine AWp.reg 64 (N' := 640) rfl ?_
      iterate 2 refine pA ?_
      refine aE.fin ?_
      refine bU ?_
      refine ⟨_, ?_, w_2, t5, l16, r11, t31, (IntKind.i64.wrap (t32 + 1)), rfl, hm⟩
      exact aN (fun j => bif j == 1 then 1 else bif j == 2 then 2 else bif j == 3 then 3 else bif j == 4 then 4 else 0) (wV (wV (aX _ _ (bQ Z1 rfl Z7) (wO (aX _ _ (bQ Z1 rfl Z7) (aX _ _ (bQ Z1 rfl Z7) aU)))))) (cL _ (aV (aO Z3 (Nat.le_refl _) (Nat.zero_le _) (cI.dat r11)) (eU cN (aV (aO Z3 (Nat.le_refl _) (Nat.zero_le _) (cI.dat t5)) (aV (aO Z3 (Nat.le_refl _) (Nat.zero_le _) (cI.dat w_2)) aR)))) Z8)
   ·
    refine AWp.exit ?_
    refine cH ?_
    refine bW ?_
    refine bT ?_
    refine aF ?_
    refine sd mix (by kernel_rfl) (N' := 192) rfl ?_
    refine pA ?_
    refine pu rfl (aD Z1 Z3 Z2) ?_
    refine pA ?_
    refine aE.heap0 (id := 131) rfl (bG (ys := [.sl (rest_8.List.flatMap (ci .u64)) rest_8.List.length false, .v (.int .i64 rest_8.At)]) uY Z1 Z1 Z3 rfl (Nat.le_of_ble_eq_true rfl) Z9 rfl) ?_
    refine pA ?_
    refine fs ?_
    refine AWp.ret ?_
    cases hm
    exact fK (.inr rfl) (by rw [Tryz.results35]) (.tmp Z1 (.cell (cG Z1 Z3 Z2) (.tmp Z1 .nil))) rfl (tdt (.cons (tdo cN rfl Z3 Z6) (.cons (td rfl (.agg _ (cI.dat _))) (.cons (td rfl (.v _)) .nil))))
def iT (n_0 : Int) : Option (Bool) :=
 some ((decide (1 ≤ n_0)) && (decide (n_0 ≤ 1024)))
theorem aB4 {n_0 : Int} {r : Bool} (hm : iT n_0 = some r) : aT Tryz.prog 70 [.v (.int .i64 n_0)] (.v (.bool r)) := by
 refine aT.of_body Tryz.func70 rfl ?_
 simp only [Tryz.ntmps70, List.length_cons, List.length_nil, Nat.reduceAdd, Nat.reduceSub, aQ]
 unfold iT at hm
 refine sr (N' := 64) rfl ?_
 refine pA ?_
 refine fs ?_
 refine sr (N' := 128) rfl ?_
 iterate 7 first | refine pA ?_ | refine pB ?_
 refine fs ?_
 refine AWp.ret ?_
 cases hm
 exact bM (.inr rfl) Tryz.results70 (td Z1 (.v _))
def wA (n_0 : Int) : Option ((List bC) × Int) :=
 ((iT n_0).bind fun r2 =>
 (bif (!r2) then
  some ([], 1)
 else
  ((mkc n_0 n_0 (bC.mk false 0)).bind fun l4 =>
  some (l4, 0))))
theorem aO6 {n_0 : Int} {r : (List bC) × Int} (hm : wA n_0 = some r) : aT Tryz.prog 37 [.v (.int .i64 n_0)] (.tup [.sl (r.1.flatMap aS) r.1.length false, .v (.int .i64 r.2)]) := by
 refine aT.of_body Tryz.func37 rfl ?_
 simp only [Tryz.ntmps37, List.length_cons, List.length_nil, Nat.reduceAdd, Nat.reduceSub, aQ]
 unfold wA at hm
 refine sr (N' := 64) rfl ?_
 iterate 2 refine pA ?_
 refine fs ?_
 refine AWp.seq' ?_
 refine sr (N' := 128) rfl ?_
 refine pA ?_
 obtain ⟨r2, h1, hm⟩ := bnd hm
 refine aE.callQ (r := .v (.bool r2)) Zd Z1 bDc (fun H => (cV .nil)) (aB4 h1) ?_
 refine pA ?_
 refine fs ?_
 refine AWp.condM hm Z1 (fun _ hm => ?_) (fun _ hm => ?_)
 ·
  refine sr (N' := 192) rfl ?_
  iterate 2 refine pA ?_
  refine fs ?_
  refine AWp.ret ?_
  refine bB ?_
  cases hm
  exact fE (.inr rfl) Tryz.results37 (tdn Z1) (td Z1 (.v _))
 ·
  refine AWp.skip ?_
  refine aF ?_
  refine sr (N' := 192) rfl ?_
  refine pA ?_
  obtain ⟨l4, h3, hm⟩ := bnd hm
  refine hp (id := 129) rfl rfl (aFz bF (z := (bC.mk false 0)) Tryz.underlying31 aVq (aKi) (by rw [aKu]; decide) aUu Zd Z5 Z1 Z1 h3) ?_
  iterate 2 refine pA ?_
  refine fs ?_
  refine AWp.ret ?_
  cases hm
  exact fE (.inr rfl) Tryz.results37 (tdo bF Z1 Z3 Z6) (td Z1 (.v _))
def iZ (c_0 : aZ) (w_1 : bH) : Option (aI × bH × Int) :=
 (bif ((((((decide (c_0.N < 1)) || (decide (1024 < c_0.N))) || (decide (c_0.L < 1))) || (decide (16 < c_0.L))) || (decide (c_0.R < 1))) || (decide (8 < c_0.R))) then
  some ((aI.mk (aJ.mk (aZ.mk 0 0 0) [] []) []), w_1, 1)
 else
  ((lI w_1 (IntKind.i64.wrap (c_0.L * c_0.R))).bind fun ⟨r2, r3, r4⟩ =>
  (bif (r4 != 0) then
   some ((aI.mk (aJ.mk (aZ.mk 0 0 0) [] []) []), w_1, r4)
  else
   ((sN c_0 r2).bind fun ⟨r6, r7⟩ =>
   (bif (r7 != 0) then
    some ((aI.mk (aJ.mk (aZ.mk 0 0 0) [] []) []), w_1, r7)
   else
    ((wA c_0.N).bind fun ⟨r9, r10⟩ =>
    (bif (r10 != 0) then
     some ((aI.mk (aJ.mk (aZ.mk 0 0 0) [] []) []), w_1, r10)
    else
     some ((aI.mk r6 r9), r3, 0))))))))
theorem aF6 {c_0 : aZ} {w_1 : bH} {r : aI × bH × Int} (hm : iZ c_0 w_1 = some r) : aT Tryz.prog 13 [.agg [.v (.int .i64 c_0.N), .v (.int .i64 c_0.L), .v (.int .i64 c_0.R)], .agg [.sl (w_1.List.flatMap (ci .u64)) w_1.List.length false, .v (.int .i64 w_1.At)]] (.tup [.agg [.v (.int .i64 r.1.Graph.Config.N), .v (.int .i64 r.1.Graph.Config.L), .v (.int .i64 r.1.Graph.Config.R), .sl (r.1.Graph.Hashes.flatMap bA) r.1.Graph.Hashes.length false, .sl (r.1.Graph.Edges.flatMap aL) r.1.Graph.Edges.length false, .sl (r.1.Slots.flatMap aS) r.1.Slots.length false], .agg [.sl (r.2.1.List.flatMap (ci .u64)) r.2.1.List.length false, .v (.int .i64 r.2.1.At)], .v (.int .i64 r.2.2)]) := by
 refine aT.of_body Tryz.func13 rfl ?_
 simp only [Tryz.ntmps13, List.length_cons, List.length_nil, Nat.reduceAdd, Nat.reduceSub, aQ]
 unfold iZ at hm
 refine sr (N' := 64) rfl ?_
 refine hp (id := 0) rfl rfl (bO Z1 Z5) ?_
 refine hp (id := 1) rfl rfl (bO Z1 Z5) ?_
 refine hp (id := 2) rfl rfl (aY aH7 Z5) ?_
 refine hp (id := 3) rfl rfl (aY aIg Z5) ?_
 refine pA ?_
 refine fs ?_
 refine AWp.seq' ?_
 refine sr (N' := 128) rfl ?_
 refine pA ?_
 refine pu rfl (aD Z1 Z3 Z4) ?_
 iterate 3 first | refine pA ?_ | refine pB ?_
 refine pg rfl rfl Z2 (fun hb => (aD (Zh hb) Z3 Z4)) ?_
 iterate 4 first | refine pA ?_ | refine pB ?_
 refine pg rfl rfl Z2 (fun hb => (aD (Zh hb) Z3 Z4)) ?_
 iterate 4 first | refine pA ?_ | refine pB ?_
 refine pg rfl rfl Z2 (fun hb => (aD (Zh hb) Z3 Z4)) ?_
 iterate 4 first | refine pA ?_ | refine pB ?_
 refine pg rfl rfl Z2 (fun hb => (aD (Zh hb) Z3 Z4)) ?_
 iterate 4 first | refine pA ?_ | refine pB ?_
 refine pg rfl rfl Z2 (fun hb => (aD (Zh hb) Z3 Z4)) ?_
 iterate 2 first | refine pA ?_ | refine pB ?_
 refine fs ?_
 refine AWp.condM hm Z1 (fun _ hm => ?_) (fun _ hm => ?_)
 ·
  refine AWp.seq' ?_
  refine AWp.regV [(3, 1), (4, 2), (5, 3)] 64 mix (by kernel_rfl) (by kernel_rfl) (IV.cons (off := 0) Z1 (IV.cons (off := 0) Z1 (IV.cons (off := 0) Z1 IV.nil))) (N' := 192) rfl ?_
  refine pu rfl (by simp only [go_sem, Nat.reduceBEq]; exact (by kernel_rfl : dJ Tryz.prog 33 [] = some (.agg [.v (.int .i64 0), .v (.int .i64 0), .v (.int .i64 0), .v (.slice none 0 0), .v (.slice none 0 0), .v (.slice none 0 0)]))) ?_
  refine pu rfl (aD Z1 Z3 Z2) ?_
  refine aE.heap0 (id := 130) rfl (bG (ys := [.v (.int .i64 0), .v (.int .i64 0), .v (.int .i64 0), .v (.slice none 0 0), .v (.slice none 0 0), .v (.slice none 0 0)]) qV Z1 Z1 Z3 rfl (Nat.le_of_ble_eq_true rfl) Z9 rfl) ?_
  refine aE.heap0 (id := 131) rfl (bG (ys := [.sl (w_1.List.flatMap (ci .u64)) w_1.List.length false, .v (.int .i64 w_1.At)]) uY Z1 Z1 Z3 rfl (Nat.le_of_ble_eq_true rfl) Z9 rfl) ?_
  refine pA ?_
  refine fs ?_
  refine AWp.ret ?_
  refine bB ?_
  cases hm
  exact fK (.inr rfl) (by rw [Tryz.results13]) (.cell (cG Z1 Z3 Z2) (.cell (cG Z1 Z3 Z2) (.tmp Z1 .nil))) rfl (tdt (.cons (tda rfl (.cons (.data _ (.v _)) (.cons (.data _ (.v _)) (.cons (.data _ (.v _)) (.cons (.nil false) (.cons (.nil false) (.cons (.nil false) .nil))))))) (.cons (td rfl (.agg _ (cI.dat _))) (.cons (td rfl (.v _)) .nil))))
 ·
  refine AWp.skip ?_
  refine aF ?_
  refine sr (N' := 192) rfl ?_
  refine pu rfl (aD Z1 Z3 Z2) ?_
  refine pA ?_
  refine pu rfl (aD Z1 Z3 Z4) ?_
  refine pA ?_
  refine pu rfl (aD Z1 Z3 Z4) ?_
  refine pA ?_
  obtain ⟨⟨r2, r3, r4⟩, h1, hm⟩ := bnd hm
  refine aE.callQ (r := .tup [.sl (r2.flatMap bA) r2.length false, .agg [.sl (r3.List.flatMap (ci .u64)) r3.List.length false, .v (.int .i64 r3.At)], .v (.int .i64 r4)]) Zd Z1 bJm (fun H => (cD (.agg _ (cI.dat _)) (cV .nil))) (aIj h1) ?_
  iterate 4 refine pA ?_
  refine hp (id := 139) rfl rfl (aY aIg Z5) ?_
  refine pA ?_
  refine aE.heap0 (id := 141) rfl (bG (ys := [.sl (r3.List.flatMap (ci .u64)) r3.List.length false, .v (.int .i64 r3.At)]) uY Z1 Z1 Z3 rfl (Nat.le_of_ble_eq_true rfl) Z9 rfl) ?_
  refine pA ?_
  refine fs ?_
  refine AWp.seq' ?_
  refine sr (N' := 256) rfl ?_
  iterate 2 refine pA ?_
  refine fs ?_
  refine AWp.condM hm Z1 (fun _ hm => ?_) (fun _ hm => ?_)
  ·
   refine AWp.seq' ?_
   refine AWp.regV [(3, 1), (4, 2), (5, 3)] 64 mix (by kernel_rfl) (by kernel_rfl) (IV.cons (off := 0) Z1 (IV.cons (off := 0) Z1 (IV.cons (off := 0) Z1 IV.nil))) (N' := 320) rfl ?_
   refine pu rfl (by simp only [go_sem, Nat.reduceBEq]; exact (by kernel_rfl : dJ Tryz.prog 33 [] = some (.agg [.v (.int .i64 0), .v (.int .i64 0), .v (.int .i64 0), .v (.slice none 0 0), .v (.slice none 0 0), .v (.slice none 0 0)]))) ?_
   refine pu rfl (aD Z1 Z3 Z2) ?_
   refine pA ?_
   refine aE.heap0 (id := 259) rfl (bG (ys := [.v (.int .i64 0), .v (.int .i64 0), .v (.int .i64 0), .v (.slice none 0 0), .v (.slice none 0 0), .v (.slice none 0 0)]) qV Z1 Z1 Z3 rfl (Nat.le_of_ble_eq_true rfl) Z9 rfl) ?_
   refine aE.heap0 (id := 260) rfl (bG (ys := [.sl (w_1.List.flatMap (ci .u64)) w_1.List.length false, .v (.int .i64 w_1.At)]) uY Z1 Z1 Z3 rfl (Nat.le_of_ble_eq_true rfl) Z9 rfl) ?_
   refine pA ?_
   refine fs ?_
   refine AWp.ret ?_
   refine bB ?_
   cases hm
   exact fK (.inr rfl) (by rw [Tryz.results13]) (.cell (cG Z1 Z3 Z2) (.cell (cG Z1 Z3 Z2) (.tmp Z1 .nil))) rfl (tdt (.cons (tda rfl (.cons (.data _ (.v _)) (.cons (.data _ (.v _)) (.cons (.data _ (.v _)) (.cons (.nil false) (.cons (.nil false) (.cons (.nil false) .nil))))))) (.cons (td rfl (.agg _ (cI.dat _))) (.cons (td rfl (.v _)) .nil))))
  ·
   refine AWp.skip ?_
   refine aF ?_
   refine sr (N' := 320) rfl ?_
   refine pu rfl (aD Z1 Z3 Z2) ?_
   refine pA ?_
   obtain ⟨⟨r6, r7⟩, h5, hm⟩ := bnd hm
   refine aE.callQ (r := .tup [.agg [.v (.int .i64 r6.Config.N), .v (.int .i64 r6.Config.L), .v (.int .i64 r6.Config.R), .sl (r6.Hashes.flatMap bA) r6.Hashes.length false, .sl (r6.Edges.flatMap aL) r6.Edges.length false], .v (.int .i64 r7)]) Zd Z1 bLw (fun H => (cD (.agg _ (mQ.dat _)) (cD (cN.sl _ _ _) .nil))) (aOe h5) ?_
   iterate 3 refine pA ?_
   refine hp (id := 262) rfl rfl (aY aN6 Z5) ?_
   refine aE.heap0 (id := 263) rfl (bG (ys := [.v (.int .i64 r6.Config.N), .v (.int .i64 r6.Config.L), .v (.int .i64 r6.Config.R), .sl (r6.Hashes.flatMap bA) r6.Hashes.length false, .sl (r6.Edges.flatMap aL) r6.Edges.length false]) wH Z1 Z1 Z3 rfl (Nat.le_of_ble_eq_true rfl) Z9 rfl) ?_
   refine pA ?_
   refine fs ?_
   refine AWp.seq' ?_
   refine sr (N' := 384) rfl ?_
   iterate 2 refine pA ?_
   refine fs ?_
   refine AWp.condM hm Z1 (fun _ hm => ?_) (fun _ hm => ?_)
   ·
    refine AWp.seq' ?_
    refine AWp.regV [(3, 1), (4, 2), (5, 3)] 64 mix (by kernel_rfl) (by kernel_rfl) (IV.cons (off := 0) Z1 (IV.cons (off := 0) Z1 (IV.cons (off := 0) Z1 IV.nil))) (N' := 448) rfl ?_
    refine pu rfl (by simp only [go_sem, Nat.reduceBEq]; exact (by kernel_rfl : dJ Tryz.prog 33 [] = some (.agg [.v (.int .i64 0), .v (.int .i64 0), .v (.int .i64 0), .v (.slice none 0 0), .v (.slice none 0 0), .v (.slice none 0 0)]))) ?_
    refine pu rfl (aD Z1 Z3 Z2) ?_
    refine pA ?_
    refine aE.heap0 (id := 387) rfl (bG (ys := [.v (.int .i64 0), .v (.int .i64 0), .v (.int .i64 0), .v (.slice none 0 0), .v (.slice none 0 0), .v (.slice none 0 0)]) qV Z1 Z1 Z3 rfl (Nat.le_of_ble_eq_true rfl) Z9 rfl) ?_
    refine aE.heap0 (id := 388) rfl (bG (ys := [.sl (w_1.List.flatMap (ci .u64)) w_1.List.length false, .v (.int .i64 w_1.At)]) uY Z1 Z1 Z3 rfl (Nat.le_of_ble_eq_true rfl) Z9 rfl) ?_
    refine pA ?_
    refine fs ?_
    refine AWp.ret ?_
    refine bB ?_
    cases hm
    exact fK (.inr rfl) (by rw [Tryz.results13]) (.cell (cG Z1 Z3 Z2) (.cell (cG Z1 Z3 Z2) (.tmp Z1 .nil))) rfl (tdt (.cons (tda rfl (.cons (.data _ (.v _)) (.cons (.data _ (.v _)) (.cons (.data _ (.v _)) (.cons (.nil false) (.cons (.nil false) (.cons (.nil false) .nil))))))) (.cons (td rfl (.agg _ (cI.dat _))) (.cons (td rfl (.v _)) .nil))))
   ·
    refine AWp.skip ?_
    refine aF ?_
    refine sr (N' := 448) rfl ?_
    refine pA ?_
    refine pu rfl (aD Z1 Z3 Z4) ?_
    obtain ⟨⟨r9, r10⟩, h8, hm⟩ := bnd hm
    refine aE.callQ (r := .tup [.sl (r9.flatMap aS) r9.length false, .v (.int .i64 r10)]) Zd Z1 bI1 (fun H => (cV .nil)) (aO6 h8) ?_
    iterate 5 refine pA ?_
    refine fs ?_
    refine AWp.seq' ?_
    refine sr (N' := 512) rfl ?_
    iterate 2 refine pA ?_
    refine fs ?_
    refine AWp.condM hm Z1 (fun _ hm => ?_) (fun _ hm => ?_)
    ·
     refine AWp.seq' ?_
     refine AWp.regV [(3, 1), (4, 2), (5, 3)] 64 mix (by kernel_rfl) (by kernel_rfl) (IV.cons (off := 0) Z1 (IV.cons (off := 0) Z1 (IV.cons (off := 0) Z1 IV.nil))) (N' := 576) rfl ?_
     refine pu rfl (by simp only [go_sem, Nat.reduceBEq]; exact (by kernel_rfl : dJ Tryz.prog 33 [] = some (.agg [.v (.int .i64 0), .v (.int .i64 0), .v (.int .i64 0), .v (.slice none 0 0), .v (.slice none 0 0), .v (.slice none 0 0)]))) ?_
     refine pu rfl (aD Z1 Z3 Z2) ?_
     refine pA ?_
     refine aE.heap0 (id := 515) rfl (bG (ys := [.v (.int .i64 0), .v (.int .i64 0), .v (.int .i64 0), .v (.slice none 0 0), .v (.slice none 0 0), .v (.slice none 0 0)]) qV Z1 Z1 Z3 rfl (Nat.le_of_ble_eq_true rfl) Z9 rfl) ?_
     refine aE.heap0 (id := 516) rfl (bG (ys := [.sl (w_1.List.flatMap (ci .u64)) w_1.List.length false, .v (.int .i64 w_1.At)]) uY Z1 Z1 Z3 rfl (Nat.le_of_ble_eq_true rfl) Z9 rfl) ?_
     refine pA ?_
     refine fs ?_
     refine AWp.ret ?_
     refine bB ?_
     cases hm
     exact fK (.inr rfl) (by rw [Tryz.results13]) (.cell (cG Z1 Z3 Z2) (.cell (cG Z1 Z3 Z2) (.tmp Z1 .nil))) rfl (tdt (.cons (tda rfl (.cons (.data _ (.v _)) (.cons (.data _ (.v _)) (.cons (.data _ (.v _)) (.cons (.nil false) (.cons (.nil false) (.cons (.nil false) .nil))))))) (.cons (td rfl (.agg _ (cI.dat _))) (.cons (td rfl (.v _)) .nil))))
    ·
     refine AWp.skip ?_
     refine aF ?_
     refine AWp.seq' ?_
     refine AWp.regV [(4, 2), (5, 3), (8, 139), (10, 262)] 64 mix (by kernel_rfl) (by kernel_rfl) (IV.cons (off := 0) Z1 (IV.cons (off := 0) Z1 (IV.cons (off := 0) Z1 (IV.cons (off := 0) Z1 IV.nil)))) (N' := 576) rfl ?_
     refine pu rfl (aD Z1 Z3 Z2) ?_
     refine pA ?_
     refine pu rfl (by simp only [go_sem, Nat.reduceBEq]; exact (by kernel_rfl : dJ Tryz.prog 33 [(0, .agg [.v (.int .i64 r6.Config.N), .v (.int .i64 r6.Config.L), .v (.int .i64 r6.Config.R), .sl (r6.Hashes.flatMap bA) r6.Hashes.length false, .sl (r6.Edges.flatMap aL) r6.Edges.length false]), (1, .sl (r9.flatMap aS) r9.length false)] = some (.agg [.v (.int .i64 r6.Config.N), .v (.int .i64 r6.Config.L), .v (.int .i64 r6.Config.R), .sl (r6.Hashes.flatMap bA) r6.Hashes.length false, .sl (r6.Edges.flatMap aL) r6.Edges.length false, .sl (r9.flatMap aS) r9.length false]))) ?_
     refine pu rfl (aD Z1 Z3 Z2) ?_
     refine aE.heap0 (id := 516) rfl (bG (ys := [.v (.int .i64 r6.Config.N), .v (.int .i64 r6.Config.L), .v (.int .i64 r6.Config.R), .sl (r6.Hashes.flatMap bA) r6.Hashes.length false, .sl (r6.Edges.flatMap aL) r6.Edges.length false, .sl (r9.flatMap aS) r9.length false]) qV Z1 Z1 Z3 rfl (Nat.le_of_ble_eq_true rfl) Z9 rfl) ?_
     refine aE.heap0 (id := 517) rfl (bG (ys := [.sl (r3.List.flatMap (ci .u64)) r3.List.length false, .v (.int .i64 r3.At)]) uY Z1 Z1 Z3 rfl (Nat.le_of_ble_eq_true rfl) Z9 rfl) ?_
     refine pA ?_
     refine fs ?_
     refine AWp.ret ?_
     cases hm
     exact fK (.inr rfl) (by rw [Tryz.results13]) (.cell (cG Z1 Z3 Z2) (.cell (cG Z1 Z3 Z2) (.tmp Z1 .nil))) rfl (tdt (.cons (td rfl (.agg _ (bE.dat (aI.mk r6 r9)))) (.cons (td rfl (.agg _ (cI.dat _))) (.cons (td rfl (.v _)) .nil))))
def fD (s_0 : aA) : Option (Int) :=
 (bif (!s_0.nn) then
  some 0
 else
  ((chk s_0.nn).bind fun _ =>
  some s_0.size))
theorem iW {s_0 : aA} {r : Int} (hm : fD s_0 = some r) : aT Tryz.prog 128 [aA.av s_0] (.v (.int .i64 r)) := by
 refine aT.of_body Tryz.func128 rfl ?_
 simp only [Tryz.ntmps128, List.length_cons, List.length_nil, Nat.reduceAdd, Nat.reduceSub, aQ]
 unfold fD at hm
 refine sr (N' := 64) rfl ?_
 refine pA ?_
 refine fs ?_
 refine AWp.seq' ?_
 refine sr (N' := 128) rfl ?_
 refine pA ?_
 refine pu rfl (aTo Tryz.underlying128 Z1 (aA.isn s_0) Z1) ?_
 refine fs ?_
 refine AWp.condM hm Z1 (fun _ hm => ?_) (fun _ hm => ?_)
 ·
  refine sr (N' := 192) rfl ?_
  refine pA ?_
  refine fs ?_
  refine AWp.ret ?_
  refine bB ?_
  cases hm
  exact bM (.inr rfl) Tryz.results128 (td Z1 (.v _))
 ·
  refine AWp.skip ?_
  refine aF ?_
  refine sr (N' := 192) rfl ?_
  refine pA ?_
  obtain ⟨_, h1, hm⟩ := bnd hm
  refine pu rfl (dS Z1 (aA.av_nn (dT h1))) ?_
  iterate 3 refine pA ?_
  refine fs ?_
  refine AWp.ret ?_
  cases hm
  exact bM (.inr rfl) Tryz.results128 (td Z1 (.v _))
def nG (rec1 : aA → Int → bR → Option (bR × Bool)) (s_0 : aA) (i_1 : Int) (t4 : bR) : Option (bR × Bool) :=
 ((chk s_0.nn).bind fun _ =>
 ((fD s_0.ahead).bind fun r5 =>
 (bif (decide (i_1 < r5)) then
  ((chk s_0.nn).bind fun _ =>
  rec1 s_0.ahead i_1 t4)
 else
  (bif (decide (r5 < i_1)) then
   ((chk s_0.nn).bind fun _ =>
   rec1 s_0.behind (IntKind.i64.wrap (i_1 - (IntKind.i64.wrap (r5 + 1)))) t4)
  else
   ((chk s_0.nn).bind fun _ =>
   some (s_0.thing, true))))))
def lE : Nat → aA → Int → bR → Option (bR × Bool)
 | 0 => fun _ _ _ => none
 | n + 1 => nG (lE n)
def iM (s_0 : aA) (i_1 : Int) : Option (bR × Bool) :=
 ((fA ((decide (i_1 < 0)) == false) 0 (fD s_0)).bind fun r2 =>
 (bif ((decide (i_1 < 0)) || (decide (r2 ≤ i_1))) then
  some ((bR.mk 0 0), false)
 else
  lE bY s_0 i_1 (bR.mk 0 0)))
theorem sR {s_0 : aA} {i_1 : Int} {r : bR × Bool} (hm : iM s_0 i_1 = some r) : aT Tryz.prog 97 [aA.av s_0, .v (.int .i64 i_1)] (.tup [.agg [.v (.int .u64 r.1.Key), .v (.int .i64 r.1.N)], .v (.bool r.2)]) := by
 refine aT.of_body Tryz.func97 rfl ?_
 simp only [Tryz.ntmps97, List.length_cons, List.length_nil, Nat.reduceAdd, Nat.reduceSub, aQ]
 unfold iM at hm
 refine sr (N' := 64) rfl ?_
 refine hp (id := 0) rfl rfl (aY aF8 Z5) ?_
 refine pA ?_
 refine fs ?_
 refine AWp.seq' ?_
 refine sr (N' := 128) rfl ?_
 iterate 5 first | refine pA ?_ | refine pB ?_
 obtain ⟨r2, h1, hm⟩ := bnd hm
 refine aE.callQG (r := .v (.int .i64 r2)) Zd rfl Z2 Z1 aFs (fun hb H => (.cons (td (Zh hb) (aA.data _)) .nil)) (fun hb => iW (dA h1 hb)) ?_
 iterate 2 first | refine pA ?_ | refine pB ?_
 refine fs ?_
 refine AWp.condM hm Z1 (fun _ hm => ?_) (fun _ hm => ?_)
 ·
  refine sr (N' := 192) rfl ?_
  refine hp (id := 128) rfl rfl (aY aF8 Z5) ?_
  refine fs ?_
  refine sr (N' := 256) rfl ?_
  refine pu rfl (aD Z1 Z3 Z2) ?_
  refine aE.heap0 (id := 193) rfl (bG (ys := [.v (.int .u64 0), .v (.int .i64 0)]) xV Z1 Z1 Z3 rfl (Nat.le_of_ble_eq_true rfl) Z9 rfl) ?_
  refine pA ?_
  refine fs ?_
  refine AWp.ret ?_
  refine bB ?_
  cases hm
  exact fK (.inr rfl) (by rw [Tryz.results97]) (.cell (cG Z1 Z3 Z2) (.tmp Z1 .nil)) rfl (tdt (.cons (td rfl (.agg _ (cJ.dat (bR.mk 0 0)))) (.cons (td rfl (.v _)) .nil)))
 ·
  refine AWp.skip ?_
  refine aF ?_
  refine AWp.block ?_
  refine AWp.loopM (fun m s => ∃ (s_0 : aA) (i_1 : Int) (t4 : bR), s = (⟨46, (aK (aK (aK (fun _ => AV.any) 0 (aA.av s_0)) 1 (.v (.int .i64 i_1))) 4 (.adr 1 0)), ⟨(upd bL 1 (.cells 1 [.v (.int .u64 t4.Key), .v (.int .i64 t4.N)] 0)), 64⟩⟩ : St) ∧ lE m s_0 i_1 t4 = some r) bY ?_ ?_ ?_
  ·
   rintro s ⟨_, _, _, _, h⟩
   cases h
  ·
   refine ⟨_, ?_, s_0, i_1, (bR.mk 0 0), rfl, hm⟩
   exact aN (fun j => bif j == 1 then 0 else 0) (aX _ _ (bQ Z1 rfl Z7) (wV (wD (aA.data s_0) aU))) (hW (aV (aO Z3 (Nat.le_refl _) (Nat.zero_le _) (cJ.dat (bR.mk 0 0))) aR))
  ·
   rintro n1 s ⟨s_0, i_1, t4, rfl, hm⟩
   replace hm : nG (lE n1) s_0 i_1 t4 = some r := hm
   unfold nG at hm
   refine AWp.block ?_
   refine sr (N' := 128) rfl ?_
   refine pA ?_
   obtain ⟨_, h3, hm⟩ := bnd hm
   refine pu rfl (dS Z1 (aA.av_nn (dT h3))) ?_
   iterate 2 refine pA ?_
   obtain ⟨r5, h4, hm⟩ := bnd hm
   refine aE.callQ (r := .v (.int .i64 r5)) Zd Z1 aFs (fun H => (cD (aA.data _) .nil)) (iW h4) ?_
   refine pA ?_
   refine fs ?_
   refine AWp.block ?_
   refine sr (N' := 192) rfl ?_
   iterate 4 refine pA ?_
   refine fs ?_
   refine AWp.condM hm Z1 (fun _ hm => ?_) (fun _ hm => ?_)
   ·
    refine AWp.reg 64 (N' := 256) rfl ?_
    refine pA ?_
    obtain ⟨_, h6, hm⟩ := bnd hm
    refine pu rfl (dS Z1 (aA.av_nn (dT h6))) ?_
    iterate 3 refine pA ?_
    refine aE.fin ?_
    refine cA ?_
    refine cA ?_
    refine bU ?_
    refine ⟨_, ?_, s_0.ahead, i_1, t4, rfl, hm⟩
    exact aN (fun j => bif j == 1 then 1 else 0) (aX _ _ (bQ Z1 rfl Z7) (wV (wD (aA.data s_0.ahead) aU))) (hW (aV (aO Z3 (Nat.le_refl _) (Nat.zero_le _) (cJ.dat t4)) aR))
   ·
    refine sr (N' := 256) rfl ?_
    iterate 4 refine pA ?_
    refine fs ?_
    refine AWp.condM hm Z1 (fun _ hm => ?_) (fun _ hm => ?_)
    ·
     refine sr (N' := 320) rfl ?_
     iterate 5 refine pA ?_
     refine fs ?_
     refine AWp.reg 64 (N' := 384) rfl ?_
     refine pA ?_
     obtain ⟨_, h7, hm⟩ := bnd hm
     refine pu rfl (dS Z1 (aA.av_nn (dT h7))) ?_
     iterate 3 refine pA ?_
     refine aE.fin ?_
     refine cA ?_
     refine cA ?_
     refine bU ?_
     refine ⟨_, ?_, s_0.behind, (IntKind.i64.wrap (i_1 - (IntKind.i64.wrap (r5 + 1)))), t4, rfl, hm⟩
     exact aN (fun j => bif j == 1 then 1 else 0) (aX _ _ (bQ Z1 rfl Z7) (wV (wD (aA.data s_0.behind) aU))) (hW (aV (aO Z3 (Nat.le_refl _) (Nat.zero_le _) (cJ.dat t4)) aR))
    ·
     refine sr (N' := 320) rfl ?_
     refine pA ?_
     obtain ⟨_, h8, hm⟩ := bnd hm
     refine pu rfl (dS Z1 (aA.av_nn (dT h8))) ?_
     iterate 2 refine pA ?_
     refine aE.heap0 (id := 260) rfl (bG (ys := [.v (.int .u64 s_0.thing.Key), .v (.int .i64 s_0.thing.N)]) xV Z1 Z1 Z3 rfl (Nat.le_of_ble_eq_true rfl) Z9 rfl) ?_
     refine pA ?_
     refine fs ?_
     refine AWp.ret ?_
     refine dB ?_
     refine dB ?_
     refine eD ?_
     refine dB ?_
     cases hm
     exact fK (.inr rfl) (by rw [Tryz.results97]) (.cell (cG Z1 Z3 Z2) (.tmp Z1 .nil)) rfl (tdt (.cons (td rfl (.agg _ (cJ.dat _))) (.cons (td rfl (.v _)) .nil)))
def kX (i_0 : Int) (t1 : bN) (t2 : Int) : Option (Bool) :=
 ((iM t1.s i_0).bind fun ⟨r2, r3⟩ =>
 some (decide (t2 ≤ r2.Key)))
theorem aIy {i_0 : Int} {t1 : bN} {t2 : Int} {r : Bool} (hm : kX i_0 t1 t2 = some r) : aT Tryz.prog 130 [.v (.int .i64 i_0), .ptr [aA.av t1.s], .ptr [.v (.int .u64 t2)]] (.v (.bool r)) := by
 refine aT.of_body Tryz.func130 rfl ?_
 simp only [Tryz.ntmps130, List.length_cons, List.length_nil, Nat.reduceAdd, Nat.reduceSub, aQ]
 unfold kX at hm
 refine sr (N' := 64) rfl ?_
 refine pA ?_
 refine fs ?_
 refine sr (N' := 128) rfl ?_
 iterate 3 refine pA ?_
 obtain ⟨⟨r2, r3⟩, h1, hm⟩ := bnd hm
 refine aE.callQ (r := .tup [.agg [.v (.int .u64 r2.Key), .v (.int .i64 r2.N)], .v (.bool r3)]) Zd Z1 aWq (fun H => (cD (aA.data _) (cV .nil))) (sR h1) ?_
 iterate 3 refine pA ?_
 refine hp (id := 71) rfl rfl (aY aF8 Z5) ?_
 refine aE.heap0 (id := 72) rfl (bG (ys := [.v (.int .u64 r2.Key), .v (.int .i64 r2.N)]) xV Z1 Z1 Z3 rfl (Nat.le_of_ble_eq_true rfl) Z9 rfl) ?_
 refine pA ?_
 refine fs ?_
 refine sr (N' := 192) rfl ?_
 refine pA ?_
 refine pu rfl (aD Z1 Z3 Z4) ?_
 iterate 3 refine pA ?_
 refine fs ?_
 refine AWp.ret ?_
 cases hm
 exact bM (.inr rfl) Tryz.results130 (td Z1 (.v _))
def lT (f_1 : (Int → Option (Bool))) (rec1 : Int → Int → Option (Int)) (i_5 : Int) (j_6 : Int) : Option (Int) :=
 (bif (decide (i_5 < j_6)) then
  ((f_1 (IntKind.i64.wrap (shr .u64 (IntKind.u64.wrap (IntKind.i64.wrap (i_5 + j_6))) 1))).bind fun r2 =>
  (bif (!r2) then
   rec1 (IntKind.i64.wrap ((IntKind.i64.wrap (shr .u64 (IntKind.u64.wrap (IntKind.i64.wrap (i_5 + j_6))) 1)) + 1)) j_6
  else
   rec1 i_5 (IntKind.i64.wrap (shr .u64 (IntKind.u64.wrap (IntKind.i64.wrap (i_5 + j_6))) 1))))
 else
  some i_5)
def jM (f_1 : (Int → Option (Bool))) : Nat → Int → Int → Option (Int)
 | 0 => fun _ _ => none
 | n + 1 => lT f_1 (jM f_1 n)
def qY (n_0 : Int) (f_1 : (Int → Option (Bool))) : Option (Int) :=
 jM f_1 bY 0 n_0
theorem aJk {n_0 : Int} {f_1 : (Int → Option (Bool))} {r : Int} (hm : qY n_0 f_1 = some r) {g_f_1 : FuncId} {cap_f_1 : List AV} (hcap_f_1 : ∀ a, a ∈ cap_f_1 → AM.Data a) (hb_f_1 : (Program.funcs Tryz.prog)[g_f_1]?.any (fun fn => fn.body.isSome && fn.name != "runtime.NumGoroutine") = true) (hf_f_1 : ∀ {x0 r}, f_1 x0 = some r → aT Tryz.prog g_f_1 ([.v (.int .i64 x0)] ++ cap_f_1) (.v (.bool r))) : aT Tryz.prog 129 [.v (.int .i64 n_0), .clo (.func g_f_1) [] cap_f_1] (.v (.int .i64 r)) := by
 refine aT.of_body Tryz.func129 rfl ?_
 simp only [Tryz.ntmps129, List.length_cons, List.length_nil, Nat.reduceAdd, Nat.reduceSub, aQ]
 unfold qY at hm
 refine sr (N' := 64) rfl ?_
 refine pA ?_
 refine fs ?_
 refine sr (N' := 128) rfl ?_
 iterate 3 refine pA ?_
 refine fs ?_
 refine AWp.seq' ?_
 refine AWp.block ?_
 refine AWp.loopM (fun m s => ∃ (i_5 : Int) (j_6 : Int), s = (⟨26, (aK (aK (aK (fun _ => AV.any) 1 (.clo (.func g_f_1) [] cap_f_1)) 5 (.v (.int .i64 i_5))) 6 (.v (.int .i64 j_6))), ⟨bL, 64⟩⟩ : St) ∧ jM f_1 m i_5 j_6 = some r) bY ?_ ?_ ?_
 ·
  rintro s ⟨_, _, _, h⟩
  cases h
 ·
  refine ⟨_, ?_, 0, n_0, rfl, hm⟩
  exact aN id (wV (wV (wD (aMo hcap_f_1) aU))) cT
 ·
  rintro n1 s ⟨i_5, j_6, rfl, hm⟩
  replace hm : lT f_1 (jM f_1 n1) i_5 j_6 = some r := hm
  unfold lT at hm
  refine AWp.seq' ?_
  refine sr (N' := 128) rfl ?_
  iterate 3 refine pA ?_
  refine fs ?_
  refine AWp.condM hm Z1 (fun _ hm => ?_) (fun _ hm => ?_)
  ·
   refine AWp.skip ?_
   refine aF ?_
   refine AWp.block ?_
   refine sr (N' := 192) rfl ?_
   iterate 7 refine pu rfl (by simp only [go_sem, Nat.reduceBEq, Int.reduceEq, Int.reduceLE]; try with_reducible rfl) ?_
   refine fs ?_
   refine sr (N' := 256) rfl ?_
   iterate 2 refine pA ?_
   obtain ⟨r2, h1, hm⟩ := bnd hm
   refine aE.callQC (r := .v (.bool r2)) Zd Z1 hcap_f_1 hb_f_1 (fun H => (cV .nil)) (hf_f_1 h1) ?_
   refine pA ?_
   refine fs ?_
   refine AWp.condM hm Z1 (fun _ hm => ?_) (fun _ hm => ?_)
   ·
    refine AWp.reg 64 (N' := 320) rfl ?_
    iterate 3 refine pA ?_
    refine aE.fin ?_
    refine cA ?_
    refine bU ?_
    refine ⟨_, ?_, (IntKind.i64.wrap ((IntKind.i64.wrap (shr .u64 (IntKind.u64.wrap (IntKind.i64.wrap (i_5 + j_6))) 1)) + 1)), j_6, rfl, hm⟩
    exact aN id (wV (wV (wD (aMo hcap_f_1) aU))) cT
   ·
    refine AWp.reg 64 (N' := 320) rfl ?_
    iterate 2 refine pA ?_
    refine aE.fin ?_
    refine cA ?_
    refine bU ?_
    refine ⟨_, ?_, i_5, (IntKind.i64.wrap (shr .u64 (IntKind.u64.wrap (IntKind.i64.wrap (i_5 + j_6))) 1)), rfl, hm⟩
    exact aN id (wV (wV (wD (aMo hcap_f_1) aU))) cT
  ·
   refine AWp.exit ?_
   refine cH ?_
   refine bW ?_
   refine bT ?_
   refine aF ?_
   refine sr (N' := 192) rfl ?_
   iterate 2 refine pA ?_
   refine fs ?_
   refine AWp.ret ?_
   cases hm
   exact bM (.inr rfl) Tryz.results129 (td Z1 (.v _))
def nZ (d_0 : bN) (key_1 : Int) : Option (Int) :=
 ((fD d_0.s).bind fun r2 =>
 ((qY r2 (fun x0 => kX x0 d_0 key_1)).bind fun r4 =>
 some r4))
theorem aF0 {d_0 : bN} {key_1 : Int} {r : Int} (hm : nZ d_0 key_1 = some r) : aT Tryz.prog 98 [.agg [aA.av d_0.s], .v (.int .u64 key_1)] (.v (.int .i64 r)) := by
 refine aT.of_body Tryz.func98 rfl ?_
 simp only [Tryz.ntmps98, List.length_cons, List.length_nil, Nat.reduceAdd, Nat.reduceSub, aQ]
 unfold nZ at hm
 refine sr (N' := 64) rfl ?_
 refine aE.pop Zd (aA8 Z1 (.agg _ (cX.dat d_0))) (aId (ys := [aA.av d_0.s]) Z1 (fun H => (.cons (.data _ (aA.data d_0.s)) .nil))) rfl ?_
 refine aE.pop Zd (aA8 Z1 (.v _)) (aId (ys := [.v (.int .u64 key_1)]) Z1 (fun H => (.cons (.data _ (.v _)) .nil))) rfl ?_
 refine pA ?_
 refine fs ?_
 refine sr (N' := 128) rfl ?_
 iterate 2 refine pA ?_
 obtain ⟨r2, h1, hm⟩ := bnd hm
 refine aE.callQ (r := .v (.int .i64 r2)) Zd Z1 aFs (fun H => (cD (aA.data _) .nil)) (iW h1) ?_
 refine pA ?_
 obtain ⟨r4, h3, hm⟩ := bnd hm
 refine aE.callQ (r := .v (.int .i64 r4)) Zd Z1 bDo (fun H => (cV (.cons (td Z1 (aMo (mA (.ptr _ (cX.dat d_0)) (mA (.ptr _ ((CFi .u64).dat key_1)) aAq)))) .nil))) (aJk h3 (mA (.ptr _ (cX.dat d_0)) (mA (.ptr _ ((CFi .u64).dat key_1)) aAq)) bD6 (fun h => aIy h)) ?_
 refine pA ?_
 refine fs ?_
 refine AWp.ret ?_
 cases hm
 exact bM (.inr rfl) Tryz.results98 (td Z1 (.v _))
def mM (d_0 : bN) (key_1 : Int) : Option (Int × Bool) :=
 ((nZ d_0 key_1).bind fun r2 =>
 ((iM d_0.s r2).bind fun ⟨r4, r5⟩ =>
 (bif ((!r5) || (r4.Key != key_1)) then
  some (0, false)
 else
  some (r4.N, true))))
theorem yT {d_0 : bN} {key_1 : Int} {r : Int × Bool} (hm : mM d_0 key_1 = some r) : aT Tryz.prog 72 [.agg [aA.av d_0.s], .v (.int .u64 key_1)] (.tup [.v (.int .i64 r.1), .v (.bool r.2)]) := by
 refine aT.of_body Tryz.func72 rfl ?_
 simp only [Tryz.ntmps72, List.length_cons, List.length_nil, Nat.reduceAdd, Nat.reduceSub, aQ]
 unfold mM at hm
 refine sr (N' := 64) rfl ?_
 refine hp (id := 0) rfl rfl (bO Z1 Z5) ?_
 iterate 2 refine pA ?_
 refine fs ?_
 refine sd mix (by kernel_rfl) (N' := 128) rfl ?_
 refine pA ?_
 refine pu rfl (aD Z1 Z3 Z4) ?_
 refine pu rfl (aD Z1 Z3 Z2) ?_
 refine pA ?_
 obtain ⟨r2, h1, hm⟩ := bnd hm
 refine aE.callQ (r := .v (.int .i64 r2)) Zd Z1 bGk (fun H => (cD (.agg _ (cX.dat _)) (cV .nil))) (aF0 h1) ?_
 obtain ⟨⟨r4, r5⟩, h3, hm⟩ := bnd hm
 refine aE.callQ (r := .tup [.agg [.v (.int .u64 r4.Key), .v (.int .i64 r4.N)], .v (.bool r5)]) Zd Z1 aWq (fun H => (cD (aA.data _) (cV .nil))) (sR h3) ?_
 iterate 3 refine pA ?_
 refine hp (id := 73) rfl rfl (aY aF8 Z5) ?_
 refine aE.heap0 (id := 74) rfl (bG (ys := [.v (.int .u64 r4.Key), .v (.int .i64 r4.N)]) xV Z1 Z1 Z3 rfl (Nat.le_of_ble_eq_true rfl) Z9 rfl) ?_
 refine pA ?_
 refine fs ?_
 refine AWp.seq' ?_
 refine sr (N' := 192) rfl ?_
 iterate 4 first | refine pA ?_ | refine pB ?_
 refine pg rfl rfl Z2 (fun hb => (aD (Zh hb) Z3 Z4)) ?_
 iterate 3 first | refine pA ?_ | refine pB ?_
 refine fs ?_
 refine AWp.condM hm Z1 (fun _ hm => ?_) (fun _ hm => ?_)
 ·
  refine sr (N' := 256) rfl ?_
  iterate 2 refine pA ?_
  refine fs ?_
  refine AWp.ret ?_
  refine bB ?_
  cases hm
  exact fE (.inr rfl) Tryz.results72 (td Z1 (.v _)) (td Z1 (.v _))
 ·
  refine AWp.skip ?_
  refine aF ?_
  refine sr (N' := 256) rfl ?_
  refine pA ?_
  refine pu rfl (aD Z1 Z3 Z4) ?_
  iterate 2 refine pA ?_
  refine fs ?_
  refine AWp.ret ?_
  cases hm
  exact fE (.inr rfl) Tryz.results72 (td Z1 (.v _)) (td Z1 (.v _))
def cW (s_0 : aA) : Option (Int) :=
 (bif (!s_0.nn) then
  some 0
 else
  ((chk s_0.nn).bind fun _ =>
  some s_0.height))
theorem dH {s_0 : aA} {r : Int} (hm : cW s_0 = some r) : aT Tryz.prog 173 [aA.av s_0] (.v (.int .i64 r)) := by
 refine aT.of_body Tryz.func173 rfl ?_
 simp only [Tryz.ntmps173, List.length_cons, List.length_nil, Nat.reduceAdd, Nat.reduceSub, aQ]
 unfold cW at hm
 refine sr (N' := 64) rfl ?_
 refine pA ?_
 refine fs ?_
 refine AWp.seq' ?_
 refine sr (N' := 128) rfl ?_
 refine pA ?_
 refine pu rfl (aTo Tryz.underlying128 Z1 (aA.isn s_0) Z1) ?_
 refine fs ?_
 refine AWp.condM hm Z1 (fun _ hm => ?_) (fun _ hm => ?_)
 ·
  refine sr (N' := 192) rfl ?_
  refine pA ?_
  refine fs ?_
  refine AWp.ret ?_
  refine bB ?_
  cases hm
  exact bM (.inr rfl) Tryz.results173 (td Z1 (.v _))
 ·
  refine AWp.skip ?_
  refine aF ?_
  refine sr (N' := 192) rfl ?_
  refine pA ?_
  obtain ⟨_, h1, hm⟩ := bnd hm
  refine pu rfl (dS Z1 (aA.av_nn (dT h1))) ?_
  iterate 3 refine pA ?_
  refine fs ?_
  refine AWp.ret ?_
  cases hm
  exact bM (.inr rfl) Tryz.results173 (td Z1 (.v _))
def dE (ahead_0 : aA) (thing_1 : bR) (behind_2 : aA) : Option (aA) :=
 ((cW ahead_0).bind fun r2 =>
 ((cW behind_2).bind fun r4 =>
 ((fD ahead_0).bind fun r6 =>
 ((fD behind_2).bind fun r8 =>
 some (aA.mk ahead_0 behind_2 thing_1 (IntKind.i64.wrap ((if r2 < r4 then r4 else r2) + 1)) (IntKind.i64.wrap ((IntKind.i64.wrap (r6 + 1)) + r8)))))))
theorem dZ {ahead_0 : aA} {thing_1 : bR} {behind_2 : aA} {r : aA} (hm : dE ahead_0 thing_1 behind_2 = some r) : aT Tryz.prog 144 [aA.av ahead_0, .agg [.v (.int .u64 thing_1.Key), .v (.int .i64 thing_1.N)], aA.av behind_2] (aA.av r) := by
 refine aT.of_body Tryz.func144 rfl ?_
 simp only [Tryz.ntmps144, List.length_cons, List.length_nil, Nat.reduceAdd, Nat.reduceSub, aQ]
 unfold dE at hm
 refine sr (N' := 64) rfl ?_
 refine hp (id := 0) rfl rfl (bO Z1 Z5) ?_
 refine pA ?_
 refine fs ?_
 refine sd mix (by kernel_rfl) (N' := 128) rfl ?_
 iterate 2 refine pA ?_
 refine pu rfl (aD Z1 Z3 Z2) ?_
 refine pA ?_
 obtain ⟨r2, h1, hm⟩ := bnd hm
 refine aE.callQ (r := .v (.int .i64 r2)) Zd Z1 tC (fun H => (cD (aA.data _) .nil)) (dH h1) ?_
 refine pA ?_
 obtain ⟨r4, h3, hm⟩ := bnd hm
 refine aE.callQ (r := .v (.int .i64 r4)) Zd Z1 tC (fun H => (cD (aA.data _) .nil)) (dH h3) ?_
 iterate 3 refine pA ?_
 obtain ⟨r6, h5, hm⟩ := bnd hm
 refine aE.callQ (r := .v (.int .i64 r6)) Zd Z1 aFs (fun H => (cD (aA.data _) .nil)) (iW h5) ?_
 iterate 2 refine pA ?_
 obtain ⟨r8, h7, hm⟩ := bnd hm
 refine aE.callQ (r := .v (.int .i64 r8)) Zd Z1 aFs (fun H => (cD (aA.data _) .nil)) (iW h7) ?_
 refine pA ?_
 refine pu rfl (by simp only [go_sem, Nat.reduceBEq]; exact aUd (aA.cells _) (aA.cells _)) ?_
 refine aE.pop Zd (aA8 Z1 (.agg _ (mA (aA.data ahead_0) (mA (aA.data behind_2) (mA (.v _) (mA (.v _) (mA (.v _) (mA (.v _) aAq)))))))) (aId (ys := [aA.av ((aA.mk ahead_0 behind_2 thing_1 (IntKind.i64.wrap ((if r2 < r4 then r4 else r2) + 1)) (IntKind.i64.wrap ((IntKind.i64.wrap (r6 + 1)) + r8))).ahead), aA.av ((aA.mk ahead_0 behind_2 thing_1 (IntKind.i64.wrap ((if r2 < r4 then r4 else r2) + 1)) (IntKind.i64.wrap ((IntKind.i64.wrap (r6 + 1)) + r8))).behind), .v (.int .u64 (((aA.mk ahead_0 behind_2 thing_1 (IntKind.i64.wrap ((if r2 < r4 then r4 else r2) + 1)) (IntKind.i64.wrap ((IntKind.i64.wrap (r6 + 1)) + r8))).thing).Key)), .v (.int .i64 (((aA.mk ahead_0 behind_2 thing_1 (IntKind.i64.wrap ((if r2 < r4 then r4 else r2) + 1)) (IntKind.i64.wrap ((IntKind.i64.wrap (r6 + 1)) + r8))).thing).N)), .v (.int .i64 ((aA.mk ahead_0 behind_2 thing_1 (IntKind.i64.wrap ((if r2 < r4 then r4 else r2) + 1)) (IntKind.i64.wrap ((IntKind.i64.wrap (r6 + 1)) + r8))).height)), .v (.int .i64 ((aA.mk ahead_0 behind_2 thing_1 (IntKind.i64.wrap ((if r2 < r4 then r4 else r2) + 1)) (IntKind.i64.wrap ((IntKind.i64.wrap (r6 + 1)) + r8))).size))]) Z1 (fun H => (.cons (.data _ (aA.data ahead_0)) (.cons (.data _ (aA.data behind_2)) (.cons (.data _ (.v _)) (.cons (.data _ (.v _)) (.cons (.data _ (.v _)) (.cons (.data _ (.v _)) .nil)))))))) rfl ?_
 refine pA ?_
 refine fs ?_
 refine AWp.ret ?_
 cases hm
 exact bM (.inr rfl) Tryz.results144 (td Z1 (aA.data _))
def gR (ahead_0 : aA) (thing_1 : bR) (behind_2 : aA) : Option (aA) :=
 ((cW ahead_0).bind fun r2 =>
 ((cW behind_2).bind fun r4 =>
 (bif (decide ((IntKind.i64.wrap (r4 + 1)) < r2)) then
  ((chk ahead_0.nn).bind fun _ =>
  ((cW ahead_0.ahead).bind fun r7 =>
  ((chk ahead_0.nn).bind fun _ =>
  ((cW ahead_0.behind).bind fun r10 =>
  (bif (decide (r10 ≤ r7)) then
   ((chk ahead_0.nn).bind fun _ =>
   ((chk ahead_0.nn).bind fun _ =>
   ((chk ahead_0.nn).bind fun _ =>
   ((dE ahead_0.behind thing_1 behind_2).bind fun r15 =>
   ((dE ahead_0.ahead ahead_0.thing r15).bind fun r17 =>
   some r17)))))
  else
   ((chk ahead_0.nn).bind fun _ =>
   ((chk ahead_0.nn).bind fun _ =>
   ((chk ahead_0.nn).bind fun _ =>
   ((chk ahead_0.behind.nn).bind fun _ =>
   ((dE ahead_0.ahead ahead_0.thing ahead_0.behind.ahead).bind fun r23 =>
   ((chk ahead_0.behind.nn).bind fun _ =>
   ((chk ahead_0.behind.nn).bind fun _ =>
   ((dE ahead_0.behind.behind thing_1 behind_2).bind fun r27 =>
   ((dE r23 ahead_0.behind.thing r27).bind fun r29 =>
   some r29))))))))))))))
 else
  ((cW behind_2).bind fun r31 =>
  ((cW ahead_0).bind fun r33 =>
  (bif (decide ((IntKind.i64.wrap (r33 + 1)) < r31)) then
   ((chk behind_2.nn).bind fun _ =>
   ((cW behind_2.behind).bind fun r36 =>
   ((chk behind_2.nn).bind fun _ =>
   ((cW behind_2.ahead).bind fun r39 =>
   (bif (decide (r39 ≤ r36)) then
    ((chk behind_2.nn).bind fun _ =>
    ((dE ahead_0 thing_1 behind_2.ahead).bind fun r42 =>
    ((chk behind_2.nn).bind fun _ =>
    ((chk behind_2.nn).bind fun _ =>
    ((dE r42 behind_2.thing behind_2.behind).bind fun r46 =>
    some r46)))))
   else
    ((chk behind_2.nn).bind fun _ =>
    ((chk behind_2.ahead.nn).bind fun _ =>
    ((dE ahead_0 thing_1 behind_2.ahead.ahead).bind fun r50 =>
    ((chk behind_2.ahead.nn).bind fun _ =>
    ((chk behind_2.ahead.nn).bind fun _ =>
    ((chk behind_2.nn).bind fun _ =>
    ((chk behind_2.nn).bind fun _ =>
    ((dE behind_2.ahead.behind behind_2.thing behind_2.behind).bind fun r56 =>
    ((dE r50 behind_2.ahead.thing r56).bind fun r58 =>
    some r58))))))))))))))
  else
   ((dE ahead_0 thing_1 behind_2).bind fun r60 =>
   some r60)))))))
theorem wP {ahead_0 : aA} {thing_1 : bR} {behind_2 : aA} {r : aA} (hm : gR ahead_0 thing_1 behind_2 = some r) : aT Tryz.prog 174 [aA.av ahead_0, .agg [.v (.int .u64 thing_1.Key), .v (.int .i64 thing_1.N)], aA.av behind_2] (aA.av r) := by
 refine aT.of_body Tryz.func174 rfl ?_
 simp only [Tryz.ntmps174, List.length_cons, List.length_nil, Nat.reduceAdd, Nat.reduceSub, aQ]
 unfold gR at hm
 refine sr (N' := 64) rfl ?_
 refine hp (id := 0) rfl rfl (bO Z1 Z5) ?_
 refine pA ?_
 refine fs ?_
 refine AWp.seq' ?_
 refine AWp.block ?_
 refine sr (N' := 128) rfl ?_
 refine pA ?_
 obtain ⟨r2, h1, hm⟩ := bnd hm
 refine aE.callQ (r := .v (.int .i64 r2)) Zd Z1 tC (fun H => (cD (aA.data _) .nil)) (dH h1) ?_
 refine pA ?_
 obtain ⟨r4, h3, hm⟩ := bnd hm
 refine aE.callQ (r := .v (.int .i64 r4)) Zd Z1 tC (fun H => (cD (aA.data _) .nil)) (dH h3) ?_
 iterate 3 refine pA ?_
 refine fs ?_
 refine AWp.condM hm Z1 (fun _ hm => ?_) (fun _ hm => ?_)
 ·
  refine AWp.seq' ?_
  refine sd mix (by kernel_rfl) (N' := 192) rfl ?_
  refine pA ?_
  obtain ⟨_, h5, hm⟩ := bnd hm
  refine pu rfl (dS Z1 (aA.av_nn (dT h5))) ?_
  iterate 2 refine pA ?_
  obtain ⟨r7, h6, hm⟩ := bnd hm
  refine aE.callQ (r := .v (.int .i64 r7)) Zd Z1 tC (fun H => (cD (aA.data _) .nil)) (dH h6) ?_
  refine pA ?_
  obtain ⟨_, h8, hm⟩ := bnd hm
  refine pu rfl (dS Z1 (aA.av_nn (dT h8))) ?_
  iterate 2 refine pA ?_
  obtain ⟨r10, h9, hm⟩ := bnd hm
  refine aE.callQ (r := .v (.int .i64 r10)) Zd Z1 tC (fun H => (cD (aA.data _) .nil)) (dH h9) ?_
  refine pA ?_
  refine fs ?_
  refine AWp.condM hm Z1 (fun _ hm => ?_) (fun _ hm => ?_)
  ·
   refine sd mix (by kernel_rfl) (N' := 256) rfl ?_
   refine pA ?_
   obtain ⟨_, h11, hm⟩ := bnd hm
   refine pu rfl (dS Z1 (aA.av_nn (dT h11))) ?_
   iterate 3 refine pA ?_
   obtain ⟨_, h12, hm⟩ := bnd hm
   refine pu rfl (dS Z1 (aA.av_nn (dT h12))) ?_
   iterate 3 refine pA ?_
   obtain ⟨_, h13, hm⟩ := bnd hm
   refine pu rfl (dS Z1 (aA.av_nn (dT h13))) ?_
   iterate 2 refine pA ?_
   refine pu rfl (aD Z1 Z3 Z2) ?_
   refine pA ?_
   obtain ⟨r15, h14, hm⟩ := bnd hm
   refine aE.callQ (r := aA.av r15) Zd Z1 uW (fun H => (cD (aA.data _) (cD (.agg _ (cJ.dat _)) (cD (aA.data _) .nil)))) (dZ h14) ?_
   obtain ⟨r17, h16, hm⟩ := bnd hm
   refine aE.callQ (r := aA.av r17) Zd Z1 uW (fun H => (cD (aA.data _) (cD (.agg _ (cJ.dat _)) (cD (aA.data _) .nil)))) (dZ h16) ?_
   refine pA ?_
   refine fs ?_
   refine AWp.ret ?_
   refine bB ?_
   refine dB ?_
   refine bB ?_
   cases hm
   exact bM (.inr rfl) Tryz.results174 (td Z1 (aA.data _))
  ·
   refine AWp.skip ?_
   refine aF ?_
   refine sr (N' := 256) rfl ?_
   refine pA ?_
   obtain ⟨_, h18, hm⟩ := bnd hm
   refine pu rfl (dS Z1 (aA.av_nn (dT h18))) ?_
   iterate 3 refine pA ?_
   refine fs ?_
   refine sd mix (by kernel_rfl) (N' := 320) rfl ?_
   refine pA ?_
   obtain ⟨_, h19, hm⟩ := bnd hm
   refine pu rfl (dS Z1 (aA.av_nn (dT h19))) ?_
   iterate 3 refine pA ?_
   obtain ⟨_, h20, hm⟩ := bnd hm
   refine pu rfl (dS Z1 (aA.av_nn (dT h20))) ?_
   iterate 3 refine pA ?_
   obtain ⟨_, h21, hm⟩ := bnd hm
   refine pu rfl (dS Z1 (aA.av_nn (dT h21))) ?_
   iterate 2 refine pA ?_
   obtain ⟨r23, h22, hm⟩ := bnd hm
   refine aE.callQ (r := aA.av r23) Zd Z1 uW (fun H => (cD (aA.data _) (cD (.agg _ (cJ.dat _)) (cD (aA.data _) .nil)))) (dZ h22) ?_
   refine pA ?_
   obtain ⟨_, h24, hm⟩ := bnd hm
   refine pu rfl (dS Z1 (aA.av_nn (dT h24))) ?_
   iterate 3 refine pA ?_
   obtain ⟨_, h25, hm⟩ := bnd hm
   refine pu rfl (dS Z1 (aA.av_nn (dT h25))) ?_
   iterate 2 refine pA ?_
   refine pu rfl (aD Z1 Z3 Z2) ?_
   refine pA ?_
   obtain ⟨r27, h26, hm⟩ := bnd hm
   refine aE.callQ (r := aA.av r27) Zd Z1 uW (fun H => (cD (aA.data _) (cD (.agg _ (cJ.dat _)) (cD (aA.data _) .nil)))) (dZ h26) ?_
   obtain ⟨r29, h28, hm⟩ := bnd hm
   refine aE.callQ (r := aA.av r29) Zd Z1 uW (fun H => (cD (aA.data _) (cD (.agg _ (cJ.dat _)) (cD (aA.data _) .nil)))) (dZ h28) ?_
   refine pA ?_
   refine fs ?_
   refine AWp.ret ?_
   refine dB ?_
   refine bB ?_
   cases hm
   exact bM (.inr rfl) Tryz.results174 (td Z1 (aA.data _))
 ·
  refine sr (N' := 192) rfl ?_
  refine pA ?_
  obtain ⟨r31, h30, hm⟩ := bnd hm
  refine aE.callQ (r := .v (.int .i64 r31)) Zd Z1 tC (fun H => (cD (aA.data _) .nil)) (dH h30) ?_
  refine pA ?_
  obtain ⟨r33, h32, hm⟩ := bnd hm
  refine aE.callQ (r := .v (.int .i64 r33)) Zd Z1 tC (fun H => (cD (aA.data _) .nil)) (dH h32) ?_
  iterate 3 refine pA ?_
  refine fs ?_
  refine AWp.condM hm Z1 (fun _ hm => ?_) (fun _ hm => ?_)
  ·
   refine AWp.seq' ?_
   refine sd mix (by kernel_rfl) (N' := 256) rfl ?_
   refine pA ?_
   obtain ⟨_, h34, hm⟩ := bnd hm
   refine pu rfl (dS Z1 (aA.av_nn (dT h34))) ?_
   iterate 2 refine pA ?_
   obtain ⟨r36, h35, hm⟩ := bnd hm
   refine aE.callQ (r := .v (.int .i64 r36)) Zd Z1 tC (fun H => (cD (aA.data _) .nil)) (dH h35) ?_
   refine pA ?_
   obtain ⟨_, h37, hm⟩ := bnd hm
   refine pu rfl (dS Z1 (aA.av_nn (dT h37))) ?_
   iterate 2 refine pA ?_
   obtain ⟨r39, h38, hm⟩ := bnd hm
   refine aE.callQ (r := .v (.int .i64 r39)) Zd Z1 tC (fun H => (cD (aA.data _) .nil)) (dH h38) ?_
   refine pA ?_
   refine fs ?_
   refine AWp.condM hm Z1 (fun _ hm => ?_) (fun _ hm => ?_)
   ·
    refine sd mix (by kernel_rfl) (N' := 320) rfl ?_
    refine pA ?_
    refine pu rfl (aD Z1 Z3 Z2) ?_
    refine pA ?_
    obtain ⟨_, h40, hm⟩ := bnd hm
    refine pu rfl (dS Z1 (aA.av_nn (dT h40))) ?_
    iterate 2 refine pA ?_
    obtain ⟨r42, h41, hm⟩ := bnd hm
    refine aE.callQ (r := aA.av r42) Zd Z1 uW (fun H => (cD (aA.data _) (cD (.agg _ (cJ.dat _)) (cD (aA.data _) .nil)))) (dZ h41) ?_
    refine pA ?_
    obtain ⟨_, h43, hm⟩ := bnd hm
    refine pu rfl (dS Z1 (aA.av_nn (dT h43))) ?_
    iterate 3 refine pA ?_
    obtain ⟨_, h44, hm⟩ := bnd hm
    refine pu rfl (dS Z1 (aA.av_nn (dT h44))) ?_
    iterate 2 refine pA ?_
    obtain ⟨r46, h45, hm⟩ := bnd hm
    refine aE.callQ (r := aA.av r46) Zd Z1 uW (fun H => (cD (aA.data _) (cD (.agg _ (cJ.dat _)) (cD (aA.data _) .nil)))) (dZ h45) ?_
    refine pA ?_
    refine fs ?_
    refine AWp.ret ?_
    refine bB ?_
    refine dB ?_
    refine bB ?_
    cases hm
    exact bM (.inr rfl) Tryz.results174 (td Z1 (aA.data _))
   ·
    refine AWp.skip ?_
    refine aF ?_
    refine sr (N' := 320) rfl ?_
    refine pA ?_
    obtain ⟨_, h47, hm⟩ := bnd hm
    refine pu rfl (dS Z1 (aA.av_nn (dT h47))) ?_
    iterate 3 refine pA ?_
    refine fs ?_
    refine sd mix (by kernel_rfl) (N' := 384) rfl ?_
    refine pA ?_
    refine pu rfl (aD Z1 Z3 Z2) ?_
    refine pA ?_
    obtain ⟨_, h48, hm⟩ := bnd hm
    refine pu rfl (dS Z1 (aA.av_nn (dT h48))) ?_
    iterate 2 refine pA ?_
    obtain ⟨r50, h49, hm⟩ := bnd hm
    refine aE.callQ (r := aA.av r50) Zd Z1 uW (fun H => (cD (aA.data _) (cD (.agg _ (cJ.dat _)) (cD (aA.data _) .nil)))) (dZ h49) ?_
    refine pA ?_
    obtain ⟨_, h51, hm⟩ := bnd hm
    refine pu rfl (dS Z1 (aA.av_nn (dT h51))) ?_
    iterate 3 refine pA ?_
    obtain ⟨_, h52, hm⟩ := bnd hm
    refine pu rfl (dS Z1 (aA.av_nn (dT h52))) ?_
    iterate 3 refine pA ?_
    obtain ⟨_, h53, hm⟩ := bnd hm
    refine pu rfl (dS Z1 (aA.av_nn (dT h53))) ?_
    iterate 3 refine pA ?_
    obtain ⟨_, h54, hm⟩ := bnd hm
    refine pu rfl (dS Z1 (aA.av_nn (dT h54))) ?_
    iterate 2 refine pA ?_
    obtain ⟨r56, h55, hm⟩ := bnd hm
    refine aE.callQ (r := aA.av r56) Zd Z1 uW (fun H => (cD (aA.data _) (cD (.agg _ (cJ.dat _)) (cD (aA.data _) .nil)))) (dZ h55) ?_
    obtain ⟨r58, h57, hm⟩ := bnd hm
    refine aE.callQ (r := aA.av r58) Zd Z1 uW (fun H => (cD (aA.data _) (cD (.agg _ (cJ.dat _)) (cD (aA.data _) .nil)))) (dZ h57) ?_
    refine pA ?_
    refine fs ?_
    refine AWp.ret ?_
    refine dB ?_
    refine bB ?_
    cases hm
    exact bM (.inr rfl) Tryz.results174 (td Z1 (aA.data _))
  ·
   refine AWp.skip ?_
   refine cA ?_
   refine aF ?_
   refine sr (N' := 256) rfl ?_
   refine pA ?_
   refine pu rfl (aD Z1 Z3 Z2) ?_
   refine pA ?_
   obtain ⟨r60, h59, hm⟩ := bnd hm
   refine aE.callQ (r := aA.av r60) Zd Z1 uW (fun H => (cD (aA.data _) (cD (.agg _ (cJ.dat _)) (cD (aA.data _) .nil)))) (dZ h59) ?_
   refine pA ?_
   refine fs ?_
   refine AWp.ret ?_
   cases hm
   exact bM (.inr rfl) Tryz.results174 (td Z1 (aA.data _))
def jF (recf : aA → bR → aA → Option (aA)) (ahead_0 : aA) (thing_1 : bR) (behind_2 : aA) : Option (aA) :=
 ((cW ahead_0).bind fun r2 =>
 ((cW behind_2).bind fun r4 =>
 (bif (decide ((IntKind.i64.wrap (r4 + 1)) < r2)) then
  ((chk ahead_0.nn).bind fun _ =>
  ((chk ahead_0.nn).bind fun _ =>
  ((chk ahead_0.nn).bind fun _ =>
  ((recf ahead_0.behind thing_1 behind_2).bind fun r9 =>
  ((gR ahead_0.ahead ahead_0.thing r9).bind fun r11 =>
  some r11)))))
 else
  ((cW behind_2).bind fun r13 =>
  ((cW ahead_0).bind fun r15 =>
  (bif (decide ((IntKind.i64.wrap (r15 + 1)) < r13)) then
   ((chk behind_2.nn).bind fun _ =>
   ((recf ahead_0 thing_1 behind_2.ahead).bind fun r18 =>
   ((chk behind_2.nn).bind fun _ =>
   ((chk behind_2.nn).bind fun _ =>
   ((gR r18 behind_2.thing behind_2.behind).bind fun r22 =>
   some r22)))))
  else
   ((dE ahead_0 thing_1 behind_2).bind fun r24 =>
   some r24)))))))
def gT : Nat → aA → bR → aA → Option (aA)
 | 0 => fun _ _ _ => none
 | n + 1 => jF (gT n)
def jD (ahead_0 : aA) (thing_1 : bR) (behind_2 : aA) : Option (aA) := gT bY ahead_0 thing_1 behind_2
theorem aCl : ∀ (nn : Nat) {ahead_0 : aA} {thing_1 : bR} {behind_2 : aA} {r : aA} (hm : gT nn ahead_0 thing_1 behind_2 = some r), aT Tryz.prog 143 [aA.av ahead_0, .agg [.v (.int .u64 thing_1.Key), .v (.int .i64 thing_1.N)], aA.av behind_2] (aA.av r) := by
 intro nn
 induction nn with
 | zero =>
  intro ahead_0 thing_1 behind_2 r hm
  replace hm : none = some r := hm
  cases hm
 | succ nn ih =>
  intro ahead_0 thing_1 behind_2 r hm
  replace hm : jF (gT nn) ahead_0 thing_1 behind_2 = some r := hm
  refine aT.of_body Tryz.func143 rfl ?_
  simp only [Tryz.ntmps143, List.length_cons, List.length_nil, Nat.reduceAdd, Nat.reduceSub, aQ]
  unfold jF at hm
  refine sr (N' := 64) rfl ?_
  refine hp (id := 0) rfl rfl (bO Z1 Z5) ?_
  refine pA ?_
  refine fs ?_
  refine AWp.seq' ?_
  refine AWp.block ?_
  refine sr (N' := 128) rfl ?_
  refine pA ?_
  obtain ⟨r2, h1, hm⟩ := bnd hm
  refine aE.callQ (r := .v (.int .i64 r2)) Zd Z1 tC (fun H => (cD (aA.data _) .nil)) (dH h1) ?_
  refine pA ?_
  obtain ⟨r4, h3, hm⟩ := bnd hm
  refine aE.callQ (r := .v (.int .i64 r4)) Zd Z1 tC (fun H => (cD (aA.data _) .nil)) (dH h3) ?_
  iterate 3 refine pA ?_
  refine fs ?_
  refine AWp.condM hm Z1 (fun _ hm => ?_) (fun _ hm => ?_)
  ·
   refine sd mix (by kernel_rfl) (N' := 192) rfl ?_
   refine pA ?_
   obtain ⟨_, h5, hm⟩ := bnd hm
   refine pu rfl (dS Z1 (aA.av_nn (dT h5))) ?_
   iterate 3 refine pA ?_
   obtain ⟨_, h6, hm⟩ := bnd hm
   refine pu rfl (dS Z1 (aA.av_nn (dT h6))) ?_
   iterate 3 refine pA ?_
   obtain ⟨_, h7, hm⟩ := bnd hm
   refine pu rfl (dS Z1 (aA.av_nn (dT h7))) ?_
   iterate 2 refine pA ?_
   refine pu rfl (aD Z1 Z3 Z2) ?_
   refine pA ?_
   obtain ⟨r9, h8, hm⟩ := bnd hm
   refine aE.callQ (r := aA.av r9) Zd Z1 aLd (fun H => (cD (aA.data _) (cD (.agg _ (cJ.dat _)) (cD (aA.data _) .nil)))) (ih h8) ?_
   obtain ⟨r11, h10, hm⟩ := bnd hm
   refine aE.callQ (r := aA.av r11) Zd Z1 aYt (fun H => (cD (aA.data _) (cD (.agg _ (cJ.dat _)) (cD (aA.data _) .nil)))) (wP h10) ?_
   refine pA ?_
   refine fs ?_
   refine AWp.ret ?_
   refine dB ?_
   refine bB ?_
   cases hm
   exact bM (.inr rfl) Tryz.results143 (td Z1 (aA.data _))
  ·
   refine sr (N' := 192) rfl ?_
   refine pA ?_
   obtain ⟨r13, h12, hm⟩ := bnd hm
   refine aE.callQ (r := .v (.int .i64 r13)) Zd Z1 tC (fun H => (cD (aA.data _) .nil)) (dH h12) ?_
   refine pA ?_
   obtain ⟨r15, h14, hm⟩ := bnd hm
   refine aE.callQ (r := .v (.int .i64 r15)) Zd Z1 tC (fun H => (cD (aA.data _) .nil)) (dH h14) ?_
   iterate 3 refine pA ?_
   refine fs ?_
   refine AWp.condM hm Z1 (fun _ hm => ?_) (fun _ hm => ?_)
   ·
    refine sd mix (by kernel_rfl) (N' := 256) rfl ?_
    refine pA ?_
    refine pu rfl (aD Z1 Z3 Z2) ?_
    refine pA ?_
    obtain ⟨_, h16, hm⟩ := bnd hm
    refine pu rfl (dS Z1 (aA.av_nn (dT h16))) ?_
    iterate 2 refine pA ?_
    obtain ⟨r18, h17, hm⟩ := bnd hm
    refine aE.callQ (r := aA.av r18) Zd Z1 aLd (fun H => (cD (aA.data _) (cD (.agg _ (cJ.dat _)) (cD (aA.data _) .nil)))) (ih h17) ?_
    refine pA ?_
    obtain ⟨_, h19, hm⟩ := bnd hm
    refine pu rfl (dS Z1 (aA.av_nn (dT h19))) ?_
    iterate 3 refine pA ?_
    obtain ⟨_, h20, hm⟩ := bnd hm
    refine pu rfl (dS Z1 (aA.av_nn (dT h20))) ?_
    iterate 2 refine pA ?_
    obtain ⟨r22, h21, hm⟩ := bnd hm
    refine aE.callQ (r := aA.av r22) Zd Z1 aYt (fun H => (cD (aA.data _) (cD (.agg _ (cJ.dat _)) (cD (aA.data _) .nil)))) (wP h21) ?_
    refine pA ?_
    refine fs ?_
    refine AWp.ret ?_
    refine dB ?_
    refine bB ?_
    cases hm
    exact bM (.inr rfl) Tryz.results143 (td Z1 (aA.data _))
   ·
    refine AWp.skip ?_
    refine cA ?_
    refine aF ?_
    refine sr (N' := 256) rfl ?_
    refine pA ?_
    refine pu rfl (aD Z1 Z3 Z2) ?_
    refine pA ?_
    obtain ⟨r24, h23, hm⟩ := bnd hm
    refine aE.callQ (r := aA.av r24) Zd Z1 uW (fun H => (cD (aA.data _) (cD (.agg _ (cJ.dat _)) (cD (aA.data _) .nil)))) (dZ h23) ?_
    refine pA ?_
    refine fs ?_
    refine AWp.ret ?_
    cases hm
    exact bM (.inr rfl) Tryz.results143 (td Z1 (aA.data _))
theorem pU {ahead_0 : aA} {thing_1 : bR} {behind_2 : aA} {r : aA} (hm : jD ahead_0 thing_1 behind_2 = some r) : aT Tryz.prog 143 [aA.av ahead_0, .agg [.v (.int .u64 thing_1.Key), .v (.int .i64 thing_1.N)], aA.av behind_2] (aA.av r) := aCl bY hm
def kK (recf : aA → Int → Option (aA × aA)) (s_0 : aA) (at_1 : Int) : Option (aA × aA) :=
 (bif (decide (at_1 ≤ 0)) then
  some (aA.nil, s_0)
 else
  ((fD s_0).bind fun r2 =>
  (bif (decide (r2 ≤ at_1)) then
   some (s_0, aA.nil)
  else
   ((chk s_0.nn).bind fun _ =>
   ((fD s_0.ahead).bind fun r5 =>
   (bif (decide (at_1 ≤ r5)) then
    ((chk s_0.nn).bind fun _ =>
    ((recf s_0.ahead at_1).bind fun ⟨r8, r9⟩ =>
    ((chk s_0.nn).bind fun _ =>
    ((chk s_0.nn).bind fun _ =>
    ((jD r9 s_0.thing s_0.behind).bind fun r13 =>
    some (r8, r13))))))
   else
    ((chk s_0.nn).bind fun _ =>
    ((recf s_0.behind (IntKind.i64.wrap ((IntKind.i64.wrap (at_1 - r5)) - 1))).bind fun ⟨r16, r17⟩ =>
    ((chk s_0.nn).bind fun _ =>
    ((chk s_0.nn).bind fun _ =>
    ((jD s_0.ahead s_0.thing r16).bind fun r21 =>
    some (r21, r17))))))))))))
def iF : Nat → aA → Int → Option (aA × aA)
 | 0 => fun _ _ => none
 | n + 1 => kK (iF n)
def kS (s_0 : aA) (at_1 : Int) : Option (aA × aA) := iF bY s_0 at_1
theorem aEi : ∀ (nn : Nat) {s_0 : aA} {at_1 : Int} {r : aA × aA} (hm : iF nn s_0 at_1 = some r), aT Tryz.prog 125 [aA.av s_0, .v (.int .i64 at_1)] (.tup [aA.av r.1, aA.av r.2]) := by
 intro nn
 induction nn with
 | zero =>
  intro s_0 at_1 r hm
  replace hm : none = some r := hm
  cases hm
 | succ nn ih =>
  intro s_0 at_1 r hm
  replace hm : kK (iF nn) s_0 at_1 = some r := hm
  refine aT.of_body Tryz.func125 rfl ?_
  simp only [Tryz.ntmps125, List.length_cons, List.length_nil, Nat.reduceAdd, Nat.reduceSub, aQ]
  unfold kK at hm
  refine sr (N' := 64) rfl ?_
  iterate 2 refine pA ?_
  refine fs ?_
  refine AWp.seq' ?_
  refine sr (N' := 128) rfl ?_
  iterate 2 refine pA ?_
  refine fs ?_
  refine AWp.condM hm Z1 (fun _ hm => ?_) (fun _ hm => ?_)
  ·
   refine sr (N' := 192) rfl ?_
   iterate 3 refine pA ?_
   refine fs ?_
   refine AWp.ret ?_
   refine bB ?_
   cases hm
   exact fE (.inr rfl) Tryz.results125 (td Z1 (aA.data _)) (td Z1 (aA.data _))
  ·
   refine AWp.skip ?_
   refine aF ?_
   refine AWp.seq' ?_
   refine sr (N' := 192) rfl ?_
   iterate 2 refine pA ?_
   obtain ⟨r2, h1, hm⟩ := bnd hm
   refine aE.callQ (r := .v (.int .i64 r2)) Zd Z1 aFs (fun H => (cD (aA.data _) .nil)) (iW h1) ?_
   refine pA ?_
   refine fs ?_
   refine AWp.condM hm Z1 (fun _ hm => ?_) (fun _ hm => ?_)
   ·
    refine sr (N' := 256) rfl ?_
    iterate 3 refine pA ?_
    refine fs ?_
    refine AWp.ret ?_
    refine bB ?_
    cases hm
    exact fE (.inr rfl) Tryz.results125 (td Z1 (aA.data _)) (td Z1 (aA.data _))
   ·
    refine AWp.skip ?_
    refine aF ?_
    refine sr (N' := 256) rfl ?_
    refine pA ?_
    obtain ⟨_, h3, hm⟩ := bnd hm
    refine pu rfl (dS Z1 (aA.av_nn (dT h3))) ?_
    iterate 2 refine pA ?_
    obtain ⟨r5, h4, hm⟩ := bnd hm
    refine aE.callQ (r := .v (.int .i64 r5)) Zd Z1 aFs (fun H => (cD (aA.data _) .nil)) (iW h4) ?_
    refine pA ?_
    refine fs ?_
    refine AWp.seq' ?_
    refine sr (N' := 320) rfl ?_
    iterate 3 refine pA ?_
    refine fs ?_
    refine AWp.condM hm Z1 (fun _ hm => ?_) (fun _ hm => ?_)
    ·
     refine sr (N' := 384) rfl ?_
     refine pA ?_
     obtain ⟨_, h6, hm⟩ := bnd hm
     refine pu rfl (dS Z1 (aA.av_nn (dT h6))) ?_
     iterate 3 refine pA ?_
     obtain ⟨⟨r8, r9⟩, h7, hm⟩ := bnd hm
     refine aE.callQ (r := .tup [aA.av r8, aA.av r9]) Zd Z1 aKs (fun H => (cD (aA.data _) (cV .nil))) (ih h7) ?_
     iterate 5 refine pA ?_
     refine fs ?_
     refine sd mix (by kernel_rfl) (N' := 448) rfl ?_
     iterate 3 refine pA ?_
     obtain ⟨_, h10, hm⟩ := bnd hm
     refine pu rfl (dS Z1 (aA.av_nn (dT h10))) ?_
     iterate 3 refine pA ?_
     obtain ⟨_, h11, hm⟩ := bnd hm
     refine pu rfl (dS Z1 (aA.av_nn (dT h11))) ?_
     iterate 2 refine pA ?_
     obtain ⟨r13, h12, hm⟩ := bnd hm
     refine aE.callQ (r := aA.av r13) Zd Z1 aLd (fun H => (cD (aA.data _) (cD (.agg _ (cJ.dat _)) (cD (aA.data _) .nil)))) (pU h12) ?_
     iterate 2 refine pA ?_
     refine fs ?_
     refine AWp.ret ?_
     refine bB ?_
     cases hm
     exact fE (.inr rfl) Tryz.results125 (td Z1 (aA.data _)) (td Z1 (aA.data _))
    ·
     refine AWp.skip ?_
     refine aF ?_
     refine sr (N' := 384) rfl ?_
     refine pA ?_
     obtain ⟨_, h14, hm⟩ := bnd hm
     refine pu rfl (dS Z1 (aA.av_nn (dT h14))) ?_
     iterate 6 refine pA ?_
     obtain ⟨⟨r16, r17⟩, h15, hm⟩ := bnd hm
     refine aE.callQ (r := .tup [aA.av r16, aA.av r17]) Zd Z1 aKs (fun H => (cD (aA.data _) (cV .nil))) (ih h15) ?_
     iterate 5 refine pA ?_
     refine fs ?_
     refine sd mix (by kernel_rfl) (N' := 448) rfl ?_
     refine pA ?_
     obtain ⟨_, h18, hm⟩ := bnd hm
     refine pu rfl (dS Z1 (aA.av_nn (dT h18))) ?_
     iterate 3 refine pA ?_
     obtain ⟨_, h19, hm⟩ := bnd hm
     refine pu rfl (dS Z1 (aA.av_nn (dT h19))) ?_
     iterate 3 refine pA ?_
     obtain ⟨r21, h20, hm⟩ := bnd hm
     refine aE.callQ (r := aA.av r21) Zd Z1 aLd (fun H => (cD (aA.data _) (cD (.agg _ (cJ.dat _)) (cD (aA.data _) .nil)))) (pU h20) ?_
     iterate 3 refine pA ?_
     refine fs ?_
     refine AWp.ret ?_
     cases hm
     exact fE (.inr rfl) Tryz.results125 (td Z1 (aA.data _)) (td Z1 (aA.data _))
theorem sL {s_0 : aA} {at_1 : Int} {r : aA × aA} (hm : kS s_0 at_1 = some r) : aT Tryz.prog 125 [aA.av s_0, .v (.int .i64 at_1)] (.tup [aA.av r.1, aA.av r.2]) := aEi bY hm
def kI (recf : (List bR) → Option (aA)) (l_0 : List bR) : Option (aA) :=
 (bif ((l_0.length : Int) == 0) then
  some aA.nil
 else
  ((slc l_0 0 (IntKind.i64.wrap (Int.tdiv (l_0.length : Int) 2))).bind fun l2 =>
  ((recf l2).bind fun r4 =>
  ((idx l_0 (IntKind.i64.wrap (Int.tdiv (l_0.length : Int) 2))).bind fun x6 =>
  ((slc l_0 (IntKind.i64.wrap ((IntKind.i64.wrap (Int.tdiv (l_0.length : Int) 2)) + 1)) (l_0.length : Int)).bind fun l8 =>
  ((recf l8).bind fun r10 =>
  ((dE r4 x6 r10).bind fun r12 =>
  some r12)))))))
def mR : Nat → (List bR) → Option (aA)
 | 0 => fun _ => none
 | n + 1 => kI (mR n)
def tA (l_0 : List bR) : Option (aA) := mR bY l_0
theorem aI7 : ∀ (nn : Nat) {l_0 : List bR} {r : aA} (hm : mR nn l_0 = some r), aT Tryz.prog 127 [.sl (l_0.flatMap rZ) l_0.length false] (aA.av r) := by
 intro nn
 induction nn with
 | zero =>
  intro l_0 r hm
  replace hm : none = some r := hm
  cases hm
 | succ nn ih =>
  intro l_0 r hm
  replace hm : kI (mR nn) l_0 = some r := hm
  refine aT.of_body Tryz.func127 rfl ?_
  simp only [Tryz.ntmps127, List.length_cons, List.length_nil, Nat.reduceAdd, Nat.reduceSub, aQ]
  unfold kI at hm
  refine sr (N' := 64) rfl ?_
  refine pA ?_
  refine fs ?_
  refine AWp.seq' ?_
  refine sr (N' := 128) rfl ?_
  iterate 3 refine pA ?_
  refine fs ?_
  refine AWp.condM hm Z1 (fun _ hm => ?_) (fun _ hm => ?_)
  ·
   refine sr (N' := 192) rfl ?_
   refine pA ?_
   refine fs ?_
   refine AWp.ret ?_
   refine bB ?_
   cases hm
   exact bM (.inr rfl) Tryz.results127 (td Z1 (aA.data _))
  ·
   refine AWp.skip ?_
   refine aF ?_
   refine sr (N' := 192) rfl ?_
   iterate 4 refine pu rfl (by simp only [go_sem, Nat.reduceBEq, Int.reduceEq, Int.reduceLE]; try with_reducible rfl) ?_
   refine fs ?_
   refine sd mix (by kernel_rfl) (N' := 256) rfl ?_
   iterate 2 refine pA ?_
   obtain ⟨l2, h1, hm⟩ := bnd hm
   refine pu rfl (xD cJ Tryz.underlying204 xV Z1 rfl aG1 (qO Z1 (aC0 h1).2) h1) ?_
   obtain ⟨r4, h3, hm⟩ := bnd hm
   refine aE.callQ (r := aA.av r4) Zd Z1 aTr (fun H => (.cons (tdf Z1 (cJ.sl _ _ _)) .nil)) (ih h3) ?_
   iterate 2 refine pA ?_
   obtain ⟨x6, h5, hm⟩ := bnd hm
   refine pu rfl (cP cJ Zd Tryz.underlying204 xV Z1 rfl Z1 h5) ?_
   iterate 4 refine pA ?_
   obtain ⟨l8, h7, hm⟩ := bnd hm
   refine pu rfl (xD cJ Tryz.underlying204 xV Z1 rfl (qO Z1 (aC0 h7).1) (aEr _) h7) ?_
   obtain ⟨r10, h9, hm⟩ := bnd hm
   refine aE.callQ (r := aA.av r10) Zd Z1 aTr (fun H => (.cons (tdf Z1 (cJ.sl _ _ _)) .nil)) (ih h9) ?_
   obtain ⟨r12, h11, hm⟩ := bnd hm
   refine aE.callQ (r := aA.av r12) Zd Z1 uW (fun H => (cD (aA.data _) (cD (.agg _ (cJ.dat _)) (cD (aA.data _) .nil)))) (dZ h11) ?_
   refine pA ?_
   refine fs ?_
   refine AWp.ret ?_
   cases hm
   exact bM (.inr rfl) Tryz.results127 (td Z1 (aA.data _))
theorem aLa {l_0 : List bR} {r : aA} (hm : tA l_0 = some r) : aT Tryz.prog 127 [.sl (l_0.flatMap rZ) l_0.length false] (aA.av r) := aI7 bY hm
def jL (a_0 : aA) (b_1 : aA) : Option (aA) :=
 ((iM b_1 0).bind fun ⟨r2, r3⟩ =>
 (bif (!r3) then
  some a_0
 else
  ((kS b_1 1).bind fun ⟨r5, r6⟩ =>
  ((jD a_0 r2 r6).bind fun r8 =>
  some r8))))
theorem zM {a_0 : aA} {b_1 : aA} {r : aA} (hm : jL a_0 b_1 = some r) : aT Tryz.prog 126 [aA.av a_0, aA.av b_1] (aA.av r) := by
 refine aT.of_body Tryz.func126 rfl ?_
 simp only [Tryz.ntmps126, List.length_cons, List.length_nil, Nat.reduceAdd, Nat.reduceSub, aQ]
 unfold jL at hm
 refine sr (N' := 64) rfl ?_
 refine pA ?_
 refine fs ?_
 refine sr (N' := 128) rfl ?_
 refine pA ?_
 obtain ⟨⟨r2, r3⟩, h1, hm⟩ := bnd hm
 refine aE.callQ (r := .tup [.agg [.v (.int .u64 r2.Key), .v (.int .i64 r2.N)], .v (.bool r3)]) Zd Z1 aWq (fun H => (cD (aA.data _) (cV .nil))) (sR h1) ?_
 iterate 3 refine pA ?_
 refine hp (id := 69) rfl rfl (aY aF8 Z5) ?_
 refine aE.heap0 (id := 70) rfl (bG (ys := [.v (.int .u64 r2.Key), .v (.int .i64 r2.N)]) xV Z1 Z1 Z3 rfl (Nat.le_of_ble_eq_true rfl) Z9 rfl) ?_
 refine pA ?_
 refine fs ?_
 refine AWp.seq' ?_
 refine sr (N' := 192) rfl ?_
 iterate 2 refine pA ?_
 refine fs ?_
 refine AWp.condM hm Z1 (fun _ hm => ?_) (fun _ hm => ?_)
 ·
  refine sr (N' := 256) rfl ?_
  iterate 2 refine pA ?_
  refine fs ?_
  refine AWp.ret ?_
  refine bB ?_
  cases hm
  exact bM (.inr rfl) Tryz.results126 (td Z1 (aA.data _))
 ·
  refine AWp.skip ?_
  refine aF ?_
  refine sr (N' := 256) rfl ?_
  refine pA ?_
  obtain ⟨⟨r5, r6⟩, h4, hm⟩ := bnd hm
  refine aE.callQ (r := .tup [aA.av r5, aA.av r6]) Zd Z1 aKs (fun H => (cD (aA.data _) (cV .nil))) (sL h4) ?_
  iterate 5 refine pA ?_
  refine fs ?_
  refine sr (N' := 320) rfl ?_
  refine pA ?_
  refine pu rfl (aD Z1 Z3 Z2) ?_
  refine pA ?_
  obtain ⟨r8, h7, hm⟩ := bnd hm
  refine aE.callQ (r := aA.av r8) Zd Z1 aLd (fun H => (cD (aA.data _) (cD (.agg _ (cJ.dat _)) (cD (aA.data _) .nil)))) (pU h7) ?_
  refine pA ?_
  refine fs ?_
  refine AWp.ret ?_
  cases hm
  exact bM (.inr rfl) Tryz.results126 (td Z1 (aA.data _))
def sJ (key_1 : Int) (n_2 : Int) (t6 : bN) (less_7 : aA) (others_8 : aA) : Option (bN) :=
 ((tA [(bR.mk key_1 n_2)]).bind fun r7 =>
 ((jL r7 others_8).bind fun r9 =>
 ((jL less_7 r9).bind fun r11 =>
 some (bN.mk r11))))
def uQ (d_0 : bN) (key_1 : Int) (n_2 : Int) : Option (bN) :=
 ((nZ d_0 key_1).bind fun r2 =>
 ((kS d_0.s r2).bind fun ⟨r4, r5⟩ =>
 ((iM r5 0).bind fun ⟨r13, r14⟩ =>
 (bif (r14 && (r13.Key == key_1)) then
  ((kS r5 1).bind fun ⟨r16, r17⟩ =>
  sJ key_1 n_2 (bN.mk aA.nil) r4 r17)
 else
  sJ key_1 n_2 (bN.mk aA.nil) r4 r5))))
theorem aQj {d_0 : bN} {key_1 : Int} {n_2 : Int} {r : bN} (hm : uQ d_0 key_1 n_2 = some r) : aT Tryz.prog 96 [.agg [aA.av d_0.s], .v (.int .u64 key_1), .v (.int .i64 n_2)] (.agg [aA.av r.s]) := by
 refine aT.of_body Tryz.func96 rfl ?_
 simp only [Tryz.ntmps96, List.length_cons, List.length_nil, Nat.reduceAdd, Nat.reduceSub, aQ]
 unfold uQ at hm
 refine sr (N' := 64) rfl ?_
 refine hp (id := 0) rfl rfl (bO Z1 Z5) ?_
 refine hp (id := 1) rfl rfl (aY aDk Z5) ?_
 refine fs ?_
 refine sd mix (by kernel_rfl) (N' := 128) rfl ?_
 refine pA ?_
 refine pu rfl (aD Z1 Z3 Z4) ?_
 refine pu rfl (aD Z1 Z3 Z2) ?_
 refine pA ?_
 obtain ⟨r2, h1, hm⟩ := bnd hm
 refine aE.callQ (r := .v (.int .i64 r2)) Zd Z1 bGk (fun H => (cD (.agg _ (cX.dat _)) (cV .nil))) (aF0 h1) ?_
 obtain ⟨⟨r4, r5⟩, h3, hm⟩ := bnd hm
 refine aE.callQ (r := .tup [aA.av r4, aA.av r5]) Zd Z1 aKs (fun H => (cD (aA.data _) (cV .nil))) (sL h3) ?_
 iterate 5 refine pA ?_
 refine fs ?_
 refine AWp.seqJ (fun s => ∃ (key_1 : Int) (n_2 : Int) (t6 : bN) (less_7 : aA) (others_8 : aA), s = (⟨47, (aK (aK (aK (aK (aK (fun _ => AV.any) 1 (.v (.int .u64 key_1))) 2 (.v (.int .i64 n_2))) 6 (.adr 1 0)) 7 (aA.av less_7)) 8 (aA.av others_8)), ⟨(upd bL 1 (.cells 1 [aA.av t6.s] 0)), 64⟩⟩ : St) ∧ sJ key_1 n_2 t6 less_7 others_8 = some r) ?_ ?_
 ·
  refine sr (N' := 192) rfl ?_
  refine pA ?_
  obtain ⟨⟨r13, r14⟩, h12, hm⟩ := bnd hm
  refine aE.callQ (r := .tup [.agg [.v (.int .u64 r13.Key), .v (.int .i64 r13.N)], .v (.bool r14)]) Zd Z1 aWq (fun H => (cD (aA.data _) (cV .nil))) (sR h12) ?_
  iterate 3 refine pA ?_
  refine hp (id := 133) rfl rfl (aY aF8 Z5) ?_
  refine aE.heap0 (id := 134) rfl (bG (ys := [.v (.int .u64 r13.Key), .v (.int .i64 r13.N)]) xV Z1 Z1 Z3 rfl (Nat.le_of_ble_eq_true rfl) Z9 rfl) ?_
  refine pA ?_
  refine fs ?_
  refine sr (N' := 256) rfl ?_
  iterate 3 first | refine pA ?_ | refine pB ?_
  refine pg rfl rfl Z2 (fun hb => (aD (Zh hb) Z3 Z4)) ?_
  iterate 3 first | refine pA ?_ | refine pB ?_
  refine fs ?_
  refine AWp.condM hm Z1 (fun _ hm => ?_) (fun _ hm => ?_)
  ·
   refine AWp.reg 64 (N' := 320) rfl ?_
   refine pA ?_
   obtain ⟨⟨r16, r17⟩, h15, hm⟩ := bnd hm
   refine aE.callQ (r := .tup [aA.av r16, aA.av r17]) Zd Z1 aKs (fun H => (cD (aA.data _) (cV .nil))) (sL h15) ?_
   iterate 4 refine pA ?_
   refine aE.fin ?_
   refine dY ?_
   refine ⟨_, ?_, key_1, n_2, (bN.mk aA.nil), r4, r17, rfl, hm⟩
   exact aN (fun j => bif j == 1 then 1 else 0) (wD (aA.data r17) (wD (aA.data r4) (aX _ _ (bQ Z1 rfl Z7) (wV (wV aU))))) (hW (aV (aO Z3 (Nat.le_refl _) (Nat.zero_le _) (cX.dat (bN.mk aA.nil))) aR))
  ·
   refine AWp.skip ?_
   refine dY ?_
   refine ⟨_, ?_, key_1, n_2, (bN.mk aA.nil), r4, r5, rfl, hm⟩
   exact aN (fun j => bif j == 1 then 1 else 0) (wD (aA.data r5) (wD (aA.data r4) (aX _ _ (bQ Z1 rfl Z7) (wV (wV aU))))) (hW (aV (aO Z3 (Nat.le_refl _) (Nat.zero_le _) (cX.dat (bN.mk aA.nil))) aR))
 ·
  rintro s ⟨key_1, n_2, t6, less_7, others_8, rfl, hm⟩
  unfold sJ at hm
  refine sr (N' := 128) rfl ?_
  iterate 3 refine pA ?_
  refine pu rfl (by simp only [go_sem, Nat.reduceBEq]; exact (by kernel_rfl : dJ Tryz.prog 158 [(0, .v (.int .u64 key_1)), (1, .v (.int .i64 n_2))] = some (.agg [.v (.int .u64 key_1), .v (.int .i64 n_2)]))) ?_
  refine hp (id := 68) rfl rfl (eE cJ (l := [(bR.mk key_1 n_2)]) Tryz.underlying204 xV aF8 Z5 Zd Zd Zd (by simp only [go_sem, Nat.reduceBEq]; try rfl) (by kernel_rfl)) ?_
  obtain ⟨r7, h6, hm⟩ := bnd hm
  refine aE.callL1 (r := aA.av r7) (id := 68) Zd Z1 aTr Z3 (.cons (tdl cJ Z1 Z3 (by simp) Z6) .nil) (aLa h6) ?_
  refine pA ?_
  obtain ⟨r9, h8, hm⟩ := bnd hm
  refine aE.callQ (r := aA.av r9) Zd Z1 aYp (fun H => (cD (aA.data _) (cD (aA.data _) .nil))) (zM h8) ?_
  obtain ⟨r11, h10, hm⟩ := bnd hm
  refine aE.callQ (r := aA.av r11) Zd Z1 aYp (fun H => (cD (aA.data _) (cD (aA.data _) .nil))) (zM h10) ?_
  refine pu rfl (by simp only [go_sem, Nat.reduceBEq]; exact aTj (aA.cells _)) ?_
  refine aE.heap0 (id := 74) rfl (bG (ys := [aA.av r11]) yH Z1 Z1 Z3 rfl (Nat.le_of_ble_eq_true rfl) (by simp only [List.all_cons, List.all_nil, Bool.and_true, aA.one]; try rfl) rfl) ?_
  refine fs ?_
  refine AWp.ret ?_
  cases hm
  exact fK (.inr rfl) (by rw [Tryz.results96]) (.cell (cG Z1 Z3 Z2) .nil) rfl (td rfl (.agg _ (cX.dat (bN.mk r11))))
def lP (rec1 : bN → bN → List bC → Int → Int → Option (bN × Bool)) (t2 : bN) (vertices_4 : bN) (t14 : List bC) (t15 : Int) (t16 : Int) : Option (bN × Bool) :=
 rec1 t2 vertices_4 t14 t15 (IntKind.i64.wrap (t16 + 1))
def lR (rec1 : bN → bN → List bC → Int → Int → Option (bN × Bool)) (t2 : bN) (vertices_4 : bN) (t14 : List bC) (t15 : Int) (t16 : Int) : Option (bN × Bool) :=
 (bif (decide (t16 < t15)) then
  ((idx t14 t16).bind fun x4 =>
  (bif (!x4.Used) then
   (bif (x4.Key != 0) then
    some ((bN.mk aA.nil), false)
   else
    lP rec1 t2 vertices_4 t14 t15 t16)
  else
   ((mM vertices_4 x4.Key).bind fun ⟨r6, r7⟩ =>
   (bif r7 then
    some ((bN.mk aA.nil), false)
   else
    ((uQ vertices_4 x4.Key t16).bind fun r9 =>
    lP rec1 t2 r9 t14 t15 t16)))))
 else
  some (vertices_4, true))
def hD : Nat → bN → bN → List bC → Int → Int → Option (bN × Bool)
 | 0 => fun _ _ _ _ _ => none
 | n + 1 => lR (hD n)
def gV (l_0 : List bC) : Option (bN × Bool) :=
 ((iT (l_0.length : Int)).bind fun r2 =>
 (bif (!r2) then
  some ((bN.mk aA.nil), false)
 else
  hD bY (bN.mk aA.nil) (bN.mk aA.nil) l_0 (l_0.length : Int) 0))
theorem qG {l_0 : List bC} {r : bN × Bool} (hm : gV l_0 = some r) : aT Tryz.prog 71 [.sl (l_0.flatMap aS) l_0.length false] (.tup [.agg [aA.av r.1.s], .v (.bool r.2)]) := by
 refine aT.of_body Tryz.func71 rfl ?_
 simp only [Tryz.ntmps71, List.length_cons, List.length_nil, Nat.reduceAdd, Nat.reduceSub, aQ]
 unfold gV at hm
 refine sr (N' := 64) rfl ?_
 refine hp (id := 0) rfl rfl (aY aDk Z5) ?_
 refine pA ?_
 refine fs ?_
 refine sr (N' := 128) rfl ?_
 refine hp (id := 64) rfl rfl (aY aDk Z5) ?_
 refine fs ?_
 refine AWp.seq' ?_
 refine sr (N' := 192) rfl ?_
 iterate 2 refine pA ?_
 obtain ⟨r2, h1, hm⟩ := bnd hm
 refine aE.callQ (r := .v (.bool r2)) Zd Z1 bDc (fun H => (cV .nil)) (aB4 h1) ?_
 refine pA ?_
 refine fs ?_
 refine AWp.condM hm Z1 (fun _ hm => ?_) (fun _ hm => ?_)
 ·
  refine sr (N' := 256) rfl ?_
  refine pu rfl (aD Z1 Z3 Z2) ?_
  refine aE.heap0 (id := 193) rfl (bG (ys := [aA.av aA.nil]) yH Z1 Z1 Z3 rfl (Nat.le_of_ble_eq_true rfl) (by simp only [List.all_cons, List.all_nil, Bool.and_true, aA.one]; try rfl) rfl) ?_
  refine pA ?_
  refine fs ?_
  refine AWp.ret ?_
  refine bB ?_
  cases hm
  exact fK (.inr rfl) (by rw [Tryz.results71]) (.cell (cG Z1 Z3 Z2) (.tmp Z1 .nil)) rfl (tdt (.cons (td rfl (.agg _ (cX.dat (bN.mk aA.nil)))) (.cons (td rfl (.v _)) .nil)))
 ·
  refine AWp.skip ?_
  refine aF ?_
  refine AWp.seq' ?_
  refine sr (N' := 256) rfl ?_
  iterate 3 refine pA ?_
  refine fs ?_
  refine AWp.block ?_
  refine AWp.loopM (fun m s => ∃ (t2 : bN) (vertices_4 : bN) (t14 : List bC) (t15 : Int) (t16 : Int), s = (⟨44, (aK (aK (aK (aK (aK (fun _ => AV.any) 2 (.adr 1 0)) 4 (.adr 2 0)) 14 (.sl (t14.flatMap aS) t14.length false)) 15 (.v (.int .i64 t15))) 16 (.v (.int .i64 t16))), ⟨(upd (upd bL 1 (.cells 1 [aA.av t2.s] 0)) 2 (.cells 1 [aA.av vertices_4.s] 0)), 64⟩⟩ : St) ∧ hD m t2 vertices_4 t14 t15 t16 = some r) bY ?_ ?_ ?_
  ·
   rintro s ⟨_, _, _, _, _, _, h⟩
   cases h
  ·
   refine ⟨_, ?_, (bN.mk aA.nil), (bN.mk aA.nil), l_0, (l_0.length : Int), 0, rfl, hm⟩
   exact aN (fun j => bif j == 1 then 0 else bif j == 2 then 64 else 0) (wV (wV (wD (bF.sl _ _ _) (aX _ _ (bQ Z1 rfl Z7) (aX _ _ (bQ Z1 rfl Z7) aU))))) (cL _ (aV (aO Z3 (Nat.le_refl _) (Nat.zero_le _) (cX.dat (bN.mk aA.nil))) (aV (aO Z3 (Nat.le_refl _) (Nat.zero_le _) (cX.dat (bN.mk aA.nil))) aR)) Z8)
  ·
   rintro n1 s ⟨t2, vertices_4, t14, t15, t16, rfl, hm⟩
   replace hm : lR (hD n1) t2 vertices_4 t14 t15 t16 = some r := hm
   unfold lR at hm
   refine sr (N' := 128) rfl ?_
   refine pA ?_
   refine fs ?_
   refine AWp.seq' ?_
   refine AWp.condM hm Z1 (fun _ hm => ?_) (fun _ hm => ?_)
   ·
    refine AWp.skip ?_
    refine aF ?_
    refine AWp.seqJ (fun s => ∃ (t2 : bN) (vertices_4 : bN) (t14 : List bC) (t15 : Int) (t16 : Int), s = (⟨44, (aK (aK (aK (aK (aK (fun _ => AV.any) 2 (.adr 1 0)) 4 (.adr 2 0)) 14 (.sl (t14.flatMap aS) t14.length false)) 15 (.v (.int .i64 t15))) 16 (.v (.int .i64 t16))), ⟨(upd (upd bL 1 (.cells 1 [aA.av t2.s] 0)) 2 (.cells 1 [aA.av vertices_4.s] 0)), 64⟩⟩ : St) ∧ lP (hD n1) t2 vertices_4 t14 t15 t16 = some r) ?_ ?_
    ·
     refine AWp.block ?_
     refine sr (N' := 192) rfl ?_
     refine pA ?_
     obtain ⟨x4, h3, hm⟩ := bnd hm
     refine pu rfl (cP bF Zd Tryz.underlying31 mV Z1 rfl Z1 h3) ?_
     refine pA ?_
     refine hp (id := 131) rfl rfl (aY aKi Z5) ?_
     refine pA ?_
     refine aE.heap0 (id := 133) rfl (bG (ys := [.v (.bool x4.Used), .v (.int .u64 x4.Key)]) mV Z1 Z1 Z3 rfl (Nat.le_of_ble_eq_true rfl) Z9 rfl) ?_
     refine fs ?_
     refine AWp.seq' ?_
     refine sr (N' := 256) rfl ?_
     refine pA ?_
     refine pu rfl (aD Z1 Z3 Z4) ?_
     refine pA ?_
     refine fs ?_
     refine AWp.condM hm Z1 (fun _ hm => ?_) (fun _ hm => ?_)
     ·
      refine AWp.seq' ?_
      refine sr (N' := 320) rfl ?_
      refine pA ?_
      refine pu rfl (aD Z1 Z3 Z4) ?_
      refine pA ?_
      refine fs ?_
      refine AWp.condM hm Z1 (fun _ hm => ?_) (fun _ hm => ?_)
      ·
       refine sr (N' := 384) rfl ?_
       refine pu rfl (by simp only [go_sem, Nat.reduceBEq]; exact (by kernel_rfl : dJ Tryz.prog 130 [] = some (.agg [aA.av aA.nil]))) ?_
       refine aE.heap0 (id := 321) rfl (bG (ys := [aA.av aA.nil]) yH Z1 Z1 Z3 rfl (Nat.le_of_ble_eq_true rfl) (by simp only [List.all_cons, List.all_nil, Bool.and_true, aA.one]; try rfl) rfl) ?_
       refine pA ?_
       refine fs ?_
       refine AWp.ret ?_
       refine bB ?_
       refine bB ?_
       refine dB ?_
       refine aT9 ?_
       refine eD ?_
       refine dB ?_
       refine bB ?_
       cases hm
       exact fK (.inr rfl) (by rw [Tryz.results71]) (.cell (cG Z1 Z3 Z2) (.tmp Z1 .nil)) rfl (tdt (.cons (td rfl (.agg _ (cX.dat (bN.mk aA.nil)))) (.cons (td rfl (.v _)) .nil)))
      ·
       refine AWp.skip ?_
       refine aF ?_
       refine AWp.exit ?_
       refine cH ?_
       refine bT ?_
       refine dY ?_
       refine ⟨_, ?_, t2, vertices_4, t14, t15, t16, rfl, hm⟩
       exact aN (fun j => bif j == 1 then 1 else bif j == 2 then 2 else 0) (wV (wV (wD (bF.sl _ _ _) (aX _ _ (bQ Z1 rfl Z7) (aX _ _ (bQ Z1 rfl Z7) aU))))) (hW (aV (aO Z3 (Nat.le_refl _) (Nat.zero_le _) (cX.dat vertices_4)) (aV (aO Z3 (Nat.le_refl _) (Nat.zero_le _) (cX.dat t2)) aR)))
     ·
      refine AWp.skip ?_
      refine aF ?_
      refine AWp.seq' ?_
      refine sr (N' := 320) rfl ?_
      refine pu rfl (aD Z1 Z3 Z2) ?_
      refine pA ?_
      refine pu rfl (aD Z1 Z3 Z4) ?_
      obtain ⟨⟨r6, r7⟩, h5, hm⟩ := bnd hm
      refine aE.callQ (r := .tup [.v (.int .i64 r6), .v (.bool r7)]) Zd Z1 aWr (fun H => (cD (.agg _ (cX.dat _)) (cV .nil))) (yT h5) ?_
      iterate 5 refine pA ?_
      refine fs ?_
      refine sr (N' := 384) rfl ?_
      refine pA ?_
      refine fs ?_
      refine AWp.condM hm Z1 (fun _ hm => ?_) (fun _ hm => ?_)
      ·
       refine sr (N' := 448) rfl ?_
       refine pu rfl (by simp only [go_sem, Nat.reduceBEq]; exact (by kernel_rfl : dJ Tryz.prog 130 [] = some (.agg [aA.av aA.nil]))) ?_
       refine aE.heap0 (id := 385) rfl (bG (ys := [aA.av aA.nil]) yH Z1 Z1 Z3 rfl (Nat.le_of_ble_eq_true rfl) (by simp only [List.all_cons, List.all_nil, Bool.and_true, aA.one]; try rfl) rfl) ?_
       refine pA ?_
       refine fs ?_
       refine AWp.ret ?_
       refine bB ?_
       refine dB ?_
       refine aT9 ?_
       refine eD ?_
       refine dB ?_
       refine bB ?_
       cases hm
       exact fK (.inr rfl) (by rw [Tryz.results71]) (.cell (cG Z1 Z3 Z2) (.tmp Z1 .nil)) rfl (tdt (.cons (td rfl (.agg _ (cX.dat (bN.mk aA.nil)))) (.cons (td rfl (.v _)) .nil)))
      ·
       refine AWp.skip ?_
       refine aF ?_
       refine AWp.reg 64 (N' := 448) rfl ?_
       refine pu rfl (aD Z1 Z3 Z2) ?_
       refine pA ?_
       refine pu rfl (aD Z1 Z3 Z4) ?_
       refine pA ?_
       obtain ⟨r9, h8, hm⟩ := bnd hm
       refine aE.callQ (r := .agg [aA.av r9.s]) Zd Z1 bJw (fun H => (cD (.agg _ (cX.dat _)) (cV (cV .nil)))) (aQj h8) ?_
       refine aE.heap0 (id := 389) rfl (bG (ys := [aA.av r9.s]) yH Z1 Z1 Z3 rfl (Nat.le_of_ble_eq_true rfl) (by simp only [List.all_cons, List.all_nil, Bool.and_true, aA.one]; try rfl) rfl) ?_
       refine aE.fin ?_
       refine cA ?_
       refine dY ?_
       refine ⟨_, ?_, t2, r9, t14, t15, t16, rfl, hm⟩
       exact aN (fun j => bif j == 1 then 1 else bif j == 2 then 2 else 0) (wV (wV (wD (bF.sl _ _ _) (aX _ _ (bQ Z1 rfl Z7) (aX _ _ (bQ Z1 rfl Z7) aU))))) (hW (aV (aO Z3 (Nat.le_refl _) (Nat.zero_le _) (cX.dat r9)) (aV (aO Z3 (Nat.le_refl _) (Nat.zero_le _) (cX.dat t2)) aR)))
    ·
     rintro s ⟨t2, vertices_4, t14, t15, t16, rfl, hm⟩
     unfold lP at hm
     refine AWp.reg 64 (N' := 128) rfl ?_
     iterate 2 refine pA ?_
     refine aE.fin ?_
     refine bU ?_
     refine ⟨_, ?_, t2, vertices_4, t14, t15, (IntKind.i64.wrap (t16 + 1)), rfl, hm⟩
     exact aN (fun j => bif j == 1 then 1 else bif j == 2 then 2 else 0) (wV (wV (wD (bF.sl _ _ _) (aX _ _ (bQ Z1 rfl Z7) (aX _ _ (bQ Z1 rfl Z7) aU))))) (hW (aV (aO Z3 (Nat.le_refl _) (Nat.zero_le _) (cX.dat vertices_4)) (aV (aO Z3 (Nat.le_refl _) (Nat.zero_le _) (cX.dat t2)) aR)))
   ·
    refine AWp.exit ?_
    refine cH ?_
    refine bW ?_
    refine bT ?_
    refine aF ?_
    refine sr (N' := 192) rfl ?_
    refine pu rfl (aD Z1 Z3 Z2) ?_
    refine aE.heap0 (id := 129) rfl (bG (ys := [aA.av vertices_4.s]) yH Z1 Z1 Z3 rfl (Nat.le_of_ble_eq_true rfl) (by simp only [List.all_cons, List.all_nil, Bool.and_true, aA.one]; try rfl) rfl) ?_
    refine pA ?_
    refine fs ?_
    refine AWp.ret ?_
    cases hm
    exact fK (.inr rfl) (by rw [Tryz.results71]) (.cell (cG Z1 Z3 Z2) (.tmp Z1 .nil)) rfl (tdt (.cons (td rfl (.agg _ (cX.dat _))) (.cons (td rfl (.v _)) .nil)))
def nW (l_0 : List bC) : Option (Bool) :=
 ((gV l_0).bind fun ⟨r2, r3⟩ =>
 some r3)
theorem aJi {l_0 : List bC} {r : Bool} (hm : nW l_0 = some r) : aT Tryz.prog 50 [.sl (l_0.flatMap aS) l_0.length false] (.v (.bool r)) := by
 refine aT.of_body Tryz.func50 rfl ?_
 simp only [Tryz.ntmps50, List.length_cons, List.length_nil, Nat.reduceAdd, Nat.reduceSub, aQ]
 unfold nW at hm
 refine sr (N' := 64) rfl ?_
 refine pA ?_
 refine fs ?_
 refine sr (N' := 128) rfl ?_
 refine pA ?_
 obtain ⟨⟨r2, r3⟩, h1, hm⟩ := bnd hm
 refine aE.callQ (r := .tup [.agg [aA.av r2.s], .v (.bool r3)]) Zd Z1 aX0 (fun H => (cD (bF.sl _ _ _) .nil)) (qG h1) ?_
 iterate 3 refine pA ?_
 refine hp (id := 69) rfl rfl (aY aDk Z5) ?_
 refine aE.heap0 (id := 70) rfl (bG (ys := [aA.av r2.s]) yH Z1 Z1 Z3 rfl (Nat.le_of_ble_eq_true rfl) (by simp only [List.all_cons, List.all_nil, Bool.and_true, aA.one]; try rfl) rfl) ?_
 refine pA ?_
 refine fs ?_
 refine sr (N' := 192) rfl ?_
 iterate 2 refine pA ?_
 refine fs ?_
 refine AWp.ret ?_
 cases hm
 exact bM (.inr rfl) Tryz.results50 (td Z1 (.v _))
def nV (rec1 : aI → List aC → Int → Int → Option (Bool)) (s_1 : aI) (t27 : List aC) (t28 : Int) (t29 : Int) : Option (Bool) :=
 (bif (decide (t29 < t28)) then
  ((idx t27 t29).bind fun x6 =>
  ((idx s_1.Slots x6.U).bind fun x8 =>
  ((fA ((!x8.Used) == false) (bC.mk false 0) (idx s_1.Slots x6.V)).bind fun x10 =>
  (bif ((!x8.Used) || (!x10.Used)) then
   some false
  else
   rec1 s_1 t27 t28 (IntKind.i64.wrap (t29 + 1))))))
 else
  some true)
def lC : Nat → aI → List aC → Int → Int → Option (Bool)
 | 0 => fun _ _ _ _ => none
 | n + 1 => nV (lC n)
def mJ (s_0 : aI) : Option (Bool) :=
 ((dU s_0.Graph).bind fun r2 =>
 ((fA ((!r2) == false) false (nW s_0.Slots)).bind fun r4 =>
 (bif (((!r2) || (!r4)) || ((s_0.Slots.length : Int) != s_0.Graph.Config.N)) then
  some false
 else
  lC bY s_0 s_0.Graph.Edges (s_0.Graph.Edges.length : Int) 0)))
theorem aE1 {s_0 : aI} {r : Bool} (hm : mJ s_0 = some r) : aT Tryz.prog 19 [.agg [.v (.int .i64 s_0.Graph.Config.N), .v (.int .i64 s_0.Graph.Config.L), .v (.int .i64 s_0.Graph.Config.R), .sl (s_0.Graph.Hashes.flatMap bA) s_0.Graph.Hashes.length false, .sl (s_0.Graph.Edges.flatMap aL) s_0.Graph.Edges.length false, .sl (s_0.Slots.flatMap aS) s_0.Slots.length false]] (.v (.bool r)) := by
 refine aT.of_body Tryz.func19 rfl ?_
 simp only [Tryz.ntmps19, List.length_cons, List.length_nil, Nat.reduceAdd, Nat.reduceSub, aQ]
 unfold mJ at hm
 refine sr (N' := 64) rfl ?_
 refine hp (id := 0) rfl rfl (bO Z1 Z5) ?_
 refine pA ?_
 refine fs ?_
 refine AWp.seq' ?_
 refine sr (N' := 128) rfl ?_
 refine pA ?_
 refine pu rfl (aD Z1 Z3 Z4) ?_
 obtain ⟨r2, h1, hm⟩ := bnd hm
 refine aE.callQ (r := .v (.bool r2)) Zd Z1 aLe (fun H => (cD (.agg _ (cB.dat _)) .nil)) (gE h1) ?_
 iterate 3 first | refine pA ?_ | refine pB ?_
 refine pg rfl rfl Z2 (fun hb => (aD (Zh hb) Z3 Z4)) ?_
 obtain ⟨r4, h3, hm⟩ := bnd hm
 refine aE.callQG (r := .v (.bool r4)) Zd rfl Z2 Z1 bLt (fun hb H => (.cons (td (Zh hb) (bF.sl _ _ _)) .nil)) (fun hb => aJi (dA h3 hb)) ?_
 iterate 4 first | refine pA ?_ | refine pB ?_
 refine pg rfl rfl Z2 (fun hb => (aD (Zh hb) Z3 Z4)) ?_
 iterate 4 refine pB ?_
 refine pg rfl rfl Z2 (fun hb => (aD (Zh hb) Z3 Z4)) ?_
 iterate 2 first | refine pA ?_ | refine pB ?_
 refine fs ?_
 refine AWp.condM hm Z1 (fun _ hm => ?_) (fun _ hm => ?_)
 ·
  refine sr (N' := 192) rfl ?_
  refine pA ?_
  refine fs ?_
  refine AWp.ret ?_
  refine bB ?_
  cases hm
  exact bM (.inr rfl) Tryz.results19 (td Z1 (.v _))
 ·
  refine AWp.skip ?_
  refine aF ?_
  refine AWp.seq' ?_
  refine sr (N' := 192) rfl ?_
  iterate 2 refine pA ?_
  refine pu rfl (aD Z1 Z3 Z4) ?_
  iterate 2 refine pA ?_
  refine fs ?_
  refine AWp.block ?_
  refine AWp.loopM (fun m s => ∃ (s_1 : aI) (t27 : List aC) (t28 : Int) (t29 : Int), s = (⟨52, (aK (aK (aK (aK (fun _ => AV.any) 1 (.adr 1 0)) 27 (.sl (t27.flatMap aL) t27.length false)) 28 (.v (.int .i64 t28))) 29 (.v (.int .i64 t29))), ⟨(upd bL 1 (.cells 1 [.v (.int .i64 s_1.Graph.Config.N), .v (.int .i64 s_1.Graph.Config.L), .v (.int .i64 s_1.Graph.Config.R), .sl (s_1.Graph.Hashes.flatMap bA) s_1.Graph.Hashes.length false, .sl (s_1.Graph.Edges.flatMap aL) s_1.Graph.Edges.length false, .sl (s_1.Slots.flatMap aS) s_1.Slots.length false] 0)), 64⟩⟩ : St) ∧ lC m s_1 t27 t28 t29 = some r) bY ?_ ?_ ?_
  ·
   rintro s ⟨_, _, _, _, _, h⟩
   cases h
  ·
   refine ⟨_, ?_, s_0, s_0.Graph.Edges, (s_0.Graph.Edges.length : Int), 0, rfl, hm⟩
   exact aN (fun j => bif j == 1 then 0 else 0) (wV (wV (wD (aG.sl _ _ _) (aX _ _ (bQ Z1 rfl Z7) aU)))) (hW (aV (aO Z3 (Nat.le_refl _) (Nat.zero_le _) (bE.dat s_0)) aR))
  ·
   rintro n1 s ⟨s_1, t27, t28, t29, rfl, hm⟩
   replace hm : nV (lC n1) s_1 t27 t28 t29 = some r := hm
   unfold nV at hm
   refine sr (N' := 128) rfl ?_
   refine pA ?_
   refine fs ?_
   refine AWp.seq' ?_
   refine AWp.condM hm Z1 (fun _ hm => ?_) (fun _ hm => ?_)
   ·
    refine AWp.skip ?_
    refine aF ?_
    refine AWp.seq' ?_
    refine AWp.block ?_
    refine sr (N' := 192) rfl ?_
    obtain ⟨x6, h5, hm⟩ := bnd hm
    refine pu rfl (cP aG Zd Tryz.underlying28 dQ Z1 rfl Z1 h5) ?_
    refine pA ?_
    refine hp (id := 130) rfl rfl (aY jI Z5) ?_
    refine aE.heap0 (id := 131) rfl (bG (ys := [.v (.int .i64 x6.U), .v (.int .i64 x6.V), .v (.int .i64 x6.Tier)]) dQ Z1 Z1 Z3 rfl (Nat.le_of_ble_eq_true rfl) Z9 rfl) ?_
    refine fs ?_
    refine sr (N' := 256) rfl ?_
    refine pA ?_
    refine pu rfl (aD Z1 Z3 Z4) ?_
    refine pA ?_
    refine pu rfl (aD Z1 Z3 Z4) ?_
    obtain ⟨x8, h7, hm⟩ := bnd hm
    refine pu rfl (cP bF Zd Tryz.underlying31 mV Z1 rfl Z1 h7) ?_
    iterate 5 first | refine pA ?_ | refine pB ?_
    refine pg rfl rfl Z2 (fun hb => (aD (Zh hb) Z3 Z4)) ?_
    refine pB ?_
    refine pg rfl rfl Z2 (fun hb => (aD (Zh hb) Z3 Z4)) ?_
    obtain ⟨x10, h9, hm⟩ := bnd hm
    refine pg rfl rfl Z2 (fun hb => (cP bF Zd Tryz.underlying31 mV (Zh hb) rfl (Zh hb) (dA h9 hb))) ?_
    iterate 4 first | refine pA ?_ | refine pB ?_
    refine fs ?_
    refine AWp.condM hm Z1 (fun _ hm => ?_) (fun _ hm => ?_)
    ·
     refine sr (N' := 320) rfl ?_
     refine pA ?_
     refine fs ?_
     refine AWp.ret ?_
     refine dB ?_
     refine bB ?_
     refine eD ?_
     refine dB ?_
     refine bB ?_
     cases hm
     exact bM (.inr rfl) Tryz.results19 (td Z1 (.v _))
    ·
     refine AWp.skip ?_
     refine cA ?_
     refine aF ?_
     refine AWp.reg 64 (N' := 320) rfl ?_
     iterate 2 refine pA ?_
     refine aE.fin ?_
     refine bU ?_
     refine ⟨_, ?_, s_1, t27, t28, (IntKind.i64.wrap (t29 + 1)), rfl, hm⟩
     exact aN (fun j => bif j == 1 then 1 else 0) (wV (wV (wD (aG.sl _ _ _) (aX _ _ (bQ Z1 rfl Z7) aU)))) (hW (aV (aO Z3 (Nat.le_refl _) (Nat.zero_le _) (bE.dat s_1)) aR))
   ·
    refine AWp.exit ?_
    refine cH ?_
    refine bW ?_
    refine bT ?_
    refine aF ?_
    refine sr (N' := 192) rfl ?_
    refine pA ?_
    refine fs ?_
    refine AWp.ret ?_
    cases hm
    exact bM (.inr rfl) Tryz.results19 (td Z1 (.v _))
def sX (l_0 : List bC) (key_1 : Int) : Option (Int × Bool) :=
 ((gV l_0).bind fun ⟨r2, r3⟩ =>
 (bif (!r3) then
  some (0, false)
 else
  ((mM r2 key_1).bind fun ⟨r5, r6⟩ =>
  some (r5, r6))))
theorem aDv {l_0 : List bC} {key_1 : Int} {r : Int × Bool} (hm : sX l_0 key_1 = some r) : aT Tryz.prog 39 [.sl (l_0.flatMap aS) l_0.length false, .v (.int .u64 key_1)] (.tup [.v (.int .i64 r.1), .v (.bool r.2)]) := by
 refine aT.of_body Tryz.func39 rfl ?_
 simp only [Tryz.ntmps39, List.length_cons, List.length_nil, Nat.reduceAdd, Nat.reduceSub, aQ]
 unfold sX at hm
 refine sr (N' := 64) rfl ?_
 iterate 2 refine pA ?_
 refine fs ?_
 refine sr (N' := 128) rfl ?_
 refine pA ?_
 obtain ⟨⟨r2, r3⟩, h1, hm⟩ := bnd hm
 refine aE.callQ (r := .tup [.agg [aA.av r2.s], .v (.bool r3)]) Zd Z1 aX0 (fun H => (cD (bF.sl _ _ _) .nil)) (qG h1) ?_
 iterate 3 refine pA ?_
 refine hp (id := 69) rfl rfl (aY aDk Z5) ?_
 refine aE.heap0 (id := 70) rfl (bG (ys := [aA.av r2.s]) yH Z1 Z1 Z3 rfl (Nat.le_of_ble_eq_true rfl) (by simp only [List.all_cons, List.all_nil, Bool.and_true, aA.one]; try rfl) rfl) ?_
 refine pA ?_
 refine fs ?_
 refine AWp.seq' ?_
 refine sr (N' := 192) rfl ?_
 iterate 2 refine pA ?_
 refine fs ?_
 refine AWp.condM hm Z1 (fun _ hm => ?_) (fun _ hm => ?_)
 ·
  refine sr (N' := 256) rfl ?_
  iterate 2 refine pA ?_
  refine fs ?_
  refine AWp.ret ?_
  refine bB ?_
  cases hm
  exact fE (.inr rfl) Tryz.results39 (td Z1 (.v _)) (td Z1 (.v _))
 ·
  refine AWp.skip ?_
  refine aF ?_
  refine sr (N' := 256) rfl ?_
  refine pu rfl (aD Z1 Z3 Z2) ?_
  refine pA ?_
  obtain ⟨⟨r5, r6⟩, h4, hm⟩ := bnd hm
  refine aE.callQ (r := .tup [.v (.int .i64 r5), .v (.bool r6)]) Zd Z1 aWr (fun H => (cD (.agg _ (cX.dat _)) (cV .nil))) (yT h4) ?_
  iterate 4 refine pA ?_
  refine fs ?_
  refine AWp.ret ?_
  cases hm
  exact fE (.inr rfl) Tryz.results39 (td Z1 (.v _)) (td Z1 (.v _))
def vS (do_0 : Int) : Option (Bool) :=
 some (((decide (2 ≤ do_0)) && (decide (do_0 ≤ 11))) && (do_0 != 10))
theorem aIl {do_0 : Int} {r : Bool} (hm : vS do_0 = some r) : aT Tryz.prog 40 [.v (.int .i64 do_0)] (.v (.bool r)) := by
 refine aT.of_body Tryz.func40 rfl ?_
 simp only [Tryz.ntmps40, List.length_cons, List.length_nil, Nat.reduceAdd, Nat.reduceSub, aQ]
 unfold vS at hm
 refine sr (N' := 64) rfl ?_
 refine pA ?_
 refine fs ?_
 refine sr (N' := 128) rfl ?_
 iterate 11 first | refine pA ?_ | refine pB ?_
 refine fs ?_
 refine AWp.ret ?_
 cases hm
 exact bM (.inr rfl) Tryz.results40 (td Z1 (.v _))
def wL (do_0 : Int) : Option (Bool) :=
 some ((((do_0 == 3) || (do_0 == 4)) || (do_0 == 5)) || (do_0 == 8))
theorem aJ6 {do_0 : Int} {r : Bool} (hm : wL do_0 = some r) : aT Tryz.prog 41 [.v (.int .i64 do_0)] (.v (.bool r)) := by
 refine aT.of_body Tryz.func41 rfl ?_
 simp only [Tryz.ntmps41, List.length_cons, List.length_nil, Nat.reduceAdd, Nat.reduceSub, aQ]
 unfold wL at hm
 refine sr (N' := 64) rfl ?_
 refine pA ?_
 refine fs ?_
 refine sr (N' := 128) rfl ?_
 iterate 15 first | refine pA ?_ | refine pB ?_
 refine fs ?_
 refine AWp.ret ?_
 cases hm
 exact bM (.inr rfl) Tryz.results41 (td Z1 (.v _))
def sV (s_0 : aI) (v_1 : Int) : Option ((List Int)) :=
 ((xG s_0.Graph.Config.N s_0.Graph.Edges v_1).bind fun r2 =>
 some r2)
theorem aD2 {s_0 : aI} {v_1 : Int} {r : (List Int)} (hm : sV s_0 v_1 = some r) : aT Tryz.prog 77 [.agg [.v (.int .i64 s_0.Graph.Config.N), .v (.int .i64 s_0.Graph.Config.L), .v (.int .i64 s_0.Graph.Config.R), .sl (s_0.Graph.Hashes.flatMap bA) s_0.Graph.Hashes.length false, .sl (s_0.Graph.Edges.flatMap aL) s_0.Graph.Edges.length false, .sl (s_0.Slots.flatMap aS) s_0.Slots.length false], .v (.int .i64 v_1)] (.sl (r.flatMap (ci .i64)) r.length false) := by
 refine aT.of_body Tryz.func77 rfl ?_
 simp only [Tryz.ntmps77, List.length_cons, List.length_nil, Nat.reduceAdd, Nat.reduceSub, aQ]
 unfold sV at hm
 refine sr (N' := 64) rfl ?_
 refine hp (id := 0) rfl rfl (bO Z1 Z5) ?_
 refine pA ?_
 refine fs ?_
 refine sr (N' := 128) rfl ?_
 iterate 3 refine pA ?_
 refine pu rfl (aD Z1 Z3 Z4) ?_
 iterate 2 refine pA ?_
 refine pu rfl (aD Z1 Z3 Z4) ?_
 refine pA ?_
 obtain ⟨r2, h1, hm⟩ := bnd hm
 refine aE.callQ (r := .sl (r2.flatMap (ci .i64)) r2.length false) Zd Z1 bF8 (fun H => (cV (cD (aG.sl _ _ _) (cV .nil)))) (aK5 h1) ?_
 refine pA ?_
 refine fs ?_
 refine AWp.ret ?_
 cases hm
 exact bM (.inr rfl) Tryz.results77 (td Z1 ((CFi .i64).sl _ _ _))
def oM (s_0 : aI) (v_1 : Int) : Option (Int) :=
 ((sV s_0 v_1).bind fun r2 =>
 some (r2.length : Int))
theorem zV {s_0 : aI} {v_1 : Int} {r : Int} (hm : oM s_0 v_1 = some r) : aT Tryz.prog 75 [.agg [.v (.int .i64 s_0.Graph.Config.N), .v (.int .i64 s_0.Graph.Config.L), .v (.int .i64 s_0.Graph.Config.R), .sl (s_0.Graph.Hashes.flatMap bA) s_0.Graph.Hashes.length false, .sl (s_0.Graph.Edges.flatMap aL) s_0.Graph.Edges.length false, .sl (s_0.Slots.flatMap aS) s_0.Slots.length false], .v (.int .i64 v_1)] (.v (.int .i64 r)) := by
 refine aT.of_body Tryz.func75 rfl ?_
 simp only [Tryz.ntmps75, List.length_cons, List.length_nil, Nat.reduceAdd, Nat.reduceSub, aQ]
 unfold oM at hm
 refine sr (N' := 64) rfl ?_
 refine hp (id := 0) rfl rfl (bO Z1 Z5) ?_
 refine pA ?_
 refine fs ?_
 refine sr (N' := 128) rfl ?_
 refine pu rfl (aD Z1 Z3 Z2) ?_
 refine pA ?_
 obtain ⟨r2, h1, hm⟩ := bnd hm
 refine aE.callQ (r := .sl (r2.flatMap (ci .i64)) r2.length false) Zd Z1 bEm (fun H => (cD (.agg _ (bE.dat _)) (cV .nil))) (aD2 h1) ?_
 iterate 2 refine pA ?_
 refine fs ?_
 refine AWp.ret ?_
 cases hm
 exact bM (.inr rfl) Tryz.results75 (td Z1 (.v _))
def gG (x_0 : Int) : Option (Bool) :=
 some (x_0 != x_0)
theorem kW {x_0 : Int} {r : Bool} (hm : gG x_0 = some r) : aT Tryz.prog 137 [.v (.int .u64 x_0)] (.v (.bool r)) := by
 refine aT.of_body Tryz.func137 rfl ?_
 simp only [Tryz.ntmps137, List.length_cons, List.length_nil, Nat.reduceAdd, Nat.reduceSub, aQ]
 unfold gG at hm
 refine sr (N' := 64) rfl ?_
 refine pA ?_
 refine fs ?_
 refine sr (N' := 128) rfl ?_
 iterate 4 refine pA ?_
 refine fs ?_
 refine AWp.ret ?_
 cases hm
 exact bM (.inr rfl) Tryz.results137 (td Z1 (.v _))
def pZ (x_0 : Int) (y_1 : Int) : Option (Bool) :=
 ((gG x_0).bind fun r2 =>
 ((fA (r2 == true) false (gG y_1)).bind fun r4 =>
 some ((r2 && (!r4)) || (decide (x_0 < y_1)))))
theorem aEj {x_0 : Int} {y_1 : Int} {r : Bool} (hm : pZ x_0 y_1 = some r) : aT Tryz.prog 151 [.v (.int .u64 x_0), .v (.int .u64 y_1)] (.v (.bool r)) := by
 refine aT.of_body Tryz.func151 rfl ?_
 simp only [Tryz.ntmps151, List.length_cons, List.length_nil, Nat.reduceAdd, Nat.reduceSub, aQ]
 unfold pZ at hm
 refine sr (N' := 64) rfl ?_
 refine pA ?_
 refine fs ?_
 refine sr (N' := 128) rfl ?_
 refine pA ?_
 obtain ⟨r2, h1, hm⟩ := bnd hm
 refine aE.callQ (r := .v (.bool r2)) Zd Z1 aPo (fun H => (cV .nil)) (kW h1) ?_
 iterate 2 first | refine pA ?_ | refine pB ?_
 obtain ⟨r4, h3, hm⟩ := bnd hm
 refine aE.callQG (r := .v (.bool r4)) Zd rfl Z2 Z1 aPo (fun hb H => (.cons (td (Zh hb) (.v _)) .nil)) (fun hb => kW (dA h3 hb)) ?_
 iterate 8 first | refine pA ?_ | refine pB ?_
 refine fs ?_
 refine AWp.ret ?_
 cases hm
 exact bM (.inr rfl) Tryz.results151 (td Z1 (.v _))
def eQ (rec1 : List Int → Int → Int → Int → Option (List Int)) (rec2 : List Int → Int → Int → Int → Int → Option (List Int)) (data_0 : List Int) (a_1 : Int) (b_2 : Int) (i_6 : Int) (j_7 : Int) : Option (List Int) :=
 ((fA ((decide (a_1 < j_7)) == true) 0 (idx data_0 j_7)).bind fun x2 =>
 ((fA ((decide (a_1 < j_7)) == true) 0 (idx data_0 (IntKind.i64.wrap (j_7 - 1)))).bind fun x4 =>
 ((fA ((decide (a_1 < j_7)) == true) false (pZ x2 x4)).bind fun r6 =>
 (bif ((decide (a_1 < j_7)) && r6) then
  ((idx data_0 (IntKind.i64.wrap (j_7 - 1))).bind fun x8 =>
  ((idx data_0 j_7).bind fun x10 =>
  ((idx data_0 j_7).bind fun x12 =>
  ((stt data_0 j_7 x8).bind fun l14 =>
  ((idx l14 (IntKind.i64.wrap (j_7 - 1))).bind fun x16 =>
  ((stt l14 (IntKind.i64.wrap (j_7 - 1)) x10).bind fun l18 =>
  rec2 l18 a_1 b_2 i_6 (IntKind.i64.wrap (j_7 - 1))))))))
 else
  rec1 data_0 a_1 b_2 (IntKind.i64.wrap (i_6 + 1))))))
def dV (rec1 : List Int → Int → Int → Int → Option (List Int)) : Nat → List Int → Int → Int → Int → Int → Option (List Int)
 | 0 => fun _ _ _ _ _ => none
 | n + 1 => eQ rec1 (dV rec1 n)
def eK (rec1 : List Int → Int → Int → Int → Option (List Int)) (data_0 : List Int) (a_1 : Int) (b_2 : Int) (i_6 : Int) : Option (List Int) :=
 (bif (decide (i_6 < b_2)) then
  dV rec1 bY data_0 a_1 b_2 i_6 i_6
 else
  some data_0)
def cR : Nat → List Int → Int → Int → Int → Option (List Int)
 | 0 => fun _ _ _ _ => none
 | n + 1 => eK (cR n)
def eT (data_0 : List Int) (a_1 : Int) (b_2 : Int) : Option (List Int) :=
 cR bY data_0 a_1 b_2 (IntKind.i64.wrap (a_1 + 1))
theorem mG {data_0 : List Int} {a_1 : Int} {b_2 : Int} {r : List Int} (hm : eT data_0 a_1 b_2 = some r) {H : aP} {i0 : Nat} (he : H.ent i0 = .cells 1 (data_0.flatMap (ci .u64)) 0) : dR Tryz.prog 145 [.own i0 0 data_0.length, .v (.int .i64 a_1), .v (.int .i64 b_2)] H (.tup []) (H.put i0 (.cells 1 (r.flatMap (ci .u64)) 0)) := by
 refine dR.of_bodyM Tryz.func145 rfl he ?_
 generalize H.ent = h0
 simp only [Tryz.ntmps145, List.length_cons, List.length_nil, Nat.reduceAdd, Nat.reduceSub]
 unfold eT at hm
 refine sr (N' := 64) rfl ?_
 iterate 3 refine pA ?_
 refine fs ?_
 refine AWp.block ?_
 refine AWp.loopM (fun m s => ∃ (data_0 : List Int) (a_1 : Int) (b_2 : Int) (i_6 : Int), s = (⟨49, (aK (aK (aK (aK (fun _ => AV.any) 0 (.own i0 0 data_0.length)) 1 (.v (.int .i64 a_1))) 2 (.v (.int .i64 b_2))) 6 (.v (.int .i64 i_6))), ⟨(upd h0 i0 (.cells 1 (data_0.flatMap (ci .u64)) 0)), 64⟩⟩ : St) ∧ cR m data_0 a_1 b_2 i_6 = some r) bY ?_ ?_ ?_
 ·
  rintro s ⟨_, _, _, _, _, h⟩
  cases h
 ·
  refine ⟨_, ?_, data_0, a_1, b_2, (IntKind.i64.wrap (a_1 + 1)), rfl, hm⟩
  exact pW (cK 6 _ Z1 (cK 2 _ Z1 (cK 1 _ Z1 (cK 0 _ (pY Z1 Z6) lX)))) (by simp only [gD]; try rfl)
 ·
  rintro n1 s ⟨data_0, a_1, b_2, i_6, rfl, hm⟩
  replace hm : eK (cR n1) data_0 a_1 b_2 i_6 = some r := hm
  unfold eK at hm
  refine AWp.seq' ?_
  refine sr (N' := 128) rfl ?_
  iterate 3 refine pA ?_
  refine fs ?_
  refine AWp.condM hm Z1 (fun _ hm => ?_) (fun _ hm => ?_)
  ·
   refine AWp.skip ?_
   refine aF ?_
   refine AWp.seq' ?_
   refine AWp.block ?_
   refine sr (N' := 192) rfl ?_
   iterate 2 refine pA ?_
   refine fs ?_
   refine AWp.block ?_
   refine AWp.loopM (fun m s => ∃ (data_0 : List Int) (a_1 : Int) (b_2 : Int) (i_6 : Int) (j_7 : Int), s = (⟨49, (aK (aK (aK (aK (aK (fun _ => AV.any) 0 (.own i0 0 data_0.length)) 1 (.v (.int .i64 a_1))) 2 (.v (.int .i64 b_2))) 6 (.v (.int .i64 i_6))) 7 (.v (.int .i64 j_7))), ⟨(upd h0 i0 (.cells 1 (data_0.flatMap (ci .u64)) 0)), 64⟩⟩ : St) ∧ dV (cR n1) m data_0 a_1 b_2 i_6 j_7 = some r) bY ?_ ?_ ?_
   ·
    rintro s ⟨_, _, _, _, _, _, h⟩
    cases h
   ·
    refine ⟨_, ?_, data_0, a_1, b_2, i_6, i_6, rfl, hm⟩
    exact pW (cK 7 _ Z1 (cK 6 _ Z1 (cK 2 _ Z1 (cK 1 _ Z1 (cK 0 _ (pY Z1 Z6) lX))))) (by simp only [gD]; try rfl)
   ·
    rintro n2 s ⟨data_0, a_1, b_2, i_6, j_7, rfl, hm⟩
    replace hm : eQ (cR n1) (dV (cR n1) n2) data_0 a_1 b_2 i_6 j_7 = some r := hm
    unfold eQ at hm
    refine AWp.seq' ?_
    refine sd mix (by kernel_rfl) (N' := 128) rfl ?_
    iterate 6 first | refine pA ?_ | refine pB ?_
    obtain ⟨x2, h1, hm⟩ := bnd hm
    refine pg rfl rfl Z2 (fun hb => (dD Tryz.underlying24 nS (Zh hb) (by simp only [bP, beq_self_eq_true, Nat.reduceBEq, cond_true, cond_false]; try rfl) Z6 (Zh hb) (dA h1 hb))) ?_
    refine pg rfl rfl Z2 (fun hb => (jR (CFi .u64) (Zh hb) (by simp only [bP, beq_self_eq_true, Nat.reduceBEq, cond_true, cond_false]; try rfl) (dA h1 hb) (fun _ => by simp only [go_sem, Nat.reduceBEq]; try with_reducible rfl))) ?_
    iterate 3 refine pB ?_
    obtain ⟨x4, h3, hm⟩ := bnd hm
    refine pg rfl rfl Z2 (fun hb => (dD Tryz.underlying24 nS (Zh hb) (by simp only [bP, beq_self_eq_true, Nat.reduceBEq, cond_true, cond_false]; try rfl) Z6 (Zh hb) (dA h3 hb))) ?_
    refine pg rfl rfl Z2 (fun hb => (jR (CFi .u64) (Zh hb) (by simp only [bP, beq_self_eq_true, Nat.reduceBEq, cond_true, cond_false]; try rfl) (dA h3 hb) (fun _ => by simp only [go_sem, Nat.reduceBEq]; try with_reducible rfl))) ?_
    obtain ⟨r6, h5, hm⟩ := bnd hm
    refine aE.callQG (r := .v (.bool r6)) Zd rfl Z2 Z1 bGx (fun hb H => (.cons (td (Zh hb) (.v _)) (.cons (td (Zh hb) (.v _)) .nil))) (fun hb => aEj (dA h5 hb)) ?_
    refine pA ?_
    refine fs ?_
    refine AWp.condM hm Z1 (fun _ hm => ?_) (fun _ hm => ?_)
    ·
     refine AWp.skip ?_
     refine aF ?_
     refine AWp.seq' ?_
     refine AWp.block ?_
     refine AWp.regD 64 mix (by kernel_rfl) (N' := 192) rfl ?_
     iterate 8 refine pA ?_
     obtain ⟨x8, h7, hm⟩ := bnd hm
     refine pu rfl (dD Tryz.underlying24 nS Z1 (by simp only [bP, beq_self_eq_true, Nat.reduceBEq, cond_true, cond_false]; try rfl) Z6 Z1 h7) ?_
     refine pu rfl (jR (CFi .u64) Z1 (by simp only [bP, beq_self_eq_true, Nat.reduceBEq, cond_true, cond_false]; try rfl) h7 (fun _ => by simp only [go_sem, Nat.reduceBEq]; try with_reducible rfl)) ?_
     iterate 2 refine pA ?_
     obtain ⟨x10, h9, hm⟩ := bnd hm
     refine pu rfl (dD Tryz.underlying24 nS Z1 (by simp only [bP, beq_self_eq_true, Nat.reduceBEq, cond_true, cond_false]; try rfl) Z6 Z1 h9) ?_
     refine pu rfl (jR (CFi .u64) Z1 (by simp only [bP, beq_self_eq_true, Nat.reduceBEq, cond_true, cond_false]; try rfl) h9 (fun _ => by simp only [go_sem, Nat.reduceBEq]; try with_reducible rfl)) ?_
     obtain ⟨x12, h11, hm⟩ := bnd hm
     refine pu rfl (dD Tryz.underlying24 nS Z1 (by simp only [bP, beq_self_eq_true, Nat.reduceBEq, cond_true, cond_false]; try rfl) Z6 Z1 h11) ?_
     obtain ⟨l14, h13, hm⟩ := bnd hm
     have qh13 := iC h13
     refine aE.heap0 (id := 143) rfl (mC (CFi .u64) nS Z1 Z1 (by simp only [bP, beq_self_eq_true, Nat.reduceBEq, cond_true, cond_false]; try rfl) rfl h13) ?_
     obtain ⟨x16, h15, hm⟩ := bnd hm
     refine pu rfl (dD Tryz.underlying24 nS Z1 (by simp only [bP, beq_self_eq_true, Nat.reduceBEq, cond_true, cond_false]; try rfl) Z6 Z1 h15) ?_
     obtain ⟨l18, h17, hm⟩ := bnd hm
     have qh17 := iC h17
     refine aE.heap0 (id := 145) rfl (mC (CFi .u64) nS Z1 Z1 (by simp only [bP, beq_self_eq_true, Nat.reduceBEq, cond_true, cond_false]; try rfl) rfl h17) ?_
     refine aE.fin ?_
     refine cA ?_
     refine aF ?_
     refine AWp.reg 64 (N' := 256) rfl ?_
     iterate 3 refine pA ?_
     refine aE.fin ?_
     refine bU ?_
     refine ⟨_, ?_, l18, a_1, b_2, i_6, (IntKind.i64.wrap (j_7 - 1)), rfl, hm⟩
     exact pW (cK 7 _ Z1 (cK 6 _ Z1 (cK 2 _ Z1 (cK 1 _ Z1 (cK 0 _ (pY Z1 Z6) lX))))) (by simp only [gD]; try rfl)
    ·
     refine AWp.exit ?_
     refine cH ?_
     refine bW ?_
     refine bT ?_
     refine cA ?_
     refine aF ?_
     refine AWp.reg 64 (N' := 192) rfl ?_
     iterate 3 refine pA ?_
     refine aE.fin ?_
     refine bU ?_
     refine ⟨_, ?_, data_0, a_1, b_2, (IntKind.i64.wrap (i_6 + 1)), rfl, hm⟩
     exact pW (cK 6 _ Z1 (cK 2 _ Z1 (cK 1 _ Z1 (cK 0 _ (pY Z1 Z6) lX)))) (by simp only [gD]; try rfl)
  ·
   refine AWp.exit ?_
   refine cH ?_
   refine bW ?_
   refine bT ?_
   cases hm
   exact aHm (.inl rfl) Tryz.results145 (by simp only [gD]; try rfl)
def fT (rec1 : List Int → Int → Int → Int → Bool → Bool → Option (List Int)) (data_0 : List Int) (a_1 : Int) (b_2 : Int) (limit_3 : Int) (wasBalanced_8 : Bool) (wasPartitioned_9 : Bool) : Option (List Int) :=
 (bif (decide ((IntKind.i64.wrap (b_2 - a_1)) ≤ 12)) then
  ((aGt (fun x => x.length) data_0.length (eT data_0 a_1 b_2)).bind fun l2 =>
  some l2)
 else
  (bif (limit_3 == 0) then
   none
  else
   none))
def eJ : Nat → List Int → Int → Int → Int → Bool → Bool → Option (List Int)
 | 0 => fun _ _ _ _ _ _ => none
 | n + 1 => fT (eJ n)
def fZ (data_0 : List Int) (a_1 : Int) (b_2 : Int) (limit_3 : Int) : Option (List Int) :=
 eJ bY data_0 a_1 b_2 limit_3 true true
theorem pV {data_0 : List Int} {a_1 : Int} {b_2 : Int} {limit_3 : Int} {r : List Int} (hm : fZ data_0 a_1 b_2 limit_3 = some r) {H : aP} {i0 : Nat} (he : H.ent i0 = .cells 1 (data_0.flatMap (ci .u64)) 0) : dR Tryz.prog 133 [.own i0 0 data_0.length, .v (.int .i64 a_1), .v (.int .i64 b_2), .v (.int .i64 limit_3)] H (.tup []) (H.put i0 (.cells 1 (r.flatMap (ci .u64)) 0)) := by
 refine dR.of_bodyM Tryz.func133 rfl he ?_
 generalize H.ent = h0
 simp only [Tryz.ntmps133, List.length_cons, List.length_nil, Nat.reduceAdd, Nat.reduceSub]
 unfold fZ at hm
 refine sr (N' := 64) rfl ?_
 refine pA ?_
 refine fs ?_
 refine sr (N' := 128) rfl ?_
 refine pA ?_
 refine fs ?_
 refine AWp.block ?_
 refine AWp.loopM (fun m s => ∃ (data_0 : List Int) (a_1 : Int) (b_2 : Int) (limit_3 : Int) (wasBalanced_8 : Bool) (wasPartitioned_9 : Bool), s = (⟨134, (aK (aK (aK (aK (aK (aK (fun _ => AV.any) 0 (.own i0 0 data_0.length)) 1 (.v (.int .i64 a_1))) 2 (.v (.int .i64 b_2))) 3 (.v (.int .i64 limit_3))) 8 (.v (.bool wasBalanced_8))) 9 (.v (.bool wasPartitioned_9))), ⟨(upd h0 i0 (.cells 1 (data_0.flatMap (ci .u64)) 0)), 64⟩⟩ : St) ∧ eJ m data_0 a_1 b_2 limit_3 wasBalanced_8 wasPartitioned_9 = some r) bY ?_ ?_ ?_
 ·
  rintro s ⟨_, _, _, _, _, _, _, h⟩
  cases h
 ·
  refine ⟨_, ?_, data_0, a_1, b_2, limit_3, true, true, rfl, hm⟩
  exact pW (cK 9 _ Z1 (cK 8 _ Z1 (cK 3 _ Z1 (cK 2 _ Z1 (cK 1 _ Z1 (cK 0 _ (pY Z1 Z6) lX)))))) (by simp only [gD]; try rfl)
 ·
  rintro n1 s ⟨data_0, a_1, b_2, limit_3, wasBalanced_8, wasPartitioned_9, rfl, hm⟩
  replace hm : fT (eJ n1) data_0 a_1 b_2 limit_3 wasBalanced_8 wasPartitioned_9 = some r := hm
  unfold fT at hm
  refine AWp.block ?_
  refine sr (N' := 128) rfl ?_
  iterate 4 refine pA ?_
  refine fs ?_
  refine AWp.seq' ?_
  refine sr (N' := 192) rfl ?_
  iterate 2 refine pA ?_
  refine fs ?_
  refine AWp.condM hm Z1 (fun _ hm => ?_) (fun _ hm => ?_)
  ·
   refine sr (N' := 256) rfl ?_
   iterate 3 refine pA ?_
   obtain ⟨l2, h1, hm⟩ := bnd hm
   have qh1 := aCz h1
   refine aE.callM Zd Z1 bHc Z1 (mG (aAf h1) (by simp only [bP, beq_self_eq_true, Nat.reduceBEq, cond_true, cond_false]; try rfl)) ?_
   refine fs ?_
   refine AWp.ret ?_
   refine bB ?_
   refine dB ?_
   refine eD ?_
   refine dB ?_
   cases hm
   exact aHm (.inr rfl) Tryz.results133 (by simp only [gD]; try rfl)
  ·
   refine AWp.skip ?_
   refine aF ?_
   refine AWp.seq' ?_
   refine sr (N' := 256) rfl ?_
   iterate 2 refine pA ?_
   refine fs ?_
   refine AWp.condM hm Z1 (fun _ hm => ?_) (fun _ hm => ?_)
   ·
    cases hm
   ·
    cases hm
def mH (x_0 : List Int) : Option (List Int) :=
 ((uR (IntKind.u64.wrap (x_0.length : Int))).bind fun r2 =>
 ((aGt (fun x => x.length) x_0.length (fZ x_0 0 (x_0.length : Int) r2)).bind fun l4 =>
 some l4))
theorem aAn {x_0 : List Int} {r : List Int} (hm : mH x_0 = some r) {H : aP} {i0 : Nat} (he : H.ent i0 = .cells 1 (x_0.flatMap (ci .u64)) 0) : dR Tryz.prog 100 [.own i0 0 x_0.length] H (.tup []) (H.put i0 (.cells 1 (r.flatMap (ci .u64)) 0)) := by
 refine dR.of_bodyM Tryz.func100 rfl he ?_
 generalize H.ent = h0
 simp only [Tryz.ntmps100, List.length_cons, List.length_nil, Nat.reduceAdd, Nat.reduceSub]
 unfold mH at hm
 refine sr (N' := 64) rfl ?_
 iterate 3 refine pA ?_
 refine fs ?_
 refine AWp.reg 64 (N' := 128) rfl ?_
 iterate 4 refine pA ?_
 obtain ⟨r2, h1, hm⟩ := bnd hm
 refine aE.callQ (r := .v (.int .i64 r2)) Zd Z1 aUa (fun H => (cV .nil)) (aCt h1) ?_
 obtain ⟨l4, h3, hm⟩ := bnd hm
 have qh3 := aCz h3
 refine aE.callM Zd Z1 bFi Z1 (pV (aAf h3) (by simp only [bP, beq_self_eq_true, Nat.reduceBEq, cond_true, cond_false]; try rfl)) ?_
 refine aE.fin ?_
 cases hm
 exact aHm (.inl rfl) Tryz.results100 (by simp only [gD]; try rfl)
def rH (rec1 : aI → List Int → List Int → Int → Int → Option ((List Int))) (s_2 : aI) (out_5 : List Int) (t8 : List Int) (t9 : Int) (t10 : Int) : Option ((List Int)) :=
 rec1 s_2 out_5 t8 t9 (IntKind.i64.wrap (t10 + 1))
def vI (rec1 : aI → List Int → List Int → Int → Int → Option ((List Int))) (s_2 : aI) (out_5 : List Int) (t8 : List Int) (t9 : Int) (t10 : Int) : Option ((List Int)) :=
 (bif (decide (t10 < t9)) then
  ((idx t8 t10).bind fun x2 =>
  ((idx s_2.Slots x2).bind fun x4 =>
  (bif x4.Used then
   ((idx s_2.Slots x2).bind fun x6 =>
   ((app out_5 [x6.Key]).bind fun l8 =>
   rH rec1 s_2 l8 t8 t9 t10))
  else
   rH rec1 s_2 out_5 t8 t9 t10)))
 else
  ((aGt (fun x => x.length) out_5.length (mH out_5)).bind fun l10 =>
  some l10))
def nF : Nat → aI → List Int → List Int → Int → Int → Option ((List Int))
 | 0 => fun _ _ _ _ _ => none
 | n + 1 => vI (nF n)
def pK (s_0 : aI) (l_1 : List Int) : Option ((List Int)) :=
 nF bY s_0 [] l_1 (l_1.length : Int) 0
theorem xQ {s_0 : aI} {l_1 : List Int} {r : (List Int)} (hm : pK s_0 l_1 = some r) : aT Tryz.prog 76 [.agg [.v (.int .i64 s_0.Graph.Config.N), .v (.int .i64 s_0.Graph.Config.L), .v (.int .i64 s_0.Graph.Config.R), .sl (s_0.Graph.Hashes.flatMap bA) s_0.Graph.Hashes.length false, .sl (s_0.Graph.Edges.flatMap aL) s_0.Graph.Edges.length false, .sl (s_0.Slots.flatMap aS) s_0.Slots.length false], .sl (l_1.flatMap (ci .i64)) l_1.length false] (.sl (r.flatMap (ci .u64)) r.length false) := by
 refine aT.of_body Tryz.func76 rfl ?_
 simp only [Tryz.ntmps76, List.length_cons, List.length_nil, Nat.reduceAdd, Nat.reduceSub, aQ]
 unfold pK at hm
 refine sr (N' := 64) rfl ?_
 refine hp (id := 0) rfl rfl (bO Z1 Z5) ?_
 refine pA ?_
 refine fs ?_
 refine sr (N' := 128) rfl ?_
 refine pA ?_
 refine fs ?_
 refine AWp.seq' ?_
 refine sr (N' := 192) rfl ?_
 iterate 3 refine pA ?_
 refine fs ?_
 refine AWp.block ?_
 refine AWp.loopM (fun m s => ∃ (s_2 : aI) (out_5 : List Int) (t8 : List Int) (t9 : Int) (t10 : Int), s = (⟨33, (aK (aK (aK (aK (aK (fun _ => AV.any) 2 (.adr 1 0)) 5 (.own 2 0 out_5.length)) 8 (.sl (t8.flatMap (ci .i64)) t8.length false)) 9 (.v (.int .i64 t9))) 10 (.v (.int .i64 t10))), ⟨(upd (upd bL 1 (.cells 1 [.v (.int .i64 s_2.Graph.Config.N), .v (.int .i64 s_2.Graph.Config.L), .v (.int .i64 s_2.Graph.Config.R), .sl (s_2.Graph.Hashes.flatMap bA) s_2.Graph.Hashes.length false, .sl (s_2.Graph.Edges.flatMap aL) s_2.Graph.Edges.length false, .sl (s_2.Slots.flatMap aS) s_2.Slots.length false] 0)) 2 (.cells 1 (out_5.flatMap (ci .u64)) 0)), 64⟩⟩ : St) ∧ nF m s_2 out_5 t8 t9 t10 = some r) bY ?_ ?_ ?_
 ·
  rintro s ⟨_, _, _, _, _, _, h⟩
  cases h
 ·
  refine ⟨_, ?_, s_0, [], l_1, (l_1.length : Int), 0, rfl, hm⟩
  refine St.Le.trans (kA 5 900005 1 Z1 Z5) ?_
  exact aN (fun j => bif j == 1 then 0 else bif j == 2 then 900005 else 0) (wV (wV (wD ((CFi .i64).sl _ _ _) (wO (aX _ _ (bQ Z1 rfl Z7) aU))))) (hW (eU (CFi .u64) (aV (aO Z3 (Nat.le_refl _) (Nat.zero_le _) (bE.dat s_0)) aR)))
 ·
  rintro n1 s ⟨s_2, out_5, t8, t9, t10, rfl, hm⟩
  replace hm : vI (nF n1) s_2 out_5 t8 t9 t10 = some r := hm
  unfold vI at hm
  refine sr (N' := 128) rfl ?_
  refine pA ?_
  refine fs ?_
  refine AWp.seq' ?_
  refine AWp.condM hm Z1 (fun _ hm => ?_) (fun _ hm => ?_)
  ·
   refine AWp.skip ?_
   refine aF ?_
   refine AWp.seqJ (fun s => ∃ (s_2 : aI) (out_5 : List Int) (t8 : List Int) (t9 : Int) (t10 : Int), s = (⟨33, (aK (aK (aK (aK (aK (fun _ => AV.any) 2 (.adr 1 0)) 5 (.own 2 0 out_5.length)) 8 (.sl (t8.flatMap (ci .i64)) t8.length false)) 9 (.v (.int .i64 t9))) 10 (.v (.int .i64 t10))), ⟨(upd (upd bL 1 (.cells 1 [.v (.int .i64 s_2.Graph.Config.N), .v (.int .i64 s_2.Graph.Config.L), .v (.int .i64 s_2.Graph.Config.R), .sl (s_2.Graph.Hashes.flatMap bA) s_2.Graph.Hashes.length false, .sl (s_2.Graph.Edges.flatMap aL) s_2.Graph.Edges.length false, .sl (s_2.Slots.flatMap aS) s_2.Slots.length false] 0)) 2 (.cells 1 (out_5.flatMap (ci .u64)) 0)), 64⟩⟩ : St) ∧ rH (nF n1) s_2 out_5 t8 t9 t10 = some r) ?_ ?_
   ·
    refine AWp.block ?_
    refine sr (N' := 192) rfl ?_
    obtain ⟨x2, h1, hm⟩ := bnd hm
    refine pu rfl (cP (CFi .i64) Zd Tryz.underlying112 sz3 Z1 rfl Z1 h1) ?_
    iterate 2 refine pA ?_
    refine fs ?_
    refine sr (N' := 256) rfl ?_
    refine pA ?_
    refine pu rfl (aD Z1 Z3 Z4) ?_
    refine pA ?_
    obtain ⟨x4, h3, hm⟩ := bnd hm
    refine pu rfl (cP bF Zd Tryz.underlying31 mV Z1 rfl Z1 h3) ?_
    iterate 2 refine pA ?_
    refine fs ?_
    refine AWp.condM hm Z1 (fun _ hm => ?_) (fun _ hm => ?_)
    ·
     refine AWp.reg 64 (N' := 320) rfl ?_
     iterate 2 refine pA ?_
     refine pu rfl (aD Z1 Z3 Z4) ?_
     refine pA ?_
     obtain ⟨x6, h5, hm⟩ := bnd hm
     refine pu rfl (cP bF Zd Tryz.underlying31 mV Z1 rfl Z1 h5) ?_
     iterate 2 refine pA ?_
     refine hp (id := 263) rfl rfl (eE (CFi .u64) (l := [x6.Key]) Tryz.underlying24 nS aI6 Z5 Zd Zd Zd (by simp only [go_sem, Nat.reduceBEq]; try rfl) (by kernel_rfl)) ?_
     obtain ⟨l8, h7, hm⟩ := bnd hm
     refine hp (id := 264) rfl rfl (iI (CFi .u64) Tryz.underlying24 Tryz.underlying24 rfl aOd aOs (by rw [aCj]; decide) (by rw [aCj]; decide) aQu Zd Zd Z1 Z3 Z6 (lM (CFi .u64) Z1 Z3 Z6) rfl Z5 h7) ?_
     refine pA ?_
     refine aE.fin ?_
     refine cA ?_
     refine dY ?_
     refine ⟨_, ?_, s_2, l8, t8, t9, t10, rfl, hm⟩
     exact aN (fun j => bif j == 1 then 1 else bif j == 2 then 264 else 0) (wV (wV (wD ((CFi .i64).sl _ _ _) (wO (aX _ _ (bQ Z1 rfl Z7) aU))))) (hW (eU (CFi .u64) (aV (aO Z3 (Nat.le_refl _) (Nat.zero_le _) (bE.dat s_2)) aR)))
    ·
     refine AWp.skip ?_
     refine cA ?_
     refine dY ?_
     refine ⟨_, ?_, s_2, out_5, t8, t9, t10, rfl, hm⟩
     exact aN (fun j => bif j == 1 then 1 else bif j == 2 then 2 else 0) (wV (wV (wD ((CFi .i64).sl _ _ _) (wO (aX _ _ (bQ Z1 rfl Z7) aU))))) (hW (eU (CFi .u64) (aV (aO Z3 (Nat.le_refl _) (Nat.zero_le _) (bE.dat s_2)) aR)))
   ·
    rintro s ⟨s_2, out_5, t8, t9, t10, rfl, hm⟩
    unfold rH at hm
    refine AWp.reg 64 (N' := 128) rfl ?_
    iterate 2 refine pA ?_
    refine aE.fin ?_
    refine bU ?_
    refine ⟨_, ?_, s_2, out_5, t8, t9, (IntKind.i64.wrap (t10 + 1)), rfl, hm⟩
    exact aN (fun j => bif j == 1 then 1 else bif j == 2 then 2 else 0) (wV (wV (wD ((CFi .i64).sl _ _ _) (wO (aX _ _ (bQ Z1 rfl Z7) aU))))) (hW (eU (CFi .u64) (aV (aO Z3 (Nat.le_refl _) (Nat.zero_le _) (bE.dat s_2)) aR)))
  ·
   refine AWp.exit ?_
   refine cH ?_
   refine bW ?_
   refine bT ?_
   refine aF ?_
   refine sr (N' := 192) rfl ?_
   refine pA ?_
   obtain ⟨l10, h9, hm⟩ := bnd hm
   have qh9 := aCz h9
   refine aE.callM Zd Z1 bGh Z1 (aAn (aAf h9) Z3) ?_
   refine fs ?_
   refine sr (N' := 256) rfl ?_
   iterate 2 refine pA ?_
   refine fs ?_
   refine AWp.ret ?_
   cases hm
   exact bM (.inr rfl) Tryz.results76 (tdo (CFi .u64) Z1 Z3 Z6)
def lZ (rec1 : aI → Int → List Int → Int → Int → Option (Int)) (s_2 : aI) (many_5 : Int) (t8 : List Int) (t9 : Int) (t10 : Int) : Option (Int) :=
 rec1 s_2 many_5 t8 t9 (IntKind.i64.wrap (t10 + 1))
def qB (rec1 : aI → Int → List Int → Int → Int → Option (Int)) (s_2 : aI) (many_5 : Int) (t8 : List Int) (t9 : Int) (t10 : Int) : Option (Int) :=
 (bif (decide (t10 < t9)) then
  ((idx t8 t10).bind fun x2 =>
  ((fA ((t10 == x2) == true) (bC.mk false 0) (idx s_2.Slots t10)).bind fun x4 =>
  (bif ((t10 == x2) && x4.Used) then
   lZ rec1 s_2 (IntKind.i64.wrap (many_5 + 1)) t8 t9 t10
  else
   lZ rec1 s_2 many_5 t8 t9 t10)))
 else
  some many_5)
def jH : Nat → aI → Int → List Int → Int → Int → Option (Int)
 | 0 => fun _ _ _ _ _ => none
 | n + 1 => qB (jH n)
def sB (s_0 : aI) (kept_1 : List Int) : Option (Int) :=
 jH bY s_0 0 kept_1 (kept_1.length : Int) 0
theorem aF2 {s_0 : aI} {kept_1 : List Int} {r : Int} (hm : sB s_0 kept_1 = some r) : aT Tryz.prog 79 [.agg [.v (.int .i64 s_0.Graph.Config.N), .v (.int .i64 s_0.Graph.Config.L), .v (.int .i64 s_0.Graph.Config.R), .sl (s_0.Graph.Hashes.flatMap bA) s_0.Graph.Hashes.length false, .sl (s_0.Graph.Edges.flatMap aL) s_0.Graph.Edges.length false, .sl (s_0.Slots.flatMap aS) s_0.Slots.length false], .sl (kept_1.flatMap (ci .i64)) kept_1.length false] (.v (.int .i64 r)) := by
 refine aT.of_body Tryz.func79 rfl ?_
 simp only [Tryz.ntmps79, List.length_cons, List.length_nil, Nat.reduceAdd, Nat.reduceSub, aQ]
 unfold sB at hm
 refine sr (N' := 64) rfl ?_
 refine hp (id := 0) rfl rfl (bO Z1 Z5) ?_
 refine pA ?_
 refine fs ?_
 refine sr (N' := 128) rfl ?_
 refine pA ?_
 refine fs ?_
 refine AWp.seq' ?_
 refine sr (N' := 192) rfl ?_
 iterate 3 refine pA ?_
 refine fs ?_
 refine AWp.block ?_
 refine AWp.loopM (fun m s => ∃ (s_2 : aI) (many_5 : Int) (t8 : List Int) (t9 : Int) (t10 : Int), s = (⟨30, (aK (aK (aK (aK (aK (fun _ => AV.any) 2 (.adr 1 0)) 5 (.v (.int .i64 many_5))) 8 (.sl (t8.flatMap (ci .i64)) t8.length false)) 9 (.v (.int .i64 t9))) 10 (.v (.int .i64 t10))), ⟨(upd bL 1 (.cells 1 [.v (.int .i64 s_2.Graph.Config.N), .v (.int .i64 s_2.Graph.Config.L), .v (.int .i64 s_2.Graph.Config.R), .sl (s_2.Graph.Hashes.flatMap bA) s_2.Graph.Hashes.length false, .sl (s_2.Graph.Edges.flatMap aL) s_2.Graph.Edges.length false, .sl (s_2.Slots.flatMap aS) s_2.Slots.length false] 0)), 64⟩⟩ : St) ∧ jH m s_2 many_5 t8 t9 t10 = some r) bY ?_ ?_ ?_
 ·
  rintro s ⟨_, _, _, _, _, _, h⟩
  cases h
 ·
  refine ⟨_, ?_, s_0, 0, kept_1, (kept_1.length : Int), 0, rfl, hm⟩
  exact aN (fun j => bif j == 1 then 0 else 0) (wV (wV (wD ((CFi .i64).sl _ _ _) (wV (aX _ _ (bQ Z1 rfl Z7) aU))))) (hW (aV (aO Z3 (Nat.le_refl _) (Nat.zero_le _) (bE.dat s_0)) aR))
 ·
  rintro n1 s ⟨s_2, many_5, t8, t9, t10, rfl, hm⟩
  replace hm : qB (jH n1) s_2 many_5 t8 t9 t10 = some r := hm
  unfold qB at hm
  refine sr (N' := 128) rfl ?_
  refine pA ?_
  refine fs ?_
  refine AWp.seq' ?_
  refine AWp.condM hm Z1 (fun _ hm => ?_) (fun _ hm => ?_)
  ·
   refine AWp.skip ?_
   refine aF ?_
   refine AWp.seqJ (fun s => ∃ (s_2 : aI) (many_5 : Int) (t8 : List Int) (t9 : Int) (t10 : Int), s = (⟨30, (aK (aK (aK (aK (aK (fun _ => AV.any) 2 (.adr 1 0)) 5 (.v (.int .i64 many_5))) 8 (.sl (t8.flatMap (ci .i64)) t8.length false)) 9 (.v (.int .i64 t9))) 10 (.v (.int .i64 t10))), ⟨(upd bL 1 (.cells 1 [.v (.int .i64 s_2.Graph.Config.N), .v (.int .i64 s_2.Graph.Config.L), .v (.int .i64 s_2.Graph.Config.R), .sl (s_2.Graph.Hashes.flatMap bA) s_2.Graph.Hashes.length false, .sl (s_2.Graph.Edges.flatMap aL) s_2.Graph.Edges.length false, .sl (s_2.Slots.flatMap aS) s_2.Slots.length false] 0)), 64⟩⟩ : St) ∧ lZ (jH n1) s_2 many_5 t8 t9 t10 = some r) ?_ ?_
   ·
    refine AWp.block ?_
    refine sr (N' := 192) rfl ?_
    refine pA ?_
    obtain ⟨x2, h1, hm⟩ := bnd hm
    refine pu rfl (cP (CFi .i64) Zd Tryz.underlying112 sz3 Z1 rfl Z1 h1) ?_
    iterate 3 refine pA ?_
    refine fs ?_
    refine sr (N' := 256) rfl ?_
    iterate 5 first | refine pA ?_ | refine pB ?_
    refine pg rfl rfl Z2 (fun hb => (aD (Zh hb) Z3 Z4)) ?_
    refine pB ?_
    obtain ⟨x4, h3, hm⟩ := bnd hm
    refine pg rfl rfl Z2 (fun hb => (cP bF Zd Tryz.underlying31 mV (Zh hb) rfl (Zh hb) (dA h3 hb))) ?_
    iterate 3 first | refine pA ?_ | refine pB ?_
    refine fs ?_
    refine AWp.condM hm Z1 (fun _ hm => ?_) (fun _ hm => ?_)
    ·
     refine AWp.reg 64 (N' := 320) rfl ?_
     iterate 3 refine pA ?_
     refine aE.fin ?_
     refine cA ?_
     refine dY ?_
     refine ⟨_, ?_, s_2, (IntKind.i64.wrap (many_5 + 1)), t8, t9, t10, rfl, hm⟩
     exact aN (fun j => bif j == 1 then 1 else 0) (wV (wV (wD ((CFi .i64).sl _ _ _) (wV (aX _ _ (bQ Z1 rfl Z7) aU))))) (hW (aV (aO Z3 (Nat.le_refl _) (Nat.zero_le _) (bE.dat s_2)) aR))
    ·
     refine AWp.skip ?_
     refine cA ?_
     refine dY ?_
     refine ⟨_, ?_, s_2, many_5, t8, t9, t10, rfl, hm⟩
     exact aN (fun j => bif j == 1 then 1 else 0) (wV (wV (wD ((CFi .i64).sl _ _ _) (wV (aX _ _ (bQ Z1 rfl Z7) aU))))) (hW (aV (aO Z3 (Nat.le_refl _) (Nat.zero_le _) (bE.dat s_2)) aR))
   ·
    rintro s ⟨s_2, many_5, t8, t9, t10, rfl, hm⟩
    unfold lZ at hm
    refine AWp.reg 64 (N' := 128) rfl ?_
    iterate 2 refine pA ?_
    refine aE.fin ?_
    refine bU ?_
    refine ⟨_, ?_, s_2, many_5, t8, t9, (IntKind.i64.wrap (t10 + 1)), rfl, hm⟩
    exact aN (fun j => bif j == 1 then 1 else 0) (wV (wV (wD ((CFi .i64).sl _ _ _) (wV (aX _ _ (bQ Z1 rfl Z7) aU))))) (hW (aV (aO Z3 (Nat.le_refl _) (Nat.zero_le _) (bE.dat s_2)) aR))
  ·
   refine AWp.exit ?_
   refine cH ?_
   refine bW ?_
   refine bT ?_
   refine aF ?_
   refine sr (N' := 192) rfl ?_
   iterate 2 refine pA ?_
   refine fs ?_
   refine AWp.ret ?_
   cases hm
   exact bM (.inr rfl) Tryz.results79 (td Z1 (.v _))
def eR (cmp_3 : (bJ → bJ → Option (Int))) (rec1 : List bJ → Int → Int → Int → Option (List bJ)) (rec2 : List bJ → Int → Int → Int → Int → Option (List bJ)) (data_0 : List bJ) (a_1 : Int) (b_2 : Int) (i_8 : Int) (j_9 : Int) : Option (List bJ) :=
 ((fA ((decide (a_1 < j_9)) == true) (bJ.mk 0 0) (idx data_0 j_9)).bind fun x2 =>
 ((fA ((decide (a_1 < j_9)) == true) (bJ.mk 0 0) (idx data_0 (IntKind.i64.wrap (j_9 - 1)))).bind fun x4 =>
 ((fA ((decide (a_1 < j_9)) == true) 0 (cmp_3 x2 x4)).bind fun r6 =>
 (bif ((decide (a_1 < j_9)) && (decide (r6 < 0))) then
  ((idx data_0 (IntKind.i64.wrap (j_9 - 1))).bind fun x8 =>
  ((idx data_0 j_9).bind fun x10 =>
  ((idx data_0 j_9).bind fun x12 =>
  ((stt data_0 j_9 x8).bind fun l14 =>
  ((idx l14 (IntKind.i64.wrap (j_9 - 1))).bind fun x16 =>
  ((stt l14 (IntKind.i64.wrap (j_9 - 1)) x10).bind fun l18 =>
  rec2 l18 a_1 b_2 i_8 (IntKind.i64.wrap (j_9 - 1))))))))
 else
  rec1 data_0 a_1 b_2 (IntKind.i64.wrap (i_8 + 1))))))
def dW (cmp_3 : (bJ → bJ → Option (Int))) (rec1 : List bJ → Int → Int → Int → Option (List bJ)) : Nat → List bJ → Int → Int → Int → Int → Option (List bJ)
 | 0 => fun _ _ _ _ _ => none
 | n + 1 => eR cmp_3 rec1 (dW cmp_3 rec1 n)
def eP (cmp_3 : (bJ → bJ → Option (Int))) (rec1 : List bJ → Int → Int → Int → Option (List bJ)) (data_0 : List bJ) (a_1 : Int) (b_2 : Int) (i_8 : Int) : Option (List bJ) :=
 (bif (decide (i_8 < b_2)) then
  dW cmp_3 rec1 bY data_0 a_1 b_2 i_8 i_8
 else
  some data_0)
def cQ (cmp_3 : (bJ → bJ → Option (Int))) : Nat → List bJ → Int → Int → Int → Option (List bJ)
 | 0 => fun _ _ _ _ => none
 | n + 1 => eP cmp_3 (cQ cmp_3 n)
def eW (data_0 : List bJ) (a_1 : Int) (b_2 : Int) (cmp_3 : (bJ → bJ → Option (Int))) : Option (List bJ) :=
 cQ cmp_3 bY data_0 a_1 b_2 (IntKind.i64.wrap (a_1 + 1))
theorem mF {data_0 : List bJ} {a_1 : Int} {b_2 : Int} {cmp_3 : (bJ → bJ → Option (Int))} {r : List bJ} (hm : eW data_0 a_1 b_2 cmp_3 = some r) {g_cmp_3 : FuncId} {cap_cmp_3 : List AV} (hcap_cmp_3 : ∀ a, a ∈ cap_cmp_3 → AM.Data a) (hb_cmp_3 : (Program.funcs Tryz.prog)[g_cmp_3]?.any (fun fn => fn.body.isSome && fn.name != "runtime.NumGoroutine") = true) (hf_cmp_3 : ∀ {x0 x1 r}, cmp_3 x0 x1 = some r → aT Tryz.prog g_cmp_3 ([.agg [.v (.int .u64 x0.x0), .v (.int .u64 x0.x1)], .agg [.v (.int .u64 x1.x0), .v (.int .u64 x1.x1)]] ++ cap_cmp_3) (.v (.int .i64 r))) {H : aP} {i0 : Nat} (he : H.ent i0 = .cells 2 (data_0.flatMap eG) 0) : dR Tryz.prog 156 [.own i0 0 data_0.length, .v (.int .i64 a_1), .v (.int .i64 b_2), .clo (.func g_cmp_3) [] cap_cmp_3] H (.tup []) (H.put i0 (.cells 2 (r.flatMap eG) 0)) := by
 refine dR.of_bodyM Tryz.func156 rfl he ?_
 generalize H.ent = h0
 simp only [Tryz.ntmps156, List.length_cons, List.length_nil, Nat.reduceAdd, Nat.reduceSub]
 unfold eW at hm
 refine sr (N' := 64) rfl ?_
 iterate 3 refine pA ?_
 refine fs ?_
 refine AWp.block ?_
 refine AWp.loopM (fun m s => ∃ (data_0 : List bJ) (a_1 : Int) (b_2 : Int) (i_8 : Int), s = (⟨53, (aK (aK (aK (aK (aK (fun _ => AV.any) 0 (.own i0 0 data_0.length)) 1 (.v (.int .i64 a_1))) 2 (.v (.int .i64 b_2))) 3 (.clo (.func g_cmp_3) [] cap_cmp_3)) 8 (.v (.int .i64 i_8))), ⟨(upd h0 i0 (.cells 2 (data_0.flatMap eG) 0)), 64⟩⟩ : St) ∧ cQ cmp_3 m data_0 a_1 b_2 i_8 = some r) bY ?_ ?_ ?_
 ·
  rintro s ⟨_, _, _, _, _, h⟩
  cases h
 ·
  refine ⟨_, ?_, data_0, a_1, b_2, (IntKind.i64.wrap (a_1 + 1)), rfl, hm⟩
  exact pW (cK 8 _ Z1 (cK 3 _ Z1 (cK 2 _ Z1 (cK 1 _ Z1 (cK 0 _ (pY Z1 Z6) lX))))) (by simp only [gD]; try rfl)
 ·
  rintro n1 s ⟨data_0, a_1, b_2, i_8, rfl, hm⟩
  replace hm : eP cmp_3 (cQ cmp_3 n1) data_0 a_1 b_2 i_8 = some r := hm
  unfold eP at hm
  refine AWp.seq' ?_
  refine sr (N' := 128) rfl ?_
  iterate 3 refine pA ?_
  refine fs ?_
  refine AWp.condM hm Z1 (fun _ hm => ?_) (fun _ hm => ?_)
  ·
   refine AWp.skip ?_
   refine aF ?_
   refine AWp.seq' ?_
   refine AWp.block ?_
   refine sr (N' := 192) rfl ?_
   iterate 2 refine pA ?_
   refine fs ?_
   refine AWp.block ?_
   refine AWp.loopM (fun m s => ∃ (data_0 : List bJ) (a_1 : Int) (b_2 : Int) (i_8 : Int) (j_9 : Int), s = (⟨53, (aK (aK (aK (aK (aK (aK (fun _ => AV.any) 0 (.own i0 0 data_0.length)) 1 (.v (.int .i64 a_1))) 2 (.v (.int .i64 b_2))) 3 (.clo (.func g_cmp_3) [] cap_cmp_3)) 8 (.v (.int .i64 i_8))) 9 (.v (.int .i64 j_9))), ⟨(upd h0 i0 (.cells 2 (data_0.flatMap eG) 0)), 64⟩⟩ : St) ∧ dW cmp_3 (cQ cmp_3 n1) m data_0 a_1 b_2 i_8 j_9 = some r) bY ?_ ?_ ?_
   ·
    rintro s ⟨_, _, _, _, _, _, h⟩
    cases h
   ·
    refine ⟨_, ?_, data_0, a_1, b_2, i_8, i_8, rfl, hm⟩
    exact pW (cK 9 _ Z1 (cK 8 _ Z1 (cK 3 _ Z1 (cK 2 _ Z1 (cK 1 _ Z1 (cK 0 _ (pY Z1 Z6) lX)))))) (by simp only [gD]; try rfl)
   ·
    rintro n2 s ⟨data_0, a_1, b_2, i_8, j_9, rfl, hm⟩
    replace hm : eR cmp_3 (cQ cmp_3 n1) (dW cmp_3 (cQ cmp_3 n1) n2) data_0 a_1 b_2 i_8 j_9 = some r := hm
    unfold eR at hm
    refine AWp.seq' ?_
    refine sd mix (by kernel_rfl) (N' := 128) rfl ?_
    iterate 7 first | refine pA ?_ | refine pB ?_
    obtain ⟨x2, h1, hm⟩ := bnd hm
    refine pg rfl rfl Z2 (fun hb => (dD Tryz.underlying40 aHc (Zh hb) (by simp only [bP, beq_self_eq_true, Nat.reduceBEq, cond_true, cond_false]; try rfl) Z6 (Zh hb) (dA h1 hb))) ?_
    refine pg rfl rfl Z2 (fun hb => (jR eB (Zh hb) (by simp only [bP, beq_self_eq_true, Nat.reduceBEq, cond_true, cond_false]; try rfl) (dA h1 hb) (fun _ => by simp only [go_sem, Nat.reduceBEq]; try with_reducible rfl))) ?_
    iterate 3 refine pB ?_
    obtain ⟨x4, h3, hm⟩ := bnd hm
    refine pg rfl rfl Z2 (fun hb => (dD Tryz.underlying40 aHc (Zh hb) (by simp only [bP, beq_self_eq_true, Nat.reduceBEq, cond_true, cond_false]; try rfl) Z6 (Zh hb) (dA h3 hb))) ?_
    refine pg rfl rfl Z2 (fun hb => (jR eB (Zh hb) (by simp only [bP, beq_self_eq_true, Nat.reduceBEq, cond_true, cond_false]; try rfl) (dA h3 hb) (fun _ => by simp only [go_sem, Nat.reduceBEq]; try with_reducible rfl))) ?_
    obtain ⟨r6, h5, hm⟩ := bnd hm
    refine aE.callQCG (r := .v (.int .i64 r6)) Zd rfl Z2 (fun hb => (Zh hb)) hcap_cmp_3 hb_cmp_3 (fun hb H => (.cons (td (Zh hb) (.agg _ (eB.dat _))) (.cons (td (Zh hb) (.agg _ (eB.dat _))) .nil))) (fun hb => hf_cmp_3 (dA h5 hb)) ?_
    iterate 2 first | refine pA ?_ | refine pB ?_
    refine fs ?_
    refine AWp.condM hm Z1 (fun _ hm => ?_) (fun _ hm => ?_)
    ·
     refine AWp.skip ?_
     refine aF ?_
     refine AWp.seq' ?_
     refine AWp.block ?_
     refine AWp.regD 64 mix (by kernel_rfl) (N' := 192) rfl ?_
     iterate 8 refine pA ?_
     obtain ⟨x8, h7, hm⟩ := bnd hm
     refine pu rfl (dD Tryz.underlying40 aHc Z1 (by simp only [bP, beq_self_eq_true, Nat.reduceBEq, cond_true, cond_false]; try rfl) Z6 Z1 h7) ?_
     refine pu rfl (jR eB Z1 (by simp only [bP, beq_self_eq_true, Nat.reduceBEq, cond_true, cond_false]; try rfl) h7 (fun _ => by simp only [go_sem, Nat.reduceBEq]; try with_reducible rfl)) ?_
     iterate 2 refine pA ?_
     obtain ⟨x10, h9, hm⟩ := bnd hm
     refine pu rfl (dD Tryz.underlying40 aHc Z1 (by simp only [bP, beq_self_eq_true, Nat.reduceBEq, cond_true, cond_false]; try rfl) Z6 Z1 h9) ?_
     refine pu rfl (jR eB Z1 (by simp only [bP, beq_self_eq_true, Nat.reduceBEq, cond_true, cond_false]; try rfl) h9 (fun _ => by simp only [go_sem, Nat.reduceBEq]; try with_reducible rfl)) ?_
     obtain ⟨x12, h11, hm⟩ := bnd hm
     refine pu rfl (dD Tryz.underlying40 aHc Z1 (by simp only [bP, beq_self_eq_true, Nat.reduceBEq, cond_true, cond_false]; try rfl) Z6 Z1 h11) ?_
     obtain ⟨l14, h13, hm⟩ := bnd hm
     have qh13 := iC h13
     refine aE.heap0 (id := 143) rfl (mC eB aHc Z1 Z1 (by simp only [bP, beq_self_eq_true, Nat.reduceBEq, cond_true, cond_false]; try rfl) rfl h13) ?_
     obtain ⟨x16, h15, hm⟩ := bnd hm
     refine pu rfl (dD Tryz.underlying40 aHc Z1 (by simp only [bP, beq_self_eq_true, Nat.reduceBEq, cond_true, cond_false]; try rfl) Z6 Z1 h15) ?_
     obtain ⟨l18, h17, hm⟩ := bnd hm
     have qh17 := iC h17
     refine aE.heap0 (id := 145) rfl (mC eB aHc Z1 Z1 (by simp only [bP, beq_self_eq_true, Nat.reduceBEq, cond_true, cond_false]; try rfl) rfl h17) ?_
     refine aE.fin ?_
     refine cA ?_
     refine aF ?_
     refine AWp.reg 64 (N' := 256) rfl ?_
     iterate 3 refine pA ?_
     refine aE.fin ?_
     refine bU ?_
     refine ⟨_, ?_, l18, a_1, b_2, i_8, (IntKind.i64.wrap (j_9 - 1)), rfl, hm⟩
     exact pW (cK 9 _ Z1 (cK 8 _ Z1 (cK 3 _ Z1 (cK 2 _ Z1 (cK 1 _ Z1 (cK 0 _ (pY Z1 Z6) lX)))))) (by simp only [gD]; try rfl)
    ·
     refine AWp.exit ?_
     refine cH ?_
     refine bW ?_
     refine bT ?_
     refine cA ?_
     refine aF ?_
     refine AWp.reg 64 (N' := 192) rfl ?_
     iterate 3 refine pA ?_
     refine aE.fin ?_
     refine bU ?_
     refine ⟨_, ?_, data_0, a_1, b_2, (IntKind.i64.wrap (i_8 + 1)), rfl, hm⟩
     exact pW (cK 8 _ Z1 (cK 3 _ Z1 (cK 2 _ Z1 (cK 1 _ Z1 (cK 0 _ (pY Z1 Z6) lX))))) (by simp only [gD]; try rfl)
  ·
   refine AWp.exit ?_
   refine cH ?_
   refine bW ?_
   refine bT ?_
   cases hm
   exact aHm (.inl rfl) Tryz.results156 (by simp only [gD]; try rfl)
def fV (cmp_4 : (bJ → bJ → Option (Int))) (rec1 : List bJ → Int → Int → Int → Bool → Bool → Option (List bJ)) (data_0 : List bJ) (a_1 : Int) (b_2 : Int) (limit_3 : Int) (wasBalanced_10 : Bool) (wasPartitioned_11 : Bool) : Option (List bJ) :=
 (bif (decide ((IntKind.i64.wrap (b_2 - a_1)) ≤ 12)) then
  ((aGt (fun x => x.length) data_0.length (eW data_0 a_1 b_2 cmp_4)).bind fun l2 =>
  some l2)
 else
  (bif (limit_3 == 0) then
   none
  else
   none))
def eI (cmp_4 : (bJ → bJ → Option (Int))) : Nat → List bJ → Int → Int → Int → Bool → Bool → Option (List bJ)
 | 0 => fun _ _ _ _ _ _ => none
 | n + 1 => fV cmp_4 (eI cmp_4 n)
def fX (data_0 : List bJ) (a_1 : Int) (b_2 : Int) (limit_3 : Int) (cmp_4 : (bJ → bJ → Option (Int))) : Option (List bJ) :=
 eI cmp_4 bY data_0 a_1 b_2 limit_3 true true
theorem qD {data_0 : List bJ} {a_1 : Int} {b_2 : Int} {limit_3 : Int} {cmp_4 : (bJ → bJ → Option (Int))} {r : List bJ} (hm : fX data_0 a_1 b_2 limit_3 cmp_4 = some r) {g_cmp_4 : FuncId} {cap_cmp_4 : List AV} (hcap_cmp_4 : ∀ a, a ∈ cap_cmp_4 → AM.Data a) (hb_cmp_4 : (Program.funcs Tryz.prog)[g_cmp_4]?.any (fun fn => fn.body.isSome && fn.name != "runtime.NumGoroutine") = true) (hf_cmp_4 : ∀ {x0 x1 r}, cmp_4 x0 x1 = some r → aT Tryz.prog g_cmp_4 ([.agg [.v (.int .u64 x0.x0), .v (.int .u64 x0.x1)], .agg [.v (.int .u64 x1.x0), .v (.int .u64 x1.x1)]] ++ cap_cmp_4) (.v (.int .i64 r))) {H : aP} {i0 : Nat} (he : H.ent i0 = .cells 2 (data_0.flatMap eG) 0) : dR Tryz.prog 136 [.own i0 0 data_0.length, .v (.int .i64 a_1), .v (.int .i64 b_2), .v (.int .i64 limit_3), .clo (.func g_cmp_4) [] cap_cmp_4] H (.tup []) (H.put i0 (.cells 2 (r.flatMap eG) 0)) := by
 refine dR.of_bodyM Tryz.func136 rfl he ?_
 generalize H.ent = h0
 simp only [Tryz.ntmps136, List.length_cons, List.length_nil, Nat.reduceAdd, Nat.reduceSub]
 unfold fX at hm
 refine sr (N' := 64) rfl ?_
 refine pA ?_
 refine fs ?_
 refine sr (N' := 128) rfl ?_
 refine pA ?_
 refine fs ?_
 refine AWp.block ?_
 refine AWp.loopM (fun m s => ∃ (data_0 : List bJ) (a_1 : Int) (b_2 : Int) (limit_3 : Int) (wasBalanced_10 : Bool) (wasPartitioned_11 : Bool), s = (⟨148, (aK (aK (aK (aK (aK (aK (aK (fun _ => AV.any) 0 (.own i0 0 data_0.length)) 1 (.v (.int .i64 a_1))) 2 (.v (.int .i64 b_2))) 3 (.v (.int .i64 limit_3))) 4 (.clo (.func g_cmp_4) [] cap_cmp_4)) 10 (.v (.bool wasBalanced_10))) 11 (.v (.bool wasPartitioned_11))), ⟨(upd h0 i0 (.cells 2 (data_0.flatMap eG) 0)), 64⟩⟩ : St) ∧ eI cmp_4 m data_0 a_1 b_2 limit_3 wasBalanced_10 wasPartitioned_11 = some r) bY ?_ ?_ ?_
 ·
  rintro s ⟨_, _, _, _, _, _, _, h⟩
  cases h
 ·
  refine ⟨_, ?_, data_0, a_1, b_2, limit_3, true, true, rfl, hm⟩
  exact pW (cK 11 _ Z1 (cK 10 _ Z1 (cK 4 _ Z1 (cK 3 _ Z1 (cK 2 _ Z1 (cK 1 _ Z1 (cK 0 _ (pY Z1 Z6) lX))))))) (by simp only [gD]; try rfl)
 ·
  rintro n1 s ⟨data_0, a_1, b_2, limit_3, wasBalanced_10, wasPartitioned_11, rfl, hm⟩
  replace hm : fV cmp_4 (eI cmp_4 n1) data_0 a_1 b_2 limit_3 wasBalanced_10 wasPartitioned_11 = some r := hm
  unfold fV at hm
  refine AWp.block ?_
  refine sr (N' := 128) rfl ?_
  iterate 4 refine pA ?_
  refine fs ?_
  refine AWp.seq' ?_
  refine sr (N' := 192) rfl ?_
  iterate 2 refine pA ?_
  refine fs ?_
  refine AWp.condM hm Z1 (fun _ hm => ?_) (fun _ hm => ?_)
  ·
   refine sr (N' := 256) rfl ?_
   iterate 4 refine pA ?_
   obtain ⟨l2, h1, hm⟩ := bnd hm
   have qh1 := aCz h1
   refine aE.callM Zd Z1 bF7 Z1 (mF (aAf h1) hcap_cmp_4 hb_cmp_4 hf_cmp_4 (by simp only [bP, beq_self_eq_true, Nat.reduceBEq, cond_true, cond_false]; try rfl)) ?_
   refine fs ?_
   refine AWp.ret ?_
   refine bB ?_
   refine dB ?_
   refine eD ?_
   refine dB ?_
   cases hm
   exact aHm (.inr rfl) Tryz.results136 (by simp only [gD]; try rfl)
  ·
   refine AWp.skip ?_
   refine aF ?_
   refine AWp.seq' ?_
   refine sr (N' := 256) rfl ?_
   iterate 2 refine pA ?_
   refine fs ?_
   refine AWp.condM hm Z1 (fun _ hm => ?_) (fun _ hm => ?_)
   ·
    cases hm
   ·
    cases hm
def iO (x_0 : List bJ) (cmp_1 : (bJ → bJ → Option (Int))) : Option (List bJ) :=
 ((uR (IntKind.u64.wrap (x_0.length : Int))).bind fun r2 =>
 ((aGt (fun x => x.length) x_0.length (fX x_0 0 (x_0.length : Int) r2 cmp_1)).bind fun l4 =>
 some l4))
theorem vX {x_0 : List bJ} {cmp_1 : (bJ → bJ → Option (Int))} {r : List bJ} (hm : iO x_0 cmp_1 = some r) {g_cmp_1 : FuncId} {cap_cmp_1 : List AV} (hcap_cmp_1 : ∀ a, a ∈ cap_cmp_1 → AM.Data a) (hb_cmp_1 : (Program.funcs Tryz.prog)[g_cmp_1]?.any (fun fn => fn.body.isSome && fn.name != "runtime.NumGoroutine") = true) (hf_cmp_1 : ∀ {x0 x1 r}, cmp_1 x0 x1 = some r → aT Tryz.prog g_cmp_1 ([.agg [.v (.int .u64 x0.x0), .v (.int .u64 x0.x1)], .agg [.v (.int .u64 x1.x0), .v (.int .u64 x1.x1)]] ++ cap_cmp_1) (.v (.int .i64 r))) {H : aP} {i0 : Nat} (he : H.ent i0 = .cells 2 (x_0.flatMap eG) 0) : dR Tryz.prog 104 [.own i0 0 x_0.length, .clo (.func g_cmp_1) [] cap_cmp_1] H (.tup []) (H.put i0 (.cells 2 (r.flatMap eG) 0)) := by
 refine dR.of_bodyM Tryz.func104 rfl he ?_
 generalize H.ent = h0
 simp only [Tryz.ntmps104, List.length_cons, List.length_nil, Nat.reduceAdd, Nat.reduceSub]
 unfold iO at hm
 refine sr (N' := 64) rfl ?_
 iterate 3 refine pA ?_
 refine fs ?_
 refine AWp.reg 64 (N' := 128) rfl ?_
 iterate 4 refine pA ?_
 obtain ⟨r2, h1, hm⟩ := bnd hm
 refine aE.callQ (r := .v (.int .i64 r2)) Zd Z1 aUa (fun H => (cV .nil)) (aCt h1) ?_
 refine pA ?_
 obtain ⟨l4, h3, hm⟩ := bnd hm
 have qh3 := aCz h3
 refine aE.callM Zd Z1 bDx Z1 (qD (aAf h3) hcap_cmp_1 hb_cmp_1 hf_cmp_1 (by simp only [bP, beq_self_eq_true, Nat.reduceBEq, cond_true, cond_false]; try rfl)) ?_
 refine aE.fin ?_
 cases hm
 exact aHm (.inl rfl) Tryz.results104 (by simp only [gD]; try rfl)
def jB (x_0 : Int) (y_1 : Int) : Option (Int) :=
 ((gG x_0).bind fun r2 =>
 ((gG y_1).bind fun r4 =>
 (bif r2 then
  (bif r4 then
   some 0
  else
   some (-1))
 else
  (bif r4 then
   some 1
  else
   (bif (decide (x_0 < y_1)) then
    some (-1)
   else
    (bif (decide (y_1 < x_0)) then
     some 1
    else
     some 0))))))
theorem rR {x_0 : Int} {y_1 : Int} {r : Int} (hm : jB x_0 y_1 = some r) : aT Tryz.prog 107 [.v (.int .u64 x_0), .v (.int .u64 y_1)] (.v (.int .i64 r)) := by
 refine aT.of_body Tryz.func107 rfl ?_
 simp only [Tryz.ntmps107, List.length_cons, List.length_nil, Nat.reduceAdd, Nat.reduceSub, aQ]
 unfold jB at hm
 refine sr (N' := 64) rfl ?_
 refine pA ?_
 refine fs ?_
 refine sr (N' := 128) rfl ?_
 refine pA ?_
 obtain ⟨r2, h1, hm⟩ := bnd hm
 refine aE.callQ (r := .v (.bool r2)) Zd Z1 aPo (fun H => (cV .nil)) (kW h1) ?_
 refine pA ?_
 refine fs ?_
 refine sr (N' := 192) rfl ?_
 refine pA ?_
 obtain ⟨r4, h3, hm⟩ := bnd hm
 refine aE.callQ (r := .v (.bool r4)) Zd Z1 aPo (fun H => (cV .nil)) (kW h3) ?_
 refine pA ?_
 refine fs ?_
 refine AWp.seq' ?_
 refine sr (N' := 256) rfl ?_
 refine pA ?_
 refine fs ?_
 refine AWp.condM hm Z1 (fun _ hm => ?_) (fun _ hm => ?_)
 ·
  refine AWp.seq' ?_
  refine sr (N' := 320) rfl ?_
  refine pA ?_
  refine fs ?_
  refine AWp.condM hm Z1 (fun _ hm => ?_) (fun _ hm => ?_)
  ·
   refine sr (N' := 384) rfl ?_
   refine pA ?_
   refine fs ?_
   refine AWp.ret ?_
   refine bB ?_
   refine bB ?_
   cases hm
   exact bM (.inr rfl) Tryz.results107 (td Z1 (.v _))
  ·
   refine AWp.skip ?_
   refine aF ?_
   refine sr (N' := 384) rfl ?_
   refine pA ?_
   refine fs ?_
   refine AWp.ret ?_
   refine bB ?_
   cases hm
   exact bM (.inr rfl) Tryz.results107 (td Z1 (.v _))
 ·
  refine AWp.skip ?_
  refine aF ?_
  refine AWp.seq' ?_
  refine sr (N' := 320) rfl ?_
  refine pA ?_
  refine fs ?_
  refine AWp.condM hm Z1 (fun _ hm => ?_) (fun _ hm => ?_)
  ·
   refine sr (N' := 384) rfl ?_
   refine pA ?_
   refine fs ?_
   refine AWp.ret ?_
   refine bB ?_
   cases hm
   exact bM (.inr rfl) Tryz.results107 (td Z1 (.v _))
  ·
   refine AWp.skip ?_
   refine aF ?_
   refine AWp.seq' ?_
   refine sr (N' := 384) rfl ?_
   iterate 3 refine pA ?_
   refine fs ?_
   refine AWp.condM hm Z1 (fun _ hm => ?_) (fun _ hm => ?_)
   ·
    refine sr (N' := 448) rfl ?_
    refine pA ?_
    refine fs ?_
    refine AWp.ret ?_
    refine bB ?_
    cases hm
    exact bM (.inr rfl) Tryz.results107 (td Z1 (.v _))
   ·
    refine AWp.skip ?_
    refine aF ?_
    refine AWp.seq' ?_
    refine sr (N' := 448) rfl ?_
    iterate 3 refine pA ?_
    refine fs ?_
    refine AWp.condM hm Z1 (fun _ hm => ?_) (fun _ hm => ?_)
    ·
     refine sr (N' := 512) rfl ?_
     refine pA ?_
     refine fs ?_
     refine AWp.ret ?_
     refine bB ?_
     cases hm
     exact bM (.inr rfl) Tryz.results107 (td Z1 (.v _))
    ·
     refine AWp.skip ?_
     refine aF ?_
     refine sr (N' := 512) rfl ?_
     refine pA ?_
     refine fs ?_
     refine AWp.ret ?_
     cases hm
     exact bM (.inr rfl) Tryz.results107 (td Z1 (.v _))
end Go.Proofs.YtkdohhmacfoolaaGreat
