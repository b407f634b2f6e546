/- Facts that the statement's proof is made of. No condition. -/
import Derived.Test.YtkdohhmacfoolaaGreatNaGC1
import Derived.Test.YtkdohhmacfoolaaGreatNaAmQ
set_option linter.unusedVariables false
set_option linter.unusedSimpArgs false
set_option maxRecDepth 20000
set_option maxHeartbeats 4000000
namespace Go.Proofs.YtkdohhmacfoolaaGreat
open Go Go.AM
structure GIndexCommand where
 Do : Int
 A : Int
 B : Int
 Text : ByteArray
deriving DecidableEq
def cGIndexCommand (e : GIndexCommand) : List AV := [.v (.int .i64 e.Do), .v (.int .u64 e.A), .v (.int .u64 e.B), .v (.string e.Text)]
theorem CFGIndexCommand : CF cGIndexCommand 4 := ⟨fun _ => rfl, fun a x hx => by
 simp only [cGIndexCommand, List.mem_cons, List.not_mem_nil, or_false] at hx
 rcases hx with rfl | rfl | rfl | rfl
 ·
  exact (.v _)
 ·
  exact (.v _)
 ·
  exact (.v _)
 ·
  exact (.v _), fun _ => rfl⟩
theorem cGIndexCommand_app (e : GIndexCommand) (r : List AV) : cGIndexCommand e ++ r = .v (.int .i64 e.Do) :: .v (.int .u64 e.A) :: .v (.int .u64 e.B) :: .v (.string e.Text) :: r := rfl
attribute [go_sem] cGIndexCommand_app
structure GDrawWords where
 List : List Int
 At : Int
deriving DecidableEq
def cGDrawWords (e : GDrawWords) : List AV := [.sl (e.List.flatMap (ci .u64)) e.List.length false, .v (.int .i64 e.At)]
theorem CFGDrawWords : CF cGDrawWords 2 := ⟨fun _ => rfl, fun a x hx => by
 simp only [cGDrawWords, List.mem_cons, List.not_mem_nil, or_false] at hx
 rcases hx with rfl | rfl
 ·
  exact ((CFi .u64).sl _ _ _)
 ·
  exact (.v _), fun _ => rfl⟩
theorem cGDrawWords_app (e : GDrawWords) (r : List AV) : cGDrawWords e ++ r = .sl (e.List.flatMap (ci .u64)) e.List.length false :: .v (.int .i64 e.At) :: r := rfl
attribute [go_sem] cGDrawWords_app
structure GVertsSlot where
 Used : Bool
 Key : Int
deriving DecidableEq
def cGVertsSlot (e : GVertsSlot) : List AV := [.v (.bool e.Used), .v (.int .u64 e.Key)]
theorem CFGVertsSlot : CF cGVertsSlot 2 := ⟨fun _ => rfl, fun a x hx => by
 simp only [cGVertsSlot, List.mem_cons, List.not_mem_nil, or_false] at hx
 rcases hx with rfl | rfl
 ·
  exact (.v _)
 ·
  exact (.v _), fun _ => rfl⟩
theorem cGVertsSlot_app (e : GVertsSlot) (r : List AV) : cGVertsSlot e ++ r = .v (.bool e.Used) :: .v (.int .u64 e.Key) :: r := rfl
attribute [go_sem] cGVertsSlot_app
structure GSnapState where
 Graph : GGraph
 Slots : List GVertsSlot
deriving DecidableEq
def cGSnapState (e : GSnapState) : List AV := [.v (.int .i64 e.Graph.Config.N), .v (.int .i64 e.Graph.Config.L), .v (.int .i64 e.Graph.Config.R), .sl (e.Graph.Hashes.flatMap cGHash) e.Graph.Hashes.length false, .sl (e.Graph.Edges.flatMap cGEdge) e.Graph.Edges.length false, .sl (e.Slots.flatMap cGVertsSlot) e.Slots.length false]
theorem CFGSnapState : CF cGSnapState 6 := ⟨fun _ => rfl, fun a x hx => by
 simp only [cGSnapState, List.mem_cons, List.not_mem_nil, or_false] at hx
 rcases hx with rfl | rfl | rfl | rfl | rfl | rfl
 ·
  exact (.v _)
 ·
  exact (.v _)
 ·
  exact (.v _)
 ·
  exact (CFGHash.sl _ _ _)
 ·
  exact (CFGEdge.sl _ _ _)
 ·
  exact (CFGVertsSlot.sl _ _ _), fun _ => rfl⟩
theorem cGSnapState_app (e : GSnapState) (r : List AV) : cGSnapState e ++ r = .v (.int .i64 e.Graph.Config.N) :: .v (.int .i64 e.Graph.Config.L) :: .v (.int .i64 e.Graph.Config.R) :: .sl (e.Graph.Hashes.flatMap cGHash) e.Graph.Hashes.length false :: .sl (e.Graph.Edges.flatMap cGEdge) e.Graph.Edges.length false :: .sl (e.Slots.flatMap cGVertsSlot) e.Slots.length false :: r := rfl
attribute [go_sem] cGSnapState_app
structure GDictPair where
 Key : Int
 N : Int
deriving DecidableEq
def cGDictPair (e : GDictPair) : List AV := [.v (.int .u64 e.Key), .v (.int .i64 e.N)]
theorem CFGDictPair : CF cGDictPair 2 := ⟨fun _ => rfl, fun a x hx => by
 simp only [cGDictPair, List.mem_cons, List.not_mem_nil, or_false] at hx
 rcases hx with rfl | rfl
 ·
  exact (.v _)
 ·
  exact (.v _), fun _ => rfl⟩
theorem cGDictPair_app (e : GDictPair) (r : List AV) : cGDictPair e ++ r = .v (.int .u64 e.Key) :: .v (.int .i64 e.N) :: r := rfl
attribute [go_sem] cGDictPair_app
inductive GSeqSeqPair where
 | nil
 | mk (ahead : GSeqSeqPair) (behind : GSeqSeqPair) (thing : GDictPair) (height : Int) (size : Int)
def GSeqSeqPair.ahead : GSeqSeqPair → GSeqSeqPair
 | .nil => GSeqSeqPair.nil
 | .mk ahead behind thing height size => ahead
def GSeqSeqPair.behind : GSeqSeqPair → GSeqSeqPair
 | .nil => GSeqSeqPair.nil
 | .mk ahead behind thing height size => behind
def GSeqSeqPair.thing : GSeqSeqPair → GDictPair
 | .nil => (GDictPair.mk 0 0)
 | .mk ahead behind thing height size => thing
def GSeqSeqPair.height : GSeqSeqPair → Int
 | .nil => 0
 | .mk ahead behind thing height size => height
def GSeqSeqPair.size : GSeqSeqPair → Int
 | .nil => 0
 | .mk ahead behind thing height size => size
def GSeqSeqPair.nn : GSeqSeqPair → Bool
 | .nil => false
 | .mk _ _ _ _ _ => true
def GSeqSeqPair.av : GSeqSeqPair → AV
 | .nil => .v (.pointer none)
 | .mk ahead behind thing height size => .ptr [ahead.av, behind.av, .v (.int .u64 thing.Key), .v (.int .i64 thing.N), .v (.int .i64 height), .v (.int .i64 size)]
theorem GSeqSeqPair.data : (e : GSeqSeqPair) → AM.Data e.av
 | .nil => .v _
 | .mk ahead behind thing height size => .ptr _ (fun a hx => by
  simp only [List.mem_cons, List.not_mem_nil, or_false] at hx
  rcases hx with rfl | rfl | rfl | rfl | rfl | rfl
  ·
   exact ahead.data
  ·
   exact behind.data
  ·
   exact (.v _)
  ·
   exact (.v _)
  ·
   exact (.v _)
  ·
   exact (.v _))
theorem GSeqSeqPair.av_nn {e : GSeqSeqPair} (h : e.nn = true) : e.av = .ptr [GSeqSeqPair.av e.ahead, GSeqSeqPair.av e.behind, .v (.int .u64 e.thing.Key), .v (.int .i64 e.thing.N), .v (.int .i64 e.height), .v (.int .i64 e.size)] := by
 cases e with
 | nil => cases h
 | mk ahead behind thing height size => rfl
theorem GSeqSeqPair.isn (e : GSeqSeqPair) : ((!e.nn) = true ∧ e.av = .v (.pointer none)) ∨ ((!e.nn) = false ∧ ∃ xs, e.av = .ptr xs) := by
 cases e with
 | nil => exact .inl ⟨rfl, rfl⟩
 | mk ahead behind thing height size => exact .inr ⟨rfl, _, rfl⟩
theorem GSeqSeqPair.cells (e : GSeqSeqPair) : e.av.cells? = some [e.av] := by cases e <;> rfl
theorem GSeqSeqPair.one (e : GSeqSeqPair) : e.av.one = true := by cases e <;> rfl
structure GDictDict where
 s : GSeqSeqPair
def cGDictDict (e : GDictDict) : List AV := [GSeqSeqPair.av e.s]
theorem CFGDictDict : CF cGDictDict 1 := ⟨fun _ => rfl, fun a x hx => by
 simp only [cGDictDict, List.mem_cons, List.not_mem_nil, or_false] at hx
 rcases hx with rfl
 ·
  exact (GSeqSeqPair.data a.s), fun e => by unfold cGDictDict; simp only [List.all_cons, List.all_nil, Bool.and_true, GSeqSeqPair.one]; try rfl⟩
theorem cGDictDict_app (e : GDictDict) (r : List AV) : cGDictDict e ++ r = GSeqSeqPair.av e.s :: r := rfl
attribute [go_sem] cGDictDict_app
theorem bp130GI1 {a0 : AV} (a0h : a0.cells? = some [a0]) : abuild Tryz.prog 130 [(0, a0)] = some (.agg [a0]) := by
 unfold abuild
 rw [zc130, Tryz.underlying130]
 simp only []
 rw [(by kernel_rfl : placesOf Tryz.prog _ = some [(0, 1)])]
 simp only []
 simp [afill, a0h, cells_agg, cells_int, cells_bool]
theorem bp192GI1 {a0 : AV} {a1 : AV} {a2_Key : Int} {a2_N : Int} {a3 : Int} {a4 : Int} (a0h : a0.cells? = some [a0]) (a1h : a1.cells? = some [a1]) : abuild Tryz.prog 192 [(0, a0), (1, a1), (2, .agg [.v (.int .u64 a2_Key), .v (.int .i64 a2_N)]), (3, .v (.int .i64 a3)), (4, .v (.int .i64 a4))] = some (.agg [a0, a1, .v (.int .u64 a2_Key), .v (.int .i64 a2_N), .v (.int .i64 a3), .v (.int .i64 a4)]) := by
 unfold abuild
 rw [zc192, Tryz.underlying192]
 simp only []
 rw [(by kernel_rfl : placesOf Tryz.prog _ = some [(0, 1), (1, 1), (2, 2), (4, 1), (5, 1)])]
 simp only []
 simp [afill, a0h, a1h, cells_agg, cells_int, cells_bool]
theorem fa104_0GI1 (xs : List AV) : afieldAddr Tryz.prog 104 (.ptr (xs)) 0 = some (.ptr xs) := by kernel_rfl
attribute [go_sem] fa104_0GI1
theorem fa104_1GI1 (x0 : AV) (xs : List AV) : afieldAddr Tryz.prog 104 (.ptr (x0 :: xs)) 1 = some (.ptr xs) := by kernel_rfl
attribute [go_sem] fa104_1GI1
theorem fa130_0GI1 (xs : List AV) : afieldAddr Tryz.prog 130 (.ptr (xs)) 0 = some (.ptr xs) := by kernel_rfl
attribute [go_sem] fa130_0GI1
theorem fa192_0GI1 (xs : List AV) : afieldAddr Tryz.prog 192 (.ptr (xs)) 0 = some (.ptr xs) := by kernel_rfl
attribute [go_sem] fa192_0GI1
theorem fa192_1GI1 (x0 : AV) (xs : List AV) : afieldAddr Tryz.prog 192 (.ptr (x0 :: xs)) 1 = some (.ptr xs) := by kernel_rfl
attribute [go_sem] fa192_1GI1
theorem fa192_2GI1 (x0 : AV) (x1 : AV) (xs : List AV) : afieldAddr Tryz.prog 192 (.ptr (x0 :: x1 :: xs)) 2 = some (.ptr xs) := by kernel_rfl
attribute [go_sem] fa192_2GI1
theorem fa192_3GI1 (x0 : AV) (x1 : AV) (x2 : AV) (x3 : AV) (xs : List AV) : afieldAddr Tryz.prog 192 (.ptr (x0 :: x1 :: x2 :: x3 :: xs)) 3 = some (.ptr xs) := by kernel_rfl
attribute [go_sem] fa192_3GI1
theorem fa192_4GI1 (x0 : AV) (x1 : AV) (x2 : AV) (x3 : AV) (x4 : AV) (xs : List AV) : afieldAddr Tryz.prog 192 (.ptr (x0 :: x1 :: x2 :: x3 :: x4 :: xs)) 4 = some (.ptr xs) := by kernel_rfl
attribute [go_sem] fa192_4GI1
theorem fo102_0GI1 (i o : Nat) : afieldAddr Tryz.prog 102 (.adr i o) 0 = some (.adr i (o + 0)) := by kernel_rfl
attribute [go_sem] fo102_0GI1
theorem fo102_1GI1 (i o : Nat) : afieldAddr Tryz.prog 102 (.adr i o) 1 = some (.adr i (o + 1)) := by kernel_rfl
attribute [go_sem] fo102_1GI1
theorem fo104_0GI1 (i o : Nat) : afieldAddr Tryz.prog 104 (.adr i o) 0 = some (.adr i (o + 0)) := by kernel_rfl
attribute [go_sem] fo104_0GI1
theorem fo104_1GI1 (i o : Nat) : afieldAddr Tryz.prog 104 (.adr i o) 1 = some (.adr i (o + 1)) := by kernel_rfl
attribute [go_sem] fo104_1GI1
theorem fo130_0GI1 (i o : Nat) : afieldAddr Tryz.prog 130 (.adr i o) 0 = some (.adr i (o + 0)) := by kernel_rfl
attribute [go_sem] fo130_0GI1
theorem fo158_0GI1 (i o : Nat) : afieldAddr Tryz.prog 158 (.adr i o) 0 = some (.adr i (o + 0)) := by kernel_rfl
attribute [go_sem] fo158_0GI1
theorem fo158_1GI1 (i o : Nat) : afieldAddr Tryz.prog 158 (.adr i o) 1 = some (.adr i (o + 1)) := by kernel_rfl
attribute [go_sem] fo158_1GI1
theorem fo23_0GI1 (i o : Nat) : afieldAddr Tryz.prog 23 (.adr i o) 0 = some (.adr i (o + 0)) := by kernel_rfl
attribute [go_sem] fo23_0GI1
theorem fo23_1GI1 (i o : Nat) : afieldAddr Tryz.prog 23 (.adr i o) 1 = some (.adr i (o + 1)) := by kernel_rfl
attribute [go_sem] fo23_1GI1
theorem fo23_2GI1 (i o : Nat) : afieldAddr Tryz.prog 23 (.adr i o) 2 = some (.adr i (o + 2)) := by kernel_rfl
attribute [go_sem] fo23_2GI1
theorem fo30_0GI1 (i o : Nat) : afieldAddr Tryz.prog 30 (.adr i o) 0 = some (.adr i (o + 0)) := by kernel_rfl
attribute [go_sem] fo30_0GI1
theorem fo30_2GI1 (i o : Nat) : afieldAddr Tryz.prog 30 (.adr i o) 2 = some (.adr i (o + 4)) := by kernel_rfl
attribute [go_sem] fo30_2GI1
theorem fo33_0GI1 (i o : Nat) : afieldAddr Tryz.prog 33 (.adr i o) 0 = some (.adr i (o + 0)) := by kernel_rfl
attribute [go_sem] fo33_0GI1
theorem fo33_1GI1 (i o : Nat) : afieldAddr Tryz.prog 33 (.adr i o) 1 = some (.adr i (o + 5)) := by kernel_rfl
attribute [go_sem] fo33_1GI1
theorem fo35_0GI1 (i o : Nat) : afieldAddr Tryz.prog 35 (.adr i o) 0 = some (.adr i (o + 0)) := by kernel_rfl
attribute [go_sem] fo35_0GI1
theorem fo35_1GI1 (i o : Nat) : afieldAddr Tryz.prog 35 (.adr i o) 1 = some (.adr i (o + 1)) := by kernel_rfl
attribute [go_sem] fo35_1GI1
theorem fo45_3GI1 (i o : Nat) : afieldAddr Tryz.prog 45 (.adr i o) 3 = some (.adr i (o + 3)) := by kernel_rfl
attribute [go_sem] fo45_3GI1
theorem ld102GI1 (H : Heap) (x0 x1 x2 : AV) (xs : List AV) : aload Tryz.prog H 102 (.ptr (x0 :: x1 :: x2 :: xs)) = some (.agg [x0, x1, x2]) := by kernel_rfl
attribute [go_sem] ld102GI1
theorem ld104GI1 (H : Heap) (x0 x1 : AV) (xs : List AV) : aload Tryz.prog H 104 (.ptr (x0 :: x1 :: xs)) = some (.agg [x0, x1]) := by kernel_rfl
attribute [go_sem] ld104GI1
theorem ld128GI1 (H : Heap) (x : AV) (xs : List AV) : aload Tryz.prog H 128 (.ptr (x :: xs)) = some x := by kernel_rfl
attribute [go_sem] ld128GI1
theorem ld130GI1 (H : Heap) (x0 : AV) (xs : List AV) : aload Tryz.prog H 130 (.ptr (x0 :: xs)) = some (.agg [x0]) := by kernel_rfl
attribute [go_sem] ld130GI1
theorem ld158GI1 (H : Heap) (x0 x1 : AV) (xs : List AV) : aload Tryz.prog H 158 (.ptr (x0 :: x1 :: xs)) = some (.agg [x0, x1]) := by kernel_rfl
attribute [go_sem] ld158GI1
theorem ld23GI1 (H : Heap) (x0 x1 x2 : AV) (xs : List AV) : aload Tryz.prog H 23 (.ptr (x0 :: x1 :: x2 :: xs)) = some (.agg [x0, x1, x2]) := by kernel_rfl
attribute [go_sem] ld23GI1
theorem ld24GI1 (H : Heap) (x : AV) (xs : List AV) : aload Tryz.prog H 24 (.ptr (x :: xs)) = some x := by kernel_rfl
attribute [go_sem] ld24GI1
theorem ld28GI1 (H : Heap) (x : AV) (xs : List AV) : aload Tryz.prog H 28 (.ptr (x :: xs)) = some x := by kernel_rfl
attribute [go_sem] ld28GI1
theorem ld3GI1 (H : Heap) (x : AV) (xs : List AV) : aload Tryz.prog H 3 (.ptr (x :: xs)) = some x := by kernel_rfl
attribute [go_sem] ld3GI1
theorem ld30GI1 (H : Heap) (x0 x1 x2 x3 x4 : AV) (xs : List AV) : aload Tryz.prog H 30 (.ptr (x0 :: x1 :: x2 :: x3 :: x4 :: xs)) = some (.agg [x0, x1, x2, x3, x4]) := by kernel_rfl
attribute [go_sem] ld30GI1
theorem ld31GI1 (H : Heap) (x : AV) (xs : List AV) : aload Tryz.prog H 31 (.ptr (x :: xs)) = some x := by kernel_rfl
attribute [go_sem] ld31GI1
theorem ld33GI1 (H : Heap) (x0 x1 x2 x3 x4 x5 : AV) (xs : List AV) : aload Tryz.prog H 33 (.ptr (x0 :: x1 :: x2 :: x3 :: x4 :: x5 :: xs)) = some (.agg [x0, x1, x2, x3, x4, x5]) := by kernel_rfl
attribute [go_sem] ld33GI1
theorem ld35GI1 (H : Heap) (x0 x1 : AV) (xs : List AV) : aload Tryz.prog H 35 (.ptr (x0 :: x1 :: xs)) = some (.agg [x0, x1]) := by kernel_rfl
attribute [go_sem] ld35GI1
theorem ld4GI1 (H : Heap) (x : AV) (xs : List AV) : aload Tryz.prog H 4 (.ptr (x :: xs)) = some x := by kernel_rfl
attribute [go_sem] ld4GI1
theorem ld43GI1 (H : Heap) (x : AV) (xs : List AV) : aload Tryz.prog H 43 (.ptr (x :: xs)) = some x := by kernel_rfl
attribute [go_sem] ld43GI1
theorem ld45GI1 (H : Heap) (x0 x1 x2 x3 : AV) (xs : List AV) : aload Tryz.prog H 45 (.ptr (x0 :: x1 :: x2 :: x3 :: xs)) = some (.agg [x0, x1, x2, x3]) := by kernel_rfl
attribute [go_sem] ld45GI1
theorem ld69GI1 (H : Heap) (x0 x1 : AV) (xs : List AV) : aload Tryz.prog H 69 (.ptr (x0 :: x1 :: xs)) = some (.agg [x0, x1]) := by kernel_rfl
attribute [go_sem] ld69GI1
theorem ld9GI1 (H : Heap) (x : AV) (xs : List AV) : aload Tryz.prog H 9 (.ptr (x :: xs)) = some x := by kernel_rfl
attribute [go_sem] ld9GI1
theorem cv3_198GI1 (H : Heap) (k : IntKind) (n : Int) : aconv Tryz.prog H 3 198 (.v (.int k n)) = some (.v (.int .u64 (IntKind.u64.wrap n))) := aconv_int Tryz.underlying3 Tryz.underlying198
attribute [go_sem] cv3_198GI1
theorem cv198_3GI1 (H : Heap) (k : IntKind) (n : Int) : aconv Tryz.prog H 198 3 (.v (.int k n)) = some (.v (.int .i64 (IntKind.i64.wrap n))) := aconv_int Tryz.underlying198 Tryz.underlying3
attribute [go_sem] cv198_3GI1
def drawRight_m (w_0 : GDrawWords) : Option (Bool) :=
 some ((decide (0 ≤ w_0.At)) && (decide (w_0.At ≤ (w_0.List.length : Int))))
theorem drawRight_c {w_0 : GDrawWords} {r : Bool} (hm : drawRight_m w_0 = some r) : PureC Tryz.prog 67 [.agg [.sl (w_0.List.flatMap (ci .u64)) w_0.List.length false, .v (.int .i64 w_0.At)]] (.v (.bool r)) := by
 refine PureC.of_body Tryz.func67 rfl ?_
 simp only [Tryz.ntmps67, List.length_cons, List.length_nil, Nat.reduceAdd, Nat.reduceSub, empty_eq]
 unfold drawRight_m at hm
 refine sr (N' := 64) rfl ?_
 refine hp (id := 0) rfl rfl (aheap_box Z1 Z5) ?_
 refine pA ?_
 refine fs ?_
 refine sr (N' := 128) rfl ?_
 refine pA ?_
 refine pu rfl (ap_ldv Z1 Z3 Z4) ?_
 iterate 3 first | refine pA ?_ | refine pB ?_
 refine pg rfl rfl Z2 (fun hb => (ap_ldv (Zh hb) Z3 Z4)) ?_
 refine pB ?_
 refine pg rfl rfl Z2 (fun hb => (ap_ldv (Zh hb) Z3 Z4)) ?_
 iterate 4 first | refine pA ?_ | refine pB ?_
 refine fs ?_
 refine AWp.ret ?_
 cases hm
 exact ret1D (.inr rfl) Tryz.results67 (td Z1 (.v _))
def drawBelow_B1 (rec1 : GDrawWords → GDrawWords → Int → Option (Int × GDrawWords × Int)) (w_1 : GDrawWords) (t3 : GDrawWords) (at_5 : Int) : Option (Int × GDrawWords × Int) :=
 (bif (decide (at_5 < (w_1.List.length : Int))) then
  ((idx w_1.List at_5).bind fun x4 =>
  (bif (decide ((band .u64 x4 2305843009213693951) < 2305843009213693951)) then
   some ((band .u64 x4 2305843009213693951), (GDrawWords.mk w_1.List (IntKind.i64.wrap (at_5 + 1))), 0)
  else
   rec1 w_1 t3 (IntKind.i64.wrap (at_5 + 1))))
 else
  some (0, w_1, 5))
def drawBelow_L1 : Nat → GDrawWords → GDrawWords → Int → Option (Int × GDrawWords × Int)
 | 0 => fun _ _ _ => none
 | n + 1 => drawBelow_B1 (drawBelow_L1 n)
def drawBelow_m (w_0 : GDrawWords) : Option (Int × GDrawWords × Int) :=
 ((drawRight_m w_0).bind fun r2 =>
 (bif (!r2) then
  some (0, w_0, 1)
 else
  drawBelow_L1 FUEL w_0 (GDrawWords.mk [] 0) w_0.At))
theorem drawBelow_c {w_0 : GDrawWords} {r : Int × GDrawWords × Int} (hm : drawBelow_m w_0 = some r) : PureC Tryz.prog 68 [.agg [.sl (w_0.List.flatMap (ci .u64)) w_0.List.length false, .v (.int .i64 w_0.At)]] (.tup [.v (.int .u64 r.1), .agg [.sl (r.2.1.List.flatMap (ci .u64)) r.2.1.List.length false, .v (.int .i64 r.2.1.At)], .v (.int .i64 r.2.2)]) := by
 refine PureC.of_body Tryz.func68 rfl ?_
 simp only [Tryz.ntmps68, List.length_cons, List.length_nil, Nat.reduceAdd, Nat.reduceSub, empty_eq]
 unfold drawBelow_m at hm
 refine sr (N' := 64) rfl ?_
 refine hp (id := 0) rfl rfl (aheap_box Z1 Z5) ?_
 refine pA ?_
 refine hp (id := 2) rfl rfl (aheap_alloc' zc35 Z5) ?_
 refine pA ?_
 refine fs ?_
 refine AWp.seq' ?_
 refine sr (N' := 128) rfl ?_
 refine pu rfl (ap_ldv Z1 Z3 Z2) ?_
 obtain ⟨r2, h1, hm⟩ := bnd hm
 refine ARun.callQ (r := .v (.bool r2)) Zd Z1 fb67 (fun H => (cD (.agg _ (CFGDrawWords.dat _)) .nil)) (drawRight_c h1) ?_
 refine pA ?_
 refine fs ?_
 refine AWp.condM hm Z1 (fun _ hm => ?_) (fun _ hm => ?_)
 ·
  refine sd mix (by kernel_rfl) (N' := 192) rfl ?_
  refine pu rfl (ap_ldv Z1 Z3 Z2) ?_
  refine pA ?_
  refine ARun.heap0 (id := 130) rfl (ah_var (ys := [.sl (w_0.List.flatMap (ci .u64)) w_0.List.length false, .v (.int .i64 w_0.At)]) sz35 Z1 Z1 Z3 rfl (Nat.le_of_ble_eq_true rfl) Z9 rfl) ?_
  refine pA ?_
  refine fs ?_
  refine AWp.ret ?_
  refine retSeq ?_
  cases hm
  exact retL (.inr rfl) (by rw [Tryz.results68]) (.tmp Z1 (.cell (ap_ldv' Z1 Z3 Z2) (.tmp Z1 .nil))) rfl (tdt (.cons (td rfl (.v _)) (.cons (td rfl (.agg _ (CFGDrawWords.dat _))) (.cons (td rfl (.v _)) .nil))))
 ·
  refine AWp.skip ?_
  refine normSeq ?_
  refine AWp.seq' ?_
  refine sr (N' := 192) rfl ?_
  refine pA ?_
  refine pu rfl (ap_ldv Z1 Z3 Z4) ?_
  refine pA ?_
  refine fs ?_
  refine AWp.block ?_
  refine AWp.loopM (fun m s => ∃ (w_1 : GDrawWords) (t3 : GDrawWords) (at_5 : Int), s = (⟨35, (fset (fset (fset (fun _ => AV.any) 1 (.adr 1 0)) 3 (.adr 2 0)) 5 (.v (.int .i64 at_5))), ⟨(upd (upd nofresh 1 (.cells 1 [.sl (w_1.List.flatMap (ci .u64)) w_1.List.length false, .v (.int .i64 w_1.At)] 0)) 2 (.cells 1 [.sl (t3.List.flatMap (ci .u64)) t3.List.length false, .v (.int .i64 t3.At)] 0)), 64⟩⟩ : St) ∧ drawBelow_L1 m w_1 t3 at_5 = some r) FUEL ?_ ?_ ?_
  ·
   rintro s ⟨_, _, _, _, h⟩
   cases h
  ·
   refine ⟨_, ?_, w_0, (GDrawWords.mk [] 0), w_0.At, rfl, hm⟩
   refine St.Le.trans (le_cells 2 (ys := [.sl (((GDrawWords.mk [] 0).List).flatMap (ci .u64)) ((GDrawWords.mk [] 0).List).length false, .v (.int .i64 ((GDrawWords.mk [] 0).At))]) Z3 (.cons (.nil false) (.cons (.data _ (.v _)) .nil))) ?_
   exact le_canon (fun j => bif j == 1 then 0 else bif j == 2 then 2 else 0) (wV (wk_fset _ _ (wk_adr Z1 rfl Z7) (wk_fset _ _ (wk_adr Z1 rfl Z7) wk_none))) (hW (entWk_upd (entWk_data Z3 (Nat.le_refl _) (Nat.zero_le _) (CFGDrawWords.dat (GDrawWords.mk [] 0))) (entWk_upd (entWk_data Z3 (Nat.le_refl _) (Nat.zero_le _) (CFGDrawWords.dat w_0)) entWk_none)))
  ·
   rintro n1 s ⟨w_1, t3, at_5, rfl, hm⟩
   replace hm : drawBelow_B1 (drawBelow_L1 n1) w_1 t3 at_5 = some r := hm
   unfold drawBelow_B1 at hm
   refine AWp.seq' ?_
   refine sr (N' := 128) rfl ?_
   iterate 2 refine pA ?_
   refine pu rfl (ap_ldv Z1 Z3 Z4) ?_
   iterate 2 refine pA ?_
   refine fs ?_
   refine AWp.condM hm Z1 (fun _ hm => ?_) (fun _ hm => ?_)
   ·
    refine AWp.skip ?_
    refine normSeq ?_
    refine AWp.seq' ?_
    refine AWp.block ?_
    refine sr (N' := 192) rfl ?_
    refine pA ?_
    refine pu rfl (ap_ldv Z1 Z3 Z4) ?_
    refine pA ?_
    obtain ⟨x4, h3, hm⟩ := bnd hm
    refine pu rfl (ap_idx (CFi .u64) Zd Tryz.underlying24 sz43 Z1 rfl Z1 h3) ?_
    iterate 3 refine pA ?_
    refine fs ?_
    refine sr (N' := 256) rfl ?_
    iterate 2 refine pA ?_
    refine fs ?_
    refine AWp.condM hm Z1 (fun _ hm => ?_) (fun _ hm => ?_)
    ·
     refine sd mix (by kernel_rfl) (N' := 320) rfl ?_
     iterate 2 refine pA ?_
     refine pu rfl (ap_ldv Z1 Z3 Z4) ?_
     iterate 2 refine pA ?_
     refine pu rfl (by simp only [go_sem, Nat.reduceBEq]; exact (by kernel_rfl : abuild Tryz.prog 35 [(0, .sl (w_1.List.flatMap (ci .u64)) w_1.List.length false), (1, .v (.int .i64 (IntKind.i64.wrap (at_5 + 1))))] = some (.agg [.sl (w_1.List.flatMap (ci .u64)) w_1.List.length false, .v (.int .i64 (IntKind.i64.wrap (at_5 + 1)))]))) ?_
     refine pA ?_
     refine ARun.heap0 (id := 263) rfl (ah_var (ys := [.sl (w_1.List.flatMap (ci .u64)) w_1.List.length false, .v (.int .i64 (IntKind.i64.wrap (at_5 + 1)))]) sz35 Z1 Z1 Z3 rfl (Nat.le_of_ble_eq_true rfl) Z9 rfl) ?_
     refine pA ?_
     refine fs ?_
     refine AWp.ret ?_
     refine retIn ?_
     refine retSeq ?_
     refine retThen ?_
     refine retIn ?_
     refine retSeq ?_
     cases hm
     exact retL (.inr rfl) (by rw [Tryz.results68]) (.tmp Z1 (.cell (ap_ldv' Z1 Z3 Z2) (.tmp Z1 .nil))) rfl (tdt (.cons (td rfl (.v _)) (.cons (td rfl (.agg _ (CFGDrawWords.dat (GDrawWords.mk w_1.List (IntKind.i64.wrap (at_5 + 1)))))) (.cons (td rfl (.v _)) .nil))))
    ·
     refine AWp.skip ?_
     refine normIn ?_
     refine normSeq ?_
     refine AWp.reg 64 (N' := 320) rfl ?_
     iterate 3 refine pA ?_
     refine ARun.fin ?_
     refine normThen ?_
     refine ⟨_, ?_, w_1, t3, (IntKind.i64.wrap (at_5 + 1)), rfl, hm⟩
     exact le_canon (fun j => bif j == 1 then 1 else bif j == 2 then 2 else 0) (wV (wk_fset _ _ (wk_adr Z1 rfl Z7) (wk_fset _ _ (wk_adr Z1 rfl Z7) wk_none))) (hW (entWk_upd (entWk_data Z3 (Nat.le_refl _) (Nat.zero_le _) (CFGDrawWords.dat t3)) (entWk_upd (entWk_data Z3 (Nat.le_refl _) (Nat.zero_le _) (CFGDrawWords.dat w_1)) entWk_none)))
   ·
    refine AWp.exit ?_
    refine exitSeq ?_
    refine exitThen ?_
    refine exitHere ?_
    refine normSeq ?_
    refine sd mix (by kernel_rfl) (N' := 192) rfl ?_
    refine pu rfl (ap_ldv Z1 Z3 Z2) ?_
    refine pA ?_
    refine ARun.heap0 (id := 130) rfl (ah_var (ys := [.sl (w_1.List.flatMap (ci .u64)) w_1.List.length false, .v (.int .i64 w_1.At)]) sz35 Z1 Z1 Z3 rfl (Nat.le_of_ble_eq_true rfl) Z9 rfl) ?_
    refine pA ?_
    refine fs ?_
    refine AWp.ret ?_
    cases hm
    exact retL (.inr rfl) (by rw [Tryz.results68]) (.tmp Z1 (.cell (ap_ldv' Z1 Z3 Z2) (.tmp Z1 .nil))) rfl (tdt (.cons (td rfl (.v _)) (.cons (td rfl (.agg _ (CFGDrawWords.dat _))) (.cons (td rfl (.v _)) .nil))))
def drawHashes_B1 (rec1 : GDrawWords → GDrawWords → List GHash → GDrawWords → Int → Int → Option ((List GHash) × GDrawWords × Int)) (w_2 : GDrawWords) (t5 : GDrawWords) (hashes_7 : List GHash) (rest_8 : GDrawWords) (t31 : Int) (t32 : Int) : Option ((List GHash) × GDrawWords × Int) :=
 (bif (decide (t32 < t31)) then
  ((drawBelow_m rest_8).bind fun ⟨r6, r7, r8⟩ =>
  (bif (r8 != 0) then
   some ([], w_2, r8)
  else
   ((drawBelow_m r7).bind fun ⟨r10, r11, r12⟩ =>
   (bif (r12 != 0) then
    some ([], w_2, r12)
   else
    ((idx hashes_7 t32).bind fun x14 =>
    ((stt hashes_7 t32 (GHash.mk r6 r10)).bind fun l16 =>
    rec1 w_2 t5 l16 r11 t31 (IntKind.i64.wrap (t32 + 1))))))))
 else
  some (hashes_7, rest_8, 0))
def drawHashes_L1 : Nat → GDrawWords → GDrawWords → List GHash → GDrawWords → Int → Int → Option ((List GHash) × GDrawWords × Int)
 | 0 => fun _ _ _ _ _ _ => none
 | n + 1 => drawHashes_B1 (drawHashes_L1 n)
def drawHashes_m (w_0 : GDrawWords) (n_1 : Int) : Option ((List GHash) × GDrawWords × Int) :=
 ((drawRight_m w_0).bind fun r2 =>
 (bif (((!r2) || (decide (n_1 < 0))) || (decide (128 < n_1))) then
  some ([], w_0, 1)
 else
  ((mkc n_1 n_1 (GHash.mk 0 0)).bind fun l4 =>
  drawHashes_L1 FUEL w_0 (GDrawWords.mk [] 0) l4 w_0 (l4.length : Int) 0)))
theorem drawHashes_c {w_0 : GDrawWords} {n_1 : Int} {r : (List GHash) × GDrawWords × Int} (hm : drawHashes_m w_0 n_1 = some r) : PureC Tryz.prog 35 [.agg [.sl (w_0.List.flatMap (ci .u64)) w_0.List.length false, .v (.int .i64 w_0.At)], .v (.int .i64 n_1)] (.tup [.sl (r.1.flatMap cGHash) r.1.length false, .agg [.sl (r.2.1.List.flatMap (ci .u64)) r.2.1.List.length false, .v (.int .i64 r.2.1.At)], .v (.int .i64 r.2.2)]) := by
 refine PureC.of_body Tryz.func35 rfl ?_
 simp only [Tryz.ntmps35, List.length_cons, List.length_nil, Nat.reduceAdd, Nat.reduceSub, empty_eq]
 unfold drawHashes_m at hm
 refine sr (N' := 64) rfl ?_
 refine hp (id := 0) rfl rfl (aheap_box Z1 Z5) ?_
 refine pA ?_
 refine hp (id := 2) rfl rfl (aheap_alloc' zc35 Z5) ?_
 refine pA ?_
 refine fs ?_
 refine AWp.seq' ?_
 refine sr (N' := 128) rfl ?_
 refine pu rfl (ap_ldv Z1 Z3 Z2) ?_
 obtain ⟨r2, h1, hm⟩ := bnd hm
 refine ARun.callQ (r := .v (.bool r2)) Zd Z1 fb67 (fun H => (cD (.agg _ (CFGDrawWords.dat _)) .nil)) (drawRight_c h1) ?_
 iterate 9 first | refine pA ?_ | refine pB ?_
 refine fs ?_
 refine AWp.condM hm Z1 (fun _ hm => ?_) (fun _ hm => ?_)
 ·
  refine sd mix (by kernel_rfl) (N' := 192) rfl ?_
  refine pu rfl (ap_ldv Z1 Z3 Z2) ?_
  refine pA ?_
  refine ARun.heap0 (id := 130) rfl (ah_var (ys := [.sl (w_0.List.flatMap (ci .u64)) w_0.List.length false, .v (.int .i64 w_0.At)]) sz35 Z1 Z1 Z3 rfl (Nat.le_of_ble_eq_true rfl) Z9 rfl) ?_
  refine pA ?_
  refine fs ?_
  refine AWp.ret ?_
  refine retSeq ?_
  cases hm
  exact retL (.inr rfl) (by rw [Tryz.results35]) (.tmp Z1 (.cell (ap_ldv' Z1 Z3 Z2) (.tmp Z1 .nil))) rfl (tdt (.cons (tdn rfl) (.cons (td rfl (.agg _ (CFGDrawWords.dat _))) (.cons (td rfl (.v _)) .nil))))
 ·
  refine AWp.skip ?_
  refine normSeq ?_
  refine sr (N' := 192) rfl ?_
  refine pA ?_
  obtain ⟨l4, h3, hm⟩ := bnd hm
  refine hp (id := 129) rfl rfl (ah_mk CFGHash (z := (GHash.mk 0 0)) Tryz.underlying27 in120 (zc120) (by rw [tb120]; decide) ts120 Zd Z5 Z1 Z1 h3) ?_
  refine pA ?_
  refine fs ?_
  refine sr (N' := 256) rfl ?_
  refine pu rfl (ap_ldv Z1 Z3 Z2) ?_
  refine hp (id := 193) rfl rfl (aheap_alloc' zc35 Z5) ?_
  refine ARun.heap0 (id := 194) rfl (ah_var (ys := [.sl (w_0.List.flatMap (ci .u64)) w_0.List.length false, .v (.int .i64 w_0.At)]) sz35 Z1 Z1 Z3 rfl (Nat.le_of_ble_eq_true rfl) Z9 rfl) ?_
  refine fs ?_
  refine AWp.seq' ?_
  refine sr (N' := 320) rfl ?_
  iterate 3 refine pA ?_
  refine fs ?_
  refine AWp.block ?_
  refine AWp.loopM (fun m s => ∃ (w_2 : GDrawWords) (t5 : GDrawWords) (hashes_7 : List GHash) (rest_8 : GDrawWords) (t31 : Int) (t32 : Int), s = (⟨65, (fset (fset (fset (fset (fset (fset (fun _ => AV.any) 2 (.adr 1 0)) 5 (.adr 2 0)) 7 (.own 3 0 hashes_7.length)) 8 (.adr 4 0)) 31 (.v (.int .i64 t31))) 32 (.v (.int .i64 t32))), ⟨(upd (upd (upd (upd nofresh 1 (.cells 1 [.sl (w_2.List.flatMap (ci .u64)) w_2.List.length false, .v (.int .i64 w_2.At)] 0)) 2 (.cells 1 [.sl (t5.List.flatMap (ci .u64)) t5.List.length false, .v (.int .i64 t5.At)] 0)) 3 (.cells 2 (hashes_7.flatMap cGHash) 0)) 4 (.cells 1 [.sl (rest_8.List.flatMap (ci .u64)) rest_8.List.length false, .v (.int .i64 rest_8.At)] 0)), 64⟩⟩ : St) ∧ drawHashes_L1 m w_2 t5 hashes_7 rest_8 t31 t32 = some r) FUEL ?_ ?_ ?_
  ·
   rintro s ⟨_, _, _, _, _, _, _, h⟩
   cases h
  ·
   refine ⟨_, ?_, w_0, (GDrawWords.mk [] 0), l4, w_0, (l4.length : Int), 0, rfl, hm⟩
   refine St.Le.trans (le_cells 2 (ys := [.sl (((GDrawWords.mk [] 0).List).flatMap (ci .u64)) ((GDrawWords.mk [] 0).List).length false, .v (.int .i64 ((GDrawWords.mk [] 0).At))]) Z3 (.cons (.nil false) (.cons (.data _ (.v _)) .nil))) ?_
   exact le_canon (fun j => bif j == 1 then 0 else bif j == 2 then 2 else bif j == 3 then 129 else bif j == 4 then 193 else 0) (wV (wV (wk_fset _ _ (wk_adr Z1 rfl Z7) (wO (wk_fset _ _ (wk_adr Z1 rfl Z7) (wk_fset _ _ (wk_adr Z1 rfl Z7) wk_none)))))) (heapWk_of _ (entWk_upd (entWk_data Z3 (Nat.le_refl _) (Nat.zero_le _) (CFGDrawWords.dat w_0)) (eU CFGHash (entWk_upd (entWk_data Z3 (Nat.le_refl _) (Nat.zero_le _) (CFGDrawWords.dat (GDrawWords.mk [] 0))) (entWk_upd (entWk_data Z3 (Nat.le_refl _) (Nat.zero_le _) (CFGDrawWords.dat w_0)) entWk_none)))) Z8)
  ·
   rintro n1 s ⟨w_2, t5, hashes_7, rest_8, t31, t32, rfl, hm⟩
   replace hm : drawHashes_B1 (drawHashes_L1 n1) w_2 t5 hashes_7 rest_8 t31 t32 = some r := hm
   unfold drawHashes_B1 at hm
   refine sr (N' := 128) rfl ?_
   refine pA ?_
   refine fs ?_
   refine AWp.seq' ?_
   refine AWp.condM hm Z1 (fun _ hm => ?_) (fun _ hm => ?_)
   ·
    refine AWp.skip ?_
    refine normSeq ?_
    refine AWp.seq' ?_
    refine AWp.block ?_
    refine sr (N' := 192) rfl ?_
    iterate 2 refine pA ?_
    refine fs ?_
    refine sr (N' := 256) rfl ?_
    refine pu rfl (ap_ldv Z1 Z3 Z2) ?_
    obtain ⟨⟨r6, r7, r8⟩, h5, hm⟩ := bnd hm
    refine ARun.callQ (r := .tup [.v (.int .u64 r6), .agg [.sl (r7.List.flatMap (ci .u64)) r7.List.length false, .v (.int .i64 r7.At)], .v (.int .i64 r8)]) Zd Z1 fb68 (fun H => (cD (.agg _ (CFGDrawWords.dat _)) .nil)) (drawBelow_c h5) ?_
    iterate 4 refine pA ?_
    refine hp (id := 198) rfl rfl (aheap_alloc' zc35 Z5) ?_
    refine pA ?_
    refine ARun.heap0 (id := 200) rfl (ah_var (ys := [.sl (r7.List.flatMap (ci .u64)) r7.List.length false, .v (.int .i64 r7.At)]) sz35 Z1 Z1 Z3 rfl (Nat.le_of_ble_eq_true rfl) Z9 rfl) ?_
    refine pA ?_
    refine fs ?_
    refine AWp.seq' ?_
    refine sr (N' := 320) rfl ?_
    iterate 2 refine pA ?_
    refine fs ?_
    refine AWp.condM hm Z1 (fun _ hm => ?_) (fun _ hm => ?_)
    ·
     refine sd mix (by kernel_rfl) (N' := 384) rfl ?_
     refine pu rfl (ap_ldv Z1 Z3 Z2) ?_
     iterate 2 refine pA ?_
     refine ARun.heap0 (id := 323) rfl (ah_var (ys := [.sl (w_2.List.flatMap (ci .u64)) w_2.List.length false, .v (.int .i64 w_2.At)]) sz35 Z1 Z1 Z3 rfl (Nat.le_of_ble_eq_true rfl) Z9 rfl) ?_
     refine pA ?_
     refine fs ?_
     refine AWp.ret ?_
     refine retSeq ?_
     refine retIn ?_
     refine retSeq ?_
     refine retThen ?_
     refine retIn ?_
     refine retSeq ?_
     cases hm
     exact retL (.inr rfl) (by rw [Tryz.results35]) (.tmp Z1 (.cell (ap_ldv' Z1 Z3 Z2) (.tmp Z1 .nil))) rfl (tdt (.cons (tdn rfl) (.cons (td rfl (.agg _ (CFGDrawWords.dat _))) (.cons (td rfl (.v _)) .nil))))
    ·
     refine AWp.skip ?_
     refine normSeq ?_
     refine sr (N' := 384) rfl ?_
     refine pu rfl (ap_ldv Z1 Z3 Z2) ?_
     obtain ⟨⟨r10, r11, r12⟩, h9, hm⟩ := bnd hm
     refine ARun.callQ (r := .tup [.v (.int .u64 r10), .agg [.sl (r11.List.flatMap (ci .u64)) r11.List.length false, .v (.int .i64 r11.At)], .v (.int .i64 r12)]) Zd Z1 fb68 (fun H => (cD (.agg _ (CFGDrawWords.dat _)) .nil)) (drawBelow_c h9) ?_
     iterate 4 refine pA ?_
     refine hp (id := 326) rfl rfl (aheap_alloc' zc35 Z5) ?_
     refine pA ?_
     refine ARun.heap0 (id := 328) rfl (ah_var (ys := [.sl (r11.List.flatMap (ci .u64)) r11.List.length false, .v (.int .i64 r11.At)]) sz35 Z1 Z1 Z3 rfl (Nat.le_of_ble_eq_true rfl) Z9 rfl) ?_
     refine pA ?_
     refine fs ?_
     refine AWp.seq' ?_
     refine sr (N' := 448) rfl ?_
     iterate 2 refine pA ?_
     refine fs ?_
     refine AWp.condM hm Z1 (fun _ hm => ?_) (fun _ hm => ?_)
     ·
      refine sd mix (by kernel_rfl) (N' := 512) rfl ?_
      refine pu rfl (ap_ldv Z1 Z3 Z2) ?_
      iterate 2 refine pA ?_
      refine ARun.heap0 (id := 451) rfl (ah_var (ys := [.sl (w_2.List.flatMap (ci .u64)) w_2.List.length false, .v (.int .i64 w_2.At)]) sz35 Z1 Z1 Z3 rfl (Nat.le_of_ble_eq_true rfl) Z9 rfl) ?_
      refine pA ?_
      refine fs ?_
      refine AWp.ret ?_
      refine retSeq ?_
      refine retIn ?_
      refine retSeq ?_
      refine retThen ?_
      refine retIn ?_
      refine retSeq ?_
      cases hm
      exact retL (.inr rfl) (by rw [Tryz.results35]) (.tmp Z1 (.cell (ap_ldv' Z1 Z3 Z2) (.tmp Z1 .nil))) rfl (tdt (.cons (tdn rfl) (.cons (td rfl (.agg _ (CFGDrawWords.dat _))) (.cons (td rfl (.v _)) .nil))))
     ·
      refine AWp.skip ?_
      refine normSeq ?_
      refine sr (N' := 512) rfl ?_
      iterate 4 refine pA ?_
      refine pu rfl (by simp only [go_sem, Nat.reduceBEq]; exact (by kernel_rfl : abuild Tryz.prog 120 [(0, .v (.int .u64 r6)), (1, .v (.int .u64 r10))] = some (.agg [.v (.int .u64 r6), .v (.int .u64 r10)]))) ?_
      obtain ⟨x14, h13, hm⟩ := bnd hm
      refine pu rfl (ap_idxo Tryz.underlying27 sz120 Z1 Z3 Z6 Z1 h13) ?_
      obtain ⟨l16, h15, hm⟩ := bnd hm
      have qh15 := stt_len h15
      refine ARun.heap0 (id := 454) rfl (ah_stt CFGHash sz120 Z1 Z1 Z3 rfl h15) ?_
      refine fs ?_
      refine AWp.reg 64 (N' := 576) rfl ?_
      refine pu rfl (ap_ldv Z1 Z3 Z2) ?_
      refine ARun.heap0 (id := 513) rfl (ah_var (ys := [.sl (r11.List.flatMap (ci .u64)) r11.List.length false, .v (.int .i64 r11.At)]) sz35 Z1 Z1 Z3 rfl (Nat.le_of_ble_eq_true rfl) Z9 rfl) ?_
      refine ARun.fin ?_
      refine normIn ?_
      refine normSeq ?_
      refine AWp.reg 64 (N' := 640) rfl ?_
      iterate 2 refine pA ?_
      refine ARun.fin ?_
      refine normThen ?_
      refine ⟨_, ?_, w_2, t5, l16, r11, t31, (IntKind.i64.wrap (t32 + 1)), rfl, hm⟩
      exact le_canon (fun j => bif j == 1 then 1 else bif j == 2 then 2 else bif j == 3 then 3 else bif j == 4 then 4 else 0) (wV (wV (wk_fset _ _ (wk_adr Z1 rfl Z7) (wO (wk_fset _ _ (wk_adr Z1 rfl Z7) (wk_fset _ _ (wk_adr Z1 rfl Z7) wk_none)))))) (heapWk_of _ (entWk_upd (entWk_data Z3 (Nat.le_refl _) (Nat.zero_le _) (CFGDrawWords.dat r11)) (eU CFGHash (entWk_upd (entWk_data Z3 (Nat.le_refl _) (Nat.zero_le _) (CFGDrawWords.dat t5)) (entWk_upd (entWk_data Z3 (Nat.le_refl _) (Nat.zero_le _) (CFGDrawWords.dat w_2)) entWk_none)))) Z8)
   ·
    refine AWp.exit ?_
    refine exitSeq ?_
    refine exitThen ?_
    refine exitHere ?_
    refine normSeq ?_
    refine sd mix (by kernel_rfl) (N' := 192) rfl ?_
    refine pA ?_
    refine pu rfl (ap_ldv Z1 Z3 Z2) ?_
    refine pA ?_
    refine ARun.heap0 (id := 131) rfl (ah_var (ys := [.sl (rest_8.List.flatMap (ci .u64)) rest_8.List.length false, .v (.int .i64 rest_8.At)]) sz35 Z1 Z1 Z3 rfl (Nat.le_of_ble_eq_true rfl) Z9 rfl) ?_
    refine pA ?_
    refine fs ?_
    refine AWp.ret ?_
    cases hm
    exact retL (.inr rfl) (by rw [Tryz.results35]) (.tmp Z1 (.cell (ap_ldv' Z1 Z3 Z2) (.tmp Z1 .nil))) rfl (tdt (.cons (tdo CFGHash rfl Z3 Z6) (.cons (td rfl (.agg _ (CFGDrawWords.dat _))) (.cons (td rfl (.v _)) .nil))))
def vertsSized_m (n_0 : Int) : Option (Bool) :=
 some ((decide (1 ≤ n_0)) && (decide (n_0 ≤ 1024)))
theorem vertsSized_c {n_0 : Int} {r : Bool} (hm : vertsSized_m n_0 = some r) : PureC Tryz.prog 70 [.v (.int .i64 n_0)] (.v (.bool r)) := by
 refine PureC.of_body Tryz.func70 rfl ?_
 simp only [Tryz.ntmps70, List.length_cons, List.length_nil, Nat.reduceAdd, Nat.reduceSub, empty_eq]
 unfold vertsSized_m at hm
 refine sr (N' := 64) rfl ?_
 refine pA ?_
 refine fs ?_
 refine sr (N' := 128) rfl ?_
 iterate 7 first | refine pA ?_ | refine pB ?_
 refine fs ?_
 refine AWp.ret ?_
 cases hm
 exact ret1D (.inr rfl) Tryz.results70 (td Z1 (.v _))
def vertsNew_m (n_0 : Int) : Option ((List GVertsSlot) × Int) :=
 ((vertsSized_m n_0).bind fun r2 =>
 (bif (!r2) then
  some ([], 1)
 else
  ((mkc n_0 n_0 (GVertsSlot.mk false 0)).bind fun l4 =>
  some (l4, 0))))
theorem vertsNew_c {n_0 : Int} {r : (List GVertsSlot) × Int} (hm : vertsNew_m n_0 = some r) : PureC Tryz.prog 37 [.v (.int .i64 n_0)] (.tup [.sl (r.1.flatMap cGVertsSlot) r.1.length false, .v (.int .i64 r.2)]) := by
 refine PureC.of_body Tryz.func37 rfl ?_
 simp only [Tryz.ntmps37, List.length_cons, List.length_nil, Nat.reduceAdd, Nat.reduceSub, empty_eq]
 unfold vertsNew_m at hm
 refine sr (N' := 64) rfl ?_
 iterate 2 refine pA ?_
 refine fs ?_
 refine AWp.seq' ?_
 refine sr (N' := 128) rfl ?_
 refine pA ?_
 obtain ⟨r2, h1, hm⟩ := bnd hm
 refine ARun.callQ (r := .v (.bool r2)) Zd Z1 fb70 (fun H => (cV .nil)) (vertsSized_c h1) ?_
 refine pA ?_
 refine fs ?_
 refine AWp.condM hm Z1 (fun _ hm => ?_) (fun _ hm => ?_)
 ·
  refine sr (N' := 192) rfl ?_
  iterate 2 refine pA ?_
  refine fs ?_
  refine AWp.ret ?_
  refine retSeq ?_
  cases hm
  exact ret2D (.inr rfl) Tryz.results37 (tdn Z1) (td Z1 (.v _))
 ·
  refine AWp.skip ?_
  refine normSeq ?_
  refine sr (N' := 192) rfl ?_
  refine pA ?_
  obtain ⟨l4, h3, hm⟩ := bnd hm
  refine hp (id := 129) rfl rfl (ah_mk CFGVertsSlot (z := (GVertsSlot.mk false 0)) Tryz.underlying31 in104 (zc104) (by rw [tb104]; decide) ts104 Zd Z5 Z1 Z1 h3) ?_
  iterate 2 refine pA ?_
  refine fs ?_
  refine AWp.ret ?_
  cases hm
  exact ret2D (.inr rfl) Tryz.results37 (tdo CFGVertsSlot Z1 Z3 Z6) (td Z1 (.v _))
def indexNew_m (c_0 : GConfig) (w_1 : GDrawWords) : Option (GSnapState × GDrawWords × Int) :=
 (bif ((((((decide (c_0.N < 1)) || (decide (1024 < c_0.N))) || (decide (c_0.L < 1))) || (decide (16 < c_0.L))) || (decide (c_0.R < 1))) || (decide (8 < c_0.R))) then
  some ((GSnapState.mk (GGraph.mk (GConfig.mk 0 0 0) [] []) []), w_1, 1)
 else
  ((drawHashes_m w_1 (IntKind.i64.wrap (c_0.L * c_0.R))).bind fun ⟨r2, r3, r4⟩ =>
  (bif (r4 != 0) then
   some ((GSnapState.mk (GGraph.mk (GConfig.mk 0 0 0) [] []) []), w_1, r4)
  else
   ((tiersNew_m c_0 r2).bind fun ⟨r6, r7⟩ =>
   (bif (r7 != 0) then
    some ((GSnapState.mk (GGraph.mk (GConfig.mk 0 0 0) [] []) []), w_1, r7)
   else
    ((vertsNew_m c_0.N).bind fun ⟨r9, r10⟩ =>
    (bif (r10 != 0) then
     some ((GSnapState.mk (GGraph.mk (GConfig.mk 0 0 0) [] []) []), w_1, r10)
    else
     some ((GSnapState.mk r6 r9), r3, 0))))))))
theorem indexNew_c {c_0 : GConfig} {w_1 : GDrawWords} {r : GSnapState × GDrawWords × Int} (hm : indexNew_m c_0 w_1 = some r) : PureC Tryz.prog 13 [.agg [.v (.int .i64 c_0.N), .v (.int .i64 c_0.L), .v (.int .i64 c_0.R)], .agg [.sl (w_1.List.flatMap (ci .u64)) w_1.List.length false, .v (.int .i64 w_1.At)]] (.tup [.agg [.v (.int .i64 r.1.Graph.Config.N), .v (.int .i64 r.1.Graph.Config.L), .v (.int .i64 r.1.Graph.Config.R), .sl (r.1.Graph.Hashes.flatMap cGHash) r.1.Graph.Hashes.length false, .sl (r.1.Graph.Edges.flatMap cGEdge) r.1.Graph.Edges.length false, .sl (r.1.Slots.flatMap cGVertsSlot) r.1.Slots.length false], .agg [.sl (r.2.1.List.flatMap (ci .u64)) r.2.1.List.length false, .v (.int .i64 r.2.1.At)], .v (.int .i64 r.2.2)]) := by
 refine PureC.of_body Tryz.func13 rfl ?_
 simp only [Tryz.ntmps13, List.length_cons, List.length_nil, Nat.reduceAdd, Nat.reduceSub, empty_eq]
 unfold indexNew_m at hm
 refine sr (N' := 64) rfl ?_
 refine hp (id := 0) rfl rfl (aheap_box Z1 Z5) ?_
 refine hp (id := 1) rfl rfl (aheap_box Z1 Z5) ?_
 refine hp (id := 2) rfl rfl (aheap_alloc' zc33 Z5) ?_
 refine hp (id := 3) rfl rfl (aheap_alloc' zc35 Z5) ?_
 refine pA ?_
 refine fs ?_
 refine AWp.seq' ?_
 refine sr (N' := 128) rfl ?_
 refine pA ?_
 refine pu rfl (ap_ldv Z1 Z3 Z4) ?_
 iterate 3 first | refine pA ?_ | refine pB ?_
 refine pg rfl rfl Z2 (fun hb => (ap_ldv (Zh hb) Z3 Z4)) ?_
 iterate 4 first | refine pA ?_ | refine pB ?_
 refine pg rfl rfl Z2 (fun hb => (ap_ldv (Zh hb) Z3 Z4)) ?_
 iterate 4 first | refine pA ?_ | refine pB ?_
 refine pg rfl rfl Z2 (fun hb => (ap_ldv (Zh hb) Z3 Z4)) ?_
 iterate 4 first | refine pA ?_ | refine pB ?_
 refine pg rfl rfl Z2 (fun hb => (ap_ldv (Zh hb) Z3 Z4)) ?_
 iterate 4 first | refine pA ?_ | refine pB ?_
 refine pg rfl rfl Z2 (fun hb => (ap_ldv (Zh hb) Z3 Z4)) ?_
 iterate 2 first | refine pA ?_ | refine pB ?_
 refine fs ?_
 refine AWp.condM hm Z1 (fun _ hm => ?_) (fun _ hm => ?_)
 ·
  refine AWp.seq' ?_
  refine AWp.regV [(3, 1), (4, 2), (5, 3)] 64 mix (by kernel_rfl) (by kernel_rfl) (IV.cons (off := 0) Z1 (IV.cons (off := 0) Z1 (IV.cons (off := 0) Z1 IV.nil))) (N' := 192) rfl ?_
  refine pu rfl (by simp only [go_sem, Nat.reduceBEq]; exact (by kernel_rfl : abuild Tryz.prog 33 [] = some (.agg [.v (.int .i64 0), .v (.int .i64 0), .v (.int .i64 0), .v (.slice none 0 0), .v (.slice none 0 0), .v (.slice none 0 0)]))) ?_
  refine pu rfl (ap_ldv Z1 Z3 Z2) ?_
  refine ARun.heap0 (id := 130) rfl (ah_var (ys := [.v (.int .i64 0), .v (.int .i64 0), .v (.int .i64 0), .v (.slice none 0 0), .v (.slice none 0 0), .v (.slice none 0 0)]) sz33 Z1 Z1 Z3 rfl (Nat.le_of_ble_eq_true rfl) Z9 rfl) ?_
  refine ARun.heap0 (id := 131) rfl (ah_var (ys := [.sl (w_1.List.flatMap (ci .u64)) w_1.List.length false, .v (.int .i64 w_1.At)]) sz35 Z1 Z1 Z3 rfl (Nat.le_of_ble_eq_true rfl) Z9 rfl) ?_
  refine pA ?_
  refine fs ?_
  refine AWp.ret ?_
  refine retSeq ?_
  cases hm
  exact retL (.inr rfl) (by rw [Tryz.results13]) (.cell (ap_ldv' Z1 Z3 Z2) (.cell (ap_ldv' Z1 Z3 Z2) (.tmp Z1 .nil))) rfl (tdt (.cons (tda rfl (.cons (.data _ (.v _)) (.cons (.data _ (.v _)) (.cons (.data _ (.v _)) (.cons (.nil false) (.cons (.nil false) (.cons (.nil false) .nil))))))) (.cons (td rfl (.agg _ (CFGDrawWords.dat _))) (.cons (td rfl (.v _)) .nil))))
 ·
  refine AWp.skip ?_
  refine normSeq ?_
  refine sr (N' := 192) rfl ?_
  refine pu rfl (ap_ldv Z1 Z3 Z2) ?_
  refine pA ?_
  refine pu rfl (ap_ldv Z1 Z3 Z4) ?_
  refine pA ?_
  refine pu rfl (ap_ldv Z1 Z3 Z4) ?_
  refine pA ?_
  obtain ⟨⟨r2, r3, r4⟩, h1, hm⟩ := bnd hm
  refine ARun.callQ (r := .tup [.sl (r2.flatMap cGHash) r2.length false, .agg [.sl (r3.List.flatMap (ci .u64)) r3.List.length false, .v (.int .i64 r3.At)], .v (.int .i64 r4)]) Zd Z1 fb35 (fun H => (cD (.agg _ (CFGDrawWords.dat _)) (cV .nil))) (drawHashes_c h1) ?_
  iterate 4 refine pA ?_
  refine hp (id := 139) rfl rfl (aheap_alloc' zc35 Z5) ?_
  refine pA ?_
  refine ARun.heap0 (id := 141) rfl (ah_var (ys := [.sl (r3.List.flatMap (ci .u64)) r3.List.length false, .v (.int .i64 r3.At)]) sz35 Z1 Z1 Z3 rfl (Nat.le_of_ble_eq_true rfl) Z9 rfl) ?_
  refine pA ?_
  refine fs ?_
  refine AWp.seq' ?_
  refine sr (N' := 256) rfl ?_
  iterate 2 refine pA ?_
  refine fs ?_
  refine AWp.condM hm Z1 (fun _ hm => ?_) (fun _ hm => ?_)
  ·
   refine AWp.seq' ?_
   refine AWp.regV [(3, 1), (4, 2), (5, 3)] 64 mix (by kernel_rfl) (by kernel_rfl) (IV.cons (off := 0) Z1 (IV.cons (off := 0) Z1 (IV.cons (off := 0) Z1 IV.nil))) (N' := 320) rfl ?_
   refine pu rfl (by simp only [go_sem, Nat.reduceBEq]; exact (by kernel_rfl : abuild Tryz.prog 33 [] = some (.agg [.v (.int .i64 0), .v (.int .i64 0), .v (.int .i64 0), .v (.slice none 0 0), .v (.slice none 0 0), .v (.slice none 0 0)]))) ?_
   refine pu rfl (ap_ldv Z1 Z3 Z2) ?_
   refine pA ?_
   refine ARun.heap0 (id := 259) rfl (ah_var (ys := [.v (.int .i64 0), .v (.int .i64 0), .v (.int .i64 0), .v (.slice none 0 0), .v (.slice none 0 0), .v (.slice none 0 0)]) sz33 Z1 Z1 Z3 rfl (Nat.le_of_ble_eq_true rfl) Z9 rfl) ?_
   refine ARun.heap0 (id := 260) rfl (ah_var (ys := [.sl (w_1.List.flatMap (ci .u64)) w_1.List.length false, .v (.int .i64 w_1.At)]) sz35 Z1 Z1 Z3 rfl (Nat.le_of_ble_eq_true rfl) Z9 rfl) ?_
   refine pA ?_
   refine fs ?_
   refine AWp.ret ?_
   refine retSeq ?_
   cases hm
   exact retL (.inr rfl) (by rw [Tryz.results13]) (.cell (ap_ldv' Z1 Z3 Z2) (.cell (ap_ldv' Z1 Z3 Z2) (.tmp Z1 .nil))) rfl (tdt (.cons (tda rfl (.cons (.data _ (.v _)) (.cons (.data _ (.v _)) (.cons (.data _ (.v _)) (.cons (.nil false) (.cons (.nil false) (.cons (.nil false) .nil))))))) (.cons (td rfl (.agg _ (CFGDrawWords.dat _))) (.cons (td rfl (.v _)) .nil))))
  ·
   refine AWp.skip ?_
   refine normSeq ?_
   refine sr (N' := 320) rfl ?_
   refine pu rfl (ap_ldv Z1 Z3 Z2) ?_
   refine pA ?_
   obtain ⟨⟨r6, r7⟩, h5, hm⟩ := bnd hm
   refine ARun.callQ (r := .tup [.agg [.v (.int .i64 r6.Config.N), .v (.int .i64 r6.Config.L), .v (.int .i64 r6.Config.R), .sl (r6.Hashes.flatMap cGHash) r6.Hashes.length false, .sl (r6.Edges.flatMap cGEdge) r6.Edges.length false], .v (.int .i64 r7)]) Zd Z1 fb36 (fun H => (cD (.agg _ (CFGConfig.dat _)) (cD (CFGHash.sl _ _ _) .nil))) (tiersNew_c h5) ?_
   iterate 3 refine pA ?_
   refine hp (id := 262) rfl rfl (aheap_alloc' zc30 Z5) ?_
   refine ARun.heap0 (id := 263) rfl (ah_var (ys := [.v (.int .i64 r6.Config.N), .v (.int .i64 r6.Config.L), .v (.int .i64 r6.Config.R), .sl (r6.Hashes.flatMap cGHash) r6.Hashes.length false, .sl (r6.Edges.flatMap cGEdge) r6.Edges.length false]) sz30 Z1 Z1 Z3 rfl (Nat.le_of_ble_eq_true rfl) Z9 rfl) ?_
   refine pA ?_
   refine fs ?_
   refine AWp.seq' ?_
   refine sr (N' := 384) rfl ?_
   iterate 2 refine pA ?_
   refine fs ?_
   refine AWp.condM hm Z1 (fun _ hm => ?_) (fun _ hm => ?_)
   ·
    refine AWp.seq' ?_
    refine AWp.regV [(3, 1), (4, 2), (5, 3)] 64 mix (by kernel_rfl) (by kernel_rfl) (IV.cons (off := 0) Z1 (IV.cons (off := 0) Z1 (IV.cons (off := 0) Z1 IV.nil))) (N' := 448) rfl ?_
    refine pu rfl (by simp only [go_sem, Nat.reduceBEq]; exact (by kernel_rfl : abuild Tryz.prog 33 [] = some (.agg [.v (.int .i64 0), .v (.int .i64 0), .v (.int .i64 0), .v (.slice none 0 0), .v (.slice none 0 0), .v (.slice none 0 0)]))) ?_
    refine pu rfl (ap_ldv Z1 Z3 Z2) ?_
    refine pA ?_
    refine ARun.heap0 (id := 387) rfl (ah_var (ys := [.v (.int .i64 0), .v (.int .i64 0), .v (.int .i64 0), .v (.slice none 0 0), .v (.slice none 0 0), .v (.slice none 0 0)]) sz33 Z1 Z1 Z3 rfl (Nat.le_of_ble_eq_true rfl) Z9 rfl) ?_
    refine ARun.heap0 (id := 388) rfl (ah_var (ys := [.sl (w_1.List.flatMap (ci .u64)) w_1.List.length false, .v (.int .i64 w_1.At)]) sz35 Z1 Z1 Z3 rfl (Nat.le_of_ble_eq_true rfl) Z9 rfl) ?_
    refine pA ?_
    refine fs ?_
    refine AWp.ret ?_
    refine retSeq ?_
    cases hm
    exact retL (.inr rfl) (by rw [Tryz.results13]) (.cell (ap_ldv' Z1 Z3 Z2) (.cell (ap_ldv' Z1 Z3 Z2) (.tmp Z1 .nil))) rfl (tdt (.cons (tda rfl (.cons (.data _ (.v _)) (.cons (.data _ (.v _)) (.cons (.data _ (.v _)) (.cons (.nil false) (.cons (.nil false) (.cons (.nil false) .nil))))))) (.cons (td rfl (.agg _ (CFGDrawWords.dat _))) (.cons (td rfl (.v _)) .nil))))
   ·
    refine AWp.skip ?_
    refine normSeq ?_
    refine sr (N' := 448) rfl ?_
    refine pA ?_
    refine pu rfl (ap_ldv Z1 Z3 Z4) ?_
    obtain ⟨⟨r9, r10⟩, h8, hm⟩ := bnd hm
    refine ARun.callQ (r := .tup [.sl (r9.flatMap cGVertsSlot) r9.length false, .v (.int .i64 r10)]) Zd Z1 fb37 (fun H => (cV .nil)) (vertsNew_c h8) ?_
    iterate 5 refine pA ?_
    refine fs ?_
    refine AWp.seq' ?_
    refine sr (N' := 512) rfl ?_
    iterate 2 refine pA ?_
    refine fs ?_
    refine AWp.condM hm Z1 (fun _ hm => ?_) (fun _ hm => ?_)
    ·
     refine AWp.seq' ?_
     refine AWp.regV [(3, 1), (4, 2), (5, 3)] 64 mix (by kernel_rfl) (by kernel_rfl) (IV.cons (off := 0) Z1 (IV.cons (off := 0) Z1 (IV.cons (off := 0) Z1 IV.nil))) (N' := 576) rfl ?_
     refine pu rfl (by simp only [go_sem, Nat.reduceBEq]; exact (by kernel_rfl : abuild Tryz.prog 33 [] = some (.agg [.v (.int .i64 0), .v (.int .i64 0), .v (.int .i64 0), .v (.slice none 0 0), .v (.slice none 0 0), .v (.slice none 0 0)]))) ?_
     refine pu rfl (ap_ldv Z1 Z3 Z2) ?_
     refine pA ?_
     refine ARun.heap0 (id := 515) rfl (ah_var (ys := [.v (.int .i64 0), .v (.int .i64 0), .v (.int .i64 0), .v (.slice none 0 0), .v (.slice none 0 0), .v (.slice none 0 0)]) sz33 Z1 Z1 Z3 rfl (Nat.le_of_ble_eq_true rfl) Z9 rfl) ?_
     refine ARun.heap0 (id := 516) rfl (ah_var (ys := [.sl (w_1.List.flatMap (ci .u64)) w_1.List.length false, .v (.int .i64 w_1.At)]) sz35 Z1 Z1 Z3 rfl (Nat.le_of_ble_eq_true rfl) Z9 rfl) ?_
     refine pA ?_
     refine fs ?_
     refine AWp.ret ?_
     refine retSeq ?_
     cases hm
     exact retL (.inr rfl) (by rw [Tryz.results13]) (.cell (ap_ldv' Z1 Z3 Z2) (.cell (ap_ldv' Z1 Z3 Z2) (.tmp Z1 .nil))) rfl (tdt (.cons (tda rfl (.cons (.data _ (.v _)) (.cons (.data _ (.v _)) (.cons (.data _ (.v _)) (.cons (.nil false) (.cons (.nil false) (.cons (.nil false) .nil))))))) (.cons (td rfl (.agg _ (CFGDrawWords.dat _))) (.cons (td rfl (.v _)) .nil))))
    ·
     refine AWp.skip ?_
     refine normSeq ?_
     refine AWp.seq' ?_
     refine AWp.regV [(4, 2), (5, 3), (8, 139), (10, 262)] 64 mix (by kernel_rfl) (by kernel_rfl) (IV.cons (off := 0) Z1 (IV.cons (off := 0) Z1 (IV.cons (off := 0) Z1 (IV.cons (off := 0) Z1 IV.nil)))) (N' := 576) rfl ?_
     refine pu rfl (ap_ldv Z1 Z3 Z2) ?_
     refine pA ?_
     refine pu rfl (by simp only [go_sem, Nat.reduceBEq]; exact (by kernel_rfl : abuild Tryz.prog 33 [(0, .agg [.v (.int .i64 r6.Config.N), .v (.int .i64 r6.Config.L), .v (.int .i64 r6.Config.R), .sl (r6.Hashes.flatMap cGHash) r6.Hashes.length false, .sl (r6.Edges.flatMap cGEdge) r6.Edges.length false]), (1, .sl (r9.flatMap cGVertsSlot) r9.length false)] = some (.agg [.v (.int .i64 r6.Config.N), .v (.int .i64 r6.Config.L), .v (.int .i64 r6.Config.R), .sl (r6.Hashes.flatMap cGHash) r6.Hashes.length false, .sl (r6.Edges.flatMap cGEdge) r6.Edges.length false, .sl (r9.flatMap cGVertsSlot) r9.length false]))) ?_
     refine pu rfl (ap_ldv Z1 Z3 Z2) ?_
     refine ARun.heap0 (id := 516) rfl (ah_var (ys := [.v (.int .i64 r6.Config.N), .v (.int .i64 r6.Config.L), .v (.int .i64 r6.Config.R), .sl (r6.Hashes.flatMap cGHash) r6.Hashes.length false, .sl (r6.Edges.flatMap cGEdge) r6.Edges.length false, .sl (r9.flatMap cGVertsSlot) r9.length false]) sz33 Z1 Z1 Z3 rfl (Nat.le_of_ble_eq_true rfl) Z9 rfl) ?_
     refine ARun.heap0 (id := 517) rfl (ah_var (ys := [.sl (r3.List.flatMap (ci .u64)) r3.List.length false, .v (.int .i64 r3.At)]) sz35 Z1 Z1 Z3 rfl (Nat.le_of_ble_eq_true rfl) Z9 rfl) ?_
     refine pA ?_
     refine fs ?_
     refine AWp.ret ?_
     cases hm
     exact retL (.inr rfl) (by rw [Tryz.results13]) (.cell (ap_ldv' Z1 Z3 Z2) (.cell (ap_ldv' Z1 Z3 Z2) (.tmp Z1 .nil))) rfl (tdt (.cons (td rfl (.agg _ (CFGSnapState.dat (GSnapState.mk r6 r9)))) (.cons (td rfl (.agg _ (CFGDrawWords.dat _))) (.cons (td rfl (.v _)) .nil))))
def seqLenPair_m (s_0 : GSeqSeqPair) : Option (Int) :=
 (bif (!s_0.nn) then
  some 0
 else
  ((chk s_0.nn).bind fun _ =>
  some s_0.size))
theorem seqLenPair_c {s_0 : GSeqSeqPair} {r : Int} (hm : seqLenPair_m s_0 = some r) : PureC Tryz.prog 128 [GSeqSeqPair.av s_0] (.v (.int .i64 r)) := by
 refine PureC.of_body Tryz.func128 rfl ?_
 simp only [Tryz.ntmps128, List.length_cons, List.length_nil, Nat.reduceAdd, Nat.reduceSub, empty_eq]
 unfold seqLenPair_m at hm
 refine sr (N' := 64) rfl ?_
 refine pA ?_
 refine fs ?_
 refine AWp.seq' ?_
 refine sr (N' := 128) rfl ?_
 refine pA ?_
 refine pu rfl (ap_eqp Tryz.underlying128 Z1 (GSeqSeqPair.isn s_0) Z1) ?_
 refine fs ?_
 refine AWp.condM hm Z1 (fun _ hm => ?_) (fun _ hm => ?_)
 ·
  refine sr (N' := 192) rfl ?_
  refine pA ?_
  refine fs ?_
  refine AWp.ret ?_
  refine retSeq ?_
  cases hm
  exact ret1D (.inr rfl) Tryz.results128 (td Z1 (.v _))
 ·
  refine AWp.skip ?_
  refine normSeq ?_
  refine sr (N' := 192) rfl ?_
  refine pA ?_
  obtain ⟨_, h1, hm⟩ := bnd hm
  refine pu rfl (ap_ncp Z1 (GSeqSeqPair.av_nn (chk_t h1))) ?_
  iterate 3 refine pA ?_
  refine fs ?_
  refine AWp.ret ?_
  cases hm
  exact ret1D (.inr rfl) Tryz.results128 (td Z1 (.v _))
def seqAtPair_B1 (rec1 : GSeqSeqPair → Int → GDictPair → Option (GDictPair × Bool)) (s_0 : GSeqSeqPair) (i_1 : Int) (t4 : GDictPair) : Option (GDictPair × Bool) :=
 ((chk s_0.nn).bind fun _ =>
 ((seqLenPair_m s_0.ahead).bind fun r5 =>
 (bif (decide (i_1 < r5)) then
  ((chk s_0.nn).bind fun _ =>
  rec1 s_0.ahead i_1 t4)
 else
  (bif (decide (r5 < i_1)) then
   ((chk s_0.nn).bind fun _ =>
   rec1 s_0.behind (IntKind.i64.wrap (i_1 - (IntKind.i64.wrap (r5 + 1)))) t4)
  else
   ((chk s_0.nn).bind fun _ =>
   some (s_0.thing, true))))))
def seqAtPair_L1 : Nat → GSeqSeqPair → Int → GDictPair → Option (GDictPair × Bool)
 | 0 => fun _ _ _ => none
 | n + 1 => seqAtPair_B1 (seqAtPair_L1 n)
def seqAtPair_m (s_0 : GSeqSeqPair) (i_1 : Int) : Option (GDictPair × Bool) :=
 ((gopt ((decide (i_1 < 0)) == false) 0 (seqLenPair_m s_0)).bind fun r2 =>
 (bif ((decide (i_1 < 0)) || (decide (r2 ≤ i_1))) then
  some ((GDictPair.mk 0 0), false)
 else
  seqAtPair_L1 FUEL s_0 i_1 (GDictPair.mk 0 0)))
theorem seqAtPair_c {s_0 : GSeqSeqPair} {i_1 : Int} {r : GDictPair × Bool} (hm : seqAtPair_m s_0 i_1 = some r) : PureC Tryz.prog 97 [GSeqSeqPair.av s_0, .v (.int .i64 i_1)] (.tup [.agg [.v (.int .u64 r.1.Key), .v (.int .i64 r.1.N)], .v (.bool r.2)]) := by
 refine PureC.of_body Tryz.func97 rfl ?_
 simp only [Tryz.ntmps97, List.length_cons, List.length_nil, Nat.reduceAdd, Nat.reduceSub, empty_eq]
 unfold seqAtPair_m at hm
 refine sr (N' := 64) rfl ?_
 refine hp (id := 0) rfl rfl (aheap_alloc' zc158 Z5) ?_
 refine pA ?_
 refine fs ?_
 refine AWp.seq' ?_
 refine sr (N' := 128) rfl ?_
 iterate 5 first | refine pA ?_ | refine pB ?_
 obtain ⟨r2, h1, hm⟩ := bnd hm
 refine ARun.callQG (r := .v (.int .i64 r2)) Zd rfl Z2 Z1 fb128 (fun hb H => (.cons (td (Zh hb) (GSeqSeqPair.data _)) .nil)) (fun hb => seqLenPair_c (gopt_t h1 hb)) ?_
 iterate 2 first | refine pA ?_ | refine pB ?_
 refine fs ?_
 refine AWp.condM hm Z1 (fun _ hm => ?_) (fun _ hm => ?_)
 ·
  refine sr (N' := 192) rfl ?_
  refine hp (id := 128) rfl rfl (aheap_alloc' zc158 Z5) ?_
  refine fs ?_
  refine sr (N' := 256) rfl ?_
  refine pu rfl (ap_ldv Z1 Z3 Z2) ?_
  refine ARun.heap0 (id := 193) rfl (ah_var (ys := [.v (.int .u64 0), .v (.int .i64 0)]) sz158 Z1 Z1 Z3 rfl (Nat.le_of_ble_eq_true rfl) Z9 rfl) ?_
  refine pA ?_
  refine fs ?_
  refine AWp.ret ?_
  refine retSeq ?_
  cases hm
  exact retL (.inr rfl) (by rw [Tryz.results97]) (.cell (ap_ldv' Z1 Z3 Z2) (.tmp Z1 .nil)) rfl (tdt (.cons (td rfl (.agg _ (CFGDictPair.dat (GDictPair.mk 0 0)))) (.cons (td rfl (.v _)) .nil)))
 ·
  refine AWp.skip ?_
  refine normSeq ?_
  refine AWp.block ?_
  refine AWp.loopM (fun m s => ∃ (s_0 : GSeqSeqPair) (i_1 : Int) (t4 : GDictPair), s = (⟨46, (fset (fset (fset (fun _ => AV.any) 0 (GSeqSeqPair.av s_0)) 1 (.v (.int .i64 i_1))) 4 (.adr 1 0)), ⟨(upd nofresh 1 (.cells 1 [.v (.int .u64 t4.Key), .v (.int .i64 t4.N)] 0)), 64⟩⟩ : St) ∧ seqAtPair_L1 m s_0 i_1 t4 = some r) FUEL ?_ ?_ ?_
  ·
   rintro s ⟨_, _, _, _, h⟩
   cases h
  ·
   refine ⟨_, ?_, s_0, i_1, (GDictPair.mk 0 0), rfl, hm⟩
   exact le_canon (fun j => bif j == 1 then 0 else 0) (wk_fset _ _ (wk_adr Z1 rfl Z7) (wV (wD (GSeqSeqPair.data s_0) wk_none))) (hW (entWk_upd (entWk_data Z3 (Nat.le_refl _) (Nat.zero_le _) (CFGDictPair.dat (GDictPair.mk 0 0))) entWk_none))
  ·
   rintro n1 s ⟨s_0, i_1, t4, rfl, hm⟩
   replace hm : seqAtPair_B1 (seqAtPair_L1 n1) s_0 i_1 t4 = some r := hm
   unfold seqAtPair_B1 at hm
   refine AWp.block ?_
   refine sr (N' := 128) rfl ?_
   refine pA ?_
   obtain ⟨_, h3, hm⟩ := bnd hm
   refine pu rfl (ap_ncp Z1 (GSeqSeqPair.av_nn (chk_t h3))) ?_
   iterate 2 refine pA ?_
   obtain ⟨r5, h4, hm⟩ := bnd hm
   refine ARun.callQ (r := .v (.int .i64 r5)) Zd Z1 fb128 (fun H => (cD (GSeqSeqPair.data _) .nil)) (seqLenPair_c h4) ?_
   refine pA ?_
   refine fs ?_
   refine AWp.block ?_
   refine sr (N' := 192) rfl ?_
   iterate 4 refine pA ?_
   refine fs ?_
   refine AWp.condM hm Z1 (fun _ hm => ?_) (fun _ hm => ?_)
   ·
    refine AWp.reg 64 (N' := 256) rfl ?_
    refine pA ?_
    obtain ⟨_, h6, hm⟩ := bnd hm
    refine pu rfl (ap_ncp Z1 (GSeqSeqPair.av_nn (chk_t h6))) ?_
    iterate 3 refine pA ?_
    refine ARun.fin ?_
    refine normIn ?_
    refine normIn ?_
    refine normThen ?_
    refine ⟨_, ?_, s_0.ahead, i_1, t4, rfl, hm⟩
    exact le_canon (fun j => bif j == 1 then 1 else 0) (wk_fset _ _ (wk_adr Z1 rfl Z7) (wV (wD (GSeqSeqPair.data s_0.ahead) wk_none))) (hW (entWk_upd (entWk_data Z3 (Nat.le_refl _) (Nat.zero_le _) (CFGDictPair.dat t4)) entWk_none))
   ·
    refine sr (N' := 256) rfl ?_
    iterate 4 refine pA ?_
    refine fs ?_
    refine AWp.condM hm Z1 (fun _ hm => ?_) (fun _ hm => ?_)
    ·
     refine sr (N' := 320) rfl ?_
     iterate 5 refine pA ?_
     refine fs ?_
     refine AWp.reg 64 (N' := 384) rfl ?_
     refine pA ?_
     obtain ⟨_, h7, hm⟩ := bnd hm
     refine pu rfl (ap_ncp Z1 (GSeqSeqPair.av_nn (chk_t h7))) ?_
     iterate 3 refine pA ?_
     refine ARun.fin ?_
     refine normIn ?_
     refine normIn ?_
     refine normThen ?_
     refine ⟨_, ?_, s_0.behind, (IntKind.i64.wrap (i_1 - (IntKind.i64.wrap (r5 + 1)))), t4, rfl, hm⟩
     exact le_canon (fun j => bif j == 1 then 1 else 0) (wk_fset _ _ (wk_adr Z1 rfl Z7) (wV (wD (GSeqSeqPair.data s_0.behind) wk_none))) (hW (entWk_upd (entWk_data Z3 (Nat.le_refl _) (Nat.zero_le _) (CFGDictPair.dat t4)) entWk_none))
    ·
     refine sr (N' := 320) rfl ?_
     refine pA ?_
     obtain ⟨_, h8, hm⟩ := bnd hm
     refine pu rfl (ap_ncp Z1 (GSeqSeqPair.av_nn (chk_t h8))) ?_
     iterate 2 refine pA ?_
     refine ARun.heap0 (id := 260) rfl (ah_var (ys := [.v (.int .u64 s_0.thing.Key), .v (.int .i64 s_0.thing.N)]) sz158 Z1 Z1 Z3 rfl (Nat.le_of_ble_eq_true rfl) Z9 rfl) ?_
     refine pA ?_
     refine fs ?_
     refine AWp.ret ?_
     refine retIn ?_
     refine retIn ?_
     refine retThen ?_
     refine retIn ?_
     cases hm
     exact retL (.inr rfl) (by rw [Tryz.results97]) (.cell (ap_ldv' Z1 Z3 Z2) (.tmp Z1 .nil)) rfl (tdt (.cons (td rfl (.agg _ (CFGDictPair.dat _))) (.cons (td rfl (.v _)) .nil)))
def dictFromC1_m (i_0 : Int) (t1 : GDictDict) (t2 : Int) : Option (Bool) :=
 ((seqAtPair_m t1.s i_0).bind fun ⟨r2, r3⟩ =>
 some (decide (t2 ≤ r2.Key)))
theorem dictFromC1_c {i_0 : Int} {t1 : GDictDict} {t2 : Int} {r : Bool} (hm : dictFromC1_m i_0 t1 t2 = some r) : PureC Tryz.prog 130 [.v (.int .i64 i_0), .ptr [GSeqSeqPair.av t1.s], .ptr [.v (.int .u64 t2)]] (.v (.bool r)) := by
 refine PureC.of_body Tryz.func130 rfl ?_
 simp only [Tryz.ntmps130, List.length_cons, List.length_nil, Nat.reduceAdd, Nat.reduceSub, empty_eq]
 unfold dictFromC1_m at hm
 refine sr (N' := 64) rfl ?_
 refine pA ?_
 refine fs ?_
 refine sr (N' := 128) rfl ?_
 iterate 3 refine pA ?_
 obtain ⟨⟨r2, r3⟩, h1, hm⟩ := bnd hm
 refine ARun.callQ (r := .tup [.agg [.v (.int .u64 r2.Key), .v (.int .i64 r2.N)], .v (.bool r3)]) Zd Z1 fb97 (fun H => (cD (GSeqSeqPair.data _) (cV .nil))) (seqAtPair_c h1) ?_
 iterate 3 refine pA ?_
 refine hp (id := 71) rfl rfl (aheap_alloc' zc158 Z5) ?_
 refine ARun.heap0 (id := 72) rfl (ah_var (ys := [.v (.int .u64 r2.Key), .v (.int .i64 r2.N)]) sz158 Z1 Z1 Z3 rfl (Nat.le_of_ble_eq_true rfl) Z9 rfl) ?_
 refine pA ?_
 refine fs ?_
 refine sr (N' := 192) rfl ?_
 refine pA ?_
 refine pu rfl (ap_ldv Z1 Z3 Z4) ?_
 iterate 3 refine pA ?_
 refine fs ?_
 refine AWp.ret ?_
 cases hm
 exact ret1D (.inr rfl) Tryz.results130 (td Z1 (.v _))
def sortSearch_B1 (f_1 : (Int → Option (Bool))) (rec1 : Int → Int → Option (Int)) (i_5 : Int) (j_6 : Int) : Option (Int) :=
 (bif (decide (i_5 < j_6)) then
  ((f_1 (IntKind.i64.wrap (shr .u64 (IntKind.u64.wrap (IntKind.i64.wrap (i_5 + j_6))) 1))).bind fun r2 =>
  (bif (!r2) then
   rec1 (IntKind.i64.wrap ((IntKind.i64.wrap (shr .u64 (IntKind.u64.wrap (IntKind.i64.wrap (i_5 + j_6))) 1)) + 1)) j_6
  else
   rec1 i_5 (IntKind.i64.wrap (shr .u64 (IntKind.u64.wrap (IntKind.i64.wrap (i_5 + j_6))) 1))))
 else
  some i_5)
def sortSearch_L1 (f_1 : (Int → Option (Bool))) : Nat → Int → Int → Option (Int)
 | 0 => fun _ _ => none
 | n + 1 => sortSearch_B1 f_1 (sortSearch_L1 f_1 n)
def sortSearch_m (n_0 : Int) (f_1 : (Int → Option (Bool))) : Option (Int) :=
 sortSearch_L1 f_1 FUEL 0 n_0
theorem sortSearch_c {n_0 : Int} {f_1 : (Int → Option (Bool))} {r : Int} (hm : sortSearch_m n_0 f_1 = some r) {g_f_1 : FuncId} {cap_f_1 : List AV} (hcap_f_1 : ∀ a, a ∈ cap_f_1 → AM.Data a) (hb_f_1 : (Program.funcs Tryz.prog)[g_f_1]?.any (fun fn => fn.body.isSome && fn.name != "runtime.NumGoroutine") = true) (hf_f_1 : ∀ {x0 r}, f_1 x0 = some r → PureC Tryz.prog g_f_1 ([.v (.int .i64 x0)] ++ cap_f_1) (.v (.bool r))) : PureC Tryz.prog 129 [.v (.int .i64 n_0), .clo (.func g_f_1) [] cap_f_1] (.v (.int .i64 r)) := by
 refine PureC.of_body Tryz.func129 rfl ?_
 simp only [Tryz.ntmps129, List.length_cons, List.length_nil, Nat.reduceAdd, Nat.reduceSub, empty_eq]
 unfold sortSearch_m at hm
 refine sr (N' := 64) rfl ?_
 refine pA ?_
 refine fs ?_
 refine sr (N' := 128) rfl ?_
 iterate 3 refine pA ?_
 refine fs ?_
 refine AWp.seq' ?_
 refine AWp.block ?_
 refine AWp.loopM (fun m s => ∃ (i_5 : Int) (j_6 : Int), s = (⟨26, (fset (fset (fset (fun _ => AV.any) 1 (.clo (.func g_f_1) [] cap_f_1)) 5 (.v (.int .i64 i_5))) 6 (.v (.int .i64 j_6))), ⟨nofresh, 64⟩⟩ : St) ∧ sortSearch_L1 f_1 m i_5 j_6 = some r) FUEL ?_ ?_ ?_
 ·
  rintro s ⟨_, _, _, h⟩
  cases h
 ·
  refine ⟨_, ?_, 0, n_0, rfl, hm⟩
  exact le_canon id (wV (wV (wD (dclo hcap_f_1) wk_none))) heapWk0
 ·
  rintro n1 s ⟨i_5, j_6, rfl, hm⟩
  replace hm : sortSearch_B1 f_1 (sortSearch_L1 f_1 n1) i_5 j_6 = some r := hm
  unfold sortSearch_B1 at hm
  refine AWp.seq' ?_
  refine sr (N' := 128) rfl ?_
  iterate 3 refine pA ?_
  refine fs ?_
  refine AWp.condM hm Z1 (fun _ hm => ?_) (fun _ hm => ?_)
  ·
   refine AWp.skip ?_
   refine normSeq ?_
   refine AWp.block ?_
   refine sr (N' := 192) rfl ?_
   iterate 7 refine pu rfl (by simp only [go_sem, Nat.reduceBEq, Int.reduceEq, Int.reduceLE]; try with_reducible rfl) ?_
   refine fs ?_
   refine sr (N' := 256) rfl ?_
   iterate 2 refine pA ?_
   obtain ⟨r2, h1, hm⟩ := bnd hm
   refine ARun.callQC (r := .v (.bool r2)) Zd Z1 hcap_f_1 hb_f_1 (fun H => (cV .nil)) (hf_f_1 h1) ?_
   refine pA ?_
   refine fs ?_
   refine AWp.condM hm Z1 (fun _ hm => ?_) (fun _ hm => ?_)
   ·
    refine AWp.reg 64 (N' := 320) rfl ?_
    iterate 3 refine pA ?_
    refine ARun.fin ?_
    refine normIn ?_
    refine normThen ?_
    refine ⟨_, ?_, (IntKind.i64.wrap ((IntKind.i64.wrap (shr .u64 (IntKind.u64.wrap (IntKind.i64.wrap (i_5 + j_6))) 1)) + 1)), j_6, rfl, hm⟩
    exact le_canon id (wV (wV (wD (dclo hcap_f_1) wk_none))) heapWk0
   ·
    refine AWp.reg 64 (N' := 320) rfl ?_
    iterate 2 refine pA ?_
    refine ARun.fin ?_
    refine normIn ?_
    refine normThen ?_
    refine ⟨_, ?_, i_5, (IntKind.i64.wrap (shr .u64 (IntKind.u64.wrap (IntKind.i64.wrap (i_5 + j_6))) 1)), rfl, hm⟩
    exact le_canon id (wV (wV (wD (dclo hcap_f_1) wk_none))) heapWk0
  ·
   refine AWp.exit ?_
   refine exitSeq ?_
   refine exitThen ?_
   refine exitHere ?_
   refine normSeq ?_
   refine sr (N' := 192) rfl ?_
   iterate 2 refine pA ?_
   refine fs ?_
   refine AWp.ret ?_
   cases hm
   exact ret1D (.inr rfl) Tryz.results129 (td Z1 (.v _))
def dictFrom_m (d_0 : GDictDict) (key_1 : Int) : Option (Int) :=
 ((seqLenPair_m d_0.s).bind fun r2 =>
 ((sortSearch_m r2 (fun x0 => dictFromC1_m x0 d_0 key_1)).bind fun r4 =>
 some r4))
theorem dictFrom_c {d_0 : GDictDict} {key_1 : Int} {r : Int} (hm : dictFrom_m d_0 key_1 = some r) : PureC Tryz.prog 98 [.agg [GSeqSeqPair.av d_0.s], .v (.int .u64 key_1)] (.v (.int .i64 r)) := by
 refine PureC.of_body Tryz.func98 rfl ?_
 simp only [Tryz.ntmps98, List.length_cons, List.length_nil, Nat.reduceAdd, Nat.reduceSub, empty_eq]
 unfold dictFrom_m at hm
 refine sr (N' := 64) rfl ?_
 refine ARun.pop Zd (noOwn1 Z1 (.agg _ (CFGDictDict.dat d_0))) (pop_box (ys := [GSeqSeqPair.av d_0.s]) Z1 (fun H => (.cons (.data _ (GSeqSeqPair.data d_0.s)) .nil))) rfl ?_
 refine ARun.pop Zd (noOwn1 Z1 (.v _)) (pop_box (ys := [.v (.int .u64 key_1)]) Z1 (fun H => (.cons (.data _ (.v _)) .nil))) rfl ?_
 refine pA ?_
 refine fs ?_
 refine sr (N' := 128) rfl ?_
 iterate 2 refine pA ?_
 obtain ⟨r2, h1, hm⟩ := bnd hm
 refine ARun.callQ (r := .v (.int .i64 r2)) Zd Z1 fb128 (fun H => (cD (GSeqSeqPair.data _) .nil)) (seqLenPair_c h1) ?_
 refine pA ?_
 obtain ⟨r4, h3, hm⟩ := bnd hm
 refine ARun.callQ (r := .v (.int .i64 r4)) Zd Z1 fb129 (fun H => (cV (.cons (td Z1 (dclo (dl_cons (.ptr _ (CFGDictDict.dat d_0)) (dl_cons (.ptr _ ((CFi .u64).dat key_1)) dl_nil)))) .nil))) (sortSearch_c h3 (dl_cons (.ptr _ (CFGDictDict.dat d_0)) (dl_cons (.ptr _ ((CFi .u64).dat key_1)) dl_nil)) fb130 (fun h => dictFromC1_c h)) ?_
 refine pA ?_
 refine fs ?_
 refine AWp.ret ?_
 cases hm
 exact ret1D (.inr rfl) Tryz.results98 (td Z1 (.v _))
def dictGet_m (d_0 : GDictDict) (key_1 : Int) : Option (Int × Bool) :=
 ((dictFrom_m d_0 key_1).bind fun r2 =>
 ((seqAtPair_m d_0.s r2).bind fun ⟨r4, r5⟩ =>
 (bif ((!r5) || (r4.Key != key_1)) then
  some (0, false)
 else
  some (r4.N, true))))
theorem dictGet_c {d_0 : GDictDict} {key_1 : Int} {r : Int × Bool} (hm : dictGet_m d_0 key_1 = some r) : PureC Tryz.prog 72 [.agg [GSeqSeqPair.av d_0.s], .v (.int .u64 key_1)] (.tup [.v (.int .i64 r.1), .v (.bool r.2)]) := by
 refine PureC.of_body Tryz.func72 rfl ?_
 simp only [Tryz.ntmps72, List.length_cons, List.length_nil, Nat.reduceAdd, Nat.reduceSub, empty_eq]
 unfold dictGet_m at hm
 refine sr (N' := 64) rfl ?_
 refine hp (id := 0) rfl rfl (aheap_box Z1 Z5) ?_
 iterate 2 refine pA ?_
 refine fs ?_
 refine sd mix (by kernel_rfl) (N' := 128) rfl ?_
 refine pA ?_
 refine pu rfl (ap_ldv Z1 Z3 Z4) ?_
 refine pu rfl (ap_ldv Z1 Z3 Z2) ?_
 refine pA ?_
 obtain ⟨r2, h1, hm⟩ := bnd hm
 refine ARun.callQ (r := .v (.int .i64 r2)) Zd Z1 fb98 (fun H => (cD (.agg _ (CFGDictDict.dat _)) (cV .nil))) (dictFrom_c h1) ?_
 obtain ⟨⟨r4, r5⟩, h3, hm⟩ := bnd hm
 refine ARun.callQ (r := .tup [.agg [.v (.int .u64 r4.Key), .v (.int .i64 r4.N)], .v (.bool r5)]) Zd Z1 fb97 (fun H => (cD (GSeqSeqPair.data _) (cV .nil))) (seqAtPair_c h3) ?_
 iterate 3 refine pA ?_
 refine hp (id := 73) rfl rfl (aheap_alloc' zc158 Z5) ?_
 refine ARun.heap0 (id := 74) rfl (ah_var (ys := [.v (.int .u64 r4.Key), .v (.int .i64 r4.N)]) sz158 Z1 Z1 Z3 rfl (Nat.le_of_ble_eq_true rfl) Z9 rfl) ?_
 refine pA ?_
 refine fs ?_
 refine AWp.seq' ?_
 refine sr (N' := 192) rfl ?_
 iterate 4 first | refine pA ?_ | refine pB ?_
 refine pg rfl rfl Z2 (fun hb => (ap_ldv (Zh hb) Z3 Z4)) ?_
 iterate 3 first | refine pA ?_ | refine pB ?_
 refine fs ?_
 refine AWp.condM hm Z1 (fun _ hm => ?_) (fun _ hm => ?_)
 ·
  refine sr (N' := 256) rfl ?_
  iterate 2 refine pA ?_
  refine fs ?_
  refine AWp.ret ?_
  refine retSeq ?_
  cases hm
  exact ret2D (.inr rfl) Tryz.results72 (td Z1 (.v _)) (td Z1 (.v _))
 ·
  refine AWp.skip ?_
  refine normSeq ?_
  refine sr (N' := 256) rfl ?_
  refine pA ?_
  refine pu rfl (ap_ldv Z1 Z3 Z4) ?_
  iterate 2 refine pA ?_
  refine fs ?_
  refine AWp.ret ?_
  cases hm
  exact ret2D (.inr rfl) Tryz.results72 (td Z1 (.v _)) (td Z1 (.v _))
def seqHeightPair_m (s_0 : GSeqSeqPair) : Option (Int) :=
 (bif (!s_0.nn) then
  some 0
 else
  ((chk s_0.nn).bind fun _ =>
  some s_0.height))
theorem seqHeightPair_c {s_0 : GSeqSeqPair} {r : Int} (hm : seqHeightPair_m s_0 = some r) : PureC Tryz.prog 173 [GSeqSeqPair.av s_0] (.v (.int .i64 r)) := by
 refine PureC.of_body Tryz.func173 rfl ?_
 simp only [Tryz.ntmps173, List.length_cons, List.length_nil, Nat.reduceAdd, Nat.reduceSub, empty_eq]
 unfold seqHeightPair_m at hm
 refine sr (N' := 64) rfl ?_
 refine pA ?_
 refine fs ?_
 refine AWp.seq' ?_
 refine sr (N' := 128) rfl ?_
 refine pA ?_
 refine pu rfl (ap_eqp Tryz.underlying128 Z1 (GSeqSeqPair.isn s_0) Z1) ?_
 refine fs ?_
 refine AWp.condM hm Z1 (fun _ hm => ?_) (fun _ hm => ?_)
 ·
  refine sr (N' := 192) rfl ?_
  refine pA ?_
  refine fs ?_
  refine AWp.ret ?_
  refine retSeq ?_
  cases hm
  exact ret1D (.inr rfl) Tryz.results173 (td Z1 (.v _))
 ·
  refine AWp.skip ?_
  refine normSeq ?_
  refine sr (N' := 192) rfl ?_
  refine pA ?_
  obtain ⟨_, h1, hm⟩ := bnd hm
  refine pu rfl (ap_ncp Z1 (GSeqSeqPair.av_nn (chk_t h1))) ?_
  iterate 3 refine pA ?_
  refine fs ?_
  refine AWp.ret ?_
  cases hm
  exact ret1D (.inr rfl) Tryz.results173 (td Z1 (.v _))
def seqTreePair_m (ahead_0 : GSeqSeqPair) (thing_1 : GDictPair) (behind_2 : GSeqSeqPair) : Option (GSeqSeqPair) :=
 ((seqHeightPair_m ahead_0).bind fun r2 =>
 ((seqHeightPair_m behind_2).bind fun r4 =>
 ((seqLenPair_m ahead_0).bind fun r6 =>
 ((seqLenPair_m behind_2).bind fun r8 =>
 some (GSeqSeqPair.mk ahead_0 behind_2 thing_1 (IntKind.i64.wrap ((if r2 < r4 then r4 else r2) + 1)) (IntKind.i64.wrap ((IntKind.i64.wrap (r6 + 1)) + r8)))))))
theorem seqTreePair_c {ahead_0 : GSeqSeqPair} {thing_1 : GDictPair} {behind_2 : GSeqSeqPair} {r : GSeqSeqPair} (hm : seqTreePair_m ahead_0 thing_1 behind_2 = some r) : PureC Tryz.prog 144 [GSeqSeqPair.av ahead_0, .agg [.v (.int .u64 thing_1.Key), .v (.int .i64 thing_1.N)], GSeqSeqPair.av behind_2] (GSeqSeqPair.av r) := by
 refine PureC.of_body Tryz.func144 rfl ?_
 simp only [Tryz.ntmps144, List.length_cons, List.length_nil, Nat.reduceAdd, Nat.reduceSub, empty_eq]
 unfold seqTreePair_m at hm
 refine sr (N' := 64) rfl ?_
 refine hp (id := 0) rfl rfl (aheap_box Z1 Z5) ?_
 refine pA ?_
 refine fs ?_
 refine sd mix (by kernel_rfl) (N' := 128) rfl ?_
 iterate 2 refine pA ?_
 refine pu rfl (ap_ldv Z1 Z3 Z2) ?_
 refine pA ?_
 obtain ⟨r2, h1, hm⟩ := bnd hm
 refine ARun.callQ (r := .v (.int .i64 r2)) Zd Z1 fb173 (fun H => (cD (GSeqSeqPair.data _) .nil)) (seqHeightPair_c h1) ?_
 refine pA ?_
 obtain ⟨r4, h3, hm⟩ := bnd hm
 refine ARun.callQ (r := .v (.int .i64 r4)) Zd Z1 fb173 (fun H => (cD (GSeqSeqPair.data _) .nil)) (seqHeightPair_c h3) ?_
 iterate 3 refine pA ?_
 obtain ⟨r6, h5, hm⟩ := bnd hm
 refine ARun.callQ (r := .v (.int .i64 r6)) Zd Z1 fb128 (fun H => (cD (GSeqSeqPair.data _) .nil)) (seqLenPair_c h5) ?_
 iterate 2 refine pA ?_
 obtain ⟨r8, h7, hm⟩ := bnd hm
 refine ARun.callQ (r := .v (.int .i64 r8)) Zd Z1 fb128 (fun H => (cD (GSeqSeqPair.data _) .nil)) (seqLenPair_c h7) ?_
 refine pA ?_
 refine pu rfl (by simp only [go_sem, Nat.reduceBEq]; exact bp192GI1 (GSeqSeqPair.cells _) (GSeqSeqPair.cells _)) ?_
 refine ARun.pop Zd (noOwn1 Z1 (.agg _ (dl_cons (GSeqSeqPair.data ahead_0) (dl_cons (GSeqSeqPair.data behind_2) (dl_cons (.v _) (dl_cons (.v _) (dl_cons (.v _) (dl_cons (.v _) dl_nil)))))))) (pop_box (ys := [GSeqSeqPair.av ((GSeqSeqPair.mk ahead_0 behind_2 thing_1 (IntKind.i64.wrap ((if r2 < r4 then r4 else r2) + 1)) (IntKind.i64.wrap ((IntKind.i64.wrap (r6 + 1)) + r8))).ahead), GSeqSeqPair.av ((GSeqSeqPair.mk ahead_0 behind_2 thing_1 (IntKind.i64.wrap ((if r2 < r4 then r4 else r2) + 1)) (IntKind.i64.wrap ((IntKind.i64.wrap (r6 + 1)) + r8))).behind), .v (.int .u64 (((GSeqSeqPair.mk ahead_0 behind_2 thing_1 (IntKind.i64.wrap ((if r2 < r4 then r4 else r2) + 1)) (IntKind.i64.wrap ((IntKind.i64.wrap (r6 + 1)) + r8))).thing).Key)), .v (.int .i64 (((GSeqSeqPair.mk ahead_0 behind_2 thing_1 (IntKind.i64.wrap ((if r2 < r4 then r4 else r2) + 1)) (IntKind.i64.wrap ((IntKind.i64.wrap (r6 + 1)) + r8))).thing).N)), .v (.int .i64 ((GSeqSeqPair.mk ahead_0 behind_2 thing_1 (IntKind.i64.wrap ((if r2 < r4 then r4 else r2) + 1)) (IntKind.i64.wrap ((IntKind.i64.wrap (r6 + 1)) + r8))).height)), .v (.int .i64 ((GSeqSeqPair.mk ahead_0 behind_2 thing_1 (IntKind.i64.wrap ((if r2 < r4 then r4 else r2) + 1)) (IntKind.i64.wrap ((IntKind.i64.wrap (r6 + 1)) + r8))).size))]) Z1 (fun H => (.cons (.data _ (GSeqSeqPair.data ahead_0)) (.cons (.data _ (GSeqSeqPair.data behind_2)) (.cons (.data _ (.v _)) (.cons (.data _ (.v _)) (.cons (.data _ (.v _)) (.cons (.data _ (.v _)) .nil)))))))) rfl ?_
 refine pA ?_
 refine fs ?_
 refine AWp.ret ?_
 cases hm
 exact ret1D (.inr rfl) Tryz.results144 (td Z1 (GSeqSeqPair.data _))
def seqTurnedPair_m (ahead_0 : GSeqSeqPair) (thing_1 : GDictPair) (behind_2 : GSeqSeqPair) : Option (GSeqSeqPair) :=
 ((seqHeightPair_m ahead_0).bind fun r2 =>
 ((seqHeightPair_m behind_2).bind fun r4 =>
 (bif (decide ((IntKind.i64.wrap (r4 + 1)) < r2)) then
  ((chk ahead_0.nn).bind fun _ =>
  ((seqHeightPair_m ahead_0.ahead).bind fun r7 =>
  ((chk ahead_0.nn).bind fun _ =>
  ((seqHeightPair_m ahead_0.behind).bind fun r10 =>
  (bif (decide (r10 ≤ r7)) then
   ((chk ahead_0.nn).bind fun _ =>
   ((chk ahead_0.nn).bind fun _ =>
   ((chk ahead_0.nn).bind fun _ =>
   ((seqTreePair_m ahead_0.behind thing_1 behind_2).bind fun r15 =>
   ((seqTreePair_m ahead_0.ahead ahead_0.thing r15).bind fun r17 =>
   some r17)))))
  else
   ((chk ahead_0.nn).bind fun _ =>
   ((chk ahead_0.nn).bind fun _ =>
   ((chk ahead_0.nn).bind fun _ =>
   ((chk ahead_0.behind.nn).bind fun _ =>
   ((seqTreePair_m ahead_0.ahead ahead_0.thing ahead_0.behind.ahead).bind fun r23 =>
   ((chk ahead_0.behind.nn).bind fun _ =>
   ((chk ahead_0.behind.nn).bind fun _ =>
   ((seqTreePair_m ahead_0.behind.behind thing_1 behind_2).bind fun r27 =>
   ((seqTreePair_m r23 ahead_0.behind.thing r27).bind fun r29 =>
   some r29))))))))))))))
 else
  ((seqHeightPair_m behind_2).bind fun r31 =>
  ((seqHeightPair_m ahead_0).bind fun r33 =>
  (bif (decide ((IntKind.i64.wrap (r33 + 1)) < r31)) then
   ((chk behind_2.nn).bind fun _ =>
   ((seqHeightPair_m behind_2.behind).bind fun r36 =>
   ((chk behind_2.nn).bind fun _ =>
   ((seqHeightPair_m behind_2.ahead).bind fun r39 =>
   (bif (decide (r39 ≤ r36)) then
    ((chk behind_2.nn).bind fun _ =>
    ((seqTreePair_m ahead_0 thing_1 behind_2.ahead).bind fun r42 =>
    ((chk behind_2.nn).bind fun _ =>
    ((chk behind_2.nn).bind fun _ =>
    ((seqTreePair_m r42 behind_2.thing behind_2.behind).bind fun r46 =>
    some r46)))))
   else
    ((chk behind_2.nn).bind fun _ =>
    ((chk behind_2.ahead.nn).bind fun _ =>
    ((seqTreePair_m ahead_0 thing_1 behind_2.ahead.ahead).bind fun r50 =>
    ((chk behind_2.ahead.nn).bind fun _ =>
    ((chk behind_2.ahead.nn).bind fun _ =>
    ((chk behind_2.nn).bind fun _ =>
    ((chk behind_2.nn).bind fun _ =>
    ((seqTreePair_m behind_2.ahead.behind behind_2.thing behind_2.behind).bind fun r56 =>
    ((seqTreePair_m r50 behind_2.ahead.thing r56).bind fun r58 =>
    some r58))))))))))))))
  else
   ((seqTreePair_m ahead_0 thing_1 behind_2).bind fun r60 =>
   some r60)))))))
theorem seqTurnedPair_c {ahead_0 : GSeqSeqPair} {thing_1 : GDictPair} {behind_2 : GSeqSeqPair} {r : GSeqSeqPair} (hm : seqTurnedPair_m ahead_0 thing_1 behind_2 = some r) : PureC Tryz.prog 174 [GSeqSeqPair.av ahead_0, .agg [.v (.int .u64 thing_1.Key), .v (.int .i64 thing_1.N)], GSeqSeqPair.av behind_2] (GSeqSeqPair.av r) := by
 refine PureC.of_body Tryz.func174 rfl ?_
 simp only [Tryz.ntmps174, List.length_cons, List.length_nil, Nat.reduceAdd, Nat.reduceSub, empty_eq]
 unfold seqTurnedPair_m at hm
 refine sr (N' := 64) rfl ?_
 refine hp (id := 0) rfl rfl (aheap_box Z1 Z5) ?_
 refine pA ?_
 refine fs ?_
 refine AWp.seq' ?_
 refine AWp.block ?_
 refine sr (N' := 128) rfl ?_
 refine pA ?_
 obtain ⟨r2, h1, hm⟩ := bnd hm
 refine ARun.callQ (r := .v (.int .i64 r2)) Zd Z1 fb173 (fun H => (cD (GSeqSeqPair.data _) .nil)) (seqHeightPair_c h1) ?_
 refine pA ?_
 obtain ⟨r4, h3, hm⟩ := bnd hm
 refine ARun.callQ (r := .v (.int .i64 r4)) Zd Z1 fb173 (fun H => (cD (GSeqSeqPair.data _) .nil)) (seqHeightPair_c h3) ?_
 iterate 3 refine pA ?_
 refine fs ?_
 refine AWp.condM hm Z1 (fun _ hm => ?_) (fun _ hm => ?_)
 ·
  refine AWp.seq' ?_
  refine sd mix (by kernel_rfl) (N' := 192) rfl ?_
  refine pA ?_
  obtain ⟨_, h5, hm⟩ := bnd hm
  refine pu rfl (ap_ncp Z1 (GSeqSeqPair.av_nn (chk_t h5))) ?_
  iterate 2 refine pA ?_
  obtain ⟨r7, h6, hm⟩ := bnd hm
  refine ARun.callQ (r := .v (.int .i64 r7)) Zd Z1 fb173 (fun H => (cD (GSeqSeqPair.data _) .nil)) (seqHeightPair_c h6) ?_
  refine pA ?_
  obtain ⟨_, h8, hm⟩ := bnd hm
  refine pu rfl (ap_ncp Z1 (GSeqSeqPair.av_nn (chk_t h8))) ?_
  iterate 2 refine pA ?_
  obtain ⟨r10, h9, hm⟩ := bnd hm
  refine ARun.callQ (r := .v (.int .i64 r10)) Zd Z1 fb173 (fun H => (cD (GSeqSeqPair.data _) .nil)) (seqHeightPair_c h9) ?_
  refine pA ?_
  refine fs ?_
  refine AWp.condM hm Z1 (fun _ hm => ?_) (fun _ hm => ?_)
  ·
   refine sd mix (by kernel_rfl) (N' := 256) rfl ?_
   refine pA ?_
   obtain ⟨_, h11, hm⟩ := bnd hm
   refine pu rfl (ap_ncp Z1 (GSeqSeqPair.av_nn (chk_t h11))) ?_
   iterate 3 refine pA ?_
   obtain ⟨_, h12, hm⟩ := bnd hm
   refine pu rfl (ap_ncp Z1 (GSeqSeqPair.av_nn (chk_t h12))) ?_
   iterate 3 refine pA ?_
   obtain ⟨_, h13, hm⟩ := bnd hm
   refine pu rfl (ap_ncp Z1 (GSeqSeqPair.av_nn (chk_t h13))) ?_
   iterate 2 refine pA ?_
   refine pu rfl (ap_ldv Z1 Z3 Z2) ?_
   refine pA ?_
   obtain ⟨r15, h14, hm⟩ := bnd hm
   refine ARun.callQ (r := GSeqSeqPair.av r15) Zd Z1 fb144 (fun H => (cD (GSeqSeqPair.data _) (cD (.agg _ (CFGDictPair.dat _)) (cD (GSeqSeqPair.data _) .nil)))) (seqTreePair_c h14) ?_
   obtain ⟨r17, h16, hm⟩ := bnd hm
   refine ARun.callQ (r := GSeqSeqPair.av r17) Zd Z1 fb144 (fun H => (cD (GSeqSeqPair.data _) (cD (.agg _ (CFGDictPair.dat _)) (cD (GSeqSeqPair.data _) .nil)))) (seqTreePair_c h16) ?_
   refine pA ?_
   refine fs ?_
   refine AWp.ret ?_
   refine retSeq ?_
   refine retIn ?_
   refine retSeq ?_
   cases hm
   exact ret1D (.inr rfl) Tryz.results174 (td Z1 (GSeqSeqPair.data _))
  ·
   refine AWp.skip ?_
   refine normSeq ?_
   refine sr (N' := 256) rfl ?_
   refine pA ?_
   obtain ⟨_, h18, hm⟩ := bnd hm
   refine pu rfl (ap_ncp Z1 (GSeqSeqPair.av_nn (chk_t h18))) ?_
   iterate 3 refine pA ?_
   refine fs ?_
   refine sd mix (by kernel_rfl) (N' := 320) rfl ?_
   refine pA ?_
   obtain ⟨_, h19, hm⟩ := bnd hm
   refine pu rfl (ap_ncp Z1 (GSeqSeqPair.av_nn (chk_t h19))) ?_
   iterate 3 refine pA ?_
   obtain ⟨_, h20, hm⟩ := bnd hm
   refine pu rfl (ap_ncp Z1 (GSeqSeqPair.av_nn (chk_t h20))) ?_
   iterate 3 refine pA ?_
   obtain ⟨_, h21, hm⟩ := bnd hm
   refine pu rfl (ap_ncp Z1 (GSeqSeqPair.av_nn (chk_t h21))) ?_
   iterate 2 refine pA ?_
   obtain ⟨r23, h22, hm⟩ := bnd hm
   refine ARun.callQ (r := GSeqSeqPair.av r23) Zd Z1 fb144 (fun H => (cD (GSeqSeqPair.data _) (cD (.agg _ (CFGDictPair.dat _)) (cD (GSeqSeqPair.data _) .nil)))) (seqTreePair_c h22) ?_
   refine pA ?_
   obtain ⟨_, h24, hm⟩ := bnd hm
   refine pu rfl (ap_ncp Z1 (GSeqSeqPair.av_nn (chk_t h24))) ?_
   iterate 3 refine pA ?_
   obtain ⟨_, h25, hm⟩ := bnd hm
   refine pu rfl (ap_ncp Z1 (GSeqSeqPair.av_nn (chk_t h25))) ?_
   iterate 2 refine pA ?_
   refine pu rfl (ap_ldv Z1 Z3 Z2) ?_
   refine pA ?_
   obtain ⟨r27, h26, hm⟩ := bnd hm
   refine ARun.callQ (r := GSeqSeqPair.av r27) Zd Z1 fb144 (fun H => (cD (GSeqSeqPair.data _) (cD (.agg _ (CFGDictPair.dat _)) (cD (GSeqSeqPair.data _) .nil)))) (seqTreePair_c h26) ?_
   obtain ⟨r29, h28, hm⟩ := bnd hm
   refine ARun.callQ (r := GSeqSeqPair.av r29) Zd Z1 fb144 (fun H => (cD (GSeqSeqPair.data _) (cD (.agg _ (CFGDictPair.dat _)) (cD (GSeqSeqPair.data _) .nil)))) (seqTreePair_c h28) ?_
   refine pA ?_
   refine fs ?_
   refine AWp.ret ?_
   refine retIn ?_
   refine retSeq ?_
   cases hm
   exact ret1D (.inr rfl) Tryz.results174 (td Z1 (GSeqSeqPair.data _))
 ·
  refine sr (N' := 192) rfl ?_
  refine pA ?_
  obtain ⟨r31, h30, hm⟩ := bnd hm
  refine ARun.callQ (r := .v (.int .i64 r31)) Zd Z1 fb173 (fun H => (cD (GSeqSeqPair.data _) .nil)) (seqHeightPair_c h30) ?_
  refine pA ?_
  obtain ⟨r33, h32, hm⟩ := bnd hm
  refine ARun.callQ (r := .v (.int .i64 r33)) Zd Z1 fb173 (fun H => (cD (GSeqSeqPair.data _) .nil)) (seqHeightPair_c h32) ?_
  iterate 3 refine pA ?_
  refine fs ?_
  refine AWp.condM hm Z1 (fun _ hm => ?_) (fun _ hm => ?_)
  ·
   refine AWp.seq' ?_
   refine sd mix (by kernel_rfl) (N' := 256) rfl ?_
   refine pA ?_
   obtain ⟨_, h34, hm⟩ := bnd hm
   refine pu rfl (ap_ncp Z1 (GSeqSeqPair.av_nn (chk_t h34))) ?_
   iterate 2 refine pA ?_
   obtain ⟨r36, h35, hm⟩ := bnd hm
   refine ARun.callQ (r := .v (.int .i64 r36)) Zd Z1 fb173 (fun H => (cD (GSeqSeqPair.data _) .nil)) (seqHeightPair_c h35) ?_
   refine pA ?_
   obtain ⟨_, h37, hm⟩ := bnd hm
   refine pu rfl (ap_ncp Z1 (GSeqSeqPair.av_nn (chk_t h37))) ?_
   iterate 2 refine pA ?_
   obtain ⟨r39, h38, hm⟩ := bnd hm
   refine ARun.callQ (r := .v (.int .i64 r39)) Zd Z1 fb173 (fun H => (cD (GSeqSeqPair.data _) .nil)) (seqHeightPair_c h38) ?_
   refine pA ?_
   refine fs ?_
   refine AWp.condM hm Z1 (fun _ hm => ?_) (fun _ hm => ?_)
   ·
    refine sd mix (by kernel_rfl) (N' := 320) rfl ?_
    refine pA ?_
    refine pu rfl (ap_ldv Z1 Z3 Z2) ?_
    refine pA ?_
    obtain ⟨_, h40, hm⟩ := bnd hm
    refine pu rfl (ap_ncp Z1 (GSeqSeqPair.av_nn (chk_t h40))) ?_
    iterate 2 refine pA ?_
    obtain ⟨r42, h41, hm⟩ := bnd hm
    refine ARun.callQ (r := GSeqSeqPair.av r42) Zd Z1 fb144 (fun H => (cD (GSeqSeqPair.data _) (cD (.agg _ (CFGDictPair.dat _)) (cD (GSeqSeqPair.data _) .nil)))) (seqTreePair_c h41) ?_
    refine pA ?_
    obtain ⟨_, h43, hm⟩ := bnd hm
    refine pu rfl (ap_ncp Z1 (GSeqSeqPair.av_nn (chk_t h43))) ?_
    iterate 3 refine pA ?_
    obtain ⟨_, h44, hm⟩ := bnd hm
    refine pu rfl (ap_ncp Z1 (GSeqSeqPair.av_nn (chk_t h44))) ?_
    iterate 2 refine pA ?_
    obtain ⟨r46, h45, hm⟩ := bnd hm
    refine ARun.callQ (r := GSeqSeqPair.av r46) Zd Z1 fb144 (fun H => (cD (GSeqSeqPair.data _) (cD (.agg _ (CFGDictPair.dat _)) (cD (GSeqSeqPair.data _) .nil)))) (seqTreePair_c h45) ?_
    refine pA ?_
    refine fs ?_
    refine AWp.ret ?_
    refine retSeq ?_
    refine retIn ?_
    refine retSeq ?_
    cases hm
    exact ret1D (.inr rfl) Tryz.results174 (td Z1 (GSeqSeqPair.data _))
   ·
    refine AWp.skip ?_
    refine normSeq ?_
    refine sr (N' := 320) rfl ?_
    refine pA ?_
    obtain ⟨_, h47, hm⟩ := bnd hm
    refine pu rfl (ap_ncp Z1 (GSeqSeqPair.av_nn (chk_t h47))) ?_
    iterate 3 refine pA ?_
    refine fs ?_
    refine sd mix (by kernel_rfl) (N' := 384) rfl ?_
    refine pA ?_
    refine pu rfl (ap_ldv Z1 Z3 Z2) ?_
    refine pA ?_
    obtain ⟨_, h48, hm⟩ := bnd hm
    refine pu rfl (ap_ncp Z1 (GSeqSeqPair.av_nn (chk_t h48))) ?_
    iterate 2 refine pA ?_
    obtain ⟨r50, h49, hm⟩ := bnd hm
    refine ARun.callQ (r := GSeqSeqPair.av r50) Zd Z1 fb144 (fun H => (cD (GSeqSeqPair.data _) (cD (.agg _ (CFGDictPair.dat _)) (cD (GSeqSeqPair.data _) .nil)))) (seqTreePair_c h49) ?_
    refine pA ?_
    obtain ⟨_, h51, hm⟩ := bnd hm
    refine pu rfl (ap_ncp Z1 (GSeqSeqPair.av_nn (chk_t h51))) ?_
    iterate 3 refine pA ?_
    obtain ⟨_, h52, hm⟩ := bnd hm
    refine pu rfl (ap_ncp Z1 (GSeqSeqPair.av_nn (chk_t h52))) ?_
    iterate 3 refine pA ?_
    obtain ⟨_, h53, hm⟩ := bnd hm
    refine pu rfl (ap_ncp Z1 (GSeqSeqPair.av_nn (chk_t h53))) ?_
    iterate 3 refine pA ?_
    obtain ⟨_, h54, hm⟩ := bnd hm
    refine pu rfl (ap_ncp Z1 (GSeqSeqPair.av_nn (chk_t h54))) ?_
    iterate 2 refine pA ?_
    obtain ⟨r56, h55, hm⟩ := bnd hm
    refine ARun.callQ (r := GSeqSeqPair.av r56) Zd Z1 fb144 (fun H => (cD (GSeqSeqPair.data _) (cD (.agg _ (CFGDictPair.dat _)) (cD (GSeqSeqPair.data _) .nil)))) (seqTreePair_c h55) ?_
    obtain ⟨r58, h57, hm⟩ := bnd hm
    refine ARun.callQ (r := GSeqSeqPair.av r58) Zd Z1 fb144 (fun H => (cD (GSeqSeqPair.data _) (cD (.agg _ (CFGDictPair.dat _)) (cD (GSeqSeqPair.data _) .nil)))) (seqTreePair_c h57) ?_
    refine pA ?_
    refine fs ?_
    refine AWp.ret ?_
    refine retIn ?_
    refine retSeq ?_
    cases hm
    exact ret1D (.inr rfl) Tryz.results174 (td Z1 (GSeqSeqPair.data _))
  ·
   refine AWp.skip ?_
   refine normIn ?_
   refine normSeq ?_
   refine sr (N' := 256) rfl ?_
   refine pA ?_
   refine pu rfl (ap_ldv Z1 Z3 Z2) ?_
   refine pA ?_
   obtain ⟨r60, h59, hm⟩ := bnd hm
   refine ARun.callQ (r := GSeqSeqPair.av r60) Zd Z1 fb144 (fun H => (cD (GSeqSeqPair.data _) (cD (.agg _ (CFGDictPair.dat _)) (cD (GSeqSeqPair.data _) .nil)))) (seqTreePair_c h59) ?_
   refine pA ?_
   refine fs ?_
   refine AWp.ret ?_
   cases hm
   exact ret1D (.inr rfl) Tryz.results174 (td Z1 (GSeqSeqPair.data _))
def seqAroundPair_R (recf : GSeqSeqPair → GDictPair → GSeqSeqPair → Option (GSeqSeqPair)) (ahead_0 : GSeqSeqPair) (thing_1 : GDictPair) (behind_2 : GSeqSeqPair) : Option (GSeqSeqPair) :=
 ((seqHeightPair_m ahead_0).bind fun r2 =>
 ((seqHeightPair_m behind_2).bind fun r4 =>
 (bif (decide ((IntKind.i64.wrap (r4 + 1)) < r2)) then
  ((chk ahead_0.nn).bind fun _ =>
  ((chk ahead_0.nn).bind fun _ =>
  ((chk ahead_0.nn).bind fun _ =>
  ((recf ahead_0.behind thing_1 behind_2).bind fun r9 =>
  ((seqTurnedPair_m ahead_0.ahead ahead_0.thing r9).bind fun r11 =>
  some r11)))))
 else
  ((seqHeightPair_m behind_2).bind fun r13 =>
  ((seqHeightPair_m ahead_0).bind fun r15 =>
  (bif (decide ((IntKind.i64.wrap (r15 + 1)) < r13)) then
   ((chk behind_2.nn).bind fun _ =>
   ((recf ahead_0 thing_1 behind_2.ahead).bind fun r18 =>
   ((chk behind_2.nn).bind fun _ =>
   ((chk behind_2.nn).bind fun _ =>
   ((seqTurnedPair_m r18 behind_2.thing behind_2.behind).bind fun r22 =>
   some r22)))))
  else
   ((seqTreePair_m ahead_0 thing_1 behind_2).bind fun r24 =>
   some r24)))))))
def seqAroundPair_F : Nat → GSeqSeqPair → GDictPair → GSeqSeqPair → Option (GSeqSeqPair)
 | 0 => fun _ _ _ => none
 | n + 1 => seqAroundPair_R (seqAroundPair_F n)
def seqAroundPair_m (ahead_0 : GSeqSeqPair) (thing_1 : GDictPair) (behind_2 : GSeqSeqPair) : Option (GSeqSeqPair) := seqAroundPair_F FUEL ahead_0 thing_1 behind_2
theorem seqAroundPair_cF : ∀ (nn : Nat) {ahead_0 : GSeqSeqPair} {thing_1 : GDictPair} {behind_2 : GSeqSeqPair} {r : GSeqSeqPair} (hm : seqAroundPair_F nn ahead_0 thing_1 behind_2 = some r), PureC Tryz.prog 143 [GSeqSeqPair.av ahead_0, .agg [.v (.int .u64 thing_1.Key), .v (.int .i64 thing_1.N)], GSeqSeqPair.av behind_2] (GSeqSeqPair.av r) := by
 intro nn
 induction nn with
 | zero =>
  intro ahead_0 thing_1 behind_2 r hm
  replace hm : none = some r := hm
  cases hm
 | succ nn ih =>
  intro ahead_0 thing_1 behind_2 r hm
  replace hm : seqAroundPair_R (seqAroundPair_F nn) ahead_0 thing_1 behind_2 = some r := hm
  refine PureC.of_body Tryz.func143 rfl ?_
  simp only [Tryz.ntmps143, List.length_cons, List.length_nil, Nat.reduceAdd, Nat.reduceSub, empty_eq]
  unfold seqAroundPair_R at hm
  refine sr (N' := 64) rfl ?_
  refine hp (id := 0) rfl rfl (aheap_box Z1 Z5) ?_
  refine pA ?_
  refine fs ?_
  refine AWp.seq' ?_
  refine AWp.block ?_
  refine sr (N' := 128) rfl ?_
  refine pA ?_
  obtain ⟨r2, h1, hm⟩ := bnd hm
  refine ARun.callQ (r := .v (.int .i64 r2)) Zd Z1 fb173 (fun H => (cD (GSeqSeqPair.data _) .nil)) (seqHeightPair_c h1) ?_
  refine pA ?_
  obtain ⟨r4, h3, hm⟩ := bnd hm
  refine ARun.callQ (r := .v (.int .i64 r4)) Zd Z1 fb173 (fun H => (cD (GSeqSeqPair.data _) .nil)) (seqHeightPair_c h3) ?_
  iterate 3 refine pA ?_
  refine fs ?_
  refine AWp.condM hm Z1 (fun _ hm => ?_) (fun _ hm => ?_)
  ·
   refine sd mix (by kernel_rfl) (N' := 192) rfl ?_
   refine pA ?_
   obtain ⟨_, h5, hm⟩ := bnd hm
   refine pu rfl (ap_ncp Z1 (GSeqSeqPair.av_nn (chk_t h5))) ?_
   iterate 3 refine pA ?_
   obtain ⟨_, h6, hm⟩ := bnd hm
   refine pu rfl (ap_ncp Z1 (GSeqSeqPair.av_nn (chk_t h6))) ?_
   iterate 3 refine pA ?_
   obtain ⟨_, h7, hm⟩ := bnd hm
   refine pu rfl (ap_ncp Z1 (GSeqSeqPair.av_nn (chk_t h7))) ?_
   iterate 2 refine pA ?_
   refine pu rfl (ap_ldv Z1 Z3 Z2) ?_
   refine pA ?_
   obtain ⟨r9, h8, hm⟩ := bnd hm
   refine ARun.callQ (r := GSeqSeqPair.av r9) Zd Z1 fb143 (fun H => (cD (GSeqSeqPair.data _) (cD (.agg _ (CFGDictPair.dat _)) (cD (GSeqSeqPair.data _) .nil)))) (ih h8) ?_
   obtain ⟨r11, h10, hm⟩ := bnd hm
   refine ARun.callQ (r := GSeqSeqPair.av r11) Zd Z1 fb174 (fun H => (cD (GSeqSeqPair.data _) (cD (.agg _ (CFGDictPair.dat _)) (cD (GSeqSeqPair.data _) .nil)))) (seqTurnedPair_c h10) ?_
   refine pA ?_
   refine fs ?_
   refine AWp.ret ?_
   refine retIn ?_
   refine retSeq ?_
   cases hm
   exact ret1D (.inr rfl) Tryz.results143 (td Z1 (GSeqSeqPair.data _))
  ·
   refine sr (N' := 192) rfl ?_
   refine pA ?_
   obtain ⟨r13, h12, hm⟩ := bnd hm
   refine ARun.callQ (r := .v (.int .i64 r13)) Zd Z1 fb173 (fun H => (cD (GSeqSeqPair.data _) .nil)) (seqHeightPair_c h12) ?_
   refine pA ?_
   obtain ⟨r15, h14, hm⟩ := bnd hm
   refine ARun.callQ (r := .v (.int .i64 r15)) Zd Z1 fb173 (fun H => (cD (GSeqSeqPair.data _) .nil)) (seqHeightPair_c h14) ?_
   iterate 3 refine pA ?_
   refine fs ?_
   refine AWp.condM hm Z1 (fun _ hm => ?_) (fun _ hm => ?_)
   ·
    refine sd mix (by kernel_rfl) (N' := 256) rfl ?_
    refine pA ?_
    refine pu rfl (ap_ldv Z1 Z3 Z2) ?_
    refine pA ?_
    obtain ⟨_, h16, hm⟩ := bnd hm
    refine pu rfl (ap_ncp Z1 (GSeqSeqPair.av_nn (chk_t h16))) ?_
    iterate 2 refine pA ?_
    obtain ⟨r18, h17, hm⟩ := bnd hm
    refine ARun.callQ (r := GSeqSeqPair.av r18) Zd Z1 fb143 (fun H => (cD (GSeqSeqPair.data _) (cD (.agg _ (CFGDictPair.dat _)) (cD (GSeqSeqPair.data _) .nil)))) (ih h17) ?_
    refine pA ?_
    obtain ⟨_, h19, hm⟩ := bnd hm
    refine pu rfl (ap_ncp Z1 (GSeqSeqPair.av_nn (chk_t h19))) ?_
    iterate 3 refine pA ?_
    obtain ⟨_, h20, hm⟩ := bnd hm
    refine pu rfl (ap_ncp Z1 (GSeqSeqPair.av_nn (chk_t h20))) ?_
    iterate 2 refine pA ?_
    obtain ⟨r22, h21, hm⟩ := bnd hm
    refine ARun.callQ (r := GSeqSeqPair.av r22) Zd Z1 fb174 (fun H => (cD (GSeqSeqPair.data _) (cD (.agg _ (CFGDictPair.dat _)) (cD (GSeqSeqPair.data _) .nil)))) (seqTurnedPair_c h21) ?_
    refine pA ?_
    refine fs ?_
    refine AWp.ret ?_
    refine retIn ?_
    refine retSeq ?_
    cases hm
    exact ret1D (.inr rfl) Tryz.results143 (td Z1 (GSeqSeqPair.data _))
   ·
    refine AWp.skip ?_
    refine normIn ?_
    refine normSeq ?_
    refine sr (N' := 256) rfl ?_
    refine pA ?_
    refine pu rfl (ap_ldv Z1 Z3 Z2) ?_
    refine pA ?_
    obtain ⟨r24, h23, hm⟩ := bnd hm
    refine ARun.callQ (r := GSeqSeqPair.av r24) Zd Z1 fb144 (fun H => (cD (GSeqSeqPair.data _) (cD (.agg _ (CFGDictPair.dat _)) (cD (GSeqSeqPair.data _) .nil)))) (seqTreePair_c h23) ?_
    refine pA ?_
    refine fs ?_
    refine AWp.ret ?_
    cases hm
    exact ret1D (.inr rfl) Tryz.results143 (td Z1 (GSeqSeqPair.data _))
theorem seqAroundPair_c {ahead_0 : GSeqSeqPair} {thing_1 : GDictPair} {behind_2 : GSeqSeqPair} {r : GSeqSeqPair} (hm : seqAroundPair_m ahead_0 thing_1 behind_2 = some r) : PureC Tryz.prog 143 [GSeqSeqPair.av ahead_0, .agg [.v (.int .u64 thing_1.Key), .v (.int .i64 thing_1.N)], GSeqSeqPair.av behind_2] (GSeqSeqPair.av r) := seqAroundPair_cF FUEL hm
def seqSplitPair_R (recf : GSeqSeqPair → Int → Option (GSeqSeqPair × GSeqSeqPair)) (s_0 : GSeqSeqPair) (at_1 : Int) : Option (GSeqSeqPair × GSeqSeqPair) :=
 (bif (decide (at_1 ≤ 0)) then
  some (GSeqSeqPair.nil, s_0)
 else
  ((seqLenPair_m s_0).bind fun r2 =>
  (bif (decide (r2 ≤ at_1)) then
   some (s_0, GSeqSeqPair.nil)
  else
   ((chk s_0.nn).bind fun _ =>
   ((seqLenPair_m s_0.ahead).bind fun r5 =>
   (bif (decide (at_1 ≤ r5)) then
    ((chk s_0.nn).bind fun _ =>
    ((recf s_0.ahead at_1).bind fun ⟨r8, r9⟩ =>
    ((chk s_0.nn).bind fun _ =>
    ((chk s_0.nn).bind fun _ =>
    ((seqAroundPair_m r9 s_0.thing s_0.behind).bind fun r13 =>
    some (r8, r13))))))
   else
    ((chk s_0.nn).bind fun _ =>
    ((recf s_0.behind (IntKind.i64.wrap ((IntKind.i64.wrap (at_1 - r5)) - 1))).bind fun ⟨r16, r17⟩ =>
    ((chk s_0.nn).bind fun _ =>
    ((chk s_0.nn).bind fun _ =>
    ((seqAroundPair_m s_0.ahead s_0.thing r16).bind fun r21 =>
    some (r21, r17))))))))))))
def seqSplitPair_F : Nat → GSeqSeqPair → Int → Option (GSeqSeqPair × GSeqSeqPair)
 | 0 => fun _ _ => none
 | n + 1 => seqSplitPair_R (seqSplitPair_F n)
def seqSplitPair_m (s_0 : GSeqSeqPair) (at_1 : Int) : Option (GSeqSeqPair × GSeqSeqPair) := seqSplitPair_F FUEL s_0 at_1
theorem seqSplitPair_cF : ∀ (nn : Nat) {s_0 : GSeqSeqPair} {at_1 : Int} {r : GSeqSeqPair × GSeqSeqPair} (hm : seqSplitPair_F nn s_0 at_1 = some r), PureC Tryz.prog 125 [GSeqSeqPair.av s_0, .v (.int .i64 at_1)] (.tup [GSeqSeqPair.av r.1, GSeqSeqPair.av r.2]) := by
 intro nn
 induction nn with
 | zero =>
  intro s_0 at_1 r hm
  replace hm : none = some r := hm
  cases hm
 | succ nn ih =>
  intro s_0 at_1 r hm
  replace hm : seqSplitPair_R (seqSplitPair_F nn) s_0 at_1 = some r := hm
  refine PureC.of_body Tryz.func125 rfl ?_
  simp only [Tryz.ntmps125, List.length_cons, List.length_nil, Nat.reduceAdd, Nat.reduceSub, empty_eq]
  unfold seqSplitPair_R at hm
  refine sr (N' := 64) rfl ?_
  iterate 2 refine pA ?_
  refine fs ?_
  refine AWp.seq' ?_
  refine sr (N' := 128) rfl ?_
  iterate 2 refine pA ?_
  refine fs ?_
  refine AWp.condM hm Z1 (fun _ hm => ?_) (fun _ hm => ?_)
  ·
   refine sr (N' := 192) rfl ?_
   iterate 3 refine pA ?_
   refine fs ?_
   refine AWp.ret ?_
   refine retSeq ?_
   cases hm
   exact ret2D (.inr rfl) Tryz.results125 (td Z1 (GSeqSeqPair.data _)) (td Z1 (GSeqSeqPair.data _))
  ·
   refine AWp.skip ?_
   refine normSeq ?_
   refine AWp.seq' ?_
   refine sr (N' := 192) rfl ?_
   iterate 2 refine pA ?_
   obtain ⟨r2, h1, hm⟩ := bnd hm
   refine ARun.callQ (r := .v (.int .i64 r2)) Zd Z1 fb128 (fun H => (cD (GSeqSeqPair.data _) .nil)) (seqLenPair_c h1) ?_
   refine pA ?_
   refine fs ?_
   refine AWp.condM hm Z1 (fun _ hm => ?_) (fun _ hm => ?_)
   ·
    refine sr (N' := 256) rfl ?_
    iterate 3 refine pA ?_
    refine fs ?_
    refine AWp.ret ?_
    refine retSeq ?_
    cases hm
    exact ret2D (.inr rfl) Tryz.results125 (td Z1 (GSeqSeqPair.data _)) (td Z1 (GSeqSeqPair.data _))
   ·
    refine AWp.skip ?_
    refine normSeq ?_
    refine sr (N' := 256) rfl ?_
    refine pA ?_
    obtain ⟨_, h3, hm⟩ := bnd hm
    refine pu rfl (ap_ncp Z1 (GSeqSeqPair.av_nn (chk_t h3))) ?_
    iterate 2 refine pA ?_
    obtain ⟨r5, h4, hm⟩ := bnd hm
    refine ARun.callQ (r := .v (.int .i64 r5)) Zd Z1 fb128 (fun H => (cD (GSeqSeqPair.data _) .nil)) (seqLenPair_c h4) ?_
    refine pA ?_
    refine fs ?_
    refine AWp.seq' ?_
    refine sr (N' := 320) rfl ?_
    iterate 3 refine pA ?_
    refine fs ?_
    refine AWp.condM hm Z1 (fun _ hm => ?_) (fun _ hm => ?_)
    ·
     refine sr (N' := 384) rfl ?_
     refine pA ?_
     obtain ⟨_, h6, hm⟩ := bnd hm
     refine pu rfl (ap_ncp Z1 (GSeqSeqPair.av_nn (chk_t h6))) ?_
     iterate 3 refine pA ?_
     obtain ⟨⟨r8, r9⟩, h7, hm⟩ := bnd hm
     refine ARun.callQ (r := .tup [GSeqSeqPair.av r8, GSeqSeqPair.av r9]) Zd Z1 fb125 (fun H => (cD (GSeqSeqPair.data _) (cV .nil))) (ih h7) ?_
     iterate 5 refine pA ?_
     refine fs ?_
     refine sd mix (by kernel_rfl) (N' := 448) rfl ?_
     iterate 3 refine pA ?_
     obtain ⟨_, h10, hm⟩ := bnd hm
     refine pu rfl (ap_ncp Z1 (GSeqSeqPair.av_nn (chk_t h10))) ?_
     iterate 3 refine pA ?_
     obtain ⟨_, h11, hm⟩ := bnd hm
     refine pu rfl (ap_ncp Z1 (GSeqSeqPair.av_nn (chk_t h11))) ?_
     iterate 2 refine pA ?_
     obtain ⟨r13, h12, hm⟩ := bnd hm
     refine ARun.callQ (r := GSeqSeqPair.av r13) Zd Z1 fb143 (fun H => (cD (GSeqSeqPair.data _) (cD (.agg _ (CFGDictPair.dat _)) (cD (GSeqSeqPair.data _) .nil)))) (seqAroundPair_c h12) ?_
     iterate 2 refine pA ?_
     refine fs ?_
     refine AWp.ret ?_
     refine retSeq ?_
     cases hm
     exact ret2D (.inr rfl) Tryz.results125 (td Z1 (GSeqSeqPair.data _)) (td Z1 (GSeqSeqPair.data _))
    ·
     refine AWp.skip ?_
     refine normSeq ?_
     refine sr (N' := 384) rfl ?_
     refine pA ?_
     obtain ⟨_, h14, hm⟩ := bnd hm
     refine pu rfl (ap_ncp Z1 (GSeqSeqPair.av_nn (chk_t h14))) ?_
     iterate 6 refine pA ?_
     obtain ⟨⟨r16, r17⟩, h15, hm⟩ := bnd hm
     refine ARun.callQ (r := .tup [GSeqSeqPair.av r16, GSeqSeqPair.av r17]) Zd Z1 fb125 (fun H => (cD (GSeqSeqPair.data _) (cV .nil))) (ih h15) ?_
     iterate 5 refine pA ?_
     refine fs ?_
     refine sd mix (by kernel_rfl) (N' := 448) rfl ?_
     refine pA ?_
     obtain ⟨_, h18, hm⟩ := bnd hm
     refine pu rfl (ap_ncp Z1 (GSeqSeqPair.av_nn (chk_t h18))) ?_
     iterate 3 refine pA ?_
     obtain ⟨_, h19, hm⟩ := bnd hm
     refine pu rfl (ap_ncp Z1 (GSeqSeqPair.av_nn (chk_t h19))) ?_
     iterate 3 refine pA ?_
     obtain ⟨r21, h20, hm⟩ := bnd hm
     refine ARun.callQ (r := GSeqSeqPair.av r21) Zd Z1 fb143 (fun H => (cD (GSeqSeqPair.data _) (cD (.agg _ (CFGDictPair.dat _)) (cD (GSeqSeqPair.data _) .nil)))) (seqAroundPair_c h20) ?_
     iterate 3 refine pA ?_
     refine fs ?_
     refine AWp.ret ?_
     cases hm
     exact ret2D (.inr rfl) Tryz.results125 (td Z1 (GSeqSeqPair.data _)) (td Z1 (GSeqSeqPair.data _))
theorem seqSplitPair_c {s_0 : GSeqSeqPair} {at_1 : Int} {r : GSeqSeqPair × GSeqSeqPair} (hm : seqSplitPair_m s_0 at_1 = some r) : PureC Tryz.prog 125 [GSeqSeqPair.av s_0, .v (.int .i64 at_1)] (.tup [GSeqSeqPair.av r.1, GSeqSeqPair.av r.2]) := seqSplitPair_cF FUEL hm
def seqOfPair_R (recf : (List GDictPair) → Option (GSeqSeqPair)) (l_0 : List GDictPair) : Option (GSeqSeqPair) :=
 (bif ((l_0.length : Int) == 0) then
  some GSeqSeqPair.nil
 else
  ((slc l_0 0 (IntKind.i64.wrap (Int.tdiv (l_0.length : Int) 2))).bind fun l2 =>
  ((recf l2).bind fun r4 =>
  ((idx l_0 (IntKind.i64.wrap (Int.tdiv (l_0.length : Int) 2))).bind fun x6 =>
  ((slc l_0 (IntKind.i64.wrap ((IntKind.i64.wrap (Int.tdiv (l_0.length : Int) 2)) + 1)) (l_0.length : Int)).bind fun l8 =>
  ((recf l8).bind fun r10 =>
  ((seqTreePair_m r4 x6 r10).bind fun r12 =>
  some r12)))))))
def seqOfPair_F : Nat → (List GDictPair) → Option (GSeqSeqPair)
 | 0 => fun _ => none
 | n + 1 => seqOfPair_R (seqOfPair_F n)
def seqOfPair_m (l_0 : List GDictPair) : Option (GSeqSeqPair) := seqOfPair_F FUEL l_0
theorem seqOfPair_cF : ∀ (nn : Nat) {l_0 : List GDictPair} {r : GSeqSeqPair} (hm : seqOfPair_F nn l_0 = some r), PureC Tryz.prog 127 [.sl (l_0.flatMap cGDictPair) l_0.length false] (GSeqSeqPair.av r) := by
 intro nn
 induction nn with
 | zero =>
  intro l_0 r hm
  replace hm : none = some r := hm
  cases hm
 | succ nn ih =>
  intro l_0 r hm
  replace hm : seqOfPair_R (seqOfPair_F nn) l_0 = some r := hm
  refine PureC.of_body Tryz.func127 rfl ?_
  simp only [Tryz.ntmps127, List.length_cons, List.length_nil, Nat.reduceAdd, Nat.reduceSub, empty_eq]
  unfold seqOfPair_R at hm
  refine sr (N' := 64) rfl ?_
  refine pA ?_
  refine fs ?_
  refine AWp.seq' ?_
  refine sr (N' := 128) rfl ?_
  iterate 3 refine pA ?_
  refine fs ?_
  refine AWp.condM hm Z1 (fun _ hm => ?_) (fun _ hm => ?_)
  ·
   refine sr (N' := 192) rfl ?_
   refine pA ?_
   refine fs ?_
   refine AWp.ret ?_
   refine retSeq ?_
   cases hm
   exact ret1D (.inr rfl) Tryz.results127 (td Z1 (GSeqSeqPair.data _))
  ·
   refine AWp.skip ?_
   refine normSeq ?_
   refine sr (N' := 192) rfl ?_
   iterate 4 refine pu rfl (by simp only [go_sem, Nat.reduceBEq, Int.reduceEq, Int.reduceLE]; try with_reducible rfl) ?_
   refine fs ?_
   refine sd mix (by kernel_rfl) (N' := 256) rfl ?_
   iterate 2 refine pA ?_
   obtain ⟨l2, h1, hm⟩ := bnd hm
   refine pu rfl (ap_slc CFGDictPair Tryz.underlying204 sz158 Z1 rfl ab_none0 (ab_some Z1 (slc_0 h1).2) h1) ?_
   obtain ⟨r4, h3, hm⟩ := bnd hm
   refine ARun.callQ (r := GSeqSeqPair.av r4) Zd Z1 fb127 (fun H => (.cons (tdf Z1 (CFGDictPair.sl _ _ _)) .nil)) (ih h3) ?_
   iterate 2 refine pA ?_
   obtain ⟨x6, h5, hm⟩ := bnd hm
   refine pu rfl (ap_idx CFGDictPair Zd Tryz.underlying204 sz158 Z1 rfl Z1 h5) ?_
   iterate 4 refine pA ?_
   obtain ⟨l8, h7, hm⟩ := bnd hm
   refine pu rfl (ap_slc CFGDictPair Tryz.underlying204 sz158 Z1 rfl (ab_some Z1 (slc_0 h7).1) (ab_none _) h7) ?_
   obtain ⟨r10, h9, hm⟩ := bnd hm
   refine ARun.callQ (r := GSeqSeqPair.av r10) Zd Z1 fb127 (fun H => (.cons (tdf Z1 (CFGDictPair.sl _ _ _)) .nil)) (ih h9) ?_
   obtain ⟨r12, h11, hm⟩ := bnd hm
   refine ARun.callQ (r := GSeqSeqPair.av r12) Zd Z1 fb144 (fun H => (cD (GSeqSeqPair.data _) (cD (.agg _ (CFGDictPair.dat _)) (cD (GSeqSeqPair.data _) .nil)))) (seqTreePair_c h11) ?_
   refine pA ?_
   refine fs ?_
   refine AWp.ret ?_
   cases hm
   exact ret1D (.inr rfl) Tryz.results127 (td Z1 (GSeqSeqPair.data _))
theorem seqOfPair_c {l_0 : List GDictPair} {r : GSeqSeqPair} (hm : seqOfPair_m l_0 = some r) : PureC Tryz.prog 127 [.sl (l_0.flatMap cGDictPair) l_0.length false] (GSeqSeqPair.av r) := seqOfPair_cF FUEL hm
def seqJoinPair_m (a_0 : GSeqSeqPair) (b_1 : GSeqSeqPair) : Option (GSeqSeqPair) :=
 ((seqAtPair_m b_1 0).bind fun ⟨r2, r3⟩ =>
 (bif (!r3) then
  some a_0
 else
  ((seqSplitPair_m b_1 1).bind fun ⟨r5, r6⟩ =>
  ((seqAroundPair_m a_0 r2 r6).bind fun r8 =>
  some r8))))
theorem seqJoinPair_c {a_0 : GSeqSeqPair} {b_1 : GSeqSeqPair} {r : GSeqSeqPair} (hm : seqJoinPair_m a_0 b_1 = some r) : PureC Tryz.prog 126 [GSeqSeqPair.av a_0, GSeqSeqPair.av b_1] (GSeqSeqPair.av r) := by
 refine PureC.of_body Tryz.func126 rfl ?_
 simp only [Tryz.ntmps126, List.length_cons, List.length_nil, Nat.reduceAdd, Nat.reduceSub, empty_eq]
 unfold seqJoinPair_m at hm
 refine sr (N' := 64) rfl ?_
 refine pA ?_
 refine fs ?_
 refine sr (N' := 128) rfl ?_
 refine pA ?_
 obtain ⟨⟨r2, r3⟩, h1, hm⟩ := bnd hm
 refine ARun.callQ (r := .tup [.agg [.v (.int .u64 r2.Key), .v (.int .i64 r2.N)], .v (.bool r3)]) Zd Z1 fb97 (fun H => (cD (GSeqSeqPair.data _) (cV .nil))) (seqAtPair_c h1) ?_
 iterate 3 refine pA ?_
 refine hp (id := 69) rfl rfl (aheap_alloc' zc158 Z5) ?_
 refine ARun.heap0 (id := 70) rfl (ah_var (ys := [.v (.int .u64 r2.Key), .v (.int .i64 r2.N)]) sz158 Z1 Z1 Z3 rfl (Nat.le_of_ble_eq_true rfl) Z9 rfl) ?_
 refine pA ?_
 refine fs ?_
 refine AWp.seq' ?_
 refine sr (N' := 192) rfl ?_
 iterate 2 refine pA ?_
 refine fs ?_
 refine AWp.condM hm Z1 (fun _ hm => ?_) (fun _ hm => ?_)
 ·
  refine sr (N' := 256) rfl ?_
  iterate 2 refine pA ?_
  refine fs ?_
  refine AWp.ret ?_
  refine retSeq ?_
  cases hm
  exact ret1D (.inr rfl) Tryz.results126 (td Z1 (GSeqSeqPair.data _))
 ·
  refine AWp.skip ?_
  refine normSeq ?_
  refine sr (N' := 256) rfl ?_
  refine pA ?_
  obtain ⟨⟨r5, r6⟩, h4, hm⟩ := bnd hm
  refine ARun.callQ (r := .tup [GSeqSeqPair.av r5, GSeqSeqPair.av r6]) Zd Z1 fb125 (fun H => (cD (GSeqSeqPair.data _) (cV .nil))) (seqSplitPair_c h4) ?_
  iterate 5 refine pA ?_
  refine fs ?_
  refine sr (N' := 320) rfl ?_
  refine pA ?_
  refine pu rfl (ap_ldv Z1 Z3 Z2) ?_
  refine pA ?_
  obtain ⟨r8, h7, hm⟩ := bnd hm
  refine ARun.callQ (r := GSeqSeqPair.av r8) Zd Z1 fb143 (fun H => (cD (GSeqSeqPair.data _) (cD (.agg _ (CFGDictPair.dat _)) (cD (GSeqSeqPair.data _) .nil)))) (seqAroundPair_c h7) ?_
  refine pA ?_
  refine fs ?_
  refine AWp.ret ?_
  cases hm
  exact ret1D (.inr rfl) Tryz.results126 (td Z1 (GSeqSeqPair.data _))
def dictPut_J1 (key_1 : Int) (n_2 : Int) (t6 : GDictDict) (less_7 : GSeqSeqPair) (others_8 : GSeqSeqPair) : Option (GDictDict) :=
 ((seqOfPair_m [(GDictPair.mk key_1 n_2)]).bind fun r7 =>
 ((seqJoinPair_m r7 others_8).bind fun r9 =>
 ((seqJoinPair_m less_7 r9).bind fun r11 =>
 some (GDictDict.mk r11))))
def dictPut_m (d_0 : GDictDict) (key_1 : Int) (n_2 : Int) : Option (GDictDict) :=
 ((dictFrom_m d_0 key_1).bind fun r2 =>
 ((seqSplitPair_m d_0.s r2).bind fun ⟨r4, r5⟩ =>
 ((seqAtPair_m r5 0).bind fun ⟨r13, r14⟩ =>
 (bif (r14 && (r13.Key == key_1)) then
  ((seqSplitPair_m r5 1).bind fun ⟨r16, r17⟩ =>
  dictPut_J1 key_1 n_2 (GDictDict.mk GSeqSeqPair.nil) r4 r17)
 else
  dictPut_J1 key_1 n_2 (GDictDict.mk GSeqSeqPair.nil) r4 r5))))
theorem dictPut_c {d_0 : GDictDict} {key_1 : Int} {n_2 : Int} {r : GDictDict} (hm : dictPut_m d_0 key_1 n_2 = some r) : PureC Tryz.prog 96 [.agg [GSeqSeqPair.av d_0.s], .v (.int .u64 key_1), .v (.int .i64 n_2)] (.agg [GSeqSeqPair.av r.s]) := by
 refine PureC.of_body Tryz.func96 rfl ?_
 simp only [Tryz.ntmps96, List.length_cons, List.length_nil, Nat.reduceAdd, Nat.reduceSub, empty_eq]
 unfold dictPut_m at hm
 refine sr (N' := 64) rfl ?_
 refine hp (id := 0) rfl rfl (aheap_box Z1 Z5) ?_
 refine hp (id := 1) rfl rfl (aheap_alloc' zc130 Z5) ?_
 refine fs ?_
 refine sd mix (by kernel_rfl) (N' := 128) rfl ?_
 refine pA ?_
 refine pu rfl (ap_ldv Z1 Z3 Z4) ?_
 refine pu rfl (ap_ldv Z1 Z3 Z2) ?_
 refine pA ?_
 obtain ⟨r2, h1, hm⟩ := bnd hm
 refine ARun.callQ (r := .v (.int .i64 r2)) Zd Z1 fb98 (fun H => (cD (.agg _ (CFGDictDict.dat _)) (cV .nil))) (dictFrom_c h1) ?_
 obtain ⟨⟨r4, r5⟩, h3, hm⟩ := bnd hm
 refine ARun.callQ (r := .tup [GSeqSeqPair.av r4, GSeqSeqPair.av r5]) Zd Z1 fb125 (fun H => (cD (GSeqSeqPair.data _) (cV .nil))) (seqSplitPair_c h3) ?_
 iterate 5 refine pA ?_
 refine fs ?_
 refine AWp.seqJ (fun s => ∃ (key_1 : Int) (n_2 : Int) (t6 : GDictDict) (less_7 : GSeqSeqPair) (others_8 : GSeqSeqPair), s = (⟨47, (fset (fset (fset (fset (fset (fun _ => AV.any) 1 (.v (.int .u64 key_1))) 2 (.v (.int .i64 n_2))) 6 (.adr 1 0)) 7 (GSeqSeqPair.av less_7)) 8 (GSeqSeqPair.av others_8)), ⟨(upd nofresh 1 (.cells 1 [GSeqSeqPair.av t6.s] 0)), 64⟩⟩ : St) ∧ dictPut_J1 key_1 n_2 t6 less_7 others_8 = some r) ?_ ?_
 ·
  refine sr (N' := 192) rfl ?_
  refine pA ?_
  obtain ⟨⟨r13, r14⟩, h12, hm⟩ := bnd hm
  refine ARun.callQ (r := .tup [.agg [.v (.int .u64 r13.Key), .v (.int .i64 r13.N)], .v (.bool r14)]) Zd Z1 fb97 (fun H => (cD (GSeqSeqPair.data _) (cV .nil))) (seqAtPair_c h12) ?_
  iterate 3 refine pA ?_
  refine hp (id := 133) rfl rfl (aheap_alloc' zc158 Z5) ?_
  refine ARun.heap0 (id := 134) rfl (ah_var (ys := [.v (.int .u64 r13.Key), .v (.int .i64 r13.N)]) sz158 Z1 Z1 Z3 rfl (Nat.le_of_ble_eq_true rfl) Z9 rfl) ?_
  refine pA ?_
  refine fs ?_
  refine sr (N' := 256) rfl ?_
  iterate 3 first | refine pA ?_ | refine pB ?_
  refine pg rfl rfl Z2 (fun hb => (ap_ldv (Zh hb) Z3 Z4)) ?_
  iterate 3 first | refine pA ?_ | refine pB ?_
  refine fs ?_
  refine AWp.condM hm Z1 (fun _ hm => ?_) (fun _ hm => ?_)
  ·
   refine AWp.reg 64 (N' := 320) rfl ?_
   refine pA ?_
   obtain ⟨⟨r16, r17⟩, h15, hm⟩ := bnd hm
   refine ARun.callQ (r := .tup [GSeqSeqPair.av r16, GSeqSeqPair.av r17]) Zd Z1 fb125 (fun H => (cD (GSeqSeqPair.data _) (cV .nil))) (seqSplitPair_c h15) ?_
   iterate 4 refine pA ?_
   refine ARun.fin ?_
   refine normJ ?_
   refine ⟨_, ?_, key_1, n_2, (GDictDict.mk GSeqSeqPair.nil), r4, r17, rfl, hm⟩
   exact le_canon (fun j => bif j == 1 then 1 else 0) (wD (GSeqSeqPair.data r17) (wD (GSeqSeqPair.data r4) (wk_fset _ _ (wk_adr Z1 rfl Z7) (wV (wV wk_none))))) (hW (entWk_upd (entWk_data Z3 (Nat.le_refl _) (Nat.zero_le _) (CFGDictDict.dat (GDictDict.mk GSeqSeqPair.nil))) entWk_none))
  ·
   refine AWp.skip ?_
   refine normJ ?_
   refine ⟨_, ?_, key_1, n_2, (GDictDict.mk GSeqSeqPair.nil), r4, r5, rfl, hm⟩
   exact le_canon (fun j => bif j == 1 then 1 else 0) (wD (GSeqSeqPair.data r5) (wD (GSeqSeqPair.data r4) (wk_fset _ _ (wk_adr Z1 rfl Z7) (wV (wV wk_none))))) (hW (entWk_upd (entWk_data Z3 (Nat.le_refl _) (Nat.zero_le _) (CFGDictDict.dat (GDictDict.mk GSeqSeqPair.nil))) entWk_none))
 ·
  rintro s ⟨key_1, n_2, t6, less_7, others_8, rfl, hm⟩
  unfold dictPut_J1 at hm
  refine sr (N' := 128) rfl ?_
  iterate 3 refine pA ?_
  refine pu rfl (by simp only [go_sem, Nat.reduceBEq]; exact (by kernel_rfl : abuild Tryz.prog 158 [(0, .v (.int .u64 key_1)), (1, .v (.int .i64 n_2))] = some (.agg [.v (.int .u64 key_1), .v (.int .i64 n_2)]))) ?_
  refine hp (id := 68) rfl rfl (ah_list CFGDictPair (l := [(GDictPair.mk key_1 n_2)]) Tryz.underlying204 sz158 zc158 Z5 Zd Zd Zd (by simp only [go_sem, Nat.reduceBEq]; try rfl) (by kernel_rfl)) ?_
  obtain ⟨r7, h6, hm⟩ := bnd hm
  refine ARun.callL1 (r := GSeqSeqPair.av r7) (id := 68) Zd Z1 fb127 Z3 (.cons (tdl CFGDictPair Z1 Z3 (by simp) Z6) .nil) (seqOfPair_c h6) ?_
  refine pA ?_
  obtain ⟨r9, h8, hm⟩ := bnd hm
  refine ARun.callQ (r := GSeqSeqPair.av r9) Zd Z1 fb126 (fun H => (cD (GSeqSeqPair.data _) (cD (GSeqSeqPair.data _) .nil))) (seqJoinPair_c h8) ?_
  obtain ⟨r11, h10, hm⟩ := bnd hm
  refine ARun.callQ (r := GSeqSeqPair.av r11) Zd Z1 fb126 (fun H => (cD (GSeqSeqPair.data _) (cD (GSeqSeqPair.data _) .nil))) (seqJoinPair_c h10) ?_
  refine pu rfl (by simp only [go_sem, Nat.reduceBEq]; exact bp130GI1 (GSeqSeqPair.cells _)) ?_
  refine ARun.heap0 (id := 74) rfl (ah_var (ys := [GSeqSeqPair.av r11]) sz130 Z1 Z1 Z3 rfl (Nat.le_of_ble_eq_true rfl) (by simp only [List.all_cons, List.all_nil, Bool.and_true, GSeqSeqPair.one]; try rfl) rfl) ?_
  refine fs ?_
  refine AWp.ret ?_
  cases hm
  exact retL (.inr rfl) (by rw [Tryz.results96]) (.cell (ap_ldv' Z1 Z3 Z2) .nil) rfl (td rfl (.agg _ (CFGDictDict.dat (GDictDict.mk r11))))
def vertsKeyed_J1 (rec1 : GDictDict → GDictDict → List GVertsSlot → Int → Int → Option (GDictDict × Bool)) (t2 : GDictDict) (vertices_4 : GDictDict) (t14 : List GVertsSlot) (t15 : Int) (t16 : Int) : Option (GDictDict × Bool) :=
 rec1 t2 vertices_4 t14 t15 (IntKind.i64.wrap (t16 + 1))
def vertsKeyed_B1 (rec1 : GDictDict → GDictDict → List GVertsSlot → Int → Int → Option (GDictDict × Bool)) (t2 : GDictDict) (vertices_4 : GDictDict) (t14 : List GVertsSlot) (t15 : Int) (t16 : Int) : Option (GDictDict × Bool) :=
 (bif (decide (t16 < t15)) then
  ((idx t14 t16).bind fun x4 =>
  (bif (!x4.Used) then
   (bif (x4.Key != 0) then
    some ((GDictDict.mk GSeqSeqPair.nil), false)
   else
    vertsKeyed_J1 rec1 t2 vertices_4 t14 t15 t16)
  else
   ((dictGet_m vertices_4 x4.Key).bind fun ⟨r6, r7⟩ =>
   (bif r7 then
    some ((GDictDict.mk GSeqSeqPair.nil), false)
   else
    ((dictPut_m vertices_4 x4.Key t16).bind fun r9 =>
    vertsKeyed_J1 rec1 t2 r9 t14 t15 t16)))))
 else
  some (vertices_4, true))
def vertsKeyed_L1 : Nat → GDictDict → GDictDict → List GVertsSlot → Int → Int → Option (GDictDict × Bool)
 | 0 => fun _ _ _ _ _ => none
 | n + 1 => vertsKeyed_B1 (vertsKeyed_L1 n)
def vertsKeyed_m (l_0 : List GVertsSlot) : Option (GDictDict × Bool) :=
 ((vertsSized_m (l_0.length : Int)).bind fun r2 =>
 (bif (!r2) then
  some ((GDictDict.mk GSeqSeqPair.nil), false)
 else
  vertsKeyed_L1 FUEL (GDictDict.mk GSeqSeqPair.nil) (GDictDict.mk GSeqSeqPair.nil) l_0 (l_0.length : Int) 0))
theorem vertsKeyed_c {l_0 : List GVertsSlot} {r : GDictDict × Bool} (hm : vertsKeyed_m l_0 = some r) : PureC Tryz.prog 71 [.sl (l_0.flatMap cGVertsSlot) l_0.length false] (.tup [.agg [GSeqSeqPair.av r.1.s], .v (.bool r.2)]) := by
 refine PureC.of_body Tryz.func71 rfl ?_
 simp only [Tryz.ntmps71, List.length_cons, List.length_nil, Nat.reduceAdd, Nat.reduceSub, empty_eq]
 unfold vertsKeyed_m at hm
 refine sr (N' := 64) rfl ?_
 refine hp (id := 0) rfl rfl (aheap_alloc' zc130 Z5) ?_
 refine pA ?_
 refine fs ?_
 refine sr (N' := 128) rfl ?_
 refine hp (id := 64) rfl rfl (aheap_alloc' zc130 Z5) ?_
 refine fs ?_
 refine AWp.seq' ?_
 refine sr (N' := 192) rfl ?_
 iterate 2 refine pA ?_
 obtain ⟨r2, h1, hm⟩ := bnd hm
 refine ARun.callQ (r := .v (.bool r2)) Zd Z1 fb70 (fun H => (cV .nil)) (vertsSized_c h1) ?_
 refine pA ?_
 refine fs ?_
 refine AWp.condM hm Z1 (fun _ hm => ?_) (fun _ hm => ?_)
 ·
  refine sr (N' := 256) rfl ?_
  refine pu rfl (ap_ldv Z1 Z3 Z2) ?_
  refine ARun.heap0 (id := 193) rfl (ah_var (ys := [GSeqSeqPair.av GSeqSeqPair.nil]) sz130 Z1 Z1 Z3 rfl (Nat.le_of_ble_eq_true rfl) (by simp only [List.all_cons, List.all_nil, Bool.and_true, GSeqSeqPair.one]; try rfl) rfl) ?_
  refine pA ?_
  refine fs ?_
  refine AWp.ret ?_
  refine retSeq ?_
  cases hm
  exact retL (.inr rfl) (by rw [Tryz.results71]) (.cell (ap_ldv' Z1 Z3 Z2) (.tmp Z1 .nil)) rfl (tdt (.cons (td rfl (.agg _ (CFGDictDict.dat (GDictDict.mk GSeqSeqPair.nil)))) (.cons (td rfl (.v _)) .nil)))
 ·
  refine AWp.skip ?_
  refine normSeq ?_
  refine AWp.seq' ?_
  refine sr (N' := 256) rfl ?_
  iterate 3 refine pA ?_
  refine fs ?_
  refine AWp.block ?_
  refine AWp.loopM (fun m s => ∃ (t2 : GDictDict) (vertices_4 : GDictDict) (t14 : List GVertsSlot) (t15 : Int) (t16 : Int), s = (⟨44, (fset (fset (fset (fset (fset (fun _ => AV.any) 2 (.adr 1 0)) 4 (.adr 2 0)) 14 (.sl (t14.flatMap cGVertsSlot) t14.length false)) 15 (.v (.int .i64 t15))) 16 (.v (.int .i64 t16))), ⟨(upd (upd nofresh 1 (.cells 1 [GSeqSeqPair.av t2.s] 0)) 2 (.cells 1 [GSeqSeqPair.av vertices_4.s] 0)), 64⟩⟩ : St) ∧ vertsKeyed_L1 m t2 vertices_4 t14 t15 t16 = some r) FUEL ?_ ?_ ?_
  ·
   rintro s ⟨_, _, _, _, _, _, h⟩
   cases h
  ·
   refine ⟨_, ?_, (GDictDict.mk GSeqSeqPair.nil), (GDictDict.mk GSeqSeqPair.nil), l_0, (l_0.length : Int), 0, rfl, hm⟩
   exact le_canon (fun j => bif j == 1 then 0 else bif j == 2 then 64 else 0) (wV (wV (wD (CFGVertsSlot.sl _ _ _) (wk_fset _ _ (wk_adr Z1 rfl Z7) (wk_fset _ _ (wk_adr Z1 rfl Z7) wk_none))))) (heapWk_of _ (entWk_upd (entWk_data Z3 (Nat.le_refl _) (Nat.zero_le _) (CFGDictDict.dat (GDictDict.mk GSeqSeqPair.nil))) (entWk_upd (entWk_data Z3 (Nat.le_refl _) (Nat.zero_le _) (CFGDictDict.dat (GDictDict.mk GSeqSeqPair.nil))) entWk_none)) Z8)
  ·
   rintro n1 s ⟨t2, vertices_4, t14, t15, t16, rfl, hm⟩
   replace hm : vertsKeyed_B1 (vertsKeyed_L1 n1) t2 vertices_4 t14 t15 t16 = some r := hm
   unfold vertsKeyed_B1 at hm
   refine sr (N' := 128) rfl ?_
   refine pA ?_
   refine fs ?_
   refine AWp.seq' ?_
   refine AWp.condM hm Z1 (fun _ hm => ?_) (fun _ hm => ?_)
   ·
    refine AWp.skip ?_
    refine normSeq ?_
    refine AWp.seqJ (fun s => ∃ (t2 : GDictDict) (vertices_4 : GDictDict) (t14 : List GVertsSlot) (t15 : Int) (t16 : Int), s = (⟨44, (fset (fset (fset (fset (fset (fun _ => AV.any) 2 (.adr 1 0)) 4 (.adr 2 0)) 14 (.sl (t14.flatMap cGVertsSlot) t14.length false)) 15 (.v (.int .i64 t15))) 16 (.v (.int .i64 t16))), ⟨(upd (upd nofresh 1 (.cells 1 [GSeqSeqPair.av t2.s] 0)) 2 (.cells 1 [GSeqSeqPair.av vertices_4.s] 0)), 64⟩⟩ : St) ∧ vertsKeyed_J1 (vertsKeyed_L1 n1) t2 vertices_4 t14 t15 t16 = some r) ?_ ?_
    ·
     refine AWp.block ?_
     refine sr (N' := 192) rfl ?_
     refine pA ?_
     obtain ⟨x4, h3, hm⟩ := bnd hm
     refine pu rfl (ap_idx CFGVertsSlot Zd Tryz.underlying31 sz104 Z1 rfl Z1 h3) ?_
     refine pA ?_
     refine hp (id := 131) rfl rfl (aheap_alloc' zc104 Z5) ?_
     refine pA ?_
     refine ARun.heap0 (id := 133) rfl (ah_var (ys := [.v (.bool x4.Used), .v (.int .u64 x4.Key)]) sz104 Z1 Z1 Z3 rfl (Nat.le_of_ble_eq_true rfl) Z9 rfl) ?_
     refine fs ?_
     refine AWp.seq' ?_
     refine sr (N' := 256) rfl ?_
     refine pA ?_
     refine pu rfl (ap_ldv Z1 Z3 Z4) ?_
     refine pA ?_
     refine fs ?_
     refine AWp.condM hm Z1 (fun _ hm => ?_) (fun _ hm => ?_)
     ·
      refine AWp.seq' ?_
      refine sr (N' := 320) rfl ?_
      refine pA ?_
      refine pu rfl (ap_ldv Z1 Z3 Z4) ?_
      refine pA ?_
      refine fs ?_
      refine AWp.condM hm Z1 (fun _ hm => ?_) (fun _ hm => ?_)
      ·
       refine sr (N' := 384) rfl ?_
       refine pu rfl (by simp only [go_sem, Nat.reduceBEq]; exact (by kernel_rfl : abuild Tryz.prog 130 [] = some (.agg [GSeqSeqPair.av GSeqSeqPair.nil]))) ?_
       refine ARun.heap0 (id := 321) rfl (ah_var (ys := [GSeqSeqPair.av GSeqSeqPair.nil]) sz130 Z1 Z1 Z3 rfl (Nat.le_of_ble_eq_true rfl) (by simp only [List.all_cons, List.all_nil, Bool.and_true, GSeqSeqPair.one]; try rfl) rfl) ?_
       refine pA ?_
       refine fs ?_
       refine AWp.ret ?_
       refine retSeq ?_
       refine retSeq ?_
       refine retIn ?_
       refine retJ ?_
       refine retThen ?_
       refine retIn ?_
       refine retSeq ?_
       cases hm
       exact retL (.inr rfl) (by rw [Tryz.results71]) (.cell (ap_ldv' Z1 Z3 Z2) (.tmp Z1 .nil)) rfl (tdt (.cons (td rfl (.agg _ (CFGDictDict.dat (GDictDict.mk GSeqSeqPair.nil)))) (.cons (td rfl (.v _)) .nil)))
      ·
       refine AWp.skip ?_
       refine normSeq ?_
       refine AWp.exit ?_
       refine exitSeq ?_
       refine exitHere ?_
       refine normJ ?_
       refine ⟨_, ?_, t2, vertices_4, t14, t15, t16, rfl, hm⟩
       exact le_canon (fun j => bif j == 1 then 1 else bif j == 2 then 2 else 0) (wV (wV (wD (CFGVertsSlot.sl _ _ _) (wk_fset _ _ (wk_adr Z1 rfl Z7) (wk_fset _ _ (wk_adr Z1 rfl Z7) wk_none))))) (hW (entWk_upd (entWk_data Z3 (Nat.le_refl _) (Nat.zero_le _) (CFGDictDict.dat vertices_4)) (entWk_upd (entWk_data Z3 (Nat.le_refl _) (Nat.zero_le _) (CFGDictDict.dat t2)) entWk_none)))
     ·
      refine AWp.skip ?_
      refine normSeq ?_
      refine AWp.seq' ?_
      refine sr (N' := 320) rfl ?_
      refine pu rfl (ap_ldv Z1 Z3 Z2) ?_
      refine pA ?_
      refine pu rfl (ap_ldv Z1 Z3 Z4) ?_
      obtain ⟨⟨r6, r7⟩, h5, hm⟩ := bnd hm
      refine ARun.callQ (r := .tup [.v (.int .i64 r6), .v (.bool r7)]) Zd Z1 fb72 (fun H => (cD (.agg _ (CFGDictDict.dat _)) (cV .nil))) (dictGet_c h5) ?_
      iterate 5 refine pA ?_
      refine fs ?_
      refine sr (N' := 384) rfl ?_
      refine pA ?_
      refine fs ?_
      refine AWp.condM hm Z1 (fun _ hm => ?_) (fun _ hm => ?_)
      ·
       refine sr (N' := 448) rfl ?_
       refine pu rfl (by simp only [go_sem, Nat.reduceBEq]; exact (by kernel_rfl : abuild Tryz.prog 130 [] = some (.agg [GSeqSeqPair.av GSeqSeqPair.nil]))) ?_
       refine ARun.heap0 (id := 385) rfl (ah_var (ys := [GSeqSeqPair.av GSeqSeqPair.nil]) sz130 Z1 Z1 Z3 rfl (Nat.le_of_ble_eq_true rfl) (by simp only [List.all_cons, List.all_nil, Bool.and_true, GSeqSeqPair.one]; try rfl) rfl) ?_
       refine pA ?_
       refine fs ?_
       refine AWp.ret ?_
       refine retSeq ?_
       refine retIn ?_
       refine retJ ?_
       refine retThen ?_
       refine retIn ?_
       refine retSeq ?_
       cases hm
       exact retL (.inr rfl) (by rw [Tryz.results71]) (.cell (ap_ldv' Z1 Z3 Z2) (.tmp Z1 .nil)) rfl (tdt (.cons (td rfl (.agg _ (CFGDictDict.dat (GDictDict.mk GSeqSeqPair.nil)))) (.cons (td rfl (.v _)) .nil)))
      ·
       refine AWp.skip ?_
       refine normSeq ?_
       refine AWp.reg 64 (N' := 448) rfl ?_
       refine pu rfl (ap_ldv Z1 Z3 Z2) ?_
       refine pA ?_
       refine pu rfl (ap_ldv Z1 Z3 Z4) ?_
       refine pA ?_
       obtain ⟨r9, h8, hm⟩ := bnd hm
       refine ARun.callQ (r := .agg [GSeqSeqPair.av r9.s]) Zd Z1 fb96 (fun H => (cD (.agg _ (CFGDictDict.dat _)) (cV (cV .nil)))) (dictPut_c h8) ?_
       refine ARun.heap0 (id := 389) rfl (ah_var (ys := [GSeqSeqPair.av r9.s]) sz130 Z1 Z1 Z3 rfl (Nat.le_of_ble_eq_true rfl) (by simp only [List.all_cons, List.all_nil, Bool.and_true, GSeqSeqPair.one]; try rfl) rfl) ?_
       refine ARun.fin ?_
       refine normIn ?_
       refine normJ ?_
       refine ⟨_, ?_, t2, r9, t14, t15, t16, rfl, hm⟩
       exact le_canon (fun j => bif j == 1 then 1 else bif j == 2 then 2 else 0) (wV (wV (wD (CFGVertsSlot.sl _ _ _) (wk_fset _ _ (wk_adr Z1 rfl Z7) (wk_fset _ _ (wk_adr Z1 rfl Z7) wk_none))))) (hW (entWk_upd (entWk_data Z3 (Nat.le_refl _) (Nat.zero_le _) (CFGDictDict.dat r9)) (entWk_upd (entWk_data Z3 (Nat.le_refl _) (Nat.zero_le _) (CFGDictDict.dat t2)) entWk_none)))
    ·
     rintro s ⟨t2, vertices_4, t14, t15, t16, rfl, hm⟩
     unfold vertsKeyed_J1 at hm
     refine AWp.reg 64 (N' := 128) rfl ?_
     iterate 2 refine pA ?_
     refine ARun.fin ?_
     refine normThen ?_
     refine ⟨_, ?_, t2, vertices_4, t14, t15, (IntKind.i64.wrap (t16 + 1)), rfl, hm⟩
     exact le_canon (fun j => bif j == 1 then 1 else bif j == 2 then 2 else 0) (wV (wV (wD (CFGVertsSlot.sl _ _ _) (wk_fset _ _ (wk_adr Z1 rfl Z7) (wk_fset _ _ (wk_adr Z1 rfl Z7) wk_none))))) (hW (entWk_upd (entWk_data Z3 (Nat.le_refl _) (Nat.zero_le _) (CFGDictDict.dat vertices_4)) (entWk_upd (entWk_data Z3 (Nat.le_refl _) (Nat.zero_le _) (CFGDictDict.dat t2)) entWk_none)))
   ·
    refine AWp.exit ?_
    refine exitSeq ?_
    refine exitThen ?_
    refine exitHere ?_
    refine normSeq ?_
    refine sr (N' := 192) rfl ?_
    refine pu rfl (ap_ldv Z1 Z3 Z2) ?_
    refine ARun.heap0 (id := 129) rfl (ah_var (ys := [GSeqSeqPair.av vertices_4.s]) sz130 Z1 Z1 Z3 rfl (Nat.le_of_ble_eq_true rfl) (by simp only [List.all_cons, List.all_nil, Bool.and_true, GSeqSeqPair.one]; try rfl) rfl) ?_
    refine pA ?_
    refine fs ?_
    refine AWp.ret ?_
    cases hm
    exact retL (.inr rfl) (by rw [Tryz.results71]) (.cell (ap_ldv' Z1 Z3 Z2) (.tmp Z1 .nil)) rfl (tdt (.cons (td rfl (.agg _ (CFGDictDict.dat _))) (.cons (td rfl (.v _)) .nil)))
def vertsRight_m (l_0 : List GVertsSlot) : Option (Bool) :=
 ((vertsKeyed_m l_0).bind fun ⟨r2, r3⟩ =>
 some r3)
theorem vertsRight_c {l_0 : List GVertsSlot} {r : Bool} (hm : vertsRight_m l_0 = some r) : PureC Tryz.prog 50 [.sl (l_0.flatMap cGVertsSlot) l_0.length false] (.v (.bool r)) := by
 refine PureC.of_body Tryz.func50 rfl ?_
 simp only [Tryz.ntmps50, List.length_cons, List.length_nil, Nat.reduceAdd, Nat.reduceSub, empty_eq]
 unfold vertsRight_m at hm
 refine sr (N' := 64) rfl ?_
 refine pA ?_
 refine fs ?_
 refine sr (N' := 128) rfl ?_
 refine pA ?_
 obtain ⟨⟨r2, r3⟩, h1, hm⟩ := bnd hm
 refine ARun.callQ (r := .tup [.agg [GSeqSeqPair.av r2.s], .v (.bool r3)]) Zd Z1 fb71 (fun H => (cD (CFGVertsSlot.sl _ _ _) .nil)) (vertsKeyed_c h1) ?_
 iterate 3 refine pA ?_
 refine hp (id := 69) rfl rfl (aheap_alloc' zc130 Z5) ?_
 refine ARun.heap0 (id := 70) rfl (ah_var (ys := [GSeqSeqPair.av r2.s]) sz130 Z1 Z1 Z3 rfl (Nat.le_of_ble_eq_true rfl) (by simp only [List.all_cons, List.all_nil, Bool.and_true, GSeqSeqPair.one]; try rfl) rfl) ?_
 refine pA ?_
 refine fs ?_
 refine sr (N' := 192) rfl ?_
 iterate 2 refine pA ?_
 refine fs ?_
 refine AWp.ret ?_
 cases hm
 exact ret1D (.inr rfl) Tryz.results50 (td Z1 (.v _))
def snapRight_B1 (rec1 : GSnapState → List GEdge → Int → Int → Option (Bool)) (s_1 : GSnapState) (t27 : List GEdge) (t28 : Int) (t29 : Int) : Option (Bool) :=
 (bif (decide (t29 < t28)) then
  ((idx t27 t29).bind fun x6 =>
  ((idx s_1.Slots x6.U).bind fun x8 =>
  ((gopt ((!x8.Used) == false) (GVertsSlot.mk false 0) (idx s_1.Slots x6.V)).bind fun x10 =>
  (bif ((!x8.Used) || (!x10.Used)) then
   some false
  else
   rec1 s_1 t27 t28 (IntKind.i64.wrap (t29 + 1))))))
 else
  some true)
def snapRight_L1 : Nat → GSnapState → List GEdge → Int → Int → Option (Bool)
 | 0 => fun _ _ _ _ => none
 | n + 1 => snapRight_B1 (snapRight_L1 n)
def snapRight_m (s_0 : GSnapState) : Option (Bool) :=
 ((searchRight_m s_0.Graph).bind fun r2 =>
 ((gopt ((!r2) == false) false (vertsRight_m s_0.Slots)).bind fun r4 =>
 (bif (((!r2) || (!r4)) || ((s_0.Slots.length : Int) != s_0.Graph.Config.N)) then
  some false
 else
  snapRight_L1 FUEL s_0 s_0.Graph.Edges (s_0.Graph.Edges.length : Int) 0)))
theorem snapRight_c {s_0 : GSnapState} {r : Bool} (hm : snapRight_m s_0 = some r) : PureC Tryz.prog 19 [.agg [.v (.int .i64 s_0.Graph.Config.N), .v (.int .i64 s_0.Graph.Config.L), .v (.int .i64 s_0.Graph.Config.R), .sl (s_0.Graph.Hashes.flatMap cGHash) s_0.Graph.Hashes.length false, .sl (s_0.Graph.Edges.flatMap cGEdge) s_0.Graph.Edges.length false, .sl (s_0.Slots.flatMap cGVertsSlot) s_0.Slots.length false]] (.v (.bool r)) := by
 refine PureC.of_body Tryz.func19 rfl ?_
 simp only [Tryz.ntmps19, List.length_cons, List.length_nil, Nat.reduceAdd, Nat.reduceSub, empty_eq]
 unfold snapRight_m at hm
 refine sr (N' := 64) rfl ?_
 refine hp (id := 0) rfl rfl (aheap_box Z1 Z5) ?_
 refine pA ?_
 refine fs ?_
 refine AWp.seq' ?_
 refine sr (N' := 128) rfl ?_
 refine pA ?_
 refine pu rfl (ap_ldv Z1 Z3 Z4) ?_
 obtain ⟨r2, h1, hm⟩ := bnd hm
 refine ARun.callQ (r := .v (.bool r2)) Zd Z1 fb49 (fun H => (cD (.agg _ (CFGGraph.dat _)) .nil)) (searchRight_c h1) ?_
 iterate 3 first | refine pA ?_ | refine pB ?_
 refine pg rfl rfl Z2 (fun hb => (ap_ldv (Zh hb) Z3 Z4)) ?_
 obtain ⟨r4, h3, hm⟩ := bnd hm
 refine ARun.callQG (r := .v (.bool r4)) Zd rfl Z2 Z1 fb50 (fun hb H => (.cons (td (Zh hb) (CFGVertsSlot.sl _ _ _)) .nil)) (fun hb => vertsRight_c (gopt_t h3 hb)) ?_
 iterate 4 first | refine pA ?_ | refine pB ?_
 refine pg rfl rfl Z2 (fun hb => (ap_ldv (Zh hb) Z3 Z4)) ?_
 iterate 4 refine pB ?_
 refine pg rfl rfl Z2 (fun hb => (ap_ldv (Zh hb) Z3 Z4)) ?_
 iterate 2 first | refine pA ?_ | refine pB ?_
 refine fs ?_
 refine AWp.condM hm Z1 (fun _ hm => ?_) (fun _ hm => ?_)
 ·
  refine sr (N' := 192) rfl ?_
  refine pA ?_
  refine fs ?_
  refine AWp.ret ?_
  refine retSeq ?_
  cases hm
  exact ret1D (.inr rfl) Tryz.results19 (td Z1 (.v _))
 ·
  refine AWp.skip ?_
  refine normSeq ?_
  refine AWp.seq' ?_
  refine sr (N' := 192) rfl ?_
  iterate 2 refine pA ?_
  refine pu rfl (ap_ldv Z1 Z3 Z4) ?_
  iterate 2 refine pA ?_
  refine fs ?_
  refine AWp.block ?_
  refine AWp.loopM (fun m s => ∃ (s_1 : GSnapState) (t27 : List GEdge) (t28 : Int) (t29 : Int), s = (⟨52, (fset (fset (fset (fset (fun _ => AV.any) 1 (.adr 1 0)) 27 (.sl (t27.flatMap cGEdge) t27.length false)) 28 (.v (.int .i64 t28))) 29 (.v (.int .i64 t29))), ⟨(upd nofresh 1 (.cells 1 [.v (.int .i64 s_1.Graph.Config.N), .v (.int .i64 s_1.Graph.Config.L), .v (.int .i64 s_1.Graph.Config.R), .sl (s_1.Graph.Hashes.flatMap cGHash) s_1.Graph.Hashes.length false, .sl (s_1.Graph.Edges.flatMap cGEdge) s_1.Graph.Edges.length false, .sl (s_1.Slots.flatMap cGVertsSlot) s_1.Slots.length false] 0)), 64⟩⟩ : St) ∧ snapRight_L1 m s_1 t27 t28 t29 = some r) FUEL ?_ ?_ ?_
  ·
   rintro s ⟨_, _, _, _, _, h⟩
   cases h
  ·
   refine ⟨_, ?_, s_0, s_0.Graph.Edges, (s_0.Graph.Edges.length : Int), 0, rfl, hm⟩
   exact le_canon (fun j => bif j == 1 then 0 else 0) (wV (wV (wD (CFGEdge.sl _ _ _) (wk_fset _ _ (wk_adr Z1 rfl Z7) wk_none)))) (hW (entWk_upd (entWk_data Z3 (Nat.le_refl _) (Nat.zero_le _) (CFGSnapState.dat s_0)) entWk_none))
  ·
   rintro n1 s ⟨s_1, t27, t28, t29, rfl, hm⟩
   replace hm : snapRight_B1 (snapRight_L1 n1) s_1 t27 t28 t29 = some r := hm
   unfold snapRight_B1 at hm
   refine sr (N' := 128) rfl ?_
   refine pA ?_
   refine fs ?_
   refine AWp.seq' ?_
   refine AWp.condM hm Z1 (fun _ hm => ?_) (fun _ hm => ?_)
   ·
    refine AWp.skip ?_
    refine normSeq ?_
    refine AWp.seq' ?_
    refine AWp.block ?_
    refine sr (N' := 192) rfl ?_
    obtain ⟨x6, h5, hm⟩ := bnd hm
    refine pu rfl (ap_idx CFGEdge Zd Tryz.underlying28 sz102 Z1 rfl Z1 h5) ?_
    refine pA ?_
    refine hp (id := 130) rfl rfl (aheap_alloc' zc102 Z5) ?_
    refine ARun.heap0 (id := 131) rfl (ah_var (ys := [.v (.int .i64 x6.U), .v (.int .i64 x6.V), .v (.int .i64 x6.Tier)]) sz102 Z1 Z1 Z3 rfl (Nat.le_of_ble_eq_true rfl) Z9 rfl) ?_
    refine fs ?_
    refine sr (N' := 256) rfl ?_
    refine pA ?_
    refine pu rfl (ap_ldv Z1 Z3 Z4) ?_
    refine pA ?_
    refine pu rfl (ap_ldv Z1 Z3 Z4) ?_
    obtain ⟨x8, h7, hm⟩ := bnd hm
    refine pu rfl (ap_idx CFGVertsSlot Zd Tryz.underlying31 sz104 Z1 rfl Z1 h7) ?_
    iterate 5 first | refine pA ?_ | refine pB ?_
    refine pg rfl rfl Z2 (fun hb => (ap_ldv (Zh hb) Z3 Z4)) ?_
    refine pB ?_
    refine pg rfl rfl Z2 (fun hb => (ap_ldv (Zh hb) Z3 Z4)) ?_
    obtain ⟨x10, h9, hm⟩ := bnd hm
    refine pg rfl rfl Z2 (fun hb => (ap_idx CFGVertsSlot Zd Tryz.underlying31 sz104 (Zh hb) rfl (Zh hb) (gopt_t h9 hb))) ?_
    iterate 4 first | refine pA ?_ | refine pB ?_
    refine fs ?_
    refine AWp.condM hm Z1 (fun _ hm => ?_) (fun _ hm => ?_)
    ·
     refine sr (N' := 320) rfl ?_
     refine pA ?_
     refine fs ?_
     refine AWp.ret ?_
     refine retIn ?_
     refine retSeq ?_
     refine retThen ?_
     refine retIn ?_
     refine retSeq ?_
     cases hm
     exact ret1D (.inr rfl) Tryz.results19 (td Z1 (.v _))
    ·
     refine AWp.skip ?_
     refine normIn ?_
     refine normSeq ?_
     refine AWp.reg 64 (N' := 320) rfl ?_
     iterate 2 refine pA ?_
     refine ARun.fin ?_
     refine normThen ?_
     refine ⟨_, ?_, s_1, t27, t28, (IntKind.i64.wrap (t29 + 1)), rfl, hm⟩
     exact le_canon (fun j => bif j == 1 then 1 else 0) (wV (wV (wD (CFGEdge.sl _ _ _) (wk_fset _ _ (wk_adr Z1 rfl Z7) wk_none)))) (hW (entWk_upd (entWk_data Z3 (Nat.le_refl _) (Nat.zero_le _) (CFGSnapState.dat s_1)) entWk_none))
   ·
    refine AWp.exit ?_
    refine exitSeq ?_
    refine exitThen ?_
    refine exitHere ?_
    refine normSeq ?_
    refine sr (N' := 192) rfl ?_
    refine pA ?_
    refine fs ?_
    refine AWp.ret ?_
    cases hm
    exact ret1D (.inr rfl) Tryz.results19 (td Z1 (.v _))
def vertsFind_m (l_0 : List GVertsSlot) (key_1 : Int) : Option (Int × Bool) :=
 ((vertsKeyed_m l_0).bind fun ⟨r2, r3⟩ =>
 (bif (!r3) then
  some (0, false)
 else
  ((dictGet_m r2 key_1).bind fun ⟨r5, r6⟩ =>
  some (r5, r6))))
theorem vertsFind_c {l_0 : List GVertsSlot} {key_1 : Int} {r : Int × Bool} (hm : vertsFind_m l_0 key_1 = some r) : PureC Tryz.prog 39 [.sl (l_0.flatMap cGVertsSlot) l_0.length false, .v (.int .u64 key_1)] (.tup [.v (.int .i64 r.1), .v (.bool r.2)]) := by
 refine PureC.of_body Tryz.func39 rfl ?_
 simp only [Tryz.ntmps39, List.length_cons, List.length_nil, Nat.reduceAdd, Nat.reduceSub, empty_eq]
 unfold vertsFind_m at hm
 refine sr (N' := 64) rfl ?_
 iterate 2 refine pA ?_
 refine fs ?_
 refine sr (N' := 128) rfl ?_
 refine pA ?_
 obtain ⟨⟨r2, r3⟩, h1, hm⟩ := bnd hm
 refine ARun.callQ (r := .tup [.agg [GSeqSeqPair.av r2.s], .v (.bool r3)]) Zd Z1 fb71 (fun H => (cD (CFGVertsSlot.sl _ _ _) .nil)) (vertsKeyed_c h1) ?_
 iterate 3 refine pA ?_
 refine hp (id := 69) rfl rfl (aheap_alloc' zc130 Z5) ?_
 refine ARun.heap0 (id := 70) rfl (ah_var (ys := [GSeqSeqPair.av r2.s]) sz130 Z1 Z1 Z3 rfl (Nat.le_of_ble_eq_true rfl) (by simp only [List.all_cons, List.all_nil, Bool.and_true, GSeqSeqPair.one]; try rfl) rfl) ?_
 refine pA ?_
 refine fs ?_
 refine AWp.seq' ?_
 refine sr (N' := 192) rfl ?_
 iterate 2 refine pA ?_
 refine fs ?_
 refine AWp.condM hm Z1 (fun _ hm => ?_) (fun _ hm => ?_)
 ·
  refine sr (N' := 256) rfl ?_
  iterate 2 refine pA ?_
  refine fs ?_
  refine AWp.ret ?_
  refine retSeq ?_
  cases hm
  exact ret2D (.inr rfl) Tryz.results39 (td Z1 (.v _)) (td Z1 (.v _))
 ·
  refine AWp.skip ?_
  refine normSeq ?_
  refine sr (N' := 256) rfl ?_
  refine pu rfl (ap_ldv Z1 Z3 Z2) ?_
  refine pA ?_
  obtain ⟨⟨r5, r6⟩, h4, hm⟩ := bnd hm
  refine ARun.callQ (r := .tup [.v (.int .i64 r5), .v (.bool r6)]) Zd Z1 fb72 (fun H => (cD (.agg _ (CFGDictDict.dat _)) (cV .nil))) (dictGet_c h4) ?_
  iterate 4 refine pA ?_
  refine fs ?_
  refine AWp.ret ?_
  cases hm
  exact ret2D (.inr rfl) Tryz.results39 (td Z1 (.v _)) (td Z1 (.v _))
def indexAsksA_m (do_0 : Int) : Option (Bool) :=
 some (((decide (2 ≤ do_0)) && (decide (do_0 ≤ 11))) && (do_0 != 10))
theorem indexAsksA_c {do_0 : Int} {r : Bool} (hm : indexAsksA_m do_0 = some r) : PureC Tryz.prog 40 [.v (.int .i64 do_0)] (.v (.bool r)) := by
 refine PureC.of_body Tryz.func40 rfl ?_
 simp only [Tryz.ntmps40, List.length_cons, List.length_nil, Nat.reduceAdd, Nat.reduceSub, empty_eq]
 unfold indexAsksA_m at hm
 refine sr (N' := 64) rfl ?_
 refine pA ?_
 refine fs ?_
 refine sr (N' := 128) rfl ?_
 iterate 11 first | refine pA ?_ | refine pB ?_
 refine fs ?_
 refine AWp.ret ?_
 cases hm
 exact ret1D (.inr rfl) Tryz.results40 (td Z1 (.v _))
def indexAsksB_m (do_0 : Int) : Option (Bool) :=
 some ((((do_0 == 3) || (do_0 == 4)) || (do_0 == 5)) || (do_0 == 8))
theorem indexAsksB_c {do_0 : Int} {r : Bool} (hm : indexAsksB_m do_0 = some r) : PureC Tryz.prog 41 [.v (.int .i64 do_0)] (.v (.bool r)) := by
 refine PureC.of_body Tryz.func41 rfl ?_
 simp only [Tryz.ntmps41, List.length_cons, List.length_nil, Nat.reduceAdd, Nat.reduceSub, empty_eq]
 unfold indexAsksB_m at hm
 refine sr (N' := 64) rfl ?_
 refine pA ?_
 refine fs ?_
 refine sr (N' := 128) rfl ?_
 iterate 15 first | refine pA ?_ | refine pB ?_
 refine fs ?_
 refine AWp.ret ?_
 cases hm
 exact ret1D (.inr rfl) Tryz.results41 (td Z1 (.v _))
def indexNear_m (s_0 : GSnapState) (v_1 : Int) : Option ((List Int)) :=
 ((tableNear_m s_0.Graph.Config.N s_0.Graph.Edges v_1).bind fun r2 =>
 some r2)
theorem indexNear_c {s_0 : GSnapState} {v_1 : Int} {r : (List Int)} (hm : indexNear_m s_0 v_1 = some r) : PureC Tryz.prog 77 [.agg [.v (.int .i64 s_0.Graph.Config.N), .v (.int .i64 s_0.Graph.Config.L), .v (.int .i64 s_0.Graph.Config.R), .sl (s_0.Graph.Hashes.flatMap cGHash) s_0.Graph.Hashes.length false, .sl (s_0.Graph.Edges.flatMap cGEdge) s_0.Graph.Edges.length false, .sl (s_0.Slots.flatMap cGVertsSlot) s_0.Slots.length false], .v (.int .i64 v_1)] (.sl (r.flatMap (ci .i64)) r.length false) := by
 refine PureC.of_body Tryz.func77 rfl ?_
 simp only [Tryz.ntmps77, List.length_cons, List.length_nil, Nat.reduceAdd, Nat.reduceSub, empty_eq]
 unfold indexNear_m at hm
 refine sr (N' := 64) rfl ?_
 refine hp (id := 0) rfl rfl (aheap_box Z1 Z5) ?_
 refine pA ?_
 refine fs ?_
 refine sr (N' := 128) rfl ?_
 iterate 3 refine pA ?_
 refine pu rfl (ap_ldv Z1 Z3 Z4) ?_
 iterate 2 refine pA ?_
 refine pu rfl (ap_ldv Z1 Z3 Z4) ?_
 refine pA ?_
 obtain ⟨r2, h1, hm⟩ := bnd hm
 refine ARun.callQ (r := .sl (r2.flatMap (ci .i64)) r2.length false) Zd Z1 fb101 (fun H => (cV (cD (CFGEdge.sl _ _ _) (cV .nil)))) (tableNear_c h1) ?_
 refine pA ?_
 refine fs ?_
 refine AWp.ret ?_
 cases hm
 exact ret1D (.inr rfl) Tryz.results77 (td Z1 ((CFi .i64).sl _ _ _))
def indexDegree_m (s_0 : GSnapState) (v_1 : Int) : Option (Int) :=
 ((indexNear_m s_0 v_1).bind fun r2 =>
 some (r2.length : Int))
theorem indexDegree_c {s_0 : GSnapState} {v_1 : Int} {r : Int} (hm : indexDegree_m s_0 v_1 = some r) : PureC Tryz.prog 75 [.agg [.v (.int .i64 s_0.Graph.Config.N), .v (.int .i64 s_0.Graph.Config.L), .v (.int .i64 s_0.Graph.Config.R), .sl (s_0.Graph.Hashes.flatMap cGHash) s_0.Graph.Hashes.length false, .sl (s_0.Graph.Edges.flatMap cGEdge) s_0.Graph.Edges.length false, .sl (s_0.Slots.flatMap cGVertsSlot) s_0.Slots.length false], .v (.int .i64 v_1)] (.v (.int .i64 r)) := by
 refine PureC.of_body Tryz.func75 rfl ?_
 simp only [Tryz.ntmps75, List.length_cons, List.length_nil, Nat.reduceAdd, Nat.reduceSub, empty_eq]
 unfold indexDegree_m at hm
 refine sr (N' := 64) rfl ?_
 refine hp (id := 0) rfl rfl (aheap_box Z1 Z5) ?_
 refine pA ?_
 refine fs ?_
 refine sr (N' := 128) rfl ?_
 refine pu rfl (ap_ldv Z1 Z3 Z2) ?_
 refine pA ?_
 obtain ⟨r2, h1, hm⟩ := bnd hm
 refine ARun.callQ (r := .sl (r2.flatMap (ci .i64)) r2.length false) Zd Z1 fb77 (fun H => (cD (.agg _ (CFGSnapState.dat _)) (cV .nil))) (indexNear_c h1) ?_
 iterate 2 refine pA ?_
 refine fs ?_
 refine AWp.ret ?_
 cases hm
 exact ret1D (.inr rfl) Tryz.results75 (td Z1 (.v _))
def cmpIsNaNUint64_m (x_0 : Int) : Option (Bool) :=
 some (x_0 != x_0)
theorem cmpIsNaNUint64_c {x_0 : Int} {r : Bool} (hm : cmpIsNaNUint64_m x_0 = some r) : PureC Tryz.prog 137 [.v (.int .u64 x_0)] (.v (.bool r)) := by
 refine PureC.of_body Tryz.func137 rfl ?_
 simp only [Tryz.ntmps137, List.length_cons, List.length_nil, Nat.reduceAdd, Nat.reduceSub, empty_eq]
 unfold cmpIsNaNUint64_m at hm
 refine sr (N' := 64) rfl ?_
 refine pA ?_
 refine fs ?_
 refine sr (N' := 128) rfl ?_
 iterate 4 refine pA ?_
 refine fs ?_
 refine AWp.ret ?_
 cases hm
 exact ret1D (.inr rfl) Tryz.results137 (td Z1 (.v _))
def cmpLessUint64_m (x_0 : Int) (y_1 : Int) : Option (Bool) :=
 ((cmpIsNaNUint64_m x_0).bind fun r2 =>
 ((gopt (r2 == true) false (cmpIsNaNUint64_m y_1)).bind fun r4 =>
 some ((r2 && (!r4)) || (decide (x_0 < y_1)))))
theorem cmpLessUint64_c {x_0 : Int} {y_1 : Int} {r : Bool} (hm : cmpLessUint64_m x_0 y_1 = some r) : PureC Tryz.prog 151 [.v (.int .u64 x_0), .v (.int .u64 y_1)] (.v (.bool r)) := by
 refine PureC.of_body Tryz.func151 rfl ?_
 simp only [Tryz.ntmps151, List.length_cons, List.length_nil, Nat.reduceAdd, Nat.reduceSub, empty_eq]
 unfold cmpLessUint64_m at hm
 refine sr (N' := 64) rfl ?_
 refine pA ?_
 refine fs ?_
 refine sr (N' := 128) rfl ?_
 refine pA ?_
 obtain ⟨r2, h1, hm⟩ := bnd hm
 refine ARun.callQ (r := .v (.bool r2)) Zd Z1 fb137 (fun H => (cV .nil)) (cmpIsNaNUint64_c h1) ?_
 iterate 2 first | refine pA ?_ | refine pB ?_
 obtain ⟨r4, h3, hm⟩ := bnd hm
 refine ARun.callQG (r := .v (.bool r4)) Zd rfl Z2 Z1 fb137 (fun hb H => (.cons (td (Zh hb) (.v _)) .nil)) (fun hb => cmpIsNaNUint64_c (gopt_t h3 hb)) ?_
 iterate 8 first | refine pA ?_ | refine pB ?_
 refine fs ?_
 refine AWp.ret ?_
 cases hm
 exact ret1D (.inr rfl) Tryz.results151 (td Z1 (.v _))
def slicesInsertionSortOrderedUint64_B2 (rec1 : List Int → Int → Int → Int → Option (List Int)) (rec2 : List Int → Int → Int → Int → Int → Option (List Int)) (data_0 : List Int) (a_1 : Int) (b_2 : Int) (i_6 : Int) (j_7 : Int) : Option (List Int) :=
 ((gopt ((decide (a_1 < j_7)) == true) 0 (idx data_0 j_7)).bind fun x2 =>
 ((gopt ((decide (a_1 < j_7)) == true) 0 (idx data_0 (IntKind.i64.wrap (j_7 - 1)))).bind fun x4 =>
 ((gopt ((decide (a_1 < j_7)) == true) false (cmpLessUint64_m x2 x4)).bind fun r6 =>
 (bif ((decide (a_1 < j_7)) && r6) then
  ((idx data_0 (IntKind.i64.wrap (j_7 - 1))).bind fun x8 =>
  ((idx data_0 j_7).bind fun x10 =>
  ((idx data_0 j_7).bind fun x12 =>
  ((stt data_0 j_7 x8).bind fun l14 =>
  ((idx l14 (IntKind.i64.wrap (j_7 - 1))).bind fun x16 =>
  ((stt l14 (IntKind.i64.wrap (j_7 - 1)) x10).bind fun l18 =>
  rec2 l18 a_1 b_2 i_6 (IntKind.i64.wrap (j_7 - 1))))))))
 else
  rec1 data_0 a_1 b_2 (IntKind.i64.wrap (i_6 + 1))))))
def slicesInsertionSortOrderedUint64_L2 (rec1 : List Int → Int → Int → Int → Option (List Int)) : Nat → List Int → Int → Int → Int → Int → Option (List Int)
 | 0 => fun _ _ _ _ _ => none
 | n + 1 => slicesInsertionSortOrderedUint64_B2 rec1 (slicesInsertionSortOrderedUint64_L2 rec1 n)
def slicesInsertionSortOrderedUint64_B1 (rec1 : List Int → Int → Int → Int → Option (List Int)) (data_0 : List Int) (a_1 : Int) (b_2 : Int) (i_6 : Int) : Option (List Int) :=
 (bif (decide (i_6 < b_2)) then
  slicesInsertionSortOrderedUint64_L2 rec1 FUEL data_0 a_1 b_2 i_6 i_6
 else
  some data_0)
def slicesInsertionSortOrderedUint64_L1 : Nat → List Int → Int → Int → Int → Option (List Int)
 | 0 => fun _ _ _ _ => none
 | n + 1 => slicesInsertionSortOrderedUint64_B1 (slicesInsertionSortOrderedUint64_L1 n)
def slicesInsertionSortOrderedUint64_m (data_0 : List Int) (a_1 : Int) (b_2 : Int) : Option (List Int) :=
 slicesInsertionSortOrderedUint64_L1 FUEL data_0 a_1 b_2 (IntKind.i64.wrap (a_1 + 1))
theorem slicesInsertionSortOrderedUint64_c {data_0 : List Int} {a_1 : Int} {b_2 : Int} {r : List Int} (hm : slicesInsertionSortOrderedUint64_m data_0 a_1 b_2 = some r) {H : Heap} {i0 : Nat} (he : H.ent i0 = .cells 1 (data_0.flatMap (ci .u64)) 0) : ACall Tryz.prog 145 [.own i0 0 data_0.length, .v (.int .i64 a_1), .v (.int .i64 b_2)] H (.tup []) (H.put i0 (.cells 1 (r.flatMap (ci .u64)) 0)) := by
 refine ACall.of_bodyM Tryz.func145 rfl he ?_
 generalize H.ent = h0
 simp only [Tryz.ntmps145, List.length_cons, List.length_nil, Nat.reduceAdd, Nat.reduceSub]
 unfold slicesInsertionSortOrderedUint64_m at hm
 refine sr (N' := 64) rfl ?_
 iterate 3 refine pA ?_
 refine fs ?_
 refine AWp.block ?_
 refine AWp.loopM (fun m s => ∃ (data_0 : List Int) (a_1 : Int) (b_2 : Int) (i_6 : Int), s = (⟨49, (fset (fset (fset (fset (fun _ => AV.any) 0 (.own i0 0 data_0.length)) 1 (.v (.int .i64 a_1))) 2 (.v (.int .i64 b_2))) 6 (.v (.int .i64 i_6))), ⟨(upd h0 i0 (.cells 1 (data_0.flatMap (ci .u64)) 0)), 64⟩⟩ : St) ∧ slicesInsertionSortOrderedUint64_L1 m data_0 a_1 b_2 i_6 = some r) FUEL ?_ ?_ ?_
 ·
  rintro s ⟨_, _, _, _, _, h⟩
  cases h
 ·
  refine ⟨_, ?_, data_0, a_1, b_2, (IntKind.i64.wrap (a_1 + 1)), rfl, hm⟩
  exact le_mut (mu_fset 6 _ Z1 (mu_fset 2 _ Z1 (mu_fset 1 _ Z1 (mu_fset 0 _ (mu_own Z1 Z6) mu_none)))) (by simp only [upd_upd]; try rfl)
 ·
  rintro n1 s ⟨data_0, a_1, b_2, i_6, rfl, hm⟩
  replace hm : slicesInsertionSortOrderedUint64_B1 (slicesInsertionSortOrderedUint64_L1 n1) data_0 a_1 b_2 i_6 = some r := hm
  unfold slicesInsertionSortOrderedUint64_B1 at hm
  refine AWp.seq' ?_
  refine sr (N' := 128) rfl ?_
  iterate 3 refine pA ?_
  refine fs ?_
  refine AWp.condM hm Z1 (fun _ hm => ?_) (fun _ hm => ?_)
  ·
   refine AWp.skip ?_
   refine normSeq ?_
   refine AWp.seq' ?_
   refine AWp.block ?_
   refine sr (N' := 192) rfl ?_
   iterate 2 refine pA ?_
   refine fs ?_
   refine AWp.block ?_
   refine AWp.loopM (fun m s => ∃ (data_0 : List Int) (a_1 : Int) (b_2 : Int) (i_6 : Int) (j_7 : Int), s = (⟨49, (fset (fset (fset (fset (fset (fun _ => AV.any) 0 (.own i0 0 data_0.length)) 1 (.v (.int .i64 a_1))) 2 (.v (.int .i64 b_2))) 6 (.v (.int .i64 i_6))) 7 (.v (.int .i64 j_7))), ⟨(upd h0 i0 (.cells 1 (data_0.flatMap (ci .u64)) 0)), 64⟩⟩ : St) ∧ slicesInsertionSortOrderedUint64_L2 (slicesInsertionSortOrderedUint64_L1 n1) m data_0 a_1 b_2 i_6 j_7 = some r) FUEL ?_ ?_ ?_
   ·
    rintro s ⟨_, _, _, _, _, _, h⟩
    cases h
   ·
    refine ⟨_, ?_, data_0, a_1, b_2, i_6, i_6, rfl, hm⟩
    exact le_mut (mu_fset 7 _ Z1 (mu_fset 6 _ Z1 (mu_fset 2 _ Z1 (mu_fset 1 _ Z1 (mu_fset 0 _ (mu_own Z1 Z6) mu_none))))) (by simp only [upd_upd]; try rfl)
   ·
    rintro n2 s ⟨data_0, a_1, b_2, i_6, j_7, rfl, hm⟩
    replace hm : slicesInsertionSortOrderedUint64_B2 (slicesInsertionSortOrderedUint64_L1 n1) (slicesInsertionSortOrderedUint64_L2 (slicesInsertionSortOrderedUint64_L1 n1) n2) data_0 a_1 b_2 i_6 j_7 = some r := hm
    unfold slicesInsertionSortOrderedUint64_B2 at hm
    refine AWp.seq' ?_
    refine sd mix (by kernel_rfl) (N' := 128) rfl ?_
    iterate 6 first | refine pA ?_ | refine pB ?_
    obtain ⟨x2, h1, hm⟩ := bnd hm
    refine pg rfl rfl Z2 (fun hb => (ap_idxo Tryz.underlying24 sz43 (Zh hb) (by simp only [upd_beq, beq_self_eq_true, Nat.reduceBEq, cond_true, cond_false]; try rfl) Z6 (Zh hb) (gopt_t h1 hb))) ?_
    refine pg rfl rfl Z2 (fun hb => (ap_ldo (CFi .u64) (Zh hb) (by simp only [upd_beq, beq_self_eq_true, Nat.reduceBEq, cond_true, cond_false]; try rfl) (gopt_t h1 hb) (fun _ => by simp only [go_sem, Nat.reduceBEq]; try with_reducible rfl))) ?_
    iterate 3 refine pB ?_
    obtain ⟨x4, h3, hm⟩ := bnd hm
    refine pg rfl rfl Z2 (fun hb => (ap_idxo Tryz.underlying24 sz43 (Zh hb) (by simp only [upd_beq, beq_self_eq_true, Nat.reduceBEq, cond_true, cond_false]; try rfl) Z6 (Zh hb) (gopt_t h3 hb))) ?_
    refine pg rfl rfl Z2 (fun hb => (ap_ldo (CFi .u64) (Zh hb) (by simp only [upd_beq, beq_self_eq_true, Nat.reduceBEq, cond_true, cond_false]; try rfl) (gopt_t h3 hb) (fun _ => by simp only [go_sem, Nat.reduceBEq]; try with_reducible rfl))) ?_
    obtain ⟨r6, h5, hm⟩ := bnd hm
    refine ARun.callQG (r := .v (.bool r6)) Zd rfl Z2 Z1 fb151 (fun hb H => (.cons (td (Zh hb) (.v _)) (.cons (td (Zh hb) (.v _)) .nil))) (fun hb => cmpLessUint64_c (gopt_t h5 hb)) ?_
    refine pA ?_
    refine fs ?_
    refine AWp.condM hm Z1 (fun _ hm => ?_) (fun _ hm => ?_)
    ·
     refine AWp.skip ?_
     refine normSeq ?_
     refine AWp.seq' ?_
     refine AWp.block ?_
     refine AWp.regD 64 mix (by kernel_rfl) (N' := 192) rfl ?_
     iterate 8 refine pA ?_
     obtain ⟨x8, h7, hm⟩ := bnd hm
     refine pu rfl (ap_idxo Tryz.underlying24 sz43 Z1 (by simp only [upd_beq, beq_self_eq_true, Nat.reduceBEq, cond_true, cond_false]; try rfl) Z6 Z1 h7) ?_
     refine pu rfl (ap_ldo (CFi .u64) Z1 (by simp only [upd_beq, beq_self_eq_true, Nat.reduceBEq, cond_true, cond_false]; try rfl) h7 (fun _ => by simp only [go_sem, Nat.reduceBEq]; try with_reducible rfl)) ?_
     iterate 2 refine pA ?_
     obtain ⟨x10, h9, hm⟩ := bnd hm
     refine pu rfl (ap_idxo Tryz.underlying24 sz43 Z1 (by simp only [upd_beq, beq_self_eq_true, Nat.reduceBEq, cond_true, cond_false]; try rfl) Z6 Z1 h9) ?_
     refine pu rfl (ap_ldo (CFi .u64) Z1 (by simp only [upd_beq, beq_self_eq_true, Nat.reduceBEq, cond_true, cond_false]; try rfl) h9 (fun _ => by simp only [go_sem, Nat.reduceBEq]; try with_reducible rfl)) ?_
     obtain ⟨x12, h11, hm⟩ := bnd hm
     refine pu rfl (ap_idxo Tryz.underlying24 sz43 Z1 (by simp only [upd_beq, beq_self_eq_true, Nat.reduceBEq, cond_true, cond_false]; try rfl) Z6 Z1 h11) ?_
     obtain ⟨l14, h13, hm⟩ := bnd hm
     have qh13 := stt_len h13
     refine ARun.heap0 (id := 143) rfl (ah_stt (CFi .u64) sz43 Z1 Z1 (by simp only [upd_beq, beq_self_eq_true, Nat.reduceBEq, cond_true, cond_false]; try rfl) rfl h13) ?_
     obtain ⟨x16, h15, hm⟩ := bnd hm
     refine pu rfl (ap_idxo Tryz.underlying24 sz43 Z1 (by simp only [upd_beq, beq_self_eq_true, Nat.reduceBEq, cond_true, cond_false]; try rfl) Z6 Z1 h15) ?_
     obtain ⟨l18, h17, hm⟩ := bnd hm
     have qh17 := stt_len h17
     refine ARun.heap0 (id := 145) rfl (ah_stt (CFi .u64) sz43 Z1 Z1 (by simp only [upd_beq, beq_self_eq_true, Nat.reduceBEq, cond_true, cond_false]; try rfl) rfl h17) ?_
     refine ARun.fin ?_
     refine normIn ?_
     refine normSeq ?_
     refine AWp.reg 64 (N' := 256) rfl ?_
     iterate 3 refine pA ?_
     refine ARun.fin ?_
     refine normThen ?_
     refine ⟨_, ?_, l18, a_1, b_2, i_6, (IntKind.i64.wrap (j_7 - 1)), rfl, hm⟩
     exact le_mut (mu_fset 7 _ Z1 (mu_fset 6 _ Z1 (mu_fset 2 _ Z1 (mu_fset 1 _ Z1 (mu_fset 0 _ (mu_own Z1 Z6) mu_none))))) (by simp only [upd_upd]; try rfl)
    ·
     refine AWp.exit ?_
     refine exitSeq ?_
     refine exitThen ?_
     refine exitHere ?_
     refine normIn ?_
     refine normSeq ?_
     refine AWp.reg 64 (N' := 192) rfl ?_
     iterate 3 refine pA ?_
     refine ARun.fin ?_
     refine normThen ?_
     refine ⟨_, ?_, data_0, a_1, b_2, (IntKind.i64.wrap (i_6 + 1)), rfl, hm⟩
     exact le_mut (mu_fset 6 _ Z1 (mu_fset 2 _ Z1 (mu_fset 1 _ Z1 (mu_fset 0 _ (mu_own Z1 Z6) mu_none)))) (by simp only [upd_upd]; try rfl)
  ·
   refine AWp.exit ?_
   refine exitSeq ?_
   refine exitThen ?_
   refine exitHere ?_
   cases hm
   exact retM0 (.inl rfl) Tryz.results145 (by simp only [upd_upd]; try rfl)
def slicesPdqsortOrderedUint64_B1 (rec1 : List Int → Int → Int → Int → Bool → Bool → Option (List Int)) (data_0 : List Int) (a_1 : Int) (b_2 : Int) (limit_3 : Int) (wasBalanced_8 : Bool) (wasPartitioned_9 : Bool) : Option (List Int) :=
 (bif (decide ((IntKind.i64.wrap (b_2 - a_1)) ≤ 12)) then
  ((lenk (fun x => x.length) data_0.length (slicesInsertionSortOrderedUint64_m data_0 a_1 b_2)).bind fun l2 =>
  some l2)
 else
  (bif (limit_3 == 0) then
   none
  else
   none))
def slicesPdqsortOrderedUint64_L1 : Nat → List Int → Int → Int → Int → Bool → Bool → Option (List Int)
 | 0 => fun _ _ _ _ _ _ => none
 | n + 1 => slicesPdqsortOrderedUint64_B1 (slicesPdqsortOrderedUint64_L1 n)
def slicesPdqsortOrderedUint64_m (data_0 : List Int) (a_1 : Int) (b_2 : Int) (limit_3 : Int) : Option (List Int) :=
 slicesPdqsortOrderedUint64_L1 FUEL data_0 a_1 b_2 limit_3 true true
theorem slicesPdqsortOrderedUint64_c {data_0 : List Int} {a_1 : Int} {b_2 : Int} {limit_3 : Int} {r : List Int} (hm : slicesPdqsortOrderedUint64_m data_0 a_1 b_2 limit_3 = some r) {H : Heap} {i0 : Nat} (he : H.ent i0 = .cells 1 (data_0.flatMap (ci .u64)) 0) : ACall Tryz.prog 133 [.own i0 0 data_0.length, .v (.int .i64 a_1), .v (.int .i64 b_2), .v (.int .i64 limit_3)] H (.tup []) (H.put i0 (.cells 1 (r.flatMap (ci .u64)) 0)) := by
 refine ACall.of_bodyM Tryz.func133 rfl he ?_
 generalize H.ent = h0
 simp only [Tryz.ntmps133, List.length_cons, List.length_nil, Nat.reduceAdd, Nat.reduceSub]
 unfold slicesPdqsortOrderedUint64_m at hm
 refine sr (N' := 64) rfl ?_
 refine pA ?_
 refine fs ?_
 refine sr (N' := 128) rfl ?_
 refine pA ?_
 refine fs ?_
 refine AWp.block ?_
 refine AWp.loopM (fun m s => ∃ (data_0 : List Int) (a_1 : Int) (b_2 : Int) (limit_3 : Int) (wasBalanced_8 : Bool) (wasPartitioned_9 : Bool), s = (⟨134, (fset (fset (fset (fset (fset (fset (fun _ => AV.any) 0 (.own i0 0 data_0.length)) 1 (.v (.int .i64 a_1))) 2 (.v (.int .i64 b_2))) 3 (.v (.int .i64 limit_3))) 8 (.v (.bool wasBalanced_8))) 9 (.v (.bool wasPartitioned_9))), ⟨(upd h0 i0 (.cells 1 (data_0.flatMap (ci .u64)) 0)), 64⟩⟩ : St) ∧ slicesPdqsortOrderedUint64_L1 m data_0 a_1 b_2 limit_3 wasBalanced_8 wasPartitioned_9 = some r) FUEL ?_ ?_ ?_
 ·
  rintro s ⟨_, _, _, _, _, _, _, h⟩
  cases h
 ·
  refine ⟨_, ?_, data_0, a_1, b_2, limit_3, true, true, rfl, hm⟩
  exact le_mut (mu_fset 9 _ Z1 (mu_fset 8 _ Z1 (mu_fset 3 _ Z1 (mu_fset 2 _ Z1 (mu_fset 1 _ Z1 (mu_fset 0 _ (mu_own Z1 Z6) mu_none)))))) (by simp only [upd_upd]; try rfl)
 ·
  rintro n1 s ⟨data_0, a_1, b_2, limit_3, wasBalanced_8, wasPartitioned_9, rfl, hm⟩
  replace hm : slicesPdqsortOrderedUint64_B1 (slicesPdqsortOrderedUint64_L1 n1) data_0 a_1 b_2 limit_3 wasBalanced_8 wasPartitioned_9 = some r := hm
  unfold slicesPdqsortOrderedUint64_B1 at hm
  refine AWp.block ?_
  refine sr (N' := 128) rfl ?_
  iterate 4 refine pA ?_
  refine fs ?_
  refine AWp.seq' ?_
  refine sr (N' := 192) rfl ?_
  iterate 2 refine pA ?_
  refine fs ?_
  refine AWp.condM hm Z1 (fun _ hm => ?_) (fun _ hm => ?_)
  ·
   refine sr (N' := 256) rfl ?_
   iterate 3 refine pA ?_
   obtain ⟨l2, h1, hm⟩ := bnd hm
   have qh1 := lenk_2 h1
   refine ARun.callM Zd Z1 fb145 Z1 (slicesInsertionSortOrderedUint64_c (lenk_1 h1) (by simp only [upd_beq, beq_self_eq_true, Nat.reduceBEq, cond_true, cond_false]; try rfl)) ?_
   refine fs ?_
   refine AWp.ret ?_
   refine retSeq ?_
   refine retIn ?_
   refine retThen ?_
   refine retIn ?_
   cases hm
   exact retM0 (.inr rfl) Tryz.results133 (by simp only [upd_upd]; try rfl)
  ·
   refine AWp.skip ?_
   refine normSeq ?_
   refine AWp.seq' ?_
   refine sr (N' := 256) rfl ?_
   iterate 2 refine pA ?_
   refine fs ?_
   refine AWp.condM hm Z1 (fun _ hm => ?_) (fun _ hm => ?_)
   ·
    cases hm
   ·
    cases hm
def slicesSortUint64_m (x_0 : List Int) : Option (List Int) :=
 ((bitsLen_m (IntKind.u64.wrap (x_0.length : Int))).bind fun r2 =>
 ((lenk (fun x => x.length) x_0.length (slicesPdqsortOrderedUint64_m x_0 0 (x_0.length : Int) r2)).bind fun l4 =>
 some l4))
theorem slicesSortUint64_c {x_0 : List Int} {r : List Int} (hm : slicesSortUint64_m x_0 = some r) {H : Heap} {i0 : Nat} (he : H.ent i0 = .cells 1 (x_0.flatMap (ci .u64)) 0) : ACall Tryz.prog 100 [.own i0 0 x_0.length] H (.tup []) (H.put i0 (.cells 1 (r.flatMap (ci .u64)) 0)) := by
 refine ACall.of_bodyM Tryz.func100 rfl he ?_
 generalize H.ent = h0
 simp only [Tryz.ntmps100, List.length_cons, List.length_nil, Nat.reduceAdd, Nat.reduceSub]
 unfold slicesSortUint64_m at hm
 refine sr (N' := 64) rfl ?_
 iterate 3 refine pA ?_
 refine fs ?_
 refine AWp.reg 64 (N' := 128) rfl ?_
 iterate 4 refine pA ?_
 obtain ⟨r2, h1, hm⟩ := bnd hm
 refine ARun.callQ (r := .v (.int .i64 r2)) Zd Z1 fb134 (fun H => (cV .nil)) (bitsLen_c h1) ?_
 obtain ⟨l4, h3, hm⟩ := bnd hm
 have qh3 := lenk_2 h3
 refine ARun.callM Zd Z1 fb133 Z1 (slicesPdqsortOrderedUint64_c (lenk_1 h3) (by simp only [upd_beq, beq_self_eq_true, Nat.reduceBEq, cond_true, cond_false]; try rfl)) ?_
 refine ARun.fin ?_
 cases hm
 exact retM0 (.inl rfl) Tryz.results100 (by simp only [upd_upd]; try rfl)
def indexKeys_J1 (rec1 : GSnapState → List Int → List Int → Int → Int → Option ((List Int))) (s_2 : GSnapState) (out_5 : List Int) (t8 : List Int) (t9 : Int) (t10 : Int) : Option ((List Int)) :=
 rec1 s_2 out_5 t8 t9 (IntKind.i64.wrap (t10 + 1))
def indexKeys_B1 (rec1 : GSnapState → List Int → List Int → Int → Int → Option ((List Int))) (s_2 : GSnapState) (out_5 : List Int) (t8 : List Int) (t9 : Int) (t10 : Int) : Option ((List Int)) :=
 (bif (decide (t10 < t9)) then
  ((idx t8 t10).bind fun x2 =>
  ((idx s_2.Slots x2).bind fun x4 =>
  (bif x4.Used then
   ((idx s_2.Slots x2).bind fun x6 =>
   ((app out_5 [x6.Key]).bind fun l8 =>
   indexKeys_J1 rec1 s_2 l8 t8 t9 t10))
  else
   indexKeys_J1 rec1 s_2 out_5 t8 t9 t10)))
 else
  ((lenk (fun x => x.length) out_5.length (slicesSortUint64_m out_5)).bind fun l10 =>
  some l10))
def indexKeys_L1 : Nat → GSnapState → List Int → List Int → Int → Int → Option ((List Int))
 | 0 => fun _ _ _ _ _ => none
 | n + 1 => indexKeys_B1 (indexKeys_L1 n)
def indexKeys_m (s_0 : GSnapState) (l_1 : List Int) : Option ((List Int)) :=
 indexKeys_L1 FUEL s_0 [] l_1 (l_1.length : Int) 0
theorem indexKeys_c {s_0 : GSnapState} {l_1 : List Int} {r : (List Int)} (hm : indexKeys_m s_0 l_1 = some r) : PureC Tryz.prog 76 [.agg [.v (.int .i64 s_0.Graph.Config.N), .v (.int .i64 s_0.Graph.Config.L), .v (.int .i64 s_0.Graph.Config.R), .sl (s_0.Graph.Hashes.flatMap cGHash) s_0.Graph.Hashes.length false, .sl (s_0.Graph.Edges.flatMap cGEdge) s_0.Graph.Edges.length false, .sl (s_0.Slots.flatMap cGVertsSlot) s_0.Slots.length false], .sl (l_1.flatMap (ci .i64)) l_1.length false] (.sl (r.flatMap (ci .u64)) r.length false) := by
 refine PureC.of_body Tryz.func76 rfl ?_
 simp only [Tryz.ntmps76, List.length_cons, List.length_nil, Nat.reduceAdd, Nat.reduceSub, empty_eq]
 unfold indexKeys_m at hm
 refine sr (N' := 64) rfl ?_
 refine hp (id := 0) rfl rfl (aheap_box Z1 Z5) ?_
 refine pA ?_
 refine fs ?_
 refine sr (N' := 128) rfl ?_
 refine pA ?_
 refine fs ?_
 refine AWp.seq' ?_
 refine sr (N' := 192) rfl ?_
 iterate 3 refine pA ?_
 refine fs ?_
 refine AWp.block ?_
 refine AWp.loopM (fun m s => ∃ (s_2 : GSnapState) (out_5 : List Int) (t8 : List Int) (t9 : Int) (t10 : Int), s = (⟨33, (fset (fset (fset (fset (fset (fun _ => AV.any) 2 (.adr 1 0)) 5 (.own 2 0 out_5.length)) 8 (.sl (t8.flatMap (ci .i64)) t8.length false)) 9 (.v (.int .i64 t9))) 10 (.v (.int .i64 t10))), ⟨(upd (upd nofresh 1 (.cells 1 [.v (.int .i64 s_2.Graph.Config.N), .v (.int .i64 s_2.Graph.Config.L), .v (.int .i64 s_2.Graph.Config.R), .sl (s_2.Graph.Hashes.flatMap cGHash) s_2.Graph.Hashes.length false, .sl (s_2.Graph.Edges.flatMap cGEdge) s_2.Graph.Edges.length false, .sl (s_2.Slots.flatMap cGVertsSlot) s_2.Slots.length false] 0)) 2 (.cells 1 (out_5.flatMap (ci .u64)) 0)), 64⟩⟩ : St) ∧ indexKeys_L1 m s_2 out_5 t8 t9 t10 = some r) FUEL ?_ ?_ ?_
 ·
  rintro s ⟨_, _, _, _, _, _, h⟩
  cases h
 ·
  refine ⟨_, ?_, s_0, [], l_1, (l_1.length : Int), 0, rfl, hm⟩
  refine St.Le.trans (le_nil 5 900005 1 Z1 Z5) ?_
  exact le_canon (fun j => bif j == 1 then 0 else bif j == 2 then 900005 else 0) (wV (wV (wD ((CFi .i64).sl _ _ _) (wO (wk_fset _ _ (wk_adr Z1 rfl Z7) wk_none))))) (hW (eU (CFi .u64) (entWk_upd (entWk_data Z3 (Nat.le_refl _) (Nat.zero_le _) (CFGSnapState.dat s_0)) entWk_none)))
 ·
  rintro n1 s ⟨s_2, out_5, t8, t9, t10, rfl, hm⟩
  replace hm : indexKeys_B1 (indexKeys_L1 n1) s_2 out_5 t8 t9 t10 = some r := hm
  unfold indexKeys_B1 at hm
  refine sr (N' := 128) rfl ?_
  refine pA ?_
  refine fs ?_
  refine AWp.seq' ?_
  refine AWp.condM hm Z1 (fun _ hm => ?_) (fun _ hm => ?_)
  ·
   refine AWp.skip ?_
   refine normSeq ?_
   refine AWp.seqJ (fun s => ∃ (s_2 : GSnapState) (out_5 : List Int) (t8 : List Int) (t9 : Int) (t10 : Int), s = (⟨33, (fset (fset (fset (fset (fset (fun _ => AV.any) 2 (.adr 1 0)) 5 (.own 2 0 out_5.length)) 8 (.sl (t8.flatMap (ci .i64)) t8.length false)) 9 (.v (.int .i64 t9))) 10 (.v (.int .i64 t10))), ⟨(upd (upd nofresh 1 (.cells 1 [.v (.int .i64 s_2.Graph.Config.N), .v (.int .i64 s_2.Graph.Config.L), .v (.int .i64 s_2.Graph.Config.R), .sl (s_2.Graph.Hashes.flatMap cGHash) s_2.Graph.Hashes.length false, .sl (s_2.Graph.Edges.flatMap cGEdge) s_2.Graph.Edges.length false, .sl (s_2.Slots.flatMap cGVertsSlot) s_2.Slots.length false] 0)) 2 (.cells 1 (out_5.flatMap (ci .u64)) 0)), 64⟩⟩ : St) ∧ indexKeys_J1 (indexKeys_L1 n1) s_2 out_5 t8 t9 t10 = some r) ?_ ?_
   ·
    refine AWp.block ?_
    refine sr (N' := 192) rfl ?_
    obtain ⟨x2, h1, hm⟩ := bnd hm
    refine pu rfl (ap_idx (CFi .i64) Zd Tryz.underlying112 sz3 Z1 rfl Z1 h1) ?_
    iterate 2 refine pA ?_
    refine fs ?_
    refine sr (N' := 256) rfl ?_
    refine pA ?_
    refine pu rfl (ap_ldv Z1 Z3 Z4) ?_
    refine pA ?_
    obtain ⟨x4, h3, hm⟩ := bnd hm
    refine pu rfl (ap_idx CFGVertsSlot Zd Tryz.underlying31 sz104 Z1 rfl Z1 h3) ?_
    iterate 2 refine pA ?_
    refine fs ?_
    refine AWp.condM hm Z1 (fun _ hm => ?_) (fun _ hm => ?_)
    ·
     refine AWp.reg 64 (N' := 320) rfl ?_
     iterate 2 refine pA ?_
     refine pu rfl (ap_ldv Z1 Z3 Z4) ?_
     refine pA ?_
     obtain ⟨x6, h5, hm⟩ := bnd hm
     refine pu rfl (ap_idx CFGVertsSlot Zd Tryz.underlying31 sz104 Z1 rfl Z1 h5) ?_
     iterate 2 refine pA ?_
     refine hp (id := 263) rfl rfl (ah_list (CFi .u64) (l := [x6.Key]) Tryz.underlying24 sz43 zc43 Z5 Zd Zd Zd (by simp only [go_sem, Nat.reduceBEq]; try rfl) (by kernel_rfl)) ?_
     obtain ⟨l8, h7, hm⟩ := bnd hm
     refine hp (id := 264) rfl rfl (ah_app (CFi .u64) Tryz.underlying24 Tryz.underlying24 rfl in43 ts43 (by rw [tb43]; decide) (by rw [tb43]; decide) tz43 Zd Zd Z1 Z3 Z6 (as_own (CFi .u64) Z1 Z3 Z6) rfl Z5 h7) ?_
     refine pA ?_
     refine ARun.fin ?_
     refine normIn ?_
     refine normJ ?_
     refine ⟨_, ?_, s_2, l8, t8, t9, t10, rfl, hm⟩
     exact le_canon (fun j => bif j == 1 then 1 else bif j == 2 then 264 else 0) (wV (wV (wD ((CFi .i64).sl _ _ _) (wO (wk_fset _ _ (wk_adr Z1 rfl Z7) wk_none))))) (hW (eU (CFi .u64) (entWk_upd (entWk_data Z3 (Nat.le_refl _) (Nat.zero_le _) (CFGSnapState.dat s_2)) entWk_none)))
    ·
     refine AWp.skip ?_
     refine normIn ?_
     refine normJ ?_
     refine ⟨_, ?_, s_2, out_5, t8, t9, t10, rfl, hm⟩
     exact le_canon (fun j => bif j == 1 then 1 else bif j == 2 then 2 else 0) (wV (wV (wD ((CFi .i64).sl _ _ _) (wO (wk_fset _ _ (wk_adr Z1 rfl Z7) wk_none))))) (hW (eU (CFi .u64) (entWk_upd (entWk_data Z3 (Nat.le_refl _) (Nat.zero_le _) (CFGSnapState.dat s_2)) entWk_none)))
   ·
    rintro s ⟨s_2, out_5, t8, t9, t10, rfl, hm⟩
    unfold indexKeys_J1 at hm
    refine AWp.reg 64 (N' := 128) rfl ?_
    iterate 2 refine pA ?_
    refine ARun.fin ?_
    refine normThen ?_
    refine ⟨_, ?_, s_2, out_5, t8, t9, (IntKind.i64.wrap (t10 + 1)), rfl, hm⟩
    exact le_canon (fun j => bif j == 1 then 1 else bif j == 2 then 2 else 0) (wV (wV (wD ((CFi .i64).sl _ _ _) (wO (wk_fset _ _ (wk_adr Z1 rfl Z7) wk_none))))) (hW (eU (CFi .u64) (entWk_upd (entWk_data Z3 (Nat.le_refl _) (Nat.zero_le _) (CFGSnapState.dat s_2)) entWk_none)))
  ·
   refine AWp.exit ?_
   refine exitSeq ?_
   refine exitThen ?_
   refine exitHere ?_
   refine normSeq ?_
   refine sr (N' := 192) rfl ?_
   refine pA ?_
   obtain ⟨l10, h9, hm⟩ := bnd hm
   have qh9 := lenk_2 h9
   refine ARun.callM Zd Z1 fb100 Z1 (slicesSortUint64_c (lenk_1 h9) Z3) ?_
   refine fs ?_
   refine sr (N' := 256) rfl ?_
   iterate 2 refine pA ?_
   refine fs ?_
   refine AWp.ret ?_
   cases hm
   exact ret1D (.inr rfl) Tryz.results76 (tdo (CFi .u64) Z1 Z3 Z6)
def indexClasses_J1 (rec1 : GSnapState → Int → List Int → Int → Int → Option (Int)) (s_2 : GSnapState) (many_5 : Int) (t8 : List Int) (t9 : Int) (t10 : Int) : Option (Int) :=
 rec1 s_2 many_5 t8 t9 (IntKind.i64.wrap (t10 + 1))
def indexClasses_B1 (rec1 : GSnapState → Int → List Int → Int → Int → Option (Int)) (s_2 : GSnapState) (many_5 : Int) (t8 : List Int) (t9 : Int) (t10 : Int) : Option (Int) :=
 (bif (decide (t10 < t9)) then
  ((idx t8 t10).bind fun x2 =>
  ((gopt ((t10 == x2) == true) (GVertsSlot.mk false 0) (idx s_2.Slots t10)).bind fun x4 =>
  (bif ((t10 == x2) && x4.Used) then
   indexClasses_J1 rec1 s_2 (IntKind.i64.wrap (many_5 + 1)) t8 t9 t10
  else
   indexClasses_J1 rec1 s_2 many_5 t8 t9 t10)))
 else
  some many_5)
def indexClasses_L1 : Nat → GSnapState → Int → List Int → Int → Int → Option (Int)
 | 0 => fun _ _ _ _ _ => none
 | n + 1 => indexClasses_B1 (indexClasses_L1 n)
def indexClasses_m (s_0 : GSnapState) (kept_1 : List Int) : Option (Int) :=
 indexClasses_L1 FUEL s_0 0 kept_1 (kept_1.length : Int) 0
theorem indexClasses_c {s_0 : GSnapState} {kept_1 : List Int} {r : Int} (hm : indexClasses_m s_0 kept_1 = some r) : PureC Tryz.prog 79 [.agg [.v (.int .i64 s_0.Graph.Config.N), .v (.int .i64 s_0.Graph.Config.L), .v (.int .i64 s_0.Graph.Config.R), .sl (s_0.Graph.Hashes.flatMap cGHash) s_0.Graph.Hashes.length false, .sl (s_0.Graph.Edges.flatMap cGEdge) s_0.Graph.Edges.length false, .sl (s_0.Slots.flatMap cGVertsSlot) s_0.Slots.length false], .sl (kept_1.flatMap (ci .i64)) kept_1.length false] (.v (.int .i64 r)) := by
 refine PureC.of_body Tryz.func79 rfl ?_
 simp only [Tryz.ntmps79, List.length_cons, List.length_nil, Nat.reduceAdd, Nat.reduceSub, empty_eq]
 unfold indexClasses_m at hm
 refine sr (N' := 64) rfl ?_
 refine hp (id := 0) rfl rfl (aheap_box Z1 Z5) ?_
 refine pA ?_
 refine fs ?_
 refine sr (N' := 128) rfl ?_
 refine pA ?_
 refine fs ?_
 refine AWp.seq' ?_
 refine sr (N' := 192) rfl ?_
 iterate 3 refine pA ?_
 refine fs ?_
 refine AWp.block ?_
 refine AWp.loopM (fun m s => ∃ (s_2 : GSnapState) (many_5 : Int) (t8 : List Int) (t9 : Int) (t10 : Int), s = (⟨30, (fset (fset (fset (fset (fset (fun _ => AV.any) 2 (.adr 1 0)) 5 (.v (.int .i64 many_5))) 8 (.sl (t8.flatMap (ci .i64)) t8.length false)) 9 (.v (.int .i64 t9))) 10 (.v (.int .i64 t10))), ⟨(upd nofresh 1 (.cells 1 [.v (.int .i64 s_2.Graph.Config.N), .v (.int .i64 s_2.Graph.Config.L), .v (.int .i64 s_2.Graph.Config.R), .sl (s_2.Graph.Hashes.flatMap cGHash) s_2.Graph.Hashes.length false, .sl (s_2.Graph.Edges.flatMap cGEdge) s_2.Graph.Edges.length false, .sl (s_2.Slots.flatMap cGVertsSlot) s_2.Slots.length false] 0)), 64⟩⟩ : St) ∧ indexClasses_L1 m s_2 many_5 t8 t9 t10 = some r) FUEL ?_ ?_ ?_
 ·
  rintro s ⟨_, _, _, _, _, _, h⟩
  cases h
 ·
  refine ⟨_, ?_, s_0, 0, kept_1, (kept_1.length : Int), 0, rfl, hm⟩
  exact le_canon (fun j => bif j == 1 then 0 else 0) (wV (wV (wD ((CFi .i64).sl _ _ _) (wV (wk_fset _ _ (wk_adr Z1 rfl Z7) wk_none))))) (hW (entWk_upd (entWk_data Z3 (Nat.le_refl _) (Nat.zero_le _) (CFGSnapState.dat s_0)) entWk_none))
 ·
  rintro n1 s ⟨s_2, many_5, t8, t9, t10, rfl, hm⟩
  replace hm : indexClasses_B1 (indexClasses_L1 n1) s_2 many_5 t8 t9 t10 = some r := hm
  unfold indexClasses_B1 at hm
  refine sr (N' := 128) rfl ?_
  refine pA ?_
  refine fs ?_
  refine AWp.seq' ?_
  refine AWp.condM hm Z1 (fun _ hm => ?_) (fun _ hm => ?_)
  ·
   refine AWp.skip ?_
   refine normSeq ?_
   refine AWp.seqJ (fun s => ∃ (s_2 : GSnapState) (many_5 : Int) (t8 : List Int) (t9 : Int) (t10 : Int), s = (⟨30, (fset (fset (fset (fset (fset (fun _ => AV.any) 2 (.adr 1 0)) 5 (.v (.int .i64 many_5))) 8 (.sl (t8.flatMap (ci .i64)) t8.length false)) 9 (.v (.int .i64 t9))) 10 (.v (.int .i64 t10))), ⟨(upd nofresh 1 (.cells 1 [.v (.int .i64 s_2.Graph.Config.N), .v (.int .i64 s_2.Graph.Config.L), .v (.int .i64 s_2.Graph.Config.R), .sl (s_2.Graph.Hashes.flatMap cGHash) s_2.Graph.Hashes.length false, .sl (s_2.Graph.Edges.flatMap cGEdge) s_2.Graph.Edges.length false, .sl (s_2.Slots.flatMap cGVertsSlot) s_2.Slots.length false] 0)), 64⟩⟩ : St) ∧ indexClasses_J1 (indexClasses_L1 n1) s_2 many_5 t8 t9 t10 = some r) ?_ ?_
   ·
    refine AWp.block ?_
    refine sr (N' := 192) rfl ?_
    refine pA ?_
    obtain ⟨x2, h1, hm⟩ := bnd hm
    refine pu rfl (ap_idx (CFi .i64) Zd Tryz.underlying112 sz3 Z1 rfl Z1 h1) ?_
    iterate 3 refine pA ?_
    refine fs ?_
    refine sr (N' := 256) rfl ?_
    iterate 5 first | refine pA ?_ | refine pB ?_
    refine pg rfl rfl Z2 (fun hb => (ap_ldv (Zh hb) Z3 Z4)) ?_
    refine pB ?_
    obtain ⟨x4, h3, hm⟩ := bnd hm
    refine pg rfl rfl Z2 (fun hb => (ap_idx CFGVertsSlot Zd Tryz.underlying31 sz104 (Zh hb) rfl (Zh hb) (gopt_t h3 hb))) ?_
    iterate 3 first | refine pA ?_ | refine pB ?_
    refine fs ?_
    refine AWp.condM hm Z1 (fun _ hm => ?_) (fun _ hm => ?_)
    ·
     refine AWp.reg 64 (N' := 320) rfl ?_
     iterate 3 refine pA ?_
     refine ARun.fin ?_
     refine normIn ?_
     refine normJ ?_
     refine ⟨_, ?_, s_2, (IntKind.i64.wrap (many_5 + 1)), t8, t9, t10, rfl, hm⟩
     exact le_canon (fun j => bif j == 1 then 1 else 0) (wV (wV (wD ((CFi .i64).sl _ _ _) (wV (wk_fset _ _ (wk_adr Z1 rfl Z7) wk_none))))) (hW (entWk_upd (entWk_data Z3 (Nat.le_refl _) (Nat.zero_le _) (CFGSnapState.dat s_2)) entWk_none))
    ·
     refine AWp.skip ?_
     refine normIn ?_
     refine normJ ?_
     refine ⟨_, ?_, s_2, many_5, t8, t9, t10, rfl, hm⟩
     exact le_canon (fun j => bif j == 1 then 1 else 0) (wV (wV (wD ((CFi .i64).sl _ _ _) (wV (wk_fset _ _ (wk_adr Z1 rfl Z7) wk_none))))) (hW (entWk_upd (entWk_data Z3 (Nat.le_refl _) (Nat.zero_le _) (CFGSnapState.dat s_2)) entWk_none))
   ·
    rintro s ⟨s_2, many_5, t8, t9, t10, rfl, hm⟩
    unfold indexClasses_J1 at hm
    refine AWp.reg 64 (N' := 128) rfl ?_
    iterate 2 refine pA ?_
    refine ARun.fin ?_
    refine normThen ?_
    refine ⟨_, ?_, s_2, many_5, t8, t9, (IntKind.i64.wrap (t10 + 1)), rfl, hm⟩
    exact le_canon (fun j => bif j == 1 then 1 else 0) (wV (wV (wD ((CFi .i64).sl _ _ _) (wV (wk_fset _ _ (wk_adr Z1 rfl Z7) wk_none))))) (hW (entWk_upd (entWk_data Z3 (Nat.le_refl _) (Nat.zero_le _) (CFGSnapState.dat s_2)) entWk_none))
  ·
   refine AWp.exit ?_
   refine exitSeq ?_
   refine exitThen ?_
   refine exitHere ?_
   refine normSeq ?_
   refine sr (N' := 192) rfl ?_
   iterate 2 refine pA ?_
   refine fs ?_
   refine AWp.ret ?_
   cases hm
   exact ret1D (.inr rfl) Tryz.results79 (td Z1 (.v _))
def slicesInsertionSortCmpFuncUint64_B2 (cmp_3 : (GPairU64 → GPairU64 → Option (Int))) (rec1 : List GPairU64 → Int → Int → Int → Option (List GPairU64)) (rec2 : List GPairU64 → Int → Int → Int → Int → Option (List GPairU64)) (data_0 : List GPairU64) (a_1 : Int) (b_2 : Int) (i_8 : Int) (j_9 : Int) : Option (List GPairU64) :=
 ((gopt ((decide (a_1 < j_9)) == true) (GPairU64.mk 0 0) (idx data_0 j_9)).bind fun x2 =>
 ((gopt ((decide (a_1 < j_9)) == true) (GPairU64.mk 0 0) (idx data_0 (IntKind.i64.wrap (j_9 - 1)))).bind fun x4 =>
 ((gopt ((decide (a_1 < j_9)) == true) 0 (cmp_3 x2 x4)).bind fun r6 =>
 (bif ((decide (a_1 < j_9)) && (decide (r6 < 0))) then
  ((idx data_0 (IntKind.i64.wrap (j_9 - 1))).bind fun x8 =>
  ((idx data_0 j_9).bind fun x10 =>
  ((idx data_0 j_9).bind fun x12 =>
  ((stt data_0 j_9 x8).bind fun l14 =>
  ((idx l14 (IntKind.i64.wrap (j_9 - 1))).bind fun x16 =>
  ((stt l14 (IntKind.i64.wrap (j_9 - 1)) x10).bind fun l18 =>
  rec2 l18 a_1 b_2 i_8 (IntKind.i64.wrap (j_9 - 1))))))))
 else
  rec1 data_0 a_1 b_2 (IntKind.i64.wrap (i_8 + 1))))))
def slicesInsertionSortCmpFuncUint64_L2 (cmp_3 : (GPairU64 → GPairU64 → Option (Int))) (rec1 : List GPairU64 → Int → Int → Int → Option (List GPairU64)) : Nat → List GPairU64 → Int → Int → Int → Int → Option (List GPairU64)
 | 0 => fun _ _ _ _ _ => none
 | n + 1 => slicesInsertionSortCmpFuncUint64_B2 cmp_3 rec1 (slicesInsertionSortCmpFuncUint64_L2 cmp_3 rec1 n)
def slicesInsertionSortCmpFuncUint64_B1 (cmp_3 : (GPairU64 → GPairU64 → Option (Int))) (rec1 : List GPairU64 → Int → Int → Int → Option (List GPairU64)) (data_0 : List GPairU64) (a_1 : Int) (b_2 : Int) (i_8 : Int) : Option (List GPairU64) :=
 (bif (decide (i_8 < b_2)) then
  slicesInsertionSortCmpFuncUint64_L2 cmp_3 rec1 FUEL data_0 a_1 b_2 i_8 i_8
 else
  some data_0)
def slicesInsertionSortCmpFuncUint64_L1 (cmp_3 : (GPairU64 → GPairU64 → Option (Int))) : Nat → List GPairU64 → Int → Int → Int → Option (List GPairU64)
 | 0 => fun _ _ _ _ => none
 | n + 1 => slicesInsertionSortCmpFuncUint64_B1 cmp_3 (slicesInsertionSortCmpFuncUint64_L1 cmp_3 n)
def slicesInsertionSortCmpFuncUint64_m (data_0 : List GPairU64) (a_1 : Int) (b_2 : Int) (cmp_3 : (GPairU64 → GPairU64 → Option (Int))) : Option (List GPairU64) :=
 slicesInsertionSortCmpFuncUint64_L1 cmp_3 FUEL data_0 a_1 b_2 (IntKind.i64.wrap (a_1 + 1))
theorem slicesInsertionSortCmpFuncUint64_c {data_0 : List GPairU64} {a_1 : Int} {b_2 : Int} {cmp_3 : (GPairU64 → GPairU64 → Option (Int))} {r : List GPairU64} (hm : slicesInsertionSortCmpFuncUint64_m data_0 a_1 b_2 cmp_3 = some r) {g_cmp_3 : FuncId} {cap_cmp_3 : List AV} (hcap_cmp_3 : ∀ a, a ∈ cap_cmp_3 → AM.Data a) (hb_cmp_3 : (Program.funcs Tryz.prog)[g_cmp_3]?.any (fun fn => fn.body.isSome && fn.name != "runtime.NumGoroutine") = true) (hf_cmp_3 : ∀ {x0 x1 r}, cmp_3 x0 x1 = some r → PureC Tryz.prog g_cmp_3 ([.agg [.v (.int .u64 x0.x0), .v (.int .u64 x0.x1)], .agg [.v (.int .u64 x1.x0), .v (.int .u64 x1.x1)]] ++ cap_cmp_3) (.v (.int .i64 r))) {H : Heap} {i0 : Nat} (he : H.ent i0 = .cells 2 (data_0.flatMap cGPairU64) 0) : ACall Tryz.prog 156 [.own i0 0 data_0.length, .v (.int .i64 a_1), .v (.int .i64 b_2), .clo (.func g_cmp_3) [] cap_cmp_3] H (.tup []) (H.put i0 (.cells 2 (r.flatMap cGPairU64) 0)) := by
 refine ACall.of_bodyM Tryz.func156 rfl he ?_
 generalize H.ent = h0
 simp only [Tryz.ntmps156, List.length_cons, List.length_nil, Nat.reduceAdd, Nat.reduceSub]
 unfold slicesInsertionSortCmpFuncUint64_m at hm
 refine sr (N' := 64) rfl ?_
 iterate 3 refine pA ?_
 refine fs ?_
 refine AWp.block ?_
 refine AWp.loopM (fun m s => ∃ (data_0 : List GPairU64) (a_1 : Int) (b_2 : Int) (i_8 : Int), s = (⟨53, (fset (fset (fset (fset (fset (fun _ => AV.any) 0 (.own i0 0 data_0.length)) 1 (.v (.int .i64 a_1))) 2 (.v (.int .i64 b_2))) 3 (.clo (.func g_cmp_3) [] cap_cmp_3)) 8 (.v (.int .i64 i_8))), ⟨(upd h0 i0 (.cells 2 (data_0.flatMap cGPairU64) 0)), 64⟩⟩ : St) ∧ slicesInsertionSortCmpFuncUint64_L1 cmp_3 m data_0 a_1 b_2 i_8 = some r) FUEL ?_ ?_ ?_
 ·
  rintro s ⟨_, _, _, _, _, h⟩
  cases h
 ·
  refine ⟨_, ?_, data_0, a_1, b_2, (IntKind.i64.wrap (a_1 + 1)), rfl, hm⟩
  exact le_mut (mu_fset 8 _ Z1 (mu_fset 3 _ Z1 (mu_fset 2 _ Z1 (mu_fset 1 _ Z1 (mu_fset 0 _ (mu_own Z1 Z6) mu_none))))) (by simp only [upd_upd]; try rfl)
 ·
  rintro n1 s ⟨data_0, a_1, b_2, i_8, rfl, hm⟩
  replace hm : slicesInsertionSortCmpFuncUint64_B1 cmp_3 (slicesInsertionSortCmpFuncUint64_L1 cmp_3 n1) data_0 a_1 b_2 i_8 = some r := hm
  unfold slicesInsertionSortCmpFuncUint64_B1 at hm
  refine AWp.seq' ?_
  refine sr (N' := 128) rfl ?_
  iterate 3 refine pA ?_
  refine fs ?_
  refine AWp.condM hm Z1 (fun _ hm => ?_) (fun _ hm => ?_)
  ·
   refine AWp.skip ?_
   refine normSeq ?_
   refine AWp.seq' ?_
   refine AWp.block ?_
   refine sr (N' := 192) rfl ?_
   iterate 2 refine pA ?_
   refine fs ?_
   refine AWp.block ?_
   refine AWp.loopM (fun m s => ∃ (data_0 : List GPairU64) (a_1 : Int) (b_2 : Int) (i_8 : Int) (j_9 : Int), s = (⟨53, (fset (fset (fset (fset (fset (fset (fun _ => AV.any) 0 (.own i0 0 data_0.length)) 1 (.v (.int .i64 a_1))) 2 (.v (.int .i64 b_2))) 3 (.clo (.func g_cmp_3) [] cap_cmp_3)) 8 (.v (.int .i64 i_8))) 9 (.v (.int .i64 j_9))), ⟨(upd h0 i0 (.cells 2 (data_0.flatMap cGPairU64) 0)), 64⟩⟩ : St) ∧ slicesInsertionSortCmpFuncUint64_L2 cmp_3 (slicesInsertionSortCmpFuncUint64_L1 cmp_3 n1) m data_0 a_1 b_2 i_8 j_9 = some r) FUEL ?_ ?_ ?_
   ·
    rintro s ⟨_, _, _, _, _, _, h⟩
    cases h
   ·
    refine ⟨_, ?_, data_0, a_1, b_2, i_8, i_8, rfl, hm⟩
    exact le_mut (mu_fset 9 _ Z1 (mu_fset 8 _ Z1 (mu_fset 3 _ Z1 (mu_fset 2 _ Z1 (mu_fset 1 _ Z1 (mu_fset 0 _ (mu_own Z1 Z6) mu_none)))))) (by simp only [upd_upd]; try rfl)
   ·
    rintro n2 s ⟨data_0, a_1, b_2, i_8, j_9, rfl, hm⟩
    replace hm : slicesInsertionSortCmpFuncUint64_B2 cmp_3 (slicesInsertionSortCmpFuncUint64_L1 cmp_3 n1) (slicesInsertionSortCmpFuncUint64_L2 cmp_3 (slicesInsertionSortCmpFuncUint64_L1 cmp_3 n1) n2) data_0 a_1 b_2 i_8 j_9 = some r := hm
    unfold slicesInsertionSortCmpFuncUint64_B2 at hm
    refine AWp.seq' ?_
    refine sd mix (by kernel_rfl) (N' := 128) rfl ?_
    iterate 7 first | refine pA ?_ | refine pB ?_
    obtain ⟨x2, h1, hm⟩ := bnd hm
    refine pg rfl rfl Z2 (fun hb => (ap_idxo Tryz.underlying40 sz69 (Zh hb) (by simp only [upd_beq, beq_self_eq_true, Nat.reduceBEq, cond_true, cond_false]; try rfl) Z6 (Zh hb) (gopt_t h1 hb))) ?_
    refine pg rfl rfl Z2 (fun hb => (ap_ldo CFGPairU64 (Zh hb) (by simp only [upd_beq, beq_self_eq_true, Nat.reduceBEq, cond_true, cond_false]; try rfl) (gopt_t h1 hb) (fun _ => by simp only [go_sem, Nat.reduceBEq]; try with_reducible rfl))) ?_
    iterate 3 refine pB ?_
    obtain ⟨x4, h3, hm⟩ := bnd hm
    refine pg rfl rfl Z2 (fun hb => (ap_idxo Tryz.underlying40 sz69 (Zh hb) (by simp only [upd_beq, beq_self_eq_true, Nat.reduceBEq, cond_true, cond_false]; try rfl) Z6 (Zh hb) (gopt_t h3 hb))) ?_
    refine pg rfl rfl Z2 (fun hb => (ap_ldo CFGPairU64 (Zh hb) (by simp only [upd_beq, beq_self_eq_true, Nat.reduceBEq, cond_true, cond_false]; try rfl) (gopt_t h3 hb) (fun _ => by simp only [go_sem, Nat.reduceBEq]; try with_reducible rfl))) ?_
    obtain ⟨r6, h5, hm⟩ := bnd hm
    refine ARun.callQCG (r := .v (.int .i64 r6)) Zd rfl Z2 (fun hb => (Zh hb)) hcap_cmp_3 hb_cmp_3 (fun hb H => (.cons (td (Zh hb) (.agg _ (CFGPairU64.dat _))) (.cons (td (Zh hb) (.agg _ (CFGPairU64.dat _))) .nil))) (fun hb => hf_cmp_3 (gopt_t h5 hb)) ?_
    iterate 2 first | refine pA ?_ | refine pB ?_
    refine fs ?_
    refine AWp.condM hm Z1 (fun _ hm => ?_) (fun _ hm => ?_)
    ·
     refine AWp.skip ?_
     refine normSeq ?_
     refine AWp.seq' ?_
     refine AWp.block ?_
     refine AWp.regD 64 mix (by kernel_rfl) (N' := 192) rfl ?_
     iterate 8 refine pA ?_
     obtain ⟨x8, h7, hm⟩ := bnd hm
     refine pu rfl (ap_idxo Tryz.underlying40 sz69 Z1 (by simp only [upd_beq, beq_self_eq_true, Nat.reduceBEq, cond_true, cond_false]; try rfl) Z6 Z1 h7) ?_
     refine pu rfl (ap_ldo CFGPairU64 Z1 (by simp only [upd_beq, beq_self_eq_true, Nat.reduceBEq, cond_true, cond_false]; try rfl) h7 (fun _ => by simp only [go_sem, Nat.reduceBEq]; try with_reducible rfl)) ?_
     iterate 2 refine pA ?_
     obtain ⟨x10, h9, hm⟩ := bnd hm
     refine pu rfl (ap_idxo Tryz.underlying40 sz69 Z1 (by simp only [upd_beq, beq_self_eq_true, Nat.reduceBEq, cond_true, cond_false]; try rfl) Z6 Z1 h9) ?_
     refine pu rfl (ap_ldo CFGPairU64 Z1 (by simp only [upd_beq, beq_self_eq_true, Nat.reduceBEq, cond_true, cond_false]; try rfl) h9 (fun _ => by simp only [go_sem, Nat.reduceBEq]; try with_reducible rfl)) ?_
     obtain ⟨x12, h11, hm⟩ := bnd hm
     refine pu rfl (ap_idxo Tryz.underlying40 sz69 Z1 (by simp only [upd_beq, beq_self_eq_true, Nat.reduceBEq, cond_true, cond_false]; try rfl) Z6 Z1 h11) ?_
     obtain ⟨l14, h13, hm⟩ := bnd hm
     have qh13 := stt_len h13
     refine ARun.heap0 (id := 143) rfl (ah_stt CFGPairU64 sz69 Z1 Z1 (by simp only [upd_beq, beq_self_eq_true, Nat.reduceBEq, cond_true, cond_false]; try rfl) rfl h13) ?_
     obtain ⟨x16, h15, hm⟩ := bnd hm
     refine pu rfl (ap_idxo Tryz.underlying40 sz69 Z1 (by simp only [upd_beq, beq_self_eq_true, Nat.reduceBEq, cond_true, cond_false]; try rfl) Z6 Z1 h15) ?_
     obtain ⟨l18, h17, hm⟩ := bnd hm
     have qh17 := stt_len h17
     refine ARun.heap0 (id := 145) rfl (ah_stt CFGPairU64 sz69 Z1 Z1 (by simp only [upd_beq, beq_self_eq_true, Nat.reduceBEq, cond_true, cond_false]; try rfl) rfl h17) ?_
     refine ARun.fin ?_
     refine normIn ?_
     refine normSeq ?_
     refine AWp.reg 64 (N' := 256) rfl ?_
     iterate 3 refine pA ?_
     refine ARun.fin ?_
     refine normThen ?_
     refine ⟨_, ?_, l18, a_1, b_2, i_8, (IntKind.i64.wrap (j_9 - 1)), rfl, hm⟩
     exact le_mut (mu_fset 9 _ Z1 (mu_fset 8 _ Z1 (mu_fset 3 _ Z1 (mu_fset 2 _ Z1 (mu_fset 1 _ Z1 (mu_fset 0 _ (mu_own Z1 Z6) mu_none)))))) (by simp only [upd_upd]; try rfl)
    ·
     refine AWp.exit ?_
     refine exitSeq ?_
     refine exitThen ?_
     refine exitHere ?_
     refine normIn ?_
     refine normSeq ?_
     refine AWp.reg 64 (N' := 192) rfl ?_
     iterate 3 refine pA ?_
     refine ARun.fin ?_
     refine normThen ?_
     refine ⟨_, ?_, data_0, a_1, b_2, (IntKind.i64.wrap (i_8 + 1)), rfl, hm⟩
     exact le_mut (mu_fset 8 _ Z1 (mu_fset 3 _ Z1 (mu_fset 2 _ Z1 (mu_fset 1 _ Z1 (mu_fset 0 _ (mu_own Z1 Z6) mu_none))))) (by simp only [upd_upd]; try rfl)
  ·
   refine AWp.exit ?_
   refine exitSeq ?_
   refine exitThen ?_
   refine exitHere ?_
   cases hm
   exact retM0 (.inl rfl) Tryz.results156 (by simp only [upd_upd]; try rfl)
def slicesPdqsortCmpFuncUint64_B1 (cmp_4 : (GPairU64 → GPairU64 → Option (Int))) (rec1 : List GPairU64 → Int → Int → Int → Bool → Bool → Option (List GPairU64)) (data_0 : List GPairU64) (a_1 : Int) (b_2 : Int) (limit_3 : Int) (wasBalanced_10 : Bool) (wasPartitioned_11 : Bool) : Option (List GPairU64) :=
 (bif (decide ((IntKind.i64.wrap (b_2 - a_1)) ≤ 12)) then
  ((lenk (fun x => x.length) data_0.length (slicesInsertionSortCmpFuncUint64_m data_0 a_1 b_2 cmp_4)).bind fun l2 =>
  some l2)
 else
  (bif (limit_3 == 0) then
   none
  else
   none))
def slicesPdqsortCmpFuncUint64_L1 (cmp_4 : (GPairU64 → GPairU64 → Option (Int))) : Nat → List GPairU64 → Int → Int → Int → Bool → Bool → Option (List GPairU64)
 | 0 => fun _ _ _ _ _ _ => none
 | n + 1 => slicesPdqsortCmpFuncUint64_B1 cmp_4 (slicesPdqsortCmpFuncUint64_L1 cmp_4 n)
def slicesPdqsortCmpFuncUint64_m (data_0 : List GPairU64) (a_1 : Int) (b_2 : Int) (limit_3 : Int) (cmp_4 : (GPairU64 → GPairU64 → Option (Int))) : Option (List GPairU64) :=
 slicesPdqsortCmpFuncUint64_L1 cmp_4 FUEL data_0 a_1 b_2 limit_3 true true
theorem slicesPdqsortCmpFuncUint64_c {data_0 : List GPairU64} {a_1 : Int} {b_2 : Int} {limit_3 : Int} {cmp_4 : (GPairU64 → GPairU64 → Option (Int))} {r : List GPairU64} (hm : slicesPdqsortCmpFuncUint64_m data_0 a_1 b_2 limit_3 cmp_4 = some r) {g_cmp_4 : FuncId} {cap_cmp_4 : List AV} (hcap_cmp_4 : ∀ a, a ∈ cap_cmp_4 → AM.Data a) (hb_cmp_4 : (Program.funcs Tryz.prog)[g_cmp_4]?.any (fun fn => fn.body.isSome && fn.name != "runtime.NumGoroutine") = true) (hf_cmp_4 : ∀ {x0 x1 r}, cmp_4 x0 x1 = some r → PureC Tryz.prog g_cmp_4 ([.agg [.v (.int .u64 x0.x0), .v (.int .u64 x0.x1)], .agg [.v (.int .u64 x1.x0), .v (.int .u64 x1.x1)]] ++ cap_cmp_4) (.v (.int .i64 r))) {H : Heap} {i0 : Nat} (he : H.ent i0 = .cells 2 (data_0.flatMap cGPairU64) 0) : ACall Tryz.prog 136 [.own i0 0 data_0.length, .v (.int .i64 a_1), .v (.int .i64 b_2), .v (.int .i64 limit_3), .clo (.func g_cmp_4) [] cap_cmp_4] H (.tup []) (H.put i0 (.cells 2 (r.flatMap cGPairU64) 0)) := by
 refine ACall.of_bodyM Tryz.func136 rfl he ?_
 generalize H.ent = h0
 simp only [Tryz.ntmps136, List.length_cons, List.length_nil, Nat.reduceAdd, Nat.reduceSub]
 unfold slicesPdqsortCmpFuncUint64_m at hm
 refine sr (N' := 64) rfl ?_
 refine pA ?_
 refine fs ?_
 refine sr (N' := 128) rfl ?_
 refine pA ?_
 refine fs ?_
 refine AWp.block ?_
 refine AWp.loopM (fun m s => ∃ (data_0 : List GPairU64) (a_1 : Int) (b_2 : Int) (limit_3 : Int) (wasBalanced_10 : Bool) (wasPartitioned_11 : Bool), s = (⟨148, (fset (fset (fset (fset (fset (fset (fset (fun _ => AV.any) 0 (.own i0 0 data_0.length)) 1 (.v (.int .i64 a_1))) 2 (.v (.int .i64 b_2))) 3 (.v (.int .i64 limit_3))) 4 (.clo (.func g_cmp_4) [] cap_cmp_4)) 10 (.v (.bool wasBalanced_10))) 11 (.v (.bool wasPartitioned_11))), ⟨(upd h0 i0 (.cells 2 (data_0.flatMap cGPairU64) 0)), 64⟩⟩ : St) ∧ slicesPdqsortCmpFuncUint64_L1 cmp_4 m data_0 a_1 b_2 limit_3 wasBalanced_10 wasPartitioned_11 = some r) FUEL ?_ ?_ ?_
 ·
  rintro s ⟨_, _, _, _, _, _, _, h⟩
  cases h
 ·
  refine ⟨_, ?_, data_0, a_1, b_2, limit_3, true, true, rfl, hm⟩
  exact le_mut (mu_fset 11 _ Z1 (mu_fset 10 _ Z1 (mu_fset 4 _ Z1 (mu_fset 3 _ Z1 (mu_fset 2 _ Z1 (mu_fset 1 _ Z1 (mu_fset 0 _ (mu_own Z1 Z6) mu_none))))))) (by simp only [upd_upd]; try rfl)
 ·
  rintro n1 s ⟨data_0, a_1, b_2, limit_3, wasBalanced_10, wasPartitioned_11, rfl, hm⟩
  replace hm : slicesPdqsortCmpFuncUint64_B1 cmp_4 (slicesPdqsortCmpFuncUint64_L1 cmp_4 n1) data_0 a_1 b_2 limit_3 wasBalanced_10 wasPartitioned_11 = some r := hm
  unfold slicesPdqsortCmpFuncUint64_B1 at hm
  refine AWp.block ?_
  refine sr (N' := 128) rfl ?_
  iterate 4 refine pA ?_
  refine fs ?_
  refine AWp.seq' ?_
  refine sr (N' := 192) rfl ?_
  iterate 2 refine pA ?_
  refine fs ?_
  refine AWp.condM hm Z1 (fun _ hm => ?_) (fun _ hm => ?_)
  ·
   refine sr (N' := 256) rfl ?_
   iterate 4 refine pA ?_
   obtain ⟨l2, h1, hm⟩ := bnd hm
   have qh1 := lenk_2 h1
   refine ARun.callM Zd Z1 fb156 Z1 (slicesInsertionSortCmpFuncUint64_c (lenk_1 h1) hcap_cmp_4 hb_cmp_4 hf_cmp_4 (by simp only [upd_beq, beq_self_eq_true, Nat.reduceBEq, cond_true, cond_false]; try rfl)) ?_
   refine fs ?_
   refine AWp.ret ?_
   refine retSeq ?_
   refine retIn ?_
   refine retThen ?_
   refine retIn ?_
   cases hm
   exact retM0 (.inr rfl) Tryz.results136 (by simp only [upd_upd]; try rfl)
  ·
   refine AWp.skip ?_
   refine normSeq ?_
   refine AWp.seq' ?_
   refine sr (N' := 256) rfl ?_
   iterate 2 refine pA ?_
   refine fs ?_
   refine AWp.condM hm Z1 (fun _ hm => ?_) (fun _ hm => ?_)
   ·
    cases hm
   ·
    cases hm
def slicesSortFuncUint64_m (x_0 : List GPairU64) (cmp_1 : (GPairU64 → GPairU64 → Option (Int))) : Option (List GPairU64) :=
 ((bitsLen_m (IntKind.u64.wrap (x_0.length : Int))).bind fun r2 =>
 ((lenk (fun x => x.length) x_0.length (slicesPdqsortCmpFuncUint64_m x_0 0 (x_0.length : Int) r2 cmp_1)).bind fun l4 =>
 some l4))
theorem slicesSortFuncUint64_c {x_0 : List GPairU64} {cmp_1 : (GPairU64 → GPairU64 → Option (Int))} {r : List GPairU64} (hm : slicesSortFuncUint64_m x_0 cmp_1 = some r) {g_cmp_1 : FuncId} {cap_cmp_1 : List AV} (hcap_cmp_1 : ∀ a, a ∈ cap_cmp_1 → AM.Data a) (hb_cmp_1 : (Program.funcs Tryz.prog)[g_cmp_1]?.any (fun fn => fn.body.isSome && fn.name != "runtime.NumGoroutine") = true) (hf_cmp_1 : ∀ {x0 x1 r}, cmp_1 x0 x1 = some r → PureC Tryz.prog g_cmp_1 ([.agg [.v (.int .u64 x0.x0), .v (.int .u64 x0.x1)], .agg [.v (.int .u64 x1.x0), .v (.int .u64 x1.x1)]] ++ cap_cmp_1) (.v (.int .i64 r))) {H : Heap} {i0 : Nat} (he : H.ent i0 = .cells 2 (x_0.flatMap cGPairU64) 0) : ACall Tryz.prog 104 [.own i0 0 x_0.length, .clo (.func g_cmp_1) [] cap_cmp_1] H (.tup []) (H.put i0 (.cells 2 (r.flatMap cGPairU64) 0)) := by
 refine ACall.of_bodyM Tryz.func104 rfl he ?_
 generalize H.ent = h0
 simp only [Tryz.ntmps104, List.length_cons, List.length_nil, Nat.reduceAdd, Nat.reduceSub]
 unfold slicesSortFuncUint64_m at hm
 refine sr (N' := 64) rfl ?_
 iterate 3 refine pA ?_
 refine fs ?_
 refine AWp.reg 64 (N' := 128) rfl ?_
 iterate 4 refine pA ?_
 obtain ⟨r2, h1, hm⟩ := bnd hm
 refine ARun.callQ (r := .v (.int .i64 r2)) Zd Z1 fb134 (fun H => (cV .nil)) (bitsLen_c h1) ?_
 refine pA ?_
 obtain ⟨l4, h3, hm⟩ := bnd hm
 have qh3 := lenk_2 h3
 refine ARun.callM Zd Z1 fb136 Z1 (slicesPdqsortCmpFuncUint64_c (lenk_1 h3) hcap_cmp_1 hb_cmp_1 hf_cmp_1 (by simp only [upd_beq, beq_self_eq_true, Nat.reduceBEq, cond_true, cond_false]; try rfl)) ?_
 refine ARun.fin ?_
 cases hm
 exact retM0 (.inl rfl) Tryz.results104 (by simp only [upd_upd]; try rfl)
def cmpCompareUint64_m (x_0 : Int) (y_1 : Int) : Option (Int) :=
 ((cmpIsNaNUint64_m x_0).bind fun r2 =>
 ((cmpIsNaNUint64_m y_1).bind fun r4 =>
 (bif r2 then
  (bif r4 then
   some 0
  else
   some (-1))
 else
  (bif r4 then
   some 1
  else
   (bif (decide (x_0 < y_1)) then
    some (-1)
   else
    (bif (decide (y_1 < x_0)) then
     some 1
    else
     some 0))))))
theorem cmpCompareUint64_c {x_0 : Int} {y_1 : Int} {r : Int} (hm : cmpCompareUint64_m x_0 y_1 = some r) : PureC Tryz.prog 107 [.v (.int .u64 x_0), .v (.int .u64 y_1)] (.v (.int .i64 r)) := by
 refine PureC.of_body Tryz.func107 rfl ?_
 simp only [Tryz.ntmps107, List.length_cons, List.length_nil, Nat.reduceAdd, Nat.reduceSub, empty_eq]
 unfold cmpCompareUint64_m at hm
 refine sr (N' := 64) rfl ?_
 refine pA ?_
 refine fs ?_
 refine sr (N' := 128) rfl ?_
 refine pA ?_
 obtain ⟨r2, h1, hm⟩ := bnd hm
 refine ARun.callQ (r := .v (.bool r2)) Zd Z1 fb137 (fun H => (cV .nil)) (cmpIsNaNUint64_c h1) ?_
 refine pA ?_
 refine fs ?_
 refine sr (N' := 192) rfl ?_
 refine pA ?_
 obtain ⟨r4, h3, hm⟩ := bnd hm
 refine ARun.callQ (r := .v (.bool r4)) Zd Z1 fb137 (fun H => (cV .nil)) (cmpIsNaNUint64_c h3) ?_
 refine pA ?_
 refine fs ?_
 refine AWp.seq' ?_
 refine sr (N' := 256) rfl ?_
 refine pA ?_
 refine fs ?_
 refine AWp.condM hm Z1 (fun _ hm => ?_) (fun _ hm => ?_)
 ·
  refine AWp.seq' ?_
  refine sr (N' := 320) rfl ?_
  refine pA ?_
  refine fs ?_
  refine AWp.condM hm Z1 (fun _ hm => ?_) (fun _ hm => ?_)
  ·
   refine sr (N' := 384) rfl ?_
   refine pA ?_
   refine fs ?_
   refine AWp.ret ?_
   refine retSeq ?_
   refine retSeq ?_
   cases hm
   exact ret1D (.inr rfl) Tryz.results107 (td Z1 (.v _))
  ·
   refine AWp.skip ?_
   refine normSeq ?_
   refine sr (N' := 384) rfl ?_
   refine pA ?_
   refine fs ?_
   refine AWp.ret ?_
   refine retSeq ?_
   cases hm
   exact ret1D (.inr rfl) Tryz.results107 (td Z1 (.v _))
 ·
  refine AWp.skip ?_
  refine normSeq ?_
  refine AWp.seq' ?_
  refine sr (N' := 320) rfl ?_
  refine pA ?_
  refine fs ?_
  refine AWp.condM hm Z1 (fun _ hm => ?_) (fun _ hm => ?_)
  ·
   refine sr (N' := 384) rfl ?_
   refine pA ?_
   refine fs ?_
   refine AWp.ret ?_
   refine retSeq ?_
   cases hm
   exact ret1D (.inr rfl) Tryz.results107 (td Z1 (.v _))
  ·
   refine AWp.skip ?_
   refine normSeq ?_
   refine AWp.seq' ?_
   refine sr (N' := 384) rfl ?_
   iterate 3 refine pA ?_
   refine fs ?_
   refine AWp.condM hm Z1 (fun _ hm => ?_) (fun _ hm => ?_)
   ·
    refine sr (N' := 448) rfl ?_
    refine pA ?_
    refine fs ?_
    refine AWp.ret ?_
    refine retSeq ?_
    cases hm
    exact ret1D (.inr rfl) Tryz.results107 (td Z1 (.v _))
   ·
    refine AWp.skip ?_
    refine normSeq ?_
    refine AWp.seq' ?_
    refine sr (N' := 448) rfl ?_
    iterate 3 refine pA ?_
    refine fs ?_
    refine AWp.condM hm Z1 (fun _ hm => ?_) (fun _ hm => ?_)
    ·
     refine sr (N' := 512) rfl ?_
     refine pA ?_
     refine fs ?_
     refine AWp.ret ?_
     refine retSeq ?_
     cases hm
     exact ret1D (.inr rfl) Tryz.results107 (td Z1 (.v _))
    ·
     refine AWp.skip ?_
     refine normSeq ?_
     refine sr (N' := 512) rfl ?_
     refine pA ?_
     refine fs ?_
     refine AWp.ret ?_
     cases hm
     exact ret1D (.inr rfl) Tryz.results107 (td Z1 (.v _))
end Go.Proofs.YtkdohhmacfoolaaGreat
