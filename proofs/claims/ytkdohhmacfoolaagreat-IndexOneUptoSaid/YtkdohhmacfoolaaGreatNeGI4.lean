/- Facts that the statement's proof is made of. No condition. -/
import Derived.Test.YtkdohhmacfoolaaGreatNeGI3
import Derived.Test.YtkdohhmacfoolaaGreatNePl
set_option linter.unusedVariables false
set_option linter.unusedSimpArgs false
set_option maxRecDepth 20000
set_option maxHeartbeats 4000000
namespace Go.Proofs.YtkdohhmacfoolaaGreat
open Go Go.AM
theorem bAv (i o : Nat) : aH Tryz.prog 23 (.adr i o) 0 = some (.adr i (o + 0)) := by kernel_rfl
attribute [go_sem] bAv
theorem bBh (i o : Nat) : aH Tryz.prog 42 (.adr i o) 1 = some (.adr i (o + 1)) := by kernel_rfl
attribute [go_sem] bBh
theorem bDb (i o : Nat) : aH Tryz.prog 42 (.adr i o) 2 = some (.adr i (o + 2)) := by kernel_rfl
attribute [go_sem] bDb
theorem bBt (i o : Nat) : aH Tryz.prog 45 (.adr i o) 0 = some (.adr i (o + 0)) := by kernel_rfl
attribute [go_sem] bBt
theorem bBr (i o : Nat) : aH Tryz.prog 45 (.adr i o) 1 = some (.adr i (o + 1)) := by kernel_rfl
attribute [go_sem] bBr
theorem bAp (i o : Nat) : aH Tryz.prog 45 (.adr i o) 2 = some (.adr i (o + 2)) := by kernel_rfl
attribute [go_sem] bAp
theorem bIu (H : aJ) (x0 x1 x2 : AV) (xs : List AV) : bM Tryz.prog H 23 (.ptr (x0 :: x1 :: x2 :: xs)) = some (.agg [x0, x1, x2]) := by kernel_rfl
attribute [go_sem] bIu
theorem bJt (H : aJ) (x : AV) (xs : List AV) : bM Tryz.prog H 24 (.ptr (x :: xs)) = some x := by kernel_rfl
attribute [go_sem] bJt
theorem bMw (H : aJ) (x : AV) (xs : List AV) : bM Tryz.prog H 3 (.ptr (x :: xs)) = some x := by kernel_rfl
attribute [go_sem] bMw
theorem bKk (H : aJ) (x0 x1 x2 x3 x4 x5 : AV) (xs : List AV) : bM Tryz.prog H 33 (.ptr (x0 :: x1 :: x2 :: x3 :: x4 :: x5 :: xs)) = some (.agg [x0, x1, x2, x3, x4, x5]) := by kernel_rfl
attribute [go_sem] bKk
theorem bKj (H : aJ) (x : AV) (xs : List AV) : bM Tryz.prog H 40 (.ptr (x :: xs)) = some x := by kernel_rfl
attribute [go_sem] bKj
theorem bIe (H : aJ) (x0 x1 x2 : AV) (xs : List AV) : bM Tryz.prog H 42 (.ptr (x0 :: x1 :: x2 :: xs)) = some (.agg [x0, x1, x2]) := by kernel_rfl
attribute [go_sem] bIe
theorem bIm (H : aJ) (x : AV) (xs : List AV) : bM Tryz.prog H 43 (.ptr (x :: xs)) = some x := by kernel_rfl
attribute [go_sem] bIm
theorem bJh (H : aJ) (x0 x1 x2 x3 : AV) (xs : List AV) : bM Tryz.prog H 45 (.ptr (x0 :: x1 :: x2 :: x3 :: xs)) = some (.agg [x0, x1, x2, x3]) := by kernel_rfl
attribute [go_sem] bJh
def zW (rec2 : aE → aC → Bool → List Int → Int → Int → Option (Bool)) (s_8 : aE) (eC : aC) (aC8 : Bool) (t78 : List Int) (t79 : Int) (t80 : Int) : Option (Bool) :=
 (bif (decide (t80 < t79)) then
  ((idx t78 t80).bind fun x22 =>
  ((dK s_8 (aY.mk 11 x22 0 ⟨#[]⟩)).bind fun ⟨r24, r25⟩ =>
  ((fC (aC8 == true) [] (vL eC x22)).bind fun r27 =>
  ((fC (aC8 == true) false (lX r25 r27)).bind fun r29 =>
  rec2 s_8 eC (aC8 && r29) t78 t79 (IntKind.i64.wrap (t80 + 1))))))
 else
  ((dK s_8 (aY.mk 13 0 0 ⟨#[]⟩)).bind fun ⟨r31, r32⟩ =>
  ((aAc r32 aC8).bind fun r34 =>
  ((fC (r34 == true) false (jD )).bind fun r36 =>
  some (r34 && r36)))))
def lG : Nat → aE → aC → Bool → List Int → Int → Int → Option (Bool)
 | 0 => fun _ _ _ _ _ _ => none
 | n + 1 => zW (lG n)
def zV (rec1 : aE → aC → List aY → Int → Int → Option (Bool)) (s_8 : aE) (eC : aC) (t44 : List aY) (t45 : Int) (t46 : Int) : Option (Bool) :=
 (bif (decide (t46 < t45)) then
  ((idx t44 t46).bind fun x12 =>
  (bif ((decide (x12.Do < 1)) || (decide (4 < x12.Do))) then
   ((jD ).bind fun r14 =>
   some r14)
  else
   ((dK s_8 x12).bind fun ⟨r16, r17⟩ =>
   ((dN eC x12.Do x12.A x12.B).bind fun ⟨r19, r20⟩ =>
   rec1 r16 r19 t44 t45 (IntKind.i64.wrap (t46 + 1))))))
 else
  lG bF s_8 eC true eC.Keys (eC.Keys.length : Int) 0)
def oI : Nat → aE → aC → List aY → Int → Int → Option (Bool)
 | 0 => fun _ _ _ _ _ => none
 | n + 1 => zV (oI n)
def vQ (c_0 : aO) (jC : List Int) (l_2 : List aY) : Option (Bool) :=
 ((mN c_0 l_2 30).bind fun r2 =>
 ((jQ c_0 (bD.mk jC 0)).bind fun ⟨r4, r5, r6⟩ =>
 (bif ((decide (r2 < 0)) || (r6 != 0)) then
  ((jD ).bind fun r8 =>
  some r8)
 else
  ((slc l_2 0 r2).bind fun l10 =>
  oI bF r4 (aC.mk c_0.N [] []) l10 (l10.length : Int) 0))))
theorem aQp {c_0 : aO} {jC : List Int} {l_2 : List aY} {r : Bool} (hm : vQ c_0 jC l_2 = some r) : aZ Tryz.prog 10 [.agg [vi c_0.N, vi c_0.L, vi c_0.R], vl (ci .u64) jC, vl cP l_2] (vb r) := by
 refine bd 112 Tryz.func10 ?_
 obtain ⟨r2, h1, hm⟩ := bnd hm
 refine W ?_
 refine cq (aLs h1) ?_
 refine W ?_
 refine pu rfl (by simp only [go_sem, Nat.reduceBEq]; exact (by kernel_rfl : cN Tryz.prog 35 [(0, .sl (jC.flatMap (ci .u64)) jC.length false)] = some (.agg [.sl (jC.flatMap (ci .u64)) jC.length false, .v (.int .i64 0)]))) ?_
 obtain ⟨⟨r4, r5, r6⟩, h3, hm⟩ := bnd hm
 refine cq (aG9 h3) ?_
 refine W ?_
 refine cm hm (fun hm => ?_) fun hm => ?_
 ·
  obtain ⟨r8, h7, hm⟩ := bnd hm
  refine W ?_
  refine cq (nP h7) ?_
  exact E
 refine W ?_
 refine pu rfl (by simp only [go_sem, Nat.reduceBEq]; exact (by kernel_rfl : cN Tryz.prog 42 [(0, .v (.int .i64 c_0.N))] = some (.agg [.v (.int .i64 c_0.N), .v (.slice none 0 0), .v (.slice none 0 0)]))) ?_
 obtain ⟨l10, h9, hm⟩ := bnd hm
 refine W ?_
 refine lp (fun m s => ∃ s_8 eC t44 t45 t46, s = ⟨112, (aF (aF (aF (aF (aF fa 8 (.adr 1 0)) 11 (.adr 2 0)) 44 (vl cP t44)) 45 (vi t45)) 46 (vi t46)), ⟨(upd (upd aX 1 (.cells 1 [vi s_8.Graph.Config.N, vi s_8.Graph.Config.L, vi s_8.Graph.Config.R, vl bI s_8.Graph.Hashes, vl aT s_8.Graph.Edges, vl aW s_8.Slots] 0)) 2 (.cells 1 [vi eC.Most, vl (ci .u64) eC.Keys, vl bJ eC.Pairs] 0)), 64⟩⟩ ∧ oI m s_8 eC t44 t45 t46 = some r) ?_ ?_
 ·
  refine ⟨_, ?_, r4, (aC.mk c_0.N [] []), l10, (l10.length : Int), 0, rfl, hm⟩
  refine St.Le.trans (aRc 44 (.sl (l10.flatMap cP) l10.length false) (fun H => (tdf Z1 (iS.sl _ _ _)))) ?_
  refine St.Le.trans (iJ 259 (ys := [.v (.int .i64 ((aC.mk c_0.N [] []).Most)), .sl (((aC.mk c_0.N [] []).Keys).flatMap (ci .u64)) ((aC.mk c_0.N [] []).Keys).length false, .sl (((aC.mk c_0.N [] []).Pairs).flatMap bJ) ((aC.mk c_0.N [] []).Pairs).length false]) Z3 (.cons (.data _ (.v _)) (.cons (.nil false) (.cons (.nil false) .nil)))) ?_
  exact cn (fun j => bif j == 1 then 136 else bif j == 2 then 259 else 0)
 rintro n1 s ⟨s_8, eC, t44, t45, t46, rfl, hm⟩
 refine W ?_
 refine cm hm (fun hm => ?_) fun hm => ?_
 ·
  obtain ⟨x12, h11, hm⟩ := bnd hm
  refine W ?_
  refine cm hm (fun hm => ?_) fun hm => ?_
  ·
   obtain ⟨r14, h13, hm⟩ := bnd hm
   refine W ?_
   refine cq (nP h13) ?_
   exact E
  refine W ?_
  obtain ⟨⟨r16, r17⟩, h15, hm⟩ := bnd hm
  refine cq (gT h15) ?_
  refine W ?_
  obtain ⟨⟨r19, r20⟩, h18, hm⟩ := bnd hm
  refine cq (aF6 h18) ?_
  refine W ?_
  exact Lr (fun j => bif j == 1 then 1 else bif j == 2 then 2 else 0)
 refine W ?_
 refine lp (fun m s => ∃ s_8 eC aC8 t78 t79 t80, s = ⟨112, (aF (aF (aF (aF (aF (aF fa 8 (.adr 1 0)) 11 (.adr 2 0)) 14 (vb aC8)) 78 (vl (ci .u64) t78)) 79 (vi t79)) 80 (vi t80)), ⟨(upd (upd aX 1 (.cells 1 [vi s_8.Graph.Config.N, vi s_8.Graph.Config.L, vi s_8.Graph.Config.R, vl bI s_8.Graph.Hashes, vl aT s_8.Graph.Edges, vl aW s_8.Slots] 0)) 2 (.cells 1 [vi eC.Most, vl (ci .u64) eC.Keys, vl bJ eC.Pairs] 0)), 64⟩⟩ ∧ lG m s_8 eC aC8 t78 t79 t80 = some r) (Lr (fun j => bif j == 1 then 1 else bif j == 2 then 2 else 0)) ?_
 rintro n2 s ⟨s_8, eC, aC8, t78, t79, t80, rfl, hm⟩
 refine W ?_
 refine cm hm (fun hm => ?_) fun hm => ?_
 ·
  obtain ⟨x22, h21, hm⟩ := bnd hm
  refine W ?_
  refine pu rfl (by simp only [go_sem, Nat.reduceBEq]; exact (by kernel_rfl : cN Tryz.prog 45 [(0, .v (.int .i64 11)), (1, .v (.int .u64 x22))] = some (.agg [.v (.int .i64 11), .v (.int .u64 x22), .v (.int .u64 0), .v (.string ⟨#[]⟩)]))) ?_
  obtain ⟨⟨r24, r25⟩, h23, hm⟩ := bnd hm
  refine cq (gT h23) ?_
  obtain ⟨r27, h26, hm⟩ := bnd hm
  refine W ?_
  refine cg (fun hb => aGv (cM h26 hb)) ?_
  obtain ⟨r29, h28, hm⟩ := bnd hm
  refine cg (fun hb => aNa (cM h28 hb)) ?_
  refine W ?_
  exact Lr (fun j => bif j == 1 then 1 else bif j == 2 then 2 else 0)
 refine W ?_
 refine pu rfl (by simp only [go_sem, Nat.reduceBEq]; exact (by kernel_rfl : cN Tryz.prog 45 [(0, .v (.int .i64 13))] = some (.agg [.v (.int .i64 13), .v (.int .u64 0), .v (.int .u64 0), .v (.string ⟨#[]⟩)]))) ?_
 obtain ⟨⟨r31, r32⟩, h30, hm⟩ := bnd hm
 refine cq (gT h30) ?_
 obtain ⟨r34, h33, hm⟩ := bnd hm
 refine W ?_
 refine cq (aQh h33) ?_
 obtain ⟨r36, h35, hm⟩ := bnd hm
 refine W ?_
 refine cg (fun hb => nP (cM h35 hb)) ?_
 exact E
end Go.Proofs.YtkdohhmacfoolaaGreat
