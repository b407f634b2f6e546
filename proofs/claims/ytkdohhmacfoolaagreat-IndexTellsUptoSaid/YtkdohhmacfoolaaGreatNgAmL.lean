/- Facts. No condition. -/
import Derived.Test.YtkdohhmacfoolaaGreatNgLds
set_option linter.unusedVariables false
set_option linter.unusedSimpArgs false
set_option maxRecDepth 20000
set_option maxHeartbeats 4000000
namespace Go.Proofs.YtkdohhmacfoolaaGreat
open Go.Proofs.Tryz Go Go.AM
@[go_sem] theorem bAy (i o : Nat) : aJ prog 102 (.adr i o) 0 = some (.adr i (o + 0)) := by kernel_rfl
@[go_sem] theorem bB5 (i o : Nat) : aJ prog 102 (.adr i o) 1 = some (.adr i (o + 1)) := by kernel_rfl
@[go_sem] theorem bBc (i o : Nat) : aJ prog 102 (.adr i o) 2 = some (.adr i (o + 2)) := by kernel_rfl
@[go_sem] theorem bFv (i o : Nat) : aJ prog 23 (.adr i o) 0 = some (.adr i (o + 0)) := by kernel_rfl
@[go_sem] theorem bG1 (i o : Nat) : aJ prog 23 (.adr i o) 1 = some (.adr i (o + 1)) := by kernel_rfl
@[go_sem] theorem bGc (i o : Nat) : aJ prog 30 (.adr i o) 0 = some (.adr i (o + 0)) := by kernel_rfl
@[go_sem] theorem bGm (i o : Nat) : aJ prog 30 (.adr i o) 2 = some (.adr i (o + 4)) := by kernel_rfl
@[go_sem] theorem bKf (H : aN) (x0 x1 x2 : AV) (xs : List AV) : bS prog H 102 (.ptr (x0 :: x1 :: x2 :: xs)) = some (.agg [x0, x1, x2]) := by kernel_rfl
@[go_sem] theorem bO1 (H : aN) (x : AV) (xs : List AV) : bS prog H 28 (.ptr (x :: xs)) = some x := by kernel_rfl
@[go_sem] theorem bRb (H : aN) (x : AV) (xs : List AV) : bS prog H 3 (.ptr (x :: xs)) = some x := by kernel_rfl
@[go_sem] theorem bO7 (H : aN) (x0 x1 x2 x3 x4 : AV) (xs : List AV) : bS prog H 30 (.ptr (x0 :: x1 :: x2 :: x3 :: x4 :: xs)) = some (.agg [x0, x1, x2, x3, x4]) := by kernel_rfl
def sR (rec1 : List aC → Int → List Int → List aC → Int → Option ((List aC) × Int)) (l_1 : List aC) (v_3 : Int) (aDc : List Int) (aDr : List aC) (aZ8 : Int) : Option ((List aC) × Int) :=
 (bif (aZ8 != v_3) then
  ((idx aDc aZ8).bind fun x10 =>
  (bif (decide (x10 < 0)) then
   some ([], 3)
  else
   ((idx aDc aZ8).bind fun x12 =>
   ((idx l_1 x12).bind fun x14 =>
   ((app aDr [x14]).bind fun l16 =>
   ((sQ x14 aZ8).bind fun r18 =>
   rec1 l_1 v_3 aDc l16 r18))))))
 else
  some (aDr, 0))
def lH : Nat → List aC → Int → List Int → List aC → Int → Option ((List aC) × Int)
 | 0 => fun _ _ _ _ _ => none
 | n + 1 => sR (lH n)
def rT (n_0 : Int) (l_1 : List aC) (u_2 : Int) (v_3 : Int) : Option ((List aC) × Int) :=
 ((oL n_0 l_1).bind fun r2 =>
 ((eP ((!r2) == false) false (uY n_0 u_2)).bind fun r4 =>
 ((eP (((!r2) || (!r4)) == false) false (uY n_0 v_3)).bind fun r6 =>
 (bif (((!r2) || (!r4)) || (!r6)) then
  some ([], 1)
 else
  ((sP n_0 l_1 v_3).bind fun r8 =>
  lH bF l_1 v_3 r8 [] u_2)))))
theorem aXg {n_0 : Int} {l_1 : List aC} {u_2 : Int} {v_3 : Int} {r : (List aC) × Int} (hm : rT n_0 l_1 u_2 v_3 = some r) : bC prog 170 [vi n_0, vl aO l_1, vi u_2, vi v_3] (.tup [vl aO r.1, vi r.2]) := by
 refine bd 58 func170 ?_
 obtain ⟨r2, h1, hm⟩ := bnd hm
 refine W ?_
 refine cq (aD2 h1) ?_
 obtain ⟨r4, h3, hm⟩ := bnd hm
 refine W ?_
 refine cg (fun hb => aHr (cK h3 hb)) ?_
 obtain ⟨r6, h5, hm⟩ := bnd hm
 refine W ?_
 refine cg (fun hb => aHr (cK h5 hb)) ?_
 refine W ?_
 refine cm hm (fun hm => ?_) fun hm => ?_
 · exact E
 obtain ⟨r8, h7, hm⟩ := bnd hm
 refine W ?_
 refine cq (aUw h7) ?_
 refine W ?_
 refine lp (fun m s => ∃ l_1 v_3 aDc aDr aZ8, s = ⟨58, (aE (aE (aE (aE (aE fa 1 (vl aO l_1)) 3 (vi v_3)) 10 (vl (ci .i64) aDc)) 11 (.own 1 0 aDr.length)) 12 (vi aZ8)), ⟨(upd aV 1 (.cells 3 (aDr.flatMap aO) 0)), 64⟩⟩ ∧ lH m l_1 v_3 aDc aDr aZ8 = some r) ?_ ?_
 ·
  refine ⟨_, ?_, l_1, v_3, r8, [], u_2, rfl, hm⟩
  refine St.Le.trans (kH 11 900011 3 Z1 Z5) ?_
  exact cn (fun j => bif j == 1 then 900011 else 0)
 rintro n1 s ⟨l_1, v_3, aDc, aDr, aZ8, rfl, hm⟩
 refine W ?_
 refine cm hm (fun hm => ?_) fun hm => ?_
 ·
  obtain ⟨x10, h9, hm⟩ := bnd hm
  refine W ?_
  refine cm hm (fun hm => ?_) fun hm => ?_
  · exact E
  have hm := sb hm h9
  obtain ⟨x14, h13, hm⟩ := bnd hm
  refine W ?_
  refine aL cE [x14] ?_
  obtain ⟨l16, h15, hm⟩ := bnd hm
  obtain ⟨r18, h17, hm⟩ := bnd hm
  refine W ?_
  refine cq (aK4 h17) ?_
  refine W ?_
  exact Lr (fun j => bif j == 1 then 259 else 0)
 exact E
def jG (cC : Int) (g_3 : aI) (t6 : aI) (e_7 : aC) (n_9 : Int) : Option (aI) :=
 ((aAd n_9 g_3.Edges e_7.U e_7.V (IntKind.i64.wrap (cC + 1))).bind fun ⟨r9, r10⟩ =>
 some (aI.mk g_3.Config g_3.Hashes r9))
def qV (g_0 : aI) (cC : Int) (v_2 : Int) : Option (aI) :=
 ((tQ g_0 cC v_2).bind fun r2 =>
 ((tQ g_0 (IntKind.i64.wrap (cC + 1)) v_2).bind fun r4 =>
 (bif ((r2.length : Int) != (r4.length : Int)) then
  some g_0
 else
  ((tP g_0 cC v_2).bind fun ⟨r6, r7⟩ =>
  (bif (!r7) then
   some g_0
  else
   (bif (r6.Tier == 0) then
    ((gZ g_0.Config.N g_0.Edges g_0.Config.L).bind fun r12 =>
    ((rT g_0.Config.N r12 r6.U r6.V).bind fun ⟨r14, r15⟩ =>
    ((lV r14).bind fun ⟨r17, r18⟩ =>
    (bif (r18 && (r15 == 0)) then
     ((aAd g_0.Config.N g_0.Edges r17.U r17.V 0).bind fun ⟨r20, r21⟩ =>
     jG cC (aI.mk g_0.Config g_0.Hashes r20) (aI.mk (aT.mk 0 0 0) [] []) r6 g_0.Config.N)
    else
     jG cC g_0 (aI.mk (aT.mk 0 0 0) [] []) r6 g_0.Config.N))))
   else
    jG cC g_0 (aI.mk (aT.mk 0 0 0) [] []) r6 g_0.Config.N))))))
theorem aI8 {g_0 : aI} {cC : Int} {v_2 : Int} {r : aI} (hm : qV g_0 cC v_2 = some r) : bC prog 141 [.agg [vi g_0.Config.N, vi g_0.Config.L, vi g_0.Config.R, vl bE g_0.Hashes, vl aO g_0.Edges], vi cC, vi v_2] (.agg [vi r.Config.N, vi r.Config.L, vi r.Config.R, vl bE r.Hashes, vl aO r.Edges]) := by
 refine bd 98 func141 ?_
 obtain ⟨r2, h1, hm⟩ := bnd hm
 refine W ?_
 refine cq (aKv h1) ?_
 obtain ⟨r4, h3, hm⟩ := bnd hm
 refine W ?_
 refine cq (aKv h3) ?_
 refine W ?_
 refine cm hm (fun hm => ?_) fun hm => ?_
 · exact E
 refine W ?_
 obtain ⟨⟨r6, r7⟩, h5, hm⟩ := bnd hm
 refine cq (aQx h5) ?_
 refine W ?_
 refine cm hm (fun hm => ?_) fun hm => ?_
 · exact E
 refine V ?_
 refine AWp.seqJ (fun s => ∃ cC g_3 t6 e_7 n_9, s = ⟨98, (aE (aE (aE (aE (aE fa 1 (vi cC)) 3 (.adr 1 0)) 6 (.adr 2 0)) 7 (.adr 3 0)) 9 (vi n_9)), ⟨(upd (upd (upd aV 1 (.cells 1 [vi g_3.Config.N, vi g_3.Config.L, vi g_3.Config.R, vl bE g_3.Hashes, vl aO g_3.Edges] 0)) 2 (.cells 1 [vi t6.Config.N, vi t6.Config.L, vi t6.Config.R, vl bE t6.Hashes, vl aO t6.Edges] 0)) 3 (.cells 1 [vi e_7.U, vi e_7.V, vi e_7.Tier] 0)), 64⟩⟩ ∧ jG cC g_3 t6 e_7 n_9 = some r) ?_ ?_
 ·
  refine W ?_
  refine cm hm (fun hm => ?_) fun hm => ?_
  ·
   obtain ⟨r12, h11, hm⟩ := bnd hm
   refine W ?_
   refine cq (qS h11) ?_
   refine W ?_
   obtain ⟨⟨r14, r15⟩, h13, hm⟩ := bnd hm
   refine cq (aXg h13) ?_
   refine W ?_
   obtain ⟨⟨r17, r18⟩, h16, hm⟩ := bnd hm
   refine cq (aO5 h16) ?_
   refine W ?_
   refine cm hm (fun hm => ?_) fun hm => ?_
   ·
    refine W ?_
    obtain ⟨⟨r20, r21⟩, h19, hm⟩ := bnd hm
    refine cq (aRb h19) ?_
    refine W ?_
    refine ⟨_, ?_, cC, (aI.mk g_0.Config g_0.Hashes r20), (aI.mk (aT.mk 0 0 0) [] []), r6, g_0.Config.N, rfl, hm⟩
    refine St.Le.trans (jQ 1 (ys := [.v (.int .i64 (((aI.mk (aT.mk 0 0 0) [] []).Config).N)), .v (.int .i64 (((aI.mk (aT.mk 0 0 0) [] []).Config).L)), .v (.int .i64 (((aI.mk (aT.mk 0 0 0) [] []).Config).R)), .sl (((aI.mk (aT.mk 0 0 0) [] []).Hashes).flatMap bE) ((aI.mk (aT.mk 0 0 0) [] []).Hashes).length false, .sl (((aI.mk (aT.mk 0 0 0) [] []).Edges).flatMap aO) ((aI.mk (aT.mk 0 0 0) [] []).Edges).length false]) Z3 (.cons (.data _ (.v _)) (.cons (.data _ (.v _)) (.cons (.data _ (.v _)) (.cons (.nil false) (.cons (.nil false) .nil)))))) ?_
    exact cn (fun j => bif j == 1 then 0 else bif j == 2 then 1 else bif j == 3 then 135 else 0)
   refine W ?_
   refine ⟨_, ?_, cC, g_0, (aI.mk (aT.mk 0 0 0) [] []), r6, g_0.Config.N, rfl, hm⟩
   refine St.Le.trans (jQ 1 (ys := [.v (.int .i64 (((aI.mk (aT.mk 0 0 0) [] []).Config).N)), .v (.int .i64 (((aI.mk (aT.mk 0 0 0) [] []).Config).L)), .v (.int .i64 (((aI.mk (aT.mk 0 0 0) [] []).Config).R)), .sl (((aI.mk (aT.mk 0 0 0) [] []).Hashes).flatMap bE) ((aI.mk (aT.mk 0 0 0) [] []).Hashes).length false, .sl (((aI.mk (aT.mk 0 0 0) [] []).Edges).flatMap aO) ((aI.mk (aT.mk 0 0 0) [] []).Edges).length false]) Z3 (.cons (.data _ (.v _)) (.cons (.data _ (.v _)) (.cons (.data _ (.v _)) (.cons (.nil false) (.cons (.nil false) .nil)))))) ?_
   exact cn (fun j => bif j == 1 then 0 else bif j == 2 then 1 else bif j == 3 then 135 else 0)
  refine W ?_
  refine ⟨_, ?_, cC, g_0, (aI.mk (aT.mk 0 0 0) [] []), r6, g_0.Config.N, rfl, hm⟩
  refine St.Le.trans (jQ 1 (ys := [.v (.int .i64 (((aI.mk (aT.mk 0 0 0) [] []).Config).N)), .v (.int .i64 (((aI.mk (aT.mk 0 0 0) [] []).Config).L)), .v (.int .i64 (((aI.mk (aT.mk 0 0 0) [] []).Config).R)), .sl (((aI.mk (aT.mk 0 0 0) [] []).Hashes).flatMap bE) ((aI.mk (aT.mk 0 0 0) [] []).Hashes).length false, .sl (((aI.mk (aT.mk 0 0 0) [] []).Edges).flatMap aO) ((aI.mk (aT.mk 0 0 0) [] []).Edges).length false]) Z3 (.cons (.data _ (.v _)) (.cons (.data _ (.v _)) (.cons (.data _ (.v _)) (.cons (.nil false) (.cons (.nil false) .nil)))))) ?_
  exact cn (fun j => bif j == 1 then 0 else bif j == 2 then 1 else bif j == 3 then 135 else 0)
 rintro s ⟨cC, g_3, t6, e_7, n_9, rfl, hm⟩
 refine W ?_
 obtain ⟨⟨r9, r10⟩, h8, hm⟩ := bnd hm
 refine cq (aRb h8) ?_
 exact E
def aAe (rec1 : Int → Int → aI → aI → Int → Int → Option (aI)) (u_1 : Int) (v_2 : Int) (g_3 : aI) (t6 : aI) (t10 : Int) (t11 : Int) : Option (aI) :=
 (bif (decide (t11 < t10)) then
  ((qV g_3 t11 u_1).bind fun r2 =>
  ((qV r2 t11 v_2).bind fun r4 =>
  rec1 u_1 v_2 r4 t6 t10 (IntKind.i64.wrap (t11 + 1))))
 else
  some g_3)
def oA : Nat → Int → Int → aI → aI → Int → Int → Option (aI)
 | 0 => fun _ _ _ _ _ _ => none
 | n + 1 => aAe (oA n)
def vO (g_0 : aI) (u_1 : Int) (v_2 : Int) : Option (aI) :=
 oA bF u_1 v_2 g_0 (aI.mk (aT.mk 0 0 0) [] []) g_0.Config.L 0
theorem aI7 {g_0 : aI} {u_1 : Int} {v_2 : Int} {r : aI} (hm : vO g_0 u_1 v_2 = some r) : bC prog 117 [.agg [vi g_0.Config.N, vi g_0.Config.L, vi g_0.Config.R, vl bE g_0.Hashes, vl aO g_0.Edges], vi u_1, vi v_2] (.agg [vi r.Config.N, vi r.Config.L, vi r.Config.R, vl bE r.Hashes, vl aO r.Edges]) := by
 refine bd 24 func117 ?_
 refine W ?_
 refine lp (fun m s => ∃ u_1 v_2 g_3 t6 t10 t11, s = ⟨24, (aE (aE (aE (aE (aE (aE fa 1 (vi u_1)) 2 (vi v_2)) 3 (.adr 1 0)) 6 (.adr 2 0)) 10 (vi t10)) 11 (vi t11)), ⟨(upd (upd aV 1 (.cells 1 [vi g_3.Config.N, vi g_3.Config.L, vi g_3.Config.R, vl bE g_3.Hashes, vl aO g_3.Edges] 0)) 2 (.cells 1 [vi t6.Config.N, vi t6.Config.L, vi t6.Config.R, vl bE t6.Hashes, vl aO t6.Edges] 0)), 64⟩⟩ ∧ oA m u_1 v_2 g_3 t6 t10 t11 = some r) ?_ ?_
 ·
  refine ⟨_, ?_, u_1, v_2, g_0, (aI.mk (aT.mk 0 0 0) [] []), g_0.Config.L, 0, rfl, hm⟩
  refine St.Le.trans (jQ 1 (ys := [.v (.int .i64 (((aI.mk (aT.mk 0 0 0) [] []).Config).N)), .v (.int .i64 (((aI.mk (aT.mk 0 0 0) [] []).Config).L)), .v (.int .i64 (((aI.mk (aT.mk 0 0 0) [] []).Config).R)), .sl (((aI.mk (aT.mk 0 0 0) [] []).Hashes).flatMap bE) ((aI.mk (aT.mk 0 0 0) [] []).Hashes).length false, .sl (((aI.mk (aT.mk 0 0 0) [] []).Edges).flatMap aO) ((aI.mk (aT.mk 0 0 0) [] []).Edges).length false]) Z3 (.cons (.data _ (.v _)) (.cons (.data _ (.v _)) (.cons (.data _ (.v _)) (.cons (.nil false) (.cons (.nil false) .nil)))))) ?_
  exact cn (fun j => bif j == 1 then 0 else bif j == 2 then 1 else 0)
 rintro n1 s ⟨u_1, v_2, g_3, t6, t10, t11, rfl, hm⟩
 refine W ?_
 refine cm hm (fun hm => ?_) fun hm => ?_
 ·
  obtain ⟨r2, h1, hm⟩ := bnd hm
  refine W ?_
  refine cq (aI8 h1) ?_
  obtain ⟨r4, h3, hm⟩ := bnd hm
  refine W ?_
  refine cq (aI8 h3) ?_
  refine W ?_
  exact Lr (fun j => bif j == 1 then 1 else bif j == 2 then 2 else 0)
 exact E
def vN (g_0 : aI) (u_1 : Int) (v_2 : Int) : Option (aI × Int) :=
 ((wZ g_0 u_1 v_2).bind fun r2 =>
 (bif (!r2) then
  some (g_0, 1)
 else
  ((aEn g_0.Config.N g_0.Edges u_1 v_2).bind fun ⟨r4, r5⟩ =>
  (bif (r5 != 0) then
   some (g_0, r5)
  else
   ((vO (aI.mk g_0.Config g_0.Hashes r4) u_1 v_2).bind fun r7 =>
   some (r7, 0))))))
theorem aSj {g_0 : aI} {u_1 : Int} {v_2 : Int} {r : aI × Int} (hm : vN g_0 u_1 v_2 = some r) : bC prog 85 [.agg [vi g_0.Config.N, vi g_0.Config.L, vi g_0.Config.R, vl bE g_0.Hashes, vl aO g_0.Edges], vi u_1, vi v_2] (.tup [.agg [vi r.1.Config.N, vi r.1.Config.L, vi r.1.Config.R, vl bE r.1.Hashes, vl aO r.1.Edges], vi r.2]) := by
 refine bd 37 func85 ?_
 obtain ⟨r2, h1, hm⟩ := bnd hm
 refine W ?_
 refine cq (aNu h1) ?_
 refine W ?_
 refine cm hm (fun hm => ?_) fun hm => ?_
 · exact E
 refine W ?_
 obtain ⟨⟨r4, r5⟩, h3, hm⟩ := bnd hm
 refine cq (bD3 h3) ?_
 refine W ?_
 refine cm hm (fun hm => ?_) fun hm => ?_
 · exact E
 obtain ⟨r7, h6, hm⟩ := bnd hm
 refine W ?_
 refine cq (aI7 h6) ?_
 exact E
def vM (g_0 : aI) (u_1 : Int) (v_2 : Int) : Option (aI × Int) :=
 ((wZ g_0 u_1 v_2).bind fun r2 =>
 (bif (!r2) then
  some (g_0, 1)
 else
  ((vL g_0.Config.N g_0.Edges u_1 v_2).bind fun ⟨r4, r5⟩ =>
  (bif (r5 != 0) then
   some (g_0, r5)
  else
   ((vO (aI.mk g_0.Config g_0.Hashes r4) u_1 v_2).bind fun r7 =>
   some (r7, 0))))))
theorem aSi {g_0 : aI} {u_1 : Int} {v_2 : Int} {r : aI × Int} (hm : vM g_0 u_1 v_2 = some r) : bC prog 86 [.agg [vi g_0.Config.N, vi g_0.Config.L, vi g_0.Config.R, vl bE g_0.Hashes, vl aO g_0.Edges], vi u_1, vi v_2] (.tup [.agg [vi r.1.Config.N, vi r.1.Config.L, vi r.1.Config.R, vl bE r.1.Hashes, vl aO r.1.Edges], vi r.2]) := by
 refine bd 37 func86 ?_
 obtain ⟨r2, h1, hm⟩ := bnd hm
 refine W ?_
 refine cq (aNu h1) ?_
 refine W ?_
 refine cm hm (fun hm => ?_) fun hm => ?_
 · exact E
 refine W ?_
 obtain ⟨⟨r4, r5⟩, h3, hm⟩ := bnd hm
 refine cq (aSh h3) ?_
 refine W ?_
 refine cm hm (fun hm => ?_) fun hm => ?_
 · exact E
 obtain ⟨r7, h6, hm⟩ := bnd hm
 refine W ?_
 refine cq (aI7 h6) ?_
 exact E
end Go.Proofs.YtkdohhmacfoolaaGreat
set_option maxRecDepth 4000
namespace Go.AM
open Go.RowKit
attribute [local semireducible] aW KN aBu uB AIn AWp cN
variable {P : Program}
def xM (op : Op) : Bool := match op with | .fieldAddr .. | .load .. | .indexAddr .. | .slice .. | .call { callee := .builtin .len, .. } => true | _ => false
def aJm (op : Op) : Bool := match op with | .call { callee := .builtin .append, .. } => true | _ => false
def bQ0 (T : List Nat) (ops : Array Oper) (p i : Nat) : Bool :=
  aPi T ops p i || match ops[p]?, ops[i]? with
  | some op, some oi => op.apart ops oi && aJm op.op && xM oi.op
  | _, _ => false
theorem aIb {H : aN} {x : AV} {j : Nat} (h : H.alive x = true) (hj : dH x = some j) : H.ent j ≠ .dead := by
 intro hd
 cases x <;> simp [dH] at hj <;> subst hj <;> simp [aN.alive, hd] at h
theorem aZl {d n : Nat} {x : AV} (h : fD d (some x) = some n) : dH x = none := by
 cases x with
 | v y => rfl
 | _ => simp [fD] at h
theorem mD {ρ : Operand → AV} {d n : Nat} {o : Option Operand} {x : Operand} (h : fD d (o.map ρ) = some n) (hx : x ∈ o) : dH (ρ x) = none := by
 cases hx
 exact aZl h
theorem bCx {H : aN} {ρ : Operand → AV} {t : TypeId} {a : Operand} {lo hi mx : Option Operand} {r : AV} (h : xC P H t (ρ a) (lo.map ρ) (hi.map ρ) (mx.map ρ) = some r) :
 (∀ j, dH (ρ a) = some j → H.ent j ≠ .dead) ∧ (∀ x, x ∈ lo ∨ x ∈ hi ∨ x ∈ mx → dH (ρ x) = none) := by
 unfold xC at h
 split at h
 ·
  rename_i s hu ha
  split at h
  ·
   rename_i l hh h1 h2 h3
   refine ⟨fun j hj => (by rw [ha] at hj; cases hj), fun x hx => ?_⟩
   rcases hx with q | q | q
   ·
    exact mD h2 q
   ·
    exact mD h3 q
   ·
    cases q; cases h1
  ·
   cases h
 ·
  rename_i e hu ha
  split at h
  ·
   rename_i h1 h2 h3 h4
   refine ⟨fun j hj => (by rw [ha] at hj; cases hj), fun x hx => ?_⟩
   rcases hx with q | q | q
   ·
    exact mD h2 q
   ·
    exact mD h3 q
   ·
    exact mD h4 q
  ·
   cases h
 ·
  rename_i e xs len full hu ha
  split at h
  ·
   split at h
   ·
    rename_i l hh m h2 h3 h4
    refine ⟨fun j hj => (by rw [ha] at hj; cases hj), fun x hx => ?_⟩
    rcases hx with q | q | q
    ·
     exact mD h2 q
    ·
     exact mD h3 q
    ·
     exact mD h4 q
   ·
    cases h
  ·
   cases h
 ·
  rename_i e id off len hu ha
  split at h
  ·
   rename_i hent
   split at h
   ·
    rename_i l hh h2 h3 h4
    refine ⟨fun j hj hd => ?_, fun x hx => ?_⟩
    ·
     rw [ha] at hj; cases hj
     rw [hd] at hent; cases hent
    ·
     rcases hx with q | q | q
     ·
      exact mD h2 q
     ·
      exact mD h3 q
     ·
      cases q; cases h4
   ·
    cases h
  ·
   cases h
 ·
  cases h
theorem bHx {H : aN} {ρ : Operand → AV} {op : Op} {r : AV} (hs : xM op = true) (h : bJ P H ρ op = some r) : ∀ x, x ∈ op.operands → ∀ j, dH (ρ x) = some j → H.ent j ≠ .dead := by
 intro x hx j hj
 cases op with
 | fieldAddr t a f =>
  simp only [bJ] at h
  split at h
  ·
   rename_i ha
   simp [Op.operands] at hx; subst hx
   exact aIb ha hj
  ·
   cases h
 | load t a =>
  simp only [bJ] at h
  simp [Op.operands] at hx; subst hx
  intro hd
  cases hv : ρ x <;> rw [hv] at h hj <;> simp [dH] at hj <;> subst hj <;> simp [bS, hd] at h
 | indexAddr t a i =>
  simp only [bJ] at h
  split at h
  ·
   rename_i ha
   simp [Op.operands] at hx
   rcases hx with rfl | rfl
   ·
    exact aIb ha hj
   ·
    exfalso
    unfold iF at h
    split at h <;> first | (cases h; done) | (rename_i hq; rw [hq] at hj; cases hj)
  ·
   cases h
 | slice t a lo hi mx =>
  simp only [bJ] at h
  obtain ⟨h1, h2⟩ := bCx h
  simp [Op.operands] at hx
  rcases hx with rfl | hx | hx | hx
  ·
   exact h1 j hj
  ·
   rw [h2 x (.inl hx)] at hj; cases hj
  ·
   rw [h2 x (.inr (.inl hx))] at hj; cases hj
  ·
   rw [h2 x (.inr (.inr hx))] at hj; cases hj
 | call c =>
  obtain ⟨callee, args, ats⟩ := c
  cases callee with
  | builtin b =>
   cases b <;> first | (simp [xM] at hs; done) | skip
   simp only [bJ] at h
   split at h
   ·
    rename_i ha
    rw [List.all_eq_true] at ha
    refine aIb (ha _ (List.mem_map.2 ⟨x, ?_, rfl⟩)) hj
    simpa [Op.operands, Call.operands] using hx
   ·
    cases h
  | _ => simp [xM] at hs
 | _ => simp [xM] at hs
theorem aM4 {ops : Array Oper} {id : Nat} {o : Oper} {s s' : St} (h : cN P true ops id o s s') (hs : xM o.op = true) :
 ∃ r, s' = ⟨s.n, gJ s.f o.dst r, s.H⟩ ∧ ∀ (f' : Nat → AV) (G : aN), (∀ t, t ∈ o.looksAt ops → s.f t = f' t) → (∀ x, x ∈ o.op.operands → ∀ j, dH (aval s.f x) = some j → s.H.ent j ≠ .dead → G.ent j = s.H.ent j) → cN P true ops id o ⟨s.n, f', G⟩ ⟨s.n, gJ f' o.dst r, G⟩ := by
 obtain ⟨hd, h⟩ := h
 split at h
 ·
  rename_i hg
  subst h
  refine ⟨.v undef, rfl, fun f' G hf _ => ⟨hd, ?_⟩⟩
  have := fC (ops := ops) hf
  rw [hg] at this
  simp only [← this]
 ·
  rename_i hg
  unfold aAg at h
  split at h
  ·
   rename_i f args ats ho
   rw [ho] at hs; cases hs
  ·
   rename_i op hne
   rcases h with ⟨r, h1, rfl⟩ | ⟨r, H', h1, rfl⟩ | ⟨r, h0, h1, rfl⟩
   ·
    refine ⟨r, rfl, fun f' G hf hG => ⟨hd, ?_⟩⟩
    have e := fC (ops := ops) hf
    rw [hg] at e
    simp only [← e]
    refine uG (s := ⟨s.n, f', G⟩) ?_
    rw [← h1]
    exact (vU (jD hf) fun x hx j hj => (hG x hx j hj (bHx hs h1 x hx j hj)).symm).symm
   ·
    exfalso
    cases ho : o.op <;> rw [ho] at h1 hs <;> first | (simp [xM] at hs; done) | (simp [dN] at h1; done) | skip
    rename_i c
    obtain ⟨callee, args, ats⟩ := c
    cases callee with
    | builtin b => cases b <;> first | (simp [xM] at hs; done) | (simp [dN] at h1; done)
    | _ => simp [xM] at hs
   ·
    refine ⟨r, rfl, fun f' G hf hG => ⟨hd, ?_⟩⟩
    have e := fC (ops := ops) hf
    rw [hg] at e
    simp only [← e]
    have hop := jD hf
    refine vW (s := ⟨s.n, f', G⟩) (fun x hx => by rw [← hop x hx]; exact h0 x hx) (fun o' w X ρ h2 h3 h4 => h1 o' w X ρ h2 h3 (fun x hx => by rw [hop x hx]; exact h4 x hx)) ?_
    unfold oH
    split
    ·
     rename_i f args ats ho
     exact absurd ho (by intro ho; exact hne _ _ _ ho)
    ·
     rfl
 ·
  exact h.elim
theorem aMk {H H' : aN} {id : Nat} {ts tx : TypeId} {s x r : AV} (h : sC P H id ts tx s x = some (r, H')) (j : Nat) : H'.ent j = H.ent j ∨ H'.ent j = .dead ∨ (j = id ∧ H.isFresh id = true) := by
 by_cases hj : j = id
 ·
  subst hj
  refine .inr (.inr ⟨rfl, ?_⟩)
  unfold sC at h
  split at h
  ·
   split at h
   ·
    split at h
    ·
     split at h
     ·
      rename_i q; exact q.1
     ·
      cases h
    ·
     cases h
   ·
    split at h
    ·
     split at h
     ·
      split at h
      ·
       rename_i q; exact q.1
      ·
       cases h
     ·
      cases h
    ·
     cases h
  ·
   cases h
 ·
  unfold sC at h
  split at h
  ·
   split at h
   ·
    split at h
    ·
     split at h
     ·
      cases h; exact .inl (upd_ne _ _ _ _ hj)
     ·
      cases h
    ·
     cases h
   ·
    split at h
    ·
     split at h
     ·
      split at h
      ·
       cases h
       rename_i oid _ _ _ _ _
       have e : ∀ (G : aN) (e : Ent), (G.put id e).ent j = G.ent j := fun G e => upd_ne _ _ _ _ hj
       rw [e]
       split
       ·
        rename_i k _ _
        by_cases hk : j = k
        ·
         subst hk; exact .inr (.inl (by simp [aN.put, upd]))
        ·
         exact .inl (upd_ne _ _ _ _ hk)
       ·
        exact .inl rfl
      ·
       cases h
     ·
      cases h
    ·
     cases h
  ·
   cases h
theorem bMs {ops : Array Oper} {id : Nat} {o : Oper} {s s' : St} (h : cN P true ops id o s s') (hs : aJm o.op = true) (j : Nat) : s'.H.ent j = s.H.ent j ∨ s'.H.ent j = .dead ∨ (j = id ∧ s.H.isFresh id = true) := by
 obtain ⟨hd, h⟩ := h
 split at h
 ·
  subst h; exact .inl rfl
 ·
  unfold aAg at h
  split at h
  ·
   rename_i f args ats ho
   rw [ho] at hs; cases hs
  ·
   rename_i op hne
   rcases h with ⟨r, h1, rfl⟩ | ⟨r, H', h1, rfl⟩ | ⟨r, h0, h1, rfl⟩
   ·
    exact .inl rfl
   ·
    cases ho : o.op <;> rw [ho] at h1 hs <;> first | (simp [aJm] at hs; done) | skip
    rename_i c
    obtain ⟨callee, args, ats⟩ := c
    cases callee with
    | builtin b =>
     cases b <;> first | (simp [aJm] at hs; done) | skip
     simp only [dN] at h1
     split at h1
     ·
      exact aMk h1 j
     ·
      cases h1
    | _ => simp [aJm] at hs
   ·
    exact .inl rfl
 ·
  exact h.elim
theorem bIv {op : Op} (h : aJm op = true) : aJh op = true := by
 unfold aJm at h
 split at h
 ·
  rfl
 ·
  cases h
theorem aRt {C : Ctx} {ops : Array Oper} {ip ii : Nat} {p i : Oper} {s s1 s2 : St} {a : Act} {w : World} (hr : Real C s a w) (hp : cN P true ops ip p s s1) (hi : cN P true ops ii i s1 s2)
 (hap : p.apart ops i = true) (hcp : aJm p.op = true) (hci : xM i.op = true) : ∃ t, cN P true ops ii i s t ∧ cN P true ops ip p t s2 := by
 obtain ⟨d1, d2, d3⟩ := Oper.apart_spec hap
 have hE := bMs hp hcp
 obtain ⟨rp, H', e1, tp⟩ := aEt hp (bIv hcp)
 subst e1
 obtain ⟨ri, e2, ti⟩ := aM4 hi hci
 subst e2
 have hopi : ∀ x, x ∈ i.op.operands → aval (gJ s.f p.dst rp) x = aval s.f x := by
  intro x hx
  cases x with
  | tmp t => exact dE d1 t (List.mem_append_left _ (List.mem_filterMap.2 ⟨.tmp t, by simpa using hx, rfl⟩))
  | _ => rfl
 refine ⟨_, ti s.f s.H (fun t ht => dE d1 t ht) (fun x hx j hj hnd => ?_), ?_⟩
 ·
  simp only [] at hj hnd
  rw [hopi x hx] at hj
  have hnf := hr.notFresh hj
  rcases hE j with q | q | ⟨rfl, q⟩
  ·
   exact q.symm
  ·
   exact absurd q hnd
  ·
   exact absurd (aN.isFresh_eq q) hnf
 ·
  have := tp (gJ s.f i.dst ri) (fun t ht => (dE d3 t ht).symm)
  rw [← mF s.f p.dst i.dst rp ri d2] at this
  exact this
section
variable {ops : Array Oper}
end
end Go.AM
