/- Facts that the statement's proof is made of. No condition. -/
import Derived.Test.YtkdohhmacfoolaaGreatNeLds
import Derived.Test.YtkdohhmacfoolaaGreatNeAmF
import Derived.Test.YtkdohhmacfoolaaGreatNePl
set_option linter.unusedVariables false
set_option linter.unusedSimpArgs false
set_option maxRecDepth 20000
set_option maxHeartbeats 4000000
namespace Go.Proofs.YtkdohhmacfoolaaGreat
open Go Go.AM
theorem aWz (i o : Nat) : aH Tryz.prog 102 (.adr i o) 0 = some (.adr i (o + 0)) := by kernel_rfl
attribute [go_sem] aWz
theorem aWw (i o : Nat) : aH Tryz.prog 102 (.adr i o) 1 = some (.adr i (o + 1)) := by kernel_rfl
attribute [go_sem] aWw
theorem aVf (i o : Nat) : aH Tryz.prog 102 (.adr i o) 2 = some (.adr i (o + 2)) := by kernel_rfl
attribute [go_sem] aVf
theorem bCh (i o : Nat) : aH Tryz.prog 23 (.adr i o) 0 = some (.adr i (o + 0)) := by kernel_rfl
attribute [go_sem] bCh
theorem bDx (i o : Nat) : aH Tryz.prog 23 (.adr i o) 1 = some (.adr i (o + 1)) := by kernel_rfl
attribute [go_sem] bDx
theorem bBa (i o : Nat) : aH Tryz.prog 30 (.adr i o) 0 = some (.adr i (o + 0)) := by kernel_rfl
attribute [go_sem] bBa
theorem bBi (i o : Nat) : aH Tryz.prog 30 (.adr i o) 2 = some (.adr i (o + 4)) := by kernel_rfl
attribute [go_sem] bBi
theorem bEd (H : aJ) (x0 x1 x2 : AV) (xs : List AV) : bM Tryz.prog H 102 (.ptr (x0 :: x1 :: x2 :: xs)) = some (.agg [x0, x1, x2]) := by kernel_rfl
attribute [go_sem] bEd
theorem bKn (H : aJ) (x : AV) (xs : List AV) : bM Tryz.prog H 28 (.ptr (x :: xs)) = some x := by kernel_rfl
attribute [go_sem] bKn
theorem bMa (H : aJ) (x : AV) (xs : List AV) : bM Tryz.prog H 3 (.ptr (x :: xs)) = some x := by kernel_rfl
attribute [go_sem] bMa
theorem bIv (H : aJ) (x0 x1 x2 x3 x4 : AV) (xs : List AV) : bM Tryz.prog H 30 (.ptr (x0 :: x1 :: x2 :: x3 :: x4 :: xs)) = some (.agg [x0, x1, x2, x3, x4]) := by kernel_rfl
attribute [go_sem] bIv
def rK (rec1 : List aD → Int → List Int → List aD → Int → Option ((List aD) × Int)) (l_1 : List aD) (v_3 : Int) (aB2 : List Int) (aAo : List aD) (aT9 : Int) : Option ((List aD) × Int) :=
 (bif (aT9 != v_3) then
  ((idx aB2 aT9).bind fun x10 =>
  (bif (decide (x10 < 0)) then
   some ([], 3)
  else
   ((idx aB2 aT9).bind fun x12 =>
   ((idx l_1 x12).bind fun x14 =>
   ((app aAo [x14]).bind fun l16 =>
   ((qP x14 aT9).bind fun r18 =>
   rec1 l_1 v_3 aB2 l16 r18))))))
 else
  some (aAo, 0))
def kO : Nat → List aD → Int → List Int → List aD → Int → Option ((List aD) × Int)
 | 0 => fun _ _ _ _ _ => none
 | n + 1 => rK (kO n)
def qE (n_0 : Int) (l_1 : List aD) (u_2 : Int) (v_3 : Int) : Option ((List aD) × Int) :=
 ((nO n_0 l_1).bind fun r2 =>
 ((fC ((!r2) == false) false (sW n_0 u_2)).bind fun r4 =>
 ((fC (((!r2) || (!r4)) == false) false (sW n_0 v_3)).bind fun r6 =>
 (bif (((!r2) || (!r4)) || (!r6)) then
  some ([], 1)
 else
  ((rP n_0 l_1 v_3).bind fun r8 =>
  kO bF l_1 v_3 r8 [] u_2)))))
theorem aUq {n_0 : Int} {l_1 : List aD} {u_2 : Int} {v_3 : Int} {r : (List aD) × Int} (hm : qE n_0 l_1 u_2 v_3 = some r) : aZ Tryz.prog 170 [vi n_0, vl aT l_1, vi u_2, vi v_3] (.tup [vl aT r.1, vi r.2]) := by
 refine bd 58 Tryz.func170 ?_
 obtain ⟨r2, h1, hm⟩ := bnd hm
 refine W ?_
 refine cq (aAn h1) ?_
 obtain ⟨r4, h3, hm⟩ := bnd hm
 refine W ?_
 refine cg (fun hb => aF2 (cM h3 hb)) ?_
 obtain ⟨r6, h5, hm⟩ := bnd hm
 refine W ?_
 refine cg (fun hb => aF2 (cM h5 hb)) ?_
 refine W ?_
 refine cm hm (fun hm => ?_) fun hm => ?_
 · exact E
 obtain ⟨r8, h7, hm⟩ := bnd hm
 refine W ?_
 refine cq (aQl h7) ?_
 refine W ?_
 refine lp (fun m s => ∃ l_1 v_3 aB2 aAo aT9, s = ⟨58, (aF (aF (aF (aF (aF fa 1 (vl aT l_1)) 3 (vi v_3)) 10 (vl (ci .i64) aB2)) 11 (.own 1 0 aAo.length)) 12 (vi aT9)), ⟨(upd aX 1 (.cells 3 (aAo.flatMap aT) 0)), 64⟩⟩ ∧ kO m l_1 v_3 aB2 aAo aT9 = some r) ?_ ?_
 ·
  refine ⟨_, ?_, l_1, v_3, r8, [], u_2, rfl, hm⟩
  refine St.Le.trans (nX 11 900011 3 Z1 Z5) ?_
  exact cn (fun j => bif j == 1 then 900011 else 0)
 rintro n1 s ⟨l_1, v_3, aB2, aAo, aT9, rfl, hm⟩
 refine W ?_
 refine cm hm (fun hm => ?_) fun hm => ?_
 ·
  obtain ⟨x10, h9, hm⟩ := bnd hm
  refine W ?_
  refine cm hm (fun hm => ?_) fun hm => ?_
  · exact E
  have hm := sb hm h9
  obtain ⟨x14, h13, hm⟩ := bnd hm
  refine W ?_
  refine aL bY [x14] ?_
  obtain ⟨l16, h15, hm⟩ := bnd hm
  obtain ⟨r18, h17, hm⟩ := bnd hm
  refine W ?_
  refine cq (aGq h17) ?_
  refine W ?_
  exact Lr (fun j => bif j == 1 then 259 else 0)
 exact E
def iI (cG : Int) (g_3 : aG) (t6 : aG) (e_7 : aD) (n_9 : Int) : Option (aG) :=
 ((xB n_9 g_3.Edges e_7.U e_7.V (IntKind.i64.wrap (cG + 1))).bind fun ⟨r9, r10⟩ =>
 some (aG.mk g_3.Config g_3.Hashes r9))
def oD (g_0 : aG) (cG : Int) (v_2 : Int) : Option (aG) :=
 ((qQ g_0 cG v_2).bind fun r2 =>
 ((qQ g_0 (IntKind.i64.wrap (cG + 1)) v_2).bind fun r4 =>
 (bif ((r2.length : Int) != (r4.length : Int)) then
  some g_0
 else
  ((qX g_0 cG v_2).bind fun ⟨r6, r7⟩ =>
  (bif (!r7) then
   some g_0
  else
   (bif (r6.Tier == 0) then
    ((gL g_0.Config.N g_0.Edges g_0.Config.L).bind fun r12 =>
    ((qE g_0.Config.N r12 r6.U r6.V).bind fun ⟨r14, r15⟩ =>
    ((kZ r14).bind fun ⟨r17, r18⟩ =>
    (bif (r18 && (r15 == 0)) then
     ((xB g_0.Config.N g_0.Edges r17.U r17.V 0).bind fun ⟨r20, r21⟩ =>
     iI cG (aG.mk g_0.Config g_0.Hashes r20) (aG.mk (aO.mk 0 0 0) [] []) r6 g_0.Config.N)
    else
     iI cG g_0 (aG.mk (aO.mk 0 0 0) [] []) r6 g_0.Config.N))))
   else
    iI cG g_0 (aG.mk (aO.mk 0 0 0) [] []) r6 g_0.Config.N))))))
theorem aF7 {g_0 : aG} {cG : Int} {v_2 : Int} {r : aG} (hm : oD g_0 cG v_2 = some r) : aZ Tryz.prog 141 [.agg [vi g_0.Config.N, vi g_0.Config.L, vi g_0.Config.R, vl bI g_0.Hashes, vl aT g_0.Edges], vi cG, vi v_2] (.agg [vi r.Config.N, vi r.Config.L, vi r.Config.R, vl bI r.Hashes, vl aT r.Edges]) := by
 refine bd 98 Tryz.func141 ?_
 obtain ⟨r2, h1, hm⟩ := bnd hm
 refine W ?_
 refine cq (aGf h1) ?_
 obtain ⟨r4, h3, hm⟩ := bnd hm
 refine W ?_
 refine cq (aGf h3) ?_
 refine W ?_
 refine cm hm (fun hm => ?_) fun hm => ?_
 · exact E
 refine W ?_
 obtain ⟨⟨r6, r7⟩, h5, hm⟩ := bnd hm
 refine cq (aMy h5) ?_
 refine W ?_
 refine cm hm (fun hm => ?_) fun hm => ?_
 · exact E
 refine V ?_
 refine AWp.seqJ (fun s => ∃ cG g_3 t6 e_7 n_9, s = ⟨98, (aF (aF (aF (aF (aF fa 1 (vi cG)) 3 (.adr 1 0)) 6 (.adr 2 0)) 7 (.adr 3 0)) 9 (vi n_9)), ⟨(upd (upd (upd aX 1 (.cells 1 [vi g_3.Config.N, vi g_3.Config.L, vi g_3.Config.R, vl bI g_3.Hashes, vl aT g_3.Edges] 0)) 2 (.cells 1 [vi t6.Config.N, vi t6.Config.L, vi t6.Config.R, vl bI t6.Hashes, vl aT t6.Edges] 0)) 3 (.cells 1 [vi e_7.U, vi e_7.V, vi e_7.Tier] 0)), 64⟩⟩ ∧ iI cG g_3 t6 e_7 n_9 = some r) ?_ ?_
 ·
  refine W ?_
  refine cm hm (fun hm => ?_) fun hm => ?_
  ·
   obtain ⟨r12, h11, hm⟩ := bnd hm
   refine W ?_
   refine cq (oP h11) ?_
   refine W ?_
   obtain ⟨⟨r14, r15⟩, h13, hm⟩ := bnd hm
   refine cq (aUq h13) ?_
   refine W ?_
   obtain ⟨⟨r17, r18⟩, h16, hm⟩ := bnd hm
   refine cq (aKn h16) ?_
   refine W ?_
   refine cm hm (fun hm => ?_) fun hm => ?_
   ·
    refine W ?_
    obtain ⟨⟨r20, r21⟩, h19, hm⟩ := bnd hm
    refine cq (aLv h19) ?_
    refine W ?_
    refine ⟨_, ?_, cG, (aG.mk g_0.Config g_0.Hashes r20), (aG.mk (aO.mk 0 0 0) [] []), r6, g_0.Config.N, rfl, hm⟩
    refine St.Le.trans (iJ 1 (ys := [.v (.int .i64 (((aG.mk (aO.mk 0 0 0) [] []).Config).N)), .v (.int .i64 (((aG.mk (aO.mk 0 0 0) [] []).Config).L)), .v (.int .i64 (((aG.mk (aO.mk 0 0 0) [] []).Config).R)), .sl (((aG.mk (aO.mk 0 0 0) [] []).Hashes).flatMap bI) ((aG.mk (aO.mk 0 0 0) [] []).Hashes).length false, .sl (((aG.mk (aO.mk 0 0 0) [] []).Edges).flatMap aT) ((aG.mk (aO.mk 0 0 0) [] []).Edges).length false]) Z3 (.cons (.data _ (.v _)) (.cons (.data _ (.v _)) (.cons (.data _ (.v _)) (.cons (.nil false) (.cons (.nil false) .nil)))))) ?_
    exact cn (fun j => bif j == 1 then 0 else bif j == 2 then 1 else bif j == 3 then 135 else 0)
   refine W ?_
   refine ⟨_, ?_, cG, g_0, (aG.mk (aO.mk 0 0 0) [] []), r6, g_0.Config.N, rfl, hm⟩
   refine St.Le.trans (iJ 1 (ys := [.v (.int .i64 (((aG.mk (aO.mk 0 0 0) [] []).Config).N)), .v (.int .i64 (((aG.mk (aO.mk 0 0 0) [] []).Config).L)), .v (.int .i64 (((aG.mk (aO.mk 0 0 0) [] []).Config).R)), .sl (((aG.mk (aO.mk 0 0 0) [] []).Hashes).flatMap bI) ((aG.mk (aO.mk 0 0 0) [] []).Hashes).length false, .sl (((aG.mk (aO.mk 0 0 0) [] []).Edges).flatMap aT) ((aG.mk (aO.mk 0 0 0) [] []).Edges).length false]) Z3 (.cons (.data _ (.v _)) (.cons (.data _ (.v _)) (.cons (.data _ (.v _)) (.cons (.nil false) (.cons (.nil false) .nil)))))) ?_
   exact cn (fun j => bif j == 1 then 0 else bif j == 2 then 1 else bif j == 3 then 135 else 0)
  refine W ?_
  refine ⟨_, ?_, cG, g_0, (aG.mk (aO.mk 0 0 0) [] []), r6, g_0.Config.N, rfl, hm⟩
  refine St.Le.trans (iJ 1 (ys := [.v (.int .i64 (((aG.mk (aO.mk 0 0 0) [] []).Config).N)), .v (.int .i64 (((aG.mk (aO.mk 0 0 0) [] []).Config).L)), .v (.int .i64 (((aG.mk (aO.mk 0 0 0) [] []).Config).R)), .sl (((aG.mk (aO.mk 0 0 0) [] []).Hashes).flatMap bI) ((aG.mk (aO.mk 0 0 0) [] []).Hashes).length false, .sl (((aG.mk (aO.mk 0 0 0) [] []).Edges).flatMap aT) ((aG.mk (aO.mk 0 0 0) [] []).Edges).length false]) Z3 (.cons (.data _ (.v _)) (.cons (.data _ (.v _)) (.cons (.data _ (.v _)) (.cons (.nil false) (.cons (.nil false) .nil)))))) ?_
  exact cn (fun j => bif j == 1 then 0 else bif j == 2 then 1 else bif j == 3 then 135 else 0)
 rintro s ⟨cG, g_3, t6, e_7, n_9, rfl, hm⟩
 refine W ?_
 obtain ⟨⟨r9, r10⟩, h8, hm⟩ := bnd hm
 refine cq (aLv h8) ?_
 exact E
def wH (rec1 : Int → Int → aG → aG → Int → Int → Option (aG)) (u_1 : Int) (v_2 : Int) (g_3 : aG) (t6 : aG) (t10 : Int) (t11 : Int) : Option (aG) :=
 (bif (decide (t11 < t10)) then
  ((oD g_3 t11 u_1).bind fun r2 =>
  ((oD r2 t11 v_2).bind fun r4 =>
  rec1 u_1 v_2 r4 t6 t10 (IntKind.i64.wrap (t11 + 1))))
 else
  some g_3)
def mC : Nat → Int → Int → aG → aG → Int → Int → Option (aG)
 | 0 => fun _ _ _ _ _ _ => none
 | n + 1 => wH (mC n)
def sT (g_0 : aG) (u_1 : Int) (v_2 : Int) : Option (aG) :=
 mC bF u_1 v_2 g_0 (aG.mk (aO.mk 0 0 0) [] []) g_0.Config.L 0
theorem aEw {g_0 : aG} {u_1 : Int} {v_2 : Int} {r : aG} (hm : sT g_0 u_1 v_2 = some r) : aZ Tryz.prog 117 [.agg [vi g_0.Config.N, vi g_0.Config.L, vi g_0.Config.R, vl bI g_0.Hashes, vl aT g_0.Edges], vi u_1, vi v_2] (.agg [vi r.Config.N, vi r.Config.L, vi r.Config.R, vl bI r.Hashes, vl aT r.Edges]) := by
 refine bd 24 Tryz.func117 ?_
 refine W ?_
 refine lp (fun m s => ∃ u_1 v_2 g_3 t6 t10 t11, s = ⟨24, (aF (aF (aF (aF (aF (aF fa 1 (vi u_1)) 2 (vi v_2)) 3 (.adr 1 0)) 6 (.adr 2 0)) 10 (vi t10)) 11 (vi t11)), ⟨(upd (upd aX 1 (.cells 1 [vi g_3.Config.N, vi g_3.Config.L, vi g_3.Config.R, vl bI g_3.Hashes, vl aT g_3.Edges] 0)) 2 (.cells 1 [vi t6.Config.N, vi t6.Config.L, vi t6.Config.R, vl bI t6.Hashes, vl aT t6.Edges] 0)), 64⟩⟩ ∧ mC m u_1 v_2 g_3 t6 t10 t11 = some r) ?_ ?_
 ·
  refine ⟨_, ?_, u_1, v_2, g_0, (aG.mk (aO.mk 0 0 0) [] []), g_0.Config.L, 0, rfl, hm⟩
  refine St.Le.trans (iJ 1 (ys := [.v (.int .i64 (((aG.mk (aO.mk 0 0 0) [] []).Config).N)), .v (.int .i64 (((aG.mk (aO.mk 0 0 0) [] []).Config).L)), .v (.int .i64 (((aG.mk (aO.mk 0 0 0) [] []).Config).R)), .sl (((aG.mk (aO.mk 0 0 0) [] []).Hashes).flatMap bI) ((aG.mk (aO.mk 0 0 0) [] []).Hashes).length false, .sl (((aG.mk (aO.mk 0 0 0) [] []).Edges).flatMap aT) ((aG.mk (aO.mk 0 0 0) [] []).Edges).length false]) Z3 (.cons (.data _ (.v _)) (.cons (.data _ (.v _)) (.cons (.data _ (.v _)) (.cons (.nil false) (.cons (.nil false) .nil)))))) ?_
  exact cn (fun j => bif j == 1 then 0 else bif j == 2 then 1 else 0)
 rintro n1 s ⟨u_1, v_2, g_3, t6, t10, t11, rfl, hm⟩
 refine W ?_
 refine cm hm (fun hm => ?_) fun hm => ?_
 ·
  obtain ⟨r2, h1, hm⟩ := bnd hm
  refine W ?_
  refine cq (aF7 h1) ?_
  obtain ⟨r4, h3, hm⟩ := bnd hm
  refine W ?_
  refine cq (aF7 h3) ?_
  refine W ?_
  exact Lr (fun j => bif j == 1 then 1 else bif j == 2 then 2 else 0)
 exact E
def sS (g_0 : aG) (u_1 : Int) (v_2 : Int) : Option (aG × Int) :=
 ((uD g_0 u_1 v_2).bind fun r2 =>
 (bif (!r2) then
  some (g_0, 1)
 else
  ((aAh g_0.Config.N g_0.Edges u_1 v_2).bind fun ⟨r4, r5⟩ =>
  (bif (r5 != 0) then
   some (g_0, r5)
  else
   ((sT (aG.mk g_0.Config g_0.Hashes r4) u_1 v_2).bind fun r7 =>
   some (r7, 0))))))
theorem aO4 {g_0 : aG} {u_1 : Int} {v_2 : Int} {r : aG × Int} (hm : sS g_0 u_1 v_2 = some r) : aZ Tryz.prog 85 [.agg [vi g_0.Config.N, vi g_0.Config.L, vi g_0.Config.R, vl bI g_0.Hashes, vl aT g_0.Edges], vi u_1, vi v_2] (.tup [.agg [vi r.1.Config.N, vi r.1.Config.L, vi r.1.Config.R, vl bI r.1.Hashes, vl aT r.1.Edges], vi r.2]) := by
 refine bd 37 Tryz.func85 ?_
 obtain ⟨r2, h1, hm⟩ := bnd hm
 refine W ?_
 refine cq (aJh h1) ?_
 refine W ?_
 refine cm hm (fun hm => ?_) fun hm => ?_
 · exact E
 refine W ?_
 obtain ⟨⟨r4, r5⟩, h3, hm⟩ := bnd hm
 refine cq (aWn h3) ?_
 refine W ?_
 refine cm hm (fun hm => ?_) fun hm => ?_
 · exact E
 obtain ⟨r7, h6, hm⟩ := bnd hm
 refine W ?_
 refine cq (aEw h6) ?_
 exact E
def tA (g_0 : aG) (u_1 : Int) (v_2 : Int) : Option (aG × Int) :=
 ((uD g_0 u_1 v_2).bind fun r2 =>
 (bif (!r2) then
  some (g_0, 1)
 else
  ((tH g_0.Config.N g_0.Edges u_1 v_2).bind fun ⟨r4, r5⟩ =>
  (bif (r5 != 0) then
   some (g_0, r5)
  else
   ((sT (aG.mk g_0.Config g_0.Hashes r4) u_1 v_2).bind fun r7 =>
   some (r7, 0))))))
theorem aO8 {g_0 : aG} {u_1 : Int} {v_2 : Int} {r : aG × Int} (hm : tA g_0 u_1 v_2 = some r) : aZ Tryz.prog 86 [.agg [vi g_0.Config.N, vi g_0.Config.L, vi g_0.Config.R, vl bI g_0.Hashes, vl aT g_0.Edges], vi u_1, vi v_2] (.tup [.agg [vi r.1.Config.N, vi r.1.Config.L, vi r.1.Config.R, vl bI r.1.Hashes, vl aT r.1.Edges], vi r.2]) := by
 refine bd 37 Tryz.func86 ?_
 obtain ⟨r2, h1, hm⟩ := bnd hm
 refine W ?_
 refine cq (aJh h1) ?_
 refine W ?_
 refine cm hm (fun hm => ?_) fun hm => ?_
 · exact E
 refine W ?_
 obtain ⟨⟨r4, r5⟩, h3, hm⟩ := bnd hm
 refine cq (aOt h3) ?_
 refine W ?_
 refine cm hm (fun hm => ?_) fun hm => ?_
 · exact E
 obtain ⟨r7, h6, hm⟩ := bnd hm
 refine W ?_
 refine cq (aEw h6) ?_
 exact E
end Go.Proofs.YtkdohhmacfoolaaGreat
