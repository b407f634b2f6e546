/- Facts that the statement's proof is made of. No condition. -/
import Derived.Test.YtkdohhmacfoolaaGreatNbAmG
import Derived.Test.YtkdohhmacfoolaaGreatNbFacts
set_option linter.unusedVariables false
set_option linter.unusedSimpArgs false
set_option maxRecDepth 20000
set_option maxHeartbeats 4000000
namespace Go.Proofs.YtkdohhmacfoolaaGreat
open Go Go.AM
theorem aVv (H : aP) (x : AV) (xs : List AV) : cF Tryz.prog H 3 (.ptr (x :: xs)) = some x := by kernel_rfl
attribute [go_sem] aVv
def pE (rec1 : List Int → Int → Option (Int × List Int)) (p_0 : List Int) (v_1 : Int) : Option (Int × List Int) :=
 ((idx p_0 v_1).bind fun x2 =>
 (bif (x2 != v_1) then
  ((idx p_0 v_1).bind fun x4 =>
  ((idx p_0 x4).bind fun x6 =>
  ((idx p_0 v_1).bind fun x8 =>
  ((stt p_0 v_1 x6).bind fun l10 =>
  ((idx l10 v_1).bind fun x12 =>
  rec1 l10 x12)))))
 else
  some (v_1, p_0)))
def mN : Nat → List Int → Int → Option (Int × List Int)
 | 0 => fun _ _ => none
 | n + 1 => pE (mN n)
def vK (p_0 : List Int) (v_1 : Int) : Option (Int × List Int) :=
 mN bY p_0 v_1
theorem aOr {p_0 : List Int} {v_1 : Int} {r : Int × List Int} (hm : vK p_0 v_1 = some r) {H : aP} {i0 : Nat} (he : H.ent i0 = .cells 1 (p_0.flatMap (ci .i64)) 0) : dR Tryz.prog 132 [.own i0 0 p_0.length, .v (.int .i64 v_1)] H (.v (.int .i64 r.1)) (H.put i0 (.cells 1 (r.2.flatMap (ci .i64)) 0)) := by
 refine dR.of_bodyM Tryz.func132 rfl he ?_
 generalize H.ent = h0
 simp only [Tryz.ntmps132, List.length_cons, List.length_nil, Nat.reduceAdd, Nat.reduceSub]
 unfold vK at hm
 refine sr (N' := 64) rfl ?_
 refine pA ?_
 refine fs ?_
 refine AWp.seq' ?_
 refine AWp.block ?_
 refine AWp.loopM (fun m s => ∃ (p_0 : List Int) (v_1 : Int), s = (⟨26, (aK (aK (fun _ => AV.any) 0 (.own i0 0 p_0.length)) 1 (.v (.int .i64 v_1))), ⟨(upd h0 i0 (.cells 1 (p_0.flatMap (ci .i64)) 0)), 64⟩⟩ : St) ∧ mN m p_0 v_1 = some r) bY ?_ ?_ ?_
 ·
  rintro s ⟨_, _, _, h⟩
  cases h
 ·
  refine ⟨_, ?_, p_0, v_1, rfl, hm⟩
  exact pW (cK 1 _ Z1 (cK 0 _ (pY Z1 Z6) lX)) (by simp only [gD]; try rfl)
 ·
  rintro n1 s ⟨p_0, v_1, rfl, hm⟩
  replace hm : pE (mN n1) p_0 v_1 = some r := hm
  unfold pE at hm
  refine AWp.seq' ?_
  refine sr (N' := 128) rfl ?_
  iterate 2 refine pA ?_
  obtain ⟨x2, h1, hm⟩ := bnd hm
  refine pu rfl (dD Tryz.underlying112 sz3 Z1 (by simp only [bP, beq_self_eq_true, Nat.reduceBEq, cond_true, cond_false]; try rfl) Z6 Z1 h1) ?_
  refine pu rfl (jR (CFi .i64) Z1 (by simp only [bP, beq_self_eq_true, Nat.reduceBEq, cond_true, cond_false]; try rfl) h1 (fun _ => by simp only [go_sem, Nat.reduceBEq]; try with_reducible rfl)) ?_
  iterate 2 refine pA ?_
  refine fs ?_
  refine AWp.condM hm Z1 (fun _ hm => ?_) (fun _ hm => ?_)
  ·
   refine AWp.skip ?_
   refine aF ?_
   refine AWp.block ?_
   refine sr (N' := 192) rfl ?_
   iterate 5 refine pA ?_
   obtain ⟨x4, h3, hm⟩ := bnd hm
   refine pu rfl (dD Tryz.underlying112 sz3 Z1 (by simp only [bP, beq_self_eq_true, Nat.reduceBEq, cond_true, cond_false]; try rfl) Z6 Z1 h3) ?_
   refine pu rfl (jR (CFi .i64) Z1 (by simp only [bP, beq_self_eq_true, Nat.reduceBEq, cond_true, cond_false]; try rfl) h3 (fun _ => by simp only [go_sem, Nat.reduceBEq]; try with_reducible rfl)) ?_
   obtain ⟨x6, h5, hm⟩ := bnd hm
   refine pu rfl (dD Tryz.underlying112 sz3 Z1 (by simp only [bP, beq_self_eq_true, Nat.reduceBEq, cond_true, cond_false]; try rfl) Z6 Z1 h5) ?_
   refine pu rfl (jR (CFi .i64) Z1 (by simp only [bP, beq_self_eq_true, Nat.reduceBEq, cond_true, cond_false]; try rfl) h5 (fun _ => by simp only [go_sem, Nat.reduceBEq]; try with_reducible rfl)) ?_
   obtain ⟨x8, h7, hm⟩ := bnd hm
   refine pu rfl (dD Tryz.underlying112 sz3 Z1 (by simp only [bP, beq_self_eq_true, Nat.reduceBEq, cond_true, cond_false]; try rfl) Z6 Z1 h7) ?_
   obtain ⟨l10, h9, hm⟩ := bnd hm
   have qh9 := iC h9
   refine aE.heap0 (id := 138) rfl (mC (CFi .i64) sz3 Z1 Z1 (by simp only [bP, beq_self_eq_true, Nat.reduceBEq, cond_true, cond_false]; try rfl) rfl h9) ?_
   refine fs ?_
   refine AWp.reg 64 (N' := 256) rfl ?_
   iterate 2 refine pA ?_
   obtain ⟨x12, h11, hm⟩ := bnd hm
   refine pu rfl (dD Tryz.underlying112 sz3 Z1 (by simp only [bP, beq_self_eq_true, Nat.reduceBEq, cond_true, cond_false]; try rfl) Z6 Z1 h11) ?_
   refine pu rfl (jR (CFi .i64) Z1 (by simp only [bP, beq_self_eq_true, Nat.reduceBEq, cond_true, cond_false]; try rfl) h11 (fun _ => by simp only [go_sem, Nat.reduceBEq]; try with_reducible rfl)) ?_
   refine pA ?_
   refine aE.fin ?_
   refine cA ?_
   refine bU ?_
   refine ⟨_, ?_, l10, x12, rfl, hm⟩
   exact pW (cK 1 _ Z1 (cK 0 _ (pY Z1 Z6) lX)) (by simp only [gD]; try rfl)
  ·
   refine AWp.exit ?_
   refine cH ?_
   refine bW ?_
   refine bT ?_
   refine aF ?_
   refine sr (N' := 192) rfl ?_
   iterate 2 refine pA ?_
   refine fs ?_
   refine AWp.ret ?_
   cases hm
   exact bDr (.inr rfl) Tryz.results132 Z1 (by simp only [gD]; try rfl)
end Go.Proofs.YtkdohhmacfoolaaGreat
