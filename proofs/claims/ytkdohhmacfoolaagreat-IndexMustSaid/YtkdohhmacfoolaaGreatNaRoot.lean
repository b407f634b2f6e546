/- Facts that the statement's proof is made of. No condition. -/
import Derived.Test.YtkdohhmacfoolaaGreatNaAmG
import Derived.Test.YtkdohhmacfoolaaGreatNaFacts
set_option linter.unusedVariables false
set_option linter.unusedSimpArgs false
set_option maxRecDepth 20000
set_option maxHeartbeats 4000000
namespace Go.Proofs.YtkdohhmacfoolaaGreat
open Go Go.AM
theorem ld3Root (H : Heap) (x : AV) (xs : List AV) : aload Tryz.prog H 3 (.ptr (x :: xs)) = some x := by kernel_rfl
attribute [go_sem] ld3Root
def partRoot_B1 (rec1 : List Int → Int → Option (Int × List Int)) (p_0 : List Int) (v_1 : Int) : Option (Int × List Int) :=
 ((idx p_0 v_1).bind fun x2 =>
 (bif (x2 != v_1) then
  ((idx p_0 v_1).bind fun x4 =>
  ((idx p_0 x4).bind fun x6 =>
  ((idx p_0 v_1).bind fun x8 =>
  ((stt p_0 v_1 x6).bind fun l10 =>
  ((idx l10 v_1).bind fun x12 =>
  rec1 l10 x12)))))
 else
  some (v_1, p_0)))
def partRoot_L1 : Nat → List Int → Int → Option (Int × List Int)
 | 0 => fun _ _ => none
 | n + 1 => partRoot_B1 (partRoot_L1 n)
def partRoot_m (p_0 : List Int) (v_1 : Int) : Option (Int × List Int) :=
 partRoot_L1 FUEL p_0 v_1
theorem partRoot_c {p_0 : List Int} {v_1 : Int} {r : Int × List Int} (hm : partRoot_m p_0 v_1 = some r) {H : Heap} {i0 : Nat} (he : H.ent i0 = .cells 1 (p_0.flatMap (ci .i64)) 0) : ACall Tryz.prog 132 [.own i0 0 p_0.length, .v (.int .i64 v_1)] H (.v (.int .i64 r.1)) (H.put i0 (.cells 1 (r.2.flatMap (ci .i64)) 0)) := by
 refine ACall.of_bodyM Tryz.func132 rfl he ?_
 generalize H.ent = h0
 simp only [Tryz.ntmps132, List.length_cons, List.length_nil, Nat.reduceAdd, Nat.reduceSub]
 unfold partRoot_m at hm
 refine sr (N' := 64) rfl ?_
 refine pA ?_
 refine fs ?_
 refine AWp.seq' ?_
 refine AWp.block ?_
 refine AWp.loopM (fun m s => ∃ (p_0 : List Int) (v_1 : Int), s = (⟨26, (fset (fset (fun _ => AV.any) 0 (.own i0 0 p_0.length)) 1 (.v (.int .i64 v_1))), ⟨(upd h0 i0 (.cells 1 (p_0.flatMap (ci .i64)) 0)), 64⟩⟩ : St) ∧ partRoot_L1 m p_0 v_1 = some r) FUEL ?_ ?_ ?_
 ·
  rintro s ⟨_, _, _, h⟩
  cases h
 ·
  refine ⟨_, ?_, p_0, v_1, rfl, hm⟩
  exact le_mut (mu_fset 1 _ Z1 (mu_fset 0 _ (mu_own Z1 Z6) mu_none)) (by simp only [upd_upd]; try rfl)
 ·
  rintro n1 s ⟨p_0, v_1, rfl, hm⟩
  replace hm : partRoot_B1 (partRoot_L1 n1) p_0 v_1 = some r := hm
  unfold partRoot_B1 at hm
  refine AWp.seq' ?_
  refine sr (N' := 128) rfl ?_
  iterate 2 refine pA ?_
  obtain ⟨x2, h1, hm⟩ := bnd hm
  refine pu rfl (ap_idxo Tryz.underlying112 sz3 Z1 (by simp only [upd_beq, beq_self_eq_true, Nat.reduceBEq, cond_true, cond_false]; try rfl) Z6 Z1 h1) ?_
  refine pu rfl (ap_ldo (CFi .i64) Z1 (by simp only [upd_beq, beq_self_eq_true, Nat.reduceBEq, cond_true, cond_false]; try rfl) h1 (fun _ => by simp only [go_sem, Nat.reduceBEq]; try with_reducible rfl)) ?_
  iterate 2 refine pA ?_
  refine fs ?_
  refine AWp.condM hm Z1 (fun _ hm => ?_) (fun _ hm => ?_)
  ·
   refine AWp.skip ?_
   refine normSeq ?_
   refine AWp.block ?_
   refine sr (N' := 192) rfl ?_
   iterate 5 refine pA ?_
   obtain ⟨x4, h3, hm⟩ := bnd hm
   refine pu rfl (ap_idxo Tryz.underlying112 sz3 Z1 (by simp only [upd_beq, beq_self_eq_true, Nat.reduceBEq, cond_true, cond_false]; try rfl) Z6 Z1 h3) ?_
   refine pu rfl (ap_ldo (CFi .i64) Z1 (by simp only [upd_beq, beq_self_eq_true, Nat.reduceBEq, cond_true, cond_false]; try rfl) h3 (fun _ => by simp only [go_sem, Nat.reduceBEq]; try with_reducible rfl)) ?_
   obtain ⟨x6, h5, hm⟩ := bnd hm
   refine pu rfl (ap_idxo Tryz.underlying112 sz3 Z1 (by simp only [upd_beq, beq_self_eq_true, Nat.reduceBEq, cond_true, cond_false]; try rfl) Z6 Z1 h5) ?_
   refine pu rfl (ap_ldo (CFi .i64) Z1 (by simp only [upd_beq, beq_self_eq_true, Nat.reduceBEq, cond_true, cond_false]; try rfl) h5 (fun _ => by simp only [go_sem, Nat.reduceBEq]; try with_reducible rfl)) ?_
   obtain ⟨x8, h7, hm⟩ := bnd hm
   refine pu rfl (ap_idxo Tryz.underlying112 sz3 Z1 (by simp only [upd_beq, beq_self_eq_true, Nat.reduceBEq, cond_true, cond_false]; try rfl) Z6 Z1 h7) ?_
   obtain ⟨l10, h9, hm⟩ := bnd hm
   have qh9 := stt_len h9
   refine ARun.heap0 (id := 138) rfl (ah_stt (CFi .i64) sz3 Z1 Z1 (by simp only [upd_beq, beq_self_eq_true, Nat.reduceBEq, cond_true, cond_false]; try rfl) rfl h9) ?_
   refine fs ?_
   refine AWp.reg 64 (N' := 256) rfl ?_
   iterate 2 refine pA ?_
   obtain ⟨x12, h11, hm⟩ := bnd hm
   refine pu rfl (ap_idxo Tryz.underlying112 sz3 Z1 (by simp only [upd_beq, beq_self_eq_true, Nat.reduceBEq, cond_true, cond_false]; try rfl) Z6 Z1 h11) ?_
   refine pu rfl (ap_ldo (CFi .i64) Z1 (by simp only [upd_beq, beq_self_eq_true, Nat.reduceBEq, cond_true, cond_false]; try rfl) h11 (fun _ => by simp only [go_sem, Nat.reduceBEq]; try with_reducible rfl)) ?_
   refine pA ?_
   refine ARun.fin ?_
   refine normIn ?_
   refine normThen ?_
   refine ⟨_, ?_, l10, x12, rfl, hm⟩
   exact le_mut (mu_fset 1 _ Z1 (mu_fset 0 _ (mu_own Z1 Z6) mu_none)) (by simp only [upd_upd]; try rfl)
  ·
   refine AWp.exit ?_
   refine exitSeq ?_
   refine exitThen ?_
   refine exitHere ?_
   refine normSeq ?_
   refine sr (N' := 192) rfl ?_
   iterate 2 refine pA ?_
   refine fs ?_
   refine AWp.ret ?_
   cases hm
   exact retM1 (.inr rfl) Tryz.results132 Z1 (by simp only [upd_upd]; try rfl)
end Go.Proofs.YtkdohhmacfoolaaGreat
