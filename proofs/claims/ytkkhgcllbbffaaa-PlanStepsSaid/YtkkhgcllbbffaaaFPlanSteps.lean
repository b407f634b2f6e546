/- 'raftsman/raftsmanlaw18.PlanSteps': the statement, from the law's plain function. -/
import Derived.Test.YtkkhgcllbbffaaaPlanR
import Derived.Test.YtkkhgcllbbffaaaRows
import Derived.Test.YtkkhgcllbbffaaaAmE
set_option linter.unusedVariables false
set_option linter.unusedSimpArgs false
set_option maxRecDepth 20000
namespace Go.Proofs.Ytkkhgcllbbffaaa.planSteps
open Go Go.AM Go.ChangeShapes Go.WideShapes Go.ChangeAt Go.RowKit
theorem own : ownKnob Try.prog.godebug = none := by kernel_rfl
theorem laid : laidOutB Try.prog = true := by kernel_rfl
theorem walk (a0 : Int) (a1 : Int) (a2 : Int) (a3 : Int) (w0 : (Lit.int .u16 a0).wf = true) (w1 : (Lit.int .u16 a1).wf = true) (w2 : (Lit.int .u8 a2).wf = true) (w3 : (Lit.int .u8 a3).wf = true) (w : World) (v0 : Value) (v1 : Value) (v2 : Value) (v3 : Value) (o0 : RV w Xno Onone v0 (.v (.int .u16 a0))) (o1 : RV w Xno Onone v1 (.v (.int .u16 a1))) (o2 : RV w Xno Onone v2 (.v (.int .u8 a2))) (o3 : RV w Xno Onone v3 (.v (.int .u8 a3))) :
    Calls Try.prog 6 #[v0, v1, v2, v3] w fun e w' => e = .returned (.bool true) ∧ Below w.heap.size w w' := by
  refine (PlanSteps_c (PlanSteps_w a0 a1 a2 a3 w0 w1 w2 w3) w Xno #[v0, v1, v2, v3] (fun _ _ h => h.elim) ⟨rfl, fun k a h => ?_⟩).mono fun e w' he => ?_
  · match k, h with
    | 0, h => cases h; exact o0
    | 1, h => cases h; exact o1
    | 2, h => cases h; exact o2
    | 3, h => cases h; exact o3
    | k + 4, h => cases h
  · obtain ⟨v, rfl, hv, hb⟩ := he
    rw [hv.v_inv]
    exact ⟨rfl, hb⟩
set_option maxRecDepth 100000 in
theorem lifted (os : Os) (started : os.Started) (H : Type) (enc : TypeId × Value → H) :
    ReturnsInHanded {} Try.checked os 6 .any (Rows.planStepsSpec.pre6 enc Try.prog Try.f6 Rows.planStepsRow.domain false) (Rows.planStepsSpec.post enc Try.prog Try.f6 false true false false) := by
  refine returnsInHanded_of_change (C := Try.checked) own started (by kernel_rfl) Try.func6
    (ChangeSpec.witness6 (enc := enc) (C := Try.checked) false ⟨#[], #[.int .u16 0, .int .u16 0, .int .u8 0, .int .u8 0], []⟩ 8 (by kernel_rfl) (by kernel_rfl) (by kernel_rfl) (by kernel_rfl)) ?_
  intro W base args ds gs before hval0 hW hcnd _
  have hval : ∀ (j : Nat) t v, Try.f6.params[j]? = some t → args[j]? = some v → Value.okWide Try.prog W .any base t v := hval0
  have hW' := hW
  obtain ⟨p, q, hA0, hV, rfl, hfz, hnd⟩ := hW
  have hA : DataW.TrodAll enc Try.prog W 0 (fun _ => true) true Try.f6.params.toList args.toList ds p := hA0
  rw [Try.params6] at hA hval
  have hlt := hA.lt
  obtain ⟨v0, vs0, d0, ds0, p0, q0, hargs, rfl, rfl, h0, r0⟩ := trodAll_cons hA
  obtain ⟨v1, vs1, d1, ds1, p1, q1, rfl, rfl, rfl, h1, r1⟩ := trodAll_cons r0
  obtain ⟨v2, vs2, d2, ds2, p2, q2, rfl, rfl, rfl, h2, r2⟩ := trodAll_cons r1
  obtain ⟨v3, vs3, d3, ds3, p3, q3, rfl, rfl, rfl, h3, r3⟩ := trodAll_cons r2
  obtain ⟨rfl, rfl, rfl⟩ := trodAll_nil r3
  obtain rfl : args = #[v0, v1, v2, v3] := by cases args; simp_all
  obtain ⟨rfl, rfl⟩ := trodVars_none hV
  obtain ⟨a0, w0, o0⟩ := top1 Try.underlying38 rfl (hval 0 38 v0 rfl rfl) h0 (opn_int Try.underlying38)
  replace o0 := o0 _ rfl
  obtain ⟨a1, w1, o1⟩ := top1 Try.underlying38 rfl (hval 1 38 v1 rfl rfl) h1 (opn_int Try.underlying38)
  replace o1 := o1 _ rfl
  obtain ⟨a2, w2, o2⟩ := top1 Try.underlying5 rfl (hval 2 5 v2 rfl rfl) h2 (opn_int Try.underlying5)
  replace o2 := o2 _ rfl
  obtain ⟨a3, w3, o3⟩ := top1 Try.underlying5 rfl (hval 3 5 v3 rfl rfl) h3 (opn_int Try.underlying5)
  replace o3 := o3 _ rfl
  refine (walk a0 a1 a2 a3 w0 w1 w2 w3 W v0 v1 v2 v3 o0 o1 o2 o3).mono fun e W' ⟨he, bel⟩ => ?_
  subst he
  exact ⟨_, rfl, _, _, _, [], _, [], hW', trodAll_mk1 (shut_bool Try.underlying4 _), (trodAll_cons_mk (Below.trod laid (by kernel_rfl) (of_decide_eq_true (by kernel_rfl)) h0 bel (fun x hx => hlt x (by simp [hx]))) (trodAll_cons_mk (Below.trod laid (by kernel_rfl) (of_decide_eq_true (by kernel_rfl)) h1 bel (fun x hx => hlt x (by simp [hx]))) (trodAll_cons_mk (Below.trod laid (by kernel_rfl) (of_decide_eq_true (by kernel_rfl)) h2 bel (fun x hx => hlt x (by simp [hx]))) (trodAll_cons_mk (Below.trod laid (by kernel_rfl) (of_decide_eq_true (by kernel_rfl)) h3 bel (fun x hx => hlt x (by simp [hx]))) trodAll_mk0)))), rfl, bel.frame _, fun h => by cases h⟩

theorem over : Rows.planStepsRow.holds Try.pinned (OpenSpec.ofChange Rows.planStepsSpec) :=
  OpenClaim.holds_of_wide 6 Try.f6 rfl rfl rfl rfl rfl rfl rfl ⟨rfl, rfl, rfl, rfl, rfl⟩ rfl rfl rfl rfl rfl (by kernel_rfl) Try.func6 (by kernel_rfl)
    (of_decide_eq_true (by kernel_rfl)) (by unfold Func.isWrapper; first | (rw [if_pos (by decide +kernel)]; kernel_rfl) | (rw [if_neg (by decide +kernel)]; exact ⟨rfl, rfl⟩))
    (fun os started H enc _ => lifted os started H enc)

theorem proved : Rows.PlanStepsSaid := over
#print axioms proved
end Go.Proofs.Ytkkhgcllbbffaaa.planSteps
