/- 'raftsman/raftsmanlaw22.LexBack': the statement, from the law's plain function. -/
import Derived.Test.YtoenhcdjahpdhaaLexY
import Derived.Test.YtoenhcdjahpdhaaRows
import Derived.Test.YtoenhcdjahpdhaaAmE
set_option linter.unusedVariables false
set_option linter.unusedSimpArgs false
set_option maxRecDepth 20000
namespace Go.Proofs.Ytoenhcdjahpdhaa.lexBack
open Go Go.AM Go.ChangeShapes Go.WideShapes Go.ChangeAt Go.RowKit
theorem co9 : Try.prog.cellsOf 9 = 1 := by kernel_rfl
theorem co45 : Try.prog.cellsOf 45 = 1 := by kernel_rfl
theorem own : ownKnob Try.prog.godebug = none := by kernel_rfl
theorem laid : laidOutB Try.prog = true := by kernel_rfl
theorem walk (a0 : List (List ByteArray)) (a1 : ByteArray) (w0 : (∀ y, y ∈ a0 → (∀ z, z ∈ y → z.size ≤ maxLen) ∧ y.length ≤ maxLen) ∧ a0.length ≤ maxLen) (w1 : a1.size ≤ maxLen) (w : World) (v0 : Value) (v1 : Value) (o0 : RV w Xno Onone v0 (.sl (a0.flatMap (csl cstr)) a0.length false)) (o1 : RV w Xno Onone v1 (.v (.string a1))) :
    Calls Try.prog 5 #[v0, v1] w fun e w' => e = .returned (.bool true) ∧ Below w.heap.size w w' := by
  refine (LexBack_c (LexBack_w a0 a1 w0 w1) w Xno #[v0, v1] (fun _ _ h => h.elim) ⟨rfl, fun k a h => ?_⟩).mono fun e w' he => ?_
  · match k, h with
    | 0, h => cases h; exact o0
    | 1, h => cases h; exact o1
    | k + 2, h => cases h
  · obtain ⟨v, rfl, hv, hb⟩ := he
    rw [hv.v_inv]
    exact ⟨rfl, hb⟩
set_option maxRecDepth 100000 in
theorem lifted (os : Os) (started : os.Started) (H : Type) (enc : TypeId × Value → H) :
    ReturnsInHanded {} Try.checked os 5 .any (Rows.lexBackSpec.pre6 enc Try.prog Try.f5 Rows.lexBackRow.domain false) (Rows.lexBackSpec.post enc Try.prog Try.f5 false true false false) := by
  refine returnsInHanded_of_change (C := Try.checked) own started (by kernel_rfl) Try.func5
    (ChangeSpec.witness6 (enc := enc) (C := Try.checked) false ⟨#[], #[.slice none 0 0, .string ByteArray.empty], []⟩ 8 (by kernel_rfl) (by kernel_rfl) (by kernel_rfl) (by kernel_rfl)) ?_
  intro W base args ds gs before hval0 hW hcnd _
  have hval : ∀ (j : Nat) t v, Try.f5.params[j]? = some t → args[j]? = some v → Value.okWide Try.prog W .any base t v := hval0
  have hW' := hW
  obtain ⟨p, q, hA0, hV, rfl, hfz, hnd⟩ := hW
  have hA : DataW.TrodAll enc Try.prog W 0 (fun _ => true) true Try.f5.params.toList args.toList ds p := hA0
  rw [Try.params5] at hA hval
  have hlt := hA.lt
  obtain ⟨v0, vs0, d0, ds0, p0, q0, hargs, rfl, rfl, h0, r0⟩ := trodAll_cons hA
  obtain ⟨v1, vs1, d1, ds1, p1, q1, rfl, rfl, rfl, h1, r1⟩ := trodAll_cons r0
  obtain ⟨rfl, rfl, rfl⟩ := trodAll_nil r1
  obtain rfl : args = #[v0, v1] := by cases args; simp_all
  obtain ⟨rfl, rfl⟩ := trodVars_none hV
  obtain ⟨a0, w0, o0⟩ := top1 Try.underlying23 rfl (hval 0 23 v0 rfl rfl) h0 (opn_slice (CFl CFs) (by decide) Try.underlying23 co45 (opn_slice CFs (by decide) Try.underlying45 co9 (opn_str Try.underlying9)))
  replace o0 := o0 _ rfl
  obtain ⟨a1, w1, o1⟩ := top1 Try.underlying9 rfl (hval 1 9 v1 rfl rfl) h1 (opn_str Try.underlying9)
  replace o1 := o1 _ rfl
  refine (walk a0 a1 w0 w1 W v0 v1 o0 o1).mono fun e W' ⟨he, bel⟩ => ?_
  subst he
  exact ⟨_, rfl, _, _, _, [], _, [], hW', trodAll_mk1 (shut_bool Try.underlying4 _), (trodAll_cons_mk (Below.trod laid (by kernel_rfl) (of_decide_eq_true (by kernel_rfl)) h0 bel (fun x hx => hlt x (by simp [hx]))) (trodAll_cons_mk (Below.trod laid (by kernel_rfl) (of_decide_eq_true (by kernel_rfl)) h1 bel (fun x hx => hlt x (by simp [hx]))) trodAll_mk0)), rfl, bel.frame _, fun h => by cases h⟩

theorem over : Rows.lexBackRow.holds Try.pinned (OpenSpec.ofChange Rows.lexBackSpec) :=
  OpenClaim.holds_of_wide 5 Try.f5 rfl rfl rfl rfl rfl rfl rfl ⟨rfl, rfl, rfl, rfl, rfl⟩ rfl rfl rfl rfl rfl (by kernel_rfl) Try.func5 (by kernel_rfl)
    (of_decide_eq_true (by kernel_rfl)) (by unfold Func.isWrapper; first | (rw [if_pos (by decide +kernel)]; kernel_rfl) | (rw [if_neg (by decide +kernel)]; exact ⟨rfl, rfl⟩))
    (fun os started H enc _ => lifted os started H enc)

theorem proved : Rows.LexBackSaid := over
#print axioms proved
end Go.Proofs.Ytoenhcdjahpdhaa.lexBack
