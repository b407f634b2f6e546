/- The statement, from the law's plain function. No condition. -/
import Derived.Test.YtkdohhmacfoolaaGreatNaIxN
import Derived.Test.YtkdohhmacfoolaaGreatNaAmE
import Derived.Test.YtkdohhmacfoolaaGreatNaAmH
import Derived.Test.YtkdohhmacfoolaaGreatRows
set_option linter.unusedVariables false
set_option linter.unusedSimpArgs false
set_option maxRecDepth 20000
namespace Go.Proofs.YtkdohhmacfoolaaGreat.indexMust
open Go Go.AM Go.ChangeShapes Go.WideShapes Go.ChangeAt Go.RowKit
theorem co43 : Tryz.prog.cellsOf 43 = 1 := by kernel_rfl
theorem own : ownKnob Tryz.prog.godebug = none := by kernel_rfl
theorem laid : laidOutB Tryz.prog = true := by kernel_rfl
theorem walk (a0 : Int) (a1 : Bool) (a2 : ByteArray) (a3 : List Int) (w0 : (Lit.int .i64 a0).wf = true) (w1 : True) (w2 : a2.size ≤ maxLen) (w3 : (∀ y, y ∈ a3 → (Lit.int .u64 y).wf = true) ∧ a3.length ≤ maxLen) (w : World) (v0 : Value) (v1 : Value) (v2 : Value) (v3 : Value) (o0 : RV w Xno Onone v0 (.v (.int .i64 a0))) (o1 : RV w Xno Onone v1 (.v (.bool a1))) (o2 : RV w Xno Onone v2 (.v (.string a2))) (o3 : RV w Xno Onone v3 (.sl (a3.flatMap (ci .u64)) a3.length false)) :
    Calls Tryz.prog 11 #[v0, v1, v2, v3] w fun e w' => e = .returned (.bool true) ∧ Below w.heap.size w w' := by
  refine (IndexMust_c (IndexMust_w a0 a1 a2 a3 w0 w1 w2 w3) w Xno #[v0, v1, v2, v3] (fun _ _ h => h.elim) ⟨rfl, fun k a h => ?_⟩).mono fun e w' he => ?_
  · match k, h with
    | 0, h => cases h; exact o0
    | 1, h => cases h; exact o1
    | 2, h => cases h; exact o2
    | 3, h => cases h; exact o3
    | k + 4, h => cases h
  · obtain ⟨v, rfl, hv, hb⟩ := he
    rw [hv.v_inv]
    exact ⟨rfl, hb⟩
set_option maxRecDepth 100000 in
theorem lifted (os : Os) (started : os.Started) (H : Type) (enc : TypeId × Value → H) :
    ReturnsInHanded {} Tryz.checked os 11 .any (Rows.indexMustSpec.pre6 enc Tryz.prog Tryz.f11 Rows.indexMustRow.domain false) (Rows.indexMustSpec.post enc Tryz.prog Tryz.f11 false true false false) := by
  refine returnsInHanded_of_change (C := Tryz.checked) own started (by kernel_rfl) Tryz.func11
    (ChangeSpec.witness6 (enc := enc) (C := Tryz.checked) false ⟨#[], #[.int .i64 0, .bool false, .string ByteArray.empty, .slice none 0 0], []⟩ 8 (by kernel_rfl) (by kernel_rfl) (by kernel_rfl) (by kernel_rfl)) ?_
  intro W base args ds gs before hval0 hW hcnd _
  have hval : ∀ (j : Nat) t v, Tryz.f11.params[j]? = some t → args[j]? = some v → Value.okWide Tryz.prog W .any base t v := hval0
  have hW' := hW
  obtain ⟨p, q, hA0, hV, rfl, hfz, hnd⟩ := hW
  have hA : DataW.TrodAll enc Tryz.prog W 0 (fun _ => true) true Tryz.f11.params.toList args.toList ds p := hA0
  rw [Tryz.params11] at hA hval
  have hlt := hA.lt
  obtain ⟨v0, vs0, d0, ds0, p0, q0, hargs, rfl, rfl, h0, r0⟩ := trodAll_cons hA
  obtain ⟨v1, vs1, d1, ds1, p1, q1, rfl, rfl, rfl, h1, r1⟩ := trodAll_cons r0
  obtain ⟨v2, vs2, d2, ds2, p2, q2, rfl, rfl, rfl, h2, r2⟩ := trodAll_cons r1
  obtain ⟨v3, vs3, d3, ds3, p3, q3, rfl, rfl, rfl, h3, r3⟩ := trodAll_cons r2
  obtain ⟨rfl, rfl, rfl⟩ := trodAll_nil r3
  obtain rfl : args = #[v0, v1, v2, v3] := by cases args; simp_all
  obtain ⟨rfl, rfl⟩ := trodVars_none hV
  obtain ⟨a0, w0, o0⟩ := top1 Tryz.underlying3 rfl (hval 0 3 v0 rfl rfl) h0 (opn_int Tryz.underlying3)
  replace o0 := o0 _ rfl
  obtain ⟨a1, w1, o1⟩ := top1 Tryz.underlying4 rfl (hval 1 4 v1 rfl rfl) h1 (opn_bool Tryz.underlying4)
  replace o1 := o1 _ rfl
  obtain ⟨a2, w2, o2⟩ := top1 Tryz.underlying9 rfl (hval 2 9 v2 rfl rfl) h2 (opn_str Tryz.underlying9)
  replace o2 := o2 _ rfl
  obtain ⟨a3, w3, o3⟩ := top1 Tryz.underlying24 rfl (hval 3 24 v3 rfl rfl) h3 (opn_slice (CFi .u64) (by decide) Tryz.underlying24 co43 (opn_int Tryz.underlying43))
  replace o3 := o3 _ rfl
  refine (walk a0 a1 a2 a3 w0 w1 w2 w3 W v0 v1 v2 v3 o0 o1 o2 o3).mono fun e W' ⟨he, bel⟩ => ?_
  subst he
  exact ⟨_, rfl, _, _, _, [], _, [], hW', trodAll_mk1 (shut_bool Tryz.underlying4 _), (trodAll_cons_mk (Below.trod laid (by kernel_rfl) (of_decide_eq_true (by kernel_rfl)) h0 bel (fun x hx => hlt x (by simp [hx]))) (trodAll_cons_mk (Below.trod laid (by kernel_rfl) (of_decide_eq_true (by kernel_rfl)) h1 bel (fun x hx => hlt x (by simp [hx]))) (trodAll_cons_mk (Below.trod laid (by kernel_rfl) (of_decide_eq_true (by kernel_rfl)) h2 bel (fun x hx => hlt x (by simp [hx]))) (trodAll_cons_mk (Below.trod laid (by kernel_rfl) (of_decide_eq_true (by kernel_rfl)) h3 bel (fun x hx => hlt x (by simp [hx]))) trodAll_mk0)))), rfl, bel.frame _, fun h => by cases h⟩
def wsum : List Char := [Char.ofNat 56, Char.ofNat 102, Char.ofNat 102, Char.ofNat 54, Char.ofNat 51, Char.ofNat 49, Char.ofNat 54, Char.ofNat 102, Char.ofNat 48, Char.ofNat 100, Char.ofNat 97, Char.ofNat 54, Char.ofNat 98, Char.ofNat 52, Char.ofNat 98, Char.ofNat 51, Char.ofNat 54, Char.ofNat 53, Char.ofNat 98, Char.ofNat 54, Char.ofNat 56, Char.ofNat 54, Char.ofNat 51, Char.ofNat 97, Char.ofNat 98, Char.ofNat 99, Char.ofNat 97, Char.ofNat 50, Char.ofNat 97, Char.ofNat 99, Char.ofNat 52, Char.ofNat 56, Char.ofNat 100, Char.ofNat 102, Char.ofNat 51, Char.ofNat 57, Char.ofNat 54, Char.ofNat 48, Char.ofNat 53, Char.ofNat 52, Char.ofNat 55, Char.ofNat 97, Char.ofNat 49, Char.ofNat 53, Char.ofNat 99, Char.ofNat 51, Char.ofNat 54, Char.ofNat 97, Char.ofNat 57, Char.ofNat 54, Char.ofNat 101, Char.ofNat 57, Char.ofNat 99, Char.ofNat 54, Char.ofNat 57, Char.ofNat 48, Char.ofNat 100, Char.ofNat 55, Char.ofNat 51, Char.ofNat 101, Char.ofNat 51, Char.ofNat 52, Char.ofNat 53, Char.ofNat 51]
def wrest : List Char := [Char.ofNat 97, Char.ofNat 116, Char.ofNat 32, Char.ofNat 114, Char.ofNat 97, Char.ofNat 102, Char.ofNat 116, Char.ofNat 115, Char.ofNat 109, Char.ofNat 97, Char.ofNat 110, Char.ofNat 47, Char.ofNat 114, Char.ofNat 97, Char.ofNat 102, Char.ofNat 116, Char.ofNat 115, Char.ofNat 109, Char.ofNat 97, Char.ofNat 110, Char.ofNat 108, Char.ofNat 97, Char.ofNat 119, Char.ofNat 50, Char.ofNat 49, Char.ofNat 46, Char.ofNat 73, Char.ofNat 110, Char.ofNat 100, Char.ofNat 101, Char.ofNat 120, Char.ofNat 84, Char.ofNat 101, Char.ofNat 108, Char.ofNat 108, Char.ofNat 115, Char.ofNat 32, Char.ofNat 114, Char.ofNat 97, Char.ofNat 102, Char.ofNat 116, Char.ofNat 115, Char.ofNat 109, Char.ofNat 97, Char.ofNat 110, Char.ofNat 47, Char.ofNat 114, Char.ofNat 97, Char.ofNat 102, Char.ofNat 116, Char.ofNat 115, Char.ofNat 109, Char.ofNat 97, Char.ofNat 110, Char.ofNat 108, Char.ofNat 97, Char.ofNat 119, Char.ofNat 50, Char.ofNat 49, Char.ofNat 46, Char.ofNat 73, Char.ofNat 110, Char.ofNat 100, Char.ofNat 101, Char.ofNat 120, Char.ofNat 78, Char.ofNat 101, Char.ofNat 119, Char.ofNat 32, Char.ofNat 114, Char.ofNat 97, Char.ofNat 102, Char.ofNat 116, Char.ofNat 115, Char.ofNat 109, Char.ofNat 97, Char.ofNat 110, Char.ofNat 47, Char.ofNat 114, Char.ofNat 97, Char.ofNat 102, Char.ofNat 116, Char.ofNat 115, Char.ofNat 109, Char.ofNat 97, Char.ofNat 110, Char.ofNat 108, Char.ofNat 97, Char.ofNat 119, Char.ofNat 50, Char.ofNat 49, Char.ofNat 46, Char.ofNat 73, Char.ofNat 110, Char.ofNat 100, Char.ofNat 101, Char.ofNat 120, Char.ofNat 79, Char.ofNat 110, Char.ofNat 101, Char.ofNat 32, Char.ofNat 114, Char.ofNat 97, Char.ofNat 102, Char.ofNat 116, Char.ofNat 115, Char.ofNat 109, Char.ofNat 97, Char.ofNat 110, Char.ofNat 47, Char.ofNat 114, Char.ofNat 97, Char.ofNat 102, Char.ofNat 116, Char.ofNat 115, Char.ofNat 109, Char.ofNat 97, Char.ofNat 110, Char.ofNat 108, Char.ofNat 97, Char.ofNat 119, Char.ofNat 50, Char.ofNat 49, Char.ofNat 46, Char.ofNat 73, Char.ofNat 110, Char.ofNat 100, Char.ofNat 101, Char.ofNat 120, Char.ofNat 83, Char.ofNat 97, Char.ofNat 118, Char.ofNat 101, Char.ofNat 100, Char.ofNat 32, Char.ofNat 114, Char.ofNat 97, Char.ofNat 102, Char.ofNat 116, Char.ofNat 115, Char.ofNat 109, Char.ofNat 97, Char.ofNat 110, Char.ofNat 47, Char.ofNat 114, Char.ofNat 97, Char.ofNat 102, Char.ofNat 116, Char.ofNat 115, Char.ofNat 109, Char.ofNat 97, Char.ofNat 110, Char.ofNat 108, Char.ofNat 97, Char.ofNat 119, Char.ofNat 50, Char.ofNat 49, Char.ofNat 46, Char.ofNat 73, Char.ofNat 110, Char.ofNat 100, Char.ofNat 101, Char.ofNat 120, Char.ofNat 76, Char.ofNat 101, Char.ofNat 97, Char.ofNat 118, Char.ofNat 101, Char.ofNat 115, Char.ofNat 32, Char.ofNat 114, Char.ofNat 97, Char.ofNat 102, Char.ofNat 116, Char.ofNat 115, Char.ofNat 109, Char.ofNat 97, Char.ofNat 110, Char.ofNat 47, Char.ofNat 114, Char.ofNat 97, Char.ofNat 102, Char.ofNat 116, Char.ofNat 115, Char.ofNat 109, Char.ofNat 97, Char.ofNat 110, Char.ofNat 108, Char.ofNat 97, Char.ofNat 119, Char.ofNat 50, Char.ofNat 49, Char.ofNat 46, Char.ofNat 73, Char.ofNat 110, Char.ofNat 100, Char.ofNat 101, Char.ofNat 120, Char.ofNat 78, Char.ofNat 101, Char.ofNat 97, Char.ofNat 114, Char.ofNat 32, Char.ofNat 114, Char.ofNat 97, Char.ofNat 102, Char.ofNat 116, Char.ofNat 115, Char.ofNat 109, Char.ofNat 97, Char.ofNat 110, Char.ofNat 47, Char.ofNat 114, Char.ofNat 97, Char.ofNat 102, Char.ofNat 116, Char.ofNat 115, Char.ofNat 109, Char.ofNat 97, Char.ofNat 110, Char.ofNat 108, Char.ofNat 97, Char.ofNat 119, Char.ofNat 50, Char.ofNat 49, Char.ofNat 46, Char.ofNat 73, Char.ofNat 110, Char.ofNat 100, Char.ofNat 101, Char.ofNat 120, Char.ofNat 67, Char.ofNat 108, Char.ofNat 97, Char.ofNat 115, Char.ofNat 115, Char.ofNat 101, Char.ofNat 115, Char.ofNat 32, Char.ofNat 114, Char.ofNat 97, Char.ofNat 102, Char.ofNat 116, Char.ofNat 115, Char.ofNat 109, Char.ofNat 97, Char.ofNat 110, Char.ofNat 47, Char.ofNat 114, Char.ofNat 97, Char.ofNat 102, Char.ofNat 116, Char.ofNat 115, Char.ofNat 109, Char.ofNat 97, Char.ofNat 110, Char.ofNat 108, Char.ofNat 97, Char.ofNat 119, Char.ofNat 50, Char.ofNat 49, Char.ofNat 46, Char.ofNat 73, Char.ofNat 110, Char.ofNat 100, Char.ofNat 101, Char.ofNat 120, Char.ofNat 65, Char.ofNat 117, Char.ofNat 100, Char.ofNat 105, Char.ofNat 116, Char.ofNat 32, Char.ofNat 114, Char.ofNat 97, Char.ofNat 102, Char.ofNat 116, Char.ofNat 115, Char.ofNat 109, Char.ofNat 97, Char.ofNat 110, Char.ofNat 47, Char.ofNat 114, Char.ofNat 97, Char.ofNat 102, Char.ofNat 116, Char.ofNat 115, Char.ofNat 109, Char.ofNat 97, Char.ofNat 110, Char.ofNat 108, Char.ofNat 97, Char.ofNat 119, Char.ofNat 50, Char.ofNat 49, Char.ofNat 46, Char.ofNat 73, Char.ofNat 110, Char.ofNat 100, Char.ofNat 101, Char.ofNat 120, Char.ofNat 77, Char.ofNat 117, Char.ofNat 115, Char.ofNat 116]
theorem init_eq : Tryz.pinned.checked.prog.initOrder = String.ofList ("harness".toList ++ Char.ofNat 32 :: (wsum ++ Char.ofNat 32 :: (cutSigns ++ Char.ofNat 32 :: wrest))) := by kernel_rfl
theorem bmw : behindMainWord (wordsSigns Tryz.pinned.checked.prog.initOrder.toList) = cutSigns :: wordsSigns wrest := by
  rw [init_eq, String.toList_ofList]
  exact bmw_of (by decide +kernel) (by decide +kernel)
theorem mayE : Tryz.pinned.checked.prog.mayEnter = true := mayEnter_of bmw (by kernel_rfl) (by kernel_rfl) (by kernel_rfl)
theorem lif : (Rows.indexMustRow.lifted == Tryz.pinned.checked.prog.liftsFinal) = true := by rw [liftsFinal_of bmw]; kernel_rfl
theorem mkk : (Tryz.pinned.checked.prog.make == some Rows.indexMustRow.make) = true := by rw [make_of bmw]; kernel_rfl
theorem closed : joinedFacts Tryz.pinned.checked.prog 11 Tryz.f11 Rows.indexMustSpec Rows.indexMustRow = true := by
  unfold joinedFacts
  rw [mayE, lif, mkk]
  kernel_rfl
theorem over : Rows.indexMustRow.holds Tryz.pinned (OpenSpec.ofChange Rows.indexMustSpec) :=
  OpenClaim.holds_of_wide 11 Tryz.f11 rfl rfl rfl rfl rfl rfl rfl ⟨rfl, rfl, rfl, rfl, rfl⟩ rfl rfl rfl rfl rfl (by kernel_rfl) Tryz.func11 closed
    (of_decide_eq_true (by kernel_rfl)) (by unfold Func.isWrapper; first | (rw [if_pos (by decide +kernel)]; kernel_rfl) | (rw [if_neg (by decide +kernel)]; exact ⟨rfl, rfl⟩))
    (fun os started H enc _ => lifted os started H enc)
theorem proved : Rows.IndexMustSaid := over
#print axioms proved
end Go.Proofs.YtkdohhmacfoolaaGreat.indexMust
