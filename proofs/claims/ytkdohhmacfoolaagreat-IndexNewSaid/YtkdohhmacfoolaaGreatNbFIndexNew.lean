/- The statement, from the law's plain function. No condition. -/
import Derived.Test.YtkdohhmacfoolaaGreatNbIxN
import Derived.Test.YtkdohhmacfoolaaGreatNbAmE
import Derived.Test.YtkdohhmacfoolaaGreatNbAmH
import Derived.Test.YtkdohhmacfoolaaGreatRows
set_option linter.unusedVariables false
set_option linter.unusedSimpArgs false
set_option maxRecDepth 20000
namespace Go.Proofs.YtkdohhmacfoolaaGreat.indexNew
open Go Go.AM Go.ChangeShapes Go.WideShapes Go.ChangeAt Go.RowKit
theorem co3 : Tryz.prog.cellsOf 3 = 1 := by kernel_rfl
theorem bHy : Tryz.prog.cellsOf 23 = 3 := by kernel_rfl
theorem bJl : Tryz.prog.cellsOf 43 = 1 := by kernel_rfl
def aHr (e : aZ) : Prop := ((Lit.int .i64 e.N).wf = true) ∧ ((Lit.int .i64 e.L).wf = true) ∧ ((Lit.int .i64 e.R).wf = true)
theorem aM3 {w : World} : Opn Tryz.prog w 23 xU aHr := by
  intro H enc fuel cs x h
  obtain ⟨_, _, _, _, hcl, _, _⟩ := DataW.trod_struct Tryz.underlying23 h
  obtain ⟨n0, y0, h0⟩ := aA4 Tryz.underlying23 h 0 _ rfl
  obtain ⟨e0, w0, l0, r0⟩ := (aBp Tryz.underlying3) H enc n0 _ _ h0
  obtain ⟨n1, y1, h1⟩ := aA4 Tryz.underlying23 h 1 _ rfl
  obtain ⟨e1, w1, l1, r1⟩ := (aBp Tryz.underlying3) H enc n1 _ _ h1
  obtain ⟨n2, y2, h2⟩ := aA4 Tryz.underlying23 h 2 _ rfl
  obtain ⟨e2, w2, l2, r2⟩ := (aBp Tryz.underlying3) H enc n2 _ _ h2
  refine ⟨⟨e0, e1, e2⟩, ⟨w0, w1, w2⟩, hcl.trans bHy, fun k a hk => ?_⟩
  match k, hk with
  | 0, hk =>
    have this : RV w Xno gL (((cs.drop 0).take (Tryz.prog.cellsOf 3)).getD 0 undef) a := r0 0 a hk
    rw [aCy (show 0 < Tryz.prog.cellsOf 3 by rw [co3]; decide)] at this
    exact this
  | 1, hk =>
    have this : RV w Xno gL (((cs.drop 1).take (Tryz.prog.cellsOf 3)).getD 0 undef) a := r1 0 a hk
    rw [aCy (show 0 < Tryz.prog.cellsOf 3 by rw [co3]; decide)] at this
    exact this
  | 2, hk =>
    have this : RV w Xno gL (((cs.drop 2).take (Tryz.prog.cellsOf 3)).getD 0 undef) a := r2 0 a hk
    rw [aCy (show 0 < Tryz.prog.cellsOf 3 by rw [co3]; decide)] at this
    exact this
  | k + 3, hk => cases hk
theorem own : ownKnob Tryz.prog.godebug = none := by kernel_rfl
theorem laid : laidOutB Tryz.prog = true := by kernel_rfl
theorem walk (a0 : aZ) (a1 : List Int) (a2 : Int) (w0 : aHr a0) (w1 : (∀ y, y ∈ a1 → (Lit.int .u64 y).wf = true) ∧ a1.length ≤ maxLen) (w2 : (Lit.int .i64 a2).wf = true) (w : World) (v0 : Value) (v1 : Value) (v2 : Value) (o0 : RV w Xno gL v0 (.agg (xU a0))) (o1 : RV w Xno gL v1 (.sl (a1.flatMap (ci .u64)) a1.length false)) (o2 : RV w Xno gL v2 (.v (.int .i64 a2))) :
    Calls Tryz.prog 4 #[v0, v1, v2] w fun e w' => e = .returned (.bool true) ∧ Below w.heap.size w w' := by
  refine (aNo (aLr a0 a1 a2 w0 w1 w2) w Xno #[v0, v1, v2] (fun _ _ h => h.elim) ⟨rfl, fun k a h => ?_⟩).mono fun e w' he => ?_
  · match k, h with
    | 0, h => cases h; exact o0
    | 1, h => cases h; exact o1
    | 2, h => cases h; exact o2
    | k + 3, h => cases h
  · obtain ⟨v, rfl, hv, hb⟩ := he
    rw [hv.v_inv]
    exact ⟨rfl, hb⟩
set_option maxRecDepth 100000 in
theorem lifted (os : Os) (started : os.Started) (H : Type) (enc : TypeId × Value → H) :
    ReturnsInHanded {} Tryz.checked os 4 .any (Rows.indexNewSpec.pre6 enc Tryz.prog Tryz.f4 Rows.indexNewRow.domain false) (Rows.indexNewSpec.post enc Tryz.prog Tryz.f4 false true false false) := by
  refine returnsInHanded_of_change (C := Tryz.checked) own started (by kernel_rfl) Tryz.func4
    (ChangeSpec.witness6 (enc := enc) (C := Tryz.checked) false ⟨#[], #[.agg #[.int .i64 0, .int .i64 0, .int .i64 0], .slice none 0 0, .int .i64 0], []⟩ 8 (by kernel_rfl) (by kernel_rfl) (by kernel_rfl) (by kernel_rfl)) ?_
  intro W base args ds gs before hval0 hW hcnd _
  have hval : ∀ (j : Nat) t v, Tryz.f4.params[j]? = some t → args[j]? = some v → Value.okWide Tryz.prog W .any base t v := hval0
  have hW' := hW
  obtain ⟨p, q, hA0, hV, rfl, hfz, hnd⟩ := hW
  have hA : DataW.TrodAll enc Tryz.prog W 0 (fun _ => true) true Tryz.f4.params.toList args.toList ds p := hA0
  rw [Tryz.params4] at hA hval
  have hlt := hA.lt
  obtain ⟨v0, vs0, d0, ds0, p0, q0, hargs, rfl, rfl, h0, r0⟩ := trodAll_cons hA
  obtain ⟨v1, vs1, d1, ds1, p1, q1, rfl, rfl, rfl, h1, r1⟩ := trodAll_cons r0
  obtain ⟨v2, vs2, d2, ds2, p2, q2, rfl, rfl, rfl, h2, r2⟩ := trodAll_cons r1
  obtain ⟨rfl, rfl, rfl⟩ := trodAll_nil r2
  obtain rfl : args = #[v0, v1, v2] := by cases args; simp_all
  obtain ⟨rfl, rfl⟩ := trodVars_none hV
  obtain ⟨a0, w0, o0⟩ := bLh Tryz.underlying23 (hval 0 23 v0 rfl rfl) h0 aM3
  obtain ⟨a1, w1, o1⟩ := bGp Tryz.underlying24 rfl (hval 1 24 v1 rfl rfl) h1 (aQm (CFi .u64) (by decide) Tryz.underlying24 bJl (aBp Tryz.underlying43))
  replace o1 := o1 _ rfl
  obtain ⟨a2, w2, o2⟩ := bGp Tryz.underlying3 rfl (hval 2 3 v2 rfl rfl) h2 (aBp Tryz.underlying3)
  replace o2 := o2 _ rfl
  refine (walk a0 a1 a2 w0 w1 w2 W v0 v1 v2 o0 o1 o2).mono fun e W' ⟨he, bel⟩ => ?_
  subst he
  exact ⟨_, rfl, _, _, _, [], _, [], hW', trodAll_mk1 (shut_bool Tryz.underlying4 _), (trodAll_cons_mk (Below.trod laid (by kernel_rfl) (of_decide_eq_true (by kernel_rfl)) h0 bel (fun x hx => hlt x (by simp [hx]))) (trodAll_cons_mk (Below.trod laid (by kernel_rfl) (of_decide_eq_true (by kernel_rfl)) h1 bel (fun x hx => hlt x (by simp [hx]))) (trodAll_cons_mk (Below.trod laid (by kernel_rfl) (of_decide_eq_true (by kernel_rfl)) h2 bel (fun x hx => hlt x (by simp [hx]))) trodAll_mk0))), rfl, bel.frame _, fun h => by cases h⟩
def bLg : List Char := [Char.ofNat 56, Char.ofNat 102, Char.ofNat 102, Char.ofNat 54, Char.ofNat 51, Char.ofNat 49, Char.ofNat 54, Char.ofNat 102, Char.ofNat 48, Char.ofNat 100, Char.ofNat 97, Char.ofNat 54, Char.ofNat 98, Char.ofNat 52, Char.ofNat 98, Char.ofNat 51, Char.ofNat 54, Char.ofNat 53, Char.ofNat 98, Char.ofNat 54, Char.ofNat 56, Char.ofNat 54, Char.ofNat 51, Char.ofNat 97, Char.ofNat 98, Char.ofNat 99, Char.ofNat 97, Char.ofNat 50, Char.ofNat 97, Char.ofNat 99, Char.ofNat 52, Char.ofNat 56, Char.ofNat 100, Char.ofNat 102, Char.ofNat 51, Char.ofNat 57, Char.ofNat 54, Char.ofNat 48, Char.ofNat 53, Char.ofNat 52, Char.ofNat 55, Char.ofNat 97, Char.ofNat 49, Char.ofNat 53, Char.ofNat 99, Char.ofNat 51, Char.ofNat 54, Char.ofNat 97, Char.ofNat 57, Char.ofNat 54, Char.ofNat 101, Char.ofNat 57, Char.ofNat 99, Char.ofNat 54, Char.ofNat 57, Char.ofNat 48, Char.ofNat 100, Char.ofNat 55, Char.ofNat 51, Char.ofNat 101, Char.ofNat 51, Char.ofNat 52, Char.ofNat 53, Char.ofNat 51]
def aZ3 : List Char := [Char.ofNat 97, Char.ofNat 116, Char.ofNat 32, Char.ofNat 114, Char.ofNat 97, Char.ofNat 102, Char.ofNat 116, Char.ofNat 115, Char.ofNat 109, Char.ofNat 97, Char.ofNat 110, Char.ofNat 47, Char.ofNat 114, Char.ofNat 97, Char.ofNat 102, Char.ofNat 116, Char.ofNat 115, Char.ofNat 109, Char.ofNat 97, Char.ofNat 110, Char.ofNat 108, Char.ofNat 97, Char.ofNat 119, Char.ofNat 50, Char.ofNat 49, Char.ofNat 46, Char.ofNat 73, Char.ofNat 110, Char.ofNat 100, Char.ofNat 101, Char.ofNat 120, Char.ofNat 84, Char.ofNat 101, Char.ofNat 108, Char.ofNat 108, Char.ofNat 115, Char.ofNat 32, Char.ofNat 114, Char.ofNat 97, Char.ofNat 102, Char.ofNat 116, Char.ofNat 115, Char.ofNat 109, Char.ofNat 97, Char.ofNat 110, Char.ofNat 47, Char.ofNat 114, Char.ofNat 97, Char.ofNat 102, Char.ofNat 116, Char.ofNat 115, Char.ofNat 109, Char.ofNat 97, Char.ofNat 110, Char.ofNat 108, Char.ofNat 97, Char.ofNat 119, Char.ofNat 50, Char.ofNat 49, Char.ofNat 46, Char.ofNat 73, Char.ofNat 110, Char.ofNat 100, Char.ofNat 101, Char.ofNat 120, Char.ofNat 78, Char.ofNat 101, Char.ofNat 119, Char.ofNat 32, Char.ofNat 114, Char.ofNat 97, Char.ofNat 102, Char.ofNat 116, Char.ofNat 115, Char.ofNat 109, Char.ofNat 97, Char.ofNat 110, Char.ofNat 47, Char.ofNat 114, Char.ofNat 97, Char.ofNat 102, Char.ofNat 116, Char.ofNat 115, Char.ofNat 109, Char.ofNat 97, Char.ofNat 110, Char.ofNat 108, Char.ofNat 97, Char.ofNat 119, Char.ofNat 50, Char.ofNat 49, Char.ofNat 46, Char.ofNat 73, Char.ofNat 110, Char.ofNat 100, Char.ofNat 101, Char.ofNat 120, Char.ofNat 79, Char.ofNat 110, Char.ofNat 101, Char.ofNat 32, Char.ofNat 114, Char.ofNat 97, Char.ofNat 102, Char.ofNat 116, Char.ofNat 115, Char.ofNat 109, Char.ofNat 97, Char.ofNat 110, Char.ofNat 47, Char.ofNat 114, Char.ofNat 97, Char.ofNat 102, Char.ofNat 116, Char.ofNat 115, Char.ofNat 109, Char.ofNat 97, Char.ofNat 110, Char.ofNat 108, Char.ofNat 97, Char.ofNat 119, Char.ofNat 50, Char.ofNat 49, Char.ofNat 46, Char.ofNat 73, Char.ofNat 110, Char.ofNat 100, Char.ofNat 101, Char.ofNat 120, Char.ofNat 83, Char.ofNat 97, Char.ofNat 118, Char.ofNat 101, Char.ofNat 100, Char.ofNat 32, Char.ofNat 114, Char.ofNat 97, Char.ofNat 102, Char.ofNat 116, Char.ofNat 115, Char.ofNat 109, Char.ofNat 97, Char.ofNat 110, Char.ofNat 47, Char.ofNat 114, Char.ofNat 97, Char.ofNat 102, Char.ofNat 116, Char.ofNat 115, Char.ofNat 109, Char.ofNat 97, Char.ofNat 110, Char.ofNat 108, Char.ofNat 97, Char.ofNat 119, Char.ofNat 50, Char.ofNat 49, Char.ofNat 46, Char.ofNat 73, Char.ofNat 110, Char.ofNat 100, Char.ofNat 101, Char.ofNat 120, Char.ofNat 76, Char.ofNat 101, Char.ofNat 97, Char.ofNat 118, Char.ofNat 101, Char.ofNat 115, Char.ofNat 32, Char.ofNat 114, Char.ofNat 97, Char.ofNat 102, Char.ofNat 116, Char.ofNat 115, Char.ofNat 109, Char.ofNat 97, Char.ofNat 110, Char.ofNat 47, Char.ofNat 114, Char.ofNat 97, Char.ofNat 102, Char.ofNat 116, Char.ofNat 115, Char.ofNat 109, Char.ofNat 97, Char.ofNat 110, Char.ofNat 108, Char.ofNat 97, Char.ofNat 119, Char.ofNat 50, Char.ofNat 49, Char.ofNat 46, Char.ofNat 73, Char.ofNat 110, Char.ofNat 100, Char.ofNat 101, Char.ofNat 120, Char.ofNat 78, Char.ofNat 101, Char.ofNat 97, Char.ofNat 114, Char.ofNat 32, Char.ofNat 114, Char.ofNat 97, Char.ofNat 102, Char.ofNat 116, Char.ofNat 115, Char.ofNat 109, Char.ofNat 97, Char.ofNat 110, Char.ofNat 47, Char.ofNat 114, Char.ofNat 97, Char.ofNat 102, Char.ofNat 116, Char.ofNat 115, Char.ofNat 109, Char.ofNat 97, Char.ofNat 110, Char.ofNat 108, Char.ofNat 97, Char.ofNat 119, Char.ofNat 50, Char.ofNat 49, Char.ofNat 46, Char.ofNat 73, Char.ofNat 110, Char.ofNat 100, Char.ofNat 101, Char.ofNat 120, Char.ofNat 67, Char.ofNat 108, Char.ofNat 97, Char.ofNat 115, Char.ofNat 115, Char.ofNat 101, Char.ofNat 115, Char.ofNat 32, Char.ofNat 114, Char.ofNat 97, Char.ofNat 102, Char.ofNat 116, Char.ofNat 115, Char.ofNat 109, Char.ofNat 97, Char.ofNat 110, Char.ofNat 47, Char.ofNat 114, Char.ofNat 97, Char.ofNat 102, Char.ofNat 116, Char.ofNat 115, Char.ofNat 109, Char.ofNat 97, Char.ofNat 110, Char.ofNat 108, Char.ofNat 97, Char.ofNat 119, Char.ofNat 50, Char.ofNat 49, Char.ofNat 46, Char.ofNat 73, Char.ofNat 110, Char.ofNat 100, Char.ofNat 101, Char.ofNat 120, Char.ofNat 65, Char.ofNat 117, Char.ofNat 100, Char.ofNat 105, Char.ofNat 116, Char.ofNat 32, Char.ofNat 114, Char.ofNat 97, Char.ofNat 102, Char.ofNat 116, Char.ofNat 115, Char.ofNat 109, Char.ofNat 97, Char.ofNat 110, Char.ofNat 47, Char.ofNat 114, Char.ofNat 97, Char.ofNat 102, Char.ofNat 116, Char.ofNat 115, Char.ofNat 109, Char.ofNat 97, Char.ofNat 110, Char.ofNat 108, Char.ofNat 97, Char.ofNat 119, Char.ofNat 50, Char.ofNat 49, Char.ofNat 46, Char.ofNat 73, Char.ofNat 110, Char.ofNat 100, Char.ofNat 101, Char.ofNat 120, Char.ofNat 77, Char.ofNat 117, Char.ofNat 115, Char.ofNat 116]
theorem aXv : Tryz.pinned.checked.prog.initOrder = String.ofList ("harness".toList ++ Char.ofNat 32 :: (bLg ++ Char.ofNat 32 :: (sG ++ Char.ofNat 32 :: aZ3))) := by kernel_rfl
theorem bmw : behindMainWord (wordsSigns Tryz.pinned.checked.prog.initOrder.toList) = sG :: wordsSigns aZ3 := by
  rw [aXv, String.toList_ofList]
  exact aZp (by decide +kernel) (by decide +kernel)
theorem bI4 : Tryz.pinned.checked.prog.mayEnter = true := aK0 bmw (by kernel_rfl) (by kernel_rfl) (by kernel_rfl)
theorem lif : (Rows.indexNewRow.lifted == Tryz.pinned.checked.prog.liftsFinal) = true := by rw [aH8 bmw]; kernel_rfl
theorem mkk : (Tryz.pinned.checked.prog.make == some Rows.indexNewRow.make) = true := by rw [aYh bmw]; kernel_rfl
theorem closed : joinedFacts Tryz.pinned.checked.prog 4 Tryz.f4 Rows.indexNewSpec Rows.indexNewRow = true := by
  unfold joinedFacts
  rw [bI4, lif, mkk]
  kernel_rfl
theorem over : Rows.indexNewRow.holds Tryz.pinned (OpenSpec.ofChange Rows.indexNewSpec) :=
  OpenClaim.holds_of_wide 4 Tryz.f4 rfl rfl rfl rfl rfl rfl rfl ⟨rfl, rfl, rfl, rfl, rfl⟩ rfl rfl rfl rfl rfl (by kernel_rfl) Tryz.func4 closed
    (of_decide_eq_true (by kernel_rfl)) (by unfold Func.isWrapper; first | (rw [if_pos (by decide +kernel)]; kernel_rfl) | (rw [if_neg (by decide +kernel)]; exact ⟨rfl, rfl⟩))
    (fun os started H enc _ => lifted os started H enc)
theorem proved : Rows.IndexNewSaid := over
#print axioms proved
end Go.Proofs.YtkdohhmacfoolaaGreat.indexNew
