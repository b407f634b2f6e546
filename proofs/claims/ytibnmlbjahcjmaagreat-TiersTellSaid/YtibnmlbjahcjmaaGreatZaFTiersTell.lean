/- The statement, from the law's plain function. No condition. -/
import Derived.Test.YtibnmlbjahcjmaaGreatZaTel
import Derived.Test.YtibnmlbjahcjmaaGreatZaAmE
import Derived.Test.YtibnmlbjahcjmaaGreatZaAmH
import Derived.Test.YtibnmlbjahcjmaaGreatRows
set_option linter.unusedVariables false
set_option linter.unusedSimpArgs false
set_option maxRecDepth 20000
namespace Go.Proofs.YtibnmlbjahcjmaaGreat.tiersTell
open Go Go.AM Go.ChangeShapes Go.WideShapes Go.ChangeAt Go.RowKit
theorem co3 : Tryz.prog.cellsOf 3 = 1 := by kernel_rfl
theorem co23 : Tryz.prog.cellsOf 23 = 3 := by kernel_rfl
theorem co24 : Tryz.prog.cellsOf 24 = 1 := by kernel_rfl
theorem co25 : Tryz.prog.cellsOf 25 = 1 := by kernel_rfl
theorem co27 : Tryz.prog.cellsOf 27 = 5 := by kernel_rfl
theorem co42 : Tryz.prog.cellsOf 42 = 1 := by kernel_rfl
theorem co44 : Tryz.prog.cellsOf 44 = 2 := by kernel_rfl
theorem co47 : Tryz.prog.cellsOf 47 = 3 := by kernel_rfl
def WFGConfig (e : GConfig) : Prop := ((Lit.int .i64 e.N).wf = true) ∧ ((Lit.int .i64 e.L).wf = true) ∧ ((Lit.int .i64 e.R).wf = true)
theorem opnGConfig {w : World} : Opn Tryz.prog w 23 cGConfig WFGConfig := by
  intro H enc fuel cs x h
  obtain ⟨_, _, _, _, hcl, _, _⟩ := DataW.trod_struct Tryz.underlying23 h
  obtain ⟨n0, y0, h0⟩ := trod_field Tryz.underlying23 h 0 _ rfl
  obtain ⟨e0, w0, l0, r0⟩ := (opn_int Tryz.underlying3) H enc n0 _ _ h0
  obtain ⟨n1, y1, h1⟩ := trod_field Tryz.underlying23 h 1 _ rfl
  obtain ⟨e1, w1, l1, r1⟩ := (opn_int Tryz.underlying3) H enc n1 _ _ h1
  obtain ⟨n2, y2, h2⟩ := trod_field Tryz.underlying23 h 2 _ rfl
  obtain ⟨e2, w2, l2, r2⟩ := (opn_int Tryz.underlying3) H enc n2 _ _ h2
  refine ⟨⟨e0, e1, e2⟩, ⟨w0, w1, w2⟩, hcl.trans co23, fun k a hk => ?_⟩
  match k, hk with
  | 0, hk =>
    have this : RV w Xno Onone (((cs.drop 0).take (Tryz.prog.cellsOf 3)).getD 0 undef) a := r0 0 a hk
    rw [getD_part (show 0 < Tryz.prog.cellsOf 3 by rw [co3]; decide)] at this
    exact this
  | 1, hk =>
    have this : RV w Xno Onone (((cs.drop 1).take (Tryz.prog.cellsOf 3)).getD 0 undef) a := r1 0 a hk
    rw [getD_part (show 0 < Tryz.prog.cellsOf 3 by rw [co3]; decide)] at this
    exact this
  | 2, hk =>
    have this : RV w Xno Onone (((cs.drop 2).take (Tryz.prog.cellsOf 3)).getD 0 undef) a := r2 0 a hk
    rw [getD_part (show 0 < Tryz.prog.cellsOf 3 by rw [co3]; decide)] at this
    exact this
  | k + 3, hk => cases hk
def WFGHash (e : GHash) : Prop := ((Lit.int .u64 e.A).wf = true) ∧ ((Lit.int .u64 e.B).wf = true)
theorem opnGHash {w : World} : Opn Tryz.prog w 44 cGHash WFGHash := by
  intro H enc fuel cs x h
  obtain ⟨_, _, _, _, hcl, _, _⟩ := DataW.trod_struct Tryz.underlying44 h
  obtain ⟨n0, y0, h0⟩ := trod_field Tryz.underlying44 h 0 _ rfl
  obtain ⟨e0, w0, l0, r0⟩ := (opn_int Tryz.underlying42) H enc n0 _ _ h0
  obtain ⟨n1, y1, h1⟩ := trod_field Tryz.underlying44 h 1 _ rfl
  obtain ⟨e1, w1, l1, r1⟩ := (opn_int Tryz.underlying42) H enc n1 _ _ h1
  refine ⟨⟨e0, e1⟩, ⟨w0, w1⟩, hcl.trans co44, fun k a hk => ?_⟩
  match k, hk with
  | 0, hk =>
    have this : RV w Xno Onone (((cs.drop 0).take (Tryz.prog.cellsOf 42)).getD 0 undef) a := r0 0 a hk
    rw [getD_part (show 0 < Tryz.prog.cellsOf 42 by rw [co42]; decide)] at this
    exact this
  | 1, hk =>
    have this : RV w Xno Onone (((cs.drop 1).take (Tryz.prog.cellsOf 42)).getD 0 undef) a := r1 0 a hk
    rw [getD_part (show 0 < Tryz.prog.cellsOf 42 by rw [co42]; decide)] at this
    exact this
  | k + 2, hk => cases hk
def WFGEdge (e : GEdge) : Prop := ((Lit.int .i64 e.U).wf = true) ∧ ((Lit.int .i64 e.V).wf = true) ∧ ((Lit.int .i64 e.Tier).wf = true)
theorem opnGEdge {w : World} : Opn Tryz.prog w 47 cGEdge WFGEdge := by
  intro H enc fuel cs x h
  obtain ⟨_, _, _, _, hcl, _, _⟩ := DataW.trod_struct Tryz.underlying47 h
  obtain ⟨n0, y0, h0⟩ := trod_field Tryz.underlying47 h 0 _ rfl
  obtain ⟨e0, w0, l0, r0⟩ := (opn_int Tryz.underlying3) H enc n0 _ _ h0
  obtain ⟨n1, y1, h1⟩ := trod_field Tryz.underlying47 h 1 _ rfl
  obtain ⟨e1, w1, l1, r1⟩ := (opn_int Tryz.underlying3) H enc n1 _ _ h1
  obtain ⟨n2, y2, h2⟩ := trod_field Tryz.underlying47 h 2 _ rfl
  obtain ⟨e2, w2, l2, r2⟩ := (opn_int Tryz.underlying3) H enc n2 _ _ h2
  refine ⟨⟨e0, e1, e2⟩, ⟨w0, w1, w2⟩, hcl.trans co47, fun k a hk => ?_⟩
  match k, hk with
  | 0, hk =>
    have this : RV w Xno Onone (((cs.drop 0).take (Tryz.prog.cellsOf 3)).getD 0 undef) a := r0 0 a hk
    rw [getD_part (show 0 < Tryz.prog.cellsOf 3 by rw [co3]; decide)] at this
    exact this
  | 1, hk =>
    have this : RV w Xno Onone (((cs.drop 1).take (Tryz.prog.cellsOf 3)).getD 0 undef) a := r1 0 a hk
    rw [getD_part (show 0 < Tryz.prog.cellsOf 3 by rw [co3]; decide)] at this
    exact this
  | 2, hk =>
    have this : RV w Xno Onone (((cs.drop 2).take (Tryz.prog.cellsOf 3)).getD 0 undef) a := r2 0 a hk
    rw [getD_part (show 0 < Tryz.prog.cellsOf 3 by rw [co3]; decide)] at this
    exact this
  | k + 3, hk => cases hk
def WFGGraph (e : GGraph) : Prop := (WFGConfig e.Config) ∧ ((∀ y, y ∈ e.Hashes → WFGHash y) ∧ e.Hashes.length ≤ maxLen) ∧ ((∀ y, y ∈ e.Edges → WFGEdge y) ∧ e.Edges.length ≤ maxLen)
theorem opnGGraph {w : World} : Opn Tryz.prog w 27 cGGraph WFGGraph := by
  intro H enc fuel cs x h
  obtain ⟨_, _, _, _, hcl, _, _⟩ := DataW.trod_struct Tryz.underlying27 h
  obtain ⟨n0, y0, h0⟩ := trod_field Tryz.underlying27 h 0 _ rfl
  obtain ⟨e0, w0, l0, r0⟩ := opnGConfig H enc n0 _ _ h0
  obtain ⟨n1, y1, h1⟩ := trod_field Tryz.underlying27 h 1 _ rfl
  obtain ⟨e1, w1, l1, r1⟩ := (opn_slice CFGHash (by decide) Tryz.underlying24 co44 opnGHash) H enc n1 _ _ h1
  obtain ⟨n2, y2, h2⟩ := trod_field Tryz.underlying27 h 2 _ rfl
  obtain ⟨e2, w2, l2, r2⟩ := (opn_slice CFGEdge (by decide) Tryz.underlying25 co47 opnGEdge) H enc n2 _ _ h2
  refine ⟨⟨e0, e1, e2⟩, ⟨w0, w1, w2⟩, hcl.trans co27, fun k a hk => ?_⟩
  match k, hk with
  | 0, hk =>
    have this : RV w Xno Onone (((cs.drop 0).take (Tryz.prog.cellsOf 23)).getD 0 undef) a := r0 0 a hk
    rw [getD_part (show 0 < Tryz.prog.cellsOf 23 by rw [co23]; decide)] at this
    exact this
  | 1, hk =>
    have this : RV w Xno Onone (((cs.drop 0).take (Tryz.prog.cellsOf 23)).getD 1 undef) a := r0 1 a hk
    rw [getD_part (show 1 < Tryz.prog.cellsOf 23 by rw [co23]; decide)] at this
    exact this
  | 2, hk =>
    have this : RV w Xno Onone (((cs.drop 0).take (Tryz.prog.cellsOf 23)).getD 2 undef) a := r0 2 a hk
    rw [getD_part (show 2 < Tryz.prog.cellsOf 23 by rw [co23]; decide)] at this
    exact this
  | 3, hk =>
    have this : RV w Xno Onone (((cs.drop 3).take (Tryz.prog.cellsOf 24)).getD 0 undef) a := r1 0 a hk
    rw [getD_part (show 0 < Tryz.prog.cellsOf 24 by rw [co24]; decide)] at this
    exact this
  | 4, hk =>
    have this : RV w Xno Onone (((cs.drop 4).take (Tryz.prog.cellsOf 25)).getD 0 undef) a := r2 0 a hk
    rw [getD_part (show 0 < Tryz.prog.cellsOf 25 by rw [co25]; decide)] at this
    exact this
  | k + 5, hk => cases hk
theorem own : ownKnob Tryz.prog.godebug = none := by kernel_rfl
theorem laid : laidOutB Tryz.prog = true := by kernel_rfl
theorem walk (a0 : GGraph) (a1 : Int) (a2 : Int) (w0 : WFGGraph a0) (w1 : (Lit.int .i64 a1).wf = true) (w2 : (Lit.int .i64 a2).wf = true) (w : World) (v0 : Value) (v1 : Value) (v2 : Value) (o0 : RV w Xno Onone v0 (.agg (cGGraph a0))) (o1 : RV w Xno Onone v1 (.v (.int .i64 a1))) (o2 : RV w Xno Onone v2 (.v (.int .i64 a2))) :
    Calls Tryz.prog 3 #[v0, v1, v2] w fun e w' => e = .returned (.bool true) ∧ Below w.heap.size w w' := by
  refine (TiersTell_c (TiersTell_w a0 a1 a2 w0 w1 w2) w Xno #[v0, v1, v2] (fun _ _ h => h.elim) ⟨rfl, fun k a h => ?_⟩).mono fun e w' he => ?_
  · match k, h with
    | 0, h => cases h; exact o0
    | 1, h => cases h; exact o1
    | 2, h => cases h; exact o2
    | k + 3, h => cases h
  · obtain ⟨v, rfl, hv, hb⟩ := he
    rw [hv.v_inv]
    exact ⟨rfl, hb⟩
set_option maxRecDepth 100000 in
theorem lifted (os : Os) (started : os.Started) (H : Type) (enc : TypeId × Value → H) :
    ReturnsInHanded {} Tryz.checked os 3 .any (Rows.tiersTellSpec.pre6 enc Tryz.prog Tryz.f3 Rows.tiersTellRow.domain false) (Rows.tiersTellSpec.post enc Tryz.prog Tryz.f3 false true false false) := by
  refine returnsInHanded_of_change (C := Tryz.checked) own started (by kernel_rfl) Tryz.func3
    (ChangeSpec.witness6 (enc := enc) (C := Tryz.checked) false ⟨#[], #[.agg #[.int .i64 0, .int .i64 0, .int .i64 0, .slice none 0 0, .slice none 0 0], .int .i64 0, .int .i64 0], []⟩ 8 (by kernel_rfl) (by kernel_rfl) (by kernel_rfl) (by kernel_rfl)) ?_
  intro W base args ds gs before hval0 hW hcnd _
  have hval : ∀ (j : Nat) t v, Tryz.f3.params[j]? = some t → args[j]? = some v → Value.okWide Tryz.prog W .any base t v := hval0
  have hW' := hW
  obtain ⟨p, q, hA0, hV, rfl, hfz, hnd⟩ := hW
  have hA : DataW.TrodAll enc Tryz.prog W 0 (fun _ => true) true Tryz.f3.params.toList args.toList ds p := hA0
  rw [Tryz.params3] at hA hval
  have hlt := hA.lt
  obtain ⟨v0, vs0, d0, ds0, p0, q0, hargs, rfl, rfl, h0, r0⟩ := trodAll_cons hA
  obtain ⟨v1, vs1, d1, ds1, p1, q1, rfl, rfl, rfl, h1, r1⟩ := trodAll_cons r0
  obtain ⟨v2, vs2, d2, ds2, p2, q2, rfl, rfl, rfl, h2, r2⟩ := trodAll_cons r1
  obtain ⟨rfl, rfl, rfl⟩ := trodAll_nil r2
  obtain rfl : args = #[v0, v1, v2] := by cases args; simp_all
  obtain ⟨rfl, rfl⟩ := trodVars_none hV
  obtain ⟨a0, w0, o0⟩ := topS Tryz.underlying27 (hval 0 27 v0 rfl rfl) h0 opnGGraph
  obtain ⟨a1, w1, o1⟩ := top1 Tryz.underlying3 rfl (hval 1 3 v1 rfl rfl) h1 (opn_int Tryz.underlying3)
  replace o1 := o1 _ rfl
  obtain ⟨a2, w2, o2⟩ := top1 Tryz.underlying3 rfl (hval 2 3 v2 rfl rfl) h2 (opn_int Tryz.underlying3)
  replace o2 := o2 _ rfl
  refine (walk a0 a1 a2 w0 w1 w2 W v0 v1 v2 o0 o1 o2).mono fun e W' ⟨he, bel⟩ => ?_
  subst he
  exact ⟨_, rfl, _, _, _, [], _, [], hW', trodAll_mk1 (shut_bool Tryz.underlying4 _), (trodAll_cons_mk (Below.trod laid (by kernel_rfl) (of_decide_eq_true (by kernel_rfl)) h0 bel (fun x hx => hlt x (by simp [hx]))) (trodAll_cons_mk (Below.trod laid (by kernel_rfl) (of_decide_eq_true (by kernel_rfl)) h1 bel (fun x hx => hlt x (by simp [hx]))) (trodAll_cons_mk (Below.trod laid (by kernel_rfl) (of_decide_eq_true (by kernel_rfl)) h2 bel (fun x hx => hlt x (by simp [hx]))) trodAll_mk0))), rfl, bel.frame _, fun h => by cases h⟩
def wsum : List Char := [Char.ofNat 52, Char.ofNat 49, Char.ofNat 56, Char.ofNat 99, Char.ofNat 97, Char.ofNat 54, Char.ofNat 48, Char.ofNat 98, Char.ofNat 102, Char.ofNat 57, Char.ofNat 101, Char.ofNat 99, Char.ofNat 54, Char.ofNat 51, Char.ofNat 102, Char.ofNat 55, Char.ofNat 55, Char.ofNat 54, Char.ofNat 100, Char.ofNat 57, Char.ofNat 53, Char.ofNat 98, Char.ofNat 102, Char.ofNat 51, Char.ofNat 56, Char.ofNat 97, Char.ofNat 98, Char.ofNat 53, Char.ofNat 99, Char.ofNat 55, Char.ofNat 50, Char.ofNat 99, Char.ofNat 97, Char.ofNat 97, Char.ofNat 56, Char.ofNat 52, Char.ofNat 49, Char.ofNat 53, Char.ofNat 50, Char.ofNat 49, Char.ofNat 102, Char.ofNat 101, Char.ofNat 55, Char.ofNat 102, Char.ofNat 53, Char.ofNat 54, Char.ofNat 99, Char.ofNat 48, Char.ofNat 100, Char.ofNat 98, Char.ofNat 50, Char.ofNat 50, Char.ofNat 97, Char.ofNat 54, Char.ofNat 55, Char.ofNat 53, Char.ofNat 53, Char.ofNat 49, Char.ofNat 102, Char.ofNat 54, Char.ofNat 57, Char.ofNat 55, Char.ofNat 48, Char.ofNat 57]
def wrest : List Char := [Char.ofNat 97, Char.ofNat 116, Char.ofNat 32, Char.ofNat 114, Char.ofNat 97, Char.ofNat 102, Char.ofNat 116, Char.ofNat 115, Char.ofNat 109, Char.ofNat 97, Char.ofNat 110, Char.ofNat 47, Char.ofNat 114, Char.ofNat 97, Char.ofNat 102, Char.ofNat 116, Char.ofNat 115, Char.ofNat 109, Char.ofNat 97, Char.ofNat 110, Char.ofNat 108, Char.ofNat 97, Char.ofNat 119, Char.ofNat 49, Char.ofNat 53, Char.ofNat 46, Char.ofNat 84, Char.ofNat 105, Char.ofNat 101, Char.ofNat 114, Char.ofNat 115, Char.ofNat 84, Char.ofNat 101, Char.ofNat 108, Char.ofNat 108]
theorem init_eq : Tryz.pinned.checked.prog.initOrder = String.ofList ("harness".toList ++ Char.ofNat 32 :: (wsum ++ Char.ofNat 32 :: (cutSigns ++ Char.ofNat 32 :: wrest))) := by kernel_rfl
theorem bmw : behindMainWord (wordsSigns Tryz.pinned.checked.prog.initOrder.toList) = cutSigns :: wordsSigns wrest := by
  rw [init_eq, String.toList_ofList]
  exact bmw_of (by decide +kernel) (by decide +kernel)
theorem mayE : Tryz.pinned.checked.prog.mayEnter = true := mayEnter_of bmw (by kernel_rfl) (by kernel_rfl) (by kernel_rfl)
theorem lif : (Rows.tiersTellRow.lifted == Tryz.pinned.checked.prog.liftsFinal) = true := by rw [liftsFinal_of bmw]; kernel_rfl
theorem mkk : (Tryz.pinned.checked.prog.make == some Rows.tiersTellRow.make) = true := by rw [make_of bmw]; kernel_rfl
theorem closed : joinedFacts Tryz.pinned.checked.prog 3 Tryz.f3 Rows.tiersTellSpec Rows.tiersTellRow = true := by
  unfold joinedFacts
  rw [mayE, lif, mkk]
  kernel_rfl
theorem over : Rows.tiersTellRow.holds Tryz.pinned (OpenSpec.ofChange Rows.tiersTellSpec) :=
  OpenClaim.holds_of_wide 3 Tryz.f3 rfl rfl rfl rfl rfl rfl rfl ⟨rfl, rfl, rfl, rfl, rfl⟩ rfl rfl rfl rfl rfl (by kernel_rfl) Tryz.func3 closed
    (of_decide_eq_true (by kernel_rfl)) (by unfold Func.isWrapper; first | (rw [if_pos (by decide +kernel)]; kernel_rfl) | (rw [if_neg (by decide +kernel)]; exact ⟨rfl, rfl⟩))
    (fun os started H enc _ => lifted os started H enc)
theorem proved : Rows.TiersTellSaid := over
#print axioms proved
end Go.Proofs.YtibnmlbjahcjmaaGreat.tiersTell
