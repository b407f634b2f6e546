/- The statement, from the law's plain function. No condition. -/
import Derived.Test.YtibnmlbjahcjmaaVdOne
import Derived.Test.YtibnmlbjahcjmaaVdAmE
import Derived.Test.YtibnmlbjahcjmaaVdAmH
import Derived.Test.YtibnmlbjahcjmaaRows
import Derived.SizedLaws
set_option linter.unusedVariables false
set_option linter.unusedSimpArgs false
set_option maxRecDepth 20000
namespace Go.Proofs.Ytibnmlbjahcjmaa.tiersOne
open Go Go.AM Go.ChangeShapes Go.WideShapes Go.ChangeAt Go.RowKit
theorem co3 : Try.prog.cellsOf 3 = 1 := by kernel_rfl
theorem co5 : Try.prog.cellsOf 5 = 1 := by kernel_rfl
theorem co23 : Try.prog.cellsOf 23 = 3 := by kernel_rfl
theorem co51 : Try.prog.cellsOf 51 = 1 := by kernel_rfl
theorem co53 : Try.prog.cellsOf 53 = 2 := by kernel_rfl
def WFGConfig (e : GConfig) : Prop := ((Lit.int .i64 e.N).wf = true) ∧ ((Lit.int .i64 e.L).wf = true) ∧ ((Lit.int .i64 e.R).wf = true)
theorem opnGConfig {w : World} : Opn Try.prog w 23 cGConfig WFGConfig := by
  intro H enc fuel cs x h
  obtain ⟨_, _, _, _, hcl, _, _⟩ := DataW.trod_struct Try.underlying23 h
  obtain ⟨n0, y0, h0⟩ := trod_field Try.underlying23 h 0 _ rfl
  obtain ⟨e0, w0, l0, r0⟩ := (opn_int Try.underlying3) H enc n0 _ _ h0
  obtain ⟨n1, y1, h1⟩ := trod_field Try.underlying23 h 1 _ rfl
  obtain ⟨e1, w1, l1, r1⟩ := (opn_int Try.underlying3) H enc n1 _ _ h1
  obtain ⟨n2, y2, h2⟩ := trod_field Try.underlying23 h 2 _ rfl
  obtain ⟨e2, w2, l2, r2⟩ := (opn_int Try.underlying3) H enc n2 _ _ h2
  refine ⟨⟨e0, e1, e2⟩, ⟨w0, w1, w2⟩, hcl.trans co23, fun k a hk => ?_⟩
  match k, hk with
  | 0, hk =>
    have this : RV w Xno Onone (((cs.drop 0).take (Try.prog.cellsOf 3)).getD 0 undef) a := r0 0 a hk
    rw [getD_part (show 0 < Try.prog.cellsOf 3 by rw [co3]; decide)] at this
    exact this
  | 1, hk =>
    have this : RV w Xno Onone (((cs.drop 1).take (Try.prog.cellsOf 3)).getD 0 undef) a := r1 0 a hk
    rw [getD_part (show 0 < Try.prog.cellsOf 3 by rw [co3]; decide)] at this
    exact this
  | 2, hk =>
    have this : RV w Xno Onone (((cs.drop 2).take (Try.prog.cellsOf 3)).getD 0 undef) a := r2 0 a hk
    rw [getD_part (show 0 < Try.prog.cellsOf 3 by rw [co3]; decide)] at this
    exact this
  | k + 3, hk => cases hk
def WFGHash (e : GHash) : Prop := ((Lit.int .u64 e.A).wf = true) ∧ ((Lit.int .u64 e.B).wf = true)
theorem opnGHash {w : World} : Opn Try.prog w 53 cGHash WFGHash := by
  intro H enc fuel cs x h
  obtain ⟨_, _, _, _, hcl, _, _⟩ := DataW.trod_struct Try.underlying53 h
  obtain ⟨n0, y0, h0⟩ := trod_field Try.underlying53 h 0 _ rfl
  obtain ⟨e0, w0, l0, r0⟩ := (opn_int Try.underlying51) H enc n0 _ _ h0
  obtain ⟨n1, y1, h1⟩ := trod_field Try.underlying53 h 1 _ rfl
  obtain ⟨e1, w1, l1, r1⟩ := (opn_int Try.underlying51) H enc n1 _ _ h1
  refine ⟨⟨e0, e1⟩, ⟨w0, w1⟩, hcl.trans co53, fun k a hk => ?_⟩
  match k, hk with
  | 0, hk =>
    have this : RV w Xno Onone (((cs.drop 0).take (Try.prog.cellsOf 51)).getD 0 undef) a := r0 0 a hk
    rw [getD_part (show 0 < Try.prog.cellsOf 51 by rw [co51]; decide)] at this
    exact this
  | 1, hk =>
    have this : RV w Xno Onone (((cs.drop 1).take (Try.prog.cellsOf 51)).getD 0 undef) a := r1 0 a hk
    rw [getD_part (show 0 < Try.prog.cellsOf 51 by rw [co51]; decide)] at this
    exact this
  | k + 2, hk => cases hk
theorem own : ownKnob Try.prog.godebug = none := by kernel_rfl
theorem laid : laidOutB Try.prog = true := by kernel_rfl
theorem walk (a0 : GConfig) (a1 : List GHash) (a2 : List Int) (w0 : WFGConfig a0) (w1 : (∀ y, y ∈ a1 → WFGHash y) ∧ a1.length ≤ maxLen) (w2 : (∀ y, y ∈ a2 → (Lit.int .u8 y).wf = true) ∧ a2.length ≤ maxLen) (b1 : a1.length * 16 ≤ reachBytes) (b2 : a2.length * 1 ≤ reachBytes) (w : World) (v0 : Value) (v1 : Value) (v2 : Value) (o0 : RV w Xno Onone v0 (.agg (cGConfig a0))) (o1 : RV w Xno Onone v1 (.sl (a1.flatMap cGHash) a1.length false)) (o2 : RV w Xno Onone v2 (.sl (a2.flatMap (ci .u8)) a2.length false)) :
    Calls Try.prog 17 #[v0, v1, v2] w fun e w' => e = .returned (.bool true) ∧ Below w.heap.size w w' := by
  refine (TiersOne_c (TiersOne_w a0 a1 a2 w0 w1 w2 b1 b2) w Xno #[v0, v1, v2] (fun _ _ h => h.elim) ⟨rfl, fun k a h => ?_⟩).mono fun e w' he => ?_
  · match k, h with
    | 0, h => cases h; exact o0
    | 1, h => cases h; exact o1
    | 2, h => cases h; exact o2
    | k + 3, h => cases h
  · obtain ⟨v, rfl, hv, hb⟩ := he
    rw [hv.v_inv]
    exact ⟨rfl, hb⟩
theorem by5 : Try.prog.bytesOf 5 = 1 := by kernel_rfl
theorem by53 : Try.prog.bytesOf 53 = 16 := by kernel_rfl
theorem sl_sized {H : Type} {enc : TypeId × Value → H} {w : World} {t e : TypeId} {v : Value} {d : DataW H} {ps : List MemPlace} {xs : List AV} {n b0 j B : Nat} {f : Bool} {r : Reach} {ts : List TypeId} {ds : List (DataW H)} (hu : Try.prog.underlying t = some (.slice e)) (hB : Try.prog.bytesOf e = B) (hv : Value.okWide Try.prog w r b0 t v)
    (hT : DataW.Trod enc Try.prog w 0 (fun _ => true) true t v d ps) (o : RV w Xno Onone v (.sl xs n f)) (hsz : (DataW.weightsEach Try.prog ts ds).all (· ≤ reachBytes) = true) (ht : ts[j]? = some t) (hd : ds[j]? = some d) : n * B ≤ reachBytes := by
  subst hB
  obtain ⟨fuel, hf⟩ := hT
  have hv' := notAgg hu rfl hv
  rcases DataW.trod_slice hu hf with ⟨hc, _⟩ | ⟨a, len, cap, elems, rest, m, _, hc, hx, _, _, _, hlen, _⟩
  · have : v = .slice none 0 0 := by rw [hv'] at hc; simpa using hc
    subst this; cases o; simp
  · have : v = .slice (some a) len cap := by rw [hv'] at hc; simpa using hc
    subst this
    have hd' : d = .slice (elems.map (·.1)) (rest.map (·.1)) := congrArg Prod.fst hx
    subst hd'
    have hn : n = len := by cases o <;> rfl
    have := sized_slice hsz ht hd hu
    rw [List.length_map, List.length_map] at this
    exact Nat.le_trans (Nat.mul_le_mul_right _ (by omega)) this
set_option maxRecDepth 100000 in
theorem lifted (os : Os) (started : os.Started) (H : Type) (enc : TypeId × Value → H) :
    ReturnsInHanded {} Try.checked os 17 .any (Rows.tiersOneSpec.pre6 enc Try.prog Try.f17 Rows.tiersOneRow.domain false) (Rows.tiersOneSpec.post enc Try.prog Try.f17 false true false false) := by
  refine returnsInHanded_of_change_sized (C := Try.checked) own started (by kernel_rfl) Try.func17
    (ChangeSpec.witness6 (enc := enc) (C := Try.checked) false ⟨#[], #[.agg #[.int .i64 0, .int .i64 0, .int .i64 0], .slice none 0 0, .slice none 0 0], []⟩ 8 (by kernel_rfl) (by kernel_rfl) (by kernel_rfl) (by kernel_rfl)) ?_
  intro W base args ds gs before hval0 hW hcnd hsz0 _
  have hval : ∀ (j : Nat) t v, Try.f17.params[j]? = some t → args[j]? = some v → Value.okWide Try.prog W .any base t v := hval0
  have hW' := hW
  obtain ⟨p, q, hA0, hV, rfl, hfz, hnd⟩ := hW
  have hA : DataW.TrodAll enc Try.prog W 0 (fun _ => true) true Try.f17.params.toList args.toList ds p := hA0
  have hsz : (DataW.weightsEach Try.prog (Try.f17.params.toList ++ Rows.tiersOneSpec.plain.varTypes Try.prog) (ds ++ gs)).all (· ≤ reachBytes) = true := hsz0
  rw [Try.params17] at hA hval hsz
  have hlt := hA.lt
  obtain ⟨v0, vs0, d0, ds0, p0, q0, hargs, rfl, rfl, h0, r0⟩ := trodAll_cons hA
  obtain ⟨v1, vs1, d1, ds1, p1, q1, rfl, rfl, rfl, h1, r1⟩ := trodAll_cons r0
  obtain ⟨v2, vs2, d2, ds2, p2, q2, rfl, rfl, rfl, h2, r2⟩ := trodAll_cons r1
  obtain ⟨rfl, rfl, rfl⟩ := trodAll_nil r2
  obtain rfl : args = #[v0, v1, v2] := by cases args; simp_all
  obtain ⟨rfl, rfl⟩ := trodVars_none hV
  obtain ⟨a0, w0, o0⟩ := topS Try.underlying23 (hval 0 23 v0 rfl rfl) h0 opnGConfig
  obtain ⟨a1, w1, o1⟩ := top1 Try.underlying24 rfl (hval 1 24 v1 rfl rfl) h1 (opn_slice CFGHash (by decide) Try.underlying24 co53 opnGHash)
  replace o1 := o1 _ rfl
  obtain ⟨a2, w2, o2⟩ := top1 Try.underlying76 rfl (hval 2 76 v2 rfl rfl) h2 (opn_slice (CFi .u8) (by decide) Try.underlying76 co5 (opn_int Try.underlying5))
  replace o2 := o2 _ rfl
  have b1 : a1.length * 16 ≤ reachBytes := sl_sized (j := 1) Try.underlying24 by53 (hval 1 24 v1 rfl rfl) h1 o1 hsz rfl rfl
  have b2 : a2.length * 1 ≤ reachBytes := sl_sized (j := 2) Try.underlying76 by5 (hval 2 76 v2 rfl rfl) h2 o2 hsz rfl rfl
  refine (walk a0 a1 a2 w0 w1 w2 b1 b2 W v0 v1 v2 o0 o1 o2).mono fun e W' ⟨he, bel⟩ => ?_
  subst he
  exact ⟨_, rfl, _, _, _, [], _, [], hW', trodAll_mk1 (shut_bool Try.underlying4 _), (trodAll_cons_mk (Below.trod laid (by kernel_rfl) (of_decide_eq_true (by kernel_rfl)) h0 bel (fun x hx => hlt x (by simp [hx]))) (trodAll_cons_mk (Below.trod laid (by kernel_rfl) (of_decide_eq_true (by kernel_rfl)) h1 bel (fun x hx => hlt x (by simp [hx]))) (trodAll_cons_mk (Below.trod laid (by kernel_rfl) (of_decide_eq_true (by kernel_rfl)) h2 bel (fun x hx => hlt x (by simp [hx]))) trodAll_mk0))), rfl, bel.frame _, fun h => by cases h⟩
def wsum : List Char := [Char.ofNat 102, Char.ofNat 56, Char.ofNat 97, Char.ofNat 97, Char.ofNat 54, Char.ofNat 54, Char.ofNat 102, Char.ofNat 52, Char.ofNat 98, Char.ofNat 52, Char.ofNat 51, Char.ofNat 97, Char.ofNat 56, Char.ofNat 101, Char.ofNat 52, Char.ofNat 99, Char.ofNat 57, Char.ofNat 55, Char.ofNat 99, Char.ofNat 50, Char.ofNat 101, Char.ofNat 99, Char.ofNat 49, Char.ofNat 98, Char.ofNat 99, Char.ofNat 99, Char.ofNat 48, Char.ofNat 56, Char.ofNat 50, Char.ofNat 101, Char.ofNat 99, Char.ofNat 57, Char.ofNat 101, Char.ofNat 54, Char.ofNat 57, Char.ofNat 51, Char.ofNat 56, Char.ofNat 48, Char.ofNat 51, Char.ofNat 52, Char.ofNat 55, Char.ofNat 57, Char.ofNat 53, Char.ofNat 49, Char.ofNat 56, Char.ofNat 102, Char.ofNat 52, Char.ofNat 53, Char.ofNat 56, Char.ofNat 52, Char.ofNat 98, Char.ofNat 55, Char.ofNat 100, Char.ofNat 101, Char.ofNat 54, Char.ofNat 100, Char.ofNat 98, Char.ofNat 51, Char.ofNat 48, Char.ofNat 56, Char.ofNat 57, Char.ofNat 57, Char.ofNat 55, Char.ofNat 50]
def wrest : List Char := [Char.ofNat 97, Char.ofNat 116, Char.ofNat 32, Char.ofNat 114, Char.ofNat 97, Char.ofNat 102, Char.ofNat 116, Char.ofNat 115, Char.ofNat 109, Char.ofNat 97, Char.ofNat 110, Char.ofNat 47, Char.ofNat 114, Char.ofNat 97, Char.ofNat 102, Char.ofNat 116, Char.ofNat 115, Char.ofNat 109, Char.ofNat 97, Char.ofNat 110, Char.ofNat 108, Char.ofNat 97, Char.ofNat 119, Char.ofNat 50, Char.ofNat 48, Char.ofNat 46, Char.ofNat 65, Char.ofNat 117, Char.ofNat 100, Char.ofNat 105, Char.ofNat 116, Char.ofNat 84, Char.ofNat 101, Char.ofNat 108, Char.ofNat 108, Char.ofNat 115, Char.ofNat 32, Char.ofNat 114, Char.ofNat 97, Char.ofNat 102, Char.ofNat 116, Char.ofNat 115, Char.ofNat 109, Char.ofNat 97, Char.ofNat 110, Char.ofNat 47, Char.ofNat 114, Char.ofNat 97, Char.ofNat 102, Char.ofNat 116, Char.ofNat 115, Char.ofNat 109, Char.ofNat 97, Char.ofNat 110, Char.ofNat 108, Char.ofNat 97, Char.ofNat 119, Char.ofNat 50, Char.ofNat 48, Char.ofNat 46, Char.ofNat 65, Char.ofNat 117, Char.ofNat 100, Char.ofNat 105, Char.ofNat 116, Char.ofNat 66, Char.ofNat 97, Char.ofNat 114, Char.ofNat 101, Char.ofNat 32, Char.ofNat 114, Char.ofNat 97, Char.ofNat 102, Char.ofNat 116, Char.ofNat 115, Char.ofNat 109, Char.ofNat 97, Char.ofNat 110, Char.ofNat 47, Char.ofNat 114, Char.ofNat 97, Char.ofNat 102, Char.ofNat 116, Char.ofNat 115, Char.ofNat 109, Char.ofNat 97, Char.ofNat 110, Char.ofNat 108, Char.ofNat 97, Char.ofNat 119, Char.ofNat 50, Char.ofNat 48, Char.ofNat 46, Char.ofNat 65, Char.ofNat 117, Char.ofNat 100, Char.ofNat 105, Char.ofNat 116, Char.ofNat 84, Char.ofNat 104, Char.ofNat 114, Char.ofNat 101, Char.ofNat 101, Char.ofNat 32, Char.ofNat 114, Char.ofNat 97, Char.ofNat 102, Char.ofNat 116, Char.ofNat 115, Char.ofNat 109, Char.ofNat 97, Char.ofNat 110, Char.ofNat 47, Char.ofNat 114, Char.ofNat 97, Char.ofNat 102, Char.ofNat 116, Char.ofNat 115, Char.ofNat 109, Char.ofNat 97, Char.ofNat 110, Char.ofNat 108, Char.ofNat 97, Char.ofNat 119, Char.ofNat 49, Char.ofNat 52, Char.ofNat 46, Char.ofNat 83, Char.ofNat 101, Char.ofNat 97, Char.ofNat 114, Char.ofNat 99, Char.ofNat 104, Char.ofNat 84, Char.ofNat 101, Char.ofNat 108, Char.ofNat 108, Char.ofNat 115, Char.ofNat 32, Char.ofNat 114, Char.ofNat 97, Char.ofNat 102, Char.ofNat 116, Char.ofNat 115, Char.ofNat 109, Char.ofNat 97, Char.ofNat 110, Char.ofNat 47, Char.ofNat 114, Char.ofNat 97, Char.ofNat 102, Char.ofNat 116, Char.ofNat 115, Char.ofNat 109, Char.ofNat 97, Char.ofNat 110, Char.ofNat 108, Char.ofNat 97, Char.ofNat 119, Char.ofNat 49, Char.ofNat 52, Char.ofNat 46, Char.ofNat 83, Char.ofNat 101, Char.ofNat 97, Char.ofNat 114, Char.ofNat 99, Char.ofNat 104, Char.ofNat 70, Char.ofNat 105, Char.ofNat 110, Char.ofNat 100, Char.ofNat 115, Char.ofNat 32, Char.ofNat 114, Char.ofNat 97, Char.ofNat 102, Char.ofNat 116, Char.ofNat 115, Char.ofNat 109, Char.ofNat 97, Char.ofNat 110, Char.ofNat 47, Char.ofNat 114, Char.ofNat 97, Char.ofNat 102, Char.ofNat 116, Char.ofNat 115, Char.ofNat 109, Char.ofNat 97, Char.ofNat 110, Char.ofNat 108, Char.ofNat 97, Char.ofNat 119, Char.ofNat 49, Char.ofNat 52, Char.ofNat 46, Char.ofNat 83, Char.ofNat 101, Char.ofNat 97, Char.ofNat 114, Char.ofNat 99, Char.ofNat 104, Char.ofNat 84, Char.ofNat 114, Char.ofNat 101, Char.ofNat 101, Char.ofNat 115, Char.ofNat 32, Char.ofNat 114, Char.ofNat 97, Char.ofNat 102, Char.ofNat 116, Char.ofNat 115, Char.ofNat 109, Char.ofNat 97, Char.ofNat 110, Char.ofNat 47, Char.ofNat 114, Char.ofNat 97, Char.ofNat 102, Char.ofNat 116, Char.ofNat 115, Char.ofNat 109, Char.ofNat 97, Char.ofNat 110, Char.ofNat 108, Char.ofNat 97, Char.ofNat 119, Char.ofNat 49, Char.ofNat 52, Char.ofNat 46, Char.ofNat 83, Char.ofNat 101, Char.ofNat 97, Char.ofNat 114, Char.ofNat 99, Char.ofNat 104, Char.ofNat 87, Char.ofNat 111, Char.ofNat 114, Char.ofNat 100, Char.ofNat 115, Char.ofNat 32, Char.ofNat 114, Char.ofNat 97, Char.ofNat 102, Char.ofNat 116, Char.ofNat 115, Char.ofNat 109, Char.ofNat 97, Char.ofNat 110, Char.ofNat 47, Char.ofNat 114, Char.ofNat 97, Char.ofNat 102, Char.ofNat 116, Char.ofNat 115, Char.ofNat 109, Char.ofNat 97, Char.ofNat 110, Char.ofNat 108, Char.ofNat 97, Char.ofNat 119, Char.ofNat 49, Char.ofNat 52, Char.ofNat 46, Char.ofNat 83, Char.ofNat 101, Char.ofNat 97, Char.ofNat 114, Char.ofNat 99, Char.ofNat 104, Char.ofNat 76, Char.ofNat 101, Char.ofNat 118, Char.ofNat 101, Char.ofNat 108, Char.ofNat 32, Char.ofNat 114, Char.ofNat 97, Char.ofNat 102, Char.ofNat 116, Char.ofNat 115, Char.ofNat 109, Char.ofNat 97, Char.ofNat 110, Char.ofNat 47, Char.ofNat 114, Char.ofNat 97, Char.ofNat 102, Char.ofNat 116, Char.ofNat 115, Char.ofNat 109, Char.ofNat 97, Char.ofNat 110, Char.ofNat 108, Char.ofNat 97, Char.ofNat 119, Char.ofNat 49, Char.ofNat 54, Char.ofNat 46, Char.ofNat 82, Char.ofNat 117, Char.ofNat 108, Char.ofNat 101, Char.ofNat 115, Char.ofNat 84, Char.ofNat 101, Char.ofNat 108, Char.ofNat 108, Char.ofNat 32, Char.ofNat 114, Char.ofNat 97, Char.ofNat 102, Char.ofNat 116, Char.ofNat 115, Char.ofNat 109, Char.ofNat 97, Char.ofNat 110, Char.ofNat 47, Char.ofNat 114, Char.ofNat 97, Char.ofNat 102, Char.ofNat 116, Char.ofNat 115, Char.ofNat 109, Char.ofNat 97, Char.ofNat 110, Char.ofNat 108, Char.ofNat 97, Char.ofNat 119, Char.ofNat 49, Char.ofNat 54, Char.ofNat 46, Char.ofNat 82, Char.ofNat 117, Char.ofNat 108, Char.ofNat 101, Char.ofNat 115, Char.ofNat 83, Char.ofNat 116, Char.ofNat 97, Char.ofNat 121, Char.ofNat 32, Char.ofNat 114, Char.ofNat 97, Char.ofNat 102, Char.ofNat 116, Char.ofNat 115, Char.ofNat 109, Char.ofNat 97, Char.ofNat 110, Char.ofNat 47, Char.ofNat 114, Char.ofNat 97, Char.ofNat 102, Char.ofNat 116, Char.ofNat 115, Char.ofNat 109, Char.ofNat 97, Char.ofNat 110, Char.ofNat 108, Char.ofNat 97, Char.ofNat 119, Char.ofNat 49, Char.ofNat 54, Char.ofNat 46, Char.ofNat 82, Char.ofNat 117, Char.ofNat 108, Char.ofNat 101, Char.ofNat 115, Char.ofNat 77, Char.ofNat 101, Char.ofNat 110, Char.ofNat 100, Char.ofNat 101, Char.ofNat 100, Char.ofNat 32, Char.ofNat 114, Char.ofNat 97, Char.ofNat 102, Char.ofNat 116, Char.ofNat 115, Char.ofNat 109, Char.ofNat 97, Char.ofNat 110, Char.ofNat 47, Char.ofNat 114, Char.ofNat 97, Char.ofNat 102, Char.ofNat 116, Char.ofNat 115, Char.ofNat 109, Char.ofNat 97, Char.ofNat 110, Char.ofNat 108, Char.ofNat 97, Char.ofNat 119, Char.ofNat 50, Char.ofNat 48, Char.ofNat 46, Char.ofNat 65, Char.ofNat 117, Char.ofNat 100, Char.ofNat 105, Char.ofNat 116, Char.ofNat 77, Char.ofNat 101, Char.ofNat 110, Char.ofNat 100, Char.ofNat 115, Char.ofNat 32, Char.ofNat 114, Char.ofNat 97, Char.ofNat 102, Char.ofNat 116, Char.ofNat 115, Char.ofNat 109, Char.ofNat 97, Char.ofNat 110, Char.ofNat 47, Char.ofNat 114, Char.ofNat 97, Char.ofNat 102, Char.ofNat 116, Char.ofNat 115, Char.ofNat 109, Char.ofNat 97, Char.ofNat 110, Char.ofNat 108, Char.ofNat 97, Char.ofNat 119, Char.ofNat 49, Char.ofNat 54, Char.ofNat 46, Char.ofNat 82, Char.ofNat 117, Char.ofNat 108, Char.ofNat 101, Char.ofNat 115, Char.ofNat 67, Char.ofNat 111, Char.ofNat 117, Char.ofNat 110, Char.ofNat 116, Char.ofNat 32, Char.ofNat 114, Char.ofNat 97, Char.ofNat 102, Char.ofNat 116, Char.ofNat 115, Char.ofNat 109, Char.ofNat 97, Char.ofNat 110, Char.ofNat 47, Char.ofNat 114, Char.ofNat 97, Char.ofNat 102, Char.ofNat 116, Char.ofNat 115, Char.ofNat 109, Char.ofNat 97, Char.ofNat 110, Char.ofNat 108, Char.ofNat 97, Char.ofNat 119, Char.ofNat 49, Char.ofNat 53, Char.ofNat 46, Char.ofNat 84, Char.ofNat 105, Char.ofNat 101, Char.ofNat 114, Char.ofNat 115, Char.ofNat 65, Char.ofNat 112, Char.ofNat 97, Char.ofNat 114, Char.ofNat 116, Char.ofNat 32, Char.ofNat 114, Char.ofNat 97, Char.ofNat 102, Char.ofNat 116, Char.ofNat 115, Char.ofNat 109, Char.ofNat 97, Char.ofNat 110, Char.ofNat 47, Char.ofNat 114, Char.ofNat 97, Char.ofNat 102, Char.ofNat 116, Char.ofNat 115, Char.ofNat 109, Char.ofNat 97, Char.ofNat 110, Char.ofNat 108, Char.ofNat 97, Char.ofNat 119, Char.ofNat 49, Char.ofNat 53, Char.ofNat 46, Char.ofNat 84, Char.ofNat 105, Char.ofNat 101, Char.ofNat 114, Char.ofNat 115, Char.ofNat 79, Char.ofNat 110, Char.ofNat 101, Char.ofNat 32, Char.ofNat 114, Char.ofNat 97, Char.ofNat 102, Char.ofNat 116, Char.ofNat 115, Char.ofNat 109, Char.ofNat 97, Char.ofNat 110, Char.ofNat 47, Char.ofNat 114, Char.ofNat 97, Char.ofNat 102, Char.ofNat 116, Char.ofNat 115, Char.ofNat 109, Char.ofNat 97, Char.ofNat 110, Char.ofNat 108, Char.ofNat 97, Char.ofNat 119, Char.ofNat 49, Char.ofNat 53, Char.ofNat 46, Char.ofNat 84, Char.ofNat 105, Char.ofNat 101, Char.ofNat 114, Char.ofNat 115, Char.ofNat 69, Char.ofNat 110, Char.ofNat 100, Char.ofNat 115, Char.ofNat 32, Char.ofNat 114, Char.ofNat 97, Char.ofNat 102, Char.ofNat 116, Char.ofNat 115, Char.ofNat 109, Char.ofNat 97, Char.ofNat 110, Char.ofNat 47, Char.ofNat 114, Char.ofNat 97, Char.ofNat 102, Char.ofNat 116, Char.ofNat 115, Char.ofNat 109, Char.ofNat 97, Char.ofNat 110, Char.ofNat 108, Char.ofNat 97, Char.ofNat 119, Char.ofNat 49, Char.ofNat 53, Char.ofNat 46, Char.ofNat 84, Char.ofNat 105, Char.ofNat 101, Char.ofNat 114, Char.ofNat 115, Char.ofNat 82, Char.ofNat 101, Char.ofNat 102, Char.ofNat 105, Char.ofNat 110, Char.ofNat 101, Char.ofNat 32, Char.ofNat 114, Char.ofNat 97, Char.ofNat 102, Char.ofNat 116, Char.ofNat 115, Char.ofNat 109, Char.ofNat 97, Char.ofNat 110, Char.ofNat 47, Char.ofNat 114, Char.ofNat 97, Char.ofNat 102, Char.ofNat 116, Char.ofNat 115, Char.ofNat 109, Char.ofNat 97, Char.ofNat 110, Char.ofNat 108, Char.ofNat 97, Char.ofNat 119, Char.ofNat 49, Char.ofNat 53, Char.ofNat 46, Char.ofNat 84, Char.ofNat 105, Char.ofNat 101, Char.ofNat 114, Char.ofNat 115, Char.ofNat 66, Char.ofNat 97, Char.ofNat 99, Char.ofNat 107, Char.ofNat 32, Char.ofNat 114, Char.ofNat 97, Char.ofNat 102, Char.ofNat 116, Char.ofNat 115, Char.ofNat 109, Char.ofNat 97, Char.ofNat 110, Char.ofNat 47, Char.ofNat 114, Char.ofNat 97, Char.ofNat 102, Char.ofNat 116, Char.ofNat 115, Char.ofNat 109, Char.ofNat 97, Char.ofNat 110, Char.ofNat 108, Char.ofNat 97, Char.ofNat 119, Char.ofNat 49, Char.ofNat 53, Char.ofNat 46, Char.ofNat 84, Char.ofNat 105, Char.ofNat 101, Char.ofNat 114, Char.ofNat 115, Char.ofNat 77, Char.ofNat 101, Char.ofNat 110, Char.ofNat 100, Char.ofNat 32, Char.ofNat 114, Char.ofNat 97, Char.ofNat 102, Char.ofNat 116, Char.ofNat 115, Char.ofNat 109, Char.ofNat 97, Char.ofNat 110, Char.ofNat 47, Char.ofNat 114, Char.ofNat 97, Char.ofNat 102, Char.ofNat 116, Char.ofNat 115, Char.ofNat 109, Char.ofNat 97, Char.ofNat 110, Char.ofNat 108, Char.ofNat 97, Char.ofNat 119, Char.ofNat 50, Char.ofNat 48, Char.ofNat 46, Char.ofNat 65, Char.ofNat 117, Char.ofNat 100, Char.ofNat 105, Char.ofNat 116, Char.ofNat 71, Char.ofNat 111, Char.ofNat 101, Char.ofNat 115, Char.ofNat 32, Char.ofNat 114, Char.ofNat 97, Char.ofNat 102, Char.ofNat 116, Char.ofNat 115, Char.ofNat 109, Char.ofNat 97, Char.ofNat 110, Char.ofNat 47, Char.ofNat 114, Char.ofNat 97, Char.ofNat 102, Char.ofNat 116, Char.ofNat 115, Char.ofNat 109, Char.ofNat 97, Char.ofNat 110, Char.ofNat 108, Char.ofNat 97, Char.ofNat 119, Char.ofNat 49, Char.ofNat 54, Char.ofNat 46, Char.ofNat 82, Char.ofNat 117, Char.ofNat 108, Char.ofNat 101, Char.ofNat 115, Char.ofNat 72, Char.ofNat 111, Char.ofNat 108, Char.ofNat 100, Char.ofNat 32, Char.ofNat 114, Char.ofNat 97, Char.ofNat 102, Char.ofNat 116, Char.ofNat 115, Char.ofNat 109, Char.ofNat 97, Char.ofNat 110, Char.ofNat 47, Char.ofNat 114, Char.ofNat 97, Char.ofNat 102, Char.ofNat 116, Char.ofNat 115, Char.ofNat 109, Char.ofNat 97, Char.ofNat 110, Char.ofNat 108, Char.ofNat 97, Char.ofNat 119, Char.ofNat 49, Char.ofNat 54, Char.ofNat 46, Char.ofNat 82, Char.ofNat 117, Char.ofNat 108, Char.ofNat 101, Char.ofNat 115, Char.ofNat 72, Char.ofNat 97, Char.ofNat 108, Char.ofNat 118, Char.ofNat 101]
theorem init_eq : Try.pinned.checked.prog.initOrder = String.ofList ("harness".toList ++ Char.ofNat 32 :: (wsum ++ Char.ofNat 32 :: (cutSigns ++ Char.ofNat 32 :: wrest))) := by kernel_rfl
theorem bmw : behindMainWord (wordsSigns Try.pinned.checked.prog.initOrder.toList) = cutSigns :: wordsSigns wrest := by
  rw [init_eq, String.toList_ofList]
  exact bmw_of (by decide +kernel) (by decide +kernel)
theorem mayE : Try.pinned.checked.prog.mayEnter = true := mayEnter_of bmw (by kernel_rfl) (by kernel_rfl) (by kernel_rfl)
theorem lif : (Rows.tiersOneRow.lifted == Try.pinned.checked.prog.liftsFinal) = true := by rw [liftsFinal_of bmw]; kernel_rfl
theorem mkk : (Try.pinned.checked.prog.make == some Rows.tiersOneRow.make) = true := by rw [make_of bmw]; kernel_rfl
theorem closed : joinedFacts Try.pinned.checked.prog 17 Try.f17 Rows.tiersOneSpec Rows.tiersOneRow = true := by
  unfold joinedFacts
  rw [mayE, lif, mkk]
  kernel_rfl
theorem over : Rows.tiersOneRow.holds Try.pinned (OpenSpec.ofChange Rows.tiersOneSpec) :=
  OpenClaim.holds_of_wide 17 Try.f17 rfl rfl rfl rfl rfl rfl rfl ⟨rfl, rfl, rfl, rfl, rfl⟩ rfl rfl rfl rfl rfl (by kernel_rfl) Try.func17 closed
    (of_decide_eq_true (by kernel_rfl)) (by unfold Func.isWrapper; first | (rw [if_pos (by decide +kernel)]; kernel_rfl) | (rw [if_neg (by decide +kernel)]; exact ⟨rfl, rfl⟩))
    (fun os started H enc _ => lifted os started H enc)
theorem proved : Rows.TiersOneSaid := over
#print axioms proved
end Go.Proofs.Ytibnmlbjahcjmaa.tiersOne
