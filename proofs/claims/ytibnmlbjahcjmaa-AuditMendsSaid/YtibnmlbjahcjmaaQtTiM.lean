/- Facts that the statement's proof is made of. No condition. -/
import Derived.Test.YtibnmlbjahcjmaaQtTiL
set_option linter.unusedVariables false
set_option linter.unusedSimpArgs false
set_option maxRecDepth 20000
set_option maxHeartbeats 1000000
namespace Go.Proofs.Ytibnmlbjahcjmaa
open Go Go.AM Go.Pl Go.Pt
theorem en_rem {l : List GEdge} {k : Nat} : en (l.take k ++ l.drop (k + 1)) = (en l).take k ++ (en l).drop (k + 1) := by
  rw [en_append]; unfold en; rw [List.map_take, List.map_drop]
theorem rem_at {l : List E} {A B : List E} {x : E} (nd : l.Nodup) (h : l = A ++ x :: B) {k : Nat} (hk : l[k]? = some x) : l.take k ++ l.drop (k + 1) = A ++ B := by
  have hA : l[A.length]? = some x := by rw [h, List.getElem?_append_right (Nat.le_refl _), Nat.sub_self]; rfl
  have : k = A.length := (List.getElem?_inj (List.getElem?_eq_some_iff.1 hk).1 nd).1 (hk.trans hA.symm)
  subst this
  rw [h, List.take_left]
  congr 1
  rw [show A ++ x :: B = (A ++ [x]) ++ B by simp, List.drop_left' (by simp)]
theorem fnd_at {n : Int} {l : List GEdge} (t : Tb n l) {u v : Int} (hne : u ≠ v) {k : Nat} {e : GEdge} (he : l[k]? = some e) (hf : fEnds u v e = true) : (en l)[k]? = some ((edg u v).U, (edg u v).V) := by
  have ok := okE_iff.1 (t.ok e (List.mem_of_getElem? he))
  unfold en
  rw [List.getElem?_map, he]
  unfold fEnds at hf
  simp only [Bool.or_eq_true, Bool.and_eq_true, beq_iff_eq] at hf
  rcases edg_uv hne with ⟨a, b, c⟩ | ⟨a, b, c⟩ <;> simp only [Option.map_some, a, b, Option.some.injEq, Prod.mk.injEq] <;> omega
theorem TiersBack_L {g a b : GGraph} (h : GD g) (ha : GD a) (hb : GD b) (e : en b.Edges = en g.Edges) (hc : b.Config = g.Config) : ∀ (f i : Nat), b.Edges.length < i + f → i ≤ b.Edges.length → TiersBack_L1 f g a b b.Edges (b.Edges.length : Int) (i : Int) = some true
  | 0, i, _, _ => by omega
  | f + 1, i, hm, hi => by
    have hE := hb.e
    have kg := gok h.ok
    have kb := gok hb.ok
    have n1 := kg.n1
    show TiersBack_B1 (TiersBack_L1 f) _ _ _ _ _ _ = _
    unfold TiersBack_B1
    by_cases c : i < b.Edges.length
    · have c' : i < g.Edges.length := by rw [← en_eq_len e]; exact c
      obtain ⟨e1, e2⟩ := en_at e c c'
      rw [bt (lt_t c), idx_get c, some_bind', idx_get c', some_bind', gopt_some, some_bind', e1, e2, bf (by simp), wr1 i (by omega)]
      exact TiersBack_L h ha hb e hc f (i + 1) (by omega) c
    · have rgb : Rg g.Config.N (kf b) := by have := fo_Rg kb.rg b.Config.L; rw [hc] at this; unfold kf; rw [hc]; exact this
      have hsub : ∀ q, q ∈ kf b → q ∈ b.Edges := fun q hq => mem_fo hq
      rw [bf (lt_f c), searchRight_eq ha.e ha.h, ha.ok, some_bind', searchRight_eq hb.e hb.h, hb.ok, gtt, some_bind', grB_kept hb, Bool.and_self, gtt, some_bind', ref09Of_pt (by omega) kg.n2 h.e kg.rg, gtt, some_bind', hc,
        partRefines_eq (by omega) kg.n2 rgb kg.rg (fun x y q => by rw [← e]; exact q.mono (en_sub hsub)), gtt, some_bind', law15Awake_eq]; rfl
theorem TiersBack_p (g : GGraph) (hw : HW g) (u v : Int) : TiersBack_m g u v = some true := by
  have hFU := FU
  unfold TiersBack_m
  obtain ⟨b, hb, hs⟩ := ref14Small_eq g
  rw [hb, some_bind', law15Awake_eq]
  cases b with
  | false => rfl
  | true =>
    obtain ⟨s1, s2, s3, s4, s5⟩ := hs rfl
    rw [searchRight_eq (by omega) (by omega)]
    cases hg : grB g with
    | false => rfl
    | true =>
      have h := GD.of_small hw hg s4 s5
      have same : ref15Same_m g g = some true := by rw [ref15Same_eq _ _ h.e h.h, decide_eq_true rfl]
      obtain ⟨⟨a, ae⟩, a1, a2⟩ := tiersInsert_eq h (by omega) u v
      rw [show ((!true) == false) = true from rfl, gt' rfl, some_bind', bf (by rfl), a1, some_bind']
      simp only []
      rcases a2 with ⟨h1, a2⟩ | ⟨h1, h2, a2⟩ | ⟨h1, h2, h3, a2⟩ | ⟨h1, h2, h3, l', g2, h4, hg', h5, h6, a2⟩ <;> cases a2
      · rw [bt (by rfl), same]; rfl
      · rw [bt (by rfl), same]; rfl
      · rw [bt (by rfl), same]; rfl
      · have F := h5.facts (gok hg'.ok).gc (Int.le_refl _)
        have k6 := gok h6.ok
        have tb6 := k6.gc.ti.tb
        have cg : a.Config = g.Config := F.al.c
        have hen : en a.Edges = en l' := F.al.e
        have hlen : a.Edges.length = g.Edges.length + 1 := by rw [en_eq_len hen, h4.len]
        obtain ⟨A, B, ea, eb⟩ := h4.en
        obtain ⟨⟨b, be⟩, b1, b2⟩ := tiersDelete_eq h6 v u
        rw [bf (by rfl), b1, some_bind']
        simp only []
        have hv : vtx a.Config.N v u := by rw [cg]; exact vtx_comm.1 h1
        have hx : ∃ q, q ∈ a.Edges ∧ fEnds v u q = true := by
          have : ((edg u v).U, (edg u v).V) ∈ en a.Edges := by rw [hen, eb]; simp
          obtain ⟨q, q1, q2⟩ := mem_en.1 this
          refine ⟨q, q1, ?_⟩
          injection q2 with q2 q3
          unfold fEnds
          simp only [Bool.or_eq_true, Bool.and_eq_true, beq_iff_eq]
          rcases edg_uv h2 with ⟨x, y, _⟩ | ⟨x, y, _⟩ <;> omega
        rcases b2 with ⟨q1, b2⟩ | ⟨q1, q2, b2⟩ | ⟨q1, k, g3, q2, q3, q4, q5, b2⟩ <;> cases b2
        · exact absurd hv q1
        · obtain ⟨q, x1, x2⟩ := hx
          have := fnd_no q2 q x1
          rw [x2] at this; cases this
        · obtain ⟨e, r1, r2, _⟩ := rem_parts q2
          have G := q4.facts (gok q3.ok).gc (Int.le_refl _)
          have hat := fnd_at tb6 h2 r1 (by rw [fEnds_comm]; exact r2)
          have e3 : en b.Edges = en g.Edges := by
            refine G.al.e.trans ?_
            show en (a.Edges.take k ++ a.Edges.drop (k + 1)) = _
            rw [en_rem, ea]
            exact rem_at tb6.nodup (hen.trans eb) hat
          have cb : b.Config = g.Config := G.al.c.trans cg
          rw [en_eq_len e3, bf (by simp)]
          have := TiersBack_L h h6 q5 e3 cb FUEL 0 (by have := h.e; rw [en_eq_len e3]; omega) (Nat.zero_le _)
          rw [en_eq_len e3] at this
          exact this
theorem TiersBack_w (g : GGraph) (u v : Int) {P1 P2 P3 A B : Prop} (w : WG g P1 P2 P3) (_ : A) (_ : B) : TiersBack_m g u v = some true := TiersBack_p g w.hw u v
theorem TiersEnds_w (g : GGraph) (u v : Int) {P1 P2 P3 A B : Prop} (w : WG g P1 P2 P3) (_ : A) (_ : B) : TiersEnds_m g u v = some true := TiersEnds_p g w.hw u v
theorem TiersMend_w (g : GGraph) (u v : Int) {P1 P2 P3 A B : Prop} (w : WG g P1 P2 P3) (_ : A) (_ : B) : TiersMend_m g u v = some true := TiersMend_p g w.hw u v
theorem AuditMends_w (g : GGraph) (u v : Int) {P1 P2 P3 A B : Prop} (w : WG g P1 P2 P3) (_ : A) (_ : B) : AuditMends_m g u v = some true := AuditMends_p g w.hw u v
end Go.Proofs.Ytibnmlbjahcjmaa
