/- Facts that the statement's proof is made of. No condition. -/
import Derived.Test.YtibnmlbjahcjmaaQtTiS
set_option linter.unusedVariables false
set_option linter.unusedSimpArgs false
set_option maxRecDepth 20000
set_option maxHeartbeats 1000000
namespace Go.Proofs.Ytibnmlbjahcjmaa
open Go Go.AM Go.Pl Go.Pt
theorem law15Awake_eq : law15Awake_m = some true := by decide +kernel
theorem cfg_ext (a b : GConfig) : ((a.N == b.N) && ((a.L == b.L) && (a.R == b.R))) = decide (a = b) := by
  cases a with | mk a1 a2 a3 => cases b with | mk b1 b2 b3 =>
  by_cases h1 : a1 = b1 <;> by_cases h2 : a2 = b2 <;> by_cases h3 : a3 = b3 <;> simp [h1, h2, h3]
theorem ref15Same_eq (a b : GGraph) (hE : a.Edges.length < 1000000000) (hH : a.Hashes.length < 1000000000) : ref15Same_m a b = some (decide (a = b)) := by
  unfold ref15Same_m
  rw [cfg_ext, ref14Same_eq _ _ hH, ref03Same_eq _ _ hE, gopt_some, some_bind', gopt_some, some_bind']
  cases a with | mk a1 a2 a3 => cases b with | mk b1 b2 b3 =>
  congr 1
  by_cases h1 : a1 = b1 <;> by_cases h2 : a2 = b2 <;> by_cases h3 : a3 = b3 <;> simp [h1, h2, h3]
theorem en_at {a b : List GEdge} (h : en a = en b) {i : Nat} (ha : i < a.length) (hb : i < b.length) : a[i].U = b[i].U ∧ a[i].V = b[i].V := by
  have : (en a)[i]? = (en b)[i]? := by rw [h]
  unfold en at this
  rw [List.getElem?_map, List.getElem?_map, List.getElem?_eq_getElem ha, List.getElem?_eq_getElem hb] at this
  simp only [Option.map_some, Option.some.injEq, Prod.mk.injEq] at this
  exact this
theorem en_eq_len {a b : List GEdge} (h : en a = en b) : a.length = b.length := by have := congrArg List.length h; rwa [en_len, en_len] at this
theorem kept_refines {g m : GGraph} (h : GD g) (k : GD m) (hc : m.Config = g.Config) (up : ∀ x y, GT g g.Config.L x y → GT m g.Config.L x y) : partRefines_m (pt g.Config.N (kf g)) (pt m.Config.N (kf m)) = some true := by
  have a := gok h.ok
  have b := gok k.ok
  have := a.n1
  rw [hc]
  refine partRefines_eq (by omega) a.n2 (fo_Rg a.rg _) (by have := fo_Rg b.rg m.Config.L; rw [hc] at this; unfold kf; rw [hc]; exact this) fun x y q => ?_
  unfold kf; rw [hc]
  exact up x y q
theorem grB_kept {g : GGraph} (h : GD g) : tiersKept_m g = some (pt g.Config.N (kf g)) := by rw [tiersKept_eq h.e h.h, h.ok]; rfl
theorem GD.of_small {g : GGraph} (hw : HW g) (ok : grB g = true) (s4 : g.Edges.length ≤ 40) (s5 : g.Hashes.length ≤ 20) : GD g := ⟨ok, hw, by omega, by omega⟩
theorem TiersMend_L {g m : GGraph} (h : GD g) (k : GD m) (al : Alk g m) (up : ∀ x y, GT g g.Config.L x y → GT m g.Config.L x y) : ∀ (f i : Nat), m.Edges.length < i + f → i ≤ m.Edges.length → TiersMend_L1 f g m m.Edges (m.Edges.length : Int) (i : Int) = some true
  | 0, i, _, _ => by omega
  | f + 1, i, hm, hi => by
    have hE := k.e
    show TiersMend_B1 (TiersMend_L1 f) _ _ _ _ _ = _
    unfold TiersMend_B1
    by_cases c : i < m.Edges.length
    · have c' : i < g.Edges.length := by rw [← en_eq_len al.e]; exact c
      obtain ⟨e1, e2⟩ := en_at al.e c c'
      rw [bt (lt_t c), idx_get c, some_bind', idx_get c', some_bind', gopt_some, some_bind', e1, e2, bf (by simp), wr1 i (by omega)]
      exact TiersMend_L h k al up f (i + 1) (by omega) c
    · rw [bf (lt_f c), grB_kept h, some_bind', grB_kept k, some_bind', kept_refines h k al.c up, some_bind', law15Awake_eq]; rfl
theorem TiersMend_p (g : GGraph) (hw : HW g) (u v : Int) : TiersMend_m g u v = some true := by
  have hFU := FU
  unfold TiersMend_m
  obtain ⟨b, hb, hs⟩ := ref14Small_eq g
  rw [hb, some_bind', law15Awake_eq]
  cases b with
  | false => rfl
  | true =>
    obtain ⟨s1, s2, s3, s4, s5⟩ := hs rfl
    rw [searchRight_eq (by omega) (by omega)]
    cases hg : grB g with
    | false => rfl
    | true =>
      have h := GD.of_small hw hg s4 s5
      obtain ⟨m1, m2⟩ := tiersMend_eq h u v
      rw [show ((!true) == false) = true from rfl, gt' rfl, some_bind', bf (by rfl)]
      by_cases c : vtx g.Config.N u v
      · obtain ⟨m, a1, a2, a3⟩ := m1 c
        have F := a2.facts (gok hg).gc (Int.le_refl _)
        have hE := a3.e
        rw [a1, some_bind']
        simp only []
        rw [bf (by rfl), searchRight_eq a3.e a3.h, gopt_some, some_bind', a3.ok, en_eq_len F.al.e, bf (by simp)]
        have := TiersMend_L h a3 F.al (fun x y q => F.up _ _ _ q) FUEL 0 (by omega) (Nat.zero_le _)
        rw [en_eq_len F.al.e] at this
        exact this
      · rw [m2 c, some_bind']
        simp only []
        rw [bt (by rfl), ref15Same_eq _ _ h.e h.h, some_bind', decide_eq_true rfl]; rfl
theorem cl_mono {n : Nat} {l l' : List E} (hr : InR n (l' ++ l)) (h : ∀ x y, Conn l x y → Conn l' x y) : cl n l' ≤ cl n l := by
  have : cl n (l' ++ l) = cl n l' := cl_congr fun x y => ⟨fun k => k.bind fun a b hm => by
    rcases List.mem_append.1 hm with m | m
    · exact .one m
    · exact h _ _ (.one m), fun k => k.mono fun e he => by simp [he]⟩
  rw [← this]; exact cl_app_le l' hr
theorem AuditMends_p (g : GGraph) (hw : HW g) (u v : Int) : AuditMends_m g u v = some true := by
  unfold AuditMends_m
  obtain ⟨b, hb, hs⟩ := ref14Small_eq g
  rw [hb, some_bind', law20Awake_eq]
  cases b with
  | false => rfl
  | true =>
    obtain ⟨s1, s2, s3, s4, s5⟩ := hs rfl
    rw [ref14Right_eq (by omega) (by omega)]
    cases hg : grB g with
    | false => rfl
    | true =>
      have h := GD.of_small hw hg s4 s5
      have k := gok hg
      have n1 := k.n1
      have n0 : 0 ≤ g.Config.N := by omega
      obtain ⟨m1, m2⟩ := tiersMend_eq h u v
      have key : ∃ m e, tiersMend_m g u v = some (m, e) ∧ GD m ∧ Alk g m ∧ ∀ x y, GT g g.Config.L x y → GT m g.Config.L x y := by
        by_cases c : vtx g.Config.N u v
        · obtain ⟨m, a1, a2, a3⟩ := m1 c
          have F := a2.facts k.gc (Int.le_refl _)
          exact ⟨m, 0, a1, a3, F.al, fun x y q => F.up _ _ _ q⟩
        · exact ⟨g, 1, m2 c, h, .refl _, fun x y q => q⟩
      obtain ⟨m, e, a1, a3, al, up⟩ := key
      have km := gok a3.ok
      have hsub : ∀ e, e ∈ kf g → e ∈ g.Edges := fun e he => mem_fo he
      have hsubm : ∀ e, e ∈ kf m → e ∈ m.Edges := fun e he => mem_fo he
      have rgm : Rg g.Config.N m.Edges := by have := km.rg; rw [al.c] at this; exact this
      have hkm : kf m = fo m.Edges g.Config.L := by unfold kf; rw [al.c]
      have x1 := cl_mono (n := g.Config.N.toNat) (l := en (kf g)) (l' := en (kf m)) (fun q hq => by
        rcases List.mem_append.1 hq with q' | q'
        · exact (Rg.inR (rgm.mono hsubm) n0) q q'
        · exact (Rg.inR (k.rg.mono hsub) n0) q q') (fun x y q => by rw [hkm]; exact up x y q)
      have hso : pt g.Config.N m.Edges = pt g.Config.N g.Edges := by unfold pt; rw [al.e]
      have hen := al.e
      rw [show ((!true) == false) = true from rfl, gt' rfl, some_bind', bf (by rfl), a1, some_bind']
      simp only []
      rw [auditMissing_eq a3.e a3.h, some_bind', auditMissing_eq h.e h.h, some_bind', auditSo_eq a3.e a3.h, auditSo_eq h.e h.h, a3.ok, hg]
      simp only [if_true]
      rw [gopt_some, some_bind', gopt_some, some_bind', al.c, hso, hen]
      have d1 : decide ((cl g.Config.N.toNat (en (kf m)) : Int) - (cl g.Config.N.toNat (en g.Edges) : Int) ≤ (cl g.Config.N.toNat (en (kf g)) : Int) - (cl g.Config.N.toNat (en g.Edges) : Int)) = true := by
        rw [decide_eq_true_iff]; omega
      rw [d1]
      have pl := pt_len' k.n2 g.Edges
      simp only [beq_self_eq_true, cond_true]
      rw [ref06Same_eq _ _ pl, gt' rfl, some_bind', decide_eq_true rfl, auditExact_eq h.e h.h, auditExact_eq a3.e a3.h, hg, a3.ok, al.c, hso]
      simp only [Bool.true_and, beq_self_eq_true]
      rw [gt' rfl, some_bind']
      by_cases q : pt g.Config.N (kf g) = pt g.Config.N g.Edges
      · have q2 : pt g.Config.N (kf m) = pt g.Config.N g.Edges := by
          rw [← hso]
          have E1 := (exact_iff n0 hsub k.rg).1
          have E2 := (exact_iff n0 hsubm rgm).1
          have c1 := E1.1 q
          have c2 := cl_sub_le (en_sub hsubm) (rgm.inR n0)
          rw [hen] at c2
          exact E2.2 (by rw [hen]; omega)
        rw [decide_eq_true q, decide_eq_true q2]; rfl
      · rw [decide_eq_false q]; rfl
def InsO (g : GGraph) (u v : Int) (r : GGraph × Int) : Prop :=
  (¬ vtx g.Config.N u v ∧ r = (g, 1)) ∨ (vtx g.Config.N u v ∧ u = v ∧ r = (g, 8)) ∨ (vtx g.Config.N u v ∧ u ≠ v ∧ (∃ e, e ∈ g.Edges ∧ fEnds u v e = true) ∧ r = (g, 4)) ∨
    (vtx g.Config.N u v ∧ u ≠ v ∧ (∀ e, e ∈ g.Edges → fEnds u v e = false) ∧ ∃ l' g2, AddR g.Edges (edg u v) l' ∧ GD ⟨g.Config, g.Hashes, l'⟩ ∧ Mends u v 0 ⟨g.Config, g.Hashes, l'⟩ g2 ∧ GD g2 ∧ r = (g2, 0))
theorem tiersInsert_eq {g : GGraph} (h : GD g) (hl : g.Edges.length + 1 < 1000000000) (u v : Int) : ∃ r, tiersInsert_m g u v = some r ∧ InsO g u v r := by
  have k := gok h.ok
  unfold tiersInsert_m
  rw [tiersFits_eq h.e h.h, some_bind']
  by_cases c : vtx g.Config.N u v
  · have c0 := c
    unfold vtx at c
    obtain ⟨r, r1, r2⟩ := tableAdd_eq k.tr hl u v
    rw [decide_eq_true ⟨h.ok, c⟩, bf (c := !true) rfl, r1, some_bind']
    rcases r2 with ⟨h1, rfl⟩ | ⟨h1, h2, rfl⟩ | ⟨h1, h2, h3, rfl⟩ | ⟨h1, h2, h3, l', h4, rfl⟩
    · exact absurd c0 h1
    · exact ⟨_, rfl, .inr (.inl ⟨c0, h2, rfl⟩)⟩
    · exact ⟨_, rfl, .inr (.inr (.inl ⟨c0, h2, h3, rfl⟩))⟩
    · have hg := add_GD h c0 h2 h3 h4 hl
      obtain ⟨g2, m1, m2, m3⟩ := mended_eq hg c.1 c.2.1 c.2.2.1 c.2.2.2
      simp only []
      rw [bf (by rfl), m1, some_bind']
      exact ⟨_, rfl, .inr (.inr (.inr ⟨c0, h2, h3, l', g2, h4, hg, m2, m3, rfl⟩))⟩
  · rw [decide_eq_false (fun q => c q.2)]
    exact ⟨_, rfl, .inl ⟨c, rfl⟩⟩
def DelO (g : GGraph) (u v : Int) (r : GGraph × Int) : Prop :=
  (¬ vtx g.Config.N u v ∧ r = (g, 1)) ∨ (vtx g.Config.N u v ∧ fnd (fEnds u v) g.Edges 0 = none ∧ r = (g, 9)) ∨
    (vtx g.Config.N u v ∧ ∃ k g2, fnd (fEnds u v) g.Edges 0 = some k ∧ GD ⟨g.Config, g.Hashes, g.Edges.take k ++ g.Edges.drop (k + 1)⟩ ∧ Mends u v 0 ⟨g.Config, g.Hashes, g.Edges.take k ++ g.Edges.drop (k + 1)⟩ g2 ∧ GD g2 ∧ r = (g2, 0))
theorem tiersDelete_eq {g : GGraph} (h : GD g) (u v : Int) : ∃ r, tiersDelete_m g u v = some r ∧ DelO g u v r := by
  have k := gok h.ok
  unfold tiersDelete_m
  rw [tiersFits_eq h.e h.h, some_bind']
  by_cases c : vtx g.Config.N u v
  · have c0 := c
    unfold vtx at c
    obtain ⟨r, r1, r2⟩ := tableRemove_eq k.tr h.e u v
    rw [decide_eq_true ⟨h.ok, c⟩, bf (c := !true) rfl, r1, some_bind']
    rcases r2 with ⟨h1, rfl⟩ | ⟨h1, h2, rfl⟩ | ⟨h1, j, h2, rfl⟩
    · exact absurd c0 h1
    · exact ⟨_, rfl, .inr (.inl ⟨c0, h2, rfl⟩)⟩
    · have hg := rem_GD h h2
      obtain ⟨g2, m1, m2, m3⟩ := mended_eq hg c.1 c.2.1 c.2.2.1 c.2.2.2
      simp only []
      rw [bf (by rfl), m1, some_bind']
      exact ⟨_, rfl, .inr (.inr ⟨c0, j, g2, h2, hg, m2, m3, rfl⟩)⟩
  · rw [decide_eq_false (fun q => c q.2)]
    exact ⟨_, rfl, .inl ⟨c, rfl⟩⟩
theorem vtx_comm {n u v : Int} : vtx n u v ↔ vtx n v u := by unfold vtx; omega
theorem fEnds_comm (u v : Int) (e : GEdge) : fEnds u v e = fEnds v u e := by unfold fEnds; exact Bool.or_comm _ _
theorem fEnds_comm' (u v : Int) : fEnds u v = fEnds v u := funext (fEnds_comm u v)
theorem edg_comm (u v : Int) (h : u ≠ v) : edg u v = edg v u := by
  unfold edg
  by_cases c : v < u
  · rw [if_pos c, if_neg (by omega), if_neg (by omega), if_pos c]
  · rw [if_neg c, if_pos (by omega), if_pos (by omega), if_neg c]
theorem ins_comm {g : GGraph} {u v : Int} {a b : GGraph × Int} (h : InsO g u v a) (k : InsO g v u b) : a.2 = b.2 ∧ en a.1.Edges = en b.1.Edges ∧ ((a.2 = 0 ∧ a.1.Edges.length = g.Edges.length + 1) ∨ (a.2 ≠ 0 ∧ a.1 = g)) := by
  have vc := vtx_comm (n := g.Config.N) (u := u) (v := v)
  rcases h with ⟨h1, rfl⟩ | ⟨h1, h2, rfl⟩ | ⟨h1, h2, ⟨e, h3, h4⟩, rfl⟩ | ⟨h1, h2, h3, x, g2, h4, hg, h5, h6, rfl⟩ <;> rcases k with ⟨k1, rfl⟩ | ⟨k1, k2, rfl⟩ | ⟨k1, k2, ⟨f, k3, k4⟩, rfl⟩ | ⟨k1, k2, k3, y, g3, k4, kg, k5, k6, rfl⟩
  · exact ⟨rfl, rfl, .inr ⟨by simp, rfl⟩⟩
  · exact absurd (vc.2 k1) h1
  · exact absurd (vc.2 k1) h1
  · exact absurd (vc.2 k1) h1
  · exact absurd (vc.1 h1) k1
  · exact ⟨rfl, rfl, .inr ⟨by simp, rfl⟩⟩
  · exact absurd h2.symm k2
  · exact absurd h2.symm k2
  · exact absurd (vc.1 h1) k1
  · exact absurd k2.symm h2
  · exact ⟨rfl, rfl, .inr ⟨by simp, rfl⟩⟩
  · have := k3 e h3; rw [fEnds_comm, h4] at this; cases this
  · exact absurd (vc.1 h1) k1
  · exact absurd k2.symm h2
  · have := h3 f k3; rw [fEnds_comm, k4] at this; cases this
  · have e1 := edg_comm u v h2
    rw [← e1] at k4
    have := h4.uniq k4
    subst this
    have F := h5.facts (gok hg.ok).gc (Int.le_refl _)
    have G := k5.facts (gok kg.ok).gc (Int.le_refl _)
    have e2 : en g2.Edges = en x := F.al.e
    refine ⟨rfl, F.al.e.trans G.al.e.symm, .inl ⟨rfl, ?_⟩⟩
    show g2.Edges.length = _
    rw [en_eq_len e2, h4.len]
theorem del_comm {g : GGraph} {u v : Int} {a b : GGraph × Int} (h : DelO g u v a) (k : DelO g v u b) : a.2 = b.2 ∧ a.1.Edges.length = b.1.Edges.length ∧ ((a.2 = 0 ∧ a.1.Edges.length + 1 = g.Edges.length) ∨ (a.2 ≠ 0 ∧ a.1 = g)) := by
  have vc := vtx_comm (n := g.Config.N) (u := u) (v := v)
  unfold DelO at k
  rw [fEnds_comm' v u] at k
  rcases h with ⟨h1, rfl⟩ | ⟨h1, h2, rfl⟩ | ⟨h1, i, g2, h2, hg, h5, h6, rfl⟩ <;> rcases k with ⟨k1, rfl⟩ | ⟨k1, k2, rfl⟩ | ⟨k1, j, g3, k2, kg, k5, k6, rfl⟩
  · exact ⟨rfl, rfl, .inr ⟨by simp, rfl⟩⟩
  · exact absurd (vc.2 k1) h1
  · exact absurd (vc.2 k1) h1
  · exact absurd (vc.1 h1) k1
  · exact ⟨rfl, rfl, .inr ⟨by simp, rfl⟩⟩
  · rw [h2] at k2; cases k2
  · exact absurd (vc.1 h1) k1
  · rw [h2] at k2; cases k2
  · rw [h2] at k2; cases k2
    obtain ⟨e, q1, _, q3⟩ := rem_parts h2
    have F := h5.facts (gok hg.ok).gc (Int.le_refl _)
    have G := k5.facts (gok kg.ok).gc (Int.le_refl _)
    have e2 := en_eq_len F.al.e
    have e3 := en_eq_len G.al.e
    have hil := (List.getElem?_eq_some_iff.1 q1).1
    simp only [List.length_append, List.length_take, List.length_drop] at e2 e3
    refine ⟨rfl, ?_, .inl ⟨rfl, ?_⟩⟩
    · show g2.Edges.length = g3.Edges.length; omega
    · show g2.Edges.length + 1 = _; omega
theorem TiersEnds_L {g a b c : GGraph} {e h : Int} (hab : en a.Edges = en b.Edges) (hl : a.Edges.length < 1000000000) (hg : g.Edges.length < 1000000000) (h1 : (e = 0 ∧ a.Edges.length = g.Edges.length + 1) ∨ (e ≠ 0 ∧ a = g)) (h2 : (h = 0 ∧ c.Edges.length + 1 = g.Edges.length) ∨ (h ≠ 0 ∧ c = g)) : ∀ (f i : Nat), a.Edges.length < i + f → i ≤ a.Edges.length → TiersEnds_L1 f g a e b c h (a.Edges.length : Int) (i : Int) = some true
  | 0, i, _, _ => by omega
  | f + 1, i, hm, hi => by
    show TiersEnds_B1 (TiersEnds_L1 f) _ _ _ _ _ _ _ _ = _
    unfold TiersEnds_B1
    by_cases q : i < a.Edges.length
    · have q' : i < b.Edges.length := by rw [← en_eq_len hab]; exact q
      obtain ⟨e1, e2⟩ := en_at hab q q'
      rw [bt (lt_t q), idx_get q, some_bind', idx_get q', some_bind', gopt_some, some_bind', gopt_some, some_bind', e1]
      have z : (b.Edges[i].U != b.Edges[i].U) = false := by simp
      rw [z]
      simp only [beq_self_eq_true, cond_true, Bool.false_or]
      rw [e2, bf (by simp), wr1 i (by omega)]
      exact TiersEnds_L hab hl hg h1 h2 f (i + 1) (by omega) q
    · have w1 : IntKind.i64.wrap ((g.Edges.length : Int) + 1) = (g.Edges.length : Int) + 1 := wr0 (by omega) (by omega)
      have w2 : IntKind.i64.wrap ((g.Edges.length : Int) - 1) = (g.Edges.length : Int) - 1 := wr0 (by omega) (by omega)
      have d1 : ((e == 0) == ((a.Edges.length : Int) == (g.Edges.length : Int) + 1)) = true := by
        rcases h1 with ⟨p, p'⟩ | ⟨p, p'⟩
        · rw [p]; simp; omega
        · have : (e == 0) = false := beq_false_of_ne p
          have z : ((g.Edges.length : Int) == (g.Edges.length : Int) + 1) = false := beq_false_of_ne (by omega)
          rw [this, p', z]; rfl
      have d2 : ((h == 0) == ((c.Edges.length : Int) == (g.Edges.length : Int) - 1)) = true := by
        rcases h2 with ⟨p, p'⟩ | ⟨p, p'⟩
        · rw [p]; simp; omega
        · have : (h == 0) = false := beq_false_of_ne p
          have z : ((g.Edges.length : Int) == (g.Edges.length : Int) - 1) = false := beq_false_of_ne (by omega)
          rw [this, p', z]; rfl
      rw [bf (lt_f q), w1, w2, d1, d2, law15Awake_eq]; rfl
theorem TiersEnds_p (g : GGraph) (hw : HW g) (u v : Int) : TiersEnds_m g u v = some true := by
  have hFU := FU
  unfold TiersEnds_m
  obtain ⟨b, hb, hs⟩ := ref14Small_eq g
  rw [hb, some_bind', law15Awake_eq]
  cases b with
  | false => rfl
  | true =>
    obtain ⟨s1, s2, s3, s4, s5⟩ := hs rfl
    rw [searchRight_eq (by omega) (by omega)]
    cases hg : grB g with
    | false => rfl
    | true =>
      have h := GD.of_small hw hg s4 s5
      obtain ⟨⟨a, ae⟩, a1, a2⟩ := tiersInsert_eq h (by omega) u v
      obtain ⟨⟨b, be⟩, b1, b2⟩ := tiersInsert_eq h (by omega) v u
      obtain ⟨⟨c, ce⟩, c1, c2⟩ := tiersDelete_eq h u v
      obtain ⟨⟨d, de⟩, d1, d2⟩ := tiersDelete_eq h v u
      obtain ⟨i1, i2, i3⟩ := ins_comm a2 b2
      obtain ⟨j1, j2, j3⟩ := del_comm c2 d2
      simp only [] at i1 i2 i3 j1 j2 j3
      have al : a.Edges.length ≤ 41 := by
        rcases i3 with ⟨_, q⟩ | ⟨_, q⟩
        · omega
        · rw [q]; omega
      rw [show ((!true) == false) = true from rfl, gt' rfl, some_bind', bf (by rfl), a1, some_bind']
      simp only []
      rw [b1, some_bind']
      simp only []
      rw [c1, some_bind']
      simp only []
      rw [d1, some_bind']
      simp only []
      rw [i1, j1, en_eq_len i2, j2, bf (by simp)]
      have := TiersEnds_L (g := g) (a := a) (b := b) (c := c) (e := ae) (h := ce) i2 (by omega) (by omega) i3 j3 FUEL 0 (by omega) (Nat.zero_le _)
      rw [i1, j1, en_eq_len i2] at this
      exact this
end Go.Proofs.Ytibnmlbjahcjmaa
