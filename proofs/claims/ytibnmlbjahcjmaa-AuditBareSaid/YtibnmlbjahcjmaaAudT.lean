/- The laws AuditTells, AuditThree, AuditBare, in plain Lean. -/
import Derived.Test.YtibnmlbjahcjmaaAudS
set_option linter.unusedVariables false
set_option linter.unusedSimpArgs false
set_option maxRecDepth 20000
set_option maxHeartbeats 1000000
namespace Go.Proofs.Ytibnmlbjahcjmaa
open Go Go.AM Go.Pl Go.Pt

theorem AuditTells_w (g : GGraph) {W : Prop} (_ : W) : AuditTells_m g = some true := by
  unfold AuditTells_m
  obtain ⟨b, hb, hs⟩ := ref14Small_eq g
  rw [hb, some_bind', law20Awake_eq]
  cases b with
  | false => rfl
  | true =>
    obtain ⟨s1, s2, s3, s4, s5⟩ := hs rfl
    have hE : g.Edges.length < 1000000000 := by omega
    have hH : g.Hashes.length < 1000000000 := by omega
    rw [bf (c := !true) rfl, auditSo_eq hE hH, some_bind', auditBetween_eq hE hH, some_bind', ref14Right_eq hE hH, some_bind', auditExact_eq hE hH, auditMissing_eq hE hH]
    cases h : grB g with
    | false => rfl
    | true =>
      have k := gok h
      have n0 : 0 ≤ g.Config.N := by have := k.n1; omega
      have h1 := cl_le (n := g.Config.N.toNat) (en (kf g))
      have h2 := cl_le (n := g.Config.N.toNat) (en g.Edges)
      have hl : (btw (partf (en (kf g))) g.Edges).length < 1000000000 := by have := List.length_filter_le (fun e : GEdge => partf (en (kf g)) e.U != partf (en (kf g)) e.V) g.Edges; unfold btw; omega
      have hN := k.n2
      rw [bf (c := !true) rfl, ref15Kept_eq hE k, some_bind', ref20So_eq hE k, some_bind']
      simp only [if_true, Bool.true_and]
      rw [ref06Same_eq _ _ (pt_len' hN _), ref06Same_eq _ _ (pt_len' hN _), ref20Classes_eq n0 hN, ref20Classes_eq n0 hN, ref20Between_eq hE k]
      have hw : IntKind.i64.wrap ((cl g.Config.N.toNat (en (kf g)) : Int) - cl g.Config.N.toNat (en g.Edges)) = (cl g.Config.N.toNat (en (kf g)) : Int) - cl g.Config.N.toNat (en g.Edges) := wr0 (by omega) (by omega)
      have hsame := ref03Same_eq (btw (partf (en (kf g))) g.Edges) (btw (partf (en (kf g))) g.Edges) hl
      simp only [decide_true, some_bind', gopt, beq_self_eq_true, cond_true, Bool.true_and, Bool.and_true, hw, hsame]

/-! Fewer edges, more classes. -/
theorem cl_app_le {n : Nat} {l : List E} : ∀ (a : List E), InR n (a ++ l) → cl n (a ++ l) ≤ cl n l
  | [], _ => Nat.le_refl _
  | e :: a, h => by
    have h1 := cl_cons (l := a ++ l) h
    have h2 := cl_app_le a (InR.tail h)
    have : cl n (e :: a ++ l) = cl n (e :: (a ++ l)) := rfl
    rw [this]
    split at h1 <;> omega
theorem cl_app_eq {n : Nat} {l : List E} : ∀ (a : List E), InR n (a ++ l) → cl n (a ++ l) = cl n l → ∀ e, e ∈ a → Conn l e.1 e.2
  | [], _, _, e, he => by cases he
  | x :: a, h, hq, e, he => by
    have h1 := cl_cons (l := a ++ l) h
    have h2 := cl_app_le a (InR.tail h)
    have h3 : cl n (x :: (a ++ l)) = cl n l := hq
    have h4 : cl n (a ++ l) = cl n l := by split at h1 <;> omega
    have ih := cl_app_eq a (InR.tail h) h4
    rcases List.mem_cons.1 he with q | q
    · subst q
      have hc : partf (a ++ l) e.1 = partf (a ++ l) e.2 := Classical.byContradiction fun c => by rw [if_neg c] at h1; omega
      refine ((partf_iff _).1 hc).bind fun c d hm => ?_
      rcases List.mem_append.1 hm with m | m
      · exact ih _ m
      · exact .one m
    · exact ih e q
theorem cl_app_many {n : Nat} {l : List E} : ∀ (a : List E), InR n (a ++ l) → cl n l ≤ cl n (a ++ l) + a.countP (fun e => partf l e.1 != partf l e.2)
  | [], _ => Nat.le_add_right _ _
  | e :: a, h => by
    have h1 := cl_cons (l := a ++ l) h
    have h2 := cl_app_many a (InR.tail h)
    have : cl n (e :: a ++ l) = cl n (e :: (a ++ l)) := rfl
    rw [this, List.countP_cons]
    by_cases q : partf l e.1 = partf l e.2
    · have : partf (a ++ l) e.1 = partf (a ++ l) e.2 := (partf_iff _).2 (((partf_iff _).1 q).mono fun _ h => by simp [h])
      rw [if_pos this] at h1
      omega
    · have : (partf l e.1 != partf l e.2) = true := by simp [q]
      rw [this, if_pos rfl]
      split at h1 <;> omega
/-- l within l': as many classes just if the same ones are connected. -/
theorem app_conn {l l' : List E} (h : ∀ e, e ∈ l → e ∈ l') (x y : Int) : Conn (l' ++ l) x y ↔ Conn l' x y := conn_mem (fun e => by simp; exact h e) x y
theorem InR.app {n : Nat} {l l' : List E} (h : ∀ e, e ∈ l → e ∈ l') (hr : InR n l') : InR n (l' ++ l) := fun e he => by
  rcases List.mem_append.1 he with m | m
  · exact hr e m
  · exact hr e (h e m)
theorem cl_sub_le {n : Nat} {l l' : List E} (h : ∀ e, e ∈ l → e ∈ l') (hr : InR n l') : cl n l' ≤ cl n l := by
  rw [← cl_congr (app_conn h)]; exact cl_app_le l' (InR.app h hr)
theorem cl_sub_eq {n : Nat} {l l' : List E} (h : ∀ e, e ∈ l → e ∈ l') (hr : InR n l') (hq : cl n l' = cl n l) : ∀ e, e ∈ l' → Conn l e.1 e.2 :=
  cl_app_eq l' (InR.app h hr) (by rw [cl_congr (app_conn h)]; exact hq)
theorem cl_sub_many {n : Nat} {l l' : List E} (h : ∀ e, e ∈ l → e ∈ l') (hr : InR n l') : cl n l ≤ cl n l' + l'.countP (fun e => partf l e.1 != partf l e.2) := by
  have := cl_app_many l' (InR.app h hr); rw [cl_congr (app_conn h)] at this; exact this
theorem cl_conn {n : Nat} {l l' : List E} (h : ∀ e, e ∈ l → e ∈ l') (hr : InR n l') (hq : ∀ e, e ∈ l' → Conn l e.1 e.2) : cl n l' = cl n l :=
  cl_congr fun x y => ⟨fun k => k.bind fun a b hm => hq _ hm, fun k => k.mono h⟩

theorem en_sub {l l' : List GEdge} (h : ∀ e, e ∈ l → e ∈ l') : ∀ e, e ∈ en l → e ∈ en l' := fun e he => by
  unfold en at *
  obtain ⟨x, hx, rfl⟩ := List.mem_map.1 he
  exact List.mem_map.2 ⟨x, h x hx, rfl⟩
theorem btw_len (p : Int → Int) (l : List GEdge) : (btw p l).length = (en l).countP fun e => p e.1 != p e.2 := by
  unfold btw en; rw [List.countP_map, List.countP_eq_length_filter]; rfl
theorem btw_nil {p : Int → Int} {l : List GEdge} : (btw p l).length = 0 ↔ ∀ e, e ∈ en l → p e.1 = p e.2 := by
  rw [btw_len, List.countP_eq_zero]
  constructor
  · intro h e he; have := h e he; simpa using this
  · intro h e he; have := h e he; simp [this]
/-- Exact, by classes and by what is between. -/
theorem exact_iff {n : Int} (h0 : 0 ≤ n) {l l' : List GEdge} (h : ∀ e, e ∈ l → e ∈ l') (hr : Rg n l') : (pt n l = pt n l' ↔ cl n.toNat (en l) = cl n.toNat (en l')) ∧ (pt n l = pt n l' ↔ (btw (partf (en l)) l').length = 0) := by
  have hs := en_sub h
  have hi := hr.inR h0
  have a1 : pt n l = pt n l' → ∀ e, e ∈ en l' → partf (en l) e.1 = partf (en l) e.2 := by
    intro q e he
    have r := hi e he
    have q1 := pt_idx (n := n) (l := l) (x := e.1) r.1 (by omega)
    have q2 := pt_idx (n := n) (l := l) (x := e.2) r.2.2.1 (by omega)
    have q3 := pt_idx (n := n) (l := l') (x := e.1) r.1 (by omega)
    have q4 := pt_idx (n := n) (l := l') (x := e.2) r.2.2.1 (by omega)
    rw [q, q3] at q1
    rw [q, q4] at q2
    have e1 := Option.some.inj q1
    have e2 := Option.some.inj q2
    have e3 : partf (en l') e.1 = partf (en l') e.2 := (partf_iff _).2 (.one he)
    omega
  have a2 : (∀ e, e ∈ en l' → partf (en l) e.1 = partf (en l) e.2) → ∀ x y, Conn (en l) x y ↔ Conn (en l') x y := fun q x y => ⟨fun k => k.mono hs, fun k => k.bind fun a b hm => (partf_iff _).1 (q (a, b) hm)⟩
  have a3 : (∀ x y, Conn (en l) x y ↔ Conn (en l') x y) → pt n l = pt n l' := fun q => by unfold pt; rw [partf_congr q]
  refine ⟨⟨fun q => cl_congr (a2 (a1 q)), fun q => a3 (a2 fun e he => (partf_iff _).2 (cl_sub_eq hs hi q.symm e he))⟩, ⟨fun q => btw_nil.2 (a1 q), fun q => a3 (a2 (btw_nil.1 q))⟩⟩
theorem partRefines_L {n : Int} (h0 : 0 ≤ n) (hn : n ≤ 1024) {l l' : List GEdge} (hr : Rg n l) (h : ∀ x y, Conn (en l) x y → Conn (en l') x y) : ∀ (m i : Nat), n.toNat < i + m → i ≤ n.toNat → partRefines_L1 m (pt n l') (pt n l) ((pt n l).length : Int) (i : Int) = some true
  | 0, i, _, _ => by omega
  | m + 1, i, hm, hi => by
    show partRefines_B1 (partRefines_L1 m) _ _ _ _ = _
    have hlen := pt_len n l
    unfold partRefines_B1
    by_cases c : i < n.toNat
    · have r := pf_rg hr (x := (i : Int)) (by omega) (by omega)
      have e : partf (en l') (i : Int) = partf (en l') (partf (en l) i) := (partf_iff _).2 (h _ _ (partf_conn _ _))
      rw [bt (by rw [hlen]; exact lt_t c), pt_idx (by omega) (by omega), some_bind', pt_idx (by omega) (by omega), some_bind', pt_idx r.1 r.2, some_bind', bf (by simp [e]), wr1 i (by omega)]
      exact partRefines_L h0 hn hr h m (i + 1) (by omega) (by omega)
    · rw [bf (by rw [hlen]; exact lt_f c)]
theorem partRefines_eq {n : Int} (h0 : 0 ≤ n) (hn : n ≤ 1024) {l l' : List GEdge} (hr : Rg n l) (hr' : Rg n l') (h : ∀ x y, Conn (en l) x y → Conn (en l') x y) : partRefines_m (pt n l) (pt n l') = some true := by
  have hFU := FU
  unfold partRefines_m
  rw [partRight_pt h0 hn hr, some_bind', partRight_pt h0 hn hr', gt' (by rfl), some_bind', bf (by rw [pt_len, pt_len]; simp), show (0 : Int) = ((0 : Nat) : Int) from rfl]
  exact partRefines_L h0 hn hr h FUEL 0 (by omega) (Nat.zero_le _)
theorem AuditThree_w (g : GGraph) {W : Prop} (_ : W) : AuditThree_m g = some true := by
  unfold AuditThree_m
  obtain ⟨b, hb, hs⟩ := ref14Small_eq g
  rw [hb, some_bind', law20Awake_eq]
  cases b with
  | false => rfl
  | true =>
    obtain ⟨s1, s2, s3, s4, s5⟩ := hs rfl
    have hE : g.Edges.length < 1000000000 := by omega
    have hH : g.Hashes.length < 1000000000 := by omega
    rw [ref14Right_eq hE hH]
    cases h : grB g with
    | false => rfl
    | true =>
      have k := gok h
      have n0 : 0 ≤ g.Config.N := by have := k.n1; omega
      have hsub : ∀ e, e ∈ kf g → e ∈ g.Edges := fun e he => mem_fo he
      have h1 := cl_sub_le (en_sub hsub) (k.rg.inR n0)
      have h2 := cl_sub_many (en_sub hsub) (k.rg.inR n0)
      rw [← btw_len] at h2
      obtain ⟨x1, x2⟩ := exact_iff n0 hsub k.rg
      rw [gt' (by rfl), some_bind', bf (by rfl), auditExact_eq hE hH, some_bind', tiersKept_eq hE hH, some_bind', auditSo_eq hE hH, some_bind', auditMissing_eq hE hH, auditBetween_eq hE hH, h]
      simp only [if_true, Bool.true_and]
      rw [partRefines_eq (l := kf g) n0 k.n2 (fo_Rg k.rg _) k.rg (fun x y c => c.mono (en_sub hsub)), some_bind', gtt, some_bind']
      by_cases q : pt g.Config.N (kf g) = pt g.Config.N g.Edges
      · have q1 := x1.1 q
        have q2 := x2.1 q
        simp [q, q1, q2, gopt]
      · have q1 : ¬ cl g.Config.N.toNat (en (kf g)) = cl g.Config.N.toNat (en g.Edges) := fun c => q (x1.2 c)
        have q2 : ¬ (btw (partf (en (kf g))) g.Edges).length = 0 := fun c => q (x2.2 c)
        have e1 : (((cl g.Config.N.toNat (en (kf g)) : Int) - cl g.Config.N.toNat (en g.Edges)) == 0) = false := by simp; omega
        have e2 : (((btw (partf (en (kf g))) g.Edges).length : Int) == 0) = false := beq_false_of_ne (by omega)
        have e3 : decide (0 ≤ (cl g.Config.N.toNat (en (kf g)) : Int) - cl g.Config.N.toNat (en g.Edges)) = true := decide_eq_true (by omega)
        have e4 : decide ((cl g.Config.N.toNat (en (kf g)) : Int) - cl g.Config.N.toNat (en g.Edges) ≤ ((btw (partf (en (kf g))) g.Edges).length : Int)) = true := decide_eq_true (by omega)
        simp only [gopt, some_bind', e1, e2, e3, e4, q, decide_false, beq_self_eq_true, cond_true, Bool.and_self, Bool.true_and, Bool.and_true]

/-! Edges of no tier. -/
def bare (l : List GEdge) : List GEdge := l.map fun e => GEdge.mk e.U e.V 0
theorem bare_len (l : List GEdge) : (bare l).length = l.length := by simp [bare]
theorem bare_en (l : List GEdge) : en (bare l) = en l := by simp [bare, en, Function.comp_def]
theorem bare_fo (l : List GEdge) {t : Int} : fo (bare l) t = [] := by
  unfold fo bare
  rw [List.filter_eq_nil_iff]
  intro e he
  obtain ⟨x, _, rfl⟩ := List.mem_map.1 he
  simp [inT]
theorem bare_trL {n : Int} : ∀ (l : List GEdge) (p q : Option GEdge), (∀ a, p = some a → ∃ b, q = some b ∧ b.U = a.U ∧ b.V = a.V) → (p = none → q = none) → trL n p l = true → trL n q (bare l) = true
  | [], p, q, _, _, _ => by cases q <;> rfl
  | e :: l, p, q, h1, h2, h => by
    rw [trL_cons] at h
    simp only [Bool.and_eq_true] at h
    show trL n q (GEdge.mk e.U e.V 0 :: bare l) = true
    rw [trL_cons, Bool.and_eq_true]
    refine ⟨?_, bare_trL l (some e) _ (fun a ha => by cases ha; exact ⟨_, rfl, rfl, rfl⟩) (fun h => by cases h) h.2⟩
    have hs := h.1
    unfold stE at hs ⊢
    simp only [Bool.and_eq_true] at hs ⊢
    refine ⟨?_, ?_⟩
    · obtain ⟨a, b, c, _⟩ := okE_iff.1 hs.1
      refine okE_iff.2 ⟨a, b, c, Int.le_refl _, ?_⟩
      show (0 : Int) ≤ 16
      decide
    · cases p with
      | none => rw [h2 rfl]
      | some a =>
        obtain ⟨b, rfl, e1, e2⟩ := h1 a rfl
        have := hs.2
        unfold lessE at this ⊢
        simp only [e1, e2]; exact this
theorem bare_ok {g : GGraph} (h : grB g = true) : grB (GGraph.mk g.Config g.Hashes (bare g.Edges)) = true := by
  have k := gok h
  unfold grB cfB at h ⊢
  simp only [Bool.and_eq_true] at h ⊢
  refine ⟨h.1, h.2.1, ?_, ?_, ?_⟩
  · have := k.tr
    unfold trB at this ⊢
    simp only [Bool.and_eq_true] at this ⊢
    exact ⟨this.1, bare_trL _ none none (fun _ h => by cases h) (fun _ => rfl) this.2⟩
  · unfold tiB bare
    rw [List.all_eq_true]
    intro e he
    obtain ⟨x, _, rfl⟩ := List.mem_map.1 he
    have := k.l1
    simp; omega
  · show foB g.Config.N (fo (bare g.Edges) g.Config.L) = true
    rw [bare_fo]
    unfold foB
    rw [show en [] = [] from rfl, cl_nil]; simp
theorem bare_btw {g : GGraph} (h : GOK g) : btw (partf []) (bare g.Edges) = bare g.Edges := by
  unfold btw
  rw [List.filter_eq_self]
  intro e he
  obtain ⟨x, hx, rfl⟩ := List.mem_map.1 he
  have := h.tr
  unfold trB at this
  simp only [Bool.and_eq_true] at this
  obtain ⟨_, b, _⟩ := okE_iff.1 (trL_mem this.2 x hx)
  show (x.U != x.V) = true
  simp; omega
theorem bare_last {g : GGraph} (h : grB g = true) (hE : g.Edges.length < 1000000000) (hH : g.Hashes.length < 1000000000) (rec1 : GGraph → List GEdge → List GEdge → Int → Int → Option Bool) :
    AuditBare_B1 rec1 g (bare g.Edges) g.Edges (g.Edges.length : Int) (g.Edges.length : Int) = some true := by
  have k := gok h
  have n0 : 0 ≤ g.Config.N := by have := k.n1; omega
  have hb := bare_ok h
  have kb := gok hb
  have hE' : (GGraph.mk g.Config g.Hashes (bare g.Edges)).Edges.length < 1000000000 := by show (bare g.Edges).length < _; rw [bare_len]; exact hE
  have hk : kf (GGraph.mk g.Config g.Hashes (bare g.Edges)) = [] := bare_fo _
  unfold AuditBare_B1
  rw [bf (by simp), auditBetween_eq hE' hH, auditMissing_eq hE' hH, auditSo_eq hE' hH, auditExact_eq hE' hH, law20Awake_eq, hb, hk]
  simp only [if_true, Bool.true_and]
  obtain ⟨x1, x2⟩ := exact_iff (l := []) n0 (fun e he => by cases he) kb.rg
  have hcl := cl_le (n := g.Config.N.toNat) (en g.Edges)
  have c0 : cl g.Config.N.toNat [] = g.Config.N.toNat := cl_nil _
  have hw : IntKind.i64.wrap (g.Config.N - (cl g.Config.N.toNat (en g.Edges) : Int)) = g.Config.N - (cl g.Config.N.toNat (en g.Edges) : Int) := wr0 (by have := k.n2; omega) (by have := k.n2; omega)
  have hcls := ref20Classes_eq n0 k.n2 (bare g.Edges)
  rw [show en [] = [] from rfl] at x1 x2 ⊢
  rw [bare_btw k, some_bind', ref03Same_eq _ _ (by rw [bare_len]; exact hE), some_bind', decide_eq_true rfl, gtt, some_bind', gtt, some_bind', gtt, hcls, some_bind', bare_en, c0, hw]
  have e1 : (((g.Config.N.toNat : Nat) : Int) - (cl g.Config.N.toNat (en g.Edges) : Int) == g.Config.N - (cl g.Config.N.toNat (en g.Edges) : Int)) = true := by simp; omega
  rw [e1]
  simp only [Bool.and_self, beq_self_eq_true, gopt, cond_true, some_bind', Bool.true_and]
  have e2 : (decide (pt g.Config.N [] = pt g.Config.N (bare g.Edges)) == (((bare g.Edges).length : Int) == 0)) = true := by
    have hbt := bare_btw k
    have x2' : pt g.Config.N [] = pt g.Config.N (bare g.Edges) ↔ (btw (partf []) (bare g.Edges)).length = 0 := x2
    rw [hbt] at x2'
    by_cases q : (bare g.Edges).length = 0
    · rw [decide_eq_true (x2'.2 q), q]; rfl
    · rw [decide_eq_false (fun c => q (x2'.1 c)), show (((bare g.Edges).length : Int) == 0) = false from beq_false_of_ne (by omega)]; rfl
  rw [e2]; rfl
theorem bare_L {g : GGraph} (h : grB g = true) (hE : g.Edges.length < 1000000000) (hH : g.Hashes.length < 1000000000) : ∀ (m i : Nat), g.Edges.length < i + m → i ≤ g.Edges.length → AuditBare_L1 m g (bare (g.Edges.take i)) g.Edges (g.Edges.length : Int) (i : Int) = some true
  | 0, i, hm, hi => by omega
  | m + 1, i, hm, hi => by
    show AuditBare_B1 (AuditBare_L1 m) g _ g.Edges _ _ = _
    by_cases c : i < g.Edges.length
    · unfold AuditBare_B1
      rw [bt (lt_t c), idx_get c, some_bind', app_ok (by rw [bare_len]; simp; omega), some_bind', wr1 i (by omega)]
      have e : bare (g.Edges.take i) ++ [GEdge.mk g.Edges[i].U g.Edges[i].V 0] = bare (g.Edges.take (i + 1)) := by
        rw [take_snoc c]; unfold bare; rw [List.map_append]; rfl
      rw [e]
      exact bare_L h hE hH m (i + 1) (by omega) c
    · have e : i = g.Edges.length := by omega
      subst e
      rw [List.take_length]
      exact bare_last h hE hH _
theorem AuditBare_w (g : GGraph) {W : Prop} (_ : W) : AuditBare_m g = some true := by
  unfold AuditBare_m
  obtain ⟨b, hb, hs⟩ := ref14Small_eq g
  rw [hb, some_bind', law20Awake_eq]
  cases b with
  | false => rfl
  | true =>
    obtain ⟨s1, s2, s3, s4, s5⟩ := hs rfl
    have hE : g.Edges.length < 1000000000 := by omega
    have hH : g.Hashes.length < 1000000000 := by omega
    have hFU := FU
    rw [ref14Right_eq hE hH]
    cases h : grB g with
    | false => rfl
    | true =>
      rw [gt' (by rfl), some_bind', bf (by rfl), show (0 : Int) = ((0 : Nat) : Int) from rfl]
      exact bare_L h hE hH FUEL 0 (by omega) (Nat.zero_le _)
end Go.Proofs.Ytibnmlbjahcjmaa
