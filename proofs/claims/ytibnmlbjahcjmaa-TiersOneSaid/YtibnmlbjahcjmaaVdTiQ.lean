/- Facts that the statement's proof is made of. No condition. -/
import Derived.Test.YtibnmlbjahcjmaaVdTiP
set_option linter.unusedVariables false
set_option linter.unusedSimpArgs false
set_option maxRecDepth 20000
set_option maxHeartbeats 1000000
namespace Go.Proofs.Ytibnmlbjahcjmaa
open Go Go.AM Go.Pl Go.Pt
section
variable {n : Int} (h0 : 0 ≤ n) (hn : n ≤ 1024) {l : List GEdge} (hl : l.length < 1000000000) (hr : Rg n l) (hne : ∀ e, e ∈ l → e.U ≠ e.V) (hf : Forest n.toNat (en l)) {v : Int}
include h0 hn hl hr hne hf
omit hl in
theorem path_L {lead : List Int} (hL : Lead (en l) n.toNat v lead) : ∀ (m : Nat) (x : Int) (path : List GEdge), 0 ≤ x → x < n → Conn (en l) x v → dep (en l) x v < m → path.length + dep (en l) x v < 1000000000 →
    ∃ p, grovePath_L1 m l v lead path x = some (path ++ p, 0) ∧ p.length ≤ dep (en l) x v ∧ ∀ e, e ∈ p ↔ ∃ j, l[j]? = some e ∧ Br (en l) x v j
  | 0, x, path, _, _, _, hm, _ => by omega
  | m + 1, x, path, x0, xn, hc, hm, hp => by
    have hrI := hr.inR h0
    show ∃ p, grovePath_B1 (grovePath_L1 m) _ _ _ _ _ = _ ∧ _ ∧ _
    unfold grovePath_B1
    by_cases e : x = v
    · subst e
      rw [bf (by simp)]
      refine ⟨[], by simp, by simp, fun e => ?_⟩
      constructor
      · intro h; cases h
      · rintro ⟨j, _, b⟩; exact absurd b (br_self j)
    · obtain ⟨i, y, a, b, c⟩ := hL.yes x x0 (by omega) hc e
      obtain ⟨g, hg, hgo⟩ := tch_en.1 b
      have hmem : g ∈ l := List.mem_of_getElem? hg
      have hd := dep_step hrI hf b c hc
      have hyr : 0 ≤ y ∧ y < n := by
        have := hr g hmem
        rcases hgo with ⟨q1, q2⟩ | ⟨q1, q2⟩ <;> omega
      have hcy : Conn (en l) y v := b.symm.conn.trans hc
      obtain ⟨p, p1, pl, p2⟩ := path_L hL m y (path ++ [g]) hyr.1 hyr.2 hcy (by omega) (by simp; omega)
      have hlead : idx lead x = some (i : Int) := by rw [idx_at (k := x.toNat) (by omega)]; exact a
      rw [bt (by simp [e]), hlead, some_bind', bf (by simp), some_bind', idx_nat, hg, some_bind', app_ok (by simp; omega), some_bind', other_tch hg (hne _ hmem) b, some_bind', p1]
      refine ⟨g :: p, by simp, by simp only [List.length_cons]; omega, fun f => ?_⟩
      rw [List.mem_cons, p2]
      constructor
      · rintro (rfl | ⟨j, q1, q2⟩)
        · exact ⟨i, hg, c⟩
        · exact ⟨j, q1, ((br_step hrI hf b c hc j).1 q2).1⟩
      · rintro ⟨j, q1, q2⟩
        by_cases q : j = i
        · subst q; rw [hg] at q1; exact .inl (Option.some.inj q1).symm
        · exact .inr ⟨j, q1, (br_step hrI hf b c hc j).2 ⟨q2, q⟩⟩
theorem grovePath_eq {u : Int} (u0 : 0 ≤ u) (un : u < n) (v0 : 0 ≤ v) (vn : v < n) : (Conn (en l) u v → ∃ p, grovePath_m n l u v = some (p, 0) ∧ p.length ≤ l.length ∧ ∀ e, e ∈ p ↔ ∃ j, l[j]? = some e ∧ Br (en l) u v j) ∧ (¬ Conn (en l) u v → grovePath_m n l u v = some ([], 3)) := by
  have hFU := FU
  obtain ⟨lead, l1, l2⟩ := groveLeads_eq h0 hn hl hr hne hf v0 vn
  have hdl := dep_le (en l) u v
  rw [en_len] at hdl
  have pre : grovePath_m n l u v = grovePath_L1 FUEL l v lead [] u := by
    unfold grovePath_m groveVertex_m
    rw [groveRight_pt h0 hn hl hr, some_bind', foB_iff.2 hf, gopt_some, some_bind', gopt_some, some_bind', bf, l1, some_bind']
    simp; omega
  rw [pre]
  refine ⟨fun hc => ?_, fun hc => ?_⟩
  · obtain ⟨p, p1, pl, p2⟩ := path_L h0 hn hr hne hf l2 FUEL u [] u0 un hc (by omega) (by simp; omega)
    exact ⟨p, p1, by omega, p2⟩
  · have hne' : u ≠ v := fun e => hc (by rw [e]; exact .refl _)
    have hlead : idx lead u = some (-1) := by rw [idx_at (k := u.toNat) (by omega)]; exact l2.no u u0 (by omega) hc
    have hF : FUEL = (FUEL - 1) + 1 := by omega
    rw [hF]
    show grovePath_B1 (grovePath_L1 (FUEL - 1)) _ _ _ _ _ = _
    unfold grovePath_B1
    rw [bt (by simp [hne']), hlead, some_bind', bt (by rfl)]
end
instance (y x : GEdge) : Decidable (behE y x) := by unfold behE ltE; infer_instance
theorem greatest_L (t : List GEdge) (ht : t.length < 1000000000) (z : GEdge) : ∀ (m i : Nat) (g : GEdge), t.length < i + m → i ≤ t.length →
    ∃ top, groveGreatest_L1 m z g t (t.length : Int) (i : Int) = some (top, true) ∧ (top = g ∨ top ∈ t.drop i) ∧ ¬ behE g top ∧ ∀ y, y ∈ t.drop i → ¬ behE y top
  | 0, i, g, _, _ => by omega
  | m + 1, i, g, hm, hi => by
    show ∃ top, groveGreatest_B1 (groveGreatest_L1 m) _ _ _ _ _ = _ ∧ _
    unfold groveGreatest_B1 groveGreatest_J1
    by_cases c : i < t.length
    · have hb : ((decide (g.Tier < t[i].Tier)) || ((t[i].Tier == g.Tier) && lessE g t[i])) = decide (behE t[i] g) := by
        rw [Bool.eq_iff_iff, decide_eq_true_iff, Bool.or_eq_true, Bool.and_eq_true, decide_eq_true_iff, beq_iff_eq, lessE_iff]
        rfl
      rw [bt (lt_t c), idx_get c, some_bind', nameLess_eq, wr1 i (by omega), drop_cons c]
      have hb2 : ∀ o : Bool, ((decide (g.Tier < t[i].Tier)) || ((t[i].Tier == g.Tier) && (bif ((decide (g.Tier < t[i].Tier)) == false) && ((t[i].Tier == g.Tier) == true) then lessE g t[i] else o))) = decide (behE t[i] g) := by
        intro o
        rw [← hb]
        cases decide (g.Tier < t[i].Tier) <;> cases (t[i].Tier == g.Tier) <;> rfl
      rw [gopt_some, some_bind', hb2]
      by_cases q : behE t[i] g
      · obtain ⟨top, h1, h2, h3, h4⟩ := greatest_L t ht z m (i + 1) t[i] (by omega) c
        rw [bt (by simpa using q), h1]
        refine ⟨top, rfl, .inr ?_, fun k => ?_, fun y hy => ?_⟩
        · rcases h2 with h2 | h2
          · rw [h2]; exact List.mem_cons_self ..
          · exact List.mem_cons_of_mem _ h2
        · unfold behE ltE at *; simp only at *; omega
        · rcases List.mem_cons.1 hy with rfl | hy
          · exact h3
          · exact h4 y hy
      · obtain ⟨top, h1, h2, h3, h4⟩ := greatest_L t ht z m (i + 1) g (by omega) c
        rw [bf (by simpa using q), h1]
        refine ⟨top, rfl, h2.imp id fun k => List.mem_cons_of_mem _ k, h3, fun y hy => ?_⟩
        rcases List.mem_cons.1 hy with rfl | hy
        · unfold behE ltE at *; simp only at *; omega
        · exact h4 y hy
    · rw [bf (lt_f c), List.drop_eq_nil_of_le (by omega)]
      exact ⟨g, rfl, .inl rfl, by unfold behE ltE; simp only; omega, fun y hy => by cases hy⟩
theorem greatest_eq {p : List GEdge} (hp : p ≠ []) (hl : p.length < 1000000000) : ∃ top, groveGreatest_m p = some (top, true) ∧ top ∈ p ∧ ∀ y, y ∈ p → ¬ behE y top := by
  have hFU := FU
  cases p with
  | nil => exact absurd rfl hp
  | cons a t =>
    simp only [List.length_cons] at hl
    obtain ⟨top, h1, h2, h3, h4⟩ := greatest_L t (by omega) ⟨0, 0, 0⟩ FUEL 0 a (by omega) (Nat.zero_le _)
    have hs : slc (a :: t) 1 ((a :: t).length : Int) = some t := by
      have := slc_from (l := a :: t) (lo := 1) (a := 1) rfl (by simp)
      simpa using this
    unfold groveGreatest_m
    rw [bf (by simp; omega), show idx (a :: t) 0 = some a from rfl, some_bind', hs, some_bind']
    refine ⟨top, h1, ?_, fun y hy => ?_⟩
    · rcases h2 with rfl | h2
      · simp
      · exact List.mem_cons_of_mem _ h2
    · rcases List.mem_cons.1 hy with rfl | hy
      · exact h3
      · exact h4 y hy
theorem setT_uv {l : List GEdge} {x y : GEdge} (s : Int) (hu : x.U = y.U) (hv : x.V = y.V) : setT l x s = setT l y s := by unfold setT; rw [hu, hv]
theorem set_setT {n : Int} {l : List GEdge} (h : Tb n l) {k : Nat} {e : GEdge} (he : l[k]? = some e) (s : Int) : l.set k ⟨e.U, e.V, s⟩ = setT l e s := by
  apply List.ext_getElem?
  intro j
  unfold setT
  rw [List.getElem?_set, List.getElem?_map]
  have hk := (List.getElem?_eq_some_iff.1 he).1
  by_cases c : k = j
  · subst c
    rw [if_pos rfl, if_pos hk, he]; simp
  · rw [if_neg c]
    cases hj : l[j]? with
    | none => rfl
    | some f =>
      have hne : ¬ (f.U = e.U ∧ f.V = e.V) := fun q => by
        have := h.inj (List.mem_of_getElem? hj) (List.mem_of_getElem? he) q.1 q.2
        subst this
        have hjl := (List.getElem?_eq_some_iff.1 hj).1
        have nd := h.nodup
        have e1 : (en l)[k]? = (en l)[j]? := by unfold en; rw [List.getElem?_map, List.getElem?_map, he, hj]
        exact c ((List.getElem?_inj (by rw [en_len]; exact hk) nd).1 e1)
      rw [Option.map_some, if_neg hne]
theorem tableSet_eq {n : Int} {l : List GEdge} (hT : trB n l = true) (hl : l.length < 1000000000) {x : GEdge} (hx : ∃ y, y ∈ l ∧ y.U = x.U ∧ y.V = x.V) {s : Int} (s0 : 0 ≤ s) (s1 : s ≤ 16) : tableSet_m n l x.U x.V s = some (setT l x s, 0) := by
  obtain ⟨n0, n1, tb⟩ := trB_iff.1 hT
  obtain ⟨y, hy, yu, yv⟩ := hx
  have rg := tb.rg y hy
  have ok := okE_iff.1 (tb.ok y hy)
  unfold tableSet_m tableVertex_m tableTiered_m slicesCloneEdge_m
  rw [tableRight_eq hl, hT, some_bind', gopt_some, some_bind', gopt_some, some_bind', gopt_some, some_bind', bf (by simp; omega), nameFind_eq hl, some_bind']
  obtain ⟨k, hk⟩ := fnd_mem hy
  rw [yu, yv] at hk
  obtain ⟨_, f, h1, h2, h3⟩ := fnd_some hk
  rw [Nat.sub_zero] at h1
  have hf : f = y := by
    have hfl := List.mem_of_getElem? h1
    have okf := okE_iff.1 (tb.ok f hfl)
    unfold fEnds at h2
    simp only [Bool.or_eq_true, Bool.and_eq_true, beq_iff_eq] at h2
    exact tb.inj hfl hy (by omega) (by omega)
  subst hf
  have hkl := (List.getElem?_eq_some_iff.1 h1).1
  rw [hk]
  simp only []
  rw [bf (c := !true) rfl, app_ok (by simp; omega), some_bind', List.nil_append, idx_nat, h1, some_bind', stt_nat hkl, some_bind', set_setT tb h1, setT_uv s yu yv]
end Go.Proofs.Ytibnmlbjahcjmaa
