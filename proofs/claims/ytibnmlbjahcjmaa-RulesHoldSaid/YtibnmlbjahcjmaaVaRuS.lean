/- Facts that the statement's proof is made of. No condition. -/
import Derived.Test.YtibnmlbjahcjmaaVaRuR
set_option linter.unusedVariables false
set_option linter.unusedSimpArgs false
set_option maxRecDepth 20000
set_option maxHeartbeats 1000000
namespace Go.Proofs.Ytibnmlbjahcjmaa
open Go Go.AM Go.Pl Go.Pt
theorem law15Few_eq (c : GConfig) (acts : List GRaftsmanlaw15Act) : ∃ n : Int, law15Few_m c acts = some n ∧ (n < 0 ∨ (∃ k : Nat, n = k ∧ k ≤ 30 ∧ k ≤ acts.length ∧ c.N ≤ 12 ∧ c.L ≤ 4)) := by
  unfold law15Few_m
  by_cases h : ((((((decide (c.N < 1)) || (decide (c.L < 1))) || (decide (c.R < 1))) || (decide (12 < c.N))) || (decide (4 < c.L))) || (decide (3 < c.R))) = true
  · rw [bt h]; exact ⟨_, rfl, .inl (by decide)⟩
  · rw [Bool.not_eq_true] at h
    rw [bf h]
    simp only [Bool.or_eq_false_iff, decide_eq_false_iff_not] at h
    refine ⟨_, rfl, .inr ?_⟩
    by_cases q : 30 < (acts.length : Int)
    · rw [if_pos q]; exact ⟨30, rfl, by omega, by omega, by omega, by omega⟩
    · rw [if_neg q]; exact ⟨acts.length, rfl, by omega, by omega, by omega, by omega⟩
theorem grB_len {c : GConfig} {hs : List GHash} {es : List GEdge} (h : grB ⟨c, hs, es⟩ = true) : hs.length ≤ 128 := by
  have k := gok h
  have L2 : c.L ≤ 16 := k.l2
  have L1 : 1 ≤ c.L := k.l1
  have R1 : 1 ≤ c.R := k.r1
  have R2 : c.R ≤ 8 := k.r2
  have h2 : c.L * c.R ≤ 16 * 8 := Int.mul_le_mul L2 R2 (by omega) (by omega)
  have hl : (hs.length : Int) = c.L * c.R := k.hl
  omega
theorem searchRight_big {g : GGraph} (hb : 128 < g.Hashes.length) : searchRight_m g = some false ∧ grB g = false := by
  unfold searchRight_m grB
  by_cases c : 1 ≤ g.Config.N ∧ g.Config.N ≤ 1024 ∧ 1 ≤ g.Config.L ∧ g.Config.L ≤ 16 ∧ 1 ≤ g.Config.R ∧ g.Config.R ≤ 8
  · have h2 : g.Config.L * g.Config.R ≤ 16 * 8 := Int.mul_le_mul (by omega) (by omega) (by omega) (by omega)
    have k : (g.Hashes.length : Int) ≠ g.Config.L * g.Config.R := by omega
    rw [bf (by simp; omega), LR_wrap ⟨c.2.2.1, c.2.2.2.1, c.2.2.2.2⟩, bt (by simp [k])]
    have : cfB g = false := by unfold cfB; rw [decide_eq_false_iff_not]; exact fun q => k q.2.2.2.2.2.2
    rw [this]; exact ⟨rfl, rfl⟩
  · have : cfB g = false := by unfold cfB; rw [decide_eq_false_iff_not]; exact fun q => c ⟨q.1, q.2.1, q.2.2.1, q.2.2.2.1, q.2.2.2.2.1, q.2.2.2.2.2.1⟩
    rw [bt (by simp; omega), this]; exact ⟨rfl, rfl⟩
theorem tiersNew_eq (c : GConfig) {hs : List GHash} (hl : hs.length ≤ 8796093022207) : tiersNew_m c hs = some (if grB ⟨c, hs, []⟩ then (⟨c, hs, []⟩, 0) else (⟨⟨0, 0, 0⟩, [], []⟩, 1)) := by
  unfold tiersNew_m slicesCloneHash_m
  rw [appB_ok (by simp; omega), some_bind', List.nil_append]
  by_cases q : hs.length ≤ 1048576
  · rw [searchRight_eq (by simp) (by simp; omega), some_bind']
    cases grB ⟨c, hs, []⟩ <;> rfl
  · obtain ⟨q1, q2⟩ := searchRight_big (g := ⟨c, hs, []⟩) (by simp; omega)
    rw [q1, q2, some_bind']; rfl
def NoL (g : GGraph) : Prop := ∀ k x, 0 ≤ k → k < g.Config.L → ¬ Lon g k x
theorem NoL.new (c : GConfig) (hs : List GHash) : NoL ⟨c, hs, []⟩ := fun k x _ _ h => by
  have := h.2
  unfold srch cutE at this
  rw [show List.filter (fun e => inQ (pf ⟨c, hs, []⟩ k) x (uv e)) [] = [] from rfl, srchE_nil] at this
  cases this
theorem NoL.nil {g : GGraph} (h : GOK g) (n : NoL g) : lonT g 0 = [] := List.eq_nil_iff_forall_not_mem.2 fun q hq => by
  obtain ⟨a, b, c, d, e⟩ := mem_lonT.1 hq
  exact n _ _ a b ((lon_iff h c d).1 e).2
structure ActF (g g2 : GGraph) : Prop where
  gd : GD g2
  c : g2.Config = g.Config
  len : g2.Edges.length ≤ g.Edges.length + 1
  nol : NoL g → NoL g2
theorem ActF.refl {g : GGraph} (h : GD g) : ActF g g := ⟨h, rfl, by omega, id⟩
theorem fEnds_uv {u v : Int} {e : GEdge} (h : fEnds u v e = true) : (e.U = u ∧ e.V = v) ∨ (e.U = v ∧ e.V = u) := by
  unfold fEnds at h
  simp only [Bool.or_eq_true, Bool.and_eq_true, beq_iff_eq] at h
  omega
theorem ins_act {g : GGraph} (h : GD g) {u v : Int} {r : GGraph × Int} (i : InsO g u v r) : ActF g r.1 := by
  rcases i with ⟨h1, rfl⟩ | ⟨h1, h2, rfl⟩ | ⟨h1, h2, h3, rfl⟩ | ⟨h1, h2, h3, l', g2, h4, hg, h5, h6, rfl⟩
  · exact .refl h
  · exact .refl h
  · exact .refl h
  · have kg := gok hg.ok
    have F := h5.facts kg.gc (Int.le_refl _)
    obtain ⟨A, B, ea, eb⟩ := h4.en
    refine ⟨h6, F.al.c, ?_, fun n => ?_⟩
    · have := en_eq_len F.al.e
      have := h4.len
      simp only [] at *
      omega
    · refine h5.holds kg.gc (Int.le_refl _) (fun k x a b => by omega) fun k x k0 hk hl => ?_
      rcases ins_lon (g := g) (g2 := ⟨g.Config, g.Hashes, l'⟩) rfl rfl ea eb (fun k => h4.fo rfl k) hl with q | q | q
      · exact absurd q (n k x k0 hk)
      · rcases edg_uv h2 with ⟨a, b, _⟩ | ⟨a, b, _⟩
        · rw [a] at q; exact .inl q
        · rw [a] at q; exact .inr q
      · rcases edg_uv h2 with ⟨a, b, _⟩ | ⟨a, b, _⟩
        · rw [b] at q; exact .inr q
        · rw [b] at q; exact .inl q
theorem del_act {g : GGraph} (h : GD g) {u v : Int} {r : GGraph × Int} (i : DelO g u v r) : ActF g r.1 := by
  rcases i with ⟨h1, rfl⟩ | ⟨h1, h2, rfl⟩ | ⟨h1, k, g2, h2, hg, h5, h6, rfl⟩
  · exact .refl h
  · exact .refl h
  · have kg := gok hg.ok
    have kk := gok h.ok
    have F := h5.facts kg.gc (Int.le_refl _)
    obtain ⟨e, r1, r2, r3⟩ := rem_parts h2
    have nd := kk.gc.ti.tb.nodup
    have ea : en g.Edges = en (g.Edges.take k) ++ (e.U, e.V) :: en (g.Edges.drop (k + 1)) := by
      conv => lhs; rw [r3]
      rw [en_append]; rfl
    have eb : en (g.Edges.take k ++ g.Edges.drop (k + 1)) = en (g.Edges.take k) ++ en (g.Edges.drop (k + 1)) := en_append _ _
    have hmem : ∀ y, y ∈ g.Edges ↔ y ∈ g.Edges.take k ++ g.Edges.drop (k + 1) ∨ y = e := fun y => by
      conv => lhs; rw [r3]
      simp only [List.mem_append, List.mem_cons]
      constructor
      · rintro (a | a | a)
        · exact .inl (.inl a)
        · exact .inr a
        · exact .inl (.inr a)
      · rintro ((a | a) | a)
        · exact .inl a
        · exact .inr (.inr a)
        · exact .inr (.inl a)
    have hno : (e.U, e.V) ∉ en (g.Edges.take k ++ g.Edges.drop (k + 1)) := by
      rw [eb]
      rw [ea] at nd
      have := List.nodup_append.1 nd
      rw [List.mem_append]
      rintro (a | a)
      · exact this.2.2 _ a _ (List.mem_cons_self ..) rfl
      · exact (List.nodup_cons.1 this.2.1).1 a
    have hf : ∀ t q, q ∈ en (fo (g.Edges.take k ++ g.Edges.drop (k + 1)) t) ↔ q ∈ en (fo g.Edges t) ∧ q ≠ (e.U, e.V) := fun t q => by
      rw [mem_en, mem_en]
      constructor
      · rintro ⟨y, hy, rfl⟩
        have hy' := mem_fo_iff.1 hy
        exact ⟨⟨y, mem_fo_iff.2 ⟨(hmem y).2 (.inl hy'.1), hy'.2⟩, rfl⟩, fun w => hno (by rw [← w]; exact mem_en.2 ⟨y, hy'.1, rfl⟩)⟩
      · rintro ⟨⟨y, hy, rfl⟩, w⟩
        have hy' := mem_fo_iff.1 hy
        refine ⟨y, mem_fo_iff.2 ⟨((hmem y).1 hy'.1).resolve_right fun z => w (by rw [z]), hy'.2⟩, rfl⟩
    refine ⟨h6, F.al.c, ?_, fun n => ?_⟩
    · have := en_eq_len F.al.e
      have hk := (List.getElem?_eq_some_iff.1 r1).1
      simp only [List.length_append, List.length_take, List.length_drop] at *
      omega
    · refine h5.holds kg.gc (Int.le_refl _) (fun k x a b => by omega) fun k' x k0 hk hl => ?_
      rcases del_lon (g := g) (g2 := ⟨g.Config, g.Hashes, g.Edges.take k ++ g.Edges.drop (k + 1)⟩) nd rfl rfl eb ea hf hl with q | q | q
      · exact absurd q (n k' x k0 hk)
      · rcases fEnds_uv r2 with ⟨a, b⟩ | ⟨a, b⟩
        · rw [a] at q; exact .inl q
        · rw [a] at q; exact .inr q
      · rcases fEnds_uv r2 with ⟨a, b⟩ | ⟨a, b⟩
        · rw [b] at q; exact .inr q
        · rw [b] at q; exact .inl q
theorem acts_slc {acts : List GRaftsmanlaw15Act} {k : Nat} (h : k ≤ acts.length) : slc acts 0 (k : Int) = some (acts.take k) := slc_to rfl h
theorem RulesHold_L {L : List GRaftsmanlaw15Act} (hL : L.length < 1000) : ∀ (m i : Nat) (g : GGraph), L.length < i + m → i ≤ L.length → GD g → NoL g → g.Edges.length ≤ i → RulesHold_L1 m g L (L.length : Int) (i : Int) = some true
  | 0, i, g, _, _, _, _, _ => by omega
  | m + 1, i, g, hm, hi, h, n, he => by
    show RulesHold_B1 (RulesHold_L1 m) _ _ _ _ = _
    unfold RulesHold_B1
    by_cases c : i < L.length
    · have go : ∀ g2, ActF g g2 → RulesHold_J2 (RulesHold_L1 m) g2 L (L.length : Int) (i : Int) = some true := fun g2 f => by
        unfold RulesHold_J2 RulesHold_J1
        have n2 := f.nol n
        have l2 := f.len
        rw [rulesHolds_eq f.gd.hw f.gd.e f.gd.h, some_bind', f.gd.ok, decide_eq_true (n2.nil (gok f.gd.ok)), bf (by rfl), wr1 i (by omega)]
        exact RulesHold_L hL m (i + 1) g2 (by omega) c f.gd n2 (by omega)
      rw [bt (lt_t c), idx_get c, some_bind']
      cases hG : L[i].Gone with
      | true =>
        obtain ⟨r, r1, r2⟩ := tiersDelete_eq h L[i].U L[i].V
        rw [bt rfl, r1, some_bind']
        exact go _ (del_act h r2)
      | false =>
        obtain ⟨r, r1, r2⟩ := tiersInsert_eq h (by omega) L[i].U L[i].V
        rw [bf rfl, r1, some_bind']
        exact go _ (ins_act h r2)
    · rw [bf (lt_f c), law16Awake_eq]; rfl
theorem RulesHold_p (c : GConfig) (hs : List GHash) (acts : List GRaftsmanlaw15Act) (hw : ∀ x, x ∈ hs → HOK x) (hl : hs.length ≤ 8796093022207) : RulesHold_m c hs acts = some true := by
  have hFU := FU
  unfold RulesHold_m
  obtain ⟨n, n1, n2⟩ := law15Few_eq c acts
  rw [n1, some_bind', tiersNew_eq c hl, some_bind', law16Awake_eq]
  cases hg : grB ⟨c, hs, []⟩ with
  | false => simp
  | true =>
    simp only [if_true]
    have hl := grB_len hg
    rcases n2 with n2 | ⟨k, rfl, k1, k2, _⟩
    · rw [bt (by simp [n2])]; rfl
    · have h : GD ⟨c, hs, []⟩ := ⟨hg, hw, by simp, by simp; omega⟩
      have nl := NoL.new c hs
      rw [bf (by simp), rulesHolds_eq h.hw h.e h.h, some_bind', h.ok, decide_eq_true (nl.nil (gok hg)), bf (by rfl), acts_slc k2, some_bind']
      have := RulesHold_L (L := acts.take k) (by rw [List.length_take]; omega) FUEL 0 _ (by rw [List.length_take]; omega) (Nat.zero_le _) h nl (by simp)
      exact this
abbrev WH (hs : List GHash) (P : Prop) : Prop := (∀ y, y ∈ hs → ((Lit.int .u64 y.A).wf = true) ∧ ((Lit.int .u64 y.B).wf = true)) ∧ P
theorem WH.hw {hs : List GHash} {P : Prop} (w : WH hs P) : ∀ x, x ∈ hs → HOK x := fun x hx => ⟨wfu (w.1 x hx).1, wfu (w.1 x hx).2⟩
theorem RulesHold_w (c : GConfig) (hs : List GHash) (acts : List GRaftsmanlaw15Act) {A P B C : Prop} (_ : A) (w : WH hs P) (_ : B) (b : hs.length * 16 ≤ 140737488351232) (_ : C) : RulesHold_m c hs acts = some true := RulesHold_p c hs acts w.hw (by omega)
end Go.Proofs.Ytibnmlbjahcjmaa
