/- Facts that the statement's proof is made of. No condition. -/
import Derived.Test.YtibnmlbjahcjmaaQvRuS
set_option linter.unusedVariables false
set_option linter.unusedSimpArgs false
set_option maxRecDepth 20000
set_option maxHeartbeats 1000000
namespace Go.Proofs.Ytibnmlbjahcjmaa
open Go Go.AM Go.Pl Go.Pt
theorem AuditGoes_L2_eq {g : GGraph} (h : GD g) (rec1 : GGraph → List GRaftsmanlaw15Act → Int → Int → Option (Bool)) (L : List GRaftsmanlaw15Act) (T i : Int) {B : List GEdge} (hl : B.length < 1000000000) (hB : ∀ e, e ∈ B → e.Tier = 0) : ∀ (m j : Nat), B.length < j + m → j ≤ B.length → AuditGoes_L2 rec1 m g L T i B (B.length : Int) (j : Int) = rec1 g L T (IntKind.i64.wrap (i + 1))
  | 0, j, _, _ => by omega
  | m + 1, j, hm, hj => by
    show AuditGoes_B2 rec1 (AuditGoes_L2 rec1 m) _ _ _ _ _ _ _ = _
    unfold AuditGoes_B2 AuditGoes_J1
    by_cases c : j < B.length
    · rw [bt (lt_t c), idx_get c, some_bind', bf (by rw [hB _ (List.getElem_mem c)]; rfl), wr1 j (by omega)]
      exact AuditGoes_L2_eq h rec1 L T i hl hB m (j + 1) (by omega) c
    · have pl := pt_len' (gok h.ok).n2 (kf g)
      rw [bf (lt_f c), auditExact_eq h.e h.h, some_bind', h.ok, Bool.true_and, grB_kept h, ref20So_eq h.e (gok h.ok)]
      by_cases q : pt g.Config.N (kf g) = pt g.Config.N g.Edges
      · rw [decide_eq_true q, gt' (by rfl), some_bind', gt' (by rfl), some_bind', gt' (by rfl), ref06Same_eq _ _ pl, some_bind', decide_eq_true q, bf (by rfl)]
      · rw [decide_eq_false q, gf' (by rfl), some_bind', gf' (by rfl), some_bind', gf' (by rfl), some_bind', bf (by rfl)]
theorem AuditGoes_L {L : List GRaftsmanlaw15Act} (hL : L.length < 1000) : ∀ (m i : Nat) (g : GGraph), L.length < i + m → i ≤ L.length → GD g → g.Edges.length ≤ i → AuditGoes_L1 m g L (L.length : Int) (i : Int) = some true
  | 0, i, g, _, _, _, _ => by omega
  | m + 1, i, g, hm, hi, h, he => by
    have hFU := FU
    show AuditGoes_B1 (AuditGoes_L1 m) _ _ _ _ = _
    unfold AuditGoes_B1
    by_cases c : i < L.length
    · have go : ∀ g2, ActF g g2 → AuditGoes_J2 (AuditGoes_L1 m) g2 L (L.length : Int) (i : Int) = some true := fun g2 f => by
        have l2 := f.len
        have k2 := gok f.gd.ok
        have hb : (btw (partf (en (kf g2))) g2.Edges).length ≤ g2.Edges.length := List.length_filter_le _ _
        unfold AuditGoes_J2
        rw [auditBetween_eq f.gd.e f.gd.h, some_bind', f.gd.ok]
        simp only [if_true]
        have := AuditGoes_L2_eq f.gd (AuditGoes_L1 m) L (L.length : Int) (i : Int) (B := btw (partf (en (kf g2))) g2.Edges) (by omega) (fun e he => by
          have h1 := btw_zero k2 he
          have h2 : e ∈ g2.Edges := (List.mem_filter.1 he).1
          have := okE_iff.1 (k2.gc.ti.tb.ok e h2)
          omega) FUEL 0 (by omega) (Nat.zero_le _)
        rw [show ((0 : Nat) : Int) = (0 : Int) from rfl, wr1 i (by omega)] at this
        rw [this]
        exact AuditGoes_L hL m (i + 1) g2 (by omega) c f.gd (by omega)
      rw [bt (lt_t c), idx_get c, some_bind']
      cases hG : L[i].Gone with
      | true =>
        obtain ⟨r, r1, r2⟩ := tiersDelete_eq h L[i].U L[i].V
        rw [bt rfl, r1, some_bind']
        exact go _ (del_act h r2)
      | false =>
        obtain ⟨r, r1, r2⟩ := tiersInsert_eq h (by omega) L[i].U L[i].V
        rw [bf rfl, r1, some_bind']
        exact go _ (ins_act h r2)
    · rw [bf (lt_f c), law20Awake_eq]; rfl
theorem AuditGoes_p (c : GConfig) (hs : List GHash) (acts : List GRaftsmanlaw15Act) (hw : ∀ x, x ∈ hs → HOK x) (hl : hs.length ≤ 1048576) : AuditGoes_m c hs acts = some true := by
  have hFU := FU
  unfold AuditGoes_m
  obtain ⟨n, n1, n2⟩ := law15Few_eq c acts
  rw [n1, some_bind', tiersNew_eq c hl, some_bind', law20Awake_eq]
  cases hg : grB ⟨c, hs, []⟩ with
  | false => simp
  | true =>
    simp only [if_true]
    rcases n2 with n2 | ⟨k, rfl, k1, k2, _⟩
    · rw [bt (by simp [n2])]; rfl
    · have h : GD ⟨c, hs, []⟩ := ⟨hg, hw, by simp, by simp; omega⟩
      rw [bf (by simp), acts_slc k2, some_bind']
      have := AuditGoes_L (L := acts.take k) (by rw [List.length_take]; omega) FUEL 0 _ (by rw [List.length_take]; omega) (Nat.zero_le _) h (by simp)
      exact this
theorem hit_len : ∀ (K B : List Nat) (f : Nat → Int), K.Nodup → (∀ k, k ∈ K → ∃ y, y ∈ B ∧ f y = (k : Int)) → K.length ≤ B.length
  | [], B, f, _, _ => Nat.zero_le _
  | k :: K, B, f, hd, h => by
    obtain ⟨h1, h2⟩ := List.nodup_cons.1 hd
    obtain ⟨y, y1, y2⟩ := h k (List.mem_cons_self ..)
    have hlt : (B.filter fun y => f y != (k : Int)).length < B.length := List.length_filter_lt_length_iff_exists.2 ⟨y, y1, by simp [y2]⟩
    have := hit_len K (B.filter fun y => f y != (k : Int)) f h2 fun k' hk' => by
      obtain ⟨z, z1, z2⟩ := h k' (List.mem_cons_of_mem _ hk')
      refine ⟨z, List.mem_filter.2 ⟨z1, ?_⟩, z2⟩
      rw [bne_iff_ne, z2]
      intro e
      have : k' = k := by omega
      subst this
      exact h1 hk'
    rw [List.length_cons]; omega
theorem clG_half {g : GGraph} (h : GOK g) {t : Int} (gr : ∀ v, 0 ≤ v → v < g.Config.N → Gr g t v) : 2 * clG g (t + 1) ≤ clG g t := by
  have n1 := h.n1
  have up : ∀ {x y}, GT g t x y → GT g (t + 1) x y := fun q => ctMono q (by omega)
  let A := (List.range g.Config.N.toNat).filter fun (k : Nat) => decide (pf g (t + 1) k = (k : Int))
  let B := (List.range g.Config.N.toNat).filter fun (k : Nat) => decide (pf g t k = (k : Int)) && !decide (pf g (t + 1) k = (k : Int))
  have e1 : clG g (t + 1) = A.length := by
    show List.countP _ _ = _
    rw [List.countP_eq_length_filter]; rfl
  have e2 : clG g t = A.length + B.length := by
    have key : ∀ l : List Nat, l.countP (fun (k : Nat) => decide (pf g t k = (k : Int))) = (l.filter fun (k : Nat) => decide (pf g (t + 1) k = (k : Int)) && decide (pf g t k = (k : Int))).length + (l.filter fun (k : Nat) => decide (pf g t k = (k : Int)) && !decide (pf g (t + 1) k = (k : Int))).length := fun l => by
      induction l with
      | nil => rfl
      | cons a l ih =>
        rw [List.countP_cons, ih, List.filter_cons, List.filter_cons]
        by_cases q1 : pf g t a = (a : Int) <;> by_cases q2 : pf g (t + 1) a = (a : Int) <;> simp [q1, q2] <;> omega
    show List.countP _ _ = _
    have := key (List.range g.Config.N.toNat)
    refine this.trans ?_
    congr 2
    refine List.filter_congr fun k hk => ?_
    by_cases q2 : pf g (t + 1) (k : Int) = (k : Int)
    · have c : GT g t (k : Int) (pf g t k) := partf_conn _ _
      have h2 : pf g (t + 1) (k : Int) = pf g (t + 1) (pf g t k) := pf_iff.2 (up c)
      have h3 : pf g (t + 1) (pf g t k) ≤ pf g t k := partf_le _ _
      have h4 : pf g t (k : Int) ≤ k := partf_le _ _
      have : pf g t (k : Int) = k := by omega
      simp [q2, this]
    · simp [q2]
  have hd : A.Nodup := List.nodup_range.filter _
  have := hit_len A B (fun y => pf g (t + 1) (y : Int)) hd fun k hk => by
    obtain ⟨k1, k2⟩ := List.mem_filter.1 hk
    rw [decide_eq_true_eq] at k2
    have kn := List.mem_range.1 k1
    obtain ⟨x, x1, x2⟩ := gr (k : Int) (by omega) (by omega)
    have hr : 0 ≤ x ∧ x < g.Config.N := Conn.range (fo_Rg h.rg (t + 1)).inR' x1 ⟨by omega, by omega⟩
    obtain ⟨y0, yn⟩ := pf_in h t hr.1 hr.2
    have c : GT g t x (pf g t x) := partf_conn _ _
    have e : (((pf g t x).toNat : Nat) : Int) = pf g t x := by omega
    have f1 : pf g (t + 1) (pf g t x) = k := by
      rw [← k2]
      exact (pf_iff.2 (x1.trans (up c))).symm
    have f2 : pf g t (pf g t x) = pf g t x := partf_idem _ _
    refine ⟨(pf g t x).toNat, List.mem_filter.2 ⟨List.mem_range.2 (by omega), ?_⟩, by rw [e]; exact f1⟩
    rw [e, f1, f2]
    have : ¬ (k : Int) = pf g t x := fun q => x2 (by rw [q]; exact c.symm)
    simp [this]
  omega
theorem RulesHalve_L3_eq {g : GGraph} (h : GD g) (n : NoL g) {c : GConfig} (hc : g.Config = c) (rec2 : GConfig → GGraph → List Int → Int → Int → Option (Bool)) {t : Nat} (ht : t < g.Config.L.toNat) (T : Int) : ∀ (m i : Nat) (all : Bool), g.Config.N.toNat < i + m → i ≤ g.Config.N.toNat → (all = true → ∀ v : Int, 0 ≤ v → v < i → (srch g t v).isSome = true) →
    RulesHalve_L3 rec2 m c g (rcT g 0) (t : Int) all T (t : Int) g.Config.N (i : Int) = rec2 c g (rcT g 0) T ((t + 1 : Nat) : Int)
  | 0, i, all, _, _, _ => by omega
  | m + 1, i, all, hm, hi, ha => by
    have k := gok h.ok
    have n1 := k.n1
    have n2 := k.n2
    have l2 := k.l2
    show RulesHalve_B3 rec2 (RulesHalve_L3 rec2 m) _ _ _ _ _ _ _ _ _ = _
    unfold RulesHalve_B3
    by_cases q : i < g.Config.N.toNat
    · rw [bt (by simp; omega), searchSearch_eq h.e h.h h.hw, some_bind', if_pos ⟨h.ok, by omega, by omega, by omega, by omega⟩, wr1 i (by omega)]
      have hr : (resS (srch g t i)).2 = (srch g t i).isSome := by cases srch g t i <;> rfl
      show RulesHalve_L3 rec2 m c g (rcT g 0) (t : Int) (all && (resS (srch g t i)).2) T (t : Int) g.Config.N ((i + 1 : Nat) : Int) = _
      refine RulesHalve_L3_eq h n hc rec2 ht T m (i + 1) _ (by omega) q fun hh v v0 vi => ?_
      rw [Bool.and_eq_true, hr] at hh
      by_cases e : v = (i : Int)
      · rw [e]; exact hh.2
      · exact ha hh.1 v v0 (by omega)
    · have m1 := clG_mono k (t : Int)
      have b1 : clG g (t : Int) ≤ g.Config.N.toNat := cl_le _
      have e : ((t + 1 : Nat) : Int) = (t : Int) + 1 := by omega
      have d1 : decide (((clG g (t : Int) : Nat) : Int) < ((clG g ((t : Int) + 1) : Nat) : Int)) = false := by simp; omega
      have i1 := rcT_idx g (k := t + 1) (by omega)
      have i2 := rcT_idx g (k := t) (by omega)
      rw [e] at i1
      rw [bf (by simp; omega), wr1 t (by omega), e, i1, some_bind', i2, some_bind', gopt_some, some_bind', gopt_some, some_bind', d1]
      cases all with
      | false => rw [bf (by rfl)]
      | true =>
        have hf := clG_half k (t := (t : Int)) fun v v0 vn => Classical.byContradiction fun ng => n (t : Int) v (by omega) (by omega) ⟨ng, ha rfl v v0 (by omega)⟩
        simp only [beq_self_eq_true, Bool.and_self, cond_true, Bool.false_or, Bool.true_and]
        rw [wr0 (by omega) (by omega), bf (by simp; omega)]
theorem RulesHalve_L2_eq {g : GGraph} (h : GD g) (n : NoL g) {c : GConfig} (hc : g.Config = c) : ∀ (m t : Nat), g.Config.L.toNat < t + m → t ≤ g.Config.L.toNat → RulesHalve_L2 m c g (rcT g 0) g.Config.L (t : Int) = some true
  | 0, t, _, _ => by omega
  | m + 1, t, hm, hi => by
    have hFU := FU
    have k := gok h.ok
    have n2 := k.n2
    show RulesHalve_B2 (RulesHalve_L2 m) _ _ _ _ _ = _
    unfold RulesHalve_B2
    by_cases q : t < g.Config.L.toNat
    · have := RulesHalve_L3_eq h n hc (RulesHalve_L2 m) q g.Config.L FUEL 0 true (by omega) (Nat.zero_le _) (fun _ v _ _ => by omega)
      rw [show ((0 : Nat) : Int) = (0 : Int) from rfl] at this
      have e : c.N = g.Config.N := by rw [hc]
      rw [bt (by simp; omega), e, this]
      exact RulesHalve_L2_eq h n hc m (t + 1) (by omega) q
    · rw [bf (by simp; omega), law16Awake_eq]; rfl
theorem RulesHalve_L {L : List GRaftsmanlaw15Act} (hL : L.length < 1000) {c : GConfig} : ∀ (m i : Nat) (g : GGraph), L.length < i + m → i ≤ L.length → GD g → NoL g → g.Config = c → g.Edges.length ≤ i → RulesHalve_L1 m c g L (L.length : Int) (i : Int) = some true
  | 0, i, g, _, _, _, _, _, _ => by omega
  | m + 1, i, g, hm, hi, h, n, hc, he => by
    have hFU := FU
    show RulesHalve_B1 (RulesHalve_L1 m) _ _ _ _ _ = _
    unfold RulesHalve_B1 RulesHalve_J1
    by_cases q : i < L.length
    · rw [bt (lt_t q), idx_get q, some_bind', wr1 i (by omega)]
      have go : ∀ g2, ActF g g2 → RulesHalve_L1 m c g2 L (L.length : Int) ((i + 1 : Nat) : Int) = some true := fun g2 f => by
        have l2 := f.len
        exact RulesHalve_L hL m (i + 1) g2 (by omega) q f.gd (f.nol n) (f.c.trans hc) (by omega)
      cases hG : L[i].Gone with
      | true =>
        obtain ⟨r, r1, r2⟩ := tiersDelete_eq h L[i].U L[i].V
        rw [bt rfl, r1, some_bind']
        exact go _ (del_act h r2)
      | false =>
        obtain ⟨r, r1, r2⟩ := tiersInsert_eq h (by omega) L[i].U L[i].V
        rw [bf rfl, r1, some_bind']
        exact go _ (ins_act h r2)
    · have k := gok h.ok
      have n1 := k.n1
      have l1 := k.l1
      have l2 := k.l2
      have hlen := rcT_len g
      have cL : c.L = g.Config.L := by rw [hc]
      have cN : c.N = g.Config.N := by rw [hc]
      rw [bf (lt_f q), rulesReached_eq h.hw h.e h.h, h.ok, some_bind', cL, cN]
      simp only [if_true]
      have d1 : (((rcT g 0).length : Int) != IntKind.i64.wrap (g.Config.L + 1)) = false := by
        rw [wr0 (by omega) (by omega)]; simp; omega
      have hz := rcT_idx g (k := 0) (by omega)
      have z0 : clG g ((0 : Nat) : Int) = g.Config.N.toNat := clG_0 g
      rw [z0] at hz
      have hz' : idx (rcT g 0) 0 = some ((g.Config.N.toNat : Nat) : Int) := hz
      rw [d1, gt' (by rfl), hz', some_bind', bf (by simp; omega)]
      exact RulesHalve_L2_eq h n hc FUEL 0 (by omega) (Nat.zero_le _)
theorem RulesHalve_p (c : GConfig) (hs : List GHash) (acts : List GRaftsmanlaw15Act) (hw : ∀ x, x ∈ hs → HOK x) (hl : hs.length ≤ 1048576) : RulesHalve_m c hs acts = some true := by
  have hFU := FU
  unfold RulesHalve_m
  obtain ⟨n, n1, n2⟩ := law15Few_eq c acts
  rw [n1, some_bind', tiersNew_eq c hl, some_bind', law16Awake_eq]
  cases hg : grB ⟨c, hs, []⟩ with
  | false => simp
  | true =>
    simp only [if_true]
    rcases n2 with n2 | ⟨k, rfl, k1, k2, _⟩
    · rw [bt (by simp [n2])]; rfl
    · have h : GD ⟨c, hs, []⟩ := ⟨hg, hw, by simp, by simp; omega⟩
      rw [bf (by simp), acts_slc k2, some_bind']
      have := RulesHalve_L (L := acts.take k) (c := c) (by rw [List.length_take]; omega) FUEL 0 _ (by rw [List.length_take]; omega) (Nat.zero_le _) h (NoL.new c hs) rfl (by simp)
      exact this
theorem AuditGoes_w (c : GConfig) (hs : List GHash) (acts : List GRaftsmanlaw15Act) {A P B C : Prop} (_ : A) (w : WH hs P) (_ : B) (b : hs.length ≤ 1048576) (_ : C) : AuditGoes_m c hs acts = some true := AuditGoes_p c hs acts w.hw b
theorem RulesHalve_w (c : GConfig) (hs : List GHash) (acts : List GRaftsmanlaw15Act) {A P B C : Prop} (_ : A) (w : WH hs P) (_ : B) (b : hs.length ≤ 1048576) (_ : C) : RulesHalve_m c hs acts = some true := RulesHalve_p c hs acts w.hw b
end Go.Proofs.Ytibnmlbjahcjmaa
