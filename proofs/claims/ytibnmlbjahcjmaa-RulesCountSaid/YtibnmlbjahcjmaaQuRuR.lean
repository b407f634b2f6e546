/- Facts that the statement's proof is made of. No condition. -/
import Derived.Test.YtibnmlbjahcjmaaQuRuQ
set_option linter.unusedVariables false
set_option linter.unusedSimpArgs false
set_option maxRecDepth 20000
set_option maxHeartbeats 1000000
namespace Go.Proofs.Ytibnmlbjahcjmaa
open Go Go.AM Go.Pl Go.Pt
theorem lonT_1e9 {g : GGraph} (h : GOK g) : (lonT g 0).length < 1000000000 := by
  have := lonT_len g (g.Config.L.toNat) 0 (by omega)
  have a := h.n2
  have b := h.l2
  have : g.Config.N.toNat * g.Config.L.toNat ≤ 1024 * 16 := Nat.mul_le_mul (by omega) (by omega)
  omega
theorem no_lon {g : GGraph} (h : GOK g) (e : lonT g 0 = []) {k x : Int} (k0 : 0 ≤ k) (hk : k < g.Config.L) (x0 : 0 ≤ x) (xn : x < g.Config.N) : ¬ Lon g k x := fun hl => by
  obtain ⟨r1, r2⟩ := pf_in h k x0 xn
  have hc : GT g k x (pf g k x) := partf_conn _ _
  have : (k, pf g k x) ∈ lonT g 0 := mem_lonT.2 ⟨k0, hk, r1, r2, (lon_iff h r1 r2).2 ⟨partf_idem _ _, hl.cong hc⟩⟩
  rw [e] at this; cases this
theorem RulesTell_p (g : GGraph) (hw : HW g) : RulesTell_m g = some true := by
  unfold RulesTell_m
  obtain ⟨b, hb, hs⟩ := ref14Small_eq g
  rw [hb, some_bind', law16Awake_eq]
  cases b with
  | false => rfl
  | true =>
    obtain ⟨s1, s2, s3, s4, s5⟩ := hs rfl
    have hE : g.Edges.length < 1000000000 := by omega
    have hH : g.Hashes.length < 1000000000 := by omega
    rw [bf (c := !true) rfl, rulesLonely_eq hw hE hH, some_bind', rulesReached_eq hw hE hH, some_bind', ref14Right_eq hE hH, some_bind', rulesHolds_eq hw hE hH]
    cases hg : grB g with
    | false => rfl
    | true =>
      have h : GD g := ⟨hg, hw, hE, hH⟩
      have k := gok hg
      have hl := lonT_1e9 k
      have hc := rcT_len g
      have l2 := k.l2
      simp only [if_true]
      rw [bf (c := !true) rfl, ref16Lonely_eq h, some_bind', law16Refs_eq hl, some_bind', ref16Same_eq (by rw [List.length_map]; exact hl), some_bind', gt' (by rfl), some_bind']
      have e : ((true && decide (lonT g 0 = [])) == (((List.map mB (lonT g 0)).length : Int) == 0)) = true := by
        by_cases c : lonT g 0 = []
        · simp [c]
        · have : (lonT g 0).length ≠ 0 := fun q => c (List.eq_nil_of_length_eq_zero q)
          simp [c]
      rw [e, gt' (by rfl), ref16Reached_eq h, some_bind', gt' (by rfl), ref06Same_eq _ _ (by omega), some_bind', decide_eq_true rfl]; rfl
theorem RulesStay_L {g : GGraph} (hE : g.Edges.length < 1000000000) {u v e : Int} (hf : ((e == 0) == ((((decide (0 ≤ u)) && (decide (0 ≤ v))) && (decide (u < g.Config.N))) && (decide (v < g.Config.N)))) = true) : ∀ (f i : Nat), g.Edges.length < i + f → i ≤ g.Edges.length → RulesStay_L1 f u v g g e (g.Edges.length : Int) (i : Int) = some true
  | 0, i, _, _ => by omega
  | f + 1, i, hm, hi => by
    show RulesStay_B1 (RulesStay_L1 f) _ _ _ _ _ _ _ = _
    unfold RulesStay_B1
    by_cases c : i < g.Edges.length
    · rw [bt (lt_t c), idx_get c, some_bind', some_bind', bf (by simp), wr1 i (by omega)]
      exact RulesStay_L hE hf f (i + 1) (by omega) c
    · rw [bf (lt_f c), hf, gt' (by rfl), law16Awake_eq]; rfl
theorem RulesStay_p (g : GGraph) (hw : HW g) (u v : Int) : RulesStay_m g u v = some true := by
  have hFU := FU
  unfold RulesStay_m
  obtain ⟨b, hb, hs⟩ := ref14Small_eq g
  rw [hb, some_bind', law16Awake_eq]
  cases b with
  | false => rfl
  | true =>
    obtain ⟨s1, s2, s3, s4, s5⟩ := hs rfl
    have hE : g.Edges.length < 1000000000 := by omega
    have hH : g.Hashes.length < 1000000000 := by omega
    rw [rulesHolds_eq hw hE hH]
    cases hg : grB g with
    | false => rfl
    | true =>
      by_cases hl : lonT g 0 = []
      · have h : GD g := ⟨hg, hw, hE, hH⟩
        have k := gok hg
        obtain ⟨m1, m2⟩ := tiersMend_eq h u v
        rw [decide_eq_true hl, show ((!true) == false) = true from rfl, gt' rfl, some_bind', bf (by rfl)]
        by_cases c : vtx g.Config.N u v
        · obtain ⟨m, a1, a2, a3⟩ := m1 c
          have em : m = g := a2.stay (Int.le_refl _) fun k' x h0 h1 hx => no_lon k hl h0 h1 (by unfold vtx at c; omega) (by unfold vtx at c; omega)
          rw [em] at a1
          rw [a1, some_bind']
          simp only []
          rw [bf (by simp)]
          refine RulesStay_L hE ?_ FUEL 0 (by omega) (Nat.zero_le _)
          unfold vtx at c
          simp [c]
        · rw [m2 c, some_bind']
          simp only []
          rw [bf (by simp)]
          refine RulesStay_L hE ?_ FUEL 0 (by omega) (Nat.zero_le _)
          unfold vtx at c
          simp; omega
      · rw [decide_eq_false hl]; rfl
theorem RulesMended_L3_eq {g : GGraph} {l : List (Int × Int)} (hl : l.length < 1000000000) (rec1 : GGraph → List GRulesLone → List GRulesLone → Int → Int → Option (Bool)) (rec2 : GGraph → List GRulesLone → GRulesLone → List GRulesLone → Int → Int → List GRulesLone → Int → Int → Option (Bool)) {x y : Int × Int} (hne : x ≠ y) (t24 : List GRulesLone) (t25 t26 : Int) (t42 : List GRulesLone) (t43 : Int) (j : Nat) (hj : j < 1000000000) : ∀ (f i : Nat) (was : Bool), l.length < i + f → i ≤ l.length → (was = true ∨ y ∈ l.drop i) →
    RulesMended_L3 rec1 rec2 f g (l.map mA) (mA x) (mA y) was t24 t25 t26 t42 t43 (j : Int) (l.map mA) ((l.map mA).length : Int) (i : Int) = rec2 g (l.map mA) (mA x) t24 t25 t26 t42 t43 ((j + 1 : Nat) : Int)
  | 0, i, _, _, _, _ => by omega
  | f + 1, i, was, hm, hi, hy => by
    have hxy : (((mA y).Tier == (mA x).Tier) && ((mA y).V == (mA x).V)) = false := by
      rw [Bool.eq_false_iff]
      intro q
      simp only [mA, Bool.and_eq_true, beq_iff_eq] at q
      exact hne (Prod.ext q.1.symm q.2.symm)
    show RulesMended_B3 rec1 rec2 (RulesMended_L3 rec1 rec2 f) _ _ _ _ _ _ _ _ _ _ _ _ _ _ = _
    unfold RulesMended_B3
    rw [hxy]
    by_cases c : i < l.length
    · have e : idx (l.map mA) (i : Int) = some (mA l[i]) := by rw [idx_get (by simpa using c), List.getElem_map]
      rw [bt (by rw [List.length_map]; exact lt_t c), e, some_bind', wr1 i (by omega)]
      refine RulesMended_L3_eq hl rec1 rec2 hne t24 t25 t26 t42 t43 j hj f (i + 1) _ (by omega) c ?_
      rcases hy with q | q
      · exact .inl (by rw [q]; rfl)
      · rw [drop_cons c, List.mem_cons] at q
        rcases q with q | q
        · left; rw [← q]; simp
        · exact .inr q
    · have hw : was = true := hy.resolve_right fun q => by rw [List.drop_eq_nil_of_le (by omega)] at q; cases q
      rw [bf (by rw [List.length_map]; exact lt_f c), hw, bf (by simp), wr1 j (by omega)]
theorem RulesMended_L2_eq {g : GGraph} {l ml : List (Int × Int)} (hl : l.length < 1000000000) (hml : ml.length < 1000000000) (rec1 : GGraph → List GRulesLone → List GRulesLone → Int → Int → Option (Bool)) {x : Int × Int} (hne : ∀ y, y ∈ ml → x ≠ y ∧ y ∈ l) (t24 : List GRulesLone) (t25 t26 : Int) : ∀ (f i : Nat), ml.length < i + f → i ≤ ml.length →
    RulesMended_L2 rec1 f g (l.map mA) (mA x) t24 t25 t26 (ml.map mA) ((ml.map mA).length : Int) (i : Int) = rec1 g (l.map mA) t24 t25 (IntKind.i64.wrap (t26 + 1))
  | 0, i, _, _ => by omega
  | f + 1, i, hm, hi => by
    have hFU := FU
    show RulesMended_B2 rec1 (RulesMended_L2 rec1 f) _ _ _ _ _ _ _ _ _ = _
    unfold RulesMended_B2
    by_cases c : i < ml.length
    · have e : idx (ml.map mA) (i : Int) = some (mA ml[i]) := by rw [idx_get (by simpa using c), List.getElem_map]
      obtain ⟨h1, h2⟩ := hne _ (List.getElem_mem c)
      have := RulesMended_L3_eq (g := g) hl rec1 (RulesMended_L2 rec1 f) h1 t24 t25 t26 (ml.map mA) ((ml.map mA).length : Int) i (by omega) FUEL 0 (((mA ml[i]).Tier == (mA x).Tier) && ((mA ml[i]).V == (mA x).V)) (by omega) (Nat.zero_le _) (.inr h2)
      rw [show ((0 : Nat) : Int) = (0 : Int) from rfl] at this
      rw [bt (by rw [List.length_map]; exact lt_t c), e, some_bind', this]
      exact RulesMended_L2_eq hl hml rec1 hne t24 t25 t26 f (i + 1) (by omega) c
    · rw [bf (by rw [List.length_map]; exact lt_f c)]
theorem RulesMended_L {g : GGraph} (h : GD g) : ∀ (f i : Nat), (lonT g 0).length < i + f → i ≤ (lonT g 0).length → RulesMended_L1 f g ((lonT g 0).map mA) ((lonT g 0).map mA) (((lonT g 0).map mA).length : Int) (i : Int) = some true
  | 0, i, _, _ => by omega
  | f + 1, i, hm, hi => by
    have hFU := FU
    have k := gok h.ok
    have hl := lonT_1e9 k
    show RulesMended_B1 (RulesMended_L1 f) _ _ _ _ _ = _
    unfold RulesMended_B1
    by_cases c : i < (lonT g 0).length
    · have e : idx ((lonT g 0).map mA) (i : Int) = some (mA (lonT g 0)[i]) := by rw [idx_get (by simpa using c), List.getElem_map]
      have hx := mem_lonT.1 (List.getElem_mem c)
      rw [bt (by rw [List.length_map]; exact lt_t c), e, some_bind']
      generalize hxe : (lonT g 0)[i] = x at hx
      obtain ⟨x1, x2, x3, x4, x5⟩ := hx
      obtain ⟨m, a1, a2, a3⟩ := (tiersMend_eq h x.2 x.2).1 ⟨x3, x4, x3, x4⟩
      have km := gok a3.ok
      have F := a2.facts k.gc (Int.le_refl _)
      obtain ⟨p1, p2⟩ := a2.mended k.gc (Int.le_refl _) (fun _ _ _ => by omega)
      have cL : m.Config.L = g.Config.L := by rw [F.al.c]
      have cN : m.Config.N = g.Config.N := by rw [F.al.c]
      have hne : ∀ y, y ∈ lonT m 0 → x ≠ y ∧ y ∈ lonT g 0 := fun y hy => by
        obtain ⟨y1, y2, y3, y4, y5⟩ := mem_lonT.1 hy
        rw [cL] at y2
        obtain ⟨z1, z2⟩ := (lon_iff km y3 y4).1 y5
        rw [cN] at y4
        have hg : Lon g y.1 y.2 := (p1 _ _ y1 y2 z2).resolve_right fun q => p2 _ y1 y2 (z2.cong q)
        refine ⟨fun q => ?_, mem_lonT.2 ⟨y1, y2, y3, y4, (lon_iff k y3 y4).2 ⟨?_, hg⟩⟩⟩
        · have := p2 _ y1 y2; rw [q] at this; exact this z2
        · have h1 : GT m y.1 y.2 (pf g y.1 y.2) := F.up _ _ _ (partf_conn _ _)
          have h2 : pf m y.1 y.2 = pf m y.1 (pf g y.1 y.2) := pf_iff.2 h1
          have h3 : pf m y.1 (pf g y.1 y.2) ≤ pf g y.1 y.2 := partf_le _ _
          have h4 : pf g y.1 y.2 ≤ y.2 := partf_le _ _
          omega
      show ((tiersMend_m g x.2 x.2).bind _) = _
      have hml := lonT_1e9 km
      rw [a1, some_bind']
      simp only []
      rw [bf (by rfl), rulesLonely_eq a3.hw a3.e a3.h, a3.ok, some_bind']
      simp only [if_true]
      have := RulesMended_L2_eq (g := g) hl hml (RulesMended_L1 f) hne ((lonT g 0).map mA) (((lonT g 0).map mA).length : Int) (i : Int) FUEL 0 (by omega) (Nat.zero_le _)
      rw [show ((0 : Nat) : Int) = (0 : Int) from rfl, wr1 i (by omega)] at this
      rw [this]
      exact RulesMended_L h f (i + 1) (by omega) c
    · rw [bf (by rw [List.length_map]; exact lt_f c), law16Awake_eq]; rfl
theorem RulesMended_p (g : GGraph) (hw : HW g) : RulesMended_m g = some true := by
  have hFU := FU
  unfold RulesMended_m
  obtain ⟨b, hb, hs⟩ := ref14Small_eq g
  rw [hb, some_bind', law16Awake_eq]
  cases b with
  | false => rfl
  | true =>
    obtain ⟨s1, s2, s3, s4, s5⟩ := hs rfl
    have hE : g.Edges.length < 1000000000 := by omega
    have hH : g.Hashes.length < 1000000000 := by omega
    rw [searchRight_eq hE hH, rulesLonely_eq hw hE hH]
    cases hg : grB g with
    | false => rfl
    | true =>
      have h : GD g := ⟨hg, hw, hE, hH⟩
      have hl := lonT_1e9 (gok hg)
      rw [show ((!true) == false) = true from rfl, gt' rfl, some_bind', bf (by rfl), some_bind']
      simp only [if_true]
      exact RulesMended_L h FUEL 0 (by omega) (Nat.zero_le _)
theorem clG_0 (g : GGraph) : clG g 0 = g.Config.N.toNat := by
  unfold clG
  have : fo g.Edges 0 = [] := List.eq_nil_iff_forall_not_mem.2 fun e he => by have := mem_fo_iff.1 he; omega
  rw [this]
  exact cl_nil _
theorem clG_mono {g : GGraph} (h : GOK g) (t : Int) : clG g (t + 1) ≤ clG g t := by
  have := h.n1
  exact cl_sub_le (en_sub fun e he => by have := mem_fo_iff.1 he; exact mem_fo_iff.2 ⟨this.1, this.2.1, by omega⟩) ((fo_Rg h.rg (t + 1)).inR (by omega))
theorem clG_pos {g : GGraph} (h : GOK g) (t : Int) : 1 ≤ clG g t := by
  have h1 := h.n1
  have a := pf_nn h t 0 (Int.le_refl _)
  have b : pf g t 0 ≤ 0 := partf_le _ _
  unfold clG cl cnt
  refine List.countP_pos_iff.2 ⟨0, List.mem_range.2 (by omega), ?_⟩
  have : pf g t 0 = 0 := by omega
  exact decide_eq_true this
theorem RulesCount_L2_eq {n : Int} (h0 : 0 ≤ n) (hn : n ≤ 1024) (f : Int → Int) (r : List Int) {z : Int} (hr : idx r (IntKind.i64.wrap ((r.length : Int) - 1)) = some z) : ∀ (m i k : Nat), n.toNat < i + m → i ≤ n.toNat → k ≤ i → z = ((k + cntF n.toNat i f : Nat) : Int) → RulesCount_L2 m r (k : Int) (tab n f) ((tab n f).length : Int) (i : Int) = some true
  | 0, i, _, _, _, _, _ => by omega
  | m + 1, i, k, hm, hi, hk, hz => by
    show RulesCount_B2 (RulesCount_L2 m) _ _ _ _ _ = _
    have hlen := tab_len n f
    unfold RulesCount_B2 RulesCount_J1
    by_cases c : i < n.toNat
    · rw [cntF_step c] at hz
      rw [bt (by rw [hlen]; exact lt_t c), tab_idx (by omega) (by omega), some_bind', wr1 i (by omega), wr1 k (by omega)]
      by_cases e : f i = i
      · rw [if_pos e] at hz
        rw [bt (by simp [e])]
        exact RulesCount_L2_eq h0 hn f r hr m (i + 1) (k + 1) (by omega) (by omega) (by omega) (by omega)
      · rw [if_neg e] at hz
        rw [bf (by simp; omega)]
        exact RulesCount_L2_eq h0 hn f r hr m (i + 1) k (by omega) (by omega) (by omega) (by omega)
    · rw [cntF_end f c] at hz
      rw [bf (by rw [hlen]; exact lt_f c), hr, some_bind', law16Awake_eq, show (z == (k : Int)) = true by rw [hz]; simp]; rfl
theorem RulesCount_L {g : GGraph} (h : GD g) : ∀ (f t : Nat), g.Config.L.toNat < t + f → t ≤ g.Config.L.toNat → RulesCount_L1 f g (rcT g 0) g.Config.L (t : Int) = some true
  | 0, t, _, _ => by omega
  | f + 1, t, hm, hi => by
    have hFU := FU
    have k := gok h.ok
    have n1 := k.n1
    have n2 := k.n2
    have l2 := k.l2
    have l1 := k.l1
    show RulesCount_B1 (RulesCount_L1 f) _ _ _ _ = _
    unfold RulesCount_B1
    by_cases c : t < g.Config.L.toNat
    · have m1 := clG_mono k (t : Int)
      have m2 := clG_pos k ((t : Int) + 1)
      have e : ((t + 1 : Nat) : Int) = (t : Int) + 1 := by omega
      rw [bt (by simp; omega), wr1 t (by omega), rcT_idx g (k := t + 1) (by omega), some_bind', rcT_idx g (k := t) (by omega), some_bind', e, gopt_some, some_bind']
      have d1 : decide (((clG g (t : Int) : Nat) : Int) < ((clG g ((t : Int) + 1) : Nat) : Int)) = false := by simp; omega
      have d2 : decide (((clG g ((t : Int) + 1) : Nat) : Int) < 1) = false := by simp; omega
      rw [d1]
      simp only [beq_self_eq_true, cond_true, Bool.false_or]
      rw [bf d2, ← e]
      exact RulesCount_L h f (t + 1) (by omega) (by omega)
    · rw [bf (by simp; omega), grB_kept h, some_bind']
      have hlen := rcT_len g
      have hr : idx (rcT g 0) (IntKind.i64.wrap (((rcT g 0).length : Int) - 1)) = some ((clG g g.Config.L.toNat : Nat) : Int) := by
        rw [wr0 (by omega) (by omega), show ((rcT g 0).length : Int) - 1 = (g.Config.L.toNat : Int) by omega, rcT_idx g (by omega)]
      refine RulesCount_L2_eq (by omega) n2 _ (rcT g 0) hr FUEL 0 0 (by omega) (Nat.zero_le _) (Nat.le_refl _) ?_
      rw [cntF_zero, Nat.zero_add]
      have : ((g.Config.L.toNat : Nat) : Int) = g.Config.L := by omega
      rw [this]; rfl
theorem RulesCount_p (g : GGraph) (hw : HW g) : RulesCount_m g = some true := by
  have hFU := FU
  unfold RulesCount_m
  obtain ⟨b, hb, hs⟩ := ref14Small_eq g
  rw [hb, some_bind', law16Awake_eq]
  cases b with
  | false => rfl
  | true =>
    obtain ⟨s1, s2, s3, s4, s5⟩ := hs rfl
    have hE : g.Edges.length < 1000000000 := by omega
    have hH : g.Hashes.length < 1000000000 := by omega
    rw [searchRight_eq hE hH, rulesReached_eq hw hE hH]
    cases hg : grB g with
    | false => rfl
    | true =>
      have h : GD g := ⟨hg, hw, hE, hH⟩
      have k := gok hg
      have n1 := k.n1
      have l1 := k.l1
      have l2 := k.l2
      have hlen := rcT_len g
      rw [show ((!true) == false) = true from rfl, gt' rfl, some_bind', bf (by rfl), some_bind']
      simp only [if_true]
      have d1 : (((rcT g 0).length : Int) != IntKind.i64.wrap (g.Config.L + 1)) = false := by
        rw [wr0 (by omega) (by omega)]; simp; omega
      have hz := rcT_idx g (k := 0) (by omega)
      have z0 : clG g ((0 : Nat) : Int) = g.Config.N.toNat := clG_0 g
      rw [z0] at hz
      have hz' : idx (rcT g 0) 0 = some ((g.Config.N.toNat : Nat) : Int) := hz
      rw [d1, gt' (by rfl), hz', some_bind', bf (by simp; omega)]
      exact RulesCount_L h FUEL 0 (by omega) (Nat.zero_le _)
theorem RulesTell_w (g : GGraph) {P1 P2 P3 : Prop} (w : WG g P1 P2 P3) : RulesTell_m g = some true := RulesTell_p g w.hw
theorem RulesMended_w (g : GGraph) {P1 P2 P3 : Prop} (w : WG g P1 P2 P3) : RulesMended_m g = some true := RulesMended_p g w.hw
theorem RulesCount_w (g : GGraph) {P1 P2 P3 : Prop} (w : WG g P1 P2 P3) : RulesCount_m g = some true := RulesCount_p g w.hw
theorem RulesStay_w (g : GGraph) (u v : Int) {P1 P2 P3 A B : Prop} (w : WG g P1 P2 P3) (_ : A) (_ : B) : RulesStay_m g u v = some true := RulesStay_p g w.hw u v
end Go.Proofs.Ytibnmlbjahcjmaa
