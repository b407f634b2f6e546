/- The laws of layer 20 that ask of one graph, in plain Lean. -/
import Derived.Test.YtibnmlbjahcjmaaAudR
set_option linter.unusedVariables false
set_option linter.unusedSimpArgs false
set_option maxRecDepth 20000
set_option maxHeartbeats 1000000
namespace Go.Proofs.Ytibnmlbjahcjmaa
open Go Go.AM Go.Pl Go.Pt

/-! Lists that are the same. -/
theorem slicesEqual_L (a b : List Int) (hab : a.length = b.length) (hl : a.length < 1000000000) : ∀ (m i : Nat), a.length < i + m → i ≤ a.length → slicesEqualInt_L1 m a b (a.length : Int) (i : Int) = some (decide (a.drop i = b.drop i))
  | 0, i, h, hi => by omega
  | m + 1, i, h, hi => by
    show slicesEqualInt_B1 (slicesEqualInt_L1 m) a b _ _ = _
    unfold slicesEqualInt_B1
    by_cases c : i < a.length
    · have c' : i < b.length := by omega
      rw [bt (lt_t c), idx_get c, some_bind', idx_get c', some_bind', wr1 i (by omega), drop_cons c, drop_cons c']
      by_cases q : a[i] = b[i]
      · rw [bf (by simp [q]), slicesEqual_L a b hab hl m (i + 1) (by omega) c]; simp [q, -List.getElem_cons_drop]
      · rw [bt (by simp [q])]; simp [q, -List.getElem_cons_drop]
    · rw [bf (lt_f c), List.drop_eq_nil_of_le (by omega), List.drop_eq_nil_of_le (by omega)]; rfl
theorem slicesEqual_eq (a b : List Int) (hl : a.length < 1000000000) : slicesEqualInt_m a b = some (decide (a = b)) := by
  have hFU := FU
  unfold slicesEqualInt_m
  by_cases h : a.length = b.length
  · rw [bf (by simp [h]), show (0 : Int) = ((0 : Nat) : Int) from rfl, slicesEqual_L a b h hl FUEL 0 (by omega) (Nat.zero_le _)]; rfl
  · rw [bt (by simp; omega)]
    have : ¬ a = b := fun e => h (by rw [e])
    simp [this]
theorem ref06Same_L (a b : List Int) (hab : a.length = b.length) (hl : a.length < 1000000000) : ∀ (m i : Nat), a.length < i + m → i ≤ a.length → ref06Same_L1 m a b (i : Int) = some (decide (a.drop i = b.drop i))
  | 0, i, h, hi => by omega
  | m + 1, i, h, hi => by
    show ref06Same_B1 (ref06Same_L1 m) a b _ = _
    unfold ref06Same_B1
    by_cases c : i < a.length
    · have c' : i < b.length := by omega
      rw [bt (lt_t c), idx_get c, some_bind', idx_get c', some_bind', wr1 i (by omega), drop_cons c, drop_cons c']
      by_cases q : a[i] = b[i]
      · rw [bf (by simp [q]), ref06Same_L a b hab hl m (i + 1) (by omega) c]; simp [q, -List.getElem_cons_drop]
      · rw [bt (by simp [q])]; simp [q, -List.getElem_cons_drop]
    · rw [bf (lt_f c), List.drop_eq_nil_of_le (by omega), List.drop_eq_nil_of_le (by omega)]; rfl
theorem ref06Same_eq (a b : List Int) (hl : a.length < 1000000000) : ref06Same_m a b = some (decide (a = b)) := by
  have hFU := FU
  unfold ref06Same_m
  by_cases h : a.length = b.length
  · rw [bf (by simp [h]), show (0 : Int) = ((0 : Nat) : Int) from rfl, ref06Same_L a b h hl FUEL 0 (by omega) (Nat.zero_le _)]; rfl
  · rw [bt (by simp; omega)]
    have : ¬ a = b := fun e => h (by rw [e])
    simp [this]
theorem edge_ext (x y : GEdge) : ((x.U == y.U) && ((x.V == y.V) && (x.Tier == y.Tier))) = decide (x = y) := by
  cases x with | mk a b c => cases y with | mk d e f =>
  by_cases h1 : a = d <;> by_cases h2 : b = e <;> by_cases h3 : c = f <;> simp [h1, h2, h3]
theorem ref03Same_L (a b : List GEdge) (hab : a.length = b.length) (hl : a.length < 1000000000) : ∀ (m i : Nat), a.length < i + m → i ≤ a.length → ref03Same_L1 m a b (i : Int) = some (decide (a.drop i = b.drop i))
  | 0, i, h, hi => by omega
  | m + 1, i, h, hi => by
    show ref03Same_B1 (ref03Same_L1 m) a b _ = _
    unfold ref03Same_B1
    by_cases c : i < a.length
    · have c' : i < b.length := by omega
      rw [bt (lt_t c), idx_get c, some_bind', idx_get c', some_bind', wr1 i (by omega), drop_cons c, drop_cons c', edge_ext]
      by_cases q : a[i] = b[i]
      · rw [bf (by simp [q]), ref03Same_L a b hab hl m (i + 1) (by omega) c]; simp [q, -List.getElem_cons_drop]
      · rw [bt (by simp [q])]; simp [q, -List.getElem_cons_drop]
    · rw [bf (lt_f c), List.drop_eq_nil_of_le (by omega), List.drop_eq_nil_of_le (by omega)]; rfl
theorem ref03Same_eq (a b : List GEdge) (hl : a.length < 1000000000) : ref03Same_m a b = some (decide (a = b)) := by
  have hFU := FU
  unfold ref03Same_m
  by_cases h : a.length = b.length
  · rw [bf (by simp [h]), show (0 : Int) = ((0 : Nat) : Int) from rfl, ref03Same_L a b h hl FUEL 0 (by omega) (Nat.zero_le _)]; rfl
  · rw [bt (by simp; omega)]
    have : ¬ a = b := fun e => h (by rw [e])
    simp [this]

/-! What is told, and what is so. -/
def kf (g : GGraph) : List GEdge := fo g.Edges g.Config.L
theorem pt_len' {n : Int} (hn : n ≤ 1024) (l : List GEdge) : (pt n l).length < 1000000000 := by rw [pt_len]; omega
def btw (p : Int → Int) (l : List GEdge) : List GEdge := l.filter fun e => p e.U != p e.V
section
variable {g : GGraph} (hE : g.Edges.length < 1000000000) (hH : g.Hashes.length < 1000000000)
include hE hH
theorem tiersKept_eq : tiersKept_m g = some (if grB g then pt g.Config.N (kf g) else []) := by
  unfold tiersKept_m
  rw [searchRight_eq hE hH, some_bind']
  cases h : grB g with
  | false => rfl
  | true =>
    have k := gok h
    have := fo_len g.Edges g.Config.L
    rw [bf (c := !true) rfl, tableForest_eq hE, some_bind', k.tr]
    simp only [if_true]
    rw [partOf_pt (by omega) (by have := k.n1; omega) k.n2 (fo_Rg k.rg _), some_bind']; rfl
theorem auditSo_eq : auditSo_m g = some (if grB g then pt g.Config.N g.Edges else []) := by
  unfold auditSo_m
  rw [searchRight_eq hE hH, some_bind']
  cases h : grB g with
  | false => rfl
  | true =>
    have k := gok h
    rw [bf (c := !true) rfl, partOf_pt hE (by have := k.n1; omega) k.n2 k.rg, some_bind']; rfl
omit hH in
theorem btw_L (h : GOK g) : ∀ (m i : Nat) (out : List GEdge), g.Edges.length < i + m → i ≤ g.Edges.length → out.length ≤ i → auditBetween_L1 m (pt g.Config.N (kf g)) out g.Edges (g.Edges.length : Int) (i : Int) = some (out ++ btw (partf (en (kf g))) (g.Edges.drop i))
  | 0, i, _, hm, hi, _ => by omega
  | m + 1, i, out, hm, hi, ho => by
    show auditBetween_B1 (auditBetween_L1 m) _ out g.Edges _ _ = _
    unfold auditBetween_B1 auditBetween_J1
    by_cases c : i < g.Edges.length
    · obtain ⟨u0, un, v0, vn⟩ := h.rg.at c
      rw [bt (lt_t c), idx_get c, some_bind', pt_idx u0 un, some_bind', pt_idx v0 vn, some_bind', wr1 i (by omega)]
      unfold btw
      rw [filt_drop c]
      cases q : (partf (en (kf g)) g.Edges[i].U != partf (en (kf g)) g.Edges[i].V) with
      | true =>
        rw [bt rfl, app_ok (by simp; omega), some_bind', btw_L h m (i + 1) _ (by omega) c (by simp; omega)]
        simp [btw]
      | false =>
        rw [bf rfl, btw_L h m (i + 1) _ (by omega) c (by omega)]
        simp [btw]
    · rw [bf (lt_f c), List.drop_eq_nil_of_le (by omega)]; simp [btw]
theorem auditBetween_eq : auditBetween_m g = some (if grB g then btw (partf (en (kf g))) g.Edges else []) := by
  have hFU := FU
  unfold auditBetween_m
  rw [searchRight_eq hE hH, some_bind']
  cases h : grB g with
  | false => rfl
  | true =>
    rw [bf (c := !true) rfl, tiersKept_eq hE hH, some_bind', h]
    simp only [if_true]
    rw [show (0 : Int) = ((0 : Nat) : Int) from rfl, btw_L hE (gok h) FUEL 0 [] (by omega) (Nat.zero_le _) (by simp)]; rfl
theorem auditExact_eq : auditExact_m g = some (grB g && decide (pt g.Config.N (kf g) = pt g.Config.N g.Edges)) := by
  unfold auditExact_m
  rw [searchRight_eq hE hH, some_bind', tiersKept_eq hE hH, auditSo_eq hE hH]
  cases h : grB g with
  | false => rfl
  | true =>
    simp only [if_true]
    rw [gtt, some_bind', gtt, some_bind', gtt, slicesEqual_eq _ _ (pt_len' (gok h).n2 _), some_bind']
theorem auditMissing_eq : auditMissing_m g = some (if grB g then (cl g.Config.N.toNat (en (kf g)) : Int) - cl g.Config.N.toNat (en g.Edges) else 0) := by
  unfold auditMissing_m
  rw [searchRight_eq hE hH, some_bind']
  cases h : grB g with
  | false => rfl
  | true =>
    have k := gok h
    have h1 := cl_le (n := g.Config.N.toNat) (en (kf g))
    have h2 := cl_le (n := g.Config.N.toNat) (en g.Edges)
    have h3 := k.n1
    have h4 := k.n2
    rw [bf (c := !true) rfl, tiersKept_eq hE hH, some_bind', auditSo_eq hE hH, h]
    simp only [if_true]
    rw [partMany_pt (l := kf g) (by omega) h4 (fo_Rg k.rg _), some_bind', some_bind', partMany_pt (by omega) h4 k.rg, some_bind', wr0 (by omega) (by omega)]
end
section
variable {g : GGraph} (hE : g.Edges.length < 1000000000) (h : GOK g)
include hE h
theorem ref15Kept_eq : ref15Kept_m g = some (pt g.Config.N (kf g)) := by
  have := fo_len g.Edges g.Config.L
  have h3 := h.n1
  unfold ref15Kept_m
  rw [ref12Forest_eq hE, some_bind', ref09Of_pt (by omega) h.n2 (by omega) (fo_Rg h.rg _), some_bind']; rfl
theorem ref20So_eq : ref20So_m g = some (pt g.Config.N g.Edges) := by
  have h3 := h.n1
  unfold ref20So_m
  rw [ref09Of_pt (by omega) h.n2 hE h.rg, some_bind']
theorem ref20Btw_L : ∀ (m i : Nat) (out : List GEdge), g.Edges.length < i + m → i ≤ g.Edges.length → out.length ≤ i → ref20Between_L1 m g (pt g.Config.N (kf g)) out (i : Int) = some (out ++ btw (partf (en (kf g))) (g.Edges.drop i))
  | 0, i, _, hm, hi, _ => by omega
  | m + 1, i, out, hm, hi, ho => by
    show ref20Between_B1 (ref20Between_L1 m) g _ out _ = _
    unfold ref20Between_B1 ref20Between_J1
    by_cases c : i < g.Edges.length
    · obtain ⟨u0, un, v0, vn⟩ := h.rg.at c
      rw [bt (lt_t c), idx_get c, some_bind', pt_idx u0 un, some_bind', some_bind', pt_idx v0 vn, some_bind', wr1 i (by omega)]
      unfold btw
      rw [filt_drop c]
      cases q : (partf (en (kf g)) g.Edges[i].U != partf (en (kf g)) g.Edges[i].V) with
      | true =>
        rw [bt rfl, some_bind', app_ok (by simp; omega), some_bind', ref20Btw_L m (i + 1) _ (by omega) c (by simp; omega)]
        simp [btw]
      | false =>
        rw [bf rfl, ref20Btw_L m (i + 1) _ (by omega) c (by omega)]
        simp [btw]
    · rw [bf (lt_f c), List.drop_eq_nil_of_le (by omega)]; simp [btw]
theorem ref20Between_eq : ref20Between_m g = some (btw (partf (en (kf g))) g.Edges) := by
  have hFU := FU
  unfold ref20Between_m
  rw [ref15Kept_eq hE h, some_bind', show (0 : Int) = ((0 : Nat) : Int) from rfl, ref20Btw_L hE h FUEL 0 [] (by omega) (Nat.zero_le _) (by simp)]; rfl
end
theorem ref20Classes_L {n : Int} (h0 : 0 ≤ n) (hn : n ≤ 1024) (f : Int → Int) : ∀ (m i k : Nat), n.toNat < i + m → i ≤ n.toNat → k ≤ i → ref20Classes_L1 m (tab n f) (k : Int) (i : Int) = some (((k + cntF n.toNat i f : Nat) : Int))
  | 0, i, _, _, _, _ => by omega
  | m + 1, i, k, hm, hi, hk => by
    show ref20Classes_B1 (ref20Classes_L1 m) _ _ _ = _
    have hlen := tab_len n f
    unfold ref20Classes_B1 ref20Classes_J1
    by_cases c : i < n.toNat
    · rw [bt (by rw [hlen]; exact lt_t c), tab_idx (by omega) (by omega), some_bind', wr1 i (by omega), wr1 k (by omega), cntF_step c]
      by_cases e : f i = i
      · rw [bt (by simp [e]), ref20Classes_L h0 hn f m (i + 1) (k + 1) (by omega) (by omega) (by omega), if_pos e]
        congr 2; omega
      · rw [bf (by simp; omega), ref20Classes_L h0 hn f m (i + 1) k (by omega) (by omega) (by omega), if_neg e]
        congr 2; omega
    · rw [bf (by rw [hlen]; exact lt_f c), cntF_end f c]; rfl
theorem ref20Classes_eq {n : Int} (h0 : 0 ≤ n) (hn : n ≤ 1024) (l : List GEdge) : ref20Classes_m (pt n l) = some ((cl n.toNat (en l) : Nat) : Int) := by
  have hFU := FU
  have := ref20Classes_L h0 hn (partf (en l)) FUEL 0 0 (by omega) (Nat.zero_le _) (Nat.le_refl _)
  rw [cntF_zero, Nat.zero_add] at this
  exact this
theorem ref14Small_eq (g : GGraph) : ∃ b, ref14Small_m g = some b ∧ (b = true → g.Config.N ≤ 16 ∧ g.Config.L ≤ 5 ∧ g.Config.R ≤ 3 ∧ g.Edges.length ≤ 40 ∧ g.Hashes.length ≤ 20) :=
  ⟨_, rfl, fun h => by simp at h; omega⟩
theorem law20Awake_eq : law20Awake_m = some true := by decide +kernel
end Go.Proofs.Ytibnmlbjahcjmaa
