/- Facts that the statement's proof is made of. No condition. -/
import Derived.Test.YtibnmlbjahcjmaaQvAudR
set_option linter.unusedVariables false
set_option linter.unusedSimpArgs false
set_option maxRecDepth 20000
set_option maxHeartbeats 1000000
namespace Go.Proofs.Ytibnmlbjahcjmaa
open Go Go.AM Go.Pl Go.Pt
theorem slicesEqual_L (a b : List Int) (hab : a.length = b.length) (hl : a.length < 1000000000) : ∀ (m i : Nat), a.length < i + m → i ≤ a.length → slicesEqualInt_L1 m a b (a.length : Int) (i : Int) = some (decide (a.drop i = b.drop i))
  | 0, i, h, hi => by omega
  | m + 1, i, h, hi => by
    show slicesEqualInt_B1 (slicesEqualInt_L1 m) a b _ _ = _
    unfold slicesEqualInt_B1
    by_cases c : i < a.length
    · have c' : i < b.length := by omega
      rw [bt (lt_t c), idx_get c, some_bind', idx_get c', some_bind', wr1 i (by omega), drop_cons c, drop_cons c']
      by_cases q : a[i] = b[i]
      · rw [bf (by simp [q]), slicesEqual_L a b hab hl m (i + 1) (by omega) c]; simp [q, -List.getElem_cons_drop]
      · rw [bt (by simp [q])]; simp [q, -List.getElem_cons_drop]
    · rw [bf (lt_f c), List.drop_eq_nil_of_le (by omega), List.drop_eq_nil_of_le (by omega)]; rfl
theorem slicesEqual_eq (a b : List Int) (hl : a.length < 1000000000) : slicesEqualInt_m a b = some (decide (a = b)) := by
  have hFU := FU
  unfold slicesEqualInt_m
  by_cases h : a.length = b.length
  · rw [bf (by simp [h]), show (0 : Int) = ((0 : Nat) : Int) from rfl, slicesEqual_L a b h hl FUEL 0 (by omega) (Nat.zero_le _)]; rfl
  · rw [bt (by simp; omega)]
    have : ¬ a = b := fun e => h (by rw [e])
    simp [this]
theorem ref06Same_L (a b : List Int) (hab : a.length = b.length) (hl : a.length < 1000000000) : ∀ (m i : Nat), a.length < i + m → i ≤ a.length → ref06Same_L1 m a b (i : Int) = some (decide (a.drop i = b.drop i))
  | 0, i, h, hi => by omega
  | m + 1, i, h, hi => by
    show ref06Same_B1 (ref06Same_L1 m) a b _ = _
    unfold ref06Same_B1
    by_cases c : i < a.length
    · have c' : i < b.length := by omega
      rw [bt (lt_t c), idx_get c, some_bind', idx_get c', some_bind', wr1 i (by omega), drop_cons c, drop_cons c']
      by_cases q : a[i] = b[i]
      · rw [bf (by simp [q]), ref06Same_L a b hab hl m (i + 1) (by omega) c]; simp [q, -List.getElem_cons_drop]
      · rw [bt (by simp [q])]; simp [q, -List.getElem_cons_drop]
    · rw [bf (lt_f c), List.drop_eq_nil_of_le (by omega), List.drop_eq_nil_of_le (by omega)]; rfl
theorem ref06Same_eq (a b : List Int) (hl : a.length < 1000000000) : ref06Same_m a b = some (decide (a = b)) := by
  have hFU := FU
  unfold ref06Same_m
  by_cases h : a.length = b.length
  · rw [bf (by simp [h]), show (0 : Int) = ((0 : Nat) : Int) from rfl, ref06Same_L a b h hl FUEL 0 (by omega) (Nat.zero_le _)]; rfl
  · rw [bt (by simp; omega)]
    have : ¬ a = b := fun e => h (by rw [e])
    simp [this]
theorem edge_ext (x y : GEdge) : ((x.U == y.U) && ((x.V == y.V) && (x.Tier == y.Tier))) = decide (x = y) := by
  cases x with | mk a b c => cases y with | mk d e f =>
  by_cases h1 : a = d <;> by_cases h2 : b = e <;> by_cases h3 : c = f <;> simp [h1, h2, h3]
theorem ref03Same_L (a b : List GEdge) (hab : a.length = b.length) (hl : a.length < 1000000000) : ∀ (m i : Nat), a.length < i + m → i ≤ a.length → ref03Same_L1 m a b (i : Int) = some (decide (a.drop i = b.drop i))
  | 0, i, h, hi => by omega
  | m + 1, i, h, hi => by
    show ref03Same_B1 (ref03Same_L1 m) a b _ = _
    unfold ref03Same_B1
    by_cases c : i < a.length
    · have c' : i < b.length := by omega
      rw [bt (lt_t c), idx_get c, some_bind', idx_get c', some_bind', wr1 i (by omega), drop_cons c, drop_cons c', edge_ext]
      by_cases q : a[i] = b[i]
      · rw [bf (by simp [q]), ref03Same_L a b hab hl m (i + 1) (by omega) c]; simp [q, -List.getElem_cons_drop]
      · rw [bt (by simp [q])]; simp [q, -List.getElem_cons_drop]
    · rw [bf (lt_f c), List.drop_eq_nil_of_le (by omega), List.drop_eq_nil_of_le (by omega)]; rfl
theorem ref03Same_eq (a b : List GEdge) (hl : a.length < 1000000000) : ref03Same_m a b = some (decide (a = b)) := by
  have hFU := FU
  unfold ref03Same_m
  by_cases h : a.length = b.length
  · rw [bf (by simp [h]), show (0 : Int) = ((0 : Nat) : Int) from rfl, ref03Same_L a b h hl FUEL 0 (by omega) (Nat.zero_le _)]; rfl
  · rw [bt (by simp; omega)]
    have : ¬ a = b := fun e => h (by rw [e])
    simp [this]
def kf (g : GGraph) : List GEdge := fo g.Edges g.Config.L
theorem pt_len' {n : Int} (hn : n ≤ 1024) (l : List GEdge) : (pt n l).length < 1000000000 := by rw [pt_len]; omega
def btw (p : Int → Int) (l : List GEdge) : List GEdge := l.filter fun e => p e.U != p e.V
section
variable {g : GGraph} (hE : g.Edges.length < 1000000000) (hH : g.Hashes.length < 1000000000)
include hE hH
theorem tiersKept_eq : tiersKept_m g = some (if grB g then pt g.Config.N (kf g) else []) := by
  unfold tiersKept_m
  rw [searchRight_eq hE hH, some_bind']
  cases h : grB g with
  | false => rfl
  | true =>
    have k := gok h
    have := fo_len g.Edges g.Config.L
    rw [bf (c := !true) rfl, tableForest_eq hE, some_bind', k.tr]
    simp only [if_true]
    rw [partOf_pt (by omega) (by have := k.n1; omega) k.n2 (fo_Rg k.rg _), some_bind']; rfl
theorem auditSo_eq : auditSo_m g = some (if grB g then pt g.Config.N g.Edges else []) := by
  unfold auditSo_m
  rw [searchRight_eq hE hH, some_bind']
  cases h : grB g with
  | false => rfl
  | true =>
    have k := gok h
    rw [bf (c := !true) rfl, partOf_pt hE (by have := k.n1; omega) k.n2 k.rg, some_bind']; rfl
omit hH in
theorem btw_L (h : GOK g) : ∀ (m i : Nat) (out : List GEdge), g.Edges.length < i + m → i ≤ g.Edges.length → out.length ≤ i → auditBetween_L1 m (pt g.Config.N (kf g)) out g.Edges (g.Edges.length : Int) (i : Int) = some (out ++ btw (partf (en (kf g))) (g.Edges.drop i))
  | 0, i, _, hm, hi, _ => by omega
  | m + 1, i, out, hm, hi, ho => by
    show auditBetween_B1 (auditBetween_L1 m) _ out g.Edges _ _ = _
    unfold auditBetween_B1 auditBetween_J1
    by_cases c : i < g.Edges.length
    · obtain ⟨u0, un, v0, vn⟩ := h.rg.at c
      rw [bt (lt_t c), idx_get c, some_bind', pt_idx u0 un, some_bind', pt_idx v0 vn, some_bind', wr1 i (by omega)]
      unfold btw
      rw [filt_drop c]
      cases q : (partf (en (kf g)) g.Edges[i].U != partf (en (kf g)) g.Edges[i].V) with
      | true =>
        rw [bt rfl, app_ok (by simp; omega), some_bind', btw_L h m (i + 1) _ (by omega) c (by simp; omega)]
        simp [btw]
      | false =>
        rw [bf rfl, btw_L h m (i + 1) _ (by omega) c (by omega)]
        simp [btw]
    · rw [bf (lt_f c), List.drop_eq_nil_of_le (by omega)]; simp [btw]
theorem auditBetween_eq : auditBetween_m g = some (if grB g then btw (partf (en (kf g))) g.Edges else []) := by
  have hFU := FU
  unfold auditBetween_m
  rw [searchRight_eq hE hH, some_bind']
  cases h : grB g with
  | false => rfl
  | true =>
    rw [bf (c := !true) rfl, tiersKept_eq hE hH, some_bind', h]
    simp only [if_true]
    rw [show (0 : Int) = ((0 : Nat) : Int) from rfl, btw_L hE (gok h) FUEL 0 [] (by omega) (Nat.zero_le _) (by simp)]; rfl
theorem auditExact_eq : auditExact_m g = some (grB g && decide (pt g.Config.N (kf g) = pt g.Config.N g.Edges)) := by
  unfold auditExact_m
  rw [searchRight_eq hE hH, some_bind', tiersKept_eq hE hH, auditSo_eq hE hH]
  cases h : grB g with
  | false => rfl
  | true =>
    simp only [if_true]
    rw [gtt, some_bind', gtt, some_bind', gtt, slicesEqual_eq _ _ (pt_len' (gok h).n2 _), some_bind']
end
section
variable {g : GGraph} (hE : g.Edges.length < 1000000000) (h : GOK g)
include hE h
theorem ref20So_eq : ref20So_m g = some (pt g.Config.N g.Edges) := by
  have h3 := h.n1
  unfold ref20So_m
  rw [ref09Of_pt (by omega) h.n2 hE h.rg, some_bind']
end
theorem law20Awake_eq : law20Awake_m = some true := by decide +kernel
end Go.Proofs.Ytibnmlbjahcjmaa
