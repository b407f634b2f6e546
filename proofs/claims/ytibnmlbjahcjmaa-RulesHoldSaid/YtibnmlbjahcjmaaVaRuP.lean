/- Facts that the statement's proof is made of. No condition. -/
import Derived.Test.YtibnmlbjahcjmaaVaTiM
set_option linter.unusedVariables false
set_option linter.unusedSimpArgs false
set_option maxRecDepth 20000
set_option maxHeartbeats 1000000
namespace Go.Proofs.Ytibnmlbjahcjmaa
open Go Go.AM Go.Pl Go.Pt
theorem tab_set {n : Int} {f : Int → Int} {x y : Int} (h0 : 0 ≤ x) (h : x < n) : stt (tab n f) x y = some (tab n fun z => if z = x then y else f z) := by
  rw [stt_at (k := x.toNat) (by omega) (by rw [tab_len]; omega)]
  congr 1
  apply List.ext_getElem?
  intro k
  unfold tab
  rw [List.getElem?_set]
  by_cases hk : k < n.toNat
  · rw [List.getElem?_map, List.getElem?_map, List.getElem?_range hk]
    by_cases e : x.toNat = k
    · rw [if_pos e, if_pos (by simp; omega)]
      simp; omega
    · rw [if_neg e]
      simp; omega
  · rw [if_neg (by omega), List.getElem?_eq_none (by simp; omega), List.getElem?_eq_none (by simp; omega)]
def szP (f : Int → Int) (i : Nat) (c : Int) : Int := ((((List.range i).filter fun (k : Nat) => f (k : Int) == c).length : Nat) : Int)
theorem szP_step (f : Int → Int) (i : Nat) (c : Int) : szP f (i + 1) c = szP f i c + if c = f i then 1 else 0 := by
  unfold szP
  rw [List.range_succ, List.filter_append, List.length_append, List.filter_cons]
  by_cases e : c = f i
  · rw [if_pos (by simp [e]), if_pos e]; simp
  · rw [if_neg (by simp; exact fun q => e q.symm), if_neg e]; simp
theorem szP_le (f : Int → Int) (i : Nat) (c : Int) : 0 ≤ szP f i c ∧ szP f i c ≤ i := by
  have := List.length_filter_le (fun (k : Nat) => f (k : Int) == c) (List.range i)
  rw [List.length_range] at this
  unfold szP; omega
theorem szP_all {n : Int} (f : Int → Int) (v : Int) : szP f n.toNat (f v) = ((trl n f v).length : Int) := by
  unfold szP trl trF
  rw [List.length_map, Nat.sub_zero, List.range_eq_range']
theorem rulesSizes_L {n : Int} (h0 : 0 ≤ n) (hn : n ≤ 1024) (f : Int → Int) (hr : ∀ x, 0 ≤ x → x < n → 0 ≤ f x ∧ f x < n) : ∀ (m i : Nat), n.toNat < i + m → i ≤ n.toNat → rulesSizes_L1 m (tab n (szP f i)) (tab n f) ((tab n f).length : Int) (i : Int) = some (tab n (szP f n.toNat))
  | 0, i, _, _ => by omega
  | m + 1, i, hm, hi => by
    show rulesSizes_B1 (rulesSizes_L1 m) _ _ _ _ = _
    have hlen := tab_len n f
    unfold rulesSizes_B1
    by_cases c : i < n.toNat
    · obtain ⟨r1, r2⟩ := hr i (by omega) (by omega)
      have hz := szP_le f i (f i)
      rw [bt (by rw [hlen]; exact lt_t c), tab_idx (by omega) (by omega), some_bind', tab_idx r1 r2, some_bind', some_bind', wr0 (by omega) (by omega), tab_set r1 r2, some_bind', wr1 i (by omega)]
      have e : (tab n fun z => if z = f i then szP f i (f i) + 1 else szP f i z) = tab n (szP f (i + 1)) := tab_ext fun z _ _ => by
        rw [szP_step]
        by_cases q : z = f i
        · rw [if_pos q, if_pos q, q]
        · rw [if_neg q, if_neg q]; omega
      rw [e]
      exact rulesSizes_L h0 hn f hr m (i + 1) (by omega) (by omega)
    · rw [bf (by rw [hlen]; exact lt_f c), show i = n.toNat by omega]
theorem rulesSizes_eq {n : Int} (h0 : 0 ≤ n) (hn : n ≤ 1024) (f : Int → Int) (hr : ∀ x, 0 ≤ x → x < n → 0 ≤ f x ∧ f x < n) : rulesSizes_m (tab n f) = some (tab n (szP f n.toNat)) := by
  have hFU := FU
  have hlen := tab_len n f
  unfold rulesSizes_m
  rw [mkc_nat (k := n.toNat) (by omega) (by omega) (by omega), some_bind']
  have e : List.replicate n.toNat (0 : Int) = tab n (szP f 0) := eq_tab (by simp) fun k hk => by
    rw [List.getElem?_replicate, if_pos (by omega)]; rfl
  rw [e]
  exact rulesSizes_L h0 hn f hr FUEL 0 (by omega) (Nat.zero_le _)
def lonB (g : GGraph) (t v : Int) : Bool := (pf g t v == v) && (((trl g.Config.N (pf g t) v).length == (trl g.Config.N (pf g (t + 1)) v).length) && (srch g t v).isSome)
def lonV (g : GGraph) (t : Int) (i : Nat) : List (Int × Int) := ((List.range' i (g.Config.N.toNat - i)).filter fun (k : Nat) => lonB g t k).map fun (k : Nat) => (t, (k : Int))
theorem lonV_step {g : GGraph} {t : Int} {i : Nat} (h : i < g.Config.N.toNat) : lonV g t i = (if lonB g t i then [(t, (i : Int))] else []) ++ lonV g t (i + 1) := by
  unfold lonV
  rw [show g.Config.N.toNat - i = (g.Config.N.toNat - (i + 1)) + 1 by omega, List.range'_succ, List.filter_cons]
  cases q : lonB g t i with
  | true => rw [if_pos rfl, if_pos rfl]; rfl
  | false => rw [if_neg (by simp), if_neg (by simp)]; rfl
theorem lonV_end {g : GGraph} {t : Int} {i : Nat} (h : ¬ i < g.Config.N.toNat) : lonV g t i = [] := by unfold lonV; rw [show g.Config.N.toNat - i = 0 by omega]; rfl
theorem lonV_len (g : GGraph) (t : Int) (i : Nat) : (lonV g t i).length ≤ g.Config.N.toNat - i := by
  unfold lonV; rw [List.length_map]; exact Nat.le_trans (List.length_filter_le _ _) (by simp)
theorem mem_lonV {g : GGraph} {t : Int} {q : Int × Int} : q ∈ lonV g t 0 ↔ q.1 = t ∧ 0 ≤ q.2 ∧ q.2 < g.Config.N ∧ lonB g t q.2 = true := by
  unfold lonV
  rw [List.mem_map]
  constructor
  · rintro ⟨k, hk, rfl⟩
    rw [List.mem_filter, List.mem_range'] at hk
    obtain ⟨⟨i, h1, h2⟩, h3⟩ := hk
    exact ⟨rfl, by simp, by simp; omega, h3⟩
  · rintro ⟨h0, h1, h2, h3⟩
    have e : ((q.2.toNat : Nat) : Int) = q.2 := by omega
    refine ⟨q.2.toNat, ?_, by rw [e, ← h0]⟩
    rw [List.mem_filter, List.mem_range', e]
    exact ⟨⟨q.2.toNat, by omega, by omega⟩, h3⟩
def lonT (g : GGraph) (t : Nat) : List (Int × Int) := (List.range' t (g.Config.L.toNat - t)).flatMap fun (k : Nat) => lonV g k 0
theorem lonT_step {g : GGraph} {t : Nat} (h : t < g.Config.L.toNat) : lonT g t = lonV g t 0 ++ lonT g (t + 1) := by
  unfold lonT
  rw [show g.Config.L.toNat - t = (g.Config.L.toNat - (t + 1)) + 1 by omega, List.range'_succ, List.flatMap_cons]
theorem lonT_end {g : GGraph} {t : Nat} (h : ¬ t < g.Config.L.toNat) : lonT g t = [] := by unfold lonT; rw [show g.Config.L.toNat - t = 0 by omega]; rfl
theorem mem_lonT {g : GGraph} {q : Int × Int} : q ∈ lonT g 0 ↔ 0 ≤ q.1 ∧ q.1 < g.Config.L ∧ 0 ≤ q.2 ∧ q.2 < g.Config.N ∧ lonB g q.1 q.2 = true := by
  unfold lonT
  rw [List.mem_flatMap]
  constructor
  · rintro ⟨k, hk, hq⟩
    rw [List.mem_range'] at hk
    obtain ⟨i, h1, h2⟩ := hk
    obtain ⟨a, b, c, d⟩ := mem_lonV.1 hq
    rw [a]
    exact ⟨by omega, by omega, b, c, d⟩
  · rintro ⟨h1, h2, h3⟩
    have e : ((q.1.toNat : Nat) : Int) = q.1 := by omega
    exact ⟨q.1.toNat, List.mem_range'.2 ⟨q.1.toNat, by omega, by omega⟩, mem_lonV.2 ⟨by omega, by rw [e]; exact h3⟩⟩
def mA (q : Int × Int) : GRulesLone := ⟨q.1, q.2⟩
theorem pf_in {g : GGraph} (h : GOK g) (t : Int) {x : Int} (h0 : 0 ≤ x) (hx : x < g.Config.N) : 0 ≤ pf g t x ∧ pf g t x < g.Config.N := pf_rg (fo_Rg h.rg t) h0 hx
section
variable {g : GGraph} (h : GD g)
include h
theorem rulesTrees_eq (t : Int) : rulesTrees_m g t = some (pt g.Config.N (fo g.Edges t)) := by
  have k := gok h.ok
  have n1 := k.n1
  have hf := fo_len g.Edges t
  have := h.e
  unfold rulesTrees_m
  rw [tableForest_eq h.e, some_bind', k.tr]
  simp only [if_true]
  rw [partOf_pt (by omega) (by omega) k.n2 (fo_Rg k.rg _), some_bind']
theorem rulesLonely_L2_eq (rec1 : GGraph → List GRulesLone → Int → Int → Option (List GRulesLone)) (t : Nat) (ht : (t : Int) < g.Config.L) (T : Int) : ∀ (m i : Nat) (out : List GRulesLone), g.Config.N.toNat < i + m → i ≤ g.Config.N.toNat → out.length ≤ 1024 * t + i →
    rulesLonely_L2 rec1 m g out (t : Int) (pt g.Config.N (fo g.Edges ((t : Int) + 1))) (tab g.Config.N (szP (pf g t) g.Config.N.toNat)) (tab g.Config.N (szP (pf g ((t : Int) + 1)) g.Config.N.toNat)) T (t : Int) (pt g.Config.N (fo g.Edges (t : Int))) ((pt g.Config.N (fo g.Edges (t : Int))).length : Int) (i : Int) = rec1 g (out ++ (lonV g t i).map mA) T (IntKind.i64.wrap ((t : Int) + 1))
  | 0, i, _, _, _, _ => by omega
  | m + 1, i, out, hm, hi, ho => by
    have k := gok h.ok
    have n1 := k.n1
    have n2 := k.n2
    have l2 := k.l2
    have hlen := pt_len g.Config.N (fo g.Edges (t : Int))
    show rulesLonely_B2 rec1 (rulesLonely_L2 rec1 m) _ _ _ _ _ _ _ _ _ _ _ = _
    unfold rulesLonely_B2 rulesLonely_J1
    by_cases c : i < g.Config.N.toNat
    · have ci : (i : Int) < g.Config.N := by omega
      have ih := fun out' => rulesLonely_L2_eq rec1 t ht T m (i + 1) out' (by omega) c
      have e1 : idx (pt g.Config.N (fo g.Edges (t : Int))) (i : Int) = some (pf g t i) := tab_idx (by omega) ci
      have e2 : idx (pt g.Config.N (fo g.Edges ((t : Int) + 1))) (i : Int) = some (pf g ((t : Int) + 1) i) := tab_idx (by omega) ci
      obtain ⟨r1, r2⟩ := pf_in k ((t : Int) + 1) (x := (i : Int)) (by omega) ci
      have e3 : idx (tab g.Config.N (szP (pf g t) g.Config.N.toNat)) (i : Int) = some (szP (pf g t) g.Config.N.toNat i) := tab_idx (by omega) ci
      have e4 : idx (tab g.Config.N (szP (pf g ((t : Int) + 1)) g.Config.N.toNat)) (pf g ((t : Int) + 1) i) = some (szP (pf g ((t : Int) + 1)) g.Config.N.toNat (pf g ((t : Int) + 1) i)) := tab_idx r1 r2
      rw [bt (by rw [hlen]; exact lt_t c), e1, some_bind', wr1 i (by omega)]
      by_cases q : pf g t i = i
      · have z1 : ((i : Int) != pf g t i) = false := by rw [q]; simp
        have e5 : szP (pf g t) g.Config.N.toNat i = ((trl g.Config.N (pf g t) i).length : Int) := by
          have := szP_all (n := g.Config.N) (pf g t) i
          rw [q] at this; exact this
        rw [z1]
        simp only [beq_self_eq_true]
        rw [gt' rfl, e3, some_bind', gt' rfl, e2, some_bind', gt' rfl, e4, some_bind', e5, szP_all, Bool.false_or]
        by_cases s : (trl g.Config.N (pf g t) i).length = (trl g.Config.N (pf g ((t : Int) + 1)) i).length
        · rw [bf (by simp [s]), searchSearch_eq h.e h.h h.hw, some_bind', if_pos ⟨h.ok, by omega, ht, by omega, ci⟩]
          cases hs : srch g t i with
          | none =>
            have : lonB g t i = false := by unfold lonB; rw [hs]; simp
            rw [lonV_step c, this]
            show (bif false then _ else _) = _
            rw [bf rfl, ih _ (by omega)]; rfl
          | some e =>
            have : lonB g t i = true := by unfold lonB; rw [hs, q, s]; simp
            rw [lonV_step c, this]
            show (bif true then _ else _) = _
            rw [bt rfl, app_ok (by simp; omega), some_bind', ih _ (by simp; omega)]
            simp [mA]
        · have : lonB g t i = false := by unfold lonB; simp [s]
          rw [bt (by simp; omega), ih _ (by omega), lonV_step c, this]; rfl
      · have : lonB g t i = false := by unfold lonB; simp [q]
        have z1 : ((i : Int) != pf g t i) = true := by simp; omega
        rw [z1, gf' (by rfl), some_bind', gf' (by rfl), some_bind', gf' (by rfl), some_bind', bt (by rfl), ih _ (by omega), lonV_step c, this]; rfl
    · rw [bf (by rw [hlen]; exact lt_f c), lonV_end c]; simp
theorem rulesLonely_L1_eq : ∀ (m t : Nat) (out : List GRulesLone), g.Config.L.toNat < t + m → t ≤ g.Config.L.toNat → out.length ≤ 1024 * t → rulesLonely_L1 m g out g.Config.L (t : Int) = some (out ++ (lonT g t).map mA)
  | 0, t, _, _, _, _ => by omega
  | m + 1, t, out, hm, hi, ho => by
    have hFU := FU
    have k := gok h.ok
    have n1 := k.n1
    have n2 := k.n2
    have l2 := k.l2
    show rulesLonely_B1 (rulesLonely_L1 m) _ _ _ _ = _
    unfold rulesLonely_B1
    by_cases c : t < g.Config.L.toNat
    · have hs : ∀ t, rulesSizes_m (pt g.Config.N (fo g.Edges t)) = some (tab g.Config.N (szP (pf g t) g.Config.N.toNat)) := fun t => rulesSizes_eq (by omega) n2 (pf g t) fun x a b => pf_in k t a b
      have := rulesLonely_L2_eq h (rulesLonely_L1 m) t (by omega) g.Config.L FUEL 0 out (by omega) (Nat.zero_le _) (by omega)
      rw [show ((0 : Nat) : Int) = (0 : Int) from rfl] at this
      rw [bt (by simp; omega), rulesTrees_eq h, some_bind', wr1 t (by omega), show ((t + 1 : Nat) : Int) = (t : Int) + 1 by omega, rulesTrees_eq h, some_bind', hs, some_bind', hs, some_bind', this]
      rw [wr1 t (by omega)]
      have hv := lonV_len g t 0
      rw [rulesLonely_L1_eq m (t + 1) _ (by omega) c (by simp; omega), lonT_step c]
      simp
    · rw [bf (by simp; omega), lonT_end c]; simp
end
theorem rulesLonely_eq {g : GGraph} (hw : HW g) (hE : g.Edges.length < 1000000000) (hH : g.Hashes.length < 1000000000) : rulesLonely_m g = some (if grB g then (lonT g 0).map mA else []) := by
  have hFU := FU
  unfold rulesLonely_m
  rw [searchRight_eq hE hH, some_bind']
  cases hg : grB g with
  | false => rfl
  | true =>
    have h : GD g := ⟨hg, hw, hE, hH⟩
    have k := gok hg
    have := k.l2
    rw [bf (c := !true) rfl]
    have := rulesLonely_L1_eq h FUEL 0 [] (by omega) (Nat.zero_le _) (by simp)
    exact this
theorem rulesHolds_eq {g : GGraph} (hw : HW g) (hE : g.Edges.length < 1000000000) (hH : g.Hashes.length < 1000000000) : rulesHolds_m g = some (grB g && decide (lonT g 0 = [])) := by
  unfold rulesHolds_m
  rw [searchRight_eq hE hH, some_bind', rulesLonely_eq hw hE hH, gopt_some, some_bind']
  cases hg : grB g with
  | false => rfl
  | true =>
    congr 1
    by_cases c : lonT g 0 = []
    · simp [c]
    · have : (lonT g 0).length ≠ 0 := fun q => c (List.eq_nil_of_length_eq_zero q)
      simp [c]
theorem lon_iff {g : GGraph} (h : GOK g) {t v : Int} (v0 : 0 ≤ v) (vn : v < g.Config.N) : lonB g t v = true ↔ pf g t v = v ∧ Lon g t v := by
  unfold lonB Lon
  rw [Bool.and_eq_true, Bool.and_eq_true, beq_iff_eq, beq_iff_eq, trl_gr h v0 vn]
end Go.Proofs.Ytibnmlbjahcjmaa
