/- Facts that the statement's proof is made of. No condition. -/
import Derived.Test.YtibnmlbjahcjmaaVdSeaN
import Derived.Test.YtibnmlbjahcjmaaVdXo
set_option linter.unusedVariables false
set_option linter.unusedSimpArgs false
set_option maxRecDepth 20000
set_option maxHeartbeats 1000000
namespace Go.Proofs.Ytibnmlbjahcjmaa
open Go Go.AM Go.Pl Go.Pt
theorem foB_iff {n : Int} {l : List GEdge} : foB n l = true ↔ Forest n.toNat (en l) := by unfold foB Forest; rw [decide_eq_true_iff, en_len]
theorem GOK.gc {g : GGraph} (h : GOK g) : GC g := by
  refine ⟨⟨(trB_iff.1 h.tr).2.2, fun e he => ?_, foB_iff.1 h.fr⟩, by have := h.n1; omega, h.l2⟩
  have := h.ti
  unfold tiB at this
  rw [List.all_eq_true] at this
  have := this e he
  simpa using this
theorem GC.fo {g : GGraph} (h : GC g) {k : Int} (hk : k ≤ g.Config.L) : Forest g.Config.N.toNat (en (fo g.Edges k)) :=
  h.ti.fr.sublist (h.ti.inR h.n0 _) (en_sublist (by rw [← fo_fo hk]; exact fo_sub _ _))
def EB (e : GEdge) : Prop := 0 ≤ e.U ∧ e.U < e.V ∧ e.V < 1024
theorem GOK.eb {g : GGraph} (h : GOK g) {e : GEdge} (he : e ∈ g.Edges) : EB e := by
  have := okE_iff.1 (h.gc.ti.tb.ok e he)
  have := h.n2
  exact ⟨by omega, by omega, by omega⟩
def trF (n i : Nat) (p : Int → Int) (c : Int) : List Int := ((List.range' i (n - i)).filter fun (k : Nat) => p (k : Int) == c).map fun (k : Nat) => (k : Int)
def trl (n : Int) (p : Int → Int) (v : Int) : List Int := trF n.toNat 0 p (p v)
theorem trF_step {n i : Nat} {p : Int → Int} {c : Int} (h : i < n) : trF n i p c = (if p i = c then [(i : Int)] else []) ++ trF n (i + 1) p c := by
  unfold trF
  rw [show n - i = (n - (i + 1)) + 1 by omega, List.range'_succ, List.filter_cons]
  by_cases q : p (i : Int) = c
  · rw [if_pos (by simp [q]), if_pos q]; rfl
  · rw [if_neg (by simp [q]), if_neg q]; rfl
theorem trF_end {n i : Nat} {p : Int → Int} {c : Int} (h : ¬ i < n) : trF n i p c = [] := by unfold trF; rw [show n - i = 0 by omega]; rfl
theorem trF_len (n i : Nat) (p : Int → Int) (c : Int) : (trF n i p c).length ≤ n - i := by
  unfold trF; rw [List.length_map]; exact Nat.le_trans (List.length_filter_le _ _) (by simp)
theorem mem_trl {n : Int} {p : Int → Int} {v x : Int} : x ∈ trl n p v ↔ 0 ≤ x ∧ x < n ∧ p x = p v := by
  unfold trl trF
  rw [List.mem_map]
  constructor
  · rintro ⟨k, hk, rfl⟩
    rw [List.mem_filter, List.mem_range', beq_iff_eq] at hk
    obtain ⟨⟨i, h1, h2⟩, h3⟩ := hk
    exact ⟨by omega, by omega, h3⟩
  · rintro ⟨h1, h2, h3⟩
    refine ⟨x.toNat, ?_, by omega⟩
    have e : ((x.toNat : Nat) : Int) = x := by omega
    rw [List.mem_filter, List.mem_range', beq_iff_eq, e]
    exact ⟨⟨x.toNat, by omega, by omega⟩, h3⟩
theorem partClass_L {n : Int} (h0 : 0 ≤ n) (hn : n ≤ 1024) (f : Int → Int) {v : Int} (v0 : 0 ≤ v) (vn : v < n) : ∀ (m i : Nat) (out : List Int), n.toNat < i + m → i ≤ n.toNat → out.length ≤ i → partClass_L1 m (tab n f) v out (tab n f) ((tab n f).length : Int) (i : Int) = some (out ++ trF n.toNat i f (f v))
  | 0, i, _, _, _, _ => by omega
  | m + 1, i, out, hm, hi, ho => by
    show partClass_B1 (partClass_L1 m) _ _ _ _ _ _ = _
    have hlen := tab_len n f
    unfold partClass_B1 partClass_J1
    by_cases c : i < n.toNat
    · rw [bt (by rw [hlen]; exact lt_t c), tab_idx (by omega) (by omega), some_bind', tab_idx v0 vn, some_bind', wr1 i (by omega), trF_step c]
      by_cases e : f i = f v
      · rw [bt (by simp [e]), if_pos e, app_ok (by simp; omega), some_bind', partClass_L h0 hn f v0 vn m (i + 1) _ (by omega) (by omega) (by simp; omega)]
        simp
      · rw [bf (by simp [e]), if_neg e, partClass_L h0 hn f v0 vn m (i + 1) _ (by omega) (by omega) (by omega)]
        simp
    · rw [bf (by rw [hlen]; exact lt_f c), trF_end c]; simp
theorem partClass_eq {n : Int} (h0 : 0 ≤ n) (hn : n ≤ 1024) {l : List GEdge} (h : Rg n l) {v : Int} (v0 : 0 ≤ v) (vn : v < n) : partClass_m (pt n l) v = some (trl n (partf (en l)) v) := by
  have hFU := FU
  unfold partClass_m partPlace_m
  rw [partRight_pt h0 hn h, some_bind', gopt_some, some_bind']
  have : (decide (0 ≤ v) && decide (v < ((pt n l).length : Int))) = true := by rw [pt_len]; simp; omega
  rw [this, bf (by rfl)]
  have := partClass_L h0 hn (partf (en l)) v0 vn FUEL 0 [] (by omega) (Nat.zero_le _) (by simp)
  exact this
section
variable {g : GGraph} (hE : g.Edges.length < 1000000000) (h : GOK g)
include hE h
theorem searchTree0_eq {t v : Int} (ht : t ≤ g.Config.L) (v0 : 0 ≤ v) (vn : v < g.Config.N) : searchTree0_m g t v = some (trl g.Config.N (pf g t) v) := by
  have h3 := h.n1
  have hf := fo_len g.Edges t
  unfold searchTree0_m groveTree_m
  rw [tableForest_eq hE, some_bind', h.tr]
  simp only [if_true]
  rw [groveRight_pt (by omega) h.n2 (by omega) (fo_Rg h.rg _), some_bind', foB_iff.2 (h.gc.fo ht), bf (by rfl), partOf_pt (by omega) (by omega) h.n2 (fo_Rg h.rg _), some_bind']
  simp only []
  rw [partClass_eq (by omega) h.n2 (fo_Rg h.rg _) v0 vn, some_bind', some_bind']; rfl
end
theorem searchTree_eq {g : GGraph} (hE : g.Edges.length < 1000000000) (hH : g.Hashes.length < 1000000000) (t v : Int) : searchTree_m g t v = some (if grB g = true ∧ 0 ≤ t ∧ t ≤ g.Config.L ∧ 0 ≤ v ∧ v < g.Config.N then trl g.Config.N (pf g t) v else []) := by
  unfold searchTree_m
  rw [searchRight_eq hE hH, some_bind']
  cases hb : grB g with
  | false => rw [bt (by simp)]; simp
  | true =>
    by_cases c : 0 ≤ t ∧ t ≤ g.Config.L ∧ 0 ≤ v ∧ v < g.Config.N
    · rw [bf (by simp; omega), searchTree0_eq hE (gok hb) c.2.1 c.2.2.1 c.2.2.2, some_bind', if_pos ⟨rfl, c⟩]
    · rw [bt (by simp; omega), if_neg (fun q => c q.2)]
theorem hasSketch_eq {g : GGraph} (hE : g.Edges.length < 1000000000) (hH : g.Hashes.length < 1000000000) (t v : Int) : searchHasSketch_m g t v = some (decide (grB g = true ∧ 0 ≤ t ∧ t < g.Config.L ∧ 0 ≤ v ∧ v < g.Config.N)) := by
  unfold searchHasSketch_m
  rw [searchRight_eq hE hH, some_bind']
  congr 1
  cases hb : grB g with
  | false => simp
  | true => by_cases a : 0 ≤ t <;> by_cases b : t < g.Config.L <;> by_cases c : 0 ≤ v <;> by_cases d : v < g.Config.N <;> simp [a, b, c, d]
def mks (n : Nat) (S : List Int) : List Bool := (List.range n).map fun (k : Nat) => decide ((k : Int) ∈ S)
theorem mks_len (n : Nat) (S : List Int) : (mks n S).length = n := by simp [mks]
theorem mks_idx {n : Nat} {S : List Int} {x : Int} (h0 : 0 ≤ x) (h : x < n) : idx (mks n S) x = some (decide (x ∈ S)) := by
  rw [idx_at (k := x.toNat) (by omega)]
  unfold mks
  rw [List.getElem?_map, List.getElem?_range (by omega)]
  have e : ((x.toNat : Nat) : Int) = x := by omega
  simp [e]
theorem mks_set {n : Nat} {S : List Int} {x : Int} (h0 : 0 ≤ x) (h : x < n) : stt (mks n S) x true = some (mks n (S ++ [x])) := by
  rw [stt_at (k := x.toNat) (by omega) (by rw [mks_len]; omega)]
  congr 1
  apply List.ext_getElem?
  intro k
  unfold mks
  rw [List.getElem?_set]
  by_cases hk : k < n
  · rw [List.getElem?_map, List.getElem?_map, List.getElem?_range hk]
    by_cases e : x.toNat = k
    · rw [if_pos e, if_pos (by simp; omega)]
      have : (k : Int) = x := by omega
      simp [this]
    · rw [if_neg e]
      have : (k : Int) ≠ x := by omega
      simp [this]
  · rw [if_neg (by omega), List.getElem?_eq_none (by simp; omega), List.getElem?_eq_none (by simp; omega)]
theorem cutFits_L {n : Int} {S : List Int} (hS : ∀ x, x ∈ S → 0 ≤ x ∧ x < n) (hl : S.length < 1000000000) : ∀ (m i : Nat), S.length < i + m → i ≤ S.length → cutFits_L1 m n S (S.length : Int) (i : Int) = some true
  | 0, i, _, _ => by omega
  | m + 1, i, hm, hi => by
    show cutFits_B1 (cutFits_L1 m) _ _ _ _ = _
    unfold cutFits_B1
    by_cases c : i < S.length
    · have := hS _ (List.getElem_mem c)
      rw [bt (lt_t c), idx_get c, some_bind', bf (by simp; omega), wr1 i (by omega)]
      exact cutFits_L hS hl m (i + 1) (by omega) c
    · rw [bf (lt_f c)]
theorem cutUnlike_L {n : Nat} {S : List Int} {l : List GEdge} (hr : Rg n l) (hl : l.length < 1000000000) : ∀ (m i : Nat) (out : List GEdge), l.length < i + m → i ≤ l.length → out.length ≤ i → cutUnlike_L1 m (mks n S) out l (l.length : Int) (i : Int) = some (out ++ (l.drop i).filter fun e => decide (e.U ∈ S) != decide (e.V ∈ S))
  | 0, i, _, _, _, _ => by omega
  | m + 1, i, out, hm, hi, ho => by
    show cutUnlike_B1 (cutUnlike_L1 m) _ _ _ _ _ = _
    unfold cutUnlike_B1 cutUnlike_J1
    by_cases c : i < l.length
    · obtain ⟨u0, un, v0, vn⟩ := hr.at c
      rw [bt (lt_t c), idx_get c, some_bind', mks_idx u0 un, some_bind', mks_idx v0 vn, some_bind', wr1 i (by omega), filt_drop c]
      have e : (!(decide (l[i].U ∈ S) == decide (l[i].V ∈ S))) = (decide (l[i].U ∈ S) != decide (l[i].V ∈ S)) := rfl
      rw [e]
      cases q : (decide (l[i].U ∈ S) != decide (l[i].V ∈ S)) with
      | true =>
        rw [bt rfl, app_ok (by simp; omega), some_bind', cutUnlike_L hr hl m (i + 1) _ (by omega) c (by simp; omega)]
        simp
      | false =>
        rw [bf rfl, cutUnlike_L hr hl m (i + 1) _ (by omega) c (by omega)]
        simp
    · rw [bf (lt_f c), List.drop_eq_nil_of_le (by omega)]; simp
theorem cutCut_L {n : Nat} {l : List GEdge} (hr : Rg n l) (hl : l.length < 1000000000) {S : List Int} (hS : ∀ x, x ∈ S → 0 ≤ x ∧ x < (n : Int)) (hs : S.length < 1000000000) : ∀ (m i : Nat), S.length < i + m → i ≤ S.length →
    cutCut_L1 m l (mks n (S.take i)) S (S.length : Int) (i : Int) = some (l.filter (fun e => decide (e.U ∈ S) != decide (e.V ∈ S)), 0)
  | 0, i, _, _ => by omega
  | m + 1, i, hm, hi => by
    have hFU := FU
    show cutCut_B1 (cutCut_L1 m) _ _ _ _ _ = _
    unfold cutCut_B1
    by_cases c : i < S.length
    · have := hS _ (List.getElem_mem c)
      rw [bt (lt_t c), idx_get c, some_bind', mks_idx this.1 this.2, some_bind', mks_set this.1 this.2, some_bind', wr1 i (by omega), ← take_snoc c]
      exact cutCut_L hr hl hS hs m (i + 1) (by omega) c
    · rw [bf (lt_f c), List.take_of_length_le (by omega)]
      unfold cutUnlike_m
      have := cutUnlike_L (S := S) hr hl FUEL 0 [] (by omega) (Nat.zero_le _) (by simp)
      rw [show (0 : Int) = ((0 : Nat) : Int) from rfl, this]; rfl
theorem cutCut_eq {n : Int} (h0 : 0 ≤ n) (hn : n ≤ 1024) {l : List GEdge} (hT : trB n l = true) (hr : Rg n l) (hl : l.length < 1000000000) {S : List Int} (hS : ∀ x, x ∈ S → 0 ≤ x ∧ x < n) (hs : S.length < 1000000000) :
    cutCut_m n l S = some (l.filter (fun e => decide (e.U ∈ S) != decide (e.V ∈ S)), 0) := by
  have hFU := FU
  obtain ⟨k, rfl⟩ := Int.eq_ofNat_of_zero_le h0
  unfold cutCut_m cutFits_m
  rw [tableRight_eq hl, some_bind', hT, bf (c := !true) rfl]
  have e1 := cutFits_L hS hs FUEL 0 (by omega) (Nat.zero_le _)
  rw [show (0 : Int) = ((0 : Nat) : Int) from rfl, e1, some_bind', bf (c := !true) rfl, mkc_nat (k := k) rfl (Int.le_refl _) (by omega), some_bind']
  have e2 : List.replicate k false = mks k (S.take 0) := by
    unfold mks
    apply List.ext_getElem?
    intro j
    by_cases c : j < k
    · rw [List.getElem?_replicate, if_pos c, List.getElem?_map, List.getElem?_range c]; simp
    · rw [List.getElem?_eq_none (by simp; omega), List.getElem?_eq_none (by simp; omega)]
  rw [e2]
  exact cutCut_L hr hl hS hs FUEL 0 (by omega) (Nat.zero_le _)
theorem cut_tree {n : Int} {l : List GEdge} (hr : Rg n l) (p : Int → Int) (v : Int) : l.filter (fun e => decide (e.U ∈ trl n p v) != decide (e.V ∈ trl n p v)) = cutE p v l := by
  unfold cutE
  refine List.filter_congr fun e he => ?_
  have := hr e he
  unfold inQ uv
  congr 1
  · rw [Bool.eq_iff_iff, decide_eq_true_eq, mem_trl, beq_iff_eq]
    exact ⟨fun q => q.2.2, fun q => ⟨this.1, this.2.1, q⟩⟩
  · rw [Bool.eq_iff_iff, decide_eq_true_eq, mem_trl, beq_iff_eq]
    exact ⟨fun q => q.2.2, fun q => ⟨this.2.2.1, this.2.2.2, q⟩⟩
theorem trl_len {n : Int} (hn : n ≤ 1024) (p : Int → Int) (v : Int) : (trl n p v).length ≤ 1024 := Nat.le_trans (trF_len _ _ _ _) (by omega)
theorem trl_rg {n : Int} {p : Int → Int} {v : Int} : ∀ x, x ∈ trl n p v → 0 ≤ x ∧ x < n := fun x hx => by have := mem_trl.1 hx; exact ⟨this.1, this.2.1⟩
section
variable {g : GGraph} (hE : g.Edges.length < 1000000000) (h : GOK g)
include hE h
theorem searchCutOf_eq {t v : Int} (ht : t ≤ g.Config.L) (v0 : 0 ≤ v) (vn : v < g.Config.N) : searchCutOf_m g t v = some (cutE (pf g t) v g.Edges) := by
  have h3 := h.n1
  unfold searchCutOf_m
  have hl := trl_len h.n2 (pf g t) v
  rw [searchTree0_eq hE h ht v0 vn, some_bind', cutCut_eq (by omega) h.n2 h.tr h.rg hE trl_rg (by omega), some_bind', cut_tree h.rg]
end
theorem cutE_mem {p : Int → Int} {v : Int} {l : List GEdge} {e : GEdge} (h : e ∈ cutE p v l) : e ∈ l := (List.mem_filter.1 h).1
theorem cutE_len (p : Int → Int) (v : Int) (l : List GEdge) : (cutE p v l).length ≤ l.length := List.length_filter_le _ _
def ns (l : List Nat) : List Int := l.map fun (n : Nat) => (n : Int)
def nmE (e : GEdge) : Nat := nmQ (uv e)
theorem nmE_cast {e : GEdge} (h : EB e) : ((nmE e : Nat) : Int) = e.U * 16777216 + e.V := by
  unfold nmE nmQ uv EB at *
  simp only []
  omega
theorem nmE_lt {e : GEdge} (h : EB e) : nmE e < 17179869184 := by
  have := nmE_cast h
  unfold EB at h
  omega
theorem nameOf_eq {e : GEdge} (h : EB e) : nameOf_m e.U e.V = some (((nmE e : Nat) : Int), 0) := by
  have h0 := nmE_cast h
  obtain ⟨h1, h2, h3⟩ := h
  unfold nameOf_m nameVertex_m
  rw [some_bind', gopt_some, some_bind']
  have e1 : (decide (0 ≤ e.U) && decide (e.U < 16777216)) = true := by simp; omega
  have e2 : (decide (0 ≤ e.V) && decide (e.V < 16777216)) = true := by simp; omega
  rw [e1, e2, bf (by rfl), bf (by simp; omega), if_neg (by omega), if_pos (by omega), wu, wu, wu, wu, h0]
  congr 2
  omega
theorem cutNames_L {l : List GEdge} (hl : l.length < 1000000000) (hb : ∀ e, e ∈ l → EB e) : ∀ (m i : Nat) (out : List Int), l.length < i + m → i ≤ l.length → out.length ≤ i → cutNames_L1 m out l (l.length : Int) (i : Int) = some (out ++ ns ((l.drop i).map nmE))
  | 0, i, _, _, _, _ => by omega
  | m + 1, i, out, hm, hi, ho => by
    show cutNames_B1 (cutNames_L1 m) _ _ _ _ = _
    unfold cutNames_B1 cutNames_J2 cutNames_J1
    by_cases c : i < l.length
    · rw [bt (lt_t c), idx_get c, some_bind', nameOf_eq (hb _ (List.getElem_mem c)), some_bind']
      simp only []
      rw [bf (by rfl), app_ok (by simp; omega), some_bind', wr1 i (by omega), cutNames_L hl hb m (i + 1) _ (by omega) c (by simp; omega), drop_cons c]
      simp only [ns, List.map_cons, List.append_assoc, List.cons_append, List.nil_append]
    · rw [bf (lt_f c), List.drop_eq_nil_of_le (by omega)]; simp [ns]
theorem cutNames_eq {l : List GEdge} (hl : l.length < 1000000000) (hb : ∀ e, e ∈ l → EB e) : cutNames_m l = some (ns (l.map nmE)) := by
  have hFU := FU
  unfold cutNames_m
  have := cutNames_L hl hb FUEL 0 [] (by omega) (Nat.zero_le _) (by simp)
  exact this
theorem R_mul {a R b : Int} (h0 : 0 ≤ a) (h1 : a ≤ b) (h2 : 0 ≤ R) (h3 : R ≤ 8) (hb : b ≤ 16) : 0 ≤ a * R ∧ a * R ≤ b * R ∧ b * R ≤ 128 := by
  have e1 : 0 ≤ a * R := Int.mul_nonneg h0 h2
  have e2 : a * R ≤ b * R := Int.mul_le_mul_of_nonneg_right h1 h2
  have e3 : b * R ≤ 16 * 8 := Int.mul_le_mul hb h3 h2 (by omega)
  exact ⟨e1, e2, by omega⟩
theorem hsh_bounds {g : GGraph} (h : GOK g) {t : Int} (h0 : 0 ≤ t) (ht : t < g.Config.L) : 0 ≤ t * g.Config.R ∧ t * g.Config.R + g.Config.R ≤ (g.Hashes.length : Int) ∧ (g.Hashes.length : Int) ≤ 128 := by
  have h1 := h.hl
  obtain ⟨a1, a2, a3⟩ := R_mul (a := t + 1) (b := g.Config.L) (R := g.Config.R) (by omega) (by omega) (by have := h.r1; omega) h.r2 h.l2
  have e : (t + 1) * g.Config.R = t * g.Config.R + g.Config.R := by rw [Int.add_mul, Int.one_mul]
  have e0 : 0 ≤ t * g.Config.R := Int.mul_nonneg h0 (by have := h.r1; omega)
  omega
theorem searchHashes0_eq {g : GGraph} (h : GOK g) {t : Int} (h0 : 0 ≤ t) (ht : t < g.Config.L) : searchHashes0_m g t = some (hsh g t) := by
  obtain ⟨b1, b2, b3⟩ := hsh_bounds h h0 ht
  have r1 := h.r1
  unfold searchHashes0_m slicesCloneHash_m
  rw [wr0 (n := t * g.Config.R) (by omega) (by omega), wr0 (n := t * g.Config.R + g.Config.R) (by omega) (by omega),
    slc_nat (a := (t * g.Config.R).toNat) (b := (t * g.Config.R + g.Config.R).toNat) (by omega) (by omega) (by omega) (by omega), some_bind', appB_ok (by simp; omega), some_bind']
  unfold hsh
  rw [List.nil_append]
  congr 3
  omega
theorem hsh_len {g : GGraph} (h : GOK g) {t : Int} (h0 : 0 ≤ t) (ht : t < g.Config.L) : (hsh g t).length = g.Config.R.toNat := by
  obtain ⟨b1, b2, b3⟩ := hsh_bounds h h0 ht
  have r1 := h.r1
  unfold hsh
  rw [List.length_take, List.length_drop]; omega
end Go.Proofs.Ytibnmlbjahcjmaa
