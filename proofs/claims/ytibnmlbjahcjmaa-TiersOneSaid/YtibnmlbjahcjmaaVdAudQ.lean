/- Facts that the statement's proof is made of. No condition. -/
import Derived.Test.YtibnmlbjahcjmaaVdAudP
set_option linter.unusedVariables false
set_option linter.unusedSimpArgs false
set_option maxRecDepth 20000
set_option maxHeartbeats 1000000
namespace Go.Proofs.Ytibnmlbjahcjmaa
open Go Go.AM Go.Pl Go.Pt
def Rg (n : Int) (l : List GEdge) : Prop := ∀ e, e ∈ l → 0 ≤ e.U ∧ e.U < n ∧ 0 ≤ e.V ∧ e.V < n
theorem Rg.inR {n : Int} {l : List GEdge} (h : Rg n l) (hn : 0 ≤ n) : InR n.toNat (en l) := by
  intro e he
  unfold en at he
  obtain ⟨x, hx, rfl⟩ := List.mem_map.1 he
  have := h x hx
  refine ⟨this.1, ?_, this.2.2.1, ?_⟩
  · show x.U < _; omega
  · show x.V < _; omega
theorem Rg.inR' {n : Int} {l : List GEdge} (h : Rg n l) : ∀ e, e ∈ en l → 0 ≤ e.1 ∧ e.1 < n ∧ 0 ≤ e.2 ∧ e.2 < n := by
  intro e he
  unfold en at he
  obtain ⟨x, hx, rfl⟩ := List.mem_map.1 he
  exact h x hx
theorem Rg.mono {n : Int} {l l' : List GEdge} (h : Rg n l) (hs : ∀ e, e ∈ l' → e ∈ l) : Rg n l' := fun e he => h e (hs e he)
theorem Rg.at {n : Int} {l : List GEdge} (h : Rg n l) {i : Nat} (c : i < l.length) : 0 ≤ l[i].U ∧ l[i].U < n ∧ 0 ≤ l[i].V ∧ l[i].V < n := h _ (List.getElem_mem c)
theorem trL_Rg {n : Int} {l : List GEdge} (h : trL n none l = true) : Rg n l := fun e he => by
  obtain ⟨a, b, c, _⟩ := okE_iff.1 (trL_mem h e he); omega
theorem mem_fo {l : List GEdge} {t : Int} {e : GEdge} (h : e ∈ fo l t) : e ∈ l := (List.mem_filter.1 h).1
theorem pf_rg {n : Int} {l : List GEdge} (h : Rg n l) {x : Int} (h0 : 0 ≤ x) (hx : x < n) : 0 ≤ partf (en l) x ∧ partf (en l) x < n := partf_range h.inR' ⟨h0, hx⟩
def pt (n : Int) (l : List GEdge) : List Int := tab n (partf (en l))
theorem pt_len (n : Int) (l : List GEdge) : (pt n l).length = n.toNat := tab_len _ _
theorem pt_idx {n : Int} {l : List GEdge} {x : Int} (h0 : 0 ≤ x) (hx : x < n) : idx (pt n l) x = some (partf (en l) x) := tab_idx h0 hx
theorem partOf_pt {n : Int} {l : List GEdge} (hl : l.length < 1000000000) (h0 : 0 ≤ n) (hn : n ≤ 1024) (h : Rg n l) : partOf_m n l = some (pt n l, 0) := by
  rw [partOf_eq hl, if_pos ⟨h0, hn, h⟩]; rfl
theorem partRight_L {n : Int} (h0 : 0 ≤ n) (hn : n ≤ 1024) {l : List GEdge} (h : Rg n l) : ∀ (m i : Nat), n.toNat < i + m → i ≤ n.toNat → partRight_L1 m (pt n l) (pt n l) ((pt n l).length : Int) (i : Int) = some true
  | 0, i, _, _ => by omega
  | m + 1, i, hm, hi => by
    show partRight_B1 (partRight_L1 m) _ _ _ _ = _
    have hlen := pt_len n l
    unfold partRight_B1
    by_cases c : i < n.toNat
    · rw [bt (by rw [hlen]; exact lt_t c), pt_idx (by omega) (by omega), some_bind']
      unfold partPlace_m
      have hr := pf_rg h (x := (i : Int)) (by omega) (by omega)
      have hle := partf_le (en l) (i : Int)
      rw [some_bind', gt' (by rw [hlen]; simp; omega), pt_idx hr.1 hr.2, some_bind', partf_idem]
      rw [bf (by rw [hlen]; simp; omega), wr1 i (by omega)]
      exact partRight_L h0 hn h m (i + 1) (by omega) (by omega)
    · rw [bf (by rw [hlen]; exact lt_f c)]
theorem partRight_pt {n : Int} (h0 : 0 ≤ n) (hn : n ≤ 1024) {l : List GEdge} (h : Rg n l) : partRight_m (pt n l) = some true := by
  have hFU := FU
  unfold partRight_m
  exact partRight_L h0 hn h FUEL 0 (by omega) (Nat.zero_le _)
def cntF (n i : Nat) (p : Int → Int) : Nat := (List.range' i (n - i)).countP fun (k : Nat) => decide (p k = k)
theorem cntF_step {n i : Nat} {p : Int → Int} (c : i < n) : cntF n i p = (if p i = i then 1 else 0) + cntF n (i + 1) p := by
  unfold cntF
  rw [show n - i = (n - (i + 1)) + 1 by omega, List.range'_succ, List.countP_cons]
  simp only [decide_eq_true_eq]; omega
theorem cntF_zero (n : Nat) (p : Int → Int) : cntF n 0 p = cnt n p := by unfold cntF cnt; rw [Nat.sub_zero, List.range_eq_range']
theorem cntF_end {n i : Nat} (p : Int → Int) (c : ¬ i < n) : cntF n i p = 0 := by unfold cntF; rw [show n - i = 0 by omega]; rfl
theorem partMany_L {n : Int} (h0 : 0 ≤ n) (hn : n ≤ 1024) (f : Int → Int) : ∀ (m i k : Nat), n.toNat < i + m → i ≤ n.toNat → k ≤ i → partMany_L1 m (k : Int) (tab n f) ((tab n f).length : Int) (i : Int) = some (((k + cntF n.toNat i f : Nat) : Int))
  | 0, i, _, _, _, _ => by omega
  | m + 1, i, k, hm, hi, hk => by
    show partMany_B1 (partMany_L1 m) _ _ _ _ = _
    have hlen := tab_len n f
    unfold partMany_B1 partMany_J1
    by_cases c : i < n.toNat
    · rw [bt (by rw [hlen]; exact lt_t c), tab_idx (by omega) (by omega), some_bind', wr1 i (by omega), wr1 k (by omega), cntF_step c]
      by_cases e : f i = i
      · rw [bt (by simp [e]), partMany_L h0 hn f m (i + 1) (k + 1) (by omega) (by omega) (by omega), if_pos e]
        congr 2; omega
      · rw [bf (by simp; omega), partMany_L h0 hn f m (i + 1) k (by omega) (by omega) (by omega), if_neg e]
        congr 2; omega
    · rw [bf (by rw [hlen]; exact lt_f c), cntF_end f c]; rfl
theorem partMany_pt {n : Int} (h0 : 0 ≤ n) (hn : n ≤ 1024) {l : List GEdge} (h : Rg n l) : partMany_m (pt n l) = some ((cl n.toNat (en l) : Nat) : Int) := by
  have hFU := FU
  unfold partMany_m
  rw [partRight_pt h0 hn h, some_bind', bf (c := !true) rfl]
  have := partMany_L h0 hn (partf (en l)) FUEL 0 0 (by omega) (Nat.zero_le _) (Nat.le_refl _)
  rw [cntF_zero, Nat.zero_add] at this
  exact this
theorem cl_le {n : Nat} (l : List E) : cl n l ≤ n := by unfold cl cnt; exact Nat.le_trans List.countP_le_length (by simp)
theorem en_len (l : List GEdge) : (en l).length = l.length := by simp [en]
def foB (n : Int) (l : List GEdge) : Bool := decide (cl n.toNat (en l) + l.length = n.toNat)
theorem groveRight_pt {n : Int} (h0 : 0 ≤ n) (hn : n ≤ 1024) {l : List GEdge} (hl : l.length < 1000000000) (h : Rg n l) : groveRight_m n l = some (foB n l) := by
  unfold groveRight_m foB
  rw [partOf_pt hl h0 hn h, some_bind']
  have := cl_le (n := n.toNat) (en l)
  simp only []
  rw [gt' (by rfl), partMany_pt h0 hn h, some_bind', wr0 (by omega) (by omega)]
  congr 1
  by_cases c : cl n.toNat (en l) + l.length = n.toNat
  · simp [c]; omega
  · simp [c]; omega
def sm (p : List Int) : Nat := (p.map Int.toNat).sum
theorem sm_set : ∀ {p : List Int} {k : Nat} {a b : Nat}, p[k]? = some (b : Int) → a < b → sm (p.set k (a : Int)) < sm p
  | [], k, a, b, h, _ => by simp at h
  | x :: p, 0, a, b, h, hab => by simp at h; subst h; simp [sm]; omega
  | x :: p, k + 1, a, b, h, hab => by
    have := sm_set (p := p) (k := k) (by simpa using h) hab
    simp only [List.set_cons_succ, sm, List.map_cons, List.sum_cons] at *
    omega
def Iv (n : Int) (l : List GEdge) (p : List Int) : Prop := p.length = n.toNat ∧ ∀ k : Nat, k < n.toNat → ∃ y : Nat, p[k]? = some (y : Int) ∧ y ≤ k ∧ Conn (en l) k y
theorem Iv.set {n : Int} {l : List GEdge} {p : List Int} (h : Iv n l p) {v a : Nat} (hv : v < n.toNat) (hle : a ≤ v) (hc : Conn (en l) v a) : Iv n l (p.set v (a : Int)) := by
  refine ⟨by rw [List.length_set]; exact h.1, fun k hk => ?_⟩
  by_cases e : k = v
  · subst e; exact ⟨a, by rw [List.getElem?_set_self (by rw [h.1]; exact hk)], hle, hc⟩
  · obtain ⟨y, h1, h2⟩ := h.2 k hk
    exact ⟨y, by rw [List.getElem?_set_ne (fun q => e q.symm)]; exact h1, h2⟩
theorem en_mem {l : List GEdge} {i : Nat} (c : i < l.length) : (l[i].U, l[i].V) ∈ en l := List.mem_map.2 ⟨l[i], List.getElem_mem c, rfl⟩
theorem ofPass {n : Int} {l : List GEdge} (h : Rg n l) (hl : l.length < 1000000000) : ∀ (m i : Nat) (p : List Int) (ag : Bool), Iv n l p → l.length < i + m → i ≤ l.length →
    ∃ p' ag', (∀ rec2, ref09Of_L3 rec2 m l p ag (i : Int) = rec2 l p' ag') ∧ Iv n l p' ∧ sm p' ≤ sm p ∧ (ag' = false → p' = p ∧ ag = false ∧ ∀ j (hj : j < l.length), i ≤ j → idx p l[j].U = idx p l[j].V) ∧ (ag' = true → ag = true ∨ sm p' < sm p)
  | 0, i, p, ag, _, hm, hi => by omega
  | m + 1, i, p, ag, hI, hm, hi => by
    by_cases c : i < l.length
    · obtain ⟨u0, un, v0, vn⟩ := h.at c
      have hmem := en_mem c
      obtain ⟨u, hu⟩ := Int.eq_ofNat_of_zero_le u0
      obtain ⟨v, hv⟩ := Int.eq_ofNat_of_zero_le v0
      rw [hu, hv] at hmem
      obtain ⟨a, a1, a2, a3⟩ := hI.2 u (by omega)
      obtain ⟨b, b1, b2, b3⟩ := hI.2 v (by omega)
      have hul : u < p.length := by rw [hI.1]; omega
      have hvl : v < p.length := by rw [hI.1]; omega
      have step : ∀ rec2, ref09Of_L3 rec2 (m + 1) l p ag (i : Int) = if a < b then ref09Of_L3 rec2 m l (p.set v (a : Int)) true ((i + 1 : Nat) : Int) else if b < a then ref09Of_L3 rec2 m l (p.set u (b : Int)) true ((i + 1 : Nat) : Int) else ref09Of_L3 rec2 m l p ag ((i + 1 : Nat) : Int) := by
        intro rec2
        show ref09Of_B3 rec2 (ref09Of_L3 rec2 m) l p ag _ = _
        unfold ref09Of_B3 ref09Of_J2 ref09Of_J1
        rw [bt (lt_t c), idx_get c, some_bind', hu, idx_nat p u, a1, some_bind', some_bind', hv, idx_nat p v, b1, some_bind', wr1 i (by omega)]
        by_cases q : a < b
        · rw [bt (by simp; omega), if_pos q, some_bind', hv, idx_nat p v, b1, some_bind', stt_nat hvl, some_bind', bf (by simp; omega)]
        · rw [bf (by simp; omega), if_neg q]
          by_cases q' : b < a
          · rw [bt (by simp; omega), if_pos q', some_bind', hu, idx_nat p u, a1, some_bind', stt_nat hul, some_bind']
          · rw [bf (by simp; omega), if_neg q']
      by_cases q : a < b
      · obtain ⟨p', ag', r1, r2, r3, r4, r5⟩ := ofPass h hl m (i + 1) (p.set v (a : Int)) true (hI.set (by omega) (by omega) ((Conn.eno hmem).trans a3)) (by omega) c
        have hs := sm_set b1 q
        refine ⟨p', ag', fun rec2 => by rw [step, if_pos q, r1], r2, by omega, fun e => (by have := (r4 e).2.1; cases this), fun e => .inr (by omega)⟩
      · by_cases q' : b < a
        · obtain ⟨p', ag', r1, r2, r3, r4, r5⟩ := ofPass h hl m (i + 1) (p.set u (b : Int)) true (hI.set (by omega) (by omega) ((Conn.one hmem).trans b3)) (by omega) c
          have hs := sm_set a1 q'
          refine ⟨p', ag', fun rec2 => by rw [step, if_neg q, if_pos q', r1], r2, by omega, fun e => (by have := (r4 e).2.1; cases this), fun e => .inr (by omega)⟩
        · obtain ⟨p', ag', r1, r2, r3, r4, r5⟩ := ofPass h hl m (i + 1) p ag hI (by omega) c
          refine ⟨p', ag', fun rec2 => by rw [step, if_neg q, if_neg q', r1], r2, r3, fun e => ?_, r5⟩
          obtain ⟨k1, k2, k3⟩ := r4 e
          refine ⟨k1, k2, fun j hj hij => ?_⟩
          by_cases e' : j = i
          · subst e'
            rw [hu, hv, idx_nat, idx_nat, a1, b1]; congr 2; omega
          · exact k3 j hj (by omega)
    · refine ⟨p, ag, fun rec2 => ?_, hI, Nat.le_refl _, fun e => ⟨rfl, e, fun j hj hij => by omega⟩, fun e => .inl e⟩
      show ref09Of_B3 rec2 (ref09Of_L3 rec2 m) l p ag _ = _
      unfold ref09Of_B3
      rw [bf (lt_f c)]
theorem Iv.done {n : Int} {l : List GEdge} {p : List Int} (h : Rg n l) (hI : Iv n l p) (he : ∀ j (hj : j < l.length), idx p l[j].U = idx p l[j].V) : p = pt n l := by
  refine eq_tab hI.1 fun k hk => ?_
  have key := part_unique (n := n) (l := en l) h.inR' (q := fun x => (p[x.toNat]?).getD 0) (fun x h0 hx => by
    obtain ⟨y, y1, y2, y3⟩ := hI.2 x.toNat (by omega)
    have e : ((x.toNat : Nat) : Int) = x := by omega
    rw [e] at y3
    simp only [y1, Option.getD_some]
    exact ⟨by omega, by omega, y3⟩) (fun e hm => by
    unfold en at hm
    obtain ⟨x, hx, rfl⟩ := List.mem_map.1 hm
    obtain ⟨j, hj, rfl⟩ := List.getElem_of_mem hx
    have r := h.at hj
    have := he j hj
    rw [idx_at (k := l[j].U.toNat) (by omega), idx_at (k := l[j].V.toNat) (by omega)] at this
    simp only [this]) (k : Int) (by omega) hk
  obtain ⟨y, y1, _⟩ := hI.2 k (by omega)
  simp only [Int.toNat_natCast, y1, Option.getD_some] at key
  rw [y1, key]
theorem ofRounds {n : Int} {l : List GEdge} (h : Rg n l) (hl : l.length < 1000000000) : ∀ (k : Nat) (p : List Int), Iv n l p → sm p + 2 ≤ k → ref09Of_L2 k l p true = some (pt n l)
  | 0, p, _, hk => by omega
  | k + 1, p, hI, hk => by
    have hFU := FU
    obtain ⟨p', ag', r1, r2, r3, r4, r5⟩ := ofPass h hl FUEL 0 p false hI (by omega) (Nat.zero_le _)
    show ref09Of_B2 (ref09Of_L2 k) l p true = _
    unfold ref09Of_B2
    rw [bt rfl, show (0 : Int) = ((0 : Nat) : Int) from rfl, r1]
    cases ag' with
    | true =>
      have := (r5 rfl).resolve_left (by simp)
      exact ofRounds h hl k p' r2 (by omega)
    | false =>
      obtain ⟨q1, _, q3⟩ := r4 rfl
      subst q1
      cases k with
      | zero => omega
      | succ k =>
        show ref09Of_B2 (ref09Of_L2 k) l p' false = _
        unfold ref09Of_B2
        rw [bf rfl, Iv.done h hI (fun j hj => q3 j hj (Nat.zero_le _))]
theorem sm_le : ∀ (p : List Int) (n : Nat), (∀ (k : Nat) (y : Int), p[k]? = some y → y.toNat ≤ n) → sm p ≤ p.length * n
  | [], n, _ => by simp [sm]
  | x :: p, n, h => by
    have h1 := sm_le p n (fun k y hy => h (k + 1) y (by simpa using hy))
    have h2 := h 0 x rfl
    simp only [sm, List.map_cons, List.sum_cons, List.length_cons, Nat.add_mul] at *
    omega
theorem ofStart {n : Int} (h0 : 0 ≤ n) (hn : n ≤ 1024) (l : List GEdge) : ∀ (m i : Nat), n.toNat < i + m → i ≤ n.toNat → ref09Of_L1 m n l (tab (i : Int) id) (i : Int) = ref09Of_L2 FUEL l (tab n id) true
  | 0, i, _, _ => by omega
  | m + 1, i, hm, hi => by
    show ref09Of_B1 (ref09Of_L1 m) n l _ _ = _
    unfold ref09Of_B1
    by_cases c : i < n.toNat
    · rw [bt (by simp; omega), app_ok (by simp [tab_len]; omega), some_bind', wr1 i (by omega)]
      have e : tab (i : Int) id ++ [(i : Int)] = tab ((i + 1 : Nat) : Int) id := by
        unfold tab
        rw [Int.toNat_natCast, Int.toNat_natCast, List.range_succ, List.map_append]; rfl
      rw [e]
      exact ofStart h0 hn l m (i + 1) (by omega) (by omega)
    · rw [bf (by simp; omega), show (i : Int) = n by omega]
theorem ref09Of_pt {n : Int} (h0 : 0 ≤ n) (hn : n ≤ 1024) {l : List GEdge} (hl : l.length < 1000000000) (h : Rg n l) : ref09Of_m n l = some (pt n l) := by
  have hFU := FU
  unfold ref09Of_m
  have := ofStart h0 hn l FUEL 0 (by omega) (Nat.zero_le _)
  rw [show (0 : Int) = ((0 : Nat) : Int) from rfl]
  rw [show tab ((0 : Nat) : Int) id = [] from rfl] at this
  rw [this]
  have hI : Iv n l (tab n id) := ⟨tab_len _ _, fun k hk => ⟨k, by rw [tab_get (by omega)]; rfl, Nat.le_refl _, .refl _⟩⟩
  refine ofRounds h hl FUEL _ hI ?_
  have hs := sm_le (tab n id) 1024 (fun k y hy => by
    have hk : k < n.toNat := by rw [← tab_len n id]; exact (List.getElem?_eq_some_iff.1 hy).1
    rw [tab_get (by omega)] at hy; cases hy; simp; omega)
  rw [tab_len] at hs
  have : n.toNat * 1024 ≤ 1024 * 1024 := Nat.mul_le_mul_right _ (by omega)
  omega
end Go.Proofs.Ytibnmlbjahcjmaa
