/- Facts that the statement's proof is made of. No condition. -/
import Derived.Test.YtibnmlbjahcjmaaGreatZaSeaQ
set_option linter.unusedVariables false
set_option linter.unusedSimpArgs false
set_option maxRecDepth 20000
set_option maxHeartbeats 1000000
namespace Go.Proofs.YtibnmlbjahcjmaaGreat
open Go Go.AM Go.Pl Go.Pt
theorem ref09Class_L {n : Int} (h0 : 0 ≤ n) (hn : n ≤ 1024) (f : Int → Int) {v : Int} (v0 : 0 ≤ v) (vn : v < n) : ∀ (m i : Nat) (out : List Int), n.toNat < i + m → i ≤ n.toNat → out.length ≤ i → ref09Class_L1 m (tab n f) v out (i : Int) = some (out ++ trF n.toNat i f (f v))
  | 0, i, _, _, _, _ => by omega
  | m + 1, i, out, hm, hi, ho => by
    show ref09Class_B1 (ref09Class_L1 m) _ _ _ _ = _
    have hlen := tab_len n f
    unfold ref09Class_B1 ref09Class_J1
    by_cases c : i < n.toNat
    · rw [bt (by rw [hlen]; exact lt_t c), tab_idx (by omega) (by omega), some_bind', tab_idx v0 vn, some_bind', wr1 i (by omega), trF_step c]
      by_cases e : f i = f v
      · rw [bt (by simp [e]), if_pos e, app_ok (by simp; omega), some_bind', ref09Class_L h0 hn f v0 vn m (i + 1) _ (by omega) (by omega) (by simp; omega)]
        simp
      · rw [bf (by simp [e]), if_neg e, ref09Class_L h0 hn f v0 vn m (i + 1) _ (by omega) (by omega) (by omega)]
        simp
    · rw [bf (by rw [hlen]; exact lt_f c), trF_end c]; simp
section
variable {g : GGraph} (hE : g.Edges.length < 1000000000) (h : GOK g)
include hE h
theorem ref14Tree_eq {t v : Int} (v0 : 0 ≤ v) (vn : v < g.Config.N) : ref14Tree_m g t v = some (trl g.Config.N (pf g t) v) := by
  have hFU := FU
  have h3 := h.n1
  have h4 := h.n2
  have hf := fo_len g.Edges t
  unfold ref14Tree_m
  rw [ref12Forest_eq hE, some_bind', ref09Of_pt (by omega) h.n2 (by omega) (fo_Rg h.rg _), some_bind']
  unfold ref09Class_m
  have := ref09Class_L (n := g.Config.N) (by omega) h.n2 (partf (en (fo g.Edges t))) v0 vn FUEL 0 [] (by omega) (Nat.zero_le _) (by simp)
  have e : ref09Class_L1 FUEL (pt g.Config.N (fo g.Edges t)) v [] 0 = some ([] ++ trF g.Config.N.toNat 0 (partf (en (fo g.Edges t))) (partf (en (fo g.Edges t)) v)) := this
  rw [e, some_bind']; rfl
end
theorem first_L {S : List Int} (hl : S.length < 1000000000) (x : Int) : ∀ (m i : Nat), S.length < i + m → i ≤ S.length → ∃ r, ref08First_L1 m S x (i : Int) = some r ∧ (0 ≤ r ↔ x ∈ S.drop i)
  | 0, i, _, _ => by omega
  | m + 1, i, hm, hi => by
    show ∃ r, ref08First_B1 (ref08First_L1 m) _ _ _ = _ ∧ _
    unfold ref08First_B1
    by_cases c : i < S.length
    · rw [bt (lt_t c), idx_get c, some_bind', wr1 i (by omega), drop_cons c]
      by_cases e : S[i] = x
      · rw [bt (by simp [e])]
        exact ⟨_, rfl, by constructor <;> intro _ <;> simp [e]⟩
      · rw [bf (by simp [e])]
        obtain ⟨r, h1, h2⟩ := first_L hl x m (i + 1) (by omega) c
        refine ⟨r, h1, h2.trans ?_⟩
        rw [List.mem_cons]
        exact ⟨.inr, fun h => h.resolve_left fun q => e q.symm⟩
    · rw [bf (lt_f c), List.drop_eq_nil_of_le (by omega)]
      exact ⟨_, rfl, by simp⟩
theorem first_eq {S : List Int} (hl : S.length < 1000000000) (x : Int) : ∃ r, ref08First_m S x = some r ∧ decide (0 ≤ r) = decide (x ∈ S) := by
  have hFU := FU
  obtain ⟨r, h1, h2⟩ := first_L hl x FUEL 0 (by omega) (Nat.zero_le _)
  refine ⟨r, h1, ?_⟩
  rw [Bool.eq_iff_iff, decide_eq_true_eq, decide_eq_true_eq]
  exact h2
theorem ref13Cut_L {S : List Int} (hs : S.length < 1000000000) {l : List GEdge} (hl : l.length < 1000000000) : ∀ (m i : Nat) (out : List GEdge), l.length < i + m → i ≤ l.length → out.length ≤ i → ref13Cut_L1 m l S out (i : Int) = some (out ++ (l.drop i).filter fun e => decide (e.U ∈ S) != decide (e.V ∈ S))
  | 0, i, _, _, _, _ => by omega
  | m + 1, i, out, hm, hi, ho => by
    show ref13Cut_B1 (ref13Cut_L1 m) _ _ _ _ = _
    unfold ref13Cut_B1 ref13Cut_J1
    by_cases c : i < l.length
    · obtain ⟨a, a1, a2⟩ := first_eq hs l[i].U
      obtain ⟨b, b1, b2⟩ := first_eq hs l[i].V
      rw [bt (lt_t c), idx_get c, some_bind', a1, some_bind', some_bind', b1, some_bind', some_bind', wr1 i (by omega), filt_drop c, a2, b2]
      have e : ((decide (l[i].U ∈ S) && (!(decide (l[i].V ∈ S)))) || (decide (l[i].V ∈ S) && (!(decide (l[i].U ∈ S))))) = (decide (l[i].U ∈ S) != decide (l[i].V ∈ S)) := by
        generalize decide (l[i].U ∈ S) = x
        generalize decide (l[i].V ∈ S) = y
        revert x y; decide
      rw [e]
      cases q : (decide (l[i].U ∈ S) != decide (l[i].V ∈ S)) with
      | true =>
        rw [bt rfl, app_ok (by simp; omega), some_bind', ref13Cut_L hs hl m (i + 1) _ (by omega) c (by simp; omega)]
        simp
      | false =>
        rw [bf rfl, ref13Cut_L hs hl m (i + 1) _ (by omega) c (by omega)]
        simp
    · rw [bf (lt_f c), List.drop_eq_nil_of_le (by omega)]; simp
theorem ref13Cut_eq {S : List Int} (hs : S.length < 1000000000) {l : List GEdge} (hl : l.length < 1000000000) : ref13Cut_m l S = some (l.filter fun e => decide (e.U ∈ S) != decide (e.V ∈ S)) := by
  have hFU := FU
  have := ref13Cut_L hs hl FUEL 0 [] (by omega) (Nat.zero_le _) (by simp)
  exact this
theorem ref13Cut_tree {g : GGraph} (hE : g.Edges.length < 1000000000) (h : GOK g) (t v : Int) : ref13Cut_m g.Edges (trl g.Config.N (pf g t) v) = some (cutE (pf g t) v g.Edges) := by
  have hl := trl_len h.n2 (pf g t) v
  rw [ref13Cut_eq (by omega) hE, cut_tree h.rg]
theorem ref14Hashes_L {g : GGraph} (h : GOK g) {t : Int} (h0 : 0 ≤ t) (ht : t < g.Config.L) : ∀ (m i : Nat), g.Config.R.toNat < i + m → i ≤ g.Config.R.toNat → ref14Hashes_L1 m t g ((g.Hashes.drop (t * g.Config.R).toNat).take i) (i : Int) = some (hsh g t)
  | 0, i, _, _ => by omega
  | m + 1, i, hm, hi => by
    obtain ⟨b1, b2, b3⟩ := hsh_bounds h h0 ht
    have r1 := h.r1
    have r2 := h.r2
    show ref14Hashes_B1 (ref14Hashes_L1 m) _ _ _ _ = _
    unfold ref14Hashes_B1
    by_cases c : i < g.Config.R.toNat
    · have hk : (t * g.Config.R).toNat + i < g.Hashes.length := by omega
      have hd : i < (g.Hashes.drop (t * g.Config.R).toNat).length := by rw [List.length_drop]; omega
      have e1 : idx g.Hashes (t * g.Config.R + (i : Int)) = some (g.Hashes.drop (t * g.Config.R).toNat)[i] := by
        rw [idx_at (k := (t * g.Config.R).toNat + i) (by omega), List.getElem?_eq_getElem hk, List.getElem_drop]
      rw [bt (by simp; omega), wr0 (n := t * g.Config.R) (by omega) (by omega), wr0 (n := t * g.Config.R + (i : Int)) (by omega) (by omega), e1, some_bind', app_ok (by simp; omega), some_bind', wr1 i (by omega), ← take_snoc hd]
      exact ref14Hashes_L h h0 ht m (i + 1) (by omega) c
    · rw [bf (by simp; omega), show i = g.Config.R.toNat by omega]; rfl
theorem ref14Hashes_eq {g : GGraph} (h : GOK g) {t : Int} (h0 : 0 ≤ t) (ht : t < g.Config.L) : ref14Hashes_m g t = some (hsh g t) := by
  have hFU := FU
  have r2 := h.r2
  have := ref14Hashes_L h h0 ht FUEL 0 (by omega) (Nat.zero_le _)
  exact this
section
variable {hs : List GHash} {V : Nat} {names : List Nat} (hh : ∀ h, h ∈ hs → HOK h) (hn : ∀ y, y ∈ names → y < 18446744073709551616) (hnl : names.length < 1000000000) (hV : V ≤ 61) (hR : hs.length ≤ 8)
include hh hn hnl
theorem words_L3 (rec1 : List GHash → Int → List Int → List Int → Int → Option (List Int)) (rec2 : List GHash → Int → List Int → List Int → Int → Int → Option (List Int)) {r : Nat} (hr : r < hs.length) (j : Nat) (out : List Int) (ho : out.length < 1000000000) (hj : j < 1000000000) : ∀ (m i : Nat), names.length < i + m → i ≤ names.length →
    ref05Words_L3 rec1 rec2 m hs (V : Int) (ns names) out (r : Int) (j : Int) ((wordN (hs.getD r ⟨0, 0⟩) j (names.take i) : Nat) : Int) (i : Int) = rec2 hs (V : Int) (ns names) (out ++ [((wordN (hs.getD r ⟨0, 0⟩) j names : Nat) : Int)]) (r : Int) ((j + 1 : Nat) : Int)
  | 0, i, _, _ => by omega
  | m + 1, i, hm, hi => by
    show ref05Words_B3 rec1 rec2 (ref05Words_L3 rec1 rec2 m) _ _ _ _ _ _ _ _ = _
    have eD : hs.getD r ⟨0, 0⟩ = hs[r] := by simp [List.getD, List.getElem?_eq_getElem hr]
    unfold ref05Words_B3 ref05Words_J1
    rw [ns_len]
    by_cases c : i < names.length
    · rw [bt (lt_t c), idx_get hr, some_bind', idx_ns c, some_bind', ref04Value_eq (hh _ (List.getElem_mem hr)), some_bind', ref04Bound_eq, some_bind', some_bind', wr1 i (by omega)]
      have ih := words_L3 rec1 rec2 hr j out ho hj m (i + 1) (by omega) c
      rw [take_snoc c, wordN_snoc, eD] at ih
      have hw := wordN_lt (h := hs[r]) (j := j) (names.take i) (fun y hy => hn y (List.mem_of_mem_take hy))
      rw [eD]
      by_cases q : valN hs[r] names[i] < bndL j
      · rw [if_pos q] at ih
        rw [bt (by simp; exact q), bxorN _ _ hw (hn _ (List.getElem_mem c)), ih]
      · rw [if_neg q] at ih
        rw [bf (by simp; omega), ih]
    · rw [bf (lt_f c), List.take_of_length_le (by omega), app_ok (by simp; omega), some_bind', wr1 j (by omega)]
include hV hR
theorem words_L2 (rec1 : List GHash → Int → List Int → List Int → Int → Option (List Int)) {r : Nat} (hr : r < hs.length) : ∀ (m j : Nat), V < j + m → j ≤ V →
    ref05Words_L2 rec1 m hs (V : Int) (ns names) ((ns (wordsN hs V names)).take (r * V + j)) (r : Int) (j : Int) = rec1 hs (V : Int) (ns names) ((ns (wordsN hs V names)).take ((r + 1) * V)) ((r + 1 : Nat) : Int)
  | 0, j, _, _ => by omega
  | m + 1, j, hm, hj => by
    have hFU := FU
    show ref05Words_B2 rec1 (ref05Words_L2 rec1 m) _ _ _ _ _ _ = _
    have hlen : (ns (wordsN hs V names)).length = hs.length * V := by rw [ns_len, wordsN_len]
    have hRV : hs.length * V ≤ 8 * 61 := Nat.mul_le_mul hR hV
    unfold ref05Words_B2
    by_cases c : j < V
    · have hlt := rv_lt hr c
      have := words_L3 hh hn hnl (V := V) rec1 (ref05Words_L2 rec1 m) hr j ((ns (wordsN hs V names)).take (r * V + j)) (by rw [List.length_take]; omega) (by omega) FUEL 0 (by omega) (Nat.zero_le _)
      rw [bt (lt_t c)]
      have e0 : ((wordN (hs.getD r ⟨0, 0⟩) j (names.take 0) : Nat) : Int) = 0 := rfl
      rw [e0, show ((0 : Nat) : Int) = (0 : Int) from rfl] at this
      rw [this]
      have e1 : (ns (wordsN hs V names)).take (r * V + j) ++ [((wordN (hs.getD r ⟨0, 0⟩) j names : Nat) : Int)] = (ns (wordsN hs V names)).take (r * V + (j + 1)) := by
        rw [show r * V + (j + 1) = r * V + j + 1 by omega, List.take_add_one]
        congr 1
        have := mat_idx (R := hs.length) (V := V) (W := fun r j => wordN (hs.getD r ⟨0, 0⟩) j names) hr c rfl
        rw [idx_nat, ← ns_words] at this
        rw [this]; rfl
      rw [e1]
      exact words_L2 rec1 hr m (j + 1) (by omega) c
    · rw [bf (lt_f c), show j = V by omega, wr1 r (by omega), Nat.add_mul, Nat.one_mul]
theorem words_L1 : ∀ (m r : Nat), hs.length < r + m → r ≤ hs.length → ref05Words_L1 m hs (V : Int) (ns names) ((ns (wordsN hs V names)).take (r * V)) (r : Int) = some (ns (wordsN hs V names))
  | 0, r, _, _ => by omega
  | m + 1, r, hm, hr => by
    have hFU := FU
    show ref05Words_B1 (ref05Words_L1 m) _ _ _ _ _ = _
    unfold ref05Words_B1
    by_cases c : r < hs.length
    · rw [bt (lt_t c)]
      have := words_L2 hh hn hnl hV hR (ref05Words_L1 m) c FUEL 0 (by omega) (Nat.zero_le _)
      rw [Nat.add_zero, show ((0 : Nat) : Int) = (0 : Int) from rfl] at this
      rw [this]
      exact words_L1 m (r + 1) (by omega) c
    · rw [bf (lt_f c), List.take_of_length_le (by rw [ns_len, wordsN_len, show r = hs.length by omega]; exact Nat.le_refl _)]
theorem ref05Words_eq : ref05Words_m hs (V : Int) (ns names) = some (ns (wordsN hs V names)) := by
  have hFU := FU
  have := words_L1 hh hn hnl hV hR FUEL 0 (by omega) (Nat.zero_le _)
  rw [Nat.zero_mul, List.take_zero] at this
  exact this
end
theorem search2_L2 {f : GEdge → Nat} {c : List GEdge} (hcl : c.length < 1000000000) {w : List Nat} (rec1 : GEdge → List GEdge → List Int → List Int → Int → Option (GEdge × Bool)) {i : Nat} (hi : i < w.length) (hil : i < 1000000000) : ∀ (m k : Nat), c.length < k + m → k ≤ c.length →
    ref14Search_L2 rec1 m ⟨0, 0, 0⟩ c (ns (c.map f)) (ns w) (i : Int) (k : Int) = match (c.drop k).find? (fun e => f e == w[i]) with | some e => some (e, true) | none => rec1 ⟨0, 0, 0⟩ c (ns (c.map f)) (ns w) ((i + 1 : Nat) : Int)
  | 0, k, _, _ => by omega
  | m + 1, k, hm, hk => by
    show ref14Search_B2 rec1 (ref14Search_L2 rec1 m) _ _ _ _ _ _ = _
    unfold ref14Search_B2
    by_cases q : k < c.length
    · have e1 : idx (ns (c.map f)) (k : Int) = some ((f c[k] : Nat) : Int) := by rw [idx_ns (by rw [List.length_map]; exact q), List.getElem_map]
      rw [bt (lt_t q), idx_ns hi, some_bind', e1, some_bind', idx_get q, some_bind', wr1 k (by omega), drop_cons q, List.find?_cons]
      by_cases e : w[i] = f c[k]
      · rw [bt (by simp [e])]; simp [e]
      · rw [bf (by simp; omega), search2_L2 hcl rec1 hi hil m (k + 1) (by omega) q]
        have : (f c[k] == w[i]) = false := beq_false_of_ne (fun q => e q.symm)
        rw [this]
    · rw [bf (lt_f q), List.drop_eq_nil_of_le (by omega), wr1 i (by omega)]; rfl
theorem search2_L1 {f : GEdge → Nat} {c : List GEdge} (hcl : c.length < 1000000000) {w : List Nat} (hwl : w.length < 1000000000) : ∀ (m i : Nat), w.length < i + m → i ≤ w.length →
    ref14Search_L1 m ⟨0, 0, 0⟩ c (ns (c.map f)) (ns w) (i : Int) = some (resS ((w.drop i).findSome? fun w => c.find? fun e => f e == w))
  | 0, i, _, _ => by omega
  | m + 1, i, hm, hi => by
    have hFU := FU
    show ref14Search_B1 (ref14Search_L1 m) _ _ _ _ _ = _
    unfold ref14Search_B1
    rw [ns_len]
    by_cases q : i < w.length
    · have := search2_L2 (f := f) hcl (ref14Search_L1 m) q (by omega) FUEL 0 (by omega) (Nat.zero_le _)
      rw [List.drop_zero, show ((0 : Nat) : Int) = (0 : Int) from rfl] at this
      rw [bt (lt_t q), this, drop_cons q, List.findSome?_cons]
      cases c.find? fun e => f e == w[i] with
      | some e => rfl
      | none => exact search2_L1 hcl hwl m (i + 1) (by omega) q
    · rw [bf (lt_f q), List.drop_eq_nil_of_le (by omega)]; rfl
section
variable {g : GGraph} (hE : g.Edges.length < 1000000000) (h : GOK g) (hw : ∀ x, x ∈ g.Hashes → HOK x) {t v : Int} (h0 : 0 ≤ t) (ht : t < g.Config.L) (v0 : 0 ≤ v) (vn : v < g.Config.N)
include hE h hw h0 ht v0 vn
theorem ref14Words_eq : ref14Words_m g t v = some (ns (wds g t v)) := by
  have hcl := cutE_len (pf g t) v g.Edges
  obtain ⟨l1, l2, l3, l4⟩ := levels_eq h.n1 h.n2
  have r2 := h.r2
  have hlen := hsh_len h h0 ht
  unfold ref14Words_m
  rw [ref14Tree_eq hE h v0 vn, some_bind', ref13Cut_tree hE h, some_bind', ref14Hashes_eq h h0 ht, some_bind', l2, some_bind', ref13Names_eq (by omega) (cut_eb h), some_bind',
    ref05Words_eq (fun x hx => hw x (hsh_mem hx)) (cut_names_lt h) (by rw [List.length_map]; omega) (by omega) (by omega), some_bind']; rfl
theorem ref14Search_eq : ref14Search_m g t v = some (resS (srch g t v)) := by
  have hFU := FU
  have hcl := cutE_len (pf g t) v g.Edges
  obtain ⟨l1, l2, l3, l4⟩ := levels_eq h.n1 h.n2
  have r2 := h.r2
  have hlen := hsh_len h h0 ht
  have hRV : (hsh g t).length * lvl g.Config.N ≤ 8 * 22 := Nat.mul_le_mul (by omega) l4
  unfold ref14Search_m
  rw [ref14Tree_eq hE h v0 vn, some_bind', ref13Cut_tree hE h, some_bind', ref13Names_eq (by omega) (cut_eb h), some_bind', ref14Words_eq hE h hw h0 ht v0 vn, some_bind']
  have := search2_L1 (f := nmE) (c := cutE (pf g t) v g.Edges) (by omega) (w := wds g t v) (by unfold wds; rw [wordsN_len]; omega) FUEL 0 (by unfold wds; rw [wordsN_len]; omega) (Nat.zero_le _)
  rw [List.drop_zero, show ((0 : Nat) : Int) = (0 : Int) from rfl] at this
  rw [this]; rfl
end
theorem hash_ext (x y : GHash) : ((x.A == y.A) && (x.B == y.B)) = decide (x = y) := by
  cases x with | mk a b => cases y with | mk d e =>
  by_cases h1 : a = d <;> by_cases h2 : b = e <;> simp [h1, h2]
theorem ref14Same_L (a b : List GHash) (hab : a.length = b.length) (hl : a.length < 1000000000) : ∀ (m i : Nat), a.length < i + m → i ≤ a.length → ref14Same_L1 m a b (i : Int) = some (decide (a.drop i = b.drop i))
  | 0, i, h, hi => by omega
  | m + 1, i, h, hi => by
    show ref14Same_B1 (ref14Same_L1 m) a b _ = _
    unfold ref14Same_B1
    by_cases c : i < a.length
    · have c' : i < b.length := by omega
      rw [bt (lt_t c), idx_get c, some_bind', idx_get c', some_bind', wr1 i (by omega), drop_cons c, drop_cons c', hash_ext]
      by_cases q : a[i] = b[i]
      · rw [bf (by simp [q]), ref14Same_L a b hab hl m (i + 1) (by omega) c]; simp [q, -List.getElem_cons_drop]
      · rw [bt (by simp [q])]; simp [q, -List.getElem_cons_drop]
    · rw [bf (lt_f c), List.drop_eq_nil_of_le (by omega), List.drop_eq_nil_of_le (by omega)]; rfl
theorem ref14Same_eq (a b : List GHash) (hl : a.length < 1000000000) : ref14Same_m a b = some (decide (a = b)) := by
  have hFU := FU
  unfold ref14Same_m
  by_cases h : a.length = b.length
  · rw [bf (by simp [h]), show (0 : Int) = ((0 : Nat) : Int) from rfl, ref14Same_L a b h hl FUEL 0 (by omega) (Nat.zero_le _)]; rfl
  · rw [bt (by simp; omega)]
    have : ¬ a = b := fun e => h (by rw [e])
    simp [this]
end Go.Proofs.YtibnmlbjahcjmaaGreat
