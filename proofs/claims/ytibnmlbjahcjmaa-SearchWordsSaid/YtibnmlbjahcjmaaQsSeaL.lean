/- Facts that the statement's proof is made of. No condition. -/
import Derived.Test.YtibnmlbjahcjmaaQsSeaR
set_option linter.unusedVariables false
set_option linter.unusedSimpArgs false
set_option maxRecDepth 20000
set_option maxHeartbeats 1000000
namespace Go.Proofs.Ytibnmlbjahcjmaa
open Go Go.AM Go.Pl Go.Pt
theorem law14Awake_eq : law14Awake_m = some true := by decide +kernel
def HW (g : GGraph) : Prop := ∀ x, x ∈ g.Hashes → HOK x
theorem SearchTells_p (g : GGraph) (hw : HW g) (t v : Int) : SearchTells_m g t v = some true := by
  unfold SearchTells_m
  obtain ⟨b, hb, hs⟩ := ref14Small_eq g
  rw [hb, some_bind', law14Awake_eq]
  cases b with
  | false => rfl
  | true =>
    obtain ⟨s1, s2, s3, s4, s5⟩ := hs rfl
    have hE : g.Edges.length < 1000000000 := by omega
    have hH : g.Hashes.length < 1000000000 := by omega
    rw [bf (c := !true) rfl, ref14Right_eq hE hH, some_bind', searchHashes_eq hE hH, some_bind', searchTree_eq hE hH, some_bind', searchWords_eq hE hH hw, some_bind', searchSearch_eq hE hH hw, some_bind', searchRight_eq hE hH]
    simp only []
    rw [some_bind', beq_self_eq_true, bf (c := !true) rfl]
    cases hg : grB g with
    | false =>
      simp only [Bool.false_eq_true, false_and, if_false, Bool.false_and]
      rfl
    | true =>
      have h := gok hg
      have n2 := h.n2
      simp only [true_and, Bool.true_and]
      have tY : (0 ≤ t ∧ t ≤ g.Config.L ∧ 0 ≤ v ∧ v < g.Config.N) → (if 0 ≤ t ∧ t ≤ g.Config.L ∧ 0 ≤ v ∧ v < g.Config.N then trl g.Config.N (pf g t) v else []) = trl g.Config.N (pf g t) v := fun q => if_pos q
      have tN : ¬ (0 ≤ t ∧ t ≤ g.Config.L ∧ 0 ≤ v ∧ v < g.Config.N) → (if 0 ≤ t ∧ t ≤ g.Config.L ∧ 0 ≤ v ∧ v < g.Config.N then trl g.Config.N (pf g t) v else []) = [] := fun q => if_neg q
      have wY : (0 ≤ t ∧ t < g.Config.L ∧ 0 ≤ v ∧ v < g.Config.N) → (if 0 ≤ t ∧ t < g.Config.L ∧ 0 ≤ v ∧ v < g.Config.N then ns (wds g t v) else []) = ns (wds g t v) := fun q => if_pos q
      have wN : ¬ (0 ≤ t ∧ t < g.Config.L ∧ 0 ≤ v ∧ v < g.Config.N) → (if 0 ≤ t ∧ t < g.Config.L ∧ 0 ≤ v ∧ v < g.Config.N then ns (wds g t v) else []) = [] := fun q => if_neg q
      have sY : (0 ≤ t ∧ t < g.Config.L ∧ 0 ≤ v ∧ v < g.Config.N) → (if 0 ≤ t ∧ t < g.Config.L ∧ 0 ≤ v ∧ v < g.Config.N then srch g t v else none) = srch g t v := fun q => if_pos q
      have sN : ¬ (0 ≤ t ∧ t < g.Config.L ∧ 0 ≤ v ∧ v < g.Config.N) → (if 0 ≤ t ∧ t < g.Config.L ∧ 0 ≤ v ∧ v < g.Config.N then srch g t v else none) = none := fun q => if_neg q
      have hY : (0 ≤ t ∧ t < g.Config.L) → (if 0 ≤ t ∧ t < g.Config.L then hsh g t else []) = hsh g t := fun q => if_pos q
      have hN : ¬ (0 ≤ t ∧ t < g.Config.L) → (if 0 ≤ t ∧ t < g.Config.L then hsh g t else []) = [] := fun q => if_neg q
      by_cases c0 : 0 ≤ t
      · by_cases c1 : t < g.Config.L
        · have c1' : t ≤ g.Config.L := by omega
          have hl : (hsh g t).length < 1000000000 := by
            have := hsh_bounds h c0 c1
            rw [hsh_len h c0 c1]; have := h.r2; omega
          rw [hY ⟨c0, c1⟩, decide_eq_true c0, decide_eq_true c1, gtt]
          unfold law14Hashes_m
          rw [bf (c := !true) rfl, ref14Hashes_eq h c0 c1, some_bind', some_bind', ref14Same_eq _ _ hl, gtt, some_bind', decide_eq_true rfl]
          rw [bf (by rfl)]
          by_cases c2 : 0 ≤ v ∧ v < g.Config.N
          · rw [tY ⟨c0, c1', c2⟩, wY ⟨c0, c1, c2⟩, sY ⟨c0, c1, c2⟩, bf (by simp; omega), ref14Tree_eq hE h c2.1 c2.2, some_bind', ref06Same_eq _ _ (by have := trl_len n2 (pf g t) v; omega), some_bind', decide_eq_true rfl, bf (c := !true) rfl, bf (c := !true) rfl,
              ref14Search_eq hE h hw c0 c1 c2.1 c2.2, some_bind']
            rw [ref14Words_eq hE h hw c0 c1 c2.1 c2.2, some_bind', ref05Same_eq _ _ (by
              unfold wds
              have := Nat.mul_le_mul (show (hsh g t).length ≤ 8 by rw [hsh_len h c0 c1]; have := h.r2; omega) (levels_eq h.n1 h.n2).2.2.2
              rw [ns_len, wordsN_len]; omega), some_bind', decide_eq_true rfl, edge_ext, decide_eq_true rfl, beq_self_eq_true]
            rfl
          · rw [tN (fun q => c2 q.2.2), wN (fun q => c2 q.2.2), sN (fun q => c2 q.2.2), bt (by simp; omega)]; rfl
        · rw [hN (fun q => c1 q.2), wN (fun q => c1 q.2.1), sN (fun q => c1 q.2.1), decide_eq_true c0, decide_eq_false c1, gtt]
          unfold law14Hashes_m
          rw [bt (c := !false) rfl, some_bind', ref14Same_eq _ _ (by simp), gtt, some_bind', decide_eq_true rfl]
          rw [bf (by rfl)]
          by_cases c2 : 0 ≤ v ∧ v < g.Config.N
          · by_cases c3 : t ≤ g.Config.L
            · rw [tY ⟨c0, c3, c2⟩, bf (by simp; omega), ref14Tree_eq hE h c2.1 c2.2, some_bind', ref06Same_eq _ _ (by have := trl_len n2 (pf g t) v; omega), some_bind', decide_eq_true rfl, bf (c := !true) rfl, bt (c := !false) rfl]; rfl
            · rw [tN (fun q => c3 q.2.1), bt (by simp; omega)]; rfl
          · rw [tN (fun q => c2 q.2.2), bt (by simp; omega)]; rfl
      · rw [hN (fun q => c0 q.1), wN (fun q => c0 q.1), sN (fun q => c0 q.1), tN (fun q => c0 q.1), decide_eq_false c0, gft, some_bind', gft, some_bind', bf (by rfl), bt (by simp)]; rfl
theorem fnd_cons (P : GEdge → Bool) (a : GEdge) (l : List GEdge) (i : Nat) : fnd P (a :: l) i = if P a then some i else fnd P l (i + 1) := rfl
theorem ref12Find_L {l : List GEdge} (hl : l.length < 1000000000) (u v : Int) : ∀ (m i : Nat), l.length < i + m → i ≤ l.length → ref12Find_L1 m l u v (i : Int) = some (match fnd (fEnds u v) (l.drop i) i with | some k => (k : Nat) | none => -1)
  | 0, i, _, _ => by omega
  | m + 1, i, hm, hi => by
    show ref12Find_B1 (ref12Find_L1 m) _ _ _ _ = _
    unfold ref12Find_B1
    by_cases c : i < l.length
    · rw [bt (lt_t c), idx_get c, some_bind', gopt_some, some_bind', gopt_some, some_bind', gopt_some, some_bind', wr1 i (by omega), drop_cons c, ref12Find_L hl u v m (i + 1) (by omega) c, fnd_cons]
      unfold fEnds
      generalize l[i] = e
      cases q1 : (e.U == u) <;> cases q2 : (e.V == v) <;> cases q3 : (e.U == v) <;> cases q4 : (e.V == u) <;> simp [q1, q2, q3, q4]
    · rw [bf (lt_f c), List.drop_eq_nil_of_le (by omega)]; rfl
theorem ref12Find_eq {l : List GEdge} (hl : l.length < 1000000000) (u v : Int) : ref12Find_m l u v = some (match fnd (fEnds u v) l 0 with | some k => ((k : Nat) : Int) | none => -1) := by
  have hFU := FU
  exact ref12Find_L hl u v FUEL 0 (by omega) (Nat.zero_le _)
theorem fnd_mem {l : List GEdge} {e : GEdge} (h : e ∈ l) : ∃ k, fnd (fEnds e.U e.V) l 0 = some k := by
  cases q : fnd (fEnds e.U e.V) l 0 with
  | some k => exact ⟨k, rfl⟩
  | none =>
    have := fnd_none q
    rw [List.find?_eq_none] at this
    have := this e h
    unfold fEnds at this
    simp at this
theorem finds_L {g : GGraph} (hE : g.Edges.length < 1000000000) (hH : g.Hashes.length < 1000000000) (hw : HW g) (hg : grB g = true) {t v : Int} (h0 : 0 ≤ t) (ht : t < g.Config.L) (v0 : 0 ≤ v) (vn : v < g.Config.N) : ∀ (m i : Nat), (trl g.Config.N (pf g t) v).length < i + m → i ≤ (trl g.Config.N (pf g t) v).length →
    SearchFinds_L1 m t g (trl g.Config.N (pf g t) v) (resS (srch g t v)).1 (resS (srch g t v)).2 (trl g.Config.N (pf g t) v) ((trl g.Config.N (pf g t) v).length : Int) (i : Int) = some true
  | 0, i, _, _ => by omega
  | m + 1, i, hm, hi => by
    have h := gok hg
    have hl := trl_len h.n2 (pf g t) v
    show SearchFinds_B1 (SearchFinds_L1 m) _ _ _ _ _ _ _ _ = _
    unfold SearchFinds_B1
    by_cases c : i < (trl g.Config.N (pf g t) v).length
    · obtain ⟨w0, wn, wp⟩ := mem_trl.1 (List.getElem_mem c)
      have e1 : srch g t (trl g.Config.N (pf g t) v)[i] = srch g t v := by
        unfold srch cutE
        have : ∀ q, inQ (pf g t) (trl g.Config.N (pf g t) v)[i] q = inQ (pf g t) v q := fun q => inQ_cong fun y => by rw [wp]
        rw [List.filter_congr fun e _ => this (uv e)]
      rw [bt (lt_t c), idx_get c, some_bind', searchSearch_eq hE hH hw, some_bind', if_pos ⟨hg, h0, ht, w0, wn⟩, e1]
      simp only []
      rw [edge_ext, decide_eq_true rfl, beq_self_eq_true, searchTree_eq hE hH, if_pos ⟨hg, h0, by omega, w0, wn⟩, gt' (by rfl), some_bind', ref06Same_eq _ _ (by have := trl_len h.n2 (pf g t) (trl g.Config.N (pf g t) v)[i]; omega), gt' (by rfl), some_bind', decide_eq_true (trl_cong wp), bf (by rfl), wr1 i (by omega)]
      exact finds_L hE hH hw hg h0 ht v0 vn m (i + 1) (by omega) c
    · rw [bf (lt_f c), law14Awake_eq]; rfl
theorem SearchFinds_p (g : GGraph) (hw : HW g) (t v : Int) : SearchFinds_m g t v = some true := by
  have hFU := FU
  unfold SearchFinds_m
  obtain ⟨b, hb, hs⟩ := ref14Small_eq g
  rw [hb, some_bind', law14Awake_eq]
  cases b with
  | false => rfl
  | true =>
    obtain ⟨s1, s2, s3, s4, s5⟩ := hs rfl
    have hE : g.Edges.length < 1000000000 := by omega
    have hH : g.Hashes.length < 1000000000 := by omega
    rw [searchRight_eq hE hH]
    cases hg : grB g with
    | false => rfl
    | true =>
      rw [show ((!true) == false) = true from rfl, gt' rfl, some_bind']
      by_cases c : 0 ≤ t ∧ t < g.Config.L ∧ 0 ≤ v ∧ v < g.Config.N
      · obtain ⟨h0, ht, v0, vn⟩ := c
        have h := gok hg
        have hl := trl_len h.n2 (pf g t) v
        have hcl := cutE_len (pf g t) v g.Edges
        rw [bf (by simp; omega), searchTree_eq hE hH, some_bind', if_pos ⟨hg, h0, by omega, v0, vn⟩, ref13Cut_tree hE h, some_bind', searchSearch_eq hE hH hw, some_bind', if_pos ⟨hg, h0, ht, v0, vn⟩]
        have hfin := finds_L hE hH hw hg h0 ht v0 vn FUEL 0 (by omega) (Nat.zero_le _)
        rw [show ((0 : Nat) : Int) = (0 : Int) from rfl] at hfin
        cases hq : srch g t v with
        | none =>
          rw [hq] at hfin
          have hne : (cutE (pf g t) v g.Edges).length ≠ 1 := fun e => by
            obtain ⟨x, hx⟩ := List.length_eq_one_iff.1 e
            have : srch g t v = some x := by
              unfold srch
              rw [hx]
              exact srchE_one (fun e => by have q := hsh_len h h0 ht; rw [e] at q; have := h.r1; simp only [List.length_nil] at q; omega) (by have := (levels_eq h.n1 h.n2).2.2.1; omega) x
            rw [hq] at this; cases this
          rw [show resS none = (⟨0, 0, 0⟩, false) from rfl] at hfin ⊢
          simp only []
          rw [gft, some_bind', gf' (by simp), some_bind', bf (by simp; omega)]
          exact hfin
        | some e =>
          rw [hq] at hfin
          have hm : e ∈ cutE (pf g t) v g.Edges := srchE_mem hq
          obtain ⟨k, hk⟩ := fnd_mem hm
          have hpos : 0 < (cutE (pf g t) v g.Edges).length := List.length_pos_of_mem hm
          rw [show resS (some e) = (e, true) from rfl] at hfin ⊢
          simp only []
          have e0 : idx (cutE (pf g t) v g.Edges) 0 = some (cutE (pf g t) v g.Edges)[0] := idx_get hpos
          rw [gtt, ref12Find_eq (by omega), hk, some_bind', e0, gopt_some, some_bind']
          simp only []
          rw [bf]
          · exact hfin
          · have e1 : decide (((k : Nat) : Int) < 0) = false := by simp <;> omega
            have e2 : (((cutE (pf g t) v g.Edges).length : Int) == 0) = false := beq_false_of_ne (by omega)
            rw [e1, e2]
            by_cases e3 : (cutE (pf g t) v g.Edges).length = 1
            · obtain ⟨x, hx⟩ := List.length_eq_one_iff.1 e3
              have : e = (cutE (pf g t) v g.Edges)[0] := by
                simp only [hx, List.mem_singleton] at hm
                simp only [hx, List.getElem_cons_zero]; exact hm
              rw [e3]
              have e4 := edge_ext e (cutE (pf g t) v g.Edges)[0]
              rw [decide_eq_true this] at e4
              simp [e4, ← this]
            · have : (((cutE (pf g t) v g.Edges).length : Int) == 1) = false := beq_false_of_ne (by omega)
              rw [this]; simp
      · rw [bt (by simp; omega)]; rfl
theorem lev_L1 {g : GGraph} {t v : Int} (names : List Nat) (hn : ∀ y, y ∈ names → y < 18446744073709551616) (hnl : names.length < 1000000000) (rows : Option Bool) (fin : ∀ rec1, SearchLevel_B1 rec1 t v g ((xorS (fun x => x) names : Nat) : Int) (ns names) (names.length : Int) (names.length : Int) = rows) : ∀ (m i : Nat) (w : Nat), w < 18446744073709551616 → w ^^^ xorS (fun x => x) (names.drop i) = xorS (fun x => x) names → names.length < i + m → i ≤ names.length →
    SearchLevel_L1 m t v g (w : Int) (ns names) ((ns names).length : Int) (i : Int) = rows
  | 0, i, _, _, _, _, _ => by omega
  | m + 1, i, w, hw, hx, hm, hi => by
    show SearchLevel_B1 (SearchLevel_L1 m) _ _ _ _ _ _ _ = _
    rw [ns_len]
    by_cases c : i < names.length
    · unfold SearchLevel_B1
      have hb := hn _ (List.getElem_mem c)
      have ih := lev_L1 names hn hnl rows fin m (i + 1) (w ^^^ names[i]) (Nat.xor_lt_two_pow (n := 64) hw hb) (by rw [← hx, drop_cons c]; simp only [xorS]; rw [Nat.xor_assoc]) (by omega) c
      rw [ns_len] at ih
      rw [bt (lt_t c), idx_ns c, some_bind', bxorN _ _ hw hb, wr1 i (by omega)]
      exact ih
    · have e : i = names.length := by omega
      subst e
      rw [List.drop_eq_nil_of_le (Nat.le_refl _)] at hx
      have : w = xorS (fun x => x) names := by rw [← hx]; simp [xorS]
      rw [this]
      exact fin _
theorem lev_L2 {g : GGraph} (hE : g.Edges.length < 1000000000) (hH : g.Hashes.length < 1000000000) (hg : grB g = true) {t v : Int} (h0 : 0 ≤ t) (ht : t < g.Config.L) : ∀ (m r : Nat), g.Config.R.toNat < r + m → r ≤ g.Config.R.toNat →
    SearchLevel_L2 m t g ((xorS (fun x => x) ((cutE (pf g t) v g.Edges).map nmE) : Nat) : Int) (ns (wds g t v)) ((lvl g.Config.N : Nat) : Int) g.Config.R (r : Int) = some true
  | 0, i, _, _ => by omega
  | m + 1, r, hm, hr => by
    have h := gok hg
    obtain ⟨_, _, l3, l4⟩ := levels_eq h.n1 h.n2
    have r2 := h.r2
    have r1 := h.r1
    have hlen := hsh_len h h0 ht
    show SearchLevel_B2 (SearchLevel_L2 m) _ _ _ _ _ _ _ = _
    unfold SearchLevel_B2
    by_cases c : r < g.Config.R.toNat
    · have hlt := rv_lt (R := g.Config.R.toNat) (V := lvl g.Config.N) (i := 0) c (by omega)
      have hRV : g.Config.R.toNat * lvl g.Config.N ≤ 8 * 22 := Nat.mul_le_mul (by omega) l4
      have e1 : IntKind.i64.wrap ((r : Int) * ((lvl g.Config.N : Nat) : Int)) = ((r * lvl g.Config.N + 0 : Nat) : Int) := by rw [← Int.natCast_mul]; exact wr0 (by omega) (by omega)
      have e2 := mat_idx (R := g.Config.R.toNat) (V := lvl g.Config.N) (W := fun r j => wordN ((hsh g t).getD r ⟨0, 0⟩) j ((cutE (pf g t) v g.Edges).map nmE)) c (show 0 < lvl g.Config.N by omega) rfl
      rw [← hlen, ← ns_words] at e2
      rw [bt (by simp; omega), e1]
      unfold wds
      rw [e2, some_bind', wordN_zero, bf (by simp), wr1 r (by omega)]
      exact lev_L2 hE hH hg h0 ht m (r + 1) (by omega) c
    · rw [bf (by simp; omega), searchHashes_eq hE hH, some_bind', if_pos ⟨hg, h0, ht⟩, law14Awake_eq, hlen]
      have e : ((((g.Config.R.toNat : Nat) : Int)) == g.Config.R) = true := by simp; omega
      rw [e]; rfl
theorem SearchLevel_p (g : GGraph) (hw : HW g) (t v : Int) : SearchLevel_m g t v = some true := by
  have hFU := FU
  unfold SearchLevel_m
  obtain ⟨b, hb, hs⟩ := ref14Small_eq g
  rw [hb, some_bind', law14Awake_eq]
  cases b with
  | false => rfl
  | true =>
    obtain ⟨s1, s2, s3, s4, s5⟩ := hs rfl
    have hE : g.Edges.length < 1000000000 := by omega
    have hH : g.Hashes.length < 1000000000 := by omega
    rw [searchRight_eq hE hH]
    cases hg : grB g with
    | false => rfl
    | true =>
      rw [show ((!true) == false) = true from rfl, gt' rfl, some_bind']
      by_cases c : 0 ≤ t ∧ t < g.Config.L ∧ 0 ≤ v ∧ v < g.Config.N
      · obtain ⟨h0, ht, v0, vn⟩ := c
        have h := gok hg
        have hcl := cutE_len (pf g t) v g.Edges
        obtain ⟨_, _, l3, l4⟩ := levels_eq h.n1 h.n2
        have r2 := h.r2
        have r1 := h.r1
        have hlen := hsh_len h h0 ht
        rw [bf (by simp; omega), searchTree_eq hE hH, some_bind', if_pos ⟨hg, h0, by omega, v0, vn⟩, ref13Cut_tree hE h, some_bind', ref13Names_eq (by omega) (cut_eb h), some_bind']
        refine lev_L1 ((cutE (pf g t) v g.Edges).map nmE) (cut_names_lt h) (by rw [List.length_map]; omega) (some true) (fun rec1 => ?_) FUEL 0 0 (by decide) (by simp) (by rw [List.length_map]; omega) (Nat.zero_le _)
        unfold SearchLevel_B1
        have hwl : (ns (wds g t v)).length = g.Config.R.toNat * lvl g.Config.N := by unfold wds; rw [ns_len, wordsN_len, hlen]
        obtain ⟨R, hR⟩ := Int.eq_ofNat_of_zero_le (a := g.Config.R) (by omega)
        have eR : g.Config.R.toNat = R := by omega
        rw [eR] at hwl hlen
        have hRV : R * lvl g.Config.N ≤ 8 * 22 := Nat.mul_le_mul (by omega) l4
        have ed : Int.tdiv (((ns (wds g t v)).length : Nat) : Int) g.Config.R = ((lvl g.Config.N : Nat) : Int) := by
          rw [hR, hwl, Int.tdiv_eq_ediv_of_nonneg (by omega), ← Int.natCast_ediv, Nat.mul_div_cancel_left _ (by omega)]
        have em : IntKind.i64.wrap (((lvl g.Config.N : Nat) : Int) * g.Config.R) = ((R * lvl g.Config.N : Nat) : Int) := by
          rw [hR, ← Int.natCast_mul, Nat.mul_comm]; exact wr0 (by omega) (by omega)
        rw [bf (by simp), searchWords_eq hE hH hw, if_pos ⟨hg, h0, ht, v0, vn⟩, some_bind', ck (by simp; omega), some_bind', ed, wr0 (n := ((lvl g.Config.N : Nat) : Int)) (by omega) (by omega), em, hwl, bf (by simp; omega)]
        have := lev_L2 hE hH hg h0 ht (v := v) FUEL 0 (by omega) (Nat.zero_le _)
        exact this
      · rw [bt (by simp; omega)]; rfl
end Go.Proofs.Ytibnmlbjahcjmaa
