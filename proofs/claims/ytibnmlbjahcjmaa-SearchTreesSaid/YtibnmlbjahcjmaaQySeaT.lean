/- Facts that the statement's proof is made of. No condition. -/
import Derived.Test.YtibnmlbjahcjmaaQySeaW
import Derived.Test.YtibnmlbjahcjmaaQyGD2
set_option linter.unusedVariables false
set_option linter.unusedSimpArgs false
set_option maxRecDepth 20000
set_option maxHeartbeats 1000000
namespace Go.Proofs.Ytibnmlbjahcjmaa
open Go Go.AM Go.Pl Go.Pt
def mdS (x : GHash) : GHash := ⟨Int.tmod x.A 2305843009213693951, Int.tmod x.B 2305843009213693951⟩
theorem mdS_id {x : GHash} (h : HOK x) (a : x.A < 2305843009213693951) (b : x.B < 2305843009213693951) : mdS x = x := by
  obtain ⟨h1, h2⟩ := h
  unfold mdS
  rw [Int.tmod_eq_emod_of_nonneg h1, Int.tmod_eq_emod_of_nonneg h2, Int.emod_eq_of_lt h1 a, Int.emod_eq_of_lt h2 b]
theorem mdS_ok {x : GHash} (h : HOK x) : HOK (mdS x) ∧ (mdS x).A < 2305843009213693951 ∧ (mdS x).B < 2305843009213693951 := by
  obtain ⟨h1, h2⟩ := h
  unfold mdS HOK
  simp only []
  rw [Int.tmod_eq_emod_of_nonneg h1, Int.tmod_eq_emod_of_nonneg h2]
  omega
theorem trF_id {n v : Nat} (h : v < n) : ∀ (k i : Nat), v = i + k → trF n i id (v : Int) = [(v : Int)]
  | 0, i, e => by
    have e' : i = v := by omega
    subst e'
    have rest : ∀ (m j : Nat), n = j + m → i < j → trF n j id (i : Int) = [] := by
      intro m
      induction m with
      | zero => intro j h1 _; exact trF_end (by omega)
      | succ m ih =>
        intro j h1 h2
        rw [trF_step (by omega), if_neg (by simp; omega), ih (j + 1) (by omega) (by omega)]; rfl
    rw [trF_step h, if_pos (show id (i : Int) = (i : Int) from rfl), rest (n - (i + 1)) (i + 1) (by omega) (by omega)]; rfl
  | k + 1, i, e => by
    rw [trF_step (by omega), if_neg (by simp; omega), trF_id h k (i + 1) (by omega)]; rfl
theorem tree_0 (g : GGraph) {v : Int} (v0 : 0 ≤ v) (vn : v < g.Config.N) : trl g.Config.N (pf g 0) v = [v] := by
  have hf : fo g.Edges 0 = [] := List.eq_nil_iff_forall_not_mem.2 fun e he => by have := mem_fo_iff.1 he; omega
  have hp : pf g 0 = id := by unfold pf; rw [hf]; rfl
  obtain ⟨k, rfl⟩ : ∃ k : Nat, v = k := ⟨v.toNat, by omega⟩
  rw [hp]
  exact trF_id (n := g.Config.N.toNat) (v := k) (by omega) k 0 (by omega)
theorem SearchTrees_L2_eq (rec1 : Int → Int → List GHash → GGraph → List Int → List Int → Int → Int → Option (Bool)) (t v : Int) (o : List GHash) (g : GGraph) {b : List Int} (hb : b.length < 1000000000) (w : Int) (a : List Int) (A : Int) (i : Nat) (hi : i < 1000000000) : ∀ (m j : Nat) (was : Bool), b.length < j + m → j ≤ b.length → (was = true ∨ w ∈ b.drop j) →
    SearchTrees_L2 rec1 m t v o g b w was a A (i : Int) b (b.length : Int) (j : Int) = rec1 t v o g b a A ((i + 1 : Nat) : Int)
  | 0, j, _, _, _, _ => by omega
  | m + 1, j, was, hm, hj, hy => by
    show SearchTrees_B2 rec1 (SearchTrees_L2 rec1 m) _ _ _ _ _ _ _ _ _ _ _ _ _ = _
    unfold SearchTrees_B2
    by_cases c : j < b.length
    · rw [bt (lt_t c), idx_get c, some_bind', wr1 j (by omega)]
      refine SearchTrees_L2_eq rec1 t v o g hb w a A i hi m (j + 1) _ (by omega) c ?_
      rcases hy with q | q
      · exact .inl (by rw [q]; rfl)
      · rw [drop_cons c, List.mem_cons] at q
        rcases q with q | q
        · left; rw [← q]; simp
        · exact .inr q
    · have hw : was = true := hy.resolve_right fun q => by rw [List.drop_eq_nil_of_le (by omega)] at q; cases q
      rw [bf (lt_f c), hw, bf (by rfl), wr1 i (by omega)]
theorem SearchTrees_L1_eq (t v : Int) (o : List GHash) (g : GGraph) {a b : List Int} (ha : a.length < 1000000000) (hb : b.length < 1000000000) (hs : ∀ x, x ∈ a → x ∈ b) (ho : g.Hashes.length ≤ o.length) (hH : g.Hashes.length < 1000000000) : ∀ (m i : Nat), a.length < i + m → i ≤ a.length →
    SearchTrees_L1 m t v o g b a (a.length : Int) (i : Int) = SearchTrees_L3 FUEL t v g ⟨g.Config, o.take g.Hashes.length, g.Edges⟩ (((o.take g.Hashes.length).length : Nat) : Int) 0
  | 0, i, _, _ => by omega
  | m + 1, i, hm, hi => by
    have hFU := FU
    show SearchTrees_B1 (SearchTrees_L1 m) _ _ _ _ _ _ _ _ = _
    unfold SearchTrees_B1
    by_cases c : i < a.length
    · have := SearchTrees_L2_eq (SearchTrees_L1 m) t v o g hb a[i] a (a.length : Int) i (by omega) FUEL 0 false (by omega) (Nat.zero_le _) (.inr (hs _ (List.getElem_mem c)))
      rw [show ((0 : Nat) : Int) = (0 : Int) from rfl] at this
      rw [bt (lt_t c), idx_get c, some_bind', this]
      exact SearchTrees_L1_eq t v o g ha hb hs ho hH m (i + 1) (by omega) c
    · rw [bf (lt_f c), slc_to rfl ho, some_bind', app_ok (by simp; omega), some_bind', List.nil_append]
def nx (g : GGraph) (t : Int) (o : List GHash) (i : Nat) : GHash := mdS (if Int.tdiv (i : Int) g.Config.R = t then g.Hashes.getD i ⟨0, 0⟩ else o.getD i ⟨0, 0⟩)
theorem SearchTrees_J2_eq (rec3 : Int → Int → GGraph → GGraph → Int → Int → Option (Bool)) (t v : Int) (g : GGraph) (c : GConfig) (E : List GEdge) {l r : List GHash} {i : Nat} (hl : l.length = i) (hi : i < 1000000000) (y : GHash) (T : Int) :
    SearchTrees_J2 rec3 t v g ⟨c, l ++ y :: r, E⟩ (i : Int) T (i : Int) = rec3 t v g ⟨c, l ++ mdS y :: r, E⟩ T ((i + 1 : Nat) : Int) := by
  have at' : ∀ y : GHash, idx (l ++ y :: r) (i : Int) = some y := fun y => by
    rw [idx_nat, List.getElem?_append_right (by omega), hl, Nat.sub_self]; rfl
  have st : ∀ y z : GHash, stt (l ++ y :: r) (i : Int) z = some (l ++ z :: r) := fun y z => by
    rw [stt_nat (by simp; omega), List.set_append, if_neg (by omega), hl, Nat.sub_self]; rfl
  unfold SearchTrees_J2 SearchTrees_J1
  simp only []
  rw [at', some_bind', some_bind', some_bind', st, some_bind', at', some_bind', st, some_bind', wr1 i (by omega)]
  rfl
theorem SearchTrees_L3_eq {g : GGraph} (h : GOK g) (hE : g.Edges.length < 1000000000) {t v : Int} (F : Bool) {o : List GHash} (ho : o.length = g.Hashes.length) (hH : g.Hashes.length < 1000000000)
    (hF : ∀ rec3, SearchTrees_B3 rec3 t v g ⟨g.Config, (List.range o.length).map (nx g t o), g.Edges⟩ (o.length : Int) (o.length : Int) = some F) : ∀ (m i : Nat), o.length < i + m → i ≤ o.length →
    SearchTrees_L3 m t v g ⟨g.Config, (List.range i).map (nx g t o) ++ o.drop i, g.Edges⟩ (o.length : Int) (i : Int) = some F
  | 0, i, _, _ => by omega
  | m + 1, i, hm, hi => by
    have r1 := h.r1
    have r2 := h.r2
    by_cases c : i < o.length
    · show SearchTrees_B3 (SearchTrees_L3 m) _ _ _ _ _ _ = _
      unfold SearchTrees_B3
      have c' : i < g.Hashes.length := by omega
      have hlen : ((List.range i).map (nx g t o)).length = i := by simp
      have hw : IntKind.i64.wrap (Int.tdiv (i : Int) g.Config.R) = Int.tdiv (i : Int) g.Config.R := by
        have h1 : 0 ≤ Int.tdiv (i : Int) g.Config.R := Int.tdiv_nonneg (by omega) (by omega)
        have h2 : Int.tdiv (i : Int) g.Config.R ≤ i := Int.tdiv_le_self _ (by omega)
        exact wr0 (by omega) (by omega)
      have ih := SearchTrees_L3_eq h hE F ho hH hF m (i + 1) (by omega) c
      rw [List.range_succ, List.map_append, List.append_assoc] at ih
      have at' : ∀ y : GHash, idx ((List.range i).map (nx g t o) ++ y :: o.drop (i + 1)) (i : Int) = some y := fun y => by
        rw [idx_nat, List.getElem?_append_right (by omega), hlen, Nat.sub_self]; rfl
      have st : ∀ y z : GHash, stt ((List.range i).map (nx g t o) ++ y :: o.drop (i + 1)) (i : Int) z = some ((List.range i).map (nx g t o) ++ z :: o.drop (i + 1)) := fun y z => by
        rw [stt_nat (by simp), List.set_append, if_neg (by omega), hlen, Nat.sub_self]; rfl
      rw [bt (lt_t c), ck (bne_iff_ne.2 (by omega)), some_bind', hw, drop_cons c]
      simp only []
      by_cases q : Int.tdiv (i : Int) g.Config.R = t
      · have e : nx g t o i = mdS g.Hashes[i] := by unfold nx; rw [if_pos q]; simp [List.getD, List.getElem?_eq_getElem c']
        rw [bt (by simp [q]), idx_get c', some_bind', at', some_bind', st, some_bind', SearchTrees_J2_eq _ t v g g.Config g.Edges hlen (by omega), ← e]
        exact ih
      · have e : nx g t o i = mdS o[i] := by unfold nx; rw [if_neg q]; simp [List.getD, List.getElem?_eq_getElem c]
        rw [bf (beq_false_of_ne q), SearchTrees_J2_eq _ t v g g.Config g.Edges hlen (by omega), ← e]
        exact ih
    · have e : i = o.length := by omega
      subst e
      rw [List.drop_eq_nil_of_le (by omega), List.append_nil]
      exact hF _
theorem SearchTrees_p (g : GGraph) (hw : HW g) (t v : Int) (other : List GHash) (hwo : ∀ x, x ∈ other → HOK x) : SearchTrees_m g t v other = some true := by
  have hFU := FU
  unfold SearchTrees_m
  obtain ⟨b, hb, hs⟩ := ref14Small_eq g
  have aw : law14Awake_m = some true := by decide +kernel
  rw [hb, some_bind', aw]
  cases b with
  | false => rfl
  | true =>
    obtain ⟨s1, s2, s3, s4, s5⟩ := hs rfl
    have hE : g.Edges.length < 1000000000 := by omega
    have hH : g.Hashes.length < 1000000000 := by omega
    rw [searchRight_eq hE hH]
    cases hg : grB g with
    | false => rfl
    | true =>
      rw [show ((!true) == false) = true from rfl, gt' rfl, some_bind']
      by_cases c : (0 ≤ t ∧ t < g.Config.L) ∧ (0 ≤ v ∧ v < g.Config.N) ∧ g.Hashes.length ≤ other.length
      · obtain ⟨⟨t0, tL⟩, ⟨v0, vn⟩, ho⟩ := c
        have h := gok hg
        have n2 := h.n2
        have r1 := h.r1
        have r2 := h.r2
        have l2 := h.l2
        have wt : IntKind.i64.wrap (t + 1) = t + 1 := wr0 (by omega) (by omega)
        have hla := trl_len n2 (pf g t) v
        have hlb := trl_len n2 (pf g (t + 1)) v
        rw [bf (by simp; omega), searchTree_eq hE hH, some_bind', if_pos ⟨hg, t0, by omega, v0, vn⟩, wt, searchTree_eq hE hH, some_bind', if_pos ⟨hg, by omega, by omega, v0, vn⟩]
        have e1 := SearchTrees_L1_eq t v other g (a := trl g.Config.N (pf g t) v) (b := trl g.Config.N (pf g (t + 1)) v) (by omega) (by omega) (fun x hx => by
          obtain ⟨a, b, c⟩ := mem_trl.1 hx
          refine mem_trl.2 ⟨a, b, ?_⟩
          rw [pf_iff] at c ⊢
          exact ctMono c (by omega)) ho hH FUEL 0 (by omega) (Nat.zero_le _)
        rw [show ((0 : Nat) : Int) = (0 : Int) from rfl] at e1
        rw [e1]
        generalize hoe : other.take g.Hashes.length = o
        have hol : o.length = g.Hashes.length := by rw [← hoe, List.length_take]; omega
        have how : ∀ x, x ∈ o → HOK x := fun x hx => hwo x (List.mem_of_mem_take (by rw [hoe]; exact hx))
        have hgd : ∀ {l : List GHash} {i : Nat} (hi : i < l.length), l.getD i ⟨0, 0⟩ = l[i] := fun hi => by simp [List.getD, List.getElem?_eq_getElem hi]
        have hnx : ∀ i, i < o.length → HOK (nx g t o i) ∧ (nx g t o i).A < 2305843009213693951 ∧ (nx g t o i).B < 2305843009213693951 := fun i hi => by
          unfold nx
          refine mdS_ok ?_
          split
          · rw [hgd (by omega)]; exact hw _ (List.getElem_mem _)
          · rw [hgd hi]; exact how _ (List.getElem_mem _)
        let o' := (List.range o.length).map (nx g t o)
        have hlo : o'.length = g.Hashes.length := by simp [o', hol]
        have hmo : ∀ x, x ∈ o' → HOK x ∧ x.A < 2305843009213693951 ∧ x.B < 2305843009213693951 := fun x hx => by
          obtain ⟨i, hi, rfl⟩ := List.mem_map.1 hx
          exact hnx i (List.mem_range.1 hi)
        have hg2 : grB ⟨g.Config, o', g.Edges⟩ = true := by
          have hs2 : hsB o' = true := by
            unfold hsB
            rw [List.all_eq_true]
            intro x hx
            have := hmo x hx
            simp [this.2.1, this.2.2]
          unfold grB at hg ⊢
          simp only [Bool.and_eq_true] at hg ⊢
          refine ⟨?_, hs2, hg.2.2⟩
          have := hg.1
          unfold cfB at this ⊢
          rw [hlo]; exact this
        have hhsh : hsh ⟨g.Config, o', g.Edges⟩ t = hsh g t := by
          show (o'.drop (t * g.Config.R).toNat).take g.Config.R.toNat = (g.Hashes.drop (t * g.Config.R).toNat).take g.Config.R.toNat
          have t0' : 0 ≤ t * g.Config.R := Int.mul_nonneg t0 (by omega)
          have hlen : (g.Hashes.length : Int) = g.Config.L * g.Config.R := h.hl
          have ht : t * g.Config.R + g.Config.R ≤ g.Hashes.length := by
            rw [hlen]
            have : (t + 1) * g.Config.R ≤ g.Config.L * g.Config.R := Int.mul_le_mul_of_nonneg_right (by omega) (by omega)
            rw [Int.add_mul, Int.one_mul] at this; exact this
          refine List.ext_getElem? fun i => ?_
          rw [List.getElem?_take, List.getElem?_take]
          split
          · rename_i hi
            have hk : (t * g.Config.R).toNat + i < g.Hashes.length := by omega
            have hm := List.getElem_mem hk
            have hd : Int.tdiv (((t * g.Config.R).toNat + i : Nat) : Int) g.Config.R = t := by
              rw [Int.tdiv_eq_ediv_of_nonneg (by omega)]
              have e : (((t * g.Config.R).toNat + i : Nat) : Int) = (i : Int) + t * g.Config.R := by omega
              rw [e, Int.add_mul_ediv_right _ _ (by omega), Int.ediv_eq_zero_of_lt (by omega) (by omega), Int.zero_add]
            rw [List.getElem?_drop, List.getElem?_drop, List.getElem?_eq_getElem hk]
            show ((List.range o.length).map (nx g t o))[(t * g.Config.R).toNat + i]? = _
            rw [List.getElem?_map, List.getElem?_range (by omega)]
            show some (nx g t o ((t * g.Config.R).toNat + i)) = _
            unfold nx
            have hs3 : hsB g.Hashes = true := h.hs
            unfold hsB at hs3
            rw [List.all_eq_true] at hs3
            have := hs3 _ hm
            simp only [Bool.and_eq_true, decide_eq_true_eq] at this
            rw [if_pos hd, hgd hk, mdS_id (hw _ hm) this.1 this.2]
          · rfl
        have hwds : wds ⟨g.Config, o', g.Edges⟩ t v = wds g t v := by unfold wds; rw [hhsh]; rfl
        have hwl : (ns (wds g t v)).length < 1000000000 := by
          have h1 := hsh_len h t0 tL
          obtain ⟨l1, l2, l3, l4⟩ := levels_eq h.n1 h.n2
          unfold wds
          rw [ns_len, wordsN_len, h1]
          have : g.Config.R.toNat * lvl g.Config.N ≤ 8 * 61 := Nat.mul_le_mul (by omega) (by omega)
          omega
        have e3 := SearchTrees_L3_eq (t := t) (v := v) h hE true (o := o) hol hH (fun rec3 => by
          unfold SearchTrees_B3
          have hw2 : HW ⟨g.Config, o', g.Edges⟩ := fun x hx => (hmo x hx).1
          have e4 := searchWords_eq (g := ⟨g.Config, o', g.Edges⟩) hE (by rw [hlo]; exact hH) hw2 t v
          rw [bf (by simp), searchTree_eq hE hH, some_bind', if_pos ⟨hg, by omega, by omega, v0, vn⟩, tree_0 g v0 vn, ref06Same_eq _ _ (by simp), some_bind', decide_eq_true rfl, searchWords_eq hE hH hw, gt' (by rfl), some_bind', if_pos ⟨hg, t0, tL, v0, vn⟩, e4, gt' (by rfl), some_bind', if_pos ⟨hg2, t0, tL, v0, vn⟩, hwds, ref05Same_eq _ _ hwl, gt' (by rfl), some_bind', decide_eq_true rfl, aw]
          rfl) FUEL 0 (by omega) (Nat.zero_le _)
        exact e3
      · have hc : (((((((!true) || (!true)) || (decide (t < 0))) || (decide (g.Config.L ≤ t))) || (decide (v < 0))) || (decide (g.Config.N ≤ v))) || (decide ((other.length : Int) < (g.Hashes.length : Int)))) = true := by
          simp only [Bool.or_eq_true, decide_eq_true_eq]
          omega
        rw [bt hc]; rfl
theorem SearchTrees_w (g : GGraph) (t v : Int) (other : List GHash) {P1 P2 P3 A B P : Prop} (w : WG g P1 P2 P3) (_ : A) (_ : B) (w' : (∀ y, y ∈ other → ((Lit.int .u64 y.A).wf = true) ∧ ((Lit.int .u64 y.B).wf = true)) ∧ P) : SearchTrees_m g t v other = some true := SearchTrees_p g w.hw t v other fun x hx => ⟨wfu (w'.1 x hx).1, wfu (w'.1 x hx).2⟩
end Go.Proofs.Ytibnmlbjahcjmaa
