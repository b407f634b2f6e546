/- Facts that the statement's proof is made of. No condition. -/
import Derived.Test.YtibnmlbjahcjmaaQuRuP
set_option linter.unusedVariables false
set_option linter.unusedSimpArgs false
set_option maxRecDepth 20000
set_option maxHeartbeats 1000000
namespace Go.Proofs.Ytibnmlbjahcjmaa
open Go Go.AM Go.Pl Go.Pt
theorem pf_nn {g : GGraph} (h : GOK g) (t : Int) (x : Int) (x0 : 0 ≤ x) : 0 ≤ pf g t x := by
  by_cases xn : x < g.Config.N
  · exact (pf_in h t x0 xn).1
  · have : pf g t x = x := by
      have hc : GT g t x (pf g t x) := partf_conn _ _
      refine Classical.byContradiction fun ne => ?_
      have hs : Conn (en (fo g.Edges t)) (pf g t x) x := hc.symm
      have hle : pf g t x ≤ x := partf_le _ _
      have : ∀ {a b : Int}, Conn (en (fo g.Edges t)) a b → a = x → b = x := by
        intro a b hab
        induction hab with
        | refl => exact id
        | fwd e _ _ => intro ha; subst ha; have := (fo_Rg h.rg t).inR' _ e; simp only at this; omega
        | bwd e _ _ => intro ha; subst ha; have := (fo_Rg h.rg t).inR' _ e; simp only at this; omega
      exact ne (this hc rfl)
    omega
theorem trl_hd {g : GGraph} (h : GOK g) (t : Int) {v : Int} (v0 : 0 ≤ v) (vn : v < g.Config.N) : idx (trl g.Config.N (pf g t) v) 0 = some (pf g t v) := by
  obtain ⟨r, hr⟩ := trl_head (n := g.Config.N) (p := pf g t) (fun x => partf_le _ x) (fun x => partf_idem _ x) (pf_nn h t) v0 vn
  rw [hr]; rfl
theorem law16Awake_eq : law16Awake_m = some true := by decide +kernel
theorem ref16Lonely_L2_eq {g : GGraph} (h : GD g) (rec1 : GGraph → List GRaftsmanref16Lone → Int → Option (List GRaftsmanref16Lone)) (t : Nat) (ht : (t : Int) < g.Config.L) : ∀ (m i : Nat) (out : List GRaftsmanref16Lone), g.Config.N.toNat < i + m → i ≤ g.Config.N.toNat → out.length ≤ 1024 * t + i →
    ref16Lonely_L2 rec1 m g out (t : Int) (i : Int) = rec1 g (out ++ (lonV g t i).map mB) ((t : Int) + 1)
  | 0, i, _, _, _, _ => by omega
  | m + 1, i, out, hm, hi, ho => by
    have k := gok h.ok
    have n1 := k.n1
    have n2 := k.n2
    have l2 := k.l2
    have ew : IntKind.i64.wrap ((t : Int) + 1) = (t : Int) + 1 := wr_t (by omega) (by omega)
    show ref16Lonely_B2 rec1 (ref16Lonely_L2 rec1 m) _ _ _ _ = _
    unfold ref16Lonely_B2 ref16Lonely_J1
    by_cases c : i < g.Config.N.toNat
    · have ci : (i : Int) < g.Config.N := by omega
      have i0 : (0 : Int) ≤ (i : Int) := by omega
      have ih := fun out' => ref16Lonely_L2_eq h rec1 t ht m (i + 1) out' (by omega) c
      have hl := trl_len n2 (pf g t) (i : Int)
      rw [bt (by simp; omega), ref14Tree_eq h.e k i0 ci, some_bind', ref14Search_eq h.e k h.hw (by omega) ht i0 ci, some_bind', wr1 i (by omega), ew, ref14Tree_eq h.e k i0 ci, trl_hd k _ i0 ci]
      cases hs : srch g t i with
      | none =>
        have : lonB g t i = false := by unfold lonB; rw [hs]; simp
        rw [lonV_step c, this]
        show (gopt false _ _).bind _ = _
        rw [gf' rfl, some_bind', Bool.false_and, gf' (by rfl), some_bind', gf' (by rfl), some_bind', bf (by rfl), ih _ (by omega)]; rfl
      | some e =>
        show (gopt true _ _).bind _ = _
        rw [gt' rfl, some_bind', Bool.true_and]
        by_cases q : pf g t i = i
        · have z : (pf g t i == (i : Int)) = true := by rw [q]; simp
          rw [z, gt' (by rfl), some_bind', gt' (by rfl), ref06Same_eq _ _ (by omega), some_bind', Bool.true_and]
          by_cases s : (trl g.Config.N (pf g t) i).length = (trl g.Config.N (pf g ((t : Int) + 1)) i).length
          · have : lonB g t i = true := by unfold lonB; rw [hs, q, s]; simp
            rw [decide_eq_true (trl_same.2 s), bt rfl, app_ok (by simp; omega), some_bind', ih _ (by simp; omega), lonV_step c, this]
            simp [mB]
          · have : lonB g t i = false := by unfold lonB; simp [s]
            rw [decide_eq_false (fun y => s (trl_same.1 y)), bf rfl, ih _ (by omega), lonV_step c, this]; rfl
        · have z : (pf g t i == (i : Int)) = false := beq_false_of_ne q
          have : lonB g t i = false := by unfold lonB; rw [z]; rfl
          rw [z, gf' (by rfl), some_bind', gf' (by rfl), some_bind', Bool.false_and, bf rfl, ih _ (by omega), lonV_step c, this]; rfl
    · rw [bf (by simp; omega), lonV_end c, ew]; simp
theorem ref16Lonely_L1_eq {g : GGraph} (h : GD g) : ∀ (m t : Nat) (out : List GRaftsmanref16Lone), g.Config.L.toNat < t + m → t ≤ g.Config.L.toNat → out.length ≤ 1024 * t → ref16Lonely_L1 m g out (t : Int) = some (out ++ (lonT g t).map mB)
  | 0, t, _, _, _, _ => by omega
  | m + 1, t, out, hm, hi, ho => by
    have hFU := FU
    have k := gok h.ok
    have n1 := k.n1
    have n2 := k.n2
    have l2 := k.l2
    show ref16Lonely_B1 (ref16Lonely_L1 m) _ _ _ = _
    unfold ref16Lonely_B1
    by_cases c : t < g.Config.L.toNat
    · have := ref16Lonely_L2_eq h (ref16Lonely_L1 m) t (by omega) FUEL 0 out (by omega) (Nat.zero_le _) (by omega)
      rw [show ((0 : Nat) : Int) = (0 : Int) from rfl] at this
      have hv := lonV_len g t 0
      rw [bt (by simp; omega), this, show (t : Int) + 1 = ((t + 1 : Nat) : Int) by omega, ref16Lonely_L1_eq h m (t + 1) _ (by omega) c (by simp; omega), lonT_step c]
      simp
    · rw [bf (by simp; omega), lonT_end c]; simp
theorem ref16Lonely_eq {g : GGraph} (h : GD g) : ref16Lonely_m g = some ((lonT g 0).map mB) := by
  have hFU := FU
  have k := gok h.ok
  have := k.l2
  have := ref16Lonely_L1_eq h FUEL 0 [] (by omega) (Nat.zero_le _) (by simp)
  exact this
theorem law16Refs_L {l : List (Int × Int)} (hl : l.length < 1000000000) : ∀ (m i : Nat) (out : List GRaftsmanref16Lone), l.length < i + m → i ≤ l.length → out.length ≤ i → law16Refs_L1 m out (l.map mA) ((l.map mA).length : Int) (i : Int) = some (out ++ (l.drop i).map mB)
  | 0, i, _, _, _, _ => by omega
  | m + 1, i, out, hm, hi, ho => by
    show law16Refs_B1 (law16Refs_L1 m) _ _ _ _ = _
    unfold law16Refs_B1
    by_cases c : i < l.length
    · have e : idx (l.map mA) (i : Int) = some (mA l[i]) := by rw [idx_get (by simpa using c), List.getElem_map]
      rw [bt (by rw [List.length_map]; exact lt_t c), e, some_bind', app_ok (by simp; omega), some_bind', wr1 i (by omega), law16Refs_L hl m (i + 1) _ (by omega) c (by simp; omega), drop_cons c, List.map_cons, List.append_assoc]; rfl
    · rw [bf (by rw [List.length_map]; exact lt_f c), List.drop_eq_nil_of_le (by omega)]; simp
theorem law16Refs_eq {l : List (Int × Int)} (hl : l.length < 1000000000) : law16Refs_m (l.map mA) = some (l.map mB) := by
  have hFU := FU
  have := law16Refs_L hl FUEL 0 [] (by omega) (Nat.zero_le _) (by simp)
  exact this
theorem ref16Same_L {l : List GRaftsmanref16Lone} (hl : l.length < 1000000000) : ∀ (m i : Nat), l.length < i + m → i ≤ l.length → ref16Same_L1 m l l (i : Int) = some true
  | 0, i, _, _ => by omega
  | m + 1, i, hm, hi => by
    show ref16Same_B1 (ref16Same_L1 m) _ _ _ = _
    unfold ref16Same_B1
    by_cases c : i < l.length
    · rw [bt (lt_t c), idx_get c, some_bind', some_bind', bf (by simp), wr1 i (by omega)]
      exact ref16Same_L hl m (i + 1) (by omega) c
    · rw [bf (lt_f c)]
theorem ref16Same_eq {l : List GRaftsmanref16Lone} (hl : l.length < 1000000000) : ref16Same_m l l = some true := by
  have hFU := FU
  unfold ref16Same_m
  rw [bf (by simp)]
  exact ref16Same_L hl FUEL 0 (by omega) (Nat.zero_le _)
def clG (g : GGraph) (t : Int) : Nat := cl g.Config.N.toNat (en (fo g.Edges t))
def rcT (g : GGraph) (t : Nat) : List Int := (List.range' t (g.Config.L.toNat + 1 - t)).map fun (k : Nat) => ((clG g k : Nat) : Int)
theorem rcT_step {g : GGraph} {t : Nat} (h : t ≤ g.Config.L.toNat) : rcT g t = ((clG g t : Nat) : Int) :: rcT g (t + 1) := by
  unfold rcT
  rw [show g.Config.L.toNat + 1 - t = (g.Config.L.toNat + 1 - (t + 1)) + 1 by omega, List.range'_succ, List.map_cons]
theorem rcT_end {g : GGraph} {t : Nat} (h : ¬ t ≤ g.Config.L.toNat) : rcT g t = [] := by unfold rcT; rw [show g.Config.L.toNat + 1 - t = 0 by omega]; rfl
theorem rcT_len (g : GGraph) : (rcT g 0).length = g.Config.L.toNat + 1 := by unfold rcT; simp
theorem rcT_idx (g : GGraph) {k : Nat} (h : k ≤ g.Config.L.toNat) : idx (rcT g 0) (k : Int) = some ((clG g k : Nat) : Int) := by
  rw [idx_nat]
  unfold rcT
  rw [List.getElem?_map, List.getElem?_range' (by omega)]
  simp
theorem rulesReached_L {g : GGraph} (h : GD g) : ∀ (m t : Nat) (out : List Int), g.Config.L.toNat + 1 < t + m → t ≤ g.Config.L.toNat + 1 → out.length ≤ t → rulesReached_L1 m g out (g.Config.L + 1) (t : Int) = some (out ++ rcT g t)
  | 0, t, _, _, _, _ => by omega
  | m + 1, t, out, hm, hi, ho => by
    have k := gok h.ok
    have n1 := k.n1
    have l2 := k.l2
    have l1 := k.l1
    show rulesReached_B1 (rulesReached_L1 m) _ _ _ _ = _
    unfold rulesReached_B1
    by_cases c : t ≤ g.Config.L.toNat
    · rw [bt (by simp; omega), rulesTrees_eq h, some_bind', partMany_pt (by omega) k.n2 (fo_Rg k.rg _), some_bind', app_ok (by simp; omega), some_bind', wr1 t (by omega), rulesReached_L h m (t + 1) _ (by omega) (by omega) (by simp; omega), rcT_step c]
      simp [clG]
    · rw [bf (by simp; omega), rcT_end c]; simp
theorem rulesReached_eq {g : GGraph} (hw : HW g) (hE : g.Edges.length < 1000000000) (hH : g.Hashes.length < 1000000000) : rulesReached_m g = some (if grB g then rcT g 0 else []) := by
  have hFU := FU
  unfold rulesReached_m
  rw [searchRight_eq hE hH, some_bind']
  cases hg : grB g with
  | false => rfl
  | true =>
    have h : GD g := ⟨hg, hw, hE, hH⟩
    have k := gok hg
    have := k.l2
    have := k.l1
    rw [bf (c := !true) rfl, wr0 (by omega) (by omega)]
    have := rulesReached_L h FUEL 0 [] (by omega) (Nat.zero_le _) (by simp)
    exact this
theorem ref16Reached_L2_eq {g : GGraph} (h : GD g) (rec1 : GGraph → List Int → Int → Option (List Int)) (t : Nat) (ht : (t : Int) ≤ g.Config.L) (out : List Int) (ho : out.length ≤ t) : ∀ (m i n : Nat), g.Config.N.toNat < i + m → i ≤ g.Config.N.toNat → n ≤ i →
    ref16Reached_L2 rec1 m g out (t : Int) (n : Int) (i : Int) = rec1 g (out ++ [((n + cntF g.Config.N.toNat i (pf g t) : Nat) : Int)]) (IntKind.i64.wrap ((t : Int) + 1))
  | 0, i, _, _, _, _ => by omega
  | m + 1, i, n, hm, hi, hn => by
    have k := gok h.ok
    have n1 := k.n1
    have n2 := k.n2
    have l2 := k.l2
    show ref16Reached_B2 rec1 (ref16Reached_L2 rec1 m) _ _ _ _ _ = _
    unfold ref16Reached_B2 ref16Reached_J1
    by_cases c : i < g.Config.N.toNat
    · have ci : (i : Int) < g.Config.N := by omega
      have i0 : (0 : Int) ≤ (i : Int) := by omega
      rw [bt (by simp; omega), ref14Tree_eq h.e k i0 ci, some_bind', trl_hd k _ i0 ci, some_bind', wr1 i (by omega), wr1 n (by omega), cntF_step c]
      by_cases q : pf g t i = i
      · rw [bt (by simp [q]), ref16Reached_L2_eq h rec1 t ht out ho m (i + 1) (n + 1) (by omega) (by omega) (by omega), if_pos q, show n + 1 + cntF g.Config.N.toNat (i + 1) (pf g t) = n + (1 + cntF g.Config.N.toNat (i + 1) (pf g t)) by omega]
      · rw [bf (beq_false_of_ne q), ref16Reached_L2_eq h rec1 t ht out ho m (i + 1) n (by omega) (by omega) (by omega), if_neg q, show n + cntF g.Config.N.toNat (i + 1) (pf g t) = n + (0 + cntF g.Config.N.toNat (i + 1) (pf g t)) by omega]
    · rw [bf (by simp; omega), app_ok (by simp; omega), some_bind', cntF_end _ c]; rfl
theorem ref16Reached_L {g : GGraph} (h : GD g) : ∀ (m t : Nat) (out : List Int), g.Config.L.toNat + 1 < t + m → t ≤ g.Config.L.toNat + 1 → out.length ≤ t → ref16Reached_L1 m g out (t : Int) = some (out ++ rcT g t)
  | 0, t, _, _, _, _ => by omega
  | m + 1, t, out, hm, hi, ho => by
    have hFU := FU
    have k := gok h.ok
    have n1 := k.n1
    have n2 := k.n2
    have l2 := k.l2
    have l1 := k.l1
    show ref16Reached_B1 (ref16Reached_L1 m) _ _ _ = _
    unfold ref16Reached_B1
    by_cases c : t ≤ g.Config.L.toNat
    · have := ref16Reached_L2_eq h (ref16Reached_L1 m) t (by omega) out ho FUEL 0 0 (by omega) (Nat.zero_le _) (Nat.le_refl _)
      rw [show ((0 : Nat) : Int) = (0 : Int) from rfl, cntF_zero, Nat.zero_add] at this
      rw [bt (by simp; omega), this, wr1 t (by omega), ref16Reached_L h m (t + 1) _ (by omega) (by omega) (by simp; omega), rcT_step c]
      simp [clG, cl, pf]
    · rw [bf (by simp; omega), rcT_end c]; simp
theorem ref16Reached_eq {g : GGraph} (h : GD g) : ref16Reached_m g = some (rcT g 0) := by
  have hFU := FU
  have k := gok h.ok
  have := k.l2
  have := ref16Reached_L h FUEL 0 [] (by omega) (Nat.zero_le _) (by simp)
  exact this
end Go.Proofs.Ytibnmlbjahcjmaa
