/- Facts that the statement's proof is made of. No condition. -/
import Derived.Test.YtibnmlbjahcjmaaQsSeaL
set_option linter.unusedVariables false
set_option linter.unusedSimpArgs false
set_option maxRecDepth 20000
set_option maxHeartbeats 1000000
namespace Go.Proofs.Ytibnmlbjahcjmaa
open Go Go.AM Go.Pl Go.Pt
theorem xorS_snoc {α : Type} (f : α → Nat) (l : List α) (a : α) : xorS f (l ++ [a]) = xorS f l ^^^ f a := by rw [xorS_app]; simp [xorS]
theorem both_L {a b : List Nat} (hab : a.length = b.length) (hl : a.length < 1000000000) (ha : ∀ x, x ∈ a → x < 18446744073709551616) (hb : ∀ x, x ∈ b → x < 18446744073709551616) : ∀ (m i : Nat), a.length < i + m → i ≤ a.length →
    ref05Both_L1 m (ns a) (ns b) (ns ((List.zipWith (fun x y => x ^^^ y) a b).take i)) (i : Int) = some (ns (List.zipWith (fun x y => x ^^^ y) a b))
  | 0, i, _, _ => by omega
  | m + 1, i, hm, hi => by
    show ref05Both_B1 (ref05Both_L1 m) _ _ _ _ = _
    unfold ref05Both_B1
    rw [ns_len]
    have hz : (List.zipWith (fun x y => x ^^^ y) a b).length = a.length := by rw [List.length_zipWith]; omega
    by_cases c : i < a.length
    · have c' : i < b.length := by omega
      have ih := both_L hab hl ha hb m (i + 1) (by omega) c
      rw [take_snoc (show i < (List.zipWith (fun x y => x ^^^ y) a b).length by omega), List.getElem_zipWith] at ih
      rw [bt (lt_t c), idx_ns c, some_bind', idx_ns c', some_bind', bxorN _ _ (ha _ (List.getElem_mem c)) (hb _ (List.getElem_mem c')), app_ok (by rw [ns_len, List.length_take]; simp; omega), some_bind', wr1 i (by omega), ← ih]
      simp only [ns, List.map_append, List.map_cons, List.map_nil]
    · rw [bf (lt_f c), List.take_of_length_le (by omega)]
theorem both_eq {a b : List Nat} (hab : a.length = b.length) (hl : a.length < 1000000000) (ha : ∀ x, x ∈ a → x < 18446744073709551616) (hb : ∀ x, x ∈ b → x < 18446744073709551616) : ref05Both_m (ns a) (ns b) = some (ns (List.zipWith (fun x y => x ^^^ y) a b)) := by
  have hFU := FU
  have := both_L hab hl ha hb FUEL 0 (by omega) (Nat.zero_le _)
  exact this
def acc (g : GGraph) (t : Int) (vs : List Nat) : List Nat := (List.range ((hsh g t).length * lvl g.Config.N)).map fun k => xorS (fun v : Nat => wordN ((hsh g t).getD (k / lvl g.Config.N) ⟨0, 0⟩) (k % lvl g.Config.N) ((cutE (pf g t) (v : Int) g.Edges).map nmE)) vs
theorem acc_len (g : GGraph) (t : Int) (vs : List Nat) : (acc g t vs).length = (hsh g t).length * lvl g.Config.N := by simp [acc]
theorem acc_lt {g : GGraph} (h : GOK g) (t : Int) : ∀ vs : List Nat, ∀ x, x ∈ acc g t vs → x < 18446744073709551616 := fun vs x hx => by
  unfold acc at hx
  obtain ⟨k, _, rfl⟩ := List.mem_map.1 hx
  clear hx
  induction vs with
  | nil => exact (by decide : (0 : Nat) < 18446744073709551616)
  | cons v vs ih => exact Nat.xor_lt_two_pow (n := 64) (wordN_lt _ (cut_names_lt h)) ih
theorem acc_snoc (g : GGraph) (t : Int) (vs : List Nat) (v : Nat) : acc g t (vs ++ [v]) = List.zipWith (fun x y => x ^^^ y) (acc g t vs) (wds g t (v : Int)) := by
  unfold acc wds wordsN
  rw [List.zipWith_map, List.zipWith_self]
  apply List.map_congr_left
  intro k _
  rw [xorS_snoc]
theorem acc_zero (g : GGraph) (t : Int) : ns (acc g t []) = List.replicate ((hsh g t).length * lvl g.Config.N) 0 := by
  unfold acc ns
  apply List.ext_getElem?
  intro k
  by_cases c : k < (hsh g t).length * lvl g.Config.N
  · rw [List.getElem?_map, List.getElem?_map, List.getElem?_range c, List.getElem?_replicate, if_pos c]; rfl
  · rw [List.getElem?_eq_none (by simp; omega), List.getElem?_eq_none (by simp; omega)]
def lst (g : GGraph) (t : Int) (i : Nat) : List Nat := (List.range i).filter fun v : Nat => decide (pf g t (v : Int) = v)
theorem lst_step (g : GGraph) (t : Int) (i : Nat) : lst g t (i + 1) = lst g t i ++ if pf g t (i : Int) = i then [i] else [] := by
  unfold lst
  rw [List.range_succ, List.filter_append, List.filter_cons]
  by_cases c : pf g t (i : Int) = i
  · rw [if_pos (by simp [c]), if_pos c]; rfl
  · rw [if_neg (by simp [c]), if_neg c]; rfl
theorem acc_all {g : GGraph} (h : GOK g) {t : Int} (ht : t ≤ g.Config.L) : ∀ x, x ∈ acc g t (lst g t g.Config.N.toNat) → x = 0 := by
  have n1 := h.n1
  intro x hx
  unfold acc at hx
  obtain ⟨k, _, rfl⟩ := List.mem_map.1 hx
  have key := words_cancel (p := pf g t) (N := g.Config.N.toNat) (partf_idem _) (l := en g.Edges) (fun q hq => by
    obtain ⟨e, he, rfl⟩ := mem_en.1 hq
    have r := h.rg e he
    have a := pf_rg (fo_Rg h.rg t) r.1 r.2.1
    have b := pf_rg (fo_Rg h.rg t) r.2.2.1 r.2.2.2
    exact ⟨a.1, by have := a.2; unfold pf; show partf (en (fo g.Edges t)) e.U < _; omega, b.1, by have := b.2; unfold pf; show partf (en (fo g.Edges t)) e.V < _; omega⟩) ((hsh g t).getD (k / lvl g.Config.N) ⟨0, 0⟩) (k % lvl g.Config.N)
  unfold lst
  rw [← key]
  refine xorS_congr fun v _ => ?_
  congr 1
  rw [← cutE_en]
  unfold en
  rw [List.map_map]; rfl
theorem trl_head {n : Int} {p : Int → Int} (hp : ∀ x, p x ≤ x) (hid : ∀ x, p (p x) = p x) (hr : ∀ x, 0 ≤ x → 0 ≤ p x) {v : Int} (v0 : 0 ≤ v) (vn : v < n) : ∃ r, trl n p v = p v :: r := by
  have key : ∀ (k i : Nat), (p v).toNat = i + k → (p v).toNat < n.toNat → ∃ r, trF n.toNat i p (p v) = p v :: r := by
    intro k
    induction k with
    | zero =>
      intro i h1 h2
      have e : (i : Int) = p v := by have := hr v v0; omega
      rw [trF_step (by omega), if_pos (by rw [e, hid])]
      exact ⟨_, by rw [e]; rfl⟩
    | succ k ih =>
      intro i h1 h2
      have hne : ¬ p (i : Int) = p v := fun q => by have := hp (i : Int); have := hr v v0; omega
      rw [trF_step (by omega), if_neg hne]
      exact ih (i + 1) (by omega) h2
  have h1 := hp v
  have h2 := hr v v0
  exact key (p v).toNat 0 (by omega) (by omega)
theorem SW_L2 {g : GGraph} (w : List Nat) (hw : ∀ x, x ∈ w → x = 0) (hpos : 0 < w.length) (hl : w.length < 1000000000) : ∀ (m i : Nat), w.length < i + m → i ≤ w.length → SearchWords_L2 m (ns w) (ns w) ((ns w).length : Int) (i : Int) = some true
  | 0, i, _, _ => by omega
  | m + 1, i, hm, hi => by
    show SearchWords_B2 (SearchWords_L2 m) _ _ _ _ = _
    unfold SearchWords_B2
    rw [ns_len]
    by_cases c : i < w.length
    · have ih := SW_L2 (g := g) w hw hpos hl m (i + 1) (by omega) c
      rw [ns_len] at ih
      rw [bt (lt_t c), idx_ns c, some_bind', hw _ (List.getElem_mem c), bf (by rfl), wr1 i (by omega), ih]
    · have e : decide (0 < (w.length : Int)) = true := by simp; omega
      rw [bf (lt_f c), law14Awake_eq, e]; rfl
theorem SW_L1 {g : GGraph} (hE : g.Edges.length < 1000000000) (hH : g.Hashes.length < 1000000000) (hw : HW g) (hg : grB g = true) {t : Int} (h0 : 0 ≤ t) (ht : t < g.Config.L) : ∀ (m i : Nat), g.Config.N.toNat < i + m → i ≤ g.Config.N.toNat → ∀ all, (i = 0 → all = []) → (0 < i → all = ns (acc g t (lst g t i))) → SearchWords_L1 m t g all g.Config.N (i : Int) = some true
  | 0, i, _, _, _, _, _ => by omega
  | m + 1, i, hm, hi, all, a0, a1 => by
    have hFU := FU
    have h := gok hg
    have n1 := h.n1
    have n2 := h.n2
    obtain ⟨_, _, l3, l4⟩ := levels_eq h.n1 h.n2
    have r2 := h.r2
    have r1 := h.r1
    have hlen := hsh_len h h0 ht
    have hRV : (hsh g t).length * lvl g.Config.N ≤ 8 * 22 := Nat.mul_le_mul (by omega) l4
    have hpos : 0 < (hsh g t).length * lvl g.Config.N := Nat.mul_pos (by omega) (by omega)
    obtain ⟨M, hM⟩ : ∃ M, M = (hsh g t).length * lvl g.Config.N := ⟨_, rfl⟩
    have hpr : ∀ x : Int, 0 ≤ x → 0 ≤ pf g t x := fun x hx => by
      by_cases q : x < g.Config.N
      · exact (pf_rg (fo_Rg h.rg t) hx q).1
      · have : pf g t x = x := by
          have hc : GT g t x (pf g t x) := partf_conn _ _
          refine Classical.byContradiction fun ne => ?_
          have hs : Conn (en (fo g.Edges t)) (pf g t x) x := hc.symm
          have hle : pf g t x ≤ x := partf_le _ _
          have : ∀ {a b : Int}, Conn (en (fo g.Edges t)) a b → a = x → b = x := by
            intro a b hab
            induction hab with
            | refl => exact id
            | fwd e _ _ => intro ha; subst ha; have := (fo_Rg h.rg t).inR' _ e; simp only at this; omega
            | bwd e _ _ => intro ha; subst ha; have := (fo_Rg h.rg t).inR' _ e; simp only at this; omega
          exact ne (this hc rfl)
        omega
    show SearchWords_B1 (SearchWords_L1 m) _ _ _ _ _ = _
    unfold SearchWords_B1
    by_cases c : i < g.Config.N.toNat
    · obtain ⟨r, hr⟩ := trl_head (n := g.Config.N) (p := pf g t) (partf_le _) (partf_idem _) hpr (v := (i : Int)) (by omega) (by omega)
      have hwl : (ns (wds g t (i : Int))).length = (hsh g t).length * lvl g.Config.N := by unfold wds; rw [ns_len, wordsN_len]
      rw [bt (by simp; omega), searchTree_eq hE hH, some_bind', if_pos ⟨hg, h0, by omega, by omega, by omega⟩, hr, bf (by simp <;> omega), show idx (pf g t (i : Int) :: r) 0 = some (pf g t (i : Int)) from rfl, some_bind']
      have p0 : i = 0 → pf g t (i : Int) = i := fun e => by
        have := hpr (i : Int) (by omega)
        have := partf_le (en (fo g.Edges t)) (i : Int)
        unfold pf at *; omega
      unfold SearchWords_J2 SearchWords_J1
      by_cases e : pf g t (i : Int) = i
      · have hst : lst g t (i + 1) = lst g t i ++ [i] := by rw [lst_step, if_pos e]
        have hnx : ns (acc g t (lst g t (i + 1))) = ns (List.zipWith (fun x y => x ^^^ y) (acc g t (lst g t i)) (wds g t (i : Int))) := by rw [hst, acc_snoc]
        have hbo : ref05Both_m (ns (acc g t (lst g t i))) (ns (wds g t (i : Int))) = some (ns (acc g t (lst g t (i + 1)))) := by
          rw [hnx]
          exact both_eq (by rw [acc_len]; unfold wds; rw [wordsN_len]) (by rw [acc_len]; omega) (acc_lt h t _) (wordsN_lt (cut_names_lt h))
        have hne : ∀ vs, (ns (acc g t vs)).isEmpty = false := fun vs => by
          rw [List.isEmpty_eq_false_iff]
          intro q
          have := congrArg List.length q
          rw [ns_len, acc_len] at this; simp only [List.length_nil] at this; omega
        have ih := SW_L1 hE hH hw hg h0 ht m (i + 1) (by omega) c (ns (acc g t (lst g t (i + 1)))) (fun q => by omega) (fun _ => rfl)
        rw [bf (by simp [e]), searchWords_eq hE hH hw, some_bind', if_pos ⟨hg, h0, ht, by omega, by omega⟩]
        by_cases z : i = 0
        · have hz : lst g t i = [] := by rw [z]; rfl
          rw [a0 z, bt (by rfl), hwl, mkc_nat (k := (hsh g t).length * lvl g.Config.N) rfl (Int.le_refl _) (by omega), some_bind', ← acc_zero, ← hz, ck (by rw [hne]; rfl), some_bind', ns_len, acc_len, ← hM, bf (by simp; omega), hbo, some_bind', ck (by rw [hne]; rfl), some_bind', wr1 i (by omega), ih]
        · rw [a1 (by omega), hne, bf rfl, hwl, ns_len, acc_len, ← hM, bf (by simp; omega), hbo, some_bind', ck (by rw [hne]; rfl), some_bind', wr1 i (by omega), ih]
      · have z : i ≠ 0 := fun q => e (p0 q)
        rw [bt (by simp [e]), wr1 i (by omega)]
        refine SW_L1 hE hH hw hg h0 ht m (i + 1) (by omega) c all (fun q => by omega) (fun _ => ?_)
        rw [a1 (by omega), lst_step, if_neg e, List.append_nil]
    · have e : i = g.Config.N.toNat := by omega
      rw [bf (by simp; omega), a1 (by omega), e]
      have := SW_L2 (g := g) (acc g t (lst g t g.Config.N.toNat)) (acc_all h (by omega)) (by rw [acc_len]; omega) (by rw [acc_len]; omega) FUEL 0 (by rw [acc_len]; omega) (Nat.zero_le _)
      exact this
theorem SearchWords_p (g : GGraph) (hw : HW g) (t : Int) : SearchWords_m g t = some true := by
  have hFU := FU
  unfold SearchWords_m
  obtain ⟨b, hb, hs⟩ := ref14Small_eq g
  rw [hb, some_bind', law14Awake_eq]
  cases b with
  | false => rfl
  | true =>
    obtain ⟨s1, s2, s3, s4, s5⟩ := hs rfl
    have hE : g.Edges.length < 1000000000 := by omega
    have hH : g.Hashes.length < 1000000000 := by omega
    rw [searchRight_eq hE hH]
    cases hg : grB g with
    | false => rfl
    | true =>
      rw [show ((!true) == false) = true from rfl, gt' rfl, some_bind']
      by_cases c : 0 ≤ t ∧ t < g.Config.L
      · rw [bf (by simp; omega)]
        have := SW_L1 hE hH hw hg c.1 c.2 FUEL 0 (by omega) (Nat.zero_le _) [] (fun _ => rfl) (fun q => by omega)
        exact this
      · rw [bt (by simp; omega)]; rfl
theorem wfu {n : Int} (h : (Lit.int .u64 n).wf = true) : 0 ≤ n := by
  have h0 : (decide (IntKind.u64.min ≤ n) && decide (n ≤ IntKind.u64.max)) = true := h
  rw [Bool.and_eq_true, decide_eq_true_eq] at h0
  exact h0.1
abbrev WG (g : GGraph) (P1 P2 P3 : Prop) : Prop := P1 ∧ ((∀ y, y ∈ g.Hashes → ((Lit.int .u64 y.A).wf = true) ∧ ((Lit.int .u64 y.B).wf = true)) ∧ P2) ∧ P3
theorem WG.hw {g : GGraph} {P1 P2 P3 : Prop} (w : WG g P1 P2 P3) : HW g := fun x hx => ⟨wfu (w.2.1.1 x hx).1, wfu (w.2.1.1 x hx).2⟩
theorem SearchTells_w (g : GGraph) (t v : Int) {P1 P2 P3 A B : Prop} (w : WG g P1 P2 P3) (_ : A) (_ : B) : SearchTells_m g t v = some true := SearchTells_p g w.hw t v
theorem SearchFinds_w (g : GGraph) (t v : Int) {P1 P2 P3 A B : Prop} (w : WG g P1 P2 P3) (_ : A) (_ : B) : SearchFinds_m g t v = some true := SearchFinds_p g w.hw t v
theorem SearchLevel_w (g : GGraph) (t v : Int) {P1 P2 P3 A B : Prop} (w : WG g P1 P2 P3) (_ : A) (_ : B) : SearchLevel_m g t v = some true := SearchLevel_p g w.hw t v
theorem SearchWords_w (g : GGraph) (t : Int) {P1 P2 P3 A : Prop} (w : WG g P1 P2 P3) (_ : A) : SearchWords_m g t = some true := SearchWords_p g w.hw t
end Go.Proofs.Ytibnmlbjahcjmaa
