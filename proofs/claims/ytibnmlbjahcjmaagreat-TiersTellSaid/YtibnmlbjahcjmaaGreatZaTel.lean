/- Facts that the statement's proof is made of. No condition. -/
import Derived.Test.YtibnmlbjahcjmaaGreatZaTiM
import Derived.Test.YtibnmlbjahcjmaaGreatZaRuS
import Derived.Test.YtibnmlbjahcjmaaGreatZaGC1
set_option linter.unusedVariables false
set_option linter.unusedSimpArgs false
set_option maxRecDepth 20000
set_option maxHeartbeats 1000000
namespace Go.Proofs.YtibnmlbjahcjmaaGreat
open Go Go.AM Go.Pl Go.Pt
theorem without_eq {l : List GEdge} {i : Nat} (hi : i < l.length) (hl : l.length < 1000000000) : ref10Without_m l (i : Int) = some (l.take i ++ l.drop (i + 1)) := by
  unfold ref10Without_m
  rw [slc_to rfl (by omega), some_bind', app_ok (by simp; omega), some_bind', wr1 i (by omega), slc_from rfl (by omega), some_bind', app_ok (by simp; omega), some_bind', List.nil_append]
def sepB (l : List GEdge) (u v : Int) (j : Nat) : Bool := partf (en (l.take j ++ l.drop (j + 1))) u != partf (en (l.take j ++ l.drop (j + 1))) v
theorem sepB_iff {l : List GEdge} {u v : Int} {j : Nat} (h : j < l.length) : sepB l u v j = true ↔ Br (en l) u v j := by
  unfold sepB Br
  rw [bne_iff_ne, Ne, partf_iff, en_rem, ← List.eraseIdx_eq_take_drop_succ, en_len]
  exact ⟨fun q => ⟨h, q⟩, fun q => q.2⟩
def onL (l : List GEdge) (u v : Int) (i : Nat) : List GEdge := ((List.range i).filter (sepB l u v)).filterMap fun j => l[j]?
theorem onL_succ {l : List GEdge} {u v : Int} {i : Nat} (h : i < l.length) : onL l u v (i + 1) = onL l u v i ++ if sepB l u v i then [l[i]] else [] := by
  unfold onL
  rw [List.range_succ, List.filter_append, List.filterMap_append]
  congr 1
  by_cases q : sepB l u v i = true
  · rw [if_pos q, List.filter_cons_of_pos q, List.filter_nil, List.filterMap_cons_some (List.getElem?_eq_getElem h), List.filterMap_nil]
  · rw [if_neg q, List.filter_cons_of_neg q, List.filter_nil, List.filterMap_nil]
theorem onL_sub {l : List GEdge} {u v : Int} : ∀ i, i ≤ l.length → (onL l u v i).Sublist (l.take i)
  | 0, _ => by simp [onL]
  | i + 1, h => by
    rw [onL_succ (by omega), take_snoc (by omega)]
    refine (onL_sub i (by omega)).append ?_
    split
    · exact List.Sublist.refl _
    · exact List.nil_sublist _
theorem onL_len {l : List GEdge} {u v : Int} {i : Nat} (h : i ≤ l.length) : (onL l u v i).length ≤ i := by
  have := (onL_sub (u := u) (v := v) i h).length_le
  rw [List.length_take] at this; omega
theorem mem_onL {l : List GEdge} {u v : Int} {e : GEdge} : e ∈ onL l u v l.length ↔ ∃ j : Nat, l[j]? = some e ∧ Br (en l) u v j := by
  unfold onL
  rw [List.mem_filterMap]
  constructor
  · rintro ⟨j, h1, h2⟩
    have hj := (List.getElem?_eq_some_iff.1 h2).1
    exact ⟨j, h2, (sepB_iff hj).1 (List.mem_filter.1 h1).2⟩
  · rintro ⟨j, h1, h2⟩
    have hj := (List.getElem?_eq_some_iff.1 h1).1
    exact ⟨j, List.mem_filter.2 ⟨List.mem_range.2 hj, (sepB_iff hj).2 h2⟩, h1⟩
section
variable {n : Int} (h0 : 0 ≤ n) (hn : n ≤ 1024) {l : List GEdge} (hl : l.length < 1000000000) (hr : Rg n l) (hne : ∀ e, e ∈ l → e.U ≠ e.V) (nd : (en l).Nodup) (hf : Forest n.toNat (en l)) {v : Int} (v0 : 0 ≤ v) (vn : v < n)
include h0 hn hl hr
omit hr in
theorem rpath_L1 (hr : Rg n l) {u : Int} (u0 : 0 ≤ u) (un : u < n) (v0 : 0 ≤ v) (vn : v < n) : ∀ (m i : Nat), l.length < i + m → i ≤ l.length → ref10Path_L1 m n l u v (onL l u v i) (i : Int) = ref10Path_L2 FUEL u v (onL l u v l.length) []
  | 0, i, hm, hi => by omega
  | m + 1, i, hm, hi => by
    show ref10Path_B1 (ref10Path_L1 m) _ _ _ _ _ _ = _
    unfold ref10Path_B1 ref10Path_J1
    by_cases c : i < l.length
    · have hr' : Rg n (l.take i ++ l.drop (i + 1)) := hr.mono fun e he => by
        rcases List.mem_append.1 he with q | q
        · exact List.mem_of_mem_take q
        · exact List.mem_of_mem_drop q
      have hol := onL_len (u := u) (v := v) hi
      have ih := rpath_L1 hr u0 un v0 vn m (i + 1) (by omega) c
      rw [onL_succ c] at ih
      rw [bt (lt_t c), without_eq c hl, some_bind', ref09Of_pt h0 hn (by simp; omega) hr', some_bind', pt_idx u0 un, some_bind', pt_idx v0 vn, some_bind', wr1 i (by omega), show (partf (en (l.take i ++ l.drop (i + 1))) u != partf (en (l.take i ++ l.drop (i + 1))) v) = sepB l u v i from rfl]
      by_cases q : sepB l u v i = true
      · rw [if_pos q] at ih
        rw [bt q, idx_get c, some_bind', app_ok (by simp; omega), some_bind']
        exact ih
      · rw [if_neg q, List.append_nil] at ih
        rw [bf (by simpa using q)]
        exact ih
    · have e : i = l.length := by omega
      subst e
      rw [bf (lt_f c)]
omit h0 hl in
theorem rpath_L3 (rec2 : Int → Int → List GEdge → List GEdge → Option ((List GEdge) × Bool)) {x : Int} {on out : List GEdge} (hon : ∀ e, e ∈ on → e ∈ l) (ho : out.length + on.length < 1000000000) (x0 : 0 ≤ x) (xn : x < n) : ∀ (m k : Nat), on.length < k + m → k ≤ on.length →
    (∃ j, k ≤ j ∧ ∃ e, on[j]? = some e ∧ (e.U = x ∨ e.V = x)) → ∃ j e, on[j]? = some e ∧ (e.U = x ∨ e.V = x) ∧ ref10Path_L3 rec2 m x v on out (k : Int) = rec2 (e.U + e.V - x) v (on.take j ++ on.drop (j + 1)) (out ++ [e])
  | 0, k, hm, hk, _ => by omega
  | m + 1, k, hm, hk, hex => by
    obtain ⟨j, hj, e, he, ht⟩ := hex
    have hjl := (List.getElem?_eq_some_iff.1 he).1
    have c : k < on.length := by omega
    have hb := hr on[k] (hon _ (List.getElem_mem c))
    have hit : (on[k].U = x ∨ on[k].V = x) → ref10Path_B3 rec2 (ref10Path_L3 rec2 m) x v on out (k : Int) = rec2 (on[k].U + on[k].V - x) v (on.take k ++ on.drop (k + 1)) (out ++ [on[k]]) := fun q => by
      have w1 : IntKind.i64.wrap (on[k].U + on[k].V) = on[k].U + on[k].V := wr0 (by omega) (by omega)
      have w2 : IntKind.i64.wrap (on[k].U + on[k].V - x) = on[k].U + on[k].V - x := wr0 (by omega) (by omega)
      unfold ref10Path_B3
      rw [bt (lt_t c), idx_get c, some_bind', gopt_some, some_bind']
      rw [bt (by
        by_cases z : on[k].U = x
        · simp [z]
        · have := q.resolve_left z
          have e1 : (on[k].U == x) = false := by simpa using z
          rw [e1]; simp [this])]
      rw [some_bind', app_ok (by simp; omega), some_bind', some_bind', some_bind', without_eq c (by omega), some_bind', w1, w2]
    show ∃ j e, _ ∧ _ ∧ ref10Path_B3 rec2 (ref10Path_L3 rec2 m) x v on out (k : Int) = _
    by_cases q : on[k].U = x ∨ on[k].V = x
    · exact ⟨k, on[k], List.getElem?_eq_getElem c, q, hit q⟩
    · have hjk : k + 1 ≤ j := by
        rcases Nat.lt_or_ge k j with z | z
        · exact z
        · have : j = k := by omega
          subst this
          rw [List.getElem?_eq_getElem c] at he
          cases he
          exact absurd ht q
      obtain ⟨j', e', a, b, d⟩ := rpath_L3 rec2 hon ho x0 xn m (k + 1) (by omega) c ⟨j, hjk, e, he, ht⟩
      refine ⟨j', e', a, b, ?_⟩
      have n1 : ¬ on[k].U = x := fun z => q (.inl z)
      have n2 : ¬ on[k].V = x := fun z => q (.inr z)
      unfold ref10Path_B3
      rw [bt (lt_t c), idx_get c, some_bind', gopt_some, some_bind', bf (by
        have e1 : (on[k].U == x) = false := by simpa using n1
        rw [e1]; simp [n2]), wr1 k (by omega)]
      exact d
include hne nd hf
omit hl hne in
theorem rpath_L2 (v0 : 0 ≤ v) (vn : v < n) : ∀ (m : Nat) (x : Int) (on out : List GEdge), 0 ≤ x → x < n → Conn (en l) x v → (∀ e, e ∈ on ↔ ∃ j : Nat, l[j]? = some e ∧ Br (en l) x v j) → on.Nodup → on.length < m → out.length + on.length < 1000000000 →
    ∃ p, ref10Path_L2 m x v on out = some (out ++ p, true) ∧ p.length = on.length ∧ ∀ e, e ∈ p ↔ e ∈ on
  | 0, x, on, out, _, _, _, _, _, hm, _ => by omega
  | m + 1, x, on, out, x0, xn, hc, hon, hnd, hm, ho => by
    have hFU := FU
    have hrI := hr.inR h0
    show ∃ p, ref10Path_B2 (ref10Path_L2 m) _ _ _ _ = _ ∧ _
    unfold ref10Path_B2
    by_cases e : x = v
    · subst e
      have : on = [] := List.eq_nil_iff_forall_not_mem.2 fun f hf' => by
        obtain ⟨j, _, b⟩ := (hon f).1 hf'
        exact br_self j b
      subst this
      rw [bf (by simp)]
      exact ⟨[], by simp, rfl, fun _ => Iff.rfl⟩
    · obtain ⟨i, y, a, b, c⟩ := br_exists hrI hf hc e
      obtain ⟨g, hg, hgo⟩ := tch_en.1 a
      have hgon : g ∈ on := (hon g).2 ⟨i, hg, b⟩
      obtain ⟨k, hk⟩ := List.getElem?_of_mem hgon
      have hsub : ∀ f, f ∈ on → f ∈ l := fun f hf' => by obtain ⟨j, q, _⟩ := (hon f).1 hf'; exact List.mem_of_getElem? q
      obtain ⟨k1, e1, q1, q2, q3⟩ := rpath_L3 hn hr (ref10Path_L2 m) (v := v) (x := x) (on := on) (out := out) hsub ho x0 xn FUEL 0 (by omega) (Nat.zero_le _) ⟨k, Nat.zero_le _, g, hk, by rcases hgo with ⟨z, _⟩ | ⟨_, z⟩ <;> simp [z]⟩
      have hk1 := (List.getElem?_eq_some_iff.1 q1).1
      have he1 : e1 ∈ on := List.mem_of_getElem? q1
      obtain ⟨j1, r1, r2⟩ := (hon e1).1 he1
      have hrg := hr e1 (hsub _ he1)
      have hT : Tch (en l) j1 x (e1.U + e1.V - x) := tch_en.2 ⟨e1, r1, by
        rcases q2 with z | z
        · exact .inl ⟨z, by omega⟩
        · exact .inr ⟨by omega, z⟩⟩
      have hst := br_step hrI hf hT r2 hc
      have hon' : ∀ f, f ∈ on.take k1 ++ on.drop (k1 + 1) ↔ ∃ j : Nat, l[j]? = some f ∧ Br (en l) (e1.U + e1.V - x) v j := fun f => by
        have m1 : f ∈ on.take k1 ++ on.drop (k1 + 1) ↔ f ∈ on ∧ f ≠ e1 := by
          rw [← List.eraseIdx_eq_take_drop_succ, List.mem_eraseIdx_iff_getElem?]
          constructor
          · rintro ⟨z, z1, z2⟩
            refine ⟨List.mem_of_getElem? z2, fun z3 => z1 ?_⟩
            subst z3
            exact ((List.getElem?_inj (List.getElem?_eq_some_iff.1 z2).1 hnd).1 (z2.trans q1.symm))
          · rintro ⟨z1, z2⟩
            obtain ⟨z, hz⟩ := List.getElem?_of_mem z1
            refine ⟨z, fun z3 => z2 ?_, hz⟩
            subst z3
            rw [q1] at hz; exact (Option.some.inj hz).symm
        rw [m1, hon]
        constructor
        · rintro ⟨⟨j, z1, z2⟩, z3⟩
          refine ⟨j, z1, (hst j).2 ⟨z2, fun z4 => z3 ?_⟩⟩
          subst z4
          rw [r1] at z1; exact (Option.some.inj z1).symm
        · rintro ⟨j, z1, z2⟩
          obtain ⟨z3, z4⟩ := (hst j).1 z2
          refine ⟨⟨j, z1, z3⟩, fun z5 => z4 ?_⟩
          subst z5
          have hjl := (List.getElem?_eq_some_iff.1 z1).1
          have e2 : (en l)[j]? = (en l)[j1]? := by unfold en; rw [List.getElem?_map, List.getElem?_map, z1, r1]
          exact (List.getElem?_inj (by rw [en_len]; exact hjl) nd).1 e2
      have hlen : (on.take k1 ++ on.drop (k1 + 1)).length + 1 = on.length := by simp; omega
      have hnd' : (on.take k1 ++ on.drop (k1 + 1)).Nodup := by rw [← List.eraseIdx_eq_take_drop_succ]; exact hnd.eraseIdx _
      obtain ⟨p, p1, p2, p3⟩ := rpath_L2 v0 vn m (e1.U + e1.V - x) (on.take k1 ++ on.drop (k1 + 1)) (out ++ [e1]) (by rcases q2 with z | z <;> omega) (by rcases q2 with z | z <;> omega) (hT.symm.conn.trans hc) hon' hnd' (by omega) (by simp only [List.length_append, List.length_cons, List.length_nil] at hlen ⊢; omega)
      rw [bt (by simp [e]), show (0 : Int) = ((0 : Nat) : Int) from rfl, q3, p1]
      refine ⟨e1 :: p, by simp, by simp only [List.length_cons]; omega, fun f => ?_⟩
      rw [List.mem_cons, p3]
      rw [← List.eraseIdx_eq_take_drop_succ, List.mem_eraseIdx_iff_getElem?]
      constructor
      · rintro (rfl | ⟨z, _, z2⟩)
        · exact he1
        · exact List.mem_of_getElem? z2
      · intro z
        obtain ⟨w, hw⟩ := List.getElem?_of_mem z
        by_cases z3 : w = k1
        · subst z3; rw [q1] at hw; exact .inl (Option.some.inj hw).symm
        · exact .inr ⟨w, z3, hw⟩
omit hne in
theorem ref10Path_eq {u : Int} (u0 : 0 ≤ u) (un : u < n) (v0 : 0 ≤ v) (vn : v < n) : (Conn (en l) u v → ∃ p, ref10Path_m n l u v = some (p, true) ∧ p.length ≤ l.length ∧ ∀ e, e ∈ p ↔ ∃ j, l[j]? = some e ∧ Br (en l) u v j) ∧ (¬ Conn (en l) u v → ref10Path_m n l u v = some ([], false)) := by
  have hFU := FU
  have hol := onL_len (l := l) (u := u) (v := v) (Nat.le_refl _)
  unfold ref10Path_m
  rw [ref09Of_pt h0 hn hl hr, some_bind', pt_idx u0 un, some_bind', pt_idx v0 vn, some_bind']
  refine ⟨fun hc => ?_, fun hc => ?_⟩
  · have e1 := rpath_L1 h0 hn hl hr u0 un v0 vn FUEL 0 (by omega) (Nat.zero_le _)
    have lnd : l.Nodup := by
      have : (l.map fun e => (e.U, e.V)).Nodup := nd
      exact (List.pairwise_map.1 this).imp fun h e => h (congrArg (fun e : GEdge => (e.U, e.V)) e)
    have hs : (onL l u v l.length).Nodup := lnd.sublist (by have := onL_sub (l := l) (u := u) (v := v) l.length (Nat.le_refl _); rwa [List.take_length] at this)
    obtain ⟨p, p1, p2, p3⟩ := rpath_L2 h0 hn hr nd hf v0 vn FUEL u (onL l u v l.length) [] u0 un hc (fun e => mem_onL) hs (by omega) (by simp; omega)
    rw [bf (by simp [(partf_iff _).2 hc])]
    have e2 : onL l u v 0 = [] := rfl
    rw [e2, show ((0 : Nat) : Int) = (0 : Int) from rfl] at e1
    rw [e1, p1]
    exact ⟨p, by simp, by omega, fun e => (p3 e).trans mem_onL⟩
  · rw [bt (by rw [bne_iff_ne]; exact fun q => hc ((partf_iff _).1 q))]
end
theorem behind_eq (a b : GEdge) : ref10Behind_m a b = some (decide (behE a b)) := by
  unfold ref10Behind_m
  by_cases c : a.Tier = b.Tier
  · rw [bf (by simp [c]), ref03Less_eq, some_bind']
    congr 1
    rw [Bool.eq_iff_iff, decide_eq_true_iff, lessE_iff]
    unfold behE
    simp only [c]
    constructor
    · intro q; first | exact .inr ⟨rfl, q⟩ | exact .inr ⟨trivial, q⟩
    · rintro (q | q)
      · omega
      · exact q.2
  · rw [bt (by simp [c])]
    congr 1
    rw [Bool.eq_iff_iff, decide_eq_true_iff, decide_eq_true_iff]
    unfold behE
    constructor
    · exact fun q => .inl q
    · rintro (q | q)
      · exact q
      · exact absurd q.1 (by first | exact c | exact fun z => c z.symm)
theorem rgreat_L2 (rec1 : List GEdge → GEdge → Int → Option (GEdge × Bool)) {l : List GEdge} (hl : l.length < 1000000000) (z : GEdge) {i : Nat} (hi : i < l.length) : ∀ (m k : Nat) (is : Bool), l.length < k + m → k ≤ l.length →
    ref10Greatest_L2 rec1 m l z (i : Int) is (k : Int) = if is = true ∧ ∀ y, y ∈ l.drop k → ¬ behE y l[i] then some (l[i], true) else rec1 l z ((i + 1 : Nat) : Int)
  | 0, k, is, hm, hk => by omega
  | m + 1, k, is, hm, hk => by
    show ref10Greatest_B2 rec1 (ref10Greatest_L2 rec1 m) _ _ _ _ _ = _
    unfold ref10Greatest_B2 ref10Greatest_J1
    by_cases c : k < l.length
    · rw [bt (lt_t c), idx_get c, some_bind', idx_get hi, some_bind', behind_eq, some_bind', wr1 k (by omega), drop_cons c]
      by_cases q : behE l[k] l[i]
      · rw [bt (by simpa using q), rgreat_L2 rec1 hl z hi m (k + 1) false (by omega) c, if_neg (by simp), if_neg (fun w => w.2 _ (List.mem_cons_self ..) q)]
      · rw [bf (by simpa using q), rgreat_L2 rec1 hl z hi m (k + 1) is (by omega) c]
        by_cases w : is = true ∧ ∀ y, y ∈ l.drop (k + 1) → ¬ behE y l[i]
        · rw [if_pos w, if_pos ⟨w.1, fun y hy => by
            rcases List.mem_cons.1 hy with rfl | hy
            · exact q
            · exact w.2 y hy⟩]
        · rw [if_neg w, if_neg (fun x => w ⟨x.1, fun y hy => x.2 y (List.mem_cons_of_mem _ hy)⟩)]
    · rw [bf (lt_f c), List.drop_eq_nil_of_le (by omega)]
      cases is with
      | true => rw [bt rfl, idx_get hi, some_bind', if_pos ⟨rfl, fun y hy => by cases hy⟩]
      | false => rw [bf rfl, wr1 i (by omega), if_neg (by simp)]
theorem rgreat_L1 {l : List GEdge} (hl : l.length < 1000000000) (z : GEdge) : ∀ (m i : Nat), l.length < i + m → i ≤ l.length → (∃ j e, i ≤ j ∧ l[j]? = some e ∧ ∀ y, y ∈ l → ¬ behE y e) →
    ∃ top, ref10Greatest_L1 m l z (i : Int) = some (top, true) ∧ top ∈ l ∧ ∀ y, y ∈ l → ¬ behE y top
  | 0, i, hm, hi, _ => by omega
  | m + 1, i, hm, hi, ⟨j, e, hj, he, hb⟩ => by
    have hFU := FU
    have hjl := (List.getElem?_eq_some_iff.1 he).1
    have c : i < l.length := by omega
    show ∃ top, ref10Greatest_B1 (ref10Greatest_L1 m) _ _ _ = _ ∧ _
    unfold ref10Greatest_B1
    rw [bt (lt_t c), show (0 : Int) = ((0 : Nat) : Int) from rfl, rgreat_L2 (ref10Greatest_L1 m) hl z c FUEL 0 true (by omega) (Nat.zero_le _), List.drop_zero]
    by_cases q : ∀ y, y ∈ l → ¬ behE y l[i]
    · rw [if_pos ⟨rfl, q⟩]
      exact ⟨l[i], rfl, List.getElem_mem c, q⟩
    · rw [if_neg (fun w => q w.2)]
      have : i + 1 ≤ j := by
        rcases Nat.lt_or_ge i j with w | w
        · exact w
        · have : j = i := by omega
          subst this
          rw [List.getElem?_eq_getElem c] at he
          cases he
          exact absurd hb q
      exact rgreat_L1 hl z m (i + 1) (by omega) c ⟨j, e, this, he, hb⟩
theorem ref10Greatest_eq {p : List GEdge} (hp : p ≠ []) (hl : p.length < 1000000000) : ∃ top, ref10Greatest_m p = some (top, true) ∧ top ∈ p ∧ ∀ y, y ∈ p → ¬ behE y top := by
  have hFU := FU
  obtain ⟨top, _, t2, t3⟩ := greatest_eq hp hl
  obtain ⟨j, hj⟩ := List.getElem?_of_mem t2
  exact rgreat_L1 hl _ FUEL 0 (by omega) (Nat.zero_le _) ⟨j, top, Nat.zero_le _, hj, t3⟩
theorem ref12Set_eq {n : Int} {l : List GEdge} (hT : trB n l = true) (hl : l.length < 1000000000) {x : GEdge} (hx : ∃ y, y ∈ l ∧ y.U = x.U ∧ y.V = x.V) {s : Int} (s0 : 0 ≤ s) (s1 : s ≤ 16) : ref12Set_m n l x.U x.V s = some (setT l x s, 0) := by
  obtain ⟨n0, n1, tb⟩ := trB_iff.1 hT
  obtain ⟨y, hy, yu, yv⟩ := hx
  have rg := tb.rg y hy
  have ok := okE_iff.1 (tb.ok y hy)
  unfold ref12Set_m ref12In_m
  rw [ref12Right_eq hl, hT, some_bind', gopt_some, some_bind', gopt_some, some_bind', bf (by simp; omega), ref12Find_eq hl, some_bind']
  obtain ⟨k, hk⟩ := fnd_mem hy
  rw [yu, yv] at hk
  obtain ⟨_, f, h1, h2, h3⟩ := fnd_some hk
  rw [Nat.sub_zero] at h1
  have hf : f = y := by
    have hfl := List.mem_of_getElem? h1
    have okf := okE_iff.1 (tb.ok f hfl)
    unfold fEnds at h2
    simp only [Bool.or_eq_true, Bool.and_eq_true, beq_iff_eq] at h2
    exact tb.inj hfl hy (by omega) (by omega)
  subst hf
  have hkl := (List.getElem?_eq_some_iff.1 h1).1
  rw [hk]
  simp only []
  rw [bf (by simp), app_ok (by simp; omega), some_bind', List.nil_append, idx_nat, h1, some_bind', some_bind', some_bind', stt_nat hkl, some_bind', set_setT tb h1, setT_uv s yu yv]
theorem ref15Step_eq {g : GGraph} (h : GD g) {t w : Int} (h0 : 0 ≤ t) (ht : t < g.Config.L) (w0 : 0 ≤ w) (wn : w < g.Config.N) : ∃ g2, ref15Step_m g t w = some g2 ∧ StepG g t w g2 := by
  have hFU := FU
  have k := gok h.ok
  have gc := k.gc
  have n1 := k.n1
  have n2 := k.n2
  have l2 := k.l2
  have nn : 0 ≤ g.Config.N := by omega
  have hE := h.e
  unfold ref15Step_m
  rw [ref14Tree_eq h.e k w0 wn, some_bind', wr_t h0 (by omega), ref14Tree_eq h.e k w0 wn, some_bind', ref14Search_eq h.e k h.hw h0 ht w0 wn, some_bind']
  have tg := trl_gr k (t := t) w0 wn
  cases hs : srch g t w with
  | none => exact ⟨g, rfl, .inl ⟨.inr hs, rfl⟩⟩
  | some e =>
    rw [show resS (some e) = (e, true) from rfl]
    simp only []
    by_cases c : (trl g.Config.N (pf g t) w).length = (trl g.Config.N (pf g (t + 1)) w).length
    · have ng := tg.1 c
      rw [bf (by simp [c])]
      obtain ⟨he, hcut⟩ := srch_cut hs
      have hno := srch_apart ng hs
      have eb := k.eb he
      have hT := k.tr
      have hre := k.rg e he
      have last : ∀ (l1 : List GEdge) (z : GGraph), trB g.Config.N l1 = true → l1.length < 1000000000 → (∃ y, y ∈ l1 ∧ y.U = e.U ∧ y.V = e.V) → ref15Step_J1 t g z e g.Config.N l1 = some ⟨g.Config, g.Hashes, setT l1 e (t + 1)⟩ := fun l1 z a b c => by
        unfold ref15Step_J1
        rw [wr_t h0 (by omega), ref12Set_eq a b c (by omega) (by omega), some_bind']
      have hex : ∃ y, y ∈ g.Edges ∧ y.U = e.U ∧ y.V = e.V := ⟨e, he, rfl, rfl⟩
      have plain : ¬ (e.Tier = 0 ∧ CT g.Edges g.Config.L e.U e.V) → ∃ g2, ref15Step_J1 t g ⟨⟨0, 0, 0⟩, [], []⟩ e g.Config.N g.Edges = some g2 ∧ StepG g t w g2 := fun q =>
        ⟨_, last g.Edges _ hT h.e hex, .inr ⟨ng, e, _, hs, .inr ⟨q, rfl⟩, rfl⟩⟩
      by_cases z : e.Tier = 0
      · have hF := gc.fo (Int.le_refl g.Config.L)
        have hfl := fo_len g.Edges g.Config.L
        have hfr := fo_Rg k.rg g.Config.L
        have hne : ∀ f, f ∈ fo g.Edges g.Config.L → f.U ≠ f.V := fun f hf => by
          have := k.eb (mem_fo hf)
          unfold EB at this; omega
        have nd : (en (fo g.Edges g.Config.L)).Nodup := gc.ti.tb.fo_nodup _
        obtain ⟨p1, p2⟩ := ref10Path_eq nn n2 (l := fo g.Edges g.Config.L) (by omega) hfr nd hF (u := e.U) (v := e.V) hre.1 hre.2.1 hre.2.2.1 hre.2.2.2
        rw [bt (by simp [z]), ref12Forest_eq h.e, some_bind']
        by_cases cc : CT g.Edges g.Config.L e.U e.V
        · obtain ⟨p, q1, ql, q2⟩ := p1 cc
          have hmem : ∀ x, x ∈ p ↔ sepE g.Edges g.Config.L e.U e.V x := fun x => by
            rw [q2]
            constructor
            · rintro ⟨j, a, b⟩; exact ⟨List.mem_of_getElem? a, (br_sep nd a _ _).1 b⟩
            · rintro ⟨a, b⟩
              obtain ⟨j, hj⟩ := List.getElem?_of_mem a
              exact ⟨j, hj, (br_sep nd hj _ _).2 b⟩
          have hpn : p ≠ [] := fun hp => by
            obtain ⟨x, x1, x2⟩ := sep_ex (hfr.inR nn) nd hF cc (by unfold EB at eb; omega)
            obtain ⟨f, hf, rfl⟩ := mem_en.1 x1
            have := (hmem f).2 ⟨hf, x2⟩
            rw [hp] at this; cases this
          have hpl : p.length < 1000000000 := by omega
          obtain ⟨top, t1, t2, t3⟩ := ref10Greatest_eq hpn hpl
          have hT' : IsTop g.Edges g.Config.L e.U e.V top := ⟨(hmem top).1 t2, fun y hy => t3 y ((hmem y).2 hy)⟩
          obtain ⟨tm1, tm2, tm3⟩ := mem_fo_iff.1 hT'.sep.1
          rw [q1, some_bind']
          simp only []
          rw [t1, some_bind']
          simp only []
          have tb1 : trB g.Config.N (setT g.Edges top 0) = true := trB_iff.2 ⟨nn, n2, gc.ti.tb.setT (by omega) (by omega)⟩
          have hex1 : ∃ y, y ∈ setT g.Edges top 0 ∧ y.U = e.U ∧ y.V = e.V := ⟨e, (mem_setT ⟨top, tm1, rfl, rfl⟩).2 (.inl ⟨he, fun q => by
            have := gc.ti.tb.inj he tm1 q.1 q.2
            subst this; omega⟩), rfl, rfl⟩
          rw [bt (by rfl), ref12Set_eq hT h.e ⟨top, tm1, rfl, rfl⟩ (by omega) (by omega), some_bind']
          exact ⟨_, last _ _ tb1 (by rw [setT_len]; exact h.e) hex1, .inr ⟨ng, e, _, hs, .inl ⟨z, cc, top, hT', rfl⟩, rfl⟩⟩
        · rw [p2 cc, some_bind']
          simp only []
          have : ref10Greatest_m [] = some (⟨0, 0, 0⟩, false) := rfl
          rw [this, some_bind']
          simp only []
          rw [bf (by rfl)]
          exact plain fun q => cc q.2
      · rw [bf (by simp [z])]
        exact plain fun q => z q.1
    · refine ⟨g, ?_, .inl ⟨.inl (Classical.byContradiction fun q => c (tg.2 q)), rfl⟩⟩
      rw [bt (by simp; omega)]
theorem ref15Mend_L {u v : Int} : ∀ (m : Nat) (t : Int) (g : GGraph), GD g → 0 ≤ t → t ≤ g.Config.L → g.Config.L < t + m → 0 ≤ u → u < g.Config.N → 0 ≤ v → v < g.Config.N → ∀ z, ∃ g2, ref15Mend_L1 m u v g z t = some g2 ∧ Mends u v t g g2 ∧ GD g2
  | 0, t, g, _, _, _, _, _, _, _, _, _ => by omega
  | m + 1, t, g, h, h0, hle, hm, u0, un, v0, vn, z => by
    have k := gok h.ok
    have l2 := k.l2
    show ∃ g2, ref15Mend_B1 (ref15Mend_L1 m) _ _ _ _ _ = _ ∧ _
    unfold ref15Mend_B1
    by_cases c : t < g.Config.L
    · obtain ⟨g1, a1, a2⟩ := ref15Step_eq h h0 c u0 un
      have F1 := a2.facts k.gc.ti k.gc.n0 k.gc.l2 h0 c
      have h1 := h.of F1.al F1.ti
      have k1 := gok h1.ok
      obtain ⟨g2, b1, b2⟩ := ref15Step_eq h1 h0 (by rw [F1.al.c]; exact c) v0 (by rw [F1.al.c]; exact vn)
      have F2 := b2.facts k1.gc.ti k1.gc.n0 k1.gc.l2 h0 (by rw [F1.al.c]; exact c)
      have h2 := h1.of F2.al F2.ti
      have cg : g2.Config = g.Config := F2.al.c.trans F1.al.c
      obtain ⟨g3, c1, c2, c3⟩ := ref15Mend_L m (t + 1) g2 h2 (by omega) (by rw [cg]; omega) (by rw [cg]; omega) u0 (by rw [cg]; exact un) v0 (by rw [cg]; exact vn) z
      rw [bt (by simpa using c), a1, some_bind', b1, some_bind', wr_t h0 (by omega)]
      exact ⟨g3, c1, .step c a2 b2 c2, c3⟩
    · rw [bf (by simpa using c)]
      exact ⟨g, rfl, .done c, h⟩
theorem ref15Mend_eq {g : GGraph} (h : GD g) {u v : Int} (u0 : 0 ≤ u) (un : u < g.Config.N) (v0 : 0 ≤ v) (vn : v < g.Config.N) : ∃ g2, ref15Mend_m g u v = some g2 ∧ Mends u v 0 g g2 ∧ GD g2 := by
  have hFU := FU
  have k := gok h.ok
  have := k.l1
  have := k.l2
  exact ref15Mend_L FUEL 0 g h (Int.le_refl _) (by omega) (by omega) u0 un v0 vn _
theorem ref15In_eq (g : GGraph) (u v : Int) : ref15In_m g u v = some (decide (vtx g.Config.N u v)) := by
  unfold ref15In_m vtx
  congr 1
  by_cases a : 0 ≤ u <;> by_cases b : u < g.Config.N <;> by_cases c : 0 ≤ v <;> by_cases d : v < g.Config.N <;> simp [a, b, c, d]
theorem ref15Change_no {g : GGraph} (hE : g.Edges.length < 1000000000) (hH : g.Hashes.length < 1000000000) (u v : Int) (b : Bool) (h : grB g = false ∨ ¬ vtx g.Config.N u v) : ref15Change_m g u v b = some (g, 1) := by
  unfold ref15Change_m
  rw [ref14Right_eq hE hH, some_bind', ref15In_eq, gopt_some, some_bind', bt]
  rcases h with h | h
  · rw [h]; rfl
  · rw [decide_eq_false h]; cases grB g <;> rfl
theorem ref15Change_ins {g : GGraph} (h : GD g) (hl : g.Edges.length + 1 < 1000000000) (u v : Int) : ∃ r, ref15Change_m g u v false = some r ∧ InsO g u v r := by
  have k := gok h.ok
  by_cases c : vtx g.Config.N u v
  · have c0 := c
    obtain ⟨r, r1, r2⟩ := ref12Add_eq k.tr hl u v
    unfold ref15Change_m ref15Change_J1
    rw [ref14Right_eq h.e h.h, h.ok, some_bind', ref15In_eq, decide_eq_true c, gopt_some, some_bind', bf (by rfl), r1, some_bind']
    unfold vtx at c
    rcases r2 with ⟨h1, rfl⟩ | ⟨h1, h2, rfl⟩ | ⟨h1, h2, h3, rfl⟩ | ⟨h1, h2, h3, l', h4, rfl⟩
    · exact absurd c0 h1
    · exact ⟨_, rfl, .inr (.inl ⟨c0, h2, rfl⟩)⟩
    · exact ⟨_, rfl, .inr (.inr (.inl ⟨c0, h2, h3, rfl⟩))⟩
    · have hg := add_GD h c0 h2 h3 h4 hl
      obtain ⟨g2, m1, m2, m3⟩ := ref15Mend_eq hg c.1 c.2.1 c.2.2.1 c.2.2.2
      simp only []
      rw [bf rfl, bf (by rfl), m1, some_bind']
      exact ⟨_, rfl, .inr (.inr (.inr ⟨c0, h2, h3, l', g2, h4, hg, m2, m3, rfl⟩))⟩
  · exact ⟨_, ref15Change_no h.e h.h u v false (.inr c), .inl ⟨c, rfl⟩⟩
theorem ref15Change_del {g : GGraph} (h : GD g) (hl : g.Edges.length + 1 < 1000000000) (u v : Int) : ∃ r, ref15Change_m g u v true = some r ∧ DelO g u v r := by
  have k := gok h.ok
  by_cases c : vtx g.Config.N u v
  · have c0 := c
    obtain ⟨r0, r1', _⟩ := ref12Add_eq k.tr hl u v
    obtain ⟨r, r1, r2⟩ := ref12Remove_eq k.tr h.e u v
    unfold ref15Change_m ref15Change_J1
    rw [ref14Right_eq h.e h.h, h.ok, some_bind', ref15In_eq, decide_eq_true c, gopt_some, some_bind', bf (by rfl), r1', some_bind']
    unfold vtx at c
    obtain ⟨x0, y0⟩ := r0
    simp only []
    rw [bt rfl, r1, some_bind']
    rcases r2 with ⟨h1, rfl⟩ | ⟨h1, h2, rfl⟩ | ⟨h1, j, h2, rfl⟩
    · exact absurd c0 h1
    · exact ⟨_, rfl, .inr (.inl ⟨c0, h2, rfl⟩)⟩
    · have hg := rem_GD h h2
      obtain ⟨g2, m1, m2, m3⟩ := ref15Mend_eq hg c.1 c.2.1 c.2.2.1 c.2.2.2
      simp only []
      rw [bf (by rfl), m1, some_bind']
      exact ⟨_, rfl, .inr (.inr ⟨c0, j, g2, h2, hg, m2, m3, rfl⟩)⟩
  · exact ⟨_, ref15Change_no h.e h.h u v true (.inr c), .inl ⟨c, rfl⟩⟩
theorem InsO.uniq {g : GGraph} {u v : Int} {a b : GGraph × Int} (h : InsO g u v a) (k : InsO g u v b) : a = b := by
  rcases h with ⟨h1, rfl⟩ | ⟨h1, h2, rfl⟩ | ⟨h1, h2, ⟨e, h3, h4⟩, rfl⟩ | ⟨h1, h2, h3, x, p, h4, h5, h6, h7, rfl⟩ <;> rcases k with ⟨k1, rfl⟩ | ⟨k1, k2, rfl⟩ | ⟨k1, k2, ⟨f, k3, k4⟩, rfl⟩ | ⟨k1, k2, k3, y, q, k4, k5, k6, k7, rfl⟩ <;> first | rfl | (exfalso; contradiction) | skip
  · rw [k3 e h3] at h4; cases h4
  · rw [h3 f k3] at k4; cases k4
  · have := h4.uniq k4
    subst this
    rw [h6.uniq k6]
theorem DelO.uniq {g : GGraph} {u v : Int} {a b : GGraph × Int} (h : DelO g u v a) (k : DelO g u v b) : a = b := by
  rcases h with ⟨h1, rfl⟩ | ⟨h1, h2, rfl⟩ | ⟨h1, i, p, h2, h3, h4, h5, rfl⟩ <;> rcases k with ⟨k1, rfl⟩ | ⟨k1, k2, rfl⟩ | ⟨k1, j, q, k2, k3, k4, k5, rfl⟩ <;> first | rfl | (exfalso; contradiction) | skip
  · rw [h2] at k2; cases k2
  · rw [h2] at k2; cases k2
  · rw [h2] at k2; cases k2
    rw [h4.uniq k4]
theorem InsO.len {g : GGraph} (h : GD g) {u v : Int} {r : GGraph × Int} (k : InsO g u v r) : r.1.Edges.length < 1000000000 ∧ r.1.Hashes.length < 1000000000 := by
  rcases k with ⟨_, rfl⟩ | ⟨_, _, rfl⟩ | ⟨_, _, _, rfl⟩ | ⟨_, _, _, _, _, _, _, _, k, rfl⟩
  · exact ⟨h.e, h.h⟩
  · exact ⟨h.e, h.h⟩
  · exact ⟨h.e, h.h⟩
  · exact ⟨k.e, k.h⟩
theorem DelO.len {g : GGraph} (h : GD g) {u v : Int} {r : GGraph × Int} (k : DelO g u v r) : r.1.Edges.length < 1000000000 ∧ r.1.Hashes.length < 1000000000 := by
  rcases k with ⟨_, rfl⟩ | ⟨_, _, rfl⟩ | ⟨_, _, _, _, _, _, k, rfl⟩
  · exact ⟨h.e, h.h⟩
  · exact ⟨h.e, h.h⟩
  · exact ⟨k.e, k.h⟩
theorem grB_none {g : GGraph} (h : grB g = true) : grB ⟨g.Config, g.Hashes, []⟩ = true := by
  have k := gok h
  unfold grB at h ⊢
  simp only [Bool.and_eq_true] at h ⊢
  exact ⟨h.1, h.2.1, trB_iff.2 ⟨by have := k.n1; omega, k.n2, ⟨List.Pairwise.nil, fun e he => by cases he⟩⟩, rfl, foB_iff.2 (Forest.nil _)⟩
theorem TiersTell_p (g : GGraph) (hw : HW g) (u v : Int) : TiersTell_m g u v = some true := by
  have hFU := FU
  unfold TiersTell_m
  obtain ⟨b, hb, hs⟩ := ref14Small_eq g
  rw [hb, some_bind', law15Awake_eq]
  cases b with
  | false => rfl
  | true =>
    obtain ⟨s1, s2, s3, s4, s5⟩ := hs rfl
    have hE : g.Edges.length < 1000000000 := by omega
    have hH : g.Hashes.length < 1000000000 := by omega
    rw [bf (c := !true) rfl]
    cases hg : grB g with
    | false =>
      have i1 : tiersInsert_m g u v = some (g, 1) := by
        unfold tiersInsert_m
        rw [tiersFits_eq hE hH, some_bind', decide_eq_false (by rw [hg]; simp)]; rfl
      have i2 : tiersDelete_m g u v = some (g, 1) := by
        unfold tiersDelete_m
        rw [tiersFits_eq hE hH, some_bind', decide_eq_false (by rw [hg]; simp)]; rfl
      have i3 : tiersMend_m g u v = some (g, 1) := by
        unfold tiersMend_m
        rw [tiersFits_eq hE hH, some_bind', decide_eq_false (by rw [hg]; simp)]; rfl
      have i4 : ref15Same_m g g = some true := by rw [ref15Same_eq g g hE hH, decide_eq_true rfl]
      rw [i1, some_bind']
      simp only []
      rw [ref15Change_no hE hH u v false (.inl hg), some_bind']
      simp only []
      rw [i2, some_bind']
      simp only []
      rw [ref15Change_no hE hH u v true (.inl hg), some_bind']
      simp only []
      rw [i4, some_bind', gt' (by rfl), some_bind', bf (by rfl), i3, some_bind']
      simp only []
      rw [tiersKept_eq hE hH, hg, some_bind', tiersNew_eq g.Config (by omega), some_bind', ref14Right_eq hE hH, hg, some_bind', ref14Right_eq (by simp) (by simp; omega)]
      try simp only []
      rw [bt (by rfl), gt' (by rfl), i4, some_bind', gt' (by rfl), some_bind']
      cases grB ⟨g.Config, g.Hashes, []⟩ <;> rfl
    | true =>
      have h : GD g := ⟨hg, hw, hE, hH⟩
      have k := gok hg
      obtain ⟨a, a1, a2⟩ := tiersInsert_eq h (by omega) u v
      obtain ⟨b, b1, b2⟩ := ref15Change_ins h (by omega) u v
      obtain ⟨c, c1, c2⟩ := tiersDelete_eq h u v
      obtain ⟨d, d1, d2⟩ := ref15Change_del h (by omega) u v
      have ea := a2.uniq b2
      have ec := c2.uniq d2
      subst ea
      subst ec
      obtain ⟨la, lb⟩ := a2.len h
      obtain ⟨lc, ld⟩ := c2.len h
      obtain ⟨m1, m2⟩ := tiersMend_eq h u v
      have i4 : ref15Same_m g g = some true := by rw [ref15Same_eq g g hE hH, decide_eq_true rfl]
      obtain ⟨xa, ya⟩ := a
      obtain ⟨xc, yc⟩ := c
      rw [a1, some_bind']
      simp only []
      rw [b1, some_bind']
      simp only []
      rw [c1, some_bind']
      simp only []
      rw [d1, some_bind']
      simp only []
      have g0 := grB_none hg
      rw [ref15Same_eq xa xa la lb, decide_eq_true rfl, some_bind', gt' (by simp), ref15Same_eq xc xc lc ld, decide_eq_true rfl, some_bind', bf (by simp), tiersNew_eq g.Config (by omega), g0, ref14Right_eq hE hH, hg]
      have rk : ref15Kept_m g = some (pt g.Config.N (kf g)) := ref15Kept_eq hE k
      have fin : ∀ (m : GGraph) (j : Int) (o : Option Bool), tiersMend_m g u v = some (m, j) → (bif ((((decide (u < 0)) || (decide (v < 0))) || (decide (g.Config.N ≤ u))) || (decide (g.Config.N ≤ v))) then
          ((gopt ((j == 1) == true) false (ref15Same_m m g)).bind fun r44 => ((gopt (((j == 1) && r44) == true) false (some true)).bind fun r46 => some (((j == 1) && r44) && r46)))
        else ((gopt ((j == 0) == true) ⟨⟨0, 0, 0⟩, [], []⟩ (ref15Mend_m g u v)).bind fun r48 => ((gopt ((j == 0) == true) false (ref15Same_m m r48)).bind fun r50 => ((gopt (((j == 0) && r50) == true) false (some true)).bind fun r52 => some (((j == 0) && r50) && r52))))) = some true := fun m j o hm => by
        by_cases q : vtx g.Config.N u v
        · obtain ⟨m', z1, z2, z3⟩ := m1 q
          obtain ⟨g2, y1, y2, y3⟩ := ref15Mend_eq h q.1 q.2.1 q.2.2.1 q.2.2.2
          rw [z1] at hm
          cases hm
          have := z2.uniq y2
          subst this
          unfold vtx at q
          rw [bf (by simp; omega), gt' (by rfl), y1, some_bind', gt' (by rfl), ref15Same_eq _ _ y3.e y3.h, decide_eq_true rfl]; rfl
        · rw [m2 q] at hm
          cases hm
          unfold vtx at q
          rw [bt (by simp; omega), gt' (by rfl), i4]; rfl
      obtain ⟨mm, mj, hmm⟩ : ∃ mm mj, tiersMend_m g u v = some (mm, mj) := by
        by_cases q : vtx g.Config.N u v
        · obtain ⟨m', z1, _⟩ := m1 q; exact ⟨_, _, z1⟩
        · exact ⟨_, _, m2 q⟩
      have hpl : (pt g.Config.N (kf g)).length < 1000000000 := by rw [pt_len]; have := k.n2; omega
      rw [hmm, some_bind']
      simp only []
      rw [grB_kept h, some_bind', some_bind']
      simp only [if_true]
      rw [some_bind']
      rw [bf (by rfl), rk, some_bind', ref06Same_eq _ _ hpl, decide_eq_true rfl, some_bind', gt' (by rfl), ref15Same_eq _ _ (by simp) (by simpa using hH), decide_eq_true rfl, some_bind', bf (by rfl)]
      exact fin mm mj none hmm
theorem TiersTell_w (g : GGraph) (u v : Int) {P1 P2 P3 A B : Prop} (w : WG g P1 P2 P3) (_ : A) (_ : B) : TiersTell_m g u v = some true := TiersTell_p g w.hw u v
end Go.Proofs.YtibnmlbjahcjmaaGreat
