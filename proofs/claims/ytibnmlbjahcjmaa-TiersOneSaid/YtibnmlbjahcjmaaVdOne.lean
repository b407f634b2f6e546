/- Facts that the statement's proof is made of. No condition. -/
import Derived.Test.YtibnmlbjahcjmaaVdAmL
import Derived.Test.YtibnmlbjahcjmaaVdGD3
set_option linter.unusedVariables false
set_option linter.unusedSimpArgs false
set_option linter.unusedSectionVars false
set_option maxRecDepth 20000
set_option maxHeartbeats 1000000
namespace Go.Proofs.Ytibnmlbjahcjmaa
open Go Go.AM Go.Pl Go.Pt
def Free (l : List GEdge) (x : Int) : Prop := ∀ e, e ∈ l → e.U ≠ x ∧ e.V ≠ x
theorem Free.conn {l : List GEdge} {x : Int} (h : Free l x) (k : Int) {a b : Int} (c : Conn (en (fo l k)) a b) : a = x → b = x := by
  induction c with
  | refl => exact id
  | fwd e _ _ =>
    intro ha
    obtain ⟨f, hf, he⟩ := mem_en.1 e
    injection he with h1 h2
    have := h f (mem_fo hf)
    omega
  | bwd e _ _ =>
    intro ha
    obtain ⟨f, hf, he⟩ := mem_en.1 e
    injection he with h1 h2
    have := h f (mem_fo hf)
    omega
theorem pair_conn {l : List GEdge} {a b : Int} (h : ∀ e, e ∈ l → (e.U = a ∨ e.U = b ∨ e.V = a ∨ e.V = b) → (e.U = a ∧ e.V = b) ∨ (e.U = b ∧ e.V = a)) (k : Int) {x y : Int} (c : Conn (en (fo l k)) x y) : (x = a ∨ x = b) → (y = a ∨ y = b) := by
  induction c with
  | refl => exact id
  | fwd e _ ih =>
    intro hx
    obtain ⟨f, hf, he⟩ := mem_en.1 e
    injection he with h1 h2
    have := h f (mem_fo hf)
    exact ih (by omega)
  | bwd e _ ih =>
    intro hx
    obtain ⟨f, hf, he⟩ := mem_en.1 e
    injection he with h1 h2
    have := h f (mem_fo hf)
    exact ih (by omega)
theorem fo_0 (l : List GEdge) : fo l 0 = [] := List.eq_nil_iff_forall_not_mem.2 fun e he => by have := mem_fo_iff.1 he; omega
section
variable {c : GConfig} {hs : List GHash} {l l' : List GEdge} {u v : Int} (hg : GD ⟨c, hs, l'⟩) (hne : u ≠ v) (ha : AddR l (edg u v) l') (hu : Free l u) (hv : Free l v)
include hg hne ha hu hv
theorem one_step0 {w : Int} (hw : w = u ∨ w = v) : StepG ⟨c, hs, l'⟩ 0 w ⟨c, hs, setT l' (edg u v) 1⟩ := by
  have k := gok hg.ok
  have L1 : 1 ≤ c.L := k.l1
  have hfo : ∀ k, fo l' k = fo l k := fun k => ha.fo rfl k
  have hfree : Free l w := by rcases hw with rfl | rfl <;> assumption
  have alone : ∀ t y, GT ⟨c, hs, l'⟩ t w y → y = w := fun t y h => by
    have h' : Conn (en (fo l' t)) w y := h
    rw [hfo] at h'
    exact hfree.conn t h' rfl
  have euv := edg_uv hne
  have hcut : cutE (pf ⟨c, hs, l'⟩ 0) w l' = [edg u v] := by
    obtain ⟨q, q1, q2, _⟩ := ha
    have no : ∀ e, e ∈ l → inQ (pf ⟨c, hs, l'⟩ 0) w (uv e) = false := fun e he => by
      rw [Bool.eq_false_iff]
      intro hq
      rw [inQ_iff, pf_iff, pf_iff] at hq
      have := hfree e he
      rcases hq with ⟨a, _⟩ | ⟨_, a⟩
      · exact this.1 (alone _ _ a.symm)
      · exact this.2 (alone _ _ a.symm)
    have yes : inQ (pf ⟨c, hs, l'⟩ 0) w (uv (edg u v)) = true := by
      rw [inQ_iff, pf_iff, pf_iff]
      show (GT _ _ (edg u v).U w ∧ ¬ GT _ _ (edg u v).V w) ∨ (¬ GT _ _ (edg u v).U w ∧ GT _ _ (edg u v).V w)
      by_cases hU : (edg u v).U = w
      · left
        rw [hU]
        refine ⟨.refl _, fun q => ?_⟩
        have := alone _ _ q.symm
        omega
      · right
        have hV : (edg u v).V = w := by omega
        rw [hV]
        refine ⟨fun q => ?_, .refl _⟩
        have := alone _ _ q.symm
        omega
    have key : ∀ p : Int → Int, (∀ e, e ∈ l → inQ p w (uv e) = false) → inQ p w (uv (edg u v)) = true → cutE p w l' = [edg u v] := fun p h1 h2 => by
      unfold cutE
      rw [q2, List.filter_append, List.filter_cons, if_pos h2, List.filter_eq_nil_iff.2 (fun e he => by rw [h1 e (List.mem_of_mem_take he)]; simp), List.filter_eq_nil_iff.2 (fun e he => by rw [h1 e (List.mem_of_mem_drop he)]; simp)]
      rfl
    exact key _ no yes
  have hh : hsh ⟨c, hs, l'⟩ 0 ≠ [] := fun q => by
    have h1 := hsh_len k (t := 0) (Int.le_refl _) (show (0 : Int) < c.L by omega)
    rw [q] at h1
    have r1 : 1 ≤ c.R := k.r1
    have : (0 : Nat) = c.R.toNat := h1
    omega
  have hsr : srch ⟨c, hs, l'⟩ 0 w = some (edg u v) := by
    show srchE (hsh ⟨c, hs, l'⟩ 0) (lvl c.N) (cutE (pf ⟨c, hs, l'⟩ 0) w l') = _
    rw [hcut]
    exact srchE_one hh (by unfold lvl; omega) _
  refine .inr ⟨fun ⟨x, x1, x2⟩ => x2 (by rw [alone _ _ x1]; exact .refl _), edg u v, _, hsr, .inr ⟨fun ⟨_, q⟩ => ?_, rfl⟩, rfl⟩
  have q' : Conn (en (fo l' c.L)) (edg u v).U (edg u v).V := q
  rw [hfo] at q'
  rcases euv with ⟨a, b, _⟩ | ⟨a, b, _⟩
  · rw [a, b] at q'; exact hne (hu.conn _ q' rfl).symm
  · rw [a, b] at q'; exact hne (hv.conn _ q' rfl)
theorem one_mem1 (e : GEdge) : e ∈ setT l' (edg u v) 1 ↔ e ∈ l ∨ e = ⟨(edg u v).U, (edg u v).V, 1⟩ := by
  have euv := edg_uv hne
  rw [mem_setT ⟨edg u v, (ha.mem _).2 (.inr rfl), rfl, rfl⟩, ha.mem]
  constructor
  · rintro (⟨a | a, b⟩ | a)
    · exact .inl a
    · exact absurd (by rw [a]; exact ⟨rfl, rfl⟩) b
    · exact .inr a
  · rintro (a | a)
    · refine .inl ⟨.inl a, fun q => ?_⟩
      have := hu e a
      have := hv e a
      omega
    · exact .inr a
theorem one_conn {t : Int} (ht : 1 ≤ t) : GT ⟨c, hs, setT l' (edg u v) 1⟩ t u v := by
  have euv := edg_uv hne
  have hm : (⟨(edg u v).U, (edg u v).V, 1⟩ : GEdge) ∈ fo (setT l' (edg u v) 1) t := mem_fo_iff.2 ⟨(one_mem1 hg hne ha hu hv _).2 (.inr rfl), Int.le_refl _, ht⟩
  have h : Conn (en (fo (setT l' (edg u v) 1) t)) (edg u v).U (edg u v).V := Conn.one (mem_en.2 ⟨_, hm, rfl⟩)
  show Conn (en (fo (setT l' (edg u v) 1) t)) u v
  rcases euv with ⟨a, b, _⟩ | ⟨a, b, _⟩
  · rw [a, b] at h; exact h
  · rw [a, b] at h; exact h.symm
theorem one_gr {w : Int} (hw : w = u ∨ w = v) : StepG ⟨c, hs, setT l' (edg u v) 1⟩ 0 w ⟨c, hs, setT l' (edg u v) 1⟩ := by
  have hc := one_conn (c := c) (hs := hs) hg hne ha hu hv (t := 0 + 1) (by omega)
  refine .inl ⟨.inl ?_, rfl⟩
  have nil : ∀ {x y : Int}, GT ⟨c, hs, setT l' (edg u v) 1⟩ 0 x y → x = y := fun h => by
    have h' : Conn (en (fo (setT l' (edg u v) 1) 0)) _ _ := h
    rw [fo_0] at h'
    exact h'.nil
  rcases hw with rfl | rfl
  · exact ⟨v, hc, fun q => hne (nil q)⟩
  · exact ⟨u, hc.symm, fun q => hne (nil q).symm⟩
theorem one_later {t w : Int} (ht : 1 ≤ t) (hw : w = u ∨ w = v) : StepG ⟨c, hs, setT l' (edg u v) 1⟩ t w ⟨c, hs, setT l' (edg u v) 1⟩ := by
  have euv := edg_uv hne
  have hc := one_conn (c := c) (hs := hs) hg hne ha hu hv ht
  have hm := one_mem1 (c := c) (hs := hs) hg hne ha hu hv
  have pc : ∀ {x y : Int}, GT ⟨c, hs, setT l' (edg u v) 1⟩ t x y → (x = u ∨ x = v) → (y = u ∨ y = v) := fun h => pair_conn (fun e he hx => by
    rcases (hm e).1 he with q | q
    · have := hu e q; have := hv e q; omega
    · rw [q] at hx ⊢; simp only [] at hx ⊢; omega) t h
  refine .inl ⟨.inr ?_, rfl⟩
  have hcut : cutE (pf ⟨c, hs, setT l' (edg u v) 1⟩ t) w (setT l' (edg u v) 1) = [] := by
    unfold cutE
    refine List.filter_eq_nil_iff.2 fun e he hq => ?_
    rw [inQ_iff, pf_iff, pf_iff] at hq
    rcases (hm e).1 he with q | q
    · have h1 := hu e q
      have h2 := hv e q
      rcases hq with ⟨a, _⟩ | ⟨_, a⟩
      · have := pc a.symm hw; unfold uv at this; simp only [] at this; omega
      · have := pc a.symm hw; unfold uv at this; simp only [] at this; omega
    · have all : ∀ x, (x = u ∨ x = v) → GT ⟨c, hs, setT l' (edg u v) 1⟩ t x w := fun x hx => by
        rcases hx with rfl | rfl <;> rcases hw with rfl | rfl
        · exact .refl _
        · exact hc
        · exact hc.symm
        · exact .refl _
      have e1 := all (uv e).1 (by rw [q]; show (edg u v).U = u ∨ (edg u v).U = v; omega)
      have e2 := all (uv e).2 (by rw [q]; show (edg u v).V = u ∨ (edg u v).V = v; omega)
      rcases hq with ⟨_, b⟩ | ⟨b, _⟩
      · exact b e2
      · exact b e1
  show srchE (hsh ⟨c, hs, setT l' (edg u v) 1⟩ t) (lvl c.N) (cutE (pf ⟨c, hs, setT l' (edg u v) 1⟩ t) w (setT l' (edg u v) 1)) = none
  rw [hcut, srchE_nil]
theorem one_rest : ∀ (m : Nat) (t : Int), c.L < t + m → 1 ≤ t → Mends u v t ⟨c, hs, setT l' (edg u v) 1⟩ ⟨c, hs, setT l' (edg u v) 1⟩
  | 0, t, h, ht => .done (by show ¬ t < c.L; omega)
  | m + 1, t, h, ht => by
    by_cases q : t < c.L
    · exact .step q (one_later hg hne ha hu hv ht (.inl rfl)) (one_later hg hne ha hu hv ht (.inr rfl)) (one_rest m (t + 1) (by omega) (by omega))
    · exact .done q
theorem one_mends : Mends u v 0 ⟨c, hs, l'⟩ ⟨c, hs, setT l' (edg u v) 1⟩ := by
  have k := gok hg.ok
  have L1 : 1 ≤ c.L := k.l1
  exact .step (by show 0 < c.L; omega) (one_step0 hg hne ha hu hv (.inl rfl)) (one_gr hg hne ha hu hv (.inr rfl)) (one_rest hg hne ha hu hv c.L.toNat (0 + 1) (by omega) (by omega))
end
def nr (l : List GEdge) (x : Int) : Int := if (l.any fun e => (e.U == x) || (e.V == x)) = true then 1 else 0
theorem nr_free {l : List GEdge} {x : Int} (h : nr l x = 0) : Free l x := by
  unfold nr at h
  split at h
  · cases h
  · rename_i q
    intro e he
    refine ⟨fun k => q (List.any_eq_true.2 ⟨e, he, by simp [k]⟩), fun k => q (List.any_eq_true.2 ⟨e, he, by simp [k]⟩)⟩
theorem nr_01 (l : List GEdge) (x : Int) : nr l x = 0 ∨ nr l x = 1 := by unfold nr; split <;> simp
theorem nr_one {l : List GEdge} {x : Int} (e : GEdge) (he : e ∈ l) (hx : e.U = x ∨ e.V = x) : nr l x = 1 := by
  unfold nr
  rw [if_pos (List.any_eq_true.2 ⟨e, he, by simpa using hx⟩)]
theorem nr_new {l m : List GEdge} {a : GEdge} (h : ∀ e, e ∈ m ↔ e ∈ l ∨ e = a) (x : Int) : nr m x = if a.U = x ∨ a.V = x then 1 else nr l x := by
  by_cases q : a.U = x ∨ a.V = x
  · rw [if_pos q]; exact nr_one a ((h a).2 (.inr rfl)) q
  · rw [if_neg q]
    rcases nr_01 l x with z | z
    · have f := nr_free z
      rw [z]
      unfold nr
      rw [if_neg]
      intro k
      obtain ⟨e, e1, e2⟩ := List.any_eq_true.1 k
      simp only [Bool.or_eq_true, beq_iff_eq] at e2
      rcases (h e).1 e1 with w | w
      · have := f e w; omega
      · subst w; exact q e2
    · rw [z]
      unfold nr at z
      split at z
      · rename_i k
        obtain ⟨e, e1, e2⟩ := List.any_eq_true.1 k
        exact nr_one e ((h e).2 (.inl e1)) (by simpa using e2)
      · cases z
theorem TiersOne_L2_eq {g : GGraph} (h : GD g) {c : GConfig} (hc : g.Config = c) (h1 : ∀ e, e ∈ g.Edges → e.Tier = 1) : ∀ (m i : Nat), g.Edges.length < i + m → i ≤ g.Edges.length → TiersOne_L2 m c g g.Edges (g.Edges.length : Int) (i : Int) = some true
  | 0, i, _, _ => by omega
  | m + 1, i, hm, hi => by
    have hE := h.e
    have k := gok h.ok
    have n1 := k.n1
    have l1 := k.l1
    have cN : c.N = g.Config.N := by rw [hc]
    show TiersOne_B2 (TiersOne_L2 m) _ _ _ _ _ = _
    unfold TiersOne_B2
    by_cases q : i < g.Edges.length
    · rw [bt (lt_t q), idx_get q, some_bind', bf (by rw [h1 _ (List.getElem_mem q)]; rfl), wr1 i (by omega)]
      exact TiersOne_L2_eq h hc h1 m (i + 1) (by omega) q
    · have hkf : kf g = g.Edges := List.filter_eq_self.2 fun e he => by
        have := h1 e he
        unfold inT
        rw [this]; simp; omega
      rw [bf (lt_f q), grB_kept h, some_bind', cN, ref09Of_pt (by omega) k.n2 hE k.rg, some_bind', hkf, ref06Same_eq _ _ (pt_len' k.n2 _), some_bind', decide_eq_true rfl, gt' (by rfl), law15Awake_eq]; rfl
theorem TiersOne_L1_eq {c : GConfig} (hN : c.N ≤ 12) {ps : List Int} (hp : ∀ y, y ∈ ps → 0 ≤ y ∧ y ≤ 255) (hl : ps.length ≤ 12) : ∀ (m i : Nat) (g : GGraph), ps.length < i + m → i ≤ ps.length → GD g → g.Config = c → (∀ e, e ∈ g.Edges → e.Tier = 1) → g.Edges.length ≤ i →
    TiersOne_L1 m c g (tab 12 (nr g.Edges)) ps (ps.length : Int) (i : Int) = some true
  | 0, i, g, _, _, _, _, _, _ => by omega
  | m + 1, i, g, hm, hi, h, hc, h1, he => by
    have hFU := FU
    have k := gok h.ok
    have n1 := k.n1
    have cN : g.Config.N = c.N := by rw [hc]
    show TiersOne_B1 (TiersOne_L1 m) _ _ _ _ _ _ = _
    unfold TiersOne_B1 TiersOne_J1
    by_cases q : i < ps.length
    · obtain ⟨x0, x1⟩ := hp _ (List.getElem_mem q)
      have w1 : IntKind.i64.wrap ps[i] = ps[i] := wr0 (by omega) (by omega)
      have d0 : 0 ≤ Int.tdiv ps[i] 16 := Int.tdiv_nonneg (by omega) (by omega)
      have d1 : Int.tdiv ps[i] 16 ≤ ps[i] := Int.tdiv_le_self _ (by omega)
      have w2 : IntKind.i64.wrap (Int.tdiv ps[i] 16) = Int.tdiv ps[i] 16 := wr0 (by omega) (by omega)
      rw [bt (lt_t q), idx_get q, some_bind', ck (bne_iff_ne.2 (by omega)), some_bind', some_bind', w1, w2, wr1 i (by omega), Int.tmod_eq_emod_of_nonneg x0, Int.tmod_eq_emod_of_nonneg d0]
      have U0 := Int.emod_nonneg ps[i] (show c.N ≠ 0 by omega)
      have U1 := Int.emod_lt_of_pos ps[i] (show 0 < c.N by omega)
      have V0 := Int.emod_nonneg (Int.tdiv ps[i] 16) (show c.N ≠ 0 by omega)
      have V1 := Int.emod_lt_of_pos (Int.tdiv ps[i] 16) (show 0 < c.N by omega)
      generalize ps[i] % c.N = U at U0 U1 ⊢
      generalize Int.tdiv ps[i] 16 % c.N = V at V0 V1 ⊢
      have ih := TiersOne_L1_eq hN hp hl m (i + 1) g (by omega) q h hc h1 (by omega)
      by_cases e : U = V
      · have z : (U == V) = true := by rw [e]; simp
        rw [z, gf' (by rfl), some_bind', gf' (by rfl), some_bind', bt (by rfl)]
        exact ih
      · have z : (U == V) = false := beq_false_of_ne e
        have ix : ∀ (f : Int → Int) (x : Int), 0 ≤ x → x < c.N → idxA 12 (tab 12 f) x = some (f x) := fun f x a b => by
          unfold idxA
          rw [if_pos (show (tab 12 f).length = 12 from tab_len 12 f)]
          exact tab_idx a (by omega)
        rw [z, gt' (by rfl), ix _ _ U0 U1, some_bind', gt' (by rfl), ix _ _ V0 V1, some_bind', Bool.false_or]
        rcases nr_01 g.Edges U with zu | zu <;> rcases nr_01 g.Edges V with zv | zv
        · rw [zu, zv, bf (by decide), some_bind', tab_set U0 (by omega), some_bind', ix _ _ V0 V1, some_bind', tab_set V0 (by omega), some_bind']
          have fu := nr_free zu
          have fv := nr_free zv
          obtain ⟨r, r1, r2⟩ := tiersInsert_eq h (by omega) V U
          rw [r1, some_bind']
          rcases r2 with ⟨a, _⟩ | ⟨_, a, _⟩ | ⟨_, _, ⟨y, y1, y2⟩, _⟩ | ⟨_, _, _, l', g2, a1, a2, a3, a4, rfl⟩
          · exact absurd ⟨V0, by omega, U0, by omega⟩ a
          · exact absurd a.symm e
          · have := fu y y1
            rcases fEnds_uv y2 with b | b <;> omega
          · have mm := one_mends (c := g.Config) (hs := g.Hashes) a2 (fun q => e q.symm) a1 fv fu
            have eg : g2 = ⟨g.Config, g.Hashes, setT l' (edg V U) 1⟩ := a3.uniq mm
            subst eg
            have hm1 := one_mem1 (c := g.Config) (hs := g.Hashes) a2 (fun q => e q.symm) a1 fv fu
            have euv := edg_uv (u := V) (v := U) fun q => e q.symm
            have et : (tab 12 fun z => if z = V then 1 else if z = U then 1 else nr g.Edges z) = tab 12 (nr (setT l' (edg V U) 1)) := tab_ext fun z _ _ => by
              rw [nr_new hm1]
              simp only []
              by_cases p1 : z = V
              · rw [if_pos p1, if_pos (by omega)]
              · rw [if_neg p1]
                by_cases p2 : z = U
                · rw [if_pos p2, if_pos (by omega)]
                · rw [if_neg p2, if_neg (by omega)]
            simp only []
            rw [bf (by rfl), et]
            refine TiersOne_L1_eq hN hp hl m (i + 1) _ (by omega) q a4 hc (fun y hy => ?_) ?_
            · rcases (hm1 y).1 hy with b | b
              · exact h1 y b
              · rw [b]
            · show (setT l' (edg V U) 1).length ≤ i + 1
              unfold setT
              rw [List.length_map, a1.len]; omega
        · rw [zu, zv, bt (by decide)]; exact ih
        · rw [zu, zv, bt (by decide)]; exact ih
        · rw [zu, zv, bt (by decide)]; exact ih
    · rw [bf (lt_f q)]
      have := TiersOne_L2_eq h hc h1 FUEL 0 (by omega) (Nat.zero_le _)
      exact this
theorem TiersOne_p (c : GConfig) (hs : List GHash) (ps : List Int) (hw : ∀ x, x ∈ hs → HOK x) (hp : ∀ y, y ∈ ps → 0 ≤ y ∧ y ≤ 255) (hl : hs.length ≤ 8796093022207) : TiersOne_m c hs ps = some true := by
  have hFU := FU
  unfold TiersOne_m
  obtain ⟨n, n1, n2⟩ := law15Few_eq c []
  rw [tiersNew_eq c hl, some_bind']
  cases hg : grB ⟨c, hs, []⟩ with
  | false => simp [n1, law15Awake_eq]
  | true =>
    simp only [if_true]
    have hl := grB_len hg
    rw [n1, some_bind', law15Awake_eq]
    rcases n2 with n2 | ⟨k, rfl, k1, k2, k3, _⟩
    · rw [bt (by simp [n2])]; rfl
    · by_cases hk : 12 < ps.length
      · rw [bt (by simp; omega)]; rfl
      · have h : GD ⟨c, hs, []⟩ := ⟨hg, hw, by simp, by simp; omega⟩
        rw [bf (by simp; omega)]
        have e : List.replicate 12 (0 : Int) = tab 12 (nr []) := rfl
        rw [e]
        exact TiersOne_L1_eq k3 hp (by omega) FUEL 0 ⟨c, hs, []⟩ (by omega) (Nat.zero_le _) h rfl (fun e he => by cases he) (by simp)
theorem TiersOne_w (c : GConfig) (hs : List GHash) (ps : List Int) {A P P' C : Prop} (_ : A) (w : WH hs P) (w' : (∀ y, y ∈ ps → (Lit.int .u8 y).wf = true) ∧ P') (b : hs.length * 16 ≤ 140737488351232) (_ : C) : TiersOne_m c hs ps = some true :=
  TiersOne_p c hs ps w.hw (fun y hy => by have := w'.1 y hy; simpa [Lit.wf, IntKind.min, IntKind.max, IntKind.signed, IntKind.bits] using this) (by omega)
end Go.Proofs.Ytibnmlbjahcjmaa
