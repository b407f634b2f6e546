/- Facts that the statement's proof is made of. No condition. -/
import Derived.Test.YtibnmlbjahcjmaaQvRuT
set_option linter.unusedVariables false
set_option linter.unusedSimpArgs false
set_option maxRecDepth 20000
set_option maxHeartbeats 1000000
namespace Go.Proofs.Ytibnmlbjahcjmaa
open Go Go.AM Go.Pl Go.Pt
def bar (e : GEdge) : GEdge := ⟨e.U, e.V, 0⟩
theorem en_bar (l : List GEdge) : en (l.map bar) = en l := by unfold en; rw [List.map_map]; rfl
theorem bar_en : ∀ {l m : List GEdge}, en l = en m → l.map bar = m.map bar
  | [], [], _ => rfl
  | [], b :: m, h => by simp [en] at h
  | a :: l, [], h => by simp [en] at h
  | a :: l, b :: m, h => by
    rw [en_cons, en_cons, List.cons.injEq, Prod.mk.injEq] at h
    rw [List.map_cons, List.map_cons, bar_en h.2]
    unfold bar
    rw [h.1.1, h.1.2]
theorem bar_len (l : List GEdge) : (l.map bar).length = l.length := List.length_map _
theorem okE_bar {n : Int} {e : GEdge} (h : okE n e = true) : okE n (bar e) = true := by
  rw [okE_iff] at h ⊢; unfold bar; simp only; omega
theorem trB_bar {n : Int} {l : List GEdge} (h : trB n l = true) : trB n (l.map bar) = true := by
  rw [trB_iff] at h ⊢
  refine ⟨h.1, h.2.1, ⟨by rw [en_bar]; exact h.2.2.pw, fun e he => ?_⟩⟩
  obtain ⟨x, hx, rfl⟩ := List.mem_map.1 he
  exact okE_bar (h.2.2.ok x hx)
theorem fEnds_bar (u v : Int) (e : GEdge) : fEnds u v (bar e) = fEnds u v e := rfl
theorem lessE_bar (a x : GEdge) : lessE (bar a) x = lessE a x := rfl
theorem AddR.bar {l : List GEdge} {x : GEdge} {l' : List GEdge} (h : AddR l x l') (hx : bar x = x) : AddR (l.map bar) x (l'.map bar) := by
  obtain ⟨q, q1, q2, q3, q4⟩ := h
  refine ⟨q, by rw [bar_len]; exact q1, ?_, fun j e hj he => ?_, fun e he => ?_⟩
  · rw [q2, List.map_append, List.map_cons, List.map_take, List.map_drop, hx]
  · rw [List.getElem?_map] at he
    obtain ⟨y, hy, rfl⟩ := Option.map_eq_some_iff.1 he
    rw [lessE_bar]; exact q3 j y hj hy
  · rw [List.getElem?_map] at he
    obtain ⟨y, hy, rfl⟩ := Option.map_eq_some_iff.1 he
    rw [lessE_bar]; exact q4 y hy
theorem fnd_bar (u v : Int) : ∀ (l : List GEdge) (i : Nat), fnd (fEnds u v) (l.map bar) i = fnd (fEnds u v) l i
  | [], _ => rfl
  | a :: l, i => by
    rw [List.map_cons, fnd_cons, fnd_cons, fEnds_bar, fnd_bar u v l (i + 1)]
theorem ins_add {g : GGraph} {u v : Int} {r : GGraph × Int} {s : List GEdge × Int} (h : InsO g u v r) (k : AddO g.Config.N (g.Edges.map bar) u v s) : r.2 = s.2 ∧ s.1 = r.1.Edges.map bar := by
  rcases h with ⟨h1, rfl⟩ | ⟨h1, h2, rfl⟩ | ⟨h1, h2, ⟨e, h3, h4⟩, rfl⟩ | ⟨h1, h2, h3, l', g2, h4, hg, h5, h6, rfl⟩ <;> rcases k with ⟨k1, rfl⟩ | ⟨k1, k2, rfl⟩ | ⟨k1, k2, ⟨f, k3, k4⟩, rfl⟩ | ⟨k1, k2, k3, y, k4, rfl⟩ <;> first | (exfalso; contradiction) | skip
  · exact ⟨rfl, rfl⟩
  · exact ⟨rfl, rfl⟩
  · exact ⟨rfl, rfl⟩
  · have := k3 (bar e) (List.mem_map.2 ⟨e, h3, rfl⟩)
    rw [fEnds_bar, h4] at this; cases this
  · obtain ⟨x, hx, rfl⟩ := List.mem_map.1 k3
    have := h3 x hx
    rw [fEnds_bar, this] at k4; cases k4
  · have F := h5.facts (gok hg.ok).gc (Int.le_refl _)
    have e1 := k4.uniq (h4.bar rfl)
    refine ⟨rfl, ?_⟩
    show y = g2.Edges.map bar
    rw [e1]
    exact (bar_en F.al.e).symm
theorem del_rem {g : GGraph} {u v : Int} {r : GGraph × Int} {s : List GEdge × Int} (h : DelO g u v r) (k : RemO g.Config.N (g.Edges.map bar) u v s) : r.2 = s.2 ∧ s.1 = r.1.Edges.map bar := by
  unfold RemO at k
  rw [fnd_bar] at k
  rcases h with ⟨h1, rfl⟩ | ⟨h1, h2, rfl⟩ | ⟨h1, i, g2, h2, hg, h5, h6, rfl⟩ <;> rcases k with ⟨k1, rfl⟩ | ⟨k1, k2, rfl⟩ | ⟨k1, j, k2, rfl⟩ <;> first | (exfalso; contradiction) | skip
  · exact ⟨rfl, rfl⟩
  · exact ⟨rfl, rfl⟩
  · rw [h2] at k2; cases k2
  · rw [h2] at k2; cases k2
  · rw [h2] at k2; cases k2
    have F := h5.facts (gok hg.ok).gc (Int.le_refl _)
    refine ⟨rfl, ?_⟩
    show (g.Edges.map bar).take i ++ (g.Edges.map bar).drop (i + 1) = g2.Edges.map bar
    rw [bar_en F.al.e, List.map_append, List.map_take, List.map_drop]
theorem TiersRefine_L2_eq {g : GGraph} (h : GD g) {c : GConfig} (hc : g.Config = c) (rec1 : GConfig → GGraph → List GEdge → List GRaftsmanlaw15Act → Int → Int → Option (Bool)) (L : List GRaftsmanlaw15Act) (T i : Int) : ∀ (m j : Nat), g.Edges.length < j + m → j ≤ g.Edges.length →
    TiersRefine_L2 rec1 m c g (g.Edges.map bar) ((g.Edges.map bar).take j) L T i g.Edges (g.Edges.length : Int) (j : Int) = rec1 c g (g.Edges.map bar) L T (IntKind.i64.wrap (i + 1))
  | 0, j, _, _ => by omega
  | m + 1, j, hm, hj => by
    have hE := h.e
    have k := gok h.ok
    have n1 := k.n1
    have hbl := bar_len g.Edges
    show TiersRefine_B2 rec1 (TiersRefine_L2 rec1 m) _ _ _ _ _ _ _ _ _ _ = _
    unfold TiersRefine_B2 TiersRefine_J1
    by_cases q : j < g.Edges.length
    · have q' : j < (g.Edges.map bar).length := by rw [hbl]; exact q
      have e : (g.Edges.map bar).take j ++ [GEdge.mk g.Edges[j].U g.Edges[j].V 0] = (g.Edges.map bar).take (j + 1) := by
        rw [take_snoc q', List.getElem_map]; rfl
      rw [bt (lt_t q), idx_get q, some_bind', app_ok (by rw [List.length_take]; simp; omega), some_bind', e, wr1 j (by omega)]
      exact TiersRefine_L2_eq h hc rec1 L T i m (j + 1) (by omega) q
    · have e : (g.Edges.map bar).take j = g.Edges.map bar := List.take_of_length_le (by omega)
      have rgb : Rg g.Config.N (g.Edges.map bar) := (trB_iff.1 (trB_bar k.tr)).2.2.rg
      have cN : c.N = g.Config.N := by rw [hc]
      have rf : partRefines_m (pt g.Config.N (kf g)) (pt g.Config.N (g.Edges.map bar)) = some true :=
        partRefines_eq (by omega) k.n2 (fo_Rg k.rg _) rgb fun x y q => by rw [en_bar]; exact q.mono (en_sub fun e he => mem_fo he)
      rw [bf (lt_f q), e, ref03Same_eq _ _ (by omega), some_bind', decide_eq_true rfl, searchRight_eq h.e h.h, gt' (by rfl), some_bind', h.ok, grB_kept h, gt' (by rfl), some_bind', cN, ref09Of_pt (by omega) k.n2 (by omega) rgb, gt' (by rfl), some_bind', rf, gt' (by rfl), some_bind', bf (by rfl)]
theorem TiersRefine_L {L : List GRaftsmanlaw15Act} (hL : L.length < 1000) {c : GConfig} : ∀ (m i : Nat) (g : GGraph), L.length < i + m → i ≤ L.length → GD g → g.Config = c → g.Edges.length ≤ i → TiersRefine_L1 m c g (g.Edges.map bar) L (L.length : Int) (i : Int) = some true
  | 0, i, g, _, _, _, _, _ => by omega
  | m + 1, i, g, hm, hi, h, hc, he => by
    have hFU := FU
    have hbl := bar_len g.Edges
    have k := gok h.ok
    have cN : c.N = g.Config.N := by rw [hc]
    show TiersRefine_B1 (TiersRefine_L1 m) _ _ _ _ _ _ = _
    unfold TiersRefine_B1
    by_cases q : i < L.length
    · have go : ∀ (g2 : GGraph) (x : Int), ActF g g2 → TiersRefine_J2 (TiersRefine_L1 m) c g (g2.Edges.map bar) x g2 x L (L.length : Int) (i : Int) = some true := fun g2 x f => by
        have l2 := f.len
        unfold TiersRefine_J2
        have := TiersRefine_L2_eq f.gd (f.c.trans hc) (TiersRefine_L1 m) L (L.length : Int) (i : Int) FUEL 0 (by omega) (Nat.zero_le _)
        rw [List.take_zero, show ((0 : Nat) : Int) = (0 : Int) from rfl, wr1 i (by omega)] at this
        rw [bf (by simp), this]
        exact TiersRefine_L hL m (i + 1) g2 (by omega) q f.gd (f.c.trans hc) (by omega)
      have tb := trB_bar k.tr
      obtain ⟨⟨a, ae⟩, a1, a2⟩ := ref12Add_eq tb (by omega) L[i].U L[i].V
      obtain ⟨⟨b, be⟩, b1, b2⟩ := tiersInsert_eq h (by omega) L[i].U L[i].V
      obtain ⟨⟨r, re⟩, r1, r2⟩ := ref12Remove_eq tb (by omega) L[i].U L[i].V
      obtain ⟨⟨d, de⟩, d1, d2⟩ := tiersDelete_eq h L[i].U L[i].V
      obtain ⟨x1, x2⟩ := ins_add b2 a2
      obtain ⟨y1, y2⟩ := del_rem d2 r2
      simp only [] at x1 x2 y1 y2
      subst x1 x2 y1 y2
      rw [bt (lt_t q), idx_get q, some_bind', cN, a1, some_bind']
      simp only []
      rw [b1, some_bind']
      simp only []
      cases hG : L[i].Gone with
      | true =>
        rw [bt rfl, r1, some_bind']
        simp only []
        rw [d1, some_bind']
        exact go _ _ (del_act h d2)
      | false =>
        rw [bf rfl]
        exact go _ _ (ins_act h b2)
    · rw [bf (lt_f q), law15Awake_eq]; rfl
theorem TiersRefine_p (c : GConfig) (hs : List GHash) (acts : List GRaftsmanlaw15Act) (hw : ∀ x, x ∈ hs → HOK x) (hl : hs.length ≤ 1048576) : TiersRefine_m c hs acts = some true := by
  have hFU := FU
  unfold TiersRefine_m
  obtain ⟨n, n1, n2⟩ := law15Few_eq c acts
  rw [n1, some_bind', tiersNew_eq c hl, some_bind', law15Awake_eq]
  cases hg : grB ⟨c, hs, []⟩ with
  | false => simp
  | true =>
    simp only [if_true]
    rcases n2 with n2 | ⟨k, rfl, k1, k2, _⟩
    · rw [bt (by simp [n2])]; rfl
    · have h : GD ⟨c, hs, []⟩ := ⟨hg, hw, by simp, by simp; omega⟩
      rw [bf (by simp), acts_slc k2, some_bind']
      have := TiersRefine_L (L := acts.take k) (c := c) (by rw [List.length_take]; omega) FUEL 0 _ (by rw [List.length_take]; omega) (Nat.zero_le _) h rfl (by simp)
      exact this
theorem TiersRefine_w (c : GConfig) (hs : List GHash) (acts : List GRaftsmanlaw15Act) {A P B C : Prop} (_ : A) (w : WH hs P) (_ : B) (b : hs.length ≤ 1048576) (_ : C) : TiersRefine_m c hs acts = some true := TiersRefine_p c hs acts w.hw b
end Go.Proofs.Ytibnmlbjahcjmaa
