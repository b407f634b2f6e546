/- Facts that the statement's proof is made of. No condition. -/
import Derived.Test.YtkdohhmacfoolaaGreatNbLon
set_option linter.unusedVariables false
set_option linter.unusedSimpArgs false
namespace Go.Proofs.YtkdohhmacfoolaaGreat
open Go.Pt
section
variable {g g2 : aJ} {a b : Int} {A B : List E}
end
theorem aVl {n : Int} : ∀ {l m : List aC}, (en l).Pairwise ltE → (en m).Pairwise ltE → (∀ e, e ∈ l ↔ e ∈ m) → l = m
  | [], [], _, _, _ => rfl
  | [], y :: m, _, _, h => by have := (h y).2 (by simp); cases this
  | x :: l, [], _, _, h => by have := (h x).1 (by simp); cases this
  | x :: l, y :: m, h1, h2, h => by
    rw [aB8, List.pairwise_cons] at h1 h2
    have irr : ∀ {q : E}, ¬ ltE q q := fun h => by unfold ltE at h; omega
    have g1 : ∀ e, e ∈ l → ltE (x.U, x.V) (e.U, e.V) := fun e he => h1.1 _ (wI.2 ⟨e, he, rfl⟩)
    have g2 : ∀ e, e ∈ m → ltE (y.U, y.V) (e.U, e.V) := fun e he => h2.1 _ (wI.2 ⟨e, he, rfl⟩)
    have exy : x = y := by
      rcases List.mem_cons.1 ((h x).1 (by simp)) with c | c
      · exact c
      · rcases List.mem_cons.1 ((h y).2 (by simp)) with d | d
        · exact d.symm
        · exact absurd (zC (g1 y d) (g2 x c)) irr
    subst exy
    rw [aVl (n := n) h1.2 h2.2 fun e => ?_]
    constructor
    · intro he
      rcases List.mem_cons.1 ((h e).1 (by simp [he])) with c | c
      · subst c; exact absurd (g1 e he) irr
      · exact c
    · intro he
      rcases List.mem_cons.1 ((h e).2 (by simp [he])) with c | c
      · subst c; exact absurd (g2 e he) irr
      · exact c
section
variable {n L K t : Int} {l : List aC} {a b : Int}
theorem aEm (h : Ti n L l) (hn : 0 ≤ n) (hK : K ≤ L) (hc : CT l K a b) (x : aC) : aUi l L a b x ↔ aUi l K a b x := by
  have sub : ∀ q, q ∈ en (fo l K) → q ∈ en (fo l L) := fun q hq => by cases q; exact h.big hq
  constructor
  · rintro ⟨h1, h2⟩
    obtain ⟨m1, m2, m3⟩ := fO.1 h1
    refine ⟨fO.2 ⟨m1, m2, Classical.byContradiction fun c => h2 (hc.mono fun q hq => gC.2 ⟨sub q hq, fun e => ?_⟩)⟩, fun c => h2 (c.mono fun q hq => gC.2 ⟨sub q (gC.1 hq).1, (gC.1 hq).2⟩)⟩
    subst e
    exact h.not_mem m1 (by omega) hq
  · rintro ⟨h1, h2⟩
    obtain ⟨m1, m2, m3⟩ := fO.1 h1
    refine ⟨fO.2 ⟨m1, m2, by omega⟩, fun c => ?_⟩
    have hx : (x.U, x.V) ∈ en (fo l K) := mI.2 ⟨x, m1, rfl, rfl, m2, m3⟩
    have nb := (h.fr.wo (h.inR hn L) (h.tb.fo_nodup L) (sub _ hx)).2
    have up : ∀ {c d : Int}, cO (wo (en (fo l K)) (x.U, x.V)) c d → cO (wo (en (fo l L)) (x.U, x.V)) c d := fun k => k.mono fun q hq => gC.2 ⟨sub q (gC.1 hq).1, (gC.1 hq).2⟩
    rcases cO.cons_iff.1 ((aEu (h.tb.fo_nodup K) hx a b).1 hc) with k | ⟨k1, k2⟩ | ⟨k1, k2⟩
    · exact h2 k
    · exact nb ((up k1).symm.trans (c.trans (up k2).symm))
    · exact nb ((up k2).trans (c.symm.trans (up k1)))
theorem aPc (h : Ti n L l) (hn : 0 ≤ n) (hK : K ≤ L) (hc : CT l K a b) {x : aC} : uL l L a b x ↔ uL l K a b x := by
  constructor
  · exact fun k => ⟨(aEm h hn hK hc x).1 k.sep, fun y hy => k.max y ((aEm h hn hK hc y).2 hy)⟩
  · exact fun k => ⟨(aEm h hn hK hc x).2 k.sep, fun y hy => k.max y ((aEm h hn hK hc y).1 hy)⟩
theorem aV4 {l m : List aC} (h : fo l K = fo m K) {x : aC} : uL l K a b x → uL m K a b x := fun k => ⟨⟨h ▸ k.sep.1, h ▸ k.sep.2⟩, fun y hy => k.max y ⟨h.symm ▸ hy.1, h.symm ▸ hy.2⟩⟩
end
structure Apt (K : Int) (g h : aJ) : Prop where
  c : h.Config = g.Config
  e : en h.Edges = en g.Edges
  f : fo h.Edges K = fo g.Edges K
  s : ∀ t, 0 ≤ t → t < K → hsh h t = hsh g t
theorem aUn {l : List aC} {k K : Int} (h : k ≤ K) : fo (fo l K) k = fo l k := by
  unfold fo
  rw [List.filter_filter]
  refine List.filter_congr fun e _ => ?_
  rw [Bool.eq_iff_iff, Bool.and_eq_true, zG, zG]; omega
theorem Apt.low {K k : Int} {g h : aJ} (a : Apt K g h) (hk : k ≤ K) : fo h.Edges k = fo g.Edges k := by rw [← aUn hk, a.f, aUn hk]
theorem aJn {n L K t : Int} {l l2 : List aC} {e : aC} (h : Ti n L l) (hn : 0 ≤ n) (h0 : 0 ≤ t) (htK : t < K) (hK : K ≤ L) (he : e ∈ l) (hs : aI0 l L t e l2) (x : aC) :
    x ∈ fo l2 K ↔ x = ⟨e.U, e.V, t + 1⟩ ∨ (x ∈ fo l K ∧ ¬ (x.U = e.U ∧ x.V = e.V) ∧ ¬ ((e.U, e.V) ∉ en (fo l K) ∧ CT l K e.U e.V ∧ uL l K e.U e.V x)) := by
  have hx1 : ∃ y, y ∈ l ∧ y.U = e.U ∧ y.V = e.V := ⟨e, he, rfl, rfl⟩
  rcases hs with ⟨h1, h2, top, h3, rfl⟩ | ⟨h1, rfl⟩
  · obtain ⟨htl, ht1, ht2⟩ := fO.1 h3.sep.1
    have hne : ¬ (e.U = top.U ∧ e.V = top.V) := fun q => by
      have := h.tb.inj he htl q.1 q.2
      subst this; omega
    have hx1 : ∃ y, y ∈ l ∧ y.U = top.U ∧ y.V = top.V := ⟨top, htl, rfl, rfl⟩
    have hx2 : ∃ y, y ∈ setT l top 0 ∧ y.U = e.U ∧ y.V = e.V := ⟨e, (nK hx1).2 (.inl ⟨he, hne⟩), rfl, rfl⟩
    have hek : (e.U, e.V) ∉ en (fo l K) := h.not_mem he (by omega)
    rw [fO, nK hx2, nK hx1, fO]
    constructor
    · rintro ⟨⟨⟨m1, m2⟩ | m1, m3⟩ | m1, m4, m5⟩
      · refine .inr ⟨⟨m1, m4, m5⟩, m3, fun ⟨_, q1, q2⟩ => ?_⟩
        have := ((aPc h hn hK q1).2 q2).uniq h3
        subst this; exact m2 ⟨rfl, rfl⟩
      · subst m1; simp at m4
      · exact .inl m1
    · rintro (rfl | ⟨⟨m1, m2, m3⟩, m4, m5⟩)
      · exact ⟨.inr rfl, by show 1 ≤ t + 1; omega, by show t + 1 ≤ K; omega⟩
      · refine ⟨.inl ⟨.inl ⟨m1, fun q => m5 ⟨hek, ?_⟩⟩, m4⟩, m2, m3⟩
        have := h.tb.inj m1 htl q.1 q.2
        subst this
        have hc : CT l K e.U e.V := oL (aHe h hn h2 h3) m3
        exact ⟨hc, (aPc h hn hK hc).1 h3⟩
  · rw [fO, nK hx1, fO]
    constructor
    · rintro ⟨⟨m1, m2⟩ | m1, m4, m5⟩
      · refine .inr ⟨⟨m1, m4, m5⟩, m2, fun ⟨q0, q1, _⟩ => ?_⟩
        have he0 : ¬ (1 ≤ e.Tier ∧ e.Tier ≤ K) := fun c => q0 (mI.2 ⟨e, he, rfl, rfl, c.1, c.2⟩)
        have hge := (qZ.1 (h.tb.ok e he)).2.2.2.1
        by_cases z : e.Tier = 0
        · exact h1 ⟨z, oL q1 hK⟩
        · have hx : (e.U, e.V) ∈ en (fo l L) := mI.2 ⟨e, he, rfl, rfl, by omega, h.le e he⟩
          refine (h.fr.wo (h.inR hn L) (h.tb.fo_nodup L) hx).2 (q1.mono fun q hq => gC.2 ⟨by cases q; exact h.big hq, fun c => ?_⟩)
          subst c; exact q0 hq
      · exact .inl m1
    · rintro (rfl | ⟨⟨m1, m2, m3⟩, m4, m5⟩)
      · exact ⟨.inr rfl, by show 1 ≤ t + 1; omega, by show t + 1 ≤ K; omega⟩
      · exact ⟨.inl ⟨m1, m4⟩, m2, m3⟩
theorem Apt.step {K t w : Int} {g h g2 h2 : aJ} (a : Apt K g h) (hg : GC g) (hh : GC h) (hK : K ≤ g.Config.L) (h0 : 0 ≤ t) (ht : t < g.Config.L) (s : aBq g t w g2) (s' : aBq h t w h2) : Apt K g2 h2 := by
  have F := s.facts hg.ti hg.n0 hg.l2 h0 ht
  have F' := s'.facts hh.ti hh.n0 hh.l2 h0 (by rw [a.c]; exact ht)
  refine ⟨by rw [F.al.c, F'.al.c, a.c], by rw [F.al.e, F'.al.e, a.e], ?_, fun t h1 h2 => by rw [F.al.hsh, F'.al.hsh, a.s t h1 h2]⟩
  by_cases hk : t < K
  · have e1 := a.low (k := t) (by omega)
    have e2 := a.low (k := t + 1) (by omega)
    have hgr : Gr h t w ↔ Gr g t w := by unfold Gr GT CT; rw [e1, e2]
    have hsr : (srch h t w).map uv = (srch g t w).map uv := by
      rw [aIu, aIu, a.s t h0 hk, a.c]
      unfold ctq pf
      rw [e1, a.e]
    rcases s with ⟨h1, rfl⟩ | ⟨h1, e, l2, k2, k3, rfl⟩
    · rcases s' with ⟨m1, rfl⟩ | ⟨m1, f, l3, m2, m3, rfl⟩
      · exact a.f
      · exfalso
        rcases h1 with q | q
        · exact m1 (hgr.2 q)
        · rw [m2, q] at hsr; cases hsr
    · rcases s' with ⟨m1, rfl⟩ | ⟨m1, f, l3, m2, m3, rfl⟩
      · exfalso
        rcases m1 with q | q
        · exact h1 (hgr.1 q)
        · rw [k2, q] at hsr; cases hsr
      · rw [k2, m2] at hsr
        have huv : uv f = uv e := by simpa using hsr
        have eU : f.U = e.U := congrArg Prod.fst huv
        have eV : f.V = e.V := congrArg Prod.snd huv
        have t1 := aJn hg.ti hg.n0 h0 hk hK (aBo k2).1 k3
        have t2 := aJn (h := hh.ti) hh.n0 h0 hk (by rw [a.c]; exact hK) (aBo m2).1 m3
        refine aVl (n := 0) ((F'.ti.tb.sub (aG2 _ _)).pw) ((F.ti.tb.sub (aG2 _ _)).pw) fun x => ?_
        show x ∈ fo l3 K ↔ x ∈ fo l2 K
        rw [t1, t2, eU, eV, a.f]
        have ic : ∀ y, uL h.Edges K e.U e.V y ↔ uL g.Edges K e.U e.V y := fun y => ⟨aV4 a.f, aV4 a.f.symm⟩
        have cc : CT h.Edges K e.U e.V ↔ CT g.Edges K e.U e.V := by unfold CT; rw [a.f]
        rw [ic, cc]
  · rw [F.low K (by omega), F'.low K (by omega), a.f]
end Go.Proofs.YtkdohhmacfoolaaGreat
