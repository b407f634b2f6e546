/- Facts that the statement's proof is made of. No condition. -/
import Derived.Test.YtkdohhmacfoolaaGreatNeLon
import Derived.Test.YtkdohhmacfoolaaGreatNeSeaM
set_option linter.unusedVariables false
set_option linter.unusedSimpArgs false
namespace Go.Proofs.YtkdohhmacfoolaaGreat
open Go.Pt
section
variable {g g2 : aG} {a b : Int} {A B : List E}
theorem bKc (hc : g2.Config = g.Config) (hh : g2.Hashes = g.Hashes) (h1 : en g.Edges = A ++ B) (h2 : en g2.Edges = A ++ (a, b) :: B) (hf : ∀ k, fo g2.Edges k = fo g.Edges k) {k x : Int} (hl : Lon g2 k x) : Lon g k x ∨ GT g2 k x a ∨ GT g2 k x b := by
 by_cases ca : GT g2 k x a
 ·
  exact .inr (.inl ca)
 by_cases cb : GT g2 k x b
 ·
  exact .inr (.inr cb)
 left
 have e0 : ∀ t x y, GT g2 t x y ↔ GT g t x y := fun t x y => bEu (hf t)
 have ep : pf g2 k = pf g k := by unfold pf; rw [hf]
 refine ⟨fun ⟨y, p, q⟩ => hl.1 ⟨y, (e0 _ _ _).2 p, fun c => q ((e0 _ _ _).1 c)⟩, ?_⟩
 have := hl.2
 rw [vZ] at this ⊢
 have e1 : hsh g2 k = hsh g k := by unfold hsh; rw [hc, hh]
 have e2 : ctq g2 k x = ctq g k x := by
  unfold ctq bAc
  rw [h1, h2, ep, List.filter_append, List.filter_append, List.filter_cons_of_neg]
  rw [aS6, pY, pY]
  rintro (⟨q, _⟩ | ⟨_, q⟩)
  ·
   exact ca ((e0 _ _ _).2 q.symm)
  ·
   exact cb ((e0 _ _ _).2 q.symm)
 rw [e1, hc, e2] at this; exact this
theorem bJb (hd : (en g.Edges).Nodup) (hc : g2.Config = g.Config) (hh : g2.Hashes = g.Hashes) (h1 : en g2.Edges = A ++ B) (h2 : en g.Edges = A ++ (a, b) :: B) (hf : ∀ k q, q ∈ en (fo g2.Edges k) ↔ q ∈ en (fo g.Edges k) ∧ q ≠ (a, b)) {k x : Int} (hl : Lon g2 k x) : Lon g k x ∨ GT g2 k x a ∨ GT g2 k x b := by
 by_cases ca : GT g2 k x a
 ·
  exact .inr (.inl ca)
 by_cases cb : GT g2 k x b
 ·
  exact .inr (.inr cb)
 left
 have sub : ∀ {t x y}, GT g2 t x y → GT g t x y := fun h => h.mono fun q hq => ((hf _ q).1 hq).1
 have key : ∀ {t x y}, GT g t x y → GT g2 t x y ∨ GT g2 t x a ∨ GT g2 t x b := fun {t x y} h => by
  have : bN ((a, b) :: en (fo g2.Edges t)) x y := h.mono fun q hq => by
   by_cases e : q = (a, b)
   ·
    simp [e]
   ·
    exact List.mem_cons_of_mem _ ((hf _ q).2 ⟨hq, e⟩)
  rcases aIy this with h | ⟨h | h, _⟩
  ·
   exact .inl h
  ·
   exact .inr (.inl h)
  ·
   exact .inr (.inr h)
 have e0 : ∀ y, GT g2 k x y ↔ GT g k x y := fun y => ⟨sub, fun h => (key h).resolve_right fun c => c.elim ca cb⟩
 refine ⟨fun ⟨y, p, q⟩ => ?_, ?_⟩
 ·
  rcases key p with r | r | r
  ·
   exact hl.1 ⟨y, r, fun c => q ((e0 y).1 c)⟩
  ·
   exact hl.1 ⟨a, r, ca⟩
  ·
   exact hl.1 ⟨b, r, cb⟩
 ·
  have := hl.2
  rw [vZ] at this ⊢
  have e1 : hsh g2 k = hsh g k := by unfold hsh; rw [hc, hh]
  have e2 : ctq g2 k x = ctq g k x := by
   unfold ctq bAc
   rw [h1, h2, List.filter_append, List.filter_append, List.filter_cons_of_neg]
   ·
    have fc : ∀ q, inQ (pf g2 k) x q = inQ (pf g k) x q := fun q => aUj fun y => by
     rw [pY, pY]
     exact ⟨fun c => ((e0 y).1 c.symm).symm, fun c => ((e0 y).2 c.symm).symm⟩
    rw [List.filter_congr fun q _ => fc q, List.filter_congr fun q _ => fc q]
   ·
    rw [aS6, pY, pY]
    rintro (⟨q, _⟩ | ⟨_, q⟩)
    ·
     exact ca ((e0 _).2 q.symm)
    ·
     exact cb ((e0 _).2 q.symm)
  rw [e1, hc, e2] at this; exact this
end
theorem bG0 {n : Int} : ∀ {l m : List aD}, (en l).Pairwise ltE → (en m).Pairwise ltE → (∀ e, e ∈ l ↔ e ∈ m) → l = m
 | [], [], _, _, _ => rfl
 | [], y :: m, _, _, h => by have := (h y).2 (by simp); cases this
 | x :: l, [], _, _, h => by have := (h x).1 (by simp); cases this
 | x :: l, y :: m, h1, h2, h => by
  rw [aI2, List.pairwise_cons] at h1 h2
  have irr : ∀ {q : E}, ¬ ltE q q := fun h => by unfold ltE at h; omega
  have g1 : ∀ e, e ∈ l → ltE (x.U, x.V) (e.U, e.V) := fun e he => h1.1 _ (fQ.2 ⟨e, he, rfl⟩)
  have g2 : ∀ e, e ∈ m → ltE (y.U, y.V) (e.U, e.V) := fun e he => h2.1 _ (fQ.2 ⟨e, he, rfl⟩)
  have exy : x = y := by
   rcases List.mem_cons.1 ((h x).1 (by simp)) with c | c
   ·
    exact c
   ·
    rcases List.mem_cons.1 ((h y).2 (by simp)) with d | d
    ·
     exact d.symm
    ·
     exact absurd (aE9 (g1 y d) (g2 x c)) irr
  subst exy
  rw [bG0 (n := n) h1.2 h2.2 fun e => ?_]
  constructor
  ·
   intro he
   rcases List.mem_cons.1 ((h e).1 (by simp [he])) with c | c
   ·
    subst c; exact absurd (g1 e he) irr
   ·
    exact c
  ·
   intro he
   rcases List.mem_cons.1 ((h e).2 (by simp [he])) with c | c
   ·
    subst c; exact absurd (g2 e he) irr
   ·
    exact c
section
variable {n L K t : Int} {l : List aD} {a b : Int}
theorem aL0 (h : Ti n L l) (hn : 0 ≤ n) (hK : K ≤ L) (hc : CT l K a b) (x : aD) : bD5 l L a b x ↔ bD5 l K a b x := by
 have sub : ∀ q, q ∈ en (fo l K) → q ∈ en (fo l L) := fun q hq => by cases q; exact h.big hq
 constructor
 ·
  rintro ⟨h1, h2⟩
  obtain ⟨m1, m2, m3⟩ := eK.1 h1
  refine ⟨eK.2 ⟨m1, m2, Classical.byContradiction fun c => h2 (hc.mono fun q hq => gY.2 ⟨sub q hq, fun e => ?_⟩)⟩, fun c => h2 (c.mono fun q hq => gY.2 ⟨sub q (gY.1 hq).1, (gY.1 hq).2⟩)⟩
  subst e
  exact h.not_mem m1 (by omega) hq
 ·
  rintro ⟨h1, h2⟩
  obtain ⟨m1, m2, m3⟩ := eK.1 h1
  refine ⟨eK.2 ⟨m1, m2, by omega⟩, fun c => ?_⟩
  have hx : (x.U, x.V) ∈ en (fo l K) := pH.2 ⟨x, m1, rfl, rfl, m2, m3⟩
  have nb := (h.fr.wo (h.inR hn L) (h.tb.fo_nodup L) (sub _ hx)).2
  have up : ∀ {c d : Int}, bN (wo (en (fo l K)) (x.U, x.V)) c d → bN (wo (en (fo l L)) (x.U, x.V)) c d := fun k => k.mono fun q hq => gY.2 ⟨sub q (gY.1 hq).1, (gY.1 hq).2⟩
  rcases bN.cons_iff.1 ((aL5 (h.tb.fo_nodup K) hx a b).1 hc) with k | ⟨k1, k2⟩ | ⟨k1, k2⟩
  ·
   exact h2 k
  ·
   exact nb ((up k1).symm.trans (c.trans (up k2).symm))
  ·
   exact nb ((up k2).trans (c.symm.trans (up k1)))
theorem aZk (h : Ti n L l) (hn : 0 ≤ n) (hK : K ≤ L) (hc : CT l K a b) {x : aD} : yW l L a b x ↔ yW l K a b x := by
 constructor
 ·
  exact fun k => ⟨(aL0 h hn hK hc x).1 k.sep, fun y hy => k.max y ((aL0 h hn hK hc y).2 hy)⟩
 ·
  exact fun k => ⟨(aL0 h hn hK hc x).2 k.sep, fun y hy => k.max y ((aL0 h hn hK hc y).1 hy)⟩
theorem bFo {l m : List aD} (h : fo l K = fo m K) {x : aD} : yW l K a b x → yW m K a b x := fun k => ⟨⟨h ▸ k.sep.1, h ▸ k.sep.2⟩, fun y hy => k.max y ⟨h.symm ▸ hy.1, h.symm ▸ hy.2⟩⟩
end
structure Apt (K : Int) (g h : aG) : Prop where
  c : h.Config = g.Config
  e : en h.Edges = en g.Edges
  f : fo h.Edges K = fo g.Edges K
  s : ∀ t, 0 ≤ t → t < K → hsh h t = hsh g t
theorem bH5 {l : List aD} {k K : Int} (h : k ≤ K) : fo (fo l K) k = fo l k := by
 unfold fo
 rw [List.filter_filter]
 refine List.filter_congr fun e _ => ?_
 rw [Bool.eq_iff_iff, Bool.and_eq_true, aEb, aEb]; omega
theorem Apt.low {K k : Int} {g h : aG} (a : Apt K g h) (hk : k ≤ K) : fo h.Edges k = fo g.Edges k := by rw [← bH5 hk, a.f, bH5 hk]
theorem aSq {n L K t : Int} {l l2 : List aD} {e : aD} (h : Ti n L l) (hn : 0 ≤ n) (h0 : 0 ≤ t) (htK : t < K) (hK : K ≤ L) (he : e ∈ l) (hs : aP1 l L t e l2) (x : aD) :
 x ∈ fo l2 K ↔ x = ⟨e.U, e.V, t + 1⟩ ∨ (x ∈ fo l K ∧ ¬ (x.U = e.U ∧ x.V = e.V) ∧ ¬ ((e.U, e.V) ∉ en (fo l K) ∧ CT l K e.U e.V ∧ yW l K e.U e.V x)) := by
 have hx1 : ∃ y, y ∈ l ∧ y.U = e.U ∧ y.V = e.V := ⟨e, he, rfl, rfl⟩
 rcases hs with ⟨h1, h2, top, h3, rfl⟩ | ⟨h1, rfl⟩
 ·
  obtain ⟨htl, ht1, ht2⟩ := eK.1 h3.sep.1
  have hne : ¬ (e.U = top.U ∧ e.V = top.V) := fun q => by
   have := h.tb.inj he htl q.1 q.2
   subst this; omega
  have hx1 : ∃ y, y ∈ l ∧ y.U = top.U ∧ y.V = top.V := ⟨top, htl, rfl, rfl⟩
  have hx2 : ∃ y, y ∈ setT l top 0 ∧ y.U = e.U ∧ y.V = e.V := ⟨e, (oK hx1).2 (.inl ⟨he, hne⟩), rfl, rfl⟩
  have hek : (e.U, e.V) ∉ en (fo l K) := h.not_mem he (by omega)
  rw [eK, oK hx2, oK hx1, eK]
  constructor
  ·
   rintro ⟨⟨⟨m1, m2⟩ | m1, m3⟩ | m1, m4, m5⟩
   ·
    refine .inr ⟨⟨m1, m4, m5⟩, m3, fun ⟨_, q1, q2⟩ => ?_⟩
    have := ((aZk h hn hK q1).2 q2).uniq h3
    subst this; exact m2 ⟨rfl, rfl⟩
   ·
    subst m1; simp at m4
   ·
    exact .inl m1
  ·
   rintro (rfl | ⟨⟨m1, m2, m3⟩, m4, m5⟩)
   ·
    exact ⟨.inr rfl, by show 1 ≤ t + 1; omega, by show t + 1 ≤ K; omega⟩
   ·
    refine ⟨.inl ⟨.inl ⟨m1, fun q => m5 ⟨hek, ?_⟩⟩, m4⟩, m2, m3⟩
    have := h.tb.inj m1 htl q.1 q.2
    subst this
    have hc : CT l K e.U e.V := sR (aQ6 h hn h2 h3) m3
    exact ⟨hc, (aZk h hn hK hc).1 h3⟩
 ·
  rw [eK, oK hx1, eK]
  constructor
  ·
   rintro ⟨⟨m1, m2⟩ | m1, m4, m5⟩
   ·
    refine .inr ⟨⟨m1, m4, m5⟩, m2, fun ⟨q0, q1, _⟩ => ?_⟩
    have he0 : ¬ (1 ≤ e.Tier ∧ e.Tier ≤ K) := fun c => q0 (pH.2 ⟨e, he, rfl, rfl, c.1, c.2⟩)
    have hge := (nF.1 (h.tb.ok e he)).2.2.2.1
    by_cases z : e.Tier = 0
    ·
     exact h1 ⟨z, sR q1 hK⟩
    ·
     have hx : (e.U, e.V) ∈ en (fo l L) := pH.2 ⟨e, he, rfl, rfl, by omega, h.le e he⟩
     refine (h.fr.wo (h.inR hn L) (h.tb.fo_nodup L) hx).2 (q1.mono fun q hq => gY.2 ⟨by cases q; exact h.big hq, fun c => ?_⟩)
     subst c; exact q0 hq
   ·
    exact .inl m1
  ·
   rintro (rfl | ⟨⟨m1, m2, m3⟩, m4, m5⟩)
   ·
    exact ⟨.inr rfl, by show 1 ≤ t + 1; omega, by show t + 1 ≤ K; omega⟩
   ·
    exact ⟨.inl ⟨m1, m4⟩, m2, m3⟩
theorem Apt.step {K t w : Int} {g h g2 h2 : aG} (a : Apt K g h) (hg : GC g) (hh : GC h) (hK : K ≤ g.Config.L) (h0 : 0 ≤ t) (ht : t < g.Config.L) (s : aDi g t w g2) (s' : aDi h t w h2) : Apt K g2 h2 := by
 have F := s.facts hg.ti hg.n0 hg.l2 h0 ht
 have F' := s'.facts hh.ti hh.n0 hh.l2 h0 (by rw [a.c]; exact ht)
 refine ⟨by rw [F.al.c, F'.al.c, a.c], by rw [F.al.e, F'.al.e, a.e], ?_, fun t h1 h2 => by rw [F.al.hsh, F'.al.hsh, a.s t h1 h2]⟩
 by_cases hk : t < K
 ·
  have e1 := a.low (k := t) (by omega)
  have e2 := a.low (k := t + 1) (by omega)
  have hgr : Gr h t w ↔ Gr g t w := by unfold Gr GT CT; rw [e1, e2]
  have hsr : (srch h t w).map uv = (srch g t w).map uv := by
   rw [aRz, aRz, a.s t h0 hk, a.c]
   unfold ctq pf
   rw [e1, a.e]
  rcases s with ⟨h1, rfl⟩ | ⟨h1, e, l2, k2, k3, rfl⟩
  ·
   rcases s' with ⟨m1, rfl⟩ | ⟨m1, f, l3, m2, m3, rfl⟩
   ·
    exact a.f
   ·
    exfalso
    rcases h1 with q | q
    ·
     exact m1 (hgr.2 q)
    ·
     rw [m2, q] at hsr; cases hsr
  ·
   rcases s' with ⟨m1, rfl⟩ | ⟨m1, f, l3, m2, m3, rfl⟩
   ·
    exfalso
    rcases m1 with q | q
    ·
     exact h1 (hgr.1 q)
    ·
     rw [k2, q] at hsr; cases hsr
   ·
    rw [k2, m2] at hsr
    have huv : uv f = uv e := by simpa using hsr
    have eU : f.U = e.U := congrArg Prod.fst huv
    have eV : f.V = e.V := congrArg Prod.snd huv
    have t1 := aSq hg.ti hg.n0 h0 hk hK (aD0 k2).1 k3
    have t2 := aSq (h := hh.ti) hh.n0 h0 hk (by rw [a.c]; exact hK) (aD0 m2).1 m3
    refine bG0 (n := 0) ((F'.ti.tb.sub (aMb _ _)).pw) ((F.ti.tb.sub (aMb _ _)).pw) fun x => ?_
    show x ∈ fo l3 K ↔ x ∈ fo l2 K
    rw [t1, t2, eU, eV, a.f]
    have ic : ∀ y, yW h.Edges K e.U e.V y ↔ yW g.Edges K e.U e.V y := fun y => ⟨bFo a.f, bFo a.f.symm⟩
    have cc : CT h.Edges K e.U e.V ↔ CT g.Edges K e.U e.V := by unfold CT; rw [a.f]
    rw [ic, cc]
 ·
  rw [F.low K (by omega), F'.low K (by omega), a.f]
end Go.Proofs.YtkdohhmacfoolaaGreat
set_option linter.unusedVariables false
set_option linter.unusedSimpArgs false
set_option maxRecDepth 20000
set_option maxHeartbeats 1000000
namespace Go.Proofs.YtkdohhmacfoolaaGreat
open Go Go.AM Go.Pl Go.Pt
theorem addN (a b : Nat) : Int.tmod (IntKind.u64.wrap (Int.tmod (a : Int) 2305843009213693951 + Int.tmod (b : Int) 2305843009213693951)) 2305843009213693951 = (((a % 2305843009213693951 + b % 2305843009213693951) % 2305843009213693951 : Nat) : Int) := by
 rw [aPy, aPy, ← Int.natCast_add, wuN (by omega), aPy]
def HOK (h : bT) : Prop := 0 ≤ h.A ∧ 0 ≤ h.B
theorem aO0 {h : bT} (hh : HOK h) (x : Nat) : vI h (x : Int) = some ((aNt h x : Nat) : Int) := by
 obtain ⟨a, b⟩ := h
 obtain ⟨h1, h2⟩ := hh
 obtain ⟨a, rfl⟩ := Int.eq_ofNat_of_zero_le h1
 obtain ⟨b, rfl⟩ := Int.eq_ofNat_of_zero_le h2
 unfold vI
 rw [bIz, aA]
 unfold aNd aAp
 rw [aA, aA, aA, addN]
 unfold aNt
 rw [Nat.mod_mod]
 simp only [Int.toNat_natCast]
theorem aOs (j : Nat) : vV (j : Int) = some ((aC5 j : Nat) : Int) := by
 unfold vV aC5
 by_cases h : j < 61
 ·
  rw [bf (by simp; omega), ck (by simp), aA, if_pos h]
  have := bB8 2305843009213693951 j (by omega)
  exact congrArg some this
 ·
  rw [bt (by simp; omega), if_neg h]; rfl
theorem bGx {i j : Nat} (h : i ≤ j) : aC5 j ≤ aC5 i := by
 unfold aC5
 by_cases c : j < 61
 ·
  rw [if_pos c, if_pos (by omega)]
  exact Nat.div_le_div_left (Nat.pow_le_pow_right (by decide) h) (Nat.pow_pos (by decide))
 ·
  rw [if_neg c]; exact Nat.zero_le _
theorem aK4 (V x : Nat) (hV : V ≤ 61) : ∀ (m i : Nat), V < i + m → i ≤ V → (∀ j, j < i → x < aC5 j) → ∃ d, kR m (V : Int) (x : Int) (i : Int) = some ((d : Nat) : Int) ∧ d ≤ V ∧ ∀ j, j < V → (j < d ↔ x < aC5 j)
 | 0, i, h, h', _ => by omega
 | m + 1, i, h, h', hb => by
  have step : kR (m + 1) (V : Int) (x : Int) (i : Int) = if i < V ∧ x < aC5 i then kR m (V : Int) (x : Int) ((i + 1 : Nat) : Int) else some (i : Int) := by
   show aBk (kR m) _ _ _ = _
   unfold aBk
   have e : (if (61 : Int) < (V : Int) then 61 else (V : Int)) = (V : Int) := if_neg (by omega)
   rw [e, aOs, fO, aA, wr1 i (by omega)]
   by_cases c : i < V
   ·
    rw [nU c]
    by_cases c' : x < aC5 i
    ·
     rw [bt (by simp; exact c'), if_pos ⟨c, c'⟩]
    ·
     rw [bf (by simp; omega), if_neg (fun q => c' q.2)]
   ·
    rw [nY c, bf (by simp), if_neg (fun q => c q.1)]
  rw [step]
  by_cases c : i < V ∧ x < aC5 i
  ·
   rw [if_pos c]
   exact aK4 V x hV m (i + 1) (by omega) (by omega) fun j hj => by
    by_cases e : j = i
    ·
     subst e; exact c.2
    ·
     exact hb j (by omega)
  ·
   rw [if_neg c]
   refine ⟨i, rfl, h', fun j hj => ⟨hb j, fun hx => Classical.byContradiction fun q => c ⟨by omega, Nat.lt_of_lt_of_le hx (bGx (by omega))⟩⟩⟩
theorem aRf {h : bT} (hh : HOK h) (x V : Nat) (hV : V ≤ 61) : ∃ d, yH h (x : Int) (V : Int) = some ((d : Nat) : Int) ∧ d ≤ V ∧ ∀ j, j < V → (j < d ↔ aNt h x < aC5 j) := by
 have hFU := FU
 unfold yH
 rw [aO0 hh, aA]
 exact aK4 V (aNt h x) hV bF 0 (by omega) (Nat.zero_le _) (fun j hj => by omega)
set_option maxRecDepth 100000 in
theorem aUn : ∀ n : Nat, n < 1025 → 1 ≤ n → tG (n : Int) = some ((lvl n : Nat) : Int) ∧ 2 ≤ lvl n ∧ lvl n ≤ 22 := by decide +kernel
theorem aLx {n : Int} (h1 : 1 ≤ n) (h2 : n ≤ 1024) : tG n = some ((lvl n : Nat) : Int) ∧ 2 ≤ lvl n ∧ lvl n ≤ 22 := by
 obtain ⟨k, rfl⟩ := Int.eq_ofNat_of_zero_le (a := n) (by omega)
 exact aUn k (by omega) (by omega)
end Go.Proofs.YtkdohhmacfoolaaGreat
set_option linter.unusedVariables false
set_option linter.unusedSimpArgs false
namespace Go.Pt
def bTm {α : Type} (f : α → Nat) : List α → Nat
  | [] => 0
  | a :: l => f a ^^^ bTm f l
section
variable {α : Type}
end
end Go.Pt
namespace Go.Proofs.YtkdohhmacfoolaaGreat
open Go.Pt
theorem bCk {hs : List bT} {V : Nat} : aMq hs V [] = none := by
 unfold aMq
 rw [List.findSome?_eq_none_iff]
 intro w _; rfl
end Go.Proofs.YtkdohhmacfoolaaGreat
