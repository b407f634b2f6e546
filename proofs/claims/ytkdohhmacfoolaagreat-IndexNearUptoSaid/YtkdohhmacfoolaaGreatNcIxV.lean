/- Facts that the statement's proof is made of. No condition. -/
import Derived.Test.YtkdohhmacfoolaaGreatNcIxT
set_option linter.unusedVariables false
set_option linter.unusedSimpArgs false
set_option maxRecDepth 20000
set_option maxHeartbeats 1000000
namespace Go.Proofs.YtkdohhmacfoolaaGreat
open Go Go.AM Go.Pl Go.Pt Go.Ix
theorem bGv (n : Int) (l : List bF) (hl : l.length < 1000000) : ∀ (m i : Nat), l.length < i + m → i ≤ l.length → ∃ r, sC m n l (l.length : Int) (i : Int) = some r ∧ (r = -1 ∨ r = n)
 | 0, i, hm, hi => by omega
 | m + 1, i, hm, hi => by
  show ∃ r, aC8 (sC m) _ _ _ _ = some r ∧ _
  unfold aC8
  by_cases c : i < l.length
  ·
   rw [bt (by simpa using c), cK c, aA, wr1 i (by omega)]
   by_cases q : 1000 < l[i].Text.size
   ·
    rw [bt (by simp; omega)]
    exact ⟨_, rfl, .inl rfl⟩
   ·
    rw [bf (by simp; omega)]
    exact bGv n l hl m (i + 1) (by omega) c
  ·
   rw [bf (by simpa using c)]
   exact ⟨_, rfl, .inr rfl⟩
theorem bIq (c : aN) (l : List bF) {most : Nat} (hm : most ≤ 1000) : ∃ r, rO c l (most : Int) = some r ∧ (r = -1 ∨ ∃ n : Nat, r = (n : Int) ∧ n ≤ l.length ∧ n ≤ most ∧ c.N ≤ 10 ∧ c.L ≤ 4 ∧ c.R ≤ 3) := by
 have hFU := FU'
 unfold rO
 by_cases q : (10 < c.N ∨ 4 < c.L) ∨ 3 < c.R
 ·
  rw [bt (by simp; omega)]
  exact ⟨_, rfl, .inl rfl⟩
 ·
  rw [bf (by simp; omega)]
  have e : (if (most : Int) < (l.length : Int) then (most : Int) else (l.length : Int)) = ((min most l.length : Nat) : Int) := by
   split <;> omega
  rw [e, yX rfl (by omega), aA]
  obtain ⟨r, h1, h2⟩ := bGv ((min most l.length : Nat) : Int) (l.take (min most l.length)) (by simp; omega) bK 0 (by simp; omega) (Nat.zero_le _)
  refine ⟨r, h1, h2.imp id fun h => ⟨_, h, by omega, by omega, by omega, by omega, by omega⟩⟩
theorem bG1 {c : aN} (hc : aHr c) {r : List bQ} (h2 : (r.length : Int) = c.L * c.R) (h3 : hsB r = true) (h4 : ∀ x, x ∈ r → 0 ≤ x.A ∧ 0 ≤ x.B) (h5 : r.length ≤ 128) : Rel c ⟨⟨c, r, []⟩, List.replicate c.N.toNat ⟨false, 0⟩⟩ ⟨c.N, [], []⟩ := by
 have ok := bEq hc h2 h3
 refine ⟨ok, ⟨ok.g, fun x hx => h4 x hx, by simp, by show r.length < _; omega⟩, rfl, rfl, ?_, List.Perm.refl _⟩
 have : uk (List.replicate c.N.toNat (⟨false, 0⟩ : aM)) = [] := by unfold uk; simp
 show List.Perm [] (uk (List.replicate c.N.toNat ⟨false, 0⟩))
 rw [this]
theorem start {c : aN} {words : List Int} (hw : W64 words) (hb : words.length ≤ 1048576) (l : List bF) {most : Nat} (hm : most ≤ 1000) : ∃ r2 s w e, rO c l (most : Int) = some r2 ∧ kA c ⟨words, 0⟩ = some (s, w, e) ∧
 ((decide (r2 < 0) || (e != 0)) = true ∨ ((decide (r2 < 0) || (e != 0)) = false ∧ ∃ n : Nat, r2 = (n : Int) ∧ n ≤ l.length ∧ n ≤ most ∧ Rel c s ⟨c.N, [], []⟩ ∧ s.Slots.length ≤ 10 ∧ s.Graph.Edges = [])) := by
 obtain ⟨r2, f1, f2⟩ := bIq c l hm
 obtain ⟨n1, n2⟩ := aSa (c := c) (l := words) (by omega) hw 0
 by_cases hc : aHr c
 ·
  obtain ⟨_, n4⟩ := n2 hc
  obtain ⟨n5, n6⟩ := n4 0 rfl (Nat.zero_le _)
  cases eh : hs words (c.L * c.R).toNat 0 with
  | none => exact ⟨r2, _, _, _, f1, n5 eh, .inl (by simp)⟩
  | some x =>
   refine ⟨r2, _, _, _, f1, n6 x.1 x.2 eh, ?_⟩
   rcases f2 with rfl | ⟨n, rfl, q1, q2, q3, q4, q5⟩
   ·
    exact .inl (by simp)
   ·
    obtain ⟨k, hk, hk2⟩ := lr hc
    obtain ⟨c1, c2, c3, c4⟩ := aPn words _ 0 (show hs words (c.L * c.R).toNat 0 = some (x.1, x.2) from eh) (Nat.zero_le _)
    rw [hk, Int.toNat_natCast] at c1
    refine .inr ⟨by simp, n, rfl, q1, q2, bG1 hc (by rw [c1, hk]) c3 c4 (by omega), by simp; omega, rfl⟩
 ·
  exact ⟨r2, _, _, _, f1, n1 hc, .inl (by simp)⟩
def yL (f : Int → Nat) : List Int → Nat
  | [] => 0
  | k :: l => f k + yL f l
theorem aKs (f g : Int → Nat) : ∀ l, yL (fun k => f k + g k) l = yL f l + yL g l
 | [] => rfl
 | k :: l => by
  show f k + g k + yL (fun k => f k + g k) l = (f k + yL f l) + (g k + yL g l)
  rw [aKs f g l]; omega
theorem aEb {f g : Int → Nat} : ∀ {l : List Int}, (∀ k, k ∈ l → f k = g k) → yL f l = yL g l
 | [], _ => rfl
 | k :: l, h => by unfold yL; rw [h k (List.mem_cons_self ..), aEb fun x hx => h x (List.mem_cons_of_mem _ hx)]
theorem aLl (a : Int) : ∀ {l : List Int}, l.Nodup → yL (fun k => if a = k then 1 else 0) l = if a ∈ l then 1 else 0
 | [], _ => rfl
 | k :: l, h => by
  obtain ⟨h1, h2⟩ := List.nodup_cons.1 h
  show (if a = k then 1 else 0) + yL _ l = _
  rw [aLl a h2]
  by_cases c : a = k
  ·
   subst c
   rw [if_pos rfl, if_neg h1, if_pos (List.mem_cons_self ..)]
  ·
   rw [if_neg c]
   by_cases d : a ∈ l
   ·
    rw [if_pos d, if_pos (List.mem_cons_of_mem _ d)]
   ·
    rw [if_neg d, if_neg (fun q => (List.mem_cons.1 q).elim c d)]
theorem bHe {ks : List Int} (hn : ks.Nodup) : ∀ {ps : List aO}, (∀ p, p ∈ ps → p.x0 ≠ p.x1 ∧ p.x0 ∈ ks ∧ p.x1 ∈ ks) → yL (fun k => (ps.filter (touch k)).length) ks = 2 * ps.length
 | [], _ => by
  have : ∀ l : List Int, yL (fun k => (([] : List aO).filter (touch k)).length) l = 0 := fun l => by
   induction l with
   | nil => rfl
   | cons k l ih => unfold yL; rw [ih]; rfl
  rw [this]; rfl
 | p :: ps, h => by
  obtain ⟨p1, p2, p3⟩ := h p (List.mem_cons_self ..)
  have e : yL (fun k => ((p :: ps).filter (touch k)).length) ks = yL (fun k => ((if p.x0 = k then 1 else 0) + (if p.x1 = k then 1 else 0)) + (ps.filter (touch k)).length) ks := aEb fun k _ => by
   rw [List.filter_cons]
   unfold touch
   by_cases c : p.x0 = k
   ·
    have d : ¬ p.x1 = k := fun d => p1 (c.trans d.symm)
    simp [c, d]; omega
   ·
    by_cases d : p.x1 = k
    ·
     simp [c, d]; omega
    ·
     simp [c, d]
  rw [e, aKs, aKs, aLl _ hn, aLl _ hn, if_pos p2, if_pos p3, bHe hn fun q hq => h q (List.mem_cons_of_mem _ hq), List.length_cons]
  omega
theorem Rel.knodup {c : aN} {s : aD} {m : aE} (R : Rel c s m) : m.Keys.Nodup := by
 refine R.keys.nodup_iff.2 ?_
 unfold uk
 rw [List.Nodup, List.pairwise_map]
 have : ∀ (l : List aM), (∀ i j k, At l i k → At l j k → i = j) → (l.filter (·.Used)).Pairwise fun a b => a.Key ≠ b.Key := by
  intro l
  induction l with
  | nil => intro _; simp
  | cons x l ih =>
   intro h
   have ih := ih fun i j k a b => by
    have := h (i + 1) (j + 1) k a b
    omega
   rw [List.filter_cons]
   split
   ·
    rename_i hx
    refine List.pairwise_cons.2 ⟨fun y hy e => ?_, ih⟩
    obtain ⟨y1, y2⟩ := List.mem_filter.1 hy
    obtain ⟨j, hj⟩ := List.getElem?_of_mem y1
    have := h 0 (j + 1) x.Key (by show (x :: l)[0]? = _; cases x; cases hx; rfl) (by
     show (x :: l)[j + 1]? = _
     rw [List.getElem?_cons_succ, hj, e]
     cases y; cases y2; rfl)
    omega
   ·
    exact ih
 exact this s.Slots R.ok.v.inj
theorem Rel.pair_keys {c : aN} {s : aD} {m : aE} (R : Rel c s m) {p : aO} (h : p ∈ m.Pairs) : p.x0 ≠ p.x1 ∧ p.x0 ∈ m.Keys ∧ p.x1 ∈ m.Keys := by
 rw [R.pairs.mem_iff, List.mem_map] at h
 obtain ⟨q, hq, rfl⟩ := h
 obtain ⟨e, he, rfl⟩ := gZ.1 hq
 obtain ⟨e1, e2, e3, u1, u2⟩ := R.edge he
 have k1 := aHa u1
 have k2 := aHa u2
 have ne : kv s.Slots e.U ≠ kv s.Slots e.V := fun w => by
  have := R.ok.v.inj _ _ _ k1 (by rw [w]; exact k2)
  omega
 have m1 := (R.mem _).2 ⟨_, k1⟩
 have m2 := (R.mem _).2 ⟨_, k2⟩
 unfold aC2 pr2
 simp only []
 split
 ·
  exact ⟨fun w => ne w.symm, m2, m1⟩
 ·
  exact ⟨ne, m1, m2⟩
end Go.Proofs.YtkdohhmacfoolaaGreat
set_option linter.unusedVariables false
set_option linter.unusedSimpArgs false
set_option maxRecDepth 20000
set_option maxHeartbeats 1000000
namespace Go.Proofs.YtkdohhmacfoolaaGreat
open Go Go.AM Go.Pl Go.Pt Go.Ix
theorem aV0 (b w : Bool) : uE (GA.b 4 b) w = some (b == w) := rfl
theorem aQg (n w : Int) : xP (GA.i 3 .i64 n) w = some (n == w) := rfl
theorem bFo {l : List Int} {x : Int} : l.any (fun y => y == x) = decide (x ∈ l) := by
 induction l with
 | nil => simp
 | cons a l ih =>
  rw [List.any_cons, ih]
  by_cases c : a = x
  ·
   simp [c]
  ·
   have : ¬ x = a := fun e => c e.symm
   simp [c, this]
section
variable (rec2 : aD → aE → Int → Int → List Int → Int → Int → Option Bool) (rec3 : aD → aE → Int → Int → Int → List Int → List Int → Int → Int → List Int → Int → Int → Option Bool)
theorem aWm (s : aD) (mm : aE) (many pairs k x : Int) (near t88 t127 : List Int) (t89 t90 t128 t129 : Int) (hl : near.length < 1000000) : ∀ (m i : Nat) (inn : Bool), near.length < i + m → i ≤ near.length →
 iM rec2 rec3 m s mm many pairs k near x inn t88 t89 t90 t127 t128 t129 near (near.length : Int) (i : Int) =
  iP rec2 rec3 (fun _ _ _ _ _ _ _ _ _ _ _ _ _ _ _ _ _ => none) s mm many pairs k near x (inn || (near.drop i).any (fun y => y == x)) t88 t89 t90 t127 t128 t129 near (near.length : Int) (near.length : Int)
 | 0, i, inn, hm, hi => by omega
 | m + 1, i, inn, hm, hi => by
  by_cases c : i < near.length
  ·
   have e : iM rec2 rec3 (m + 1) s mm many pairs k near x inn t88 t89 t90 t127 t128 t129 near (near.length : Int) (i : Int) = iM rec2 rec3 m s mm many pairs k near x (inn || (near[i] == x)) t88 t89 t90 t127 t128 t129 near (near.length : Int) ((i + 1 : Nat) : Int) := by
    show iP rec2 rec3 (iM rec2 rec3 m) _ _ _ _ _ _ _ _ _ _ _ _ _ _ _ _ _ = _
    unfold iP
    rw [bt (by simpa using c), cK c, aA, wr1 i (by omega)]
   rw [e, aWm s mm many pairs k x near t88 t127 t89 t90 t128 t129 hl m (i + 1) _ (by omega) c, dO c, List.any_cons, Bool.or_assoc]
  ·
   have hi' : i = near.length := by omega
   subst hi'
   rw [List.drop_length, List.any_nil, Bool.or_false]
   show iP rec2 rec3 (iM rec2 rec3 m) _ _ _ _ _ _ _ _ _ _ _ _ _ _ _ _ _ = _
   have lf : decide ((near.length : Int) < (near.length : Int)) = false := by simp
   unfold iP
   rw [lf, cond_false, cond_false]
end
section
variable {c : aN} {s : aD} {mm : aE} (R : Rel c s mm) (hS : s.Slots.length ≤ 10) (hE : s.Graph.Edges.length < 10000)
include R hS hE
theorem bF4 (rec2 : aD → aE → Int → Int → List Int → Int → Int → Option Bool) (rec3 : aD → aE → Int → Int → Int → List Int → List Int → Int → Int → List Int → Int → Int → Option Bool) (rec4 : aD → aE → Int → Int → Int → List Int → Int → Bool → List Int → Int → Int → List Int → Int → Int → List Int → Int → Int → Option Bool)
 (many pairs k x : Int) (near t88 t127 : List Int) (t89 t90 t128 t129 : Int) (hk : k ∈ mm.Keys) (hx : x ∈ mm.Keys) :
 iP rec2 rec3 rec4 s mm many pairs k near x (decide (pr2 k x ∈ mm.Pairs)) t88 t89 t90 t127 t128 t129 near (near.length : Int) (near.length : Int) =
  rec3 s mm many (if pr2 k x ∈ mm.Pairs then IntKind.i64.wrap (pairs + 1) else pairs) k near t88 t89 t90 t127 t128 (IntKind.i64.wrap (t129 + 1)) := by
 unfold iP uB
 rw [bf (by simp), has_eq R (by omega) hE hk hx, aA]
 simp only []
 rw [has_eq R (by omega) hE hx hk, aA, aKh x k]
 simp only []
 rw [aV0, aA]
 cases q : decide (pr2 k x ∈ mm.Pairs) with
 | true =>
  rw [gt' (by rfl), aA, bf (by rfl), bt (by rfl), if_pos (of_decide_eq_true q)]
 | false =>
  rw [gt' (by rfl), aA, bf (by rfl), bf (by rfl), if_neg (of_decide_eq_false q)]
theorem aPu (rec2 : aD → aE → Int → Int → List Int → Int → Int → Option Bool) (many k : Int) (near t88 : List Int) (t89 t90 : Int) (hk : k ∈ mm.Keys) (hn : ∀ y, y ∈ near ↔ y ∈ mm.Keys ∧ pr2 k y ∈ mm.Pairs) (hl : near.length < 1000000) : ∀ (m i p : Nat), mm.Keys.length < i + m → i ≤ mm.Keys.length → mm.Keys.length < 1000 → p < 100000 + i →
 iF rec2 m s mm many (p : Int) k near t88 t89 t90 mm.Keys (mm.Keys.length : Int) (i : Int) = rec2 s mm many ((p + (mm.Keys.drop i).countP (fun x => decide (pr2 k x ∈ mm.Pairs)) : Nat) : Int) t88 t89 (IntKind.i64.wrap (t90 + 1))
 | 0, i, p, hm, hi, _, _ => by omega
 | m + 1, i, p, hm, hi, hK, hp => by
  have hFU := FU'
  show aAi rec2 (iF rec2 m) _ _ _ _ _ _ _ _ _ _ _ _ = _
  unfold aAi
  by_cases c : i < mm.Keys.length
  ·
   have hx : mm.Keys[i] ∈ mm.Keys := List.getElem_mem c
   have L := aWm rec2 (iF rec2 m) s mm many (p : Int) k mm.Keys[i] near t88 mm.Keys t89 t90 (mm.Keys.length : Int) (i : Int) hl bK 0 false (by omega) (Nat.zero_le _)
   rw [List.drop_zero, bFo, Bool.false_or, show decide (mm.Keys[i] ∈ near) = decide (pr2 k mm.Keys[i] ∈ mm.Pairs) from decide_eq_decide.2 ⟨fun h => ((hn _).1 h).2, fun h => (hn _).2 ⟨hx, h⟩⟩, bF4 R hS hE _ _ _ many _ k _ near _ _ _ _ _ _ hk hx, wr1 i (by omega)] at L
   rw [bt (by simpa using c), cK c, aA, show (0 : Int) = ((0 : Nat) : Int) from rfl, L, dO c, List.countP_cons]
   by_cases q : pr2 k mm.Keys[i] ∈ mm.Pairs
   ·
    rw [if_pos q, wr1 p (by omega), aPu rec2 many k near t88 t89 t90 hk hn hl m (i + 1) (p + 1) (by omega) c hK (by omega), if_pos (decide_eq_true q)]
    congr 1; omega
   ·
    rw [if_neg q, aPu rec2 many k near t88 t89 t90 hk hn hl m (i + 1) p (by omega) c hK (by omega), if_neg (by simpa using q)]; rfl
  ·
   rw [bf (by simpa using c), List.drop_eq_nil_of_le (by omega)]; rfl
theorem aWx : ∀ (m i p : Nat), mm.Keys.length < i + m → i ≤ mm.Keys.length → p + yL (fun k => (aG7 mm.Pairs k).length) (mm.Keys.drop i) = 2 * mm.Pairs.length → mm.Pairs.length < 10000 →
 eW m s mm (p : Int) (p : Int) mm.Keys (mm.Keys.length : Int) (i : Int) = some true
 | 0, i, p, hm, hi, _, _ => by omega
 | m + 1, i, p, hm, hi, hs, hP => by
  have hFU := FU'
  have hK : mm.Keys.length ≤ 10 := by
   have := R.keys.length_eq
   have := bA9 s.Slots
   omega
  show zY (eW m) _ _ _ _ _ _ _ = _
  unfold zY
  by_cases c : i < mm.Keys.length
  ·
   have hk : mm.Keys[i] ∈ mm.Keys := List.getElem_mem c
   obtain ⟨j, hj⟩ := (R.mem _).1 hk
   obtain ⟨N, nl⟩ := aXd R hj
   rw [dO c] at hs
   unfold yL at hs
   have e0 : bAc 24 (GA.lu 24 (xZ s j)) = some (xZ s j, true) := rfl
   rw [bt (by simpa using c), cK c, aA, bDx R (by omega) hE hj, aA]
   simp only []
   rw [e0, aA]
   simp only []
   rw [aZ1 R (by omega) hE hk, aA]
   simp only []
   rw [gt' (by rfl), aQg, aA, bf (by simp [nl]), wr0 (n := (p : Int) + ((xZ s j).length : Int)) (by omega) (by omega)]
   have L := aPu R hS hE (eW m) ((p : Int) + ((xZ s j).length : Int)) mm.Keys[i] (xZ s j) mm.Keys (mm.Keys.length : Int) (i : Int) hk N.mem (by omega) bK 0 p (by omega) (Nat.zero_le _) (by omega) (by omega)
   have cn : mm.Keys.countP (fun x => decide (pr2 mm.Keys[i] x ∈ mm.Pairs)) = (xZ s j).length := by
    rw [List.countP_eq_length_filter]
    refine aZv (R.knodup.filter _) N.nodup fun x => ?_
    rw [List.mem_filter, N.mem]; simp
   rw [List.drop_zero, cn, wr1 i (by omega)] at L
   rw [show (0 : Int) = ((0 : Nat) : Int) from rfl, L]
   have := aWx m (i + 1) (p + (xZ s j).length) (by omega) c (by omega) hP
   rw [show ((p + (xZ s j).length : Nat) : Int) = (p : Int) + ((xZ s j).length : Int) by omega] at this ⊢
   exact this
  ·
   rw [List.drop_eq_nil_of_le (by omega)] at hs
   unfold yL at hs
   have e : (((p : Int) == (p : Int)) && ((p : Int) == IntKind.i64.wrap (2 * (mm.Pairs.length : Int)))) = true := by
    rw [wr0 (by omega) (by omega)]; simp; omega
   rw [bf (by simpa using c), e, gt' (by rfl), aOj, aA]; rfl
theorem bBl (hP : mm.Pairs.length < 10000) : eW bK s mm 0 0 mm.Keys (mm.Keys.length : Int) 0 = some true := by
 have hFU := FU'
 have sm := R.small (by omega) hE
 refine aWx R hS hE bK 0 0 (by omega) (Nat.zero_le _) ?_ hP
 rw [List.drop_zero, Nat.zero_add, ← bHe R.knodup fun p hp => R.pair_keys hp]
 exact aEb fun k _ => aNe _ _
end
theorem aX6 {c : aN} (L : List bF) (hL : L.length ≤ 1000) : ∀ (m i : Nat) (s : aD) (mm : aE), Rel c s mm → s.Slots.length ≤ 10 → s.Graph.Edges.length ≤ i → L.length < i + m → i ≤ L.length → qH m s mm L (L.length : Int) (i : Int) = some true
 | 0, i, s, mm, _, _, _, hm, hi => by omega
 | m + 1, i, s, mm, R, hS, hE, hm, hi => by
  show aA9 (qH m) _ _ _ _ _ = _
  unfold aA9
  by_cases c : i < L.length
  ·
   rw [bt (by simpa using c), cK c, aA]
   by_cases q : L[i].Do < 1 ∨ 4 < L[i].Do
   ·
    rw [bt (by simpa using q), aOj, aA]
   ·
    obtain ⟨s', f, k, I, M, R', _, e1, e2, _⟩ := step R (by omega) (by omega) (d := L[i].Do) (by omega) (by omega) L[i].A L[i].B L[i].Text
    have I' : dU s L[i] = some (s', GA.i 36 .i64 f) := I
    rw [bf (by simp; omega), I', aA]
    simp only []
    rw [M, aA, wr1 i (by omega)]
    exact aX6 L hL m (i + 1) s' k R' (by omega) (by omega) (by omega) c
  ·
   rw [bf (by simpa using c)]
   have b := R.pairs.length_eq
   rw [List.length_map, sV] at b
   exact bBl R hS (by omega) (by omega)
theorem aRx (c : aN) (words : List Int) (l : List bF) (hw : W64 words) (hb : words.length ≤ 1048576) : wB c words l = some true := by
 have hFU := FU'
 obtain ⟨r2, s, w, e, f1, f2, f3⟩ := start hw hb l (c := c) (most := 30) (by omega)
 have f1' : rO c l 30 = some r2 := f1
 unfold wB
 rw [f1', aA, f2, aA]
 simp only []
 rcases f3 with f3 | ⟨f3, n, rfl, n1, n2, R, h1, h2⟩
 ·
  rw [bt f3, aOj, aA]
 ·
  rw [bf f3, yX rfl n1, aA]
  exact aX6 (l.take n) (by simp; omega) bK 0 s _ R h1 (by rw [h2]; exact Nat.le_refl _) (by simp; omega) (Nat.zero_le _)
theorem aQw (c : aN) (words : List Int) (l : List bF) {A P B C : Prop} (_ : A) (w : (∀ y, y ∈ words → (Lit.int .u64 y).wf = true) ∧ P) (_ : B) (b : words.length ≤ 1048576) (_ : C) : wB c words l = some true := aRx c words l (bSl w) b
end Go.Proofs.YtkdohhmacfoolaaGreat
