/- Facts. No condition. -/
import Derived.Test.YtkdohhmacfoolaaGreatNgIxT
set_option linter.unusedVariables false
set_option linter.unusedSimpArgs false
set_option maxRecDepth 20000
set_option maxHeartbeats 1000000
namespace Go.Proofs.YtkdohhmacfoolaaGreat
open Go Go.AM Go.Pl Go.Pt Go.Ix
theorem bQ9 (n : Int) (l : List bH) (hl : l.length < 1000000) : ∀ (m i : Nat), l.length < i + m → i ≤ l.length → ∃ r, wE m n l (l.length : Int) (i : Int) = some r ∧ (r = -1 ∨ r = n)
 | 0, i, hm, hi => by omega
 | m + 1, i, hm, hi => by
  show ∃ r, aFu (wE m) _ _ _ _ = some r ∧ _
  unfold aFu
  by_cases c : i < l.length
  ·
   rw [bt (by simpa using c), bR c, aA, wr1 i (by omega)]
   by_cases q : 1000 < l[i].Text.size
   ·
    rw [bt (by simp; omega)]
    exact ⟨_, rfl, .inl rfl⟩
   ·
    rw [bf (by simp; omega)]
    exact bQ9 n l hl m (i + 1) (by omega) c
  ·
   rw [bf (by simpa using c)]
   exact ⟨_, rfl, .inr rfl⟩
theorem bR2 (c : aT) (l : List bH) {most : Nat} (hm : most ≤ 1000) : ∃ r, uL c l (most : Int) = some r ∧ (r = -1 ∨ ∃ n : Nat, r = (n : Int) ∧ n ≤ l.length ∧ n ≤ most ∧ c.N ≤ 10 ∧ c.L ≤ 4 ∧ c.R ≤ 3) := by
 have hFU := FU'
 unfold uL
 by_cases q : (10 < c.N ∨ 4 < c.L) ∨ 3 < c.R
 ·
  rw [bt (by simp; omega)]
  exact ⟨_, rfl, .inl rfl⟩
 ·
  rw [bf (by simp; omega)]
  have e : (if (most : Int) < (l.length : Int) then (most : Int) else (l.length : Int)) = ((min most l.length : Nat) : Int) := by
   split <;> omega
  rw [e, xU rfl (by omega), aA]
  obtain ⟨r, h1, h2⟩ := bQ9 ((min most l.length : Nat) : Int) (l.take (min most l.length)) (by simp; omega) bF 0 (by simp; omega) (Nat.zero_le _)
  refine ⟨r, h1, h2.imp id fun h => ⟨_, h, by omega, by omega, by omega, by omega, by omega⟩⟩
theorem bPg {c : aT} (hc : aMj c) {r : List bV} (h2 : (r.length : Int) = c.L * c.R) (h3 : hsB r = true) (h4 : ∀ x, x ∈ r → 0 ≤ x.A ∧ 0 ≤ x.B) (h5 : r.length ≤ 128) : Rel c ⟨⟨c, r, []⟩, List.replicate c.N.toNat ⟨false, 0⟩⟩ ⟨c.N, [], []⟩ := by
 have ok := bMe hc h2 h3
 refine ⟨ok, ⟨ok.g, fun x hx => h4 x hx, by simp, by show r.length < _; omega⟩, rfl, rfl, ?_, List.Perm.refl _⟩
 have : uk (List.replicate c.N.toNat (⟨false, 0⟩ : aM)) = [] := by unfold uk; simp
 show List.Perm [] (uk (List.replicate c.N.toNat ⟨false, 0⟩))
 rw [this]
theorem start {c : aT} {words : List Int} (hw : W64 words) (hb : words.length ≤ 1048576) (l : List bH) {most : Nat} (hm : most ≤ 1000) : ∃ r2 s w e, uL c l (most : Int) = some r2 ∧ lI c ⟨words, 0⟩ = some (s, w, e) ∧
 ((decide (r2 < 0) || (e != 0)) = true ∨ ((decide (r2 < 0) || (e != 0)) = false ∧ ∃ n : Nat, r2 = (n : Int) ∧ n ≤ l.length ∧ n ≤ most ∧ Rel c s ⟨c.N, [], []⟩ ∧ s.Slots.length ≤ 10 ∧ s.Graph.Edges = [])) := by
 obtain ⟨r2, f1, f2⟩ := bR2 c l hm
 obtain ⟨n1, n2⟩ := aXl (c := c) (l := words) (by omega) hw 0
 by_cases hc : aMj c
 ·
  obtain ⟨_, n4⟩ := n2 hc
  obtain ⟨n5, n6⟩ := n4 0 rfl (Nat.zero_le _)
  cases eh : hs words (c.L * c.R).toNat 0 with
  | none => exact ⟨r2, _, _, _, f1, n5 eh, .inl (by simp)⟩
  | some x =>
   refine ⟨r2, _, _, _, f1, n6 x.1 x.2 eh, ?_⟩
   rcases f2 with rfl | ⟨n, rfl, q1, q2, q3, q4, q5⟩
   ·
    exact .inl (by simp)
   ·
    obtain ⟨k, hk, hk2⟩ := lr hc
    obtain ⟨c1, c2, c3, c4⟩ := aV1 words _ 0 (show hs words (c.L * c.R).toNat 0 = some (x.1, x.2) from eh) (Nat.zero_le _)
    rw [hk, Int.toNat_natCast] at c1
    refine .inr ⟨by simp, n, rfl, q1, q2, bPg hc (by rw [c1, hk]) c3 c4 (by omega), by simp; omega, rfl⟩
 ·
  exact ⟨r2, _, _, _, f1, n1 hc, .inl (by simp)⟩
theorem Rel.pair_keys {c : aT} {s : aD} {m : aF} (R : Rel c s m) {p : aG} (h : p ∈ m.Pairs) : p.x0 ≠ p.x1 ∧ p.x0 ∈ m.Keys ∧ p.x1 ∈ m.Keys := by
 rw [R.pairs.mem_iff, List.mem_map] at h
 obtain ⟨q, hq, rfl⟩ := h
 obtain ⟨e, he, rfl⟩ := iA.1 hq
 obtain ⟨e1, e2, e3, u1, u2⟩ := R.edge he
 have k1 := uK u1
 have k2 := uK u2
 have ne : kv s.Slots e.U ≠ kv s.Slots e.V := fun w => by
  have := R.ok.v.inj _ _ _ k1 (by rw [w]; exact k2)
  omega
 have m1 := (R.mem _).2 ⟨_, k1⟩
 have m2 := (R.mem _).2 ⟨_, k2⟩
 unfold zU pr2
 simp only []
 split
 ·
  exact ⟨fun w => ne w.symm, m2, m1⟩
 ·
  exact ⟨ne, m1, m2⟩
def vs (n : Int) : List Int := (List.range n.toNat).map fun (k : Nat) => (k : Int)
theorem aWa (n : Int) : (vs n).length = n.toNat := by simp [vs]
theorem bQj {n : Int} {i : Nat} (h : i < (vs n).length) : (vs n)[i] = (i : Int) := by simp [vs]
theorem aTw (n : Int) (p : Int → Int) (v : Int) : (trl n p v).Nodup := by
 unfold trl trF
 refine List.pairwise_map.2 (List.Pairwise.imp (fun {a b} h e => h (by omega)) ((List.nodup_range' (s := 0) (n := n.toNat - 0) (step := 1) (by decide)).filter _))
def aS4 (s : aD) (p : Int → Int) (u : Int) : List Int := aOc (((trl s.Graph.Config.N p u).filter (usd s.Slots)).map (kv s.Slots))
section
variable {c : aT} {s : aD} {m : aF} (R : Rel c s m)
include R
theorem Rel.n0 : 0 ≤ s.Graph.Config.N ∧ s.Graph.Config.N ≤ 1024 ∧ Rg s.Graph.Config.N s.Graph.Edges := aMh (gok R.gd.ok).tr
theorem Rel.kfr : Rg s.Graph.Config.N (kf s.Graph) := aJz R.n0.2.2 _
theorem bL2 (p : Int → Int) (u : Int) : Srt (aS4 s p u) (fun y => ∃ j : Nat, At s.Slots j y ∧ p (j : Int) = p u) := by
 have nd := R.kv_nodup (l := trl s.Graph.Config.N p u) (fun v hv => (vC.1 hv).1) (aTw _ _ _)
 have S := aQt nd
 refine ⟨S.up, fun y => (S.mem y).trans ?_⟩
 rw [List.mem_map]
 constructor
 ·
  rintro ⟨v, hv, rfl⟩
  obtain ⟨h1, h2⟩ := List.mem_filter.1 hv
  obtain ⟨h3, h4, h5⟩ := vC.1 h1
  exact ⟨v.toNat, uK (aHg.1 h2), by rw [Int.toNat_of_nonneg h3]; exact h5⟩
 ·
  rintro ⟨j, hj, hp⟩
  exact ⟨(j : Int), List.mem_filter.2 ⟨vC.2 ⟨(R.lt hj).1, (R.lt hj).2, hp⟩, aHg.2 ⟨y, by rw [Int.toNat_natCast]; exact hj⟩⟩, aHt hj⟩
theorem aXo (hS : s.Slots.length ≤ 12) (p : Int → Int) (u : Int) : nE s (trl s.Graph.Config.N p u) = some (aS4 s p u) := by
 have e := R.ok.len
 refine aK6 ?_ (fun v hv => ?_) (R.kv_nodup (fun v hv => (vC.1 hv).1) (aTw _ _ _))
 ·
  have := aOy s.Graph.Config.N.toNat 0 p (p u)
  unfold trl; omega
 ·
  have := vC.1 hv; omega
theorem Rel.conn_usd {l : List aC} (hl : ∀ e, e ∈ l → e ∈ s.Graph.Edges) {x y : Int} (h : cH (en l) x y) : x = y ∨ (Usd s.Slots x ∧ Usd s.Slots y) := by
 induction h with
 | refl x => exact .inl rfl
 | fwd e _ ih =>
  obtain ⟨q, q1, q2⟩ := iA.1 e
  obtain ⟨_, _, _, u1, u2⟩ := R.edge (hl q q1)
  cases q2
  exact .inr ⟨u1, ih.elim (fun w => w ▸ u2) (·.2)⟩
 | bwd e _ ih =>
  obtain ⟨q, q1, q2⟩ := iA.1 e
  obtain ⟨_, _, _, u1, u2⟩ := R.edge (hl q q1)
  cases q2
  exact .inr ⟨u2, ih.elim (fun w => w ▸ u1) (·.2)⟩
end
def bQu (s : aD) (p : Int → Int) : Nat := (vs s.Graph.Config.N).countP fun v => v == p v && usd s.Slots v
section
variable {c : aT} {s : aD} {m : aF} (R : Rel c s m)
include R
theorem aD5 : nZ s.Graph = some (pt s.Graph.Config.N (kf s.Graph)) := by
 rw [aEp R.gd.e R.gd.h, if_pos R.gd.ok]
variable (hS : s.Slots.length ≤ 12)
include hS
theorem bN2 {a b : Int} {i j : Nat} (hi : At s.Slots i a) (hj : At s.Slots j b) (text : ByteArray) : cU s ⟨8, a, b, text⟩ = some (s, GA.b 4 (decide (cO (en (kf s.Graph)) (i : Int) = cO (en (kf s.Graph)) (j : Int)))) := by
 have li := R.lt hi
 have lj := R.lt hj
 refine ans R hS (by decide) (by decide) (aN1 R hS hi) (aN1 R hS hj) rfl rfl (by rfl) ?_
 unfold eE
 rw [aD5 R, aA, bf (by rfl), bf (by rfl), bf (by rfl), bt (by rfl), aVn li.1 li.2, aA, aVn lj.1 lj.2, aA]
 rw [show ∀ x y : Int, (x == y) = decide (x = y) from fun x y => by by_cases h : x = y <;> simp [h]]
theorem size_eq {a : Int} {i : Nat} (hi : At s.Slots i a) (b : Int) (text : ByteArray) : cU s ⟨9, a, b, text⟩ = some (s, GA.i 3 .i64 ((aS4 s (cO (en (kf s.Graph))) (i : Int)).length : Int)) := by
 obtain ⟨vB, bB, fB⟩ := fd R (by omega) b
 have li := R.lt hi
 refine ans R hS (by decide) (by decide) (aN1 R hS hi) fB rfl rfl (by rfl) ?_
 unfold eE
 rw [aD5 R, aA, bf (by rfl), bf (by rfl), bf (by rfl), bf (by rfl), bt (by rfl), aDm R.n0.1 R.n0.2.1 R.kfr li.1 li.2, aA, aXo R hS, aA]
theorem bCf {a : Int} {i : Nat} (hi : At s.Slots i a) (b : Int) (text : ByteArray) : cU s ⟨11, a, b, text⟩ = some (s, GA.lu 24 (aS4 s (cO (en (kf s.Graph))) (i : Int))) := by
 obtain ⟨vB, bB, fB⟩ := fd R (by omega) b
 have li := R.lt hi
 refine ans R hS (by decide) (by decide) (aN1 R hS hi) fB rfl rfl (by rfl) ?_
 unfold eE
 rw [aD5 R, aA, bf (by rfl), bf (by rfl), bf (by rfl), bf (by rfl), bf (by rfl), bf (by rfl), bt (by rfl), aDm R.n0.1 R.n0.2.1 R.kfr li.1 li.2, aA, aXo R hS, aA]
omit R in
theorem aSt {n : Int} (f : Int → Int) (hn : n.toNat ≤ 1024) (hl : (s.Slots.length : Int) = n) : ∀ (m i k : Nat), n.toNat < i + m → i ≤ n.toNat → k ≤ i →
 iH m s (k : Int) (tab n f) ((tab n f).length : Int) (i : Int) = some (((k + ((vs n).drop i).countP (fun v => v == f v && usd s.Slots v) : Nat)) : Int)
 | 0, i, k, hm, hi, _ => by omega
 | m + 1, i, k, hm, hi, hk => by
  show xI (iH m) _ _ _ _ _ = _
  unfold xI rC
  rw [lQ]
  by_cases c : i < n.toNat
  ·
   have hv : i < (vs n).length := by rw [aWa]; exact c
   have hs : i < s.Slots.length := by omega
   have eu : usd s.Slots (i : Int) = s.Slots[i].Used := by unfold usd; rw [Int.toNat_natCast, List.getElem?_eq_getElem hs]; rfl
   rw [bt (nI c), dI, vK (by omega), aA, bR hs, dU, aA, wr1 i (by omega), wr1 k (by omega), bP hv, List.countP_cons, bQj hv, eu]
   have := aSt f hn hl m (i + 1)
   rw [lQ] at this
   have e : ((((i : Int) == f (i : Int)) && (bif ((i : Int) == f (i : Int)) == true then s.Slots[i] else (⟨false, 0⟩ : aM)).Used)) = ((i : Int) == f (i : Int) && s.Slots[i].Used) := by
    cases (i : Int) == f (i : Int) <;> rfl
   rw [e]
   cases q : ((i : Int) == f (i : Int) && s.Slots[i].Used) with
   | true =>
    rw [bt rfl, this _ (by omega) c (by omega), if_pos rfl]
    congr 2; omega
   | false =>
    rw [bf rfl, this _ (by omega) c (by omega), if_neg (by simp)]; rfl
  ·
   rw [bf (nH c), List.drop_eq_nil_of_le (by rw [aWa]; omega)]
   rfl
theorem bJd (a b : Int) (text : ByteArray) : cU s ⟨10, a, b, text⟩ = some (s, GA.i 3 .i64 ((bQu s (cO (en (kf s.Graph))) : Nat) : Int)) := by
 have hFU := FU'
 obtain ⟨vA, bA, fA⟩ := fd R (by omega) a
 obtain ⟨vB, bB, fB⟩ := fd R (by omega) b
 refine ans R hS (by decide) (by decide) fA fB rfl rfl (by rfl) ?_
 unfold eE
 have n0 := R.n0
 have := aSt hS (n := s.Graph.Config.N) (cO (en (kf s.Graph))) (by omega) R.ok.len bF 0 0 (by omega) (Nat.zero_le _) (Nat.le_refl _)
 rw [show ((0 : Nat) : Int) = 0 from rfl, List.drop_zero, Nat.zero_add] at this
 rw [aD5 R, aA, bf (by rfl), bf (by rfl), bf (by rfl), bf (by rfl), bf (by rfl), bt (by rfl)]
 unfold zL
 have e : iH bF s 0 (pt s.Graph.Config.N (kf s.Graph)) ((pt s.Graph.Config.N (kf s.Graph)).length : Int) 0 = some ((bQu s (cO (en (kf s.Graph))) : Nat) : Int) := this
 rw [e, aA]
theorem bIy (a b : Int) (text : ByteArray) : cU s ⟨13, a, b, text⟩ = some (s, GA.b 4 (decide (pt s.Graph.Config.N (kf s.Graph) = pt s.Graph.Config.N s.Graph.Edges))) := by
 obtain ⟨vA, bA, fA⟩ := fd R (by omega) a
 obtain ⟨vB, bB, fB⟩ := fd R (by omega) b
 refine ans R hS (by decide) (by decide) fA fB rfl rfl (by rfl) ?_
 unfold eE
 rw [aD5 R, aA, bf (by rfl), bf (by rfl), bf (by rfl), bf (by rfl), bf (by rfl), bf (by rfl), bf (by rfl), bf (by rfl), bt (by rfl), aRr R.gd.e R.gd.h, aA, R.gd.ok, Bool.true_and]
end
end Go.Proofs.YtkdohhmacfoolaaGreat
