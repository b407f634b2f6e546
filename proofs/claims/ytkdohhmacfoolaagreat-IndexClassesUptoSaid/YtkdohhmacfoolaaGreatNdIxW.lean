/- Facts that the statement's proof is made of. No condition. -/
import Derived.Test.YtkdohhmacfoolaaGreatNdIxU
set_option linter.unusedVariables false
set_option linter.unusedSimpArgs false
set_option maxRecDepth 20000
set_option maxHeartbeats 1000000
namespace Go.Proofs.YtkdohhmacfoolaaGreat
open Go Go.AM Go.Pl Go.Pt Go.Ix
def vs (n : Int) : List Int := (List.range n.toNat).map fun (k : Nat) => (k : Int)
theorem bCd {n v : Int} : v ∈ vs n ↔ 0 ≤ v ∧ v < n := by
 unfold vs
 rw [List.mem_map]
 constructor
 ·
  rintro ⟨k, hk, rfl⟩
  have := List.mem_range.1 hk
  omega
 ·
  rintro ⟨h0, h1⟩
  exact ⟨v.toNat, List.mem_range.2 (by omega), by omega⟩
theorem bAd (n : Int) : (vs n).length = n.toNat := by simp [vs]
theorem bDs (n : Int) : (vs n).Nodup := by
 unfold vs
 exact List.pairwise_map.2 (List.nodup_range.imp fun {a b} h e => h (by omega))
theorem bKu {n : Int} {i : Nat} (h : i < (vs n).length) : (vs n)[i] = (i : Int) := by simp [vs]
theorem aNs (n : Int) (p : Int → Int) (v : Int) : (trl n p v).Nodup := by
 unfold trl trF
 refine List.pairwise_map.2 (List.Pairwise.imp (fun {a b} h e => h (by omega)) ((List.nodup_range' (s := 0) (n := n.toNat - 0) (step := 1) (by decide)).filter _))
def qU (s : aD) (p : Int → Int) (u : Int) : List Int := aOw (((trl s.Graph.Config.N p u).filter (usd s.Slots)).map (kv s.Slots))
theorem aKg {s : aD} {p : Int → Int} {u u' : Int} (h : p u = p u') : qU s p u = qU s p u' := by unfold qU; rw [bD6 h]
def slt (l : List aJ) (k : Int) : Nat := l.findIdx fun x => x.Used && x.Key == k
theorem VOK.slt {l : List aJ} (h : VOK l) {j : Nat} {k : Int} (hj : At l j k) : slt l k = j := by
 have hl := (List.getElem?_eq_some_iff.1 hj).1
 have ex : ∃ x, x ∈ l ∧ (fun x : aJ => x.Used && x.Key == k) x = true := ⟨_, List.mem_of_getElem? hj, by simp⟩
 have lt := List.findIdx_lt_length_of_exists ex
 have g := List.findIdx_getElem (w := lt)
 refine h.inj _ _ k ?_ hj
 unfold At Go.Proofs.YtkdohhmacfoolaaGreat.slt
 rw [List.getElem?_eq_getElem lt]
 generalize l[l.findIdx fun x => x.Used && x.Key == k] = x at g
 cases x with
 | mk u y =>
  simp only [Bool.and_eq_true, beq_iff_eq] at g
  obtain ⟨g1, g2⟩ := g
  subst g1 g2; rfl
section
variable {c : aN} {s : aD} {m : aE} (R : Rel c s m)
include R
theorem Rel.n0 : 0 ≤ s.Graph.Config.N ∧ s.Graph.Config.N ≤ 1024 ∧ Rg s.Graph.Config.N s.Graph.Edges := aH1 (gok R.gd.ok).tr
theorem Rel.kfr : Rg s.Graph.Config.N (kf s.Graph) := aI1 R.n0.2.2 _
theorem yK (p : Int → Int) (u : Int) : Srt (qU s p u) (fun y => ∃ j : Nat, At s.Slots j y ∧ p (j : Int) = p u) := by
 have nd := R.kv_nodup (l := trl s.Graph.Config.N p u) (fun v hv => (sA.1 hv).1) (aNs _ _ _)
 have S := bAb nd
 refine ⟨S.up, fun y => (S.mem y).trans ?_⟩
 rw [List.mem_map]
 constructor
 ·
  rintro ⟨v, hv, rfl⟩
  obtain ⟨h1, h2⟩ := List.mem_filter.1 hv
  obtain ⟨h3, h4, h5⟩ := sA.1 h1
  exact ⟨v.toNat, aLl (aCw.1 h2), by rw [Int.toNat_of_nonneg h3]; exact h5⟩
 ·
  rintro ⟨j, hj, hp⟩
  exact ⟨(j : Int), List.mem_filter.2 ⟨sA.2 ⟨(R.lt hj).1, (R.lt hj).2, hp⟩, aCw.2 ⟨y, by rw [Int.toNat_natCast]; exact hj⟩⟩, aGe hj⟩
theorem aS2 (hS : s.Slots.length ≤ 12) (p : Int → Int) (u : Int) : lZ s (trl s.Graph.Config.N p u) = some (qU s p u) := by
 have e := R.ok.len
 refine aPo ?_ (fun v hv => ?_) (R.kv_nodup (fun v hv => (sA.1 hv).1) (aNs _ _ _))
 ·
  have := aWx s.Graph.Config.N.toNat 0 p (p u)
  unfold trl; omega
 ·
  have := sA.1 hv; omega
theorem Rel.conn_usd {l : List aC} (hl : ∀ e, e ∈ l → e ∈ s.Graph.Edges) {x y : Int} (h : bR (en l) x y) : x = y ∨ (Usd s.Slots x ∧ Usd s.Slots y) := by
 induction h with
 | refl x => exact .inl rfl
 | fwd e _ ih =>
  obtain ⟨q, q1, q2⟩ := gV.1 e
  obtain ⟨_, _, _, u1, u2⟩ := R.edge (hl q q1)
  cases q2
  exact .inr ⟨u1, ih.elim (fun w => w ▸ u2) (·.2)⟩
 | bwd e _ ih =>
  obtain ⟨q, q1, q2⟩ := gV.1 e
  obtain ⟨_, _, _, u1, u2⟩ := R.edge (hl q q1)
  cases q2
  exact .inr ⟨u2, ih.elim (fun w => w ▸ u1) (·.2)⟩
theorem Rel.slt {j : Nat} {k : Int} (h : At s.Slots j k) : slt s.Slots k = j := R.ok.v.slt h
end
def aXx (s : aD) (p : Int → Int) : Nat := (vs s.Graph.Config.N).countP fun v => v == p v && usd s.Slots v
def aQq (s : aD) (p : Int → Int) (k : Int) : Bool := (qU s p (slt s.Slots k : Int)).head? == some k
section
variable {c : aN} {s : aD} {m : aE} (R : Rel c s m)
include R
theorem mX {l : List aC} (hl : ∀ e, e ∈ l → e ∈ s.Graph.Edges) : m.Keys.countP (aQq s (dC (en l))) = aXx s (dC (en l)) := by
 have hr : Rg s.Graph.Config.N l := R.n0.2.2.mono hl
 have P := isP (en l)
 generalize hp : dC (en l) = p at P ⊢
 have ne : ∀ {v : Int}, 0 ≤ v → Usd s.Slots v → qU s p v ≠ [] := fun {v} h0 hu e => by
  have := ((yK R p v).mem (kv s.Slots v)).2 ⟨v.toNat, aLl hu, by rw [Int.toNat_of_nonneg h0]⟩
  rw [e] at this; cases this
 have hd : ∀ {v : Int}, 0 ≤ v → Usd s.Slots v → (qU s p v).head? = some ((qU s p v).headD 0) ∧ (qU s p v).headD 0 ∈ qU s p v := fun {v} h0 hu => by
  have := ne h0 hu
  cases h : qU s p v with
  | nil => exact absurd h this
  | cons a t => exact ⟨rfl, List.mem_cons_self ..⟩
 have e1 : m.Keys.countP (aQq s p) = (m.Keys.filter (aQq s p)).length := List.countP_eq_length_filter
 have e2 : aXx s p = (((vs s.Graph.Config.N).filter fun v => v == p v && usd s.Slots v).map fun v => (qU s p v).headD 0).length := by rw [List.length_map]; exact List.countP_eq_length_filter
 have hB : ∀ v, v ∈ (vs s.Graph.Config.N).filter (fun v => v == p v && usd s.Slots v) → 0 ≤ v ∧ v = p v ∧ Usd s.Slots v := fun v hv => by
  obtain ⟨h1, h2⟩ := List.mem_filter.1 hv
  simp only [Bool.and_eq_true, beq_iff_eq] at h2
  exact ⟨(bCd.1 h1).1, h2.1, aCw.1 h2.2⟩
 rw [e1, e2]
 refine aZ7 (R.knodup.filter _) ?_ fun k => ?_
 ·
  refine List.pairwise_map.2 (((bDs _).filter _).imp_of_mem fun {a b} ha hb h e => h ?_)
  obtain ⟨a0, a1, a2⟩ := hB a ha
  obtain ⟨b0, b1, b2⟩ := hB b hb
  obtain ⟨j, j1, j2⟩ := ((yK R p a).mem _).1 (hd a0 a2).2
  obtain ⟨i, i1, i2⟩ := ((yK R p b).mem _).1 (hd b0 b2).2
  rw [e] at j1
  have := R.ok.v.inj _ _ _ j1 i1
  subst this
  rw [a1, b1, ← j2, ← i2]
 ·
  rw [List.mem_filter, List.mem_map]
  constructor
  ·
   rintro ⟨hk, hf⟩
   obtain ⟨i, hi⟩ := (R.mem k).1 hk
   unfold aQq at hf
   rw [R.slt hi, beq_iff_eq] at hf
   have li := R.lt hi
   have ui : Usd s.Slots (i : Int) := ⟨k, by rw [Int.toNat_natCast]; exact hi⟩
   have cn : bR (en l) (i : Int) (p (i : Int)) := (P.iff _ _).1 (P.idem _).symm
   have rg : 0 ≤ p (i : Int) ∧ p (i : Int) < s.Graph.Config.N := by rw [← hp]; exact bH8 hr li.1 li.2
   have uv : Usd s.Slots (p (i : Int)) := (R.conn_usd hl cn).elim (fun w => w ▸ ui) (·.2)
   refine ⟨p (i : Int), List.mem_filter.2 ⟨bCd.2 rg, ?_⟩, ?_⟩
   ·
    rw [P.idem, aCw.2 uv]; simp
   ·
    rw [aKg (s := s) (P.idem (i : Int))]
    have := (hd (by omega) ui).1
    rw [hf] at this
    exact (Option.some.inj this).symm
  ·
   rintro ⟨v, hv, rfl⟩
   obtain ⟨v0, v1, v2⟩ := hB v hv
   obtain ⟨h1, h2⟩ := hd v0 v2
   obtain ⟨j, j1, j2⟩ := ((yK R p v).mem _).1 h2
   refine ⟨(R.mem _).2 ⟨j, j1⟩, ?_⟩
   unfold aQq
   rw [R.slt j1, aKg (s := s) j2, h1]; simp
theorem aJr : oJ s.Graph = some (pt s.Graph.Config.N (kf s.Graph)) := by
 rw [aOe R.gd.e R.gd.h, if_pos R.gd.ok]
variable (hS : s.Slots.length ≤ 12)
include hS
theorem aXc {a b : Int} {i j : Nat} (hi : At s.Slots i a) (hj : At s.Slots j b) (text : ByteArray) : dI s ⟨8, a, b, text⟩ = some (s, GA.b 4 (decide (dC (en (kf s.Graph)) (i : Int) = dC (en (kf s.Graph)) (j : Int)))) := by
 have li := R.lt hi
 have lj := R.lt hj
 refine ans R hS (by decide) (by decide) (aWk R hS hi) (aWk R hS hj) rfl rfl (by rfl) ?_
 unfold gZ
 rw [aJr R, aA, bf (by rfl), bf (by rfl), bf (by rfl), bt (by rfl), aP1 li.1 li.2, aA, aP1 lj.1 lj.2, aA]
 rw [show ∀ x y : Int, (x == y) = decide (x = y) from fun x y => by by_cases h : x = y <;> simp [h]]
theorem size_eq {a : Int} {i : Nat} (hi : At s.Slots i a) (b : Int) (text : ByteArray) : dI s ⟨9, a, b, text⟩ = some (s, GA.i 3 .i64 ((qU s (dC (en (kf s.Graph))) (i : Int)).length : Int)) := by
 obtain ⟨vB, bB, fB⟩ := fd R (by omega) b
 have li := R.lt hi
 refine ans R hS (by decide) (by decide) (aWk R hS hi) fB rfl rfl (by rfl) ?_
 unfold gZ
 rw [aJr R, aA, bf (by rfl), bf (by rfl), bf (by rfl), bf (by rfl), bt (by rfl), aAf R.n0.1 R.n0.2.1 R.kfr li.1 li.2, aA, aS2 R hS, aA]
theorem aTi {a : Int} {i : Nat} (hi : At s.Slots i a) (b : Int) (text : ByteArray) : dI s ⟨11, a, b, text⟩ = some (s, GA.lu 24 (qU s (dC (en (kf s.Graph))) (i : Int))) := by
 obtain ⟨vB, bB, fB⟩ := fd R (by omega) b
 have li := R.lt hi
 refine ans R hS (by decide) (by decide) (aWk R hS hi) fB rfl rfl (by rfl) ?_
 unfold gZ
 rw [aJr R, aA, bf (by rfl), bf (by rfl), bf (by rfl), bf (by rfl), bf (by rfl), bf (by rfl), bt (by rfl), aAf R.n0.1 R.n0.2.1 R.kfr li.1 li.2, aA, aS2 R hS, aA]
omit R in
theorem aN0 {n : Int} (f : Int → Int) (hn : n.toNat ≤ 1024) (hl : (s.Slots.length : Int) = n) : ∀ (m i k : Nat), n.toNat < i + m → i ≤ n.toNat → k ≤ i →
 gM m s (k : Int) (tab n f) ((tab n f).length : Int) (i : Int) = some (((k + ((vs n).drop i).countP (fun v => v == f v && usd s.Slots v) : Nat)) : Int)
 | 0, i, k, hm, hi, _ => by omega
 | m + 1, i, k, hm, hi, hk => by
  show tF (gM m) _ _ _ _ _ = _
  unfold tF nS
  rw [uE]
  by_cases c : i < n.toNat
  ·
   have hv : i < (vs n).length := by rw [bAd]; exact c
   have hs : i < s.Slots.length := by omega
   have eu : usd s.Slots (i : Int) = s.Slots[i].Used := by unfold usd; rw [Int.toNat_natCast, List.getElem?_eq_getElem hs]; rfl
   rw [bt (sR c), gA, aJg (by omega), aA, cJ hs, fG, aA, wr1 i (by omega), wr1 k (by omega), dQ hv, List.countP_cons, bKu hv, eu]
   have := aN0 f hn hl m (i + 1)
   rw [uE] at this
   have e : ((((i : Int) == f (i : Int)) && (bif ((i : Int) == f (i : Int)) == true then s.Slots[i] else (⟨false, 0⟩ : aJ)).Used)) = ((i : Int) == f (i : Int) && s.Slots[i].Used) := by
    cases (i : Int) == f (i : Int) <;> rfl
   rw [e]
   cases q : ((i : Int) == f (i : Int) && s.Slots[i].Used) with
   | true =>
    rw [bt rfl, this _ (by omega) c (by omega), if_pos rfl]
    congr 2; omega
   | false =>
    rw [bf rfl, this _ (by omega) c (by omega), if_neg (by simp)]; rfl
  ·
   rw [bf (sK c), List.drop_eq_nil_of_le (by rw [bAd]; omega)]
   rfl
theorem bDq (a b : Int) (text : ByteArray) : dI s ⟨10, a, b, text⟩ = some (s, GA.i 3 .i64 ((aXx s (dC (en (kf s.Graph))) : Nat) : Int)) := by
 have hFU := FU'
 obtain ⟨vA, bA, fA⟩ := fd R (by omega) a
 obtain ⟨vB, bB, fB⟩ := fd R (by omega) b
 refine ans R hS (by decide) (by decide) fA fB rfl rfl (by rfl) ?_
 unfold gZ
 have n0 := R.n0
 have := aN0 hS (n := s.Graph.Config.N) (dC (en (kf s.Graph))) (by omega) R.ok.len bK 0 0 (by omega) (Nat.zero_le _) (Nat.le_refl _)
 rw [show ((0 : Nat) : Int) = 0 from rfl, List.drop_zero, Nat.zero_add] at this
 rw [aJr R, aA, bf (by rfl), bf (by rfl), bf (by rfl), bf (by rfl), bf (by rfl), bt (by rfl)]
 unfold wH
 have e : gM bK s 0 (pt s.Graph.Config.N (kf s.Graph)) ((pt s.Graph.Config.N (kf s.Graph)).length : Int) 0 = some ((aXx s (dC (en (kf s.Graph))) : Nat) : Int) := this
 rw [e, aA]
end
end Go.Proofs.YtkdohhmacfoolaaGreat
