/- Facts that the statement's proof is made of. No condition. -/
import Derived.Test.YtkdohhmacfoolaaGreatNeXo
set_option linter.unusedVariables false
set_option linter.unusedSimpArgs false
set_option maxRecDepth 20000
set_option maxHeartbeats 1000000
namespace Go.Proofs.YtkdohhmacfoolaaGreat
open Go Go.AM Go.Pl Go.Pt
theorem aDy {n : Int} {l : List aD} : foB n l = true ↔ cT n.toNat (en l) := by unfold foB cT; rw [decide_eq_true_iff, nT]
theorem GOK.gc {g : aG} (h : GOK g) : GC g := by
 refine ⟨⟨(aEc.1 h.tr).2.2, fun e he => ?_, aDy.1 h.fr⟩, by have := h.n1; omega, h.l2⟩
 have := h.ti
 unfold tiB at this
 rw [List.all_eq_true] at this
 have := this e he
 simpa using this
theorem GC.fo {g : aG} (h : GC g) {k : Int} (hk : k ≤ g.Config.L) : cT g.Config.N.toNat (en (fo g.Edges k)) :=
 h.ti.fr.sublist (h.ti.inR h.n0 _) (aFy (by rw [← bH5 hk]; exact aMb _ _))
def EB (e : aD) : Prop := 0 ≤ e.U ∧ e.U < e.V ∧ e.V < 1024
theorem GOK.eb {g : aG} (h : GOK g) {e : aD} (he : e ∈ g.Edges) : EB e := by
 have := nF.1 (h.gc.ti.tb.ok e he)
 have := h.n2
 exact ⟨by omega, by omega, by omega⟩
def trF (n i : Nat) (p : Int → Int) (c : Int) : List Int := ((List.range' i (n - i)).filter fun (k : Nat) => p (k : Int) == c).map fun (k : Nat) => (k : Int)
def trl (n : Int) (p : Int → Int) (v : Int) : List Int := trF n.toNat 0 p (p v)
theorem bFd {n i : Nat} {p : Int → Int} {c : Int} (h : i < n) : trF n i p c = (if p i = c then [(i : Int)] else []) ++ trF n (i + 1) p c := by
 unfold trF
 rw [show n - i = (n - (i + 1)) + 1 by omega, List.range'_succ, List.filter_cons]
 by_cases q : p (i : Int) = c
 ·
  rw [if_pos (by simp [q]), if_pos q]; rfl
 ·
  rw [if_neg (by simp [q]), if_neg q]; rfl
theorem bJ8 {n i : Nat} {p : Int → Int} {c : Int} (h : ¬ i < n) : trF n i p c = [] := by unfold trF; rw [show n - i = 0 by omega]; rfl
theorem aZg (n i : Nat) (p : Int → Int) (c : Int) : (trF n i p c).length ≤ n - i := by
 unfold trF; rw [List.length_map]; exact Nat.le_trans (List.length_filter_le _ _) (by simp)
theorem tD {n : Int} {p : Int → Int} {v x : Int} : x ∈ trl n p v ↔ 0 ≤ x ∧ x < n ∧ p x = p v := by
 unfold trl trF
 rw [List.mem_map]
 constructor
 ·
  rintro ⟨k, hk, rfl⟩
  rw [List.mem_filter, List.mem_range', beq_iff_eq] at hk
  obtain ⟨⟨i, h1, h2⟩, h3⟩ := hk
  exact ⟨by omega, by omega, h3⟩
 ·
  rintro ⟨h1, h2, h3⟩
  refine ⟨x.toNat, ?_, by omega⟩
  have e : ((x.toNat : Nat) : Int) = x := by omega
  rw [List.mem_filter, List.mem_range', beq_iff_eq, e]
  exact ⟨⟨x.toNat, by omega, by omega⟩, h3⟩
theorem bEe {n : Int} {p : Int → Int} {v w : Int} (h : p v = p w) : trl n p v = trl n p w := by unfold trl; rw [h]
theorem aDk {n : Int} (h0 : 0 ≤ n) (hn : n ≤ 1024) (f : Int → Int) {v : Int} (v0 : 0 ≤ v) (vn : v < n) : ∀ (m i : Nat) (out : List Int), n.toNat < i + m → i ≤ n.toNat → out.length ≤ i → nL m (tab n f) v out (tab n f) ((tab n f).length : Int) (i : Int) = some (out ++ trF n.toNat i f (f v))
 | 0, i, _, _, _, _ => by omega
 | m + 1, i, out, hm, hi, ho => by
  show aAz (nL m) _ _ _ _ _ _ = _
  have hlen := vJ n f
  unfold aAz vT
  by_cases c : i < n.toNat
  ·
   rw [bt (by rw [hlen]; exact nU c), aL6 (by omega) (by omega), aA, aL6 v0 vn, aA, wr1 i (by omega), bFd c]
   by_cases e : f i = f v
   ·
    rw [bt (by simp [e]), if_pos e, dY (by simp; omega), aA, aDk h0 hn f v0 vn m (i + 1) _ (by omega) (by omega) (by simp; omega)]
    simp
   ·
    rw [bf (by simp [e]), if_neg e, aDk h0 hn f v0 vn m (i + 1) _ (by omega) (by omega) (by omega)]
    simp
  ·
   rw [bf (by rw [hlen]; exact nY c), bJ8 c]; simp
theorem aGp {n : Int} (h0 : 0 ≤ n) (hn : n ≤ 1024) {l : List aD} (h : Rg n l) {v : Int} (v0 : 0 ≤ v) (vn : v < n) : qH (pt n l) v = some (trl n (cH (en l)) v) := by
 have hFU := FU
 unfold qH fX
 rw [aI3 h0 hn h, aA, fO, aA]
 have : (decide (0 ≤ v) && decide (v < ((pt n l).length : Int))) = true := by rw [aXz]; simp; omega
 rw [this, bf (by rfl)]
 have := aDk h0 hn (cH (en l)) v0 vn bF 0 [] (by omega) (Nat.zero_le _) (by simp)
 exact this
section
variable {g : aG} (hE : g.Edges.length < 1000000000) (h : GOK g)
include hE h
theorem aCq {t v : Int} (ht : t ≤ g.Config.L) (v0 : 0 ≤ v) (vn : v < g.Config.N) : oF g t v = some (trl g.Config.N (pf g t) v) := by
 have h3 := h.n1
 have hf := aQo g.Edges t
 unfold oF aCb
 rw [lW hE, aA, h.tr]
 simp only [if_true]
 rw [zE (by omega) h.n2 (by omega) (aK2 h.rg _), aA, aDy.2 (h.gc.fo ht), bf (by rfl), aEg (by omega) (by omega) h.n2 (aK2 h.rg _), aA]
 simp only []
 rw [aGp (by omega) h.n2 (aK2 h.rg _) v0 vn, aA, aA]; rfl
end
theorem aEr {g : aG} (hE : g.Edges.length < 1000000000) (hH : g.Hashes.length < 1000000000) (t v : Int) : qQ g t v = some (if grB g = true ∧ 0 ≤ t ∧ t ≤ g.Config.L ∧ 0 ≤ v ∧ v < g.Config.N then trl g.Config.N (pf g t) v else []) := by
 unfold qQ
 rw [gM hE hH, aA]
 cases hb : grB g with
 | false => rw [bt (by simp)]; simp
 | true =>
  by_cases c : 0 ≤ t ∧ t ≤ g.Config.L ∧ 0 ≤ v ∧ v < g.Config.N
  ·
   rw [bf (by simp; omega), aCq hE (gok hb) c.2.1 c.2.2.1 c.2.2.2, aA, if_pos ⟨rfl, c⟩]
  ·
   rw [bt (by simp; omega), if_neg (fun q => c q.2)]
theorem aQw {g : aG} (hE : g.Edges.length < 1000000000) (hH : g.Hashes.length < 1000000000) (t v : Int) : lO g t v = some (decide (grB g = true ∧ 0 ≤ t ∧ t < g.Config.L ∧ 0 ≤ v ∧ v < g.Config.N)) := by
 unfold lO
 rw [gM hE hH, aA]
 congr 1
 cases hb : grB g with
 | false => simp
 | true => by_cases a : 0 ≤ t <;> by_cases b : t < g.Config.L <;> by_cases c : 0 ≤ v <;> by_cases d : v < g.Config.N <;> simp [a, b, c, d]
def mks (n : Nat) (S : List Int) : List Bool := (List.range n).map fun (k : Nat) => decide ((k : Int) ∈ S)
theorem bKo (n : Nat) (S : List Int) : (mks n S).length = n := by simp [mks]
theorem aRb {n : Nat} {S : List Int} {x : Int} (h0 : 0 ≤ x) (h : x < n) : idx (mks n S) x = some (decide (x ∈ S)) := by
 rw [oZ (k := x.toNat) (by omega)]
 unfold mks
 rw [List.getElem?_map, List.getElem?_range (by omega)]
 have e : ((x.toNat : Nat) : Int) = x := by omega
 simp [e]
theorem bI2 {n : Nat} {S : List Int} {x : Int} (h0 : 0 ≤ x) (h : x < n) : stt (mks n S) x true = some (mks n (S ++ [x])) := by
 rw [aYt (k := x.toNat) (by omega) (by rw [bKo]; omega)]
 congr 1
 apply List.ext_getElem?
 intro k
 unfold mks
 rw [List.getElem?_set]
 by_cases hk : k < n
 ·
  rw [List.getElem?_map, List.getElem?_map, List.getElem?_range hk]
  by_cases e : x.toNat = k
  ·
   rw [if_pos e, if_pos (by simp; omega)]
   have : (k : Int) = x := by omega
   simp [this]
  ·
   rw [if_neg e]
   have : (k : Int) ≠ x := by omega
   simp [this]
 ·
  rw [if_neg (by omega), List.getElem?_eq_none (by simp; omega), List.getElem?_eq_none (by simp; omega)]
theorem aQ3 {n : Int} {S : List Int} (hS : ∀ x, x ∈ S → 0 ≤ x ∧ x < n) (hl : S.length < 1000000000) : ∀ (m i : Nat), S.length < i + m → i ≤ S.length → wQ m n S (S.length : Int) (i : Int) = some true
 | 0, i, _, _ => by omega
 | m + 1, i, hm, hi => by
  show aG3 (wQ m) _ _ _ _ = _
  unfold aG3
  by_cases c : i < S.length
  ·
   have := hS _ (List.getElem_mem c)
   rw [bt (nU c), bW c, aA, bf (by simp; omega), wr1 i (by omega)]
   exact aQ3 hS hl m (i + 1) (by omega) c
  ·
   rw [bf (nY c)]
theorem aCk {n : Nat} {S : List Int} {l : List aD} (hr : Rg n l) (hl : l.length < 1000000000) : ∀ (m i : Nat) (out : List aD), l.length < i + m → i ≤ l.length → out.length ≤ i → nC m (mks n S) out l (l.length : Int) (i : Int) = some (out ++ (l.drop i).filter fun e => decide (e.U ∈ S) != decide (e.V ∈ S))
 | 0, i, _, _, _, _ => by omega
 | m + 1, i, out, hm, hi, ho => by
  show aAf (nC m) _ _ _ _ _ = _
  unfold aAf vE
  by_cases c : i < l.length
  ·
   obtain ⟨u0, un, v0, vn⟩ := hr.at c
   rw [bt (nU c), bW c, aA, aRb u0 un, aA, aRb v0 vn, aA, wr1 i (by omega), aPv c]
   have e : (!(decide (l[i].U ∈ S) == decide (l[i].V ∈ S))) = (decide (l[i].U ∈ S) != decide (l[i].V ∈ S)) := rfl
   rw [e]
   cases q : (decide (l[i].U ∈ S) != decide (l[i].V ∈ S)) with
   | true =>
    rw [bt rfl, dY (by simp; omega), aA, aCk hr hl m (i + 1) _ (by omega) c (by simp; omega)]
    simp
   | false =>
    rw [bf rfl, aCk hr hl m (i + 1) _ (by omega) c (by omega)]
    simp
  ·
   rw [bf (nY c), List.drop_eq_nil_of_le (by omega)]; simp
theorem aSf {n : Nat} {l : List aD} (hr : Rg n l) (hl : l.length < 1000000000) {S : List Int} (hS : ∀ x, x ∈ S → 0 ≤ x ∧ x < (n : Int)) (hs : S.length < 1000000000) : ∀ (m i : Nat), S.length < i + m → i ≤ S.length →
 aAa m l (mks n (S.take i)) S (S.length : Int) (i : Int) = some (l.filter (fun e => decide (e.U ∈ S) != decide (e.V ∈ S)), 0)
 | 0, i, _, _ => by omega
 | m + 1, i, hm, hi => by
  have hFU := FU
  show aIx (aAa m) _ _ _ _ _ = _
  unfold aIx
  by_cases c : i < S.length
  ·
   have := hS _ (List.getElem_mem c)
   rw [bt (nU c), bW c, aA, aRb this.1 this.2, aA, bI2 this.1 this.2, aA, wr1 i (by omega), ← aA1 c]
   exact aSf hr hl hS hs m (i + 1) (by omega) c
  ·
   rw [bf (nY c), List.take_of_length_le (by omega)]
   unfold aCr
   have := aCk (S := S) hr hl bF 0 [] (by omega) (Nat.zero_le _) (by simp)
   rw [show (0 : Int) = ((0 : Nat) : Int) from rfl, this]; rfl
theorem bCz {n : Int} (h0 : 0 ≤ n) (hn : n ≤ 1024) {l : List aD} (hT : trB n l = true) (hr : Rg n l) (hl : l.length < 1000000000) {S : List Int} (hS : ∀ x, x ∈ S → 0 ≤ x ∧ x < n) (hs : S.length < 1000000000) :
 aHz n l S = some (l.filter (fun e => decide (e.U ∈ S) != decide (e.V ∈ S)), 0) := by
 have hFU := FU
 obtain ⟨k, rfl⟩ := Int.eq_ofNat_of_zero_le h0
 unfold aHz aIe
 rw [jO hl, aA, hT, bf (c := !true) rfl]
 have e1 := aQ3 hS hs bF 0 (by omega) (Nat.zero_le _)
 rw [show (0 : Int) = ((0 : Nat) : Int) from rfl, e1, aA, bf (c := !true) rfl, aLd (k := k) rfl (Int.le_refl _) (by omega), aA]
 have e2 : List.replicate k false = mks k (S.take 0) := by
  unfold mks
  apply List.ext_getElem?
  intro j
  by_cases c : j < k
  ·
   rw [List.getElem?_replicate, if_pos c, List.getElem?_map, List.getElem?_range c]; simp
  ·
   rw [List.getElem?_eq_none (by simp; omega), List.getElem?_eq_none (by simp; omega)]
 rw [e2]
 exact aSf hr hl hS hs bF 0 (by omega) (Nat.zero_le _)
theorem bGt {n : Int} {l : List aD} (hr : Rg n l) (p : Int → Int) (v : Int) : l.filter (fun e => decide (e.U ∈ trl n p v) != decide (e.V ∈ trl n p v)) = aEp p v l := by
 unfold aEp
 refine List.filter_congr fun e he => ?_
 have := hr e he
 unfold inQ uv
 congr 1
 ·
  rw [Bool.eq_iff_iff, decide_eq_true_eq, tD, beq_iff_eq]
  exact ⟨fun q => q.2.2, fun q => ⟨this.1, this.2.1, q⟩⟩
 ·
  rw [Bool.eq_iff_iff, decide_eq_true_eq, tD, beq_iff_eq]
  exact ⟨fun q => q.2.2, fun q => ⟨this.2.2.1, this.2.2.2, q⟩⟩
theorem bIw {n : Int} (hn : n ≤ 1024) (p : Int → Int) (v : Int) : (trl n p v).length ≤ 1024 := Nat.le_trans (aZg _ _ _ _) (by omega)
theorem bNr {n : Int} {p : Int → Int} {v : Int} : ∀ x, x ∈ trl n p v → 0 ≤ x ∧ x < n := fun x hx => by have := tD.1 hx; exact ⟨this.1, this.2.1⟩
section
variable {g : aG} (hE : g.Edges.length < 1000000000) (h : GOK g)
include hE h
theorem aNc {t v : Int} (ht : t ≤ g.Config.L) (v0 : 0 ≤ v) (vn : v < g.Config.N) : tC g t v = some (aEp (pf g t) v g.Edges) := by
 have h3 := h.n1
 unfold tC
 have hl := bIw h.n2 (pf g t) v
 rw [aCq hE h ht v0 vn, aA, bCz (by omega) h.n2 h.tr h.rg hE bNr (by omega), aA, bGt h.rg]
end
theorem bH4 {p : Int → Int} {v : Int} {l : List aD} {e : aD} (h : e ∈ aEp p v l) : e ∈ l := (List.mem_filter.1 h).1
theorem bE0 (p : Int → Int) (v : Int) (l : List aD) : (aEp p v l).length ≤ l.length := List.length_filter_le _ _
def ns (l : List Nat) : List Int := l.map fun (n : Nat) => (n : Int)
def nmE (e : aD) : Nat := nmQ (uv e)
theorem aM7 {e : aD} (h : EB e) : ((nmE e : Nat) : Int) = e.U * 16777216 + e.V := by
 unfold nmE nmQ uv EB at *
 simp only []
 omega
theorem bE1 {e : aD} (h : EB e) : nmE e < 17179869184 := by
 have := aM7 h
 unfold EB at h
 omega
theorem bCg {e : aD} (h : EB e) : aHq e.U e.V = some (((nmE e : Nat) : Int), 0) := by
 have h0 := aM7 h
 obtain ⟨h1, h2, h3⟩ := h
 unfold aHq vN
 rw [aA, fO, aA]
 have e1 : (decide (0 ≤ e.U) && decide (e.U < 16777216)) = true := by simp; omega
 have e2 : (decide (0 ≤ e.V) && decide (e.V < 16777216)) = true := by simp; omega
 rw [e1, e2, bf (by rfl), bf (by simp; omega), if_neg (by omega), if_pos (by omega), wu, wu, wu, wu, h0]
 congr 2
 omega
theorem aNb {l : List aD} (hl : l.length < 1000000000) (hb : ∀ e, e ∈ l → EB e) : ∀ (m i : Nat) (out : List Int), l.length < i + m → i ≤ l.length → out.length ≤ i → mT m out l (l.length : Int) (i : Int) = some (out ++ ns ((l.drop i).map nmE))
 | 0, i, _, _, _, _ => by omega
 | m + 1, i, out, hm, hi, ho => by
  show aCg (mT m) _ _ _ _ = _
  unfold aCg yL aDg
  by_cases c : i < l.length
  ·
   rw [bt (nU c), bW c, aA, bCg (hb _ (List.getElem_mem c)), aA]
   simp only []
   rw [bf (by rfl), dY (by simp; omega), aA, wr1 i (by omega), aNb hl hb m (i + 1) _ (by omega) c (by simp; omega), cR c]
   simp only [ns, List.map_cons, List.append_assoc, List.cons_append, List.nil_append]
  ·
   rw [bf (nY c), List.drop_eq_nil_of_le (by omega)]; simp [ns]
theorem aTz {l : List aD} (hl : l.length < 1000000000) (hb : ∀ e, e ∈ l → EB e) : aBz l = some (ns (l.map nmE)) := by
 have hFU := FU
 unfold aBz
 have := aNb hl hb bF 0 [] (by omega) (Nat.zero_le _) (by simp)
 exact this
theorem bTn {a R b : Int} (h0 : 0 ≤ a) (h1 : a ≤ b) (h2 : 0 ≤ R) (h3 : R ≤ 8) (hb : b ≤ 16) : 0 ≤ a * R ∧ a * R ≤ b * R ∧ b * R ≤ 128 := by
 have e1 : 0 ≤ a * R := Int.mul_nonneg h0 h2
 have e2 : a * R ≤ b * R := Int.mul_le_mul_of_nonneg_right h1 h2
 have e3 : b * R ≤ 16 * 8 := Int.mul_le_mul hb h3 h2 (by omega)
 exact ⟨e1, e2, by omega⟩
theorem aMh {g : aG} (h : GOK g) {t : Int} (h0 : 0 ≤ t) (ht : t < g.Config.L) : 0 ≤ t * g.Config.R ∧ t * g.Config.R + g.Config.R ≤ (g.Hashes.length : Int) ∧ (g.Hashes.length : Int) ≤ 128 := by
 have h1 := h.hl
 obtain ⟨a1, a2, a3⟩ := bTn (a := t + 1) (b := g.Config.L) (R := g.Config.R) (by omega) (by omega) (by have := h.r1; omega) h.r2 h.l2
 have e : (t + 1) * g.Config.R = t * g.Config.R + g.Config.R := by rw [Int.add_mul, Int.one_mul]
 have e0 : 0 ≤ t * g.Config.R := Int.mul_nonneg h0 (by have := h.r1; omega)
 omega
theorem aI5 {g : aG} (h : GOK g) {t : Int} (h0 : 0 ≤ t) (ht : t < g.Config.L) : oX g t = some (hsh g t) := by
 obtain ⟨b1, b2, b3⟩ := aMh h h0 ht
 have r1 := h.r1
 unfold oX fD
 rw [wr0 (n := t * g.Config.R) (by omega) (by omega), wr0 (n := t * g.Config.R + g.Config.R) (by omega) (by omega),
  aRa (a := (t * g.Config.R).toNat) (b := (t * g.Config.R + g.Config.R).toNat) (by omega) (by omega) (by omega) (by omega), aA, bA7 (by simp; omega), aA]
 unfold hsh
 rw [List.nil_append]
 congr 3
 omega
theorem aZ7 {g : aG} (h : GOK g) {t : Int} (h0 : 0 ≤ t) (ht : t < g.Config.L) : (hsh g t).length = g.Config.R.toNat := by
 obtain ⟨b1, b2, b3⟩ := aMh h h0 ht
 have r1 := h.r1
 unfold hsh
 rw [List.length_take, List.length_drop]; omega
end Go.Proofs.YtkdohhmacfoolaaGreat
