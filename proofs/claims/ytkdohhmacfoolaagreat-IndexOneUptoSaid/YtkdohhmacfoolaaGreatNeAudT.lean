/- Facts that the statement's proof is made of. No condition. -/
import Derived.Test.YtkdohhmacfoolaaGreatNeAudP
set_option linter.unusedVariables false
set_option linter.unusedSimpArgs false
set_option maxRecDepth 20000
set_option maxHeartbeats 1000000
namespace Go.Proofs.YtkdohhmacfoolaaGreat
open Go Go.AM Go.Pl Go.Pt
def Rg (n : Int) (l : List aD) : Prop := ∀ e, e ∈ l → 0 ≤ e.U ∧ e.U < n ∧ 0 ≤ e.V ∧ e.V < n
theorem Rg.inR {n : Int} {l : List aD} (h : Rg n l) (hn : 0 ≤ n) : InR n.toNat (en l) := by
 intro e he
 unfold en at he
 obtain ⟨x, hx, rfl⟩ := List.mem_map.1 he
 have := h x hx
 refine ⟨this.1, ?_, this.2.2.1, ?_⟩
 ·
  show x.U < _; omega
 ·
  show x.V < _; omega
theorem Rg.inR' {n : Int} {l : List aD} (h : Rg n l) : ∀ e, e ∈ en l → 0 ≤ e.1 ∧ e.1 < n ∧ 0 ≤ e.2 ∧ e.2 < n := by
 intro e he
 unfold en at he
 obtain ⟨x, hx, rfl⟩ := List.mem_map.1 he
 exact h x hx
theorem Rg.mono {n : Int} {l l' : List aD} (h : Rg n l) (hs : ∀ e, e ∈ l' → e ∈ l) : Rg n l' := fun e he => h e (hs e he)
theorem Rg.at {n : Int} {l : List aD} (h : Rg n l) {i : Nat} (c : i < l.length) : 0 ≤ l[i].U ∧ l[i].U < n ∧ 0 ≤ l[i].V ∧ l[i].V < n := h _ (List.getElem_mem c)
theorem bNg {n : Int} {l : List aD} (h : trL n none l = true) : Rg n l := fun e he => by
 obtain ⟨a, b, c, _⟩ := nF.1 (aZc h e he); omega
theorem aBr {l : List aD} {t : Int} {e : aD} (h : e ∈ fo l t) : e ∈ l := (List.mem_filter.1 h).1
theorem bG7 {n : Int} {l : List aD} (h : Rg n l) {x : Int} (h0 : 0 ≤ x) (hx : x < n) : 0 ≤ cH (en l) x ∧ cH (en l) x < n := yD h.inR' ⟨h0, hx⟩
def pt (n : Int) (l : List aD) : List Int := tab n (cH (en l))
theorem aXz (n : Int) (l : List aD) : (pt n l).length = n.toNat := vJ _ _
theorem aQm {n : Int} {l : List aD} {x : Int} (h0 : 0 ≤ x) (hx : x < n) : idx (pt n l) x = some (cH (en l) x) := aL6 h0 hx
theorem aEg {n : Int} {l : List aD} (hl : l.length < 1000000000) (h0 : 0 ≤ n) (hn : n ≤ 1024) (h : Rg n l) : qN n l = some (pt n l, 0) := by
 rw [bD9 hl, if_pos ⟨h0, hn, h⟩]; rfl
theorem aJy {n : Int} (h0 : 0 ≤ n) (hn : n ≤ 1024) {l : List aD} (h : Rg n l) : ∀ (m i : Nat), n.toNat < i + m → i ≤ n.toNat → qW m (pt n l) (pt n l) ((pt n l).length : Int) (i : Int) = some true
 | 0, i, _, _ => by omega
 | m + 1, i, hm, hi => by
  show aBq (qW m) _ _ _ _ = _
  have hlen := aXz n l
  unfold aBq
  by_cases c : i < n.toNat
  ·
   rw [bt (by rw [hlen]; exact nU c), aQm (by omega) (by omega), aA]
   unfold fX
   have hr := bG7 h (x := (i : Int)) (by omega) (by omega)
   have hle := aHk (en l) (i : Int)
   rw [aA, gt' (by rw [hlen]; simp; omega), aQm hr.1 hr.2, aA, aFr]
   rw [bf (by rw [hlen]; simp; omega), wr1 i (by omega)]
   exact aJy h0 hn h m (i + 1) (by omega) (by omega)
  ·
   rw [bf (by rw [hlen]; exact nY c)]
theorem aI3 {n : Int} (h0 : 0 ≤ n) (hn : n ≤ 1024) {l : List aD} (h : Rg n l) : uE (pt n l) = some true := by
 have hFU := FU
 unfold uE
 exact aJy h0 hn h bF 0 (by omega) (Nat.zero_le _)
def cntF (n i : Nat) (p : Int → Int) : Nat := (List.range' i (n - i)).countP fun (k : Nat) => decide (p k = k)
theorem cntF_step {n i : Nat} {p : Int → Int} (c : i < n) : cntF n i p = (if p i = i then 1 else 0) + cntF n (i + 1) p := by
 unfold cntF
 rw [show n - i = (n - (i + 1)) + 1 by omega, List.range'_succ, List.countP_cons]
 simp only [decide_eq_true_eq]; omega
theorem bDm (n : Nat) (p : Int → Int) : cntF n 0 p = cnt n p := by unfold cntF cnt; rw [Nat.sub_zero, List.range_eq_range']
theorem bH6 {n i : Nat} (p : Int → Int) (c : ¬ i < n) : cntF n i p = 0 := by unfold cntF; rw [show n - i = 0 by omega]; rfl
theorem aFn {n : Int} (h0 : 0 ≤ n) (hn : n ≤ 1024) (f : Int → Int) : ∀ (m i k : Nat), n.toNat < i + m → i ≤ n.toNat → k ≤ i → qG m (k : Int) (tab n f) ((tab n f).length : Int) (i : Int) = some (((k + cntF n.toNat i f : Nat) : Int))
 | 0, i, _, _, _, _ => by omega
 | m + 1, i, k, hm, hi, hk => by
  show aCw (qG m) _ _ _ _ = _
  have hlen := vJ n f
  unfold aCw yJ
  by_cases c : i < n.toNat
  ·
   rw [bt (by rw [hlen]; exact nU c), aL6 (by omega) (by omega), aA, wr1 i (by omega), wr1 k (by omega), cntF_step c]
   by_cases e : f i = i
   ·
    rw [bt (by simp [e]), aFn h0 hn f m (i + 1) (k + 1) (by omega) (by omega) (by omega), if_pos e]
    congr 2; omega
   ·
    rw [bf (by simp; omega), aFn h0 hn f m (i + 1) k (by omega) (by omega) (by omega), if_neg e]
    congr 2; omega
  ·
   rw [bf (by rw [hlen]; exact nY c), bH6 f c]; rfl
theorem aUo {n : Int} (h0 : 0 ≤ n) (hn : n ≤ 1024) {l : List aD} (h : Rg n l) : aAu (pt n l) = some ((cl n.toNat (en l) : Nat) : Int) := by
 have hFU := FU
 unfold aAu
 rw [aI3 h0 hn h, aA, bf (c := !true) rfl]
 have := aFn h0 hn (cH (en l)) bF 0 0 (by omega) (Nat.zero_le _) (Nat.le_refl _)
 rw [bDm, Nat.zero_add] at this
 exact this
theorem bSm {n : Nat} (l : List E) : cl n l ≤ n := by unfold cl cnt; exact Nat.le_trans List.countP_le_length (by simp)
theorem nT (l : List aD) : (en l).length = l.length := by simp [en]
def foB (n : Int) (l : List aD) : Bool := decide (cl n.toNat (en l) + l.length = n.toNat)
theorem zE {n : Int} (h0 : 0 ≤ n) (hn : n ≤ 1024) {l : List aD} (hl : l.length < 1000000000) (h : Rg n l) : nO n l = some (foB n l) := by
 unfold nO foB
 rw [aEg hl h0 hn h, aA]
 have := bSm (n := n.toNat) (en l)
 simp only []
 rw [gt' (by rfl), aUo h0 hn h, aA, wr0 (by omega) (by omega)]
 congr 1
 by_cases c : cl n.toNat (en l) + l.length = n.toNat
 ·
  simp [c]; omega
 ·
  simp [c]; omega
def sm (p : List Int) : Nat := (p.map Int.toNat).sum
def Iv (n : Int) (l : List aD) (p : List Int) : Prop := p.length = n.toNat ∧ ∀ k : Nat, k < n.toNat → ∃ y : Nat, p[k]? = some (y : Int) ∧ y ≤ k ∧ bN (en l) k y
theorem Iv.set {n : Int} {l : List aD} {p : List Int} (h : Iv n l p) {v a : Nat} (hv : v < n.toNat) (hle : a ≤ v) (hc : bN (en l) v a) : Iv n l (p.set v (a : Int)) := by
 refine ⟨by rw [List.length_set]; exact h.1, fun k hk => ?_⟩
 by_cases e : k = v
 ·
  subst e; exact ⟨a, by rw [List.getElem?_set_self (by rw [h.1]; exact hk)], hle, hc⟩
 ·
  obtain ⟨y, h1, h2⟩ := h.2 k hk
  exact ⟨y, by rw [List.getElem?_set_ne (fun q => e q.symm)]; exact h1, h2⟩
theorem Iv.done {n : Int} {l : List aD} {p : List Int} (h : Rg n l) (hI : Iv n l p) (he : ∀ j (hj : j < l.length), idx p l[j].U = idx p l[j].V) : p = pt n l := by
 refine aVv hI.1 fun k hk => ?_
 have key := aSr (n := n) (l := en l) h.inR' (q := fun x => (p[x.toNat]?).getD 0) (fun x h0 hx => by
  obtain ⟨y, y1, y2, y3⟩ := hI.2 x.toNat (by omega)
  have e : ((x.toNat : Nat) : Int) = x := by omega
  rw [e] at y3
  simp only [y1, Option.getD_some]
  exact ⟨by omega, by omega, y3⟩) (fun e hm => by
  unfold en at hm
  obtain ⟨x, hx, rfl⟩ := List.mem_map.1 hm
  obtain ⟨j, hj, rfl⟩ := List.getElem_of_mem hx
  have r := h.at hj
  have := he j hj
  rw [oZ (k := l[j].U.toNat) (by omega), oZ (k := l[j].V.toNat) (by omega)] at this
  simp only [this]) (k : Int) (by omega) hk
 obtain ⟨y, y1, _⟩ := hI.2 k (by omega)
 simp only [Int.toNat_natCast, y1, Option.getD_some] at key
 rw [y1, key]
end Go.Proofs.YtkdohhmacfoolaaGreat
set_option linter.unusedVariables false
set_option linter.unusedSimpArgs false
set_option maxRecDepth 20000
set_option maxHeartbeats 1000000
namespace Go.Proofs.YtkdohhmacfoolaaGreat
open Go Go.AM Go.Pl Go.Pt
theorem Rg.take {n : Int} {l : List aD} (h : Rg n l) (i : Nat) : Rg n (l.take i) := h.mono fun e he => List.mem_of_mem_take he
def hsB (l : List bT) : Bool := l.all fun h => decide (h.A < 2305843009213693951) && decide (h.B < 2305843009213693951)
def tiB (t : Int) (l : List aD) : Bool := l.all fun e => decide (e.Tier ≤ t)
theorem aU3 (t : Int) (e : aD) (l : List aD) : tiB t (e :: l) = (decide (e.Tier ≤ t) && tiB t l) := rfl
theorem aNu (h : bT) (l : List bT) : hsB (h :: l) = ((decide (h.A < 2305843009213693951) && decide (h.B < 2305843009213693951)) && hsB l) := rfl
def cfB (g : aG) : Bool := decide (1 ≤ g.Config.N ∧ g.Config.N ≤ 1024 ∧ 1 ≤ g.Config.L ∧ g.Config.L ≤ 16 ∧ 1 ≤ g.Config.R ∧ g.Config.R ≤ 8 ∧ (g.Hashes.length : Int) = g.Config.L * g.Config.R)
def grB (g : aG) : Bool := cfB g && (hsB g.Hashes && (trB g.Config.N g.Edges && (tiB g.Config.L g.Edges && foB g.Config.N (fo g.Edges g.Config.L))))
theorem aIi {n : Int} {l : List aD} (h : trB n l = true) : 0 ≤ n ∧ n ≤ 1024 ∧ Rg n l := by
 unfold trB at h
 simp only [Bool.and_eq_true, decide_eq_true_eq] at h
 exact ⟨h.1.1, h.1.2, bNg h.2⟩
theorem aK2 {n : Int} {l : List aD} (h : Rg n l) (t : Int) : Rg n (fo l t) := h.mono fun e he => aBr he
section
variable {g : aG} (hE : g.Edges.length < 1000000000) (hH : g.Hashes.length < 1000000000)
include hE
theorem bLz (hT : trB g.Config.N g.Edges = true) : ∀ (m i : Nat), g.Edges.length < i + m → i + m ≤ bF → i ≤ g.Edges.length → mJ m g g.Config g.Edges (g.Edges.length : Int) (i : Int) = some (tiB g.Config.L (g.Edges.drop i) && foB g.Config.N (fo g.Edges g.Config.L))
 | 0, i, h, _, hi => by omega
 | m + 1, i, h, hF, hi => by
  have hFU := FU
  obtain ⟨n0, n1, hr⟩ := aIi hT
  show wN (mJ m) g g.Config g.Edges _ _ = _
  unfold wN
  by_cases c : i < g.Edges.length
  ·
   rw [bt (nU c), bW c, aA, cR c, wr1 i (by omega)]
   by_cases q : g.Edges[i].Tier ≤ g.Config.L
   ·
    rw [bf (by simp; omega), bLz hT m (i + 1) (by omega) (by omega) c]
    rw [aU3]; simp [q]
   ·
    rw [bt (by simp; omega)]
    rw [aU3]; simp [q]
  ·
   rw [bf (nY c), lW hE, aA, hT, List.drop_eq_nil_of_le (by omega)]
   have := aQo g.Edges g.Config.L
   simp only [if_true]
   rw [zE n0 n1 (by omega) (aK2 hr _), aA]; rfl
theorem bLv : ∀ (m i : Nat), g.Hashes.length < i + m → i + m ≤ bF → i ≤ g.Hashes.length → mB m g g.Config g.Hashes (g.Hashes.length : Int) (i : Int) = some (hsB (g.Hashes.drop i) && (trB g.Config.N g.Edges && (tiB g.Config.L g.Edges && foB g.Config.N (fo g.Edges g.Config.L))))
 | 0, i, h, _, hi => by omega
 | m + 1, i, h, hF, hi => by
  have hFU := FU
  show xY (mB m) g g.Config g.Hashes _ _ = _
  unfold xY
  by_cases c : i < g.Hashes.length
  ·
   rw [bt (nU c), bW c, aA, cR c, wr1 i (by omega)]
   by_cases q : g.Hashes[i].A < 2305843009213693951 ∧ g.Hashes[i].B < 2305843009213693951
   ·
    rw [bf (by simp; omega), bLv m (i + 1) (by omega) (by omega) c]
    rw [aNu]; simp [q]
   ·
    rw [bt (by simp; omega)]
    have : (decide (g.Hashes[i].A < 2305843009213693951) && decide (g.Hashes[i].B < 2305843009213693951)) = false := by simp; omega
    rw [aNu, this]; rfl
  ·
   rw [bf (nY c), jO hE, aA, List.drop_eq_nil_of_le (by omega)]
   cases hT : trB g.Config.N g.Edges with
   | false => rfl
   | true =>
    rw [bf (c := !true) rfl, show (0 : Int) = ((0 : Nat) : Int) from rfl, bLz hE hT bF 0 (by omega) (by omega) (Nat.zero_le _)]; rfl
omit hE in
theorem aZ4 (h : 1 ≤ g.Config.L ∧ g.Config.L ≤ 16 ∧ 1 ≤ g.Config.R ∧ g.Config.R ≤ 8) : IntKind.i64.wrap (g.Config.L * g.Config.R) = g.Config.L * g.Config.R := by
 have h1 : 0 ≤ g.Config.L * g.Config.R := Int.mul_nonneg (by omega) (by omega)
 have h2 : g.Config.L * g.Config.R ≤ 16 * 8 := Int.mul_le_mul (by omega) (by omega) (by omega) (by omega)
 exact wr0 (by omega) (by omega)
include hH
theorem gM : eG g = some (grB g) := by
 have hFU := FU
 have e := bLv hE bF 0 (by omega) (by omega) (Nat.zero_le _)
 rw [List.drop_zero] at e
 unfold eG grB
 by_cases c : 1 ≤ g.Config.N ∧ g.Config.N ≤ 1024 ∧ 1 ≤ g.Config.L ∧ g.Config.L ≤ 16 ∧ 1 ≤ g.Config.R ∧ g.Config.R ≤ 8
 ·
  rw [bf (by simp; omega), aZ4 ⟨c.2.2.1, c.2.2.2.1, c.2.2.2.2⟩]
  by_cases k : (g.Hashes.length : Int) = g.Config.L * g.Config.R
  ·
   rw [bf (by simp [k]), show (0 : Int) = ((0 : Nat) : Int) from rfl, e]
   have : cfB g = true := by unfold cfB; rw [decide_eq_true_eq]; exact ⟨c.1, c.2.1, c.2.2.1, c.2.2.2.1, c.2.2.2.2.1, c.2.2.2.2.2, k⟩
   rw [this]; rfl
  ·
   rw [bt (by simp [k])]
   have : cfB g = false := by unfold cfB; rw [decide_eq_false_iff_not]; exact fun q => k q.2.2.2.2.2.2
   rw [this]; rfl
 ·
  have : cfB g = false := by unfold cfB; rw [decide_eq_false_iff_not]; exact fun q => c ⟨q.1, q.2.1, q.2.2.1, q.2.2.2.1, q.2.2.2.2.1, q.2.2.2.2.2.1⟩
  rw [bt (by simp; omega), this]; rfl
end
structure GOK (g : aG) : Prop where
  n1 : 1 ≤ g.Config.N
  n2 : g.Config.N ≤ 1024
  l1 : 1 ≤ g.Config.L
  l2 : g.Config.L ≤ 16
  r1 : 1 ≤ g.Config.R
  r2 : g.Config.R ≤ 8
  hl : (g.Hashes.length : Int) = g.Config.L * g.Config.R
  hs : hsB g.Hashes = true
  tr : trB g.Config.N g.Edges = true
  ti : tiB g.Config.L g.Edges = true
  fr : foB g.Config.N (fo g.Edges g.Config.L) = true
  rg : Rg g.Config.N g.Edges
theorem gok {g : aG} (h : grB g = true) : GOK g := by
 unfold grB cfB at h
 simp only [Bool.and_eq_true, decide_eq_true_eq] at h
 obtain ⟨⟨a, b, c, d, e, f, k⟩, h1, h2, h3, h4⟩ := h
 exact ⟨a, b, c, d, e, f, k, h1, h2, h3, h4, (aIi h2).2.2⟩
end Go.Proofs.YtkdohhmacfoolaaGreat
set_option linter.unusedVariables false
set_option linter.unusedSimpArgs false
set_option maxRecDepth 20000
set_option maxHeartbeats 1000000
namespace Go.Proofs.YtkdohhmacfoolaaGreat
open Go Go.AM Go.Pl Go.Pt
theorem aEx (a b : List Int) (hab : a.length = b.length) (hl : a.length < 1000000000) : ∀ (m i : Nat), a.length < i + m → i ≤ a.length → jE m a b (a.length : Int) (i : Int) = some (decide (a.drop i = b.drop i))
 | 0, i, h, hi => by omega
 | m + 1, i, h, hi => by
  show qZ (jE m) a b _ _ = _
  unfold qZ
  by_cases c : i < a.length
  ·
   have c' : i < b.length := by omega
   rw [bt (nU c), bW c, aA, bW c', aA, wr1 i (by omega), cR c, cR c']
   by_cases q : a[i] = b[i]
   ·
    rw [bf (by simp [q]), aEx a b hab hl m (i + 1) (by omega) c]; simp [q, -List.getElem_cons_drop]
   ·
    rw [bt (by simp [q])]; simp [q, -List.getElem_cons_drop]
  ·
   rw [bf (nY c), List.drop_eq_nil_of_le (by omega), List.drop_eq_nil_of_le (by omega)]; rfl
theorem aMg (a b : List Int) (hl : a.length < 1000000000) : nS a b = some (decide (a = b)) := by
 have hFU := FU
 unfold nS
 by_cases h : a.length = b.length
 ·
  rw [bf (by simp [h]), show (0 : Int) = ((0 : Nat) : Int) from rfl, aEx a b h hl bF 0 (by omega) (Nat.zero_le _)]; rfl
 ·
  rw [bt (by simp; omega)]
  have : ¬ a = b := fun e => h (by rw [e])
  simp [this]
def kf (g : aG) : List aD := fo g.Edges g.Config.L
theorem bL4 {n : Int} (hn : n ≤ 1024) (l : List aD) : (pt n l).length < 1000000000 := by rw [aXz]; omega
section
variable {g : aG} (hE : g.Edges.length < 1000000000) (hH : g.Hashes.length < 1000000000)
include hE hH
theorem aGs : qC g = some (if grB g then pt g.Config.N (kf g) else []) := by
 unfold qC
 rw [gM hE hH, aA]
 cases h : grB g with
 | false => rfl
 | true =>
  have k := gok h
  have := aQo g.Edges g.Config.L
  rw [bf (c := !true) rfl, lW hE, aA, k.tr]
  simp only [if_true]
  rw [aEg (by omega) (by have := k.n1; omega) k.n2 (aK2 k.rg _), aA]; rfl
theorem aWx : aEh g = some (if grB g then pt g.Config.N g.Edges else []) := by
 unfold aEh
 rw [gM hE hH, aA]
 cases h : grB g with
 | false => rfl
 | true =>
  have k := gok h
  rw [bf (c := !true) rfl, aEg hE (by have := k.n1; omega) k.n2 k.rg, aA]; rfl
theorem aOu : vH g = some (grB g && decide (pt g.Config.N (kf g) = pt g.Config.N g.Edges)) := by
 unfold vH
 rw [gM hE hH, aA, aGs hE hH, aWx hE hH]
 cases h : grB g with
 | false => rfl
 | true =>
  simp only [if_true]
  rw [gtt, aA, gtt, aA, gtt, aMg _ _ (bL4 (gok h).n2 _), aA]
end
section
variable {g : aG} (hE : g.Edges.length < 1000000000) (h : GOK g)
include hE h
end
end Go.Proofs.YtkdohhmacfoolaaGreat
set_option linter.unusedVariables false
set_option linter.unusedSimpArgs false
set_option maxRecDepth 20000
set_option maxHeartbeats 1000000
namespace Go.Proofs.YtkdohhmacfoolaaGreat
open Go Go.AM Go.Pl Go.Pt
theorem aPh {n : Nat} {l : List E} : ∀ (a : List E), InR n (a ++ l) → cl n (a ++ l) ≤ cl n l
 | [], _ => Nat.le_refl _
 | e :: a, h => by
  have h1 := aLe (l := a ++ l) h
  have h2 := aPh a (InR.tail h)
  have : cl n (e :: a ++ l) = cl n (e :: (a ++ l)) := rfl
  rw [this]
  split at h1 <;> omega
theorem bF5 {l l' : List E} (h : ∀ e, e ∈ l → e ∈ l') (x y : Int) : bN (l' ++ l) x y ↔ bN l' x y := kY (fun e => by simp; exact h e) x y
theorem InR.app {n : Nat} {l l' : List E} (h : ∀ e, e ∈ l → e ∈ l') (hr : InR n l') : InR n (l' ++ l) := fun e he => by
 rcases List.mem_append.1 he with m | m
 ·
  exact hr e m
 ·
  exact hr e (h e m)
theorem bDq {n : Nat} {l l' : List E} (h : ∀ e, e ∈ l → e ∈ l') (hr : InR n l') : cl n l' ≤ cl n l := by
 rw [← aLq (bF5 h)]; exact aPh l' (InR.app h hr)
theorem aUw {l l' : List aD} (h : ∀ e, e ∈ l → e ∈ l') : ∀ e, e ∈ en l → e ∈ en l' := fun e he => by
 unfold en at *
 obtain ⟨x, hx, rfl⟩ := List.mem_map.1 he
 exact List.mem_map.2 ⟨x, h x hx, rfl⟩
def bare (l : List aD) : List aD := l.map fun e => aD.mk e.U e.V 0
end Go.Proofs.YtkdohhmacfoolaaGreat
