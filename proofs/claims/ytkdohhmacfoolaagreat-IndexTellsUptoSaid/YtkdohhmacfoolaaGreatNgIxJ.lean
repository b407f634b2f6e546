/- Facts. No condition. -/
import Derived.Test.YtkdohhmacfoolaaGreatNgIxI
set_option linter.unusedVariables false
set_option linter.unusedSimpArgs false
set_option maxRecDepth 20000
set_option maxHeartbeats 1000000
namespace Go.Proofs.YtkdohhmacfoolaaGreat
open Go Go.AM Go.Pl Go.Pt Go.Ix
def rs (s : aD) : aH := ⟨s.Graph, rf s.Slots⟩
theorem bLk (l : List aM) : (rf l).length = l.length := by simp [rf]
theorem aQq {l : List aM} {i : Nat} (h : i < l.length) : idx (rf l) (i : Int) = some ⟨l[i].Used, l[i].Key⟩ := by
 rw [dI]; unfold rf; rw [List.getElem?_map, List.getElem?_eq_getElem h]; rfl
theorem aXq {s : aD} (h : s.Slots.length < 1000000) : rJ s = some (rs s) := by
 unfold rJ
 rw [aD7 h, aA]; rfl
theorem aW6 {s : aD} {i : Nat} (h : i < s.Slots.length) : usd s.Slots (i : Int) = s.Slots[i].Used := by unfold usd; rw [Int.toNat_natCast, List.getElem?_eq_getElem h]; rfl
theorem bR8 {s : aD} {i : Nat} (h : i < s.Slots.length) : kv s.Slots (i : Int) = s.Slots[i].Key := by unfold kv; rw [Int.toNat_natCast, List.getElem?_eq_getElem h]; rfl
section
variable {c : aT} {s : aD} {m : aF} (R : Rel c s m)
include R
theorem bSk {a : Int} {i : Nat} (hi : At s.Slots i a) : ∀ (n j : Nat), i < j + n → j ≤ i → zO n a (rf s.Slots) ((rf s.Slots).length : Int) (j : Int) = some (i : Int)
 | 0, j, hn, hj => by omega
 | n + 1, j, hn, hj => by
  have hl := (List.getElem?_eq_some_iff.1 hi).1
  have h2 := R.ok.v.n2
  show aIm (zO n) _ _ _ _ = _
  unfold aIm
  rw [bLk]
  have cj : j < s.Slots.length := by omega
  rw [bt (by simpa using cj), aQq cj, aA]
  by_cases c : j = i
  ·
   subst c
   have e : s.Slots[j] = ⟨true, a⟩ := by
    have := hi
    unfold At at this
    rw [List.getElem?_eq_getElem cj] at this
    exact Option.some.inj this
   rw [e, bt (by simp)]
  ·
   rw [bf (by
    cases q : (s.Slots[j].Used && s.Slots[j].Key == a) with
    | false => rfl
    | true =>
     simp only [Bool.and_eq_true, beq_iff_eq] at q
     refine absurd (R.ok.v.inj j i a ?_ hi) c
     unfold At
     rw [List.getElem?_eq_getElem cj]
     generalize s.Slots[j] = x at q
     cases x with | mk u y => obtain ⟨q1, q2⟩ := q; subst q1 q2; rfl), wr1 j (by omega)]
   have := bSk hi n (j + 1) (by omega) (by omega)
   rw [bLk] at this
   exact this
theorem aIn {a : Int} {i : Nat} (hi : At s.Slots i a) : aC5 (rs s) a = some (i : Int) := by
 have hFU := FU'
 have hl := (List.getElem?_eq_some_iff.1 hi).1
 have h2 := R.ok.v.n2
 exact bSk R hi bF 0 (by omega) (Nat.zero_le _)
theorem aHb (p : Int → Int) {v : Nat} (hv : (v : Int) < s.Graph.Config.N) : ∀ (n i : Nat) (out : List Int), s.Slots.length < i + n → i ≤ s.Slots.length → out.length ≤ i →
 iK n (v : Int) (rs s) (tab s.Graph.Config.N p) out (i : Int) = vF (out ++ ((trF s.Graph.Config.N.toNat i p (p v)).filter (usd s.Slots)).map (kv s.Slots))
 | 0, i, out, hn, hi, _ => by omega
 | n + 1, i, out, hn, hi, ho => by
  have h2 := R.ok.v.n2
  have hl := R.ok.len
  show xN (iK n) _ _ _ _ _ = _
  unfold xN rE
  rw [lQ]
  by_cases c : i < s.Slots.length
  ·
   have eI : idx (rs s).Slots (i : Int) = some ⟨s.Slots[i].Used, s.Slots[i].Key⟩ := aQq c
   rw [bt (by simp; omega), dI, vK (by omega), aA, dI, vK hv, aA, eI, dU, aA, aZ4 (by omega), wr1 i (by omega)]
   by_cases q : p i = p v
   ·
    rw [if_pos q]
    have e : ((p (i : Int) == p (v : Int)) == true) = true := by simp [q]
    rw [e]
    simp only [cond_true]
    by_cases u : s.Slots[i].Used = true
    ·
     rw [bt (by simp [q, u]), aA, dL (by simp; omega), aA, aHb p hv n (i + 1) _ (by omega) c (by simp; omega)]
     simp [aW6 c, u, bR8 c]
    ·
     rw [bf (by simp [u]), aHb p hv n (i + 1) _ (by omega) c (by omega)]
     simp [aW6 c, u]
   ·
    rw [if_neg q, bf (by simp [q]), aHb p hv n (i + 1) _ (by omega) c (by omega)]
    simp
  ·
   rw [bf (by simp; omega), bEn (by omega)]
   simp
theorem xP {v : Nat} (hv : v < s.Slots.length) : kT (rs s) (v : Int) = some (aS4 s (cO (en (kf s.Graph))) (v : Int)) := by
 have hFU := FU'
 have h2 := R.ok.v.n2
 have hl := R.ok.len
 unfold kT
 have k : jU (rs s).Graph = some (pt s.Graph.Config.N (kf s.Graph)) := aE1 R.gd.e (gok R.gd.ok)
 have := aHb R (cO (en (kf s.Graph))) (v := v) (by omega) bF 0 [] (by omega) (Nat.zero_le _) (Nat.le_refl _)
 rw [k, aA]
 have e : iK bF (v : Int) (rs s) (pt s.Graph.Config.N (kf s.Graph)) [] 0 = _ := this
 rw [e, List.nil_append]
 refine bI0 ?_
 have := aOy s.Graph.Config.N.toNat 0 (cO (en (kf s.Graph))) (cO (en (kf s.Graph)) v)
 have := List.length_filter_le (usd s.Slots) (trF s.Graph.Config.N.toNat 0 (cO (en (kf s.Graph))) (cO (en (kf s.Graph)) v))
 rw [List.length_map]; omega
def aKh (s : aD) (p : Int → Int) (i k : Nat) : Bool := (List.range' k (i - k)).all fun (j : Nat) => !(p (j : Int) == p (i : Int) && usd s.Slots (j : Int))
theorem aPj (p : Int → Int) (rec1 : aH → List Int → Int → Int → Option Int) {i : Nat} (hi : i < s.Slots.length) (cnt : Int) : ∀ (n k : Nat) (first : Bool), i < k + n → k ≤ i →
 mI rec1 n (rs s) (tab s.Graph.Config.N p) cnt (i : Int) first (k : Int) = rec1 (rs s) (tab s.Graph.Config.N p) (bif first && aKh s p i k then IntKind.i64.wrap (cnt + 1) else cnt) ((i + 1 : Nat) : Int)
 | 0, k, first, hn, hk => by omega
 | n + 1, k, first, hn, hk => by
  have h2 := R.ok.v.n2
  have hl := R.ok.len
  show aBo rec1 (mI rec1 n) _ _ _ _ _ _ = _
  unfold aBo vD vE
  by_cases c : k < i
  ·
   have ck : k < s.Slots.length := by omega
   have eI : idx (rs s).Slots (k : Int) = some ⟨s.Slots[k].Used, s.Slots[k].Key⟩ := aQq ck
   have st : aKh s p i k = (!(p (k : Int) == p (i : Int) && s.Slots[k].Used) && aKh s p i (k + 1)) := by
    unfold aKh
    rw [show i - k = (i - (k + 1)) + 1 by omega, List.range'_succ, List.all_cons, aW6 ck]
   rw [bt (by simpa using c), dI, vK (by omega), aA, dI, vK (by omega), aA, eI, dU, aA, wr1 k (by omega), st]
   have e : ((p (k : Int) == p (i : Int)) && (bif ((p (k : Int) == p (i : Int)) == true) then (⟨s.Slots[k].Used, s.Slots[k].Key⟩ : bD) else ⟨false, 0⟩).Used) = (p (k : Int) == p (i : Int) && s.Slots[k].Used) := by
    cases p (k : Int) == p (i : Int) <;> rfl
   rw [e]
   cases q : (p (k : Int) == p (i : Int) && s.Slots[k].Used) with
   | true =>
    rw [bt (by rfl), aPj p rec1 hi cnt n (k + 1) false (by omega) c]
    simp
   | false =>
    rw [bf (by rfl), aPj p rec1 hi cnt n (k + 1) first (by omega) c]
    simp
  ·
   have : k = i := by omega
   subst this
   have e : aKh s p k k = true := by unfold aKh; rw [Nat.sub_self]; rfl
   rw [bf (by simp), e, Bool.and_true, wr1 k (by omega)]
   cases first <;> rfl
theorem aJs {p : Int → Int} (hp : ∀ i : Nat, i < s.Slots.length → s.Slots[i]?.any (·.Used) = true → (aKh s p i 0 = ((i : Int) == p (i : Int)))) : ∀ (n i k : Nat), s.Slots.length < i + n → i ≤ s.Slots.length → k ≤ i →
 gA n (rs s) (tab s.Graph.Config.N p) (k : Int) (i : Int) = some (((k + ((vs s.Graph.Config.N).drop i).countP (fun v => v == p v && usd s.Slots v) : Nat)) : Int)
 | 0, i, k, hn, hi, _ => by omega
 | n + 1, i, k, hn, hi, hk => by
  have hFU := FU'
  have h2 := R.ok.v.n2
  have hl := R.ok.len
  show aBn (gA n) _ _ _ _ = _
  unfold aBn
  rw [lQ]
  by_cases c : i < s.Slots.length
  ·
   have eI : idx (rs s).Slots (i : Int) = some ⟨s.Slots[i].Used, s.Slots[i].Key⟩ := aQq c
   have hv : i < (vs s.Graph.Config.N).length := by rw [aWa]; omega
   have := aPj R p (gA n) c (k : Int) bF 0 s.Slots[i].Used (by omega) (Nat.zero_le _)
   rw [bt (by simp; omega), eI, aA, show (0 : Int) = ((0 : Nat) : Int) from rfl, this, bP hv, List.countP_cons, bQj hv, aW6 c, wr1 k (by omega)]
   cases u : s.Slots[i].Used with
   | false =>
    rw [Bool.false_and, Bool.and_false]
    have := aJs hp n (i + 1) k (by omega) c (by omega)
    exact this
   | true =>
    rw [Bool.true_and, Bool.and_true, hp i c (by rw [List.getElem?_eq_getElem c]; simpa using u)]
    cases q : ((i : Int) == p (i : Int)) with
    | true =>
     have := aJs hp n (i + 1) (k + 1) (by omega) c (by omega)
     simp only [cond_true]
     rw [this, if_pos trivial]
     congr 2; omega
    | false =>
     have := aJs hp n (i + 1) k (by omega) c (by omega)
     exact this
  ·
   rw [bf (by simp; omega), List.drop_eq_nil_of_le (by rw [aWa]; omega)]
   rfl
theorem bL8 {l : List aC} (hl : ∀ e, e ∈ l → e ∈ s.Graph.Edges) {i : Nat} (hi : i < s.Slots.length) : aKh s (cO (en l)) i 0 = ((i : Int) == cO (en l) (i : Int)) := by
 have hr : Rg s.Graph.Config.N l := R.n0.2.2.mono hl
 have P := isP (en l)
 have hlen := R.ok.len
 unfold aKh
 rw [Nat.sub_zero]
 by_cases q : (i : Int) = cO (en l) (i : Int)
 ·
  have e : ((i : Int) == cO (en l) (i : Int)) = true := by simpa using q
  rw [e, List.all_eq_true]
  intro j hj
  have hj' := List.mem_range'_1.1 hj
  have := aCb (en l) (j : Int)
  have hne : (cO (en l) (j : Int) == cO (en l) (i : Int)) = false := by
   simp only [beq_eq_false_iff_ne]; omega
  rw [hne]; rfl
 ·
  have e : ((i : Int) == cO (en l) (i : Int)) = false := by simpa using q
  rw [e]
  cases h : (List.range' 0 i).all fun (j : Nat) => !(cO (en l) (j : Int) == cO (en l) (i : Int) && usd s.Slots (j : Int)) with
  | false => rfl
  | true =>
   rw [List.all_eq_true] at h
   have le := aCb (en l) (i : Int)
   have rg := wM (n := s.Graph.Config.N) (l := en l) (fun e he => by
    obtain ⟨x, x1, x2⟩ := iA.1 he
    cases x2
    have := R.edge (hl x x1)
    obtain ⟨b1, b2, b3, b4⟩ := hr x x1
    exact ⟨b1, b2, b3, b4⟩) (x := (i : Int)) (by omega)
   obtain ⟨k, hk⟩ := Int.eq_ofNat_of_zero_le rg.1
   have hc := R.conn_usd hl (zT (en l) (i : Int))
   rcases hc with hc | ⟨_, hu⟩
   ·
    exact absurd hc q
   ·
    have := h k (List.mem_range'_1.2 ⟨Nat.zero_le _, by omega⟩)
    rw [← hk, aDq, aHg.2 hu] at this
    simp at this
theorem aS7 : yK (rs s) = some ((bQu s (cO (en (kf s.Graph))) : Nat) : Int) := by
 have hFU := FU'
 have h2 := R.ok.v.n2
 unfold yK
 have k : jU (rs s).Graph = some (pt s.Graph.Config.N (kf s.Graph)) := aE1 R.gd.e (gok R.gd.ok)
 have := aJs R (p := cO (en (kf s.Graph))) (fun i hi _ => bL8 R (fun e he => aIq he) hi) bF 0 0 (by omega) (Nat.zero_le _) (Nat.le_refl _)
 rw [k, aA]
 rw [List.drop_zero, Nat.zero_add] at this
 exact this
end
theorem bDw {x : aG} : ∀ {l : List aG} {k : Nat}, k ≤ l.length → (∀ j y, j < k → l[j]? = some y → ltP y x) → (∀ y, l[k]? = some y → ¬ ltP y x) → uJ x l = l.take k ++ x :: l.drop k
 | [], 0, _, _, _ => rfl
 | [], k + 1, h, _, _ => by simp at h
 | y :: l, 0, _, _, h => by
  unfold uJ; rw [if_neg (h y rfl)]; rfl
 | y :: l, k + 1, hk, h1, h2 => by
  unfold uJ
  rw [if_pos (h1 0 y (by omega) rfl), bDw (k := k) (by simpa using hk) (fun j z hj hz => h1 (j + 1) z (by omega) hz) h2]; rfl
theorem bTu (p q : aG) : (decide (p.x0 < q.x0) || (p.x0 == q.x0 && decide (p.x1 < q.x1))) = decide (ltP p q) := by
 unfold ltP
 by_cases a : p.x0 < q.x0 <;> by_cases b : p.x0 = q.x0 <;> by_cases d : p.x1 < q.x1 <;> simp [a, b, d]
theorem aQs (T : aH) (rec1 : aH → List aC → List aG → Int → Option (List aG)) (f : List aC) (out : List aG) (i : Int) (p : aG) (ho : out.length < 1000000) : ∀ (n k : Nat), out.length < k + n → k ≤ out.length → (∀ j y, j < k → out[j]? = some y → ltP y p) →
 kS rec1 n T f out i p (k : Int) = rec1 T f (uJ p out) (IntKind.i64.wrap (i + 1))
 | 0, k, hn, hk, _ => by omega
 | n + 1, k, hn, hk, hp => by
  show nN rec1 (kS rec1 n) _ _ _ _ _ _ = _
  unfold nN
  have fin : (∀ y, out[k]? = some y → ¬ ltP y p) → ((slc out 0 (k : Int)).bind fun l20 => (app [] l20).bind fun l22 => (app l22 [p]).bind fun l24 => (slc out (k : Int) (out.length : Int)).bind fun l26 => (app l24 l26).bind fun l28 => rec1 T f l28 (IntKind.i64.wrap (i + 1))) = rec1 T f (uJ p out) (IntKind.i64.wrap (i + 1)) := fun hq => by
   rw [xU rfl hk, aA, dL (by simp; omega), aA, dL (by simp; omega), aA, mC rfl hk, aA, dL (by simp; omega), aA, bDw hk hp hq]
   simp
  by_cases c : k < out.length
  ·
   have t : (decide ((k : Int) < (out.length : Int)) == true) = true := by simpa using c
   have t' : decide ((k : Int) < (out.length : Int)) = true := by simpa using c
   rw [t, t', gt' rfl, bR c, aA, dU, aA, dU, aA]
   simp only [Bool.true_and]
   have e : (decide (out[k].x0 < p.x0) || (((bif (decide (out[k].x0 < p.x0) == false) then out[k] else (⟨0, 0⟩ : aG)).x0 == p.x0) && decide ((bif ((decide (out[k].x0 < p.x0) == false) && (((bif (decide (out[k].x0 < p.x0) == false) then out[k] else (⟨0, 0⟩ : aG)).x0 == p.x0) == true)) then out[k] else (⟨0, 0⟩ : aG)).x1 < p.x1))) = decide (ltP out[k] p) := by
    rw [← bTu]
    cases decide (out[k].x0 < p.x0) with
    | true => rfl
    | false =>
     cases h : out[k].x0 == p.x0 with
     | true => simp [h]
     | false => simp [h]
   rw [e]
   by_cases q : ltP out[k] p
   ·
    rw [bt (by simpa using q), wr1 k (by omega)]
    exact aQs T rec1 f out i p ho n (k + 1) (by omega) c fun j y hj hy => by
     rcases Nat.lt_or_ge j k with w | w
     ·
      exact hp j y w hy
     ·
      have : j = k := by omega
      subst this; rw [List.getElem?_eq_getElem c] at hy; cases hy; exact q
   ·
    rw [bf (by simpa using q)]
    exact fin fun y hy => by rw [List.getElem?_eq_getElem c] at hy; cases hy; exact q
  ·
   have t : (decide ((k : Int) < (out.length : Int)) == true) = false := by simp; omega
   have t' : decide ((k : Int) < (out.length : Int)) = false := by simp; omega
   rw [t, t']
   simp only [Bool.false_and]
   rw [gf' (by rfl), aA, aA, aA, bf (by rfl)]
   exact fin fun y hy => by rw [List.getElem?_eq_none (by omega)] at hy; cases hy
section
variable {c : aT} {s : aD} {m : aF} (R : Rel c s m)
include R
theorem aQr : ∀ (n i : Nat) (out : List aG), (kf s.Graph).length < i + n → i ≤ (kf s.Graph).length → out.length ≤ i → (kf s.Graph).length ≤ 100000 →
 fT n (rs s) (kf s.Graph) out (i : Int) = some (((en (kf s.Graph)).drop i).foldl (fun out e => uJ (zU s.Slots e) out) out)
 | 0, i, out, hn, hi, _, _ => by omega
 | n + 1, i, out, hn, hi, ho, hl => by
  have hFU := FU'
  show nM (fT n) _ _ _ _ = _
  unfold nM
  by_cases c : i < (kf s.Graph).length
  ·
   obtain ⟨h1, h2, h3, u1, u2⟩ := R.edge (aIq (List.getElem_mem c))
   have k1 := uK u1
   have k2 := uK u2
   have g : ∀ {v : Int}, 0 ≤ v → At s.Slots v.toNat (kv s.Slots v) → idx (rs s).Slots v = some ⟨true, kv s.Slots v⟩ := fun {v} h0 hk => by
    have := (List.getElem?_eq_some_iff.1 hk)
    obtain ⟨hlt, he⟩ := this
    have := aQq (l := s.Slots) hlt
    rw [he, Int.toNat_of_nonneg h0] at this
    exact this
   have ec : i < (en (kf s.Graph)).length := by rw [oY]; exact c
   have ee : (en (kf s.Graph))[i] = ((kf s.Graph)[i].U, (kf s.Graph)[i].V) := List.getElem_map (fun e : aC => (e.U, e.V))
   have := aQs (rs s) (fT n) (kf s.Graph) out (i : Int) (pr2 (kv s.Slots (kf s.Graph)[i].U) (kv s.Slots (kf s.Graph)[i].V)) (by omega) bF 0 (by omega) (Nat.zero_le _) (fun j y hj => by omega)
   rw [bt (nI c), bR c, aA, g h1 k1, aA, aA, g h2 k2, aA, aEc, aA, show (0 : Int) = ((0 : Nat) : Int) from rfl, this, wr1 i (by omega), aQr n (i + 1) _ (by omega) c (by rw [aC4]; omega) hl, bP ec, List.foldl_cons, ee]
   rfl
  ·
   rw [bf (nH c), List.drop_eq_nil_of_le (by rw [oY]; omega)]; rfl
theorem aQp : qM (rs s) = some (aHy (fps s)) := by
 have hFU := FU'
 have kl := aV7 R
 have h2 := R.ok.v.n2
 unfold qM
 have f : mH (rs s).Graph.Edges (rs s).Graph.Config.L = some (kf s.Graph) := aGb R.gd.e
 have := aQr R bF 0 [] (by omega) (Nat.zero_le _) (Nat.le_refl _) (by omega)
 rw [f, aA]
 refine this.trans ?_
 unfold aHy fps
 rw [List.foldl_map]; rfl
end
theorem aKn (a b : List aG) (hab : a.length = b.length) (hl : a.length < 1000000000) : ∀ (n i : Nat), a.length < i + n → i ≤ a.length → qN n a b (i : Int) = some (decide (a.drop i = b.drop i))
 | 0, i, hn, hi => by omega
 | n + 1, i, hn, hi => by
  show aBp (qN n) _ _ _ = _
  unfold aBp
  by_cases c : i < a.length
  ·
   have c' : i < b.length := by omega
   rw [bt (by simpa using c), bR c, aA, bR c', aA, aPq, wr1 i (by omega), bP c, bP c']
   by_cases q : a[i] = b[i]
   ·
    rw [bf (by simp [q]), aKn a b hab hl n (i + 1) (by omega) c]; simp [q, -List.getElem_cons_drop]
   ·
    rw [bt (by simp [q])]; simp [q, -List.getElem_cons_drop]
  ·
   rw [bf (by simpa using c), List.drop_eq_nil_of_le (by omega), List.drop_eq_nil_of_le (by omega)]; rfl
theorem aOb (a : List aG) (hl : a.length < 1000000000) : yL a a = some true := by
 have hFU := FU'
 unfold yL
 rw [bf (by simp)]
 have := aKn a a rfl hl bF 0 (by omega) (Nat.zero_le _)
 simpa using this
end Go.Proofs.YtkdohhmacfoolaaGreat
