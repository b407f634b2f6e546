/- Facts that the statement's proof is made of. No condition. -/
import Derived.Test.YtkdohhmacfoolaaGreatNdSeaP
set_option linter.unusedVariables false
set_option linter.unusedSimpArgs false
set_option maxRecDepth 20000
set_option maxHeartbeats 1000000
namespace Go.Proofs.YtkdohhmacfoolaaGreat
open Go Go.AM Go.Pl Go.Pt
def mat (R V : Nat) (W : Nat → Nat → Nat) : List Int := (List.range (R * V)).map fun (k : Nat) => ((W (k / V) (k % V) : Nat) : Int)
theorem aO7 (R V : Nat) (W : Nat → Nat → Nat) : (mat R V W).length = R * V := by simp [mat]
theorem aRc {R V r i : Nat} (hr : r < R) (hi : i < V) : r * V + i < R * V := by
 have : (r + 1) * V ≤ R * V := Nat.mul_le_mul_right _ hr
 rw [Nat.add_mul] at this; omega
theorem bB1 {V r i : Nat} (hi : i < V) : (r * V + i) / V = r := by
 rw [Nat.add_comm, Nat.add_mul_div_right _ _ (by omega), Nat.div_eq_of_lt hi, Nat.zero_add]
theorem bD5 {V r i : Nat} (hi : i < V) : (r * V + i) % V = i := by
 rw [Nat.add_comm, Nat.add_mul_mod_self_right, Nat.mod_eq_of_lt hi]
theorem aPk {R V : Nat} {W W' : Nat → Nat → Nat} (h : ∀ r i, r < R → i < V → W r i = W' r i) : mat R V W = mat R V W' := by
 unfold mat
 apply List.map_congr_left
 intro k hk
 rw [List.mem_range] at hk
 have hV : 0 < V := Nat.pos_of_ne_zero fun e => by subst e; simp at hk
 have h1 : k / V < R := Nat.div_lt_of_lt_mul (by rw [Nat.mul_comm]; exact hk)
 rw [h _ _ h1 (Nat.mod_lt _ hV)]
theorem bEo {R V : Nat} {W : Nat → Nat → Nat} {r i : Nat} (hr : r < R) (hi : i < V) {x : Int} (hx : x = ((r * V + i : Nat) : Int)) : idx (mat R V W) x = some ((W r i : Nat) : Int) := by
 rw [rH hx]
 unfold mat
 rw [List.getElem?_map, List.getElem?_range (aRc hr hi), Option.map_some, bB1 hi, bD5 hi]
theorem bGp {R V : Nat} {W W' : Nat → Nat → Nat} {r i : Nat} (hr : r < R) (hi : i < V) {x y : Int} (hx : x = ((r * V + i : Nat) : Int)) (hy : y = ((W' r i : Nat) : Int)) (hw : ∀ r' i', ¬ (r' = r ∧ i' = i) → W' r' i' = W r' i') :
 stt (mat R V W) x y = some (mat R V W') := by
 rw [aUs hx (by rw [aO7]; exact aRc hr hi)]
 congr 1
 apply List.ext_getElem?
 intro k
 rw [List.getElem?_set]
 unfold mat
 by_cases hk : k < R * V
 ·
  have hV : 0 < V := by omega
  rw [List.getElem?_map, List.getElem?_map, List.getElem?_range hk]
  by_cases e : r * V + i = k
  ·
   rw [if_pos e, if_pos (by simp; exact aRc hr hi), hy, Option.map_some, ← e, bB1 hi, bD5 hi]
  ·
   rw [if_neg e, Option.map_some, Option.map_some, hw]
   rintro ⟨q1, q2⟩
   apply e
   rw [← q1, ← q2]
   exact Nat.div_add_mod' k V
 ·
  rw [if_neg (by intro e; exact hk (by rw [← e]; exact aRc hr hi)), List.getElem?_eq_none (by simp; omega), List.getElem?_eq_none (by simp; omega)]
theorem aKd (hs : List bS) (V : Nat) (names : List Nat) : ns (kX hs V names) = mat hs.length V fun r j => vF (hs.getD r ⟨0, 0⟩) j names := by
 unfold ns kX mat; rw [List.map_map]; rfl
theorem aSl (h : bS) (j : Nat) (names : List Nat) (x : Nat) : vF h j (names ++ [x]) = if aLz h x < aB2 j then vF h j names ^^^ x else vF h j names := by
 unfold vF; rw [List.foldl_append]; rfl
theorem aRx {h : bS} {j : Nat} : ∀ (names : List Nat), (∀ x, x ∈ names → x < 18446744073709551616) → vF h j names < 18446744073709551616 := by
 intro names hn
 unfold vF
 have : ∀ (l : List Nat) (w : Nat), (∀ x, x ∈ l → x < 18446744073709551616) → w < 18446744073709551616 → l.foldl (fun w x => if aLz h x < aB2 j then w ^^^ x else w) w < 18446744073709551616 := by
  intro l
  induction l with
  | nil => intro w _ hw; exact hw
  | cons a l ih =>
   intro w hl hw
   rw [List.foldl_cons]
   refine ih _ (fun x hx => hl x (by simp [hx])) ?_
   split
   ·
    exact Nat.xor_lt_two_pow (n := 64) hw (hl a (by simp))
   ·
    exact hw
 exact this names 0 hn (by decide)
section
variable {hs : List bS} {R V : Nat} (hR1 : 1 ≤ R) (hR : R ≤ 8) (hV1 : 1 ≤ V) (hV : V ≤ 61) (hl : hs.length = R) (hh : ∀ h, h ∈ hs → HOK h) {x : Nat} (hx : x < 18446744073709551616)
def tog (hs : List bS) (x : Nat) (W : Nat → Nat → Nat) (r i : Nat) : Nat → Nat → Nat := fun r' j => if (r' < r ∨ r' = r ∧ j < i) ∧ aLz (hs.getD r' ⟨0, 0⟩) x < aB2 j then W r' j ^^^ x else W r' j
include hR hV hx
theorem aMx {W : Nat → Nat → Nat} (hW : ∀ r j, W r j < 18446744073709551616) {r d : Nat} (hr : r < R) (hd : d ≤ V) (hdv : ∀ j, j < V → (j < d ↔ aLz (hs.getD r ⟨0, 0⟩) x < aB2 j)) (wds : List Int) (z : aM) (rec1 : Int → aM → aM → List Int → List bS → Int → Int → Option (aM × Int)) : ∀ (m i : Nat), d < i + m → i ≤ d →
 kK rec1 m (x : Int) ⟨(R : Int), (V : Int), wds⟩ z (mat R V (tog hs x W r i)) (r : Int) hs (hs.length : Int) (r : Int) (d : Int) (i : Int) = rec1 (x : Int) ⟨(R : Int), (V : Int), wds⟩ z (mat R V (tog hs x W r d)) hs (hs.length : Int) ((r + 1 : Nat) : Int)
 | 0, i, _, _ => by omega
 | m + 1, i, hm, hi => by
  show tO rec1 (kK rec1 m) _ _ _ _ _ _ _ _ _ _ = _
  unfold tO
  by_cases c : i < d
  ·
   have hlt : r * V + i < R * V := aRc hr (by omega)
   have hRV : R * V ≤ 8 * 61 := Nat.mul_le_mul hR hV
   have e1 : IntKind.i64.wrap ((r : Int) * (V : Int)) = ((r * V : Nat) : Int) := by rw [← Int.natCast_mul]; exact wr0 (by omega) (by omega)
   have e2 : IntKind.i64.wrap (((r * V : Nat) : Int) + (i : Int)) = ((r * V + i : Nat) : Int) := by rw [← Int.natCast_add]; exact wr0 (by omega) (by omega)
   rw [bt (sR c), e1, e2, bEo hr (by omega) rfl, aA, aA]
   have e3 : tog hs x W r i r i = W r i := by unfold tog; rw [if_neg (by omega)]
   have e4 : tog hs x W r (i + 1) r i = W r i ^^^ x := by unfold tog; rw [if_pos ⟨by omega, (hdv i (by omega)).1 c⟩]
   rw [e3, bPb _ _ (hW r i) hx, bGp (W' := tog hs x W r (i + 1)) hr (show i < V by omega) rfl (by rw [e4]) (fun r' i' hne => by
    unfold tog
    have : (r' < r ∨ r' = r ∧ i' < i + 1) ↔ (r' < r ∨ r' = r ∧ i' < i) := by omega
    simp only [this]), aA, wr1 i (by omega)]
   exact aMx hW hr hd hdv wds z rec1 m (i + 1) (by omega) (by omega)
  ·
   rw [bf (sK c), show i = d by omega, wr1 r (by omega)]
include hl hh
theorem aNm {W : Nat → Nat → Nat} (hW : ∀ r j, W r j < 18446744073709551616) (wds : List Int) (z : aM) : ∀ (m r : Nat), R < r + m → r ≤ R →
 gP m (x : Int) ⟨(R : Int), (V : Int), wds⟩ z (mat R V (tog hs x W r 0)) hs (hs.length : Int) (r : Int) = some (⟨(R : Int), (V : Int), mat R V (tog hs x W R 0)⟩, 0)
 | 0, r, _, _ => by omega
 | m + 1, r, hm, hr => by
  have hFU := FU
  show tD (gP m) _ _ _ _ _ _ _ = _
  unfold tD
  by_cases c : r < R
  ·
   have hm2 : hs[r]'(by omega) ∈ hs := List.getElem_mem _
   have eD : hs.getD r ⟨0, 0⟩ = hs[r]'(by omega) := by simp [List.getD, List.getElem?_eq_getElem (show r < hs.length by omega)]
   obtain ⟨d, d1, d2, d3⟩ := aPm (hh _ hm2) x V hV
   rw [bt (by rw [hl]; exact sR c), cJ (show r < hs.length by omega), aA]
   simp only []
   rw [d1, aA]
   have := aMx (hs := hs) hR hV hx hW c d2 (by rw [eD]; exact d3) wds z (gP m) bK 0 (by omega) (Nat.zero_le _)
   rw [show (0 : Int) = ((0 : Nat) : Int) from rfl, this]
   have e : mat R V (tog hs x W r d) = mat R V (tog hs x W (r + 1) 0) := aPk fun r' j h1 h2 => by
    unfold tog
    by_cases q : r' = r
    ·
     subst q
     rw [eD]
     by_cases q2 : aLz (hs[r']'(by omega)) x < aB2 j
     ·
      rw [if_pos ⟨.inr ⟨rfl, (d3 j h2).2 q2⟩, q2⟩, if_pos ⟨.inl (by omega), q2⟩]
     ·
      rw [if_neg (fun k => q2 k.2), if_neg (fun k => q2 k.2)]
    ·
     have : (r' < r ∨ r' = r ∧ j < d) ↔ (r' < r + 1 ∨ r' = r + 1 ∧ j < 0) := by omega
     simp only [this]
   rw [e]
   exact aNm hW wds z m (r + 1) (by omega) c
  ·
   rw [bf (by rw [hl]; exact sK c), show r = R by omega]
include hR1 hV1
theorem aXz {names : List Nat} (hn : ∀ y, y ∈ names → y < 18446744073709551616) : pU ⟨(R : Int), (V : Int), ns (kX hs V names)⟩ hs (x : Int) = some (⟨(R : Int), (V : Int), ns (kX hs V (names ++ [x]))⟩, 0) := by
 have hFU := FU
 have hRV : R * V ≤ 8 * 61 := Nat.mul_le_mul hR hV
 unfold pU nO kT gS
 rw [aKd, hl]
 have e1 : IntKind.i64.wrap ((R : Int) * (V : Int)) = ((R * V : Nat) : Int) := by rw [← Int.natCast_mul]; exact wr0 (by omega) (by omega)
 simp only []
 rw [aA, aA, aO7, e1]
 have e2 : ((((decide (1 ≤ (R : Int)) && decide ((R : Int) ≤ 8)) && decide (1 ≤ (V : Int))) && decide ((V : Int) ≤ 61)) && (((R * V : Nat) : Int) == ((R * V : Nat) : Int))) = true := by
  simp; omega
 rw [e2, bf (by simp), fF (by rw [aO7]; simp; omega), aA, List.nil_append, aKd, hl]
 have e0 : mat R V (fun r j => vF (hs.getD r ⟨0, 0⟩) j names) = mat R V (tog hs x (fun r j => vF (hs.getD r ⟨0, 0⟩) j names) 0 0) := aPk fun r j _ _ => by unfold tog; rw [if_neg (by omega)]
 have e3 : mat R V (fun r j => vF (hs.getD r ⟨0, 0⟩) j (names ++ [x])) = mat R V (tog hs x (fun r j => vF (hs.getD r ⟨0, 0⟩) j names) R 0) := aPk fun r j h1 h2 => by
  rw [aSl]; unfold tog
  by_cases q : aLz (hs.getD r ⟨0, 0⟩) x < aB2 j
  ·
   rw [if_pos q, if_pos ⟨.inl h1, q⟩]
  ·
   rw [if_neg q, if_neg (fun k => q k.2)]
 have := aNm (hs := hs) (R := R) (V := V) hR hV hl hh hx (W := fun r j => vF (hs.getD r ⟨0, 0⟩) j names) (fun r j => aRx names hn) (mat R V fun r j => vF (hs.getD r ⟨0, 0⟩) j names) (aM.mk 0 0 []) bK 0 (by omega) (Nat.zero_le _)
 rw [hl] at this
 rw [e3, ← this, ← e0]; rfl
end
theorem aXa {hs : List bS} {R V : Nat} (hR1 : 1 ≤ R) (hR : R ≤ 8) (hV1 : 1 ≤ V) (hV : V ≤ 61) (hl : hs.length = R) (hh : ∀ h, h ∈ hs → HOK h) {names : List Nat} (hn : ∀ y, y ∈ names → y < 18446744073709551616) (hnl : names.length < 1000000000) (z : aM) : ∀ (m i : Nat), names.length < i + m → i ≤ names.length →
 lS m z ⟨(R : Int), (V : Int), ns (kX hs V (names.take i))⟩ hs (ns names) ((ns names).length : Int) (i : Int) = some ⟨(R : Int), (V : Int), ns (kX hs V names)⟩
 | 0, i, _, _ => by omega
 | m + 1, i, hm, hi => by
  show vI (lS m) _ _ _ _ _ _ = _
  unfold vI
  have hlen : (ns names).length = names.length := by simp [ns]
  by_cases c : i < names.length
  ·
   have e : idx (ns names) (i : Int) = some ((names[i] : Nat) : Int) := by rw [gA]; unfold ns; rw [List.getElem?_map, List.getElem?_eq_getElem c]; rfl
   rw [bt (by rw [hlen]; exact sR c), e, aA, aXz hR1 hR hV1 hV hl hh (hn _ (List.getElem_mem c)) (fun y hy => hn y (List.mem_of_mem_take hy)), aA]
   simp only []
   rw [wr1 i (by omega), ← yI c]
   exact aXa hR1 hR hV1 hV hl hh hn hnl z m (i + 1) (by omega) c
  ·
   rw [bf (by rw [hlen]; exact sK c), List.take_of_length_le (by omega)]
theorem aV8 (hs : List bS) (V : Nat) : ns (kX hs V []) = List.replicate (hs.length * V) 0 := by
 rw [aKd]
 unfold mat
 apply List.ext_getElem?
 intro k
 by_cases c : k < hs.length * V
 ·
  rw [List.getElem?_map, List.getElem?_range c, List.getElem?_replicate, if_pos c]; rfl
 ·
  rw [List.getElem?_eq_none (by simp; omega), List.getElem?_eq_none (by simp; omega)]
section
variable {g : aG} (h : GOK g) (hw : ∀ x, x ∈ g.Hashes → HOK x)
theorem bE0 {g : aG} {t : Int} {x : bS} (hx : x ∈ hsh g t) : x ∈ g.Hashes := List.mem_of_mem_drop (List.mem_of_mem_take hx)
include h hw
theorem aJz {t : Int} (h0 : 0 ≤ t) (ht : t < g.Config.L) {c : List aC} (hc : ∀ e, e ∈ c → EB e) (hcl : c.length < 1000000000) :
 sC g t c = some ⟨g.Config.R, (lvl g.Config.N : Nat), ns (kX (hsh g t) (lvl g.Config.N) (c.map nmE))⟩ := by
 have hFU := FU
 obtain ⟨l1, l3, l4⟩ := aLs h.n1 h.n2
 have r1 := h.r1
 have r2 := h.r2
 have hlen := aX6 h h0 ht
 obtain ⟨R, hR⟩ := Int.eq_ofNat_of_zero_le (a := g.Config.R) (by omega)
 rw [hR, Int.toNat_natCast] at hlen
 unfold sC aBd kT
 rw [l1, aA, hR]
 generalize lvl g.Config.N = V at *
 have hRV : R * V ≤ 8 * 22 := Nat.mul_le_mul (by omega) l4
 have e1 : IntKind.i64.wrap ((R : Int) * (V : Int)) = ((R * V : Nat) : Int) := by rw [← Int.natCast_mul]; exact wr0 (by omega) (by omega)
 rw [aA, bf (by simp; omega), e1, aJn (k := R * V) rfl (Int.le_refl _) (by omega), aA, aA]
 simp only []
 rw [aGz h h0 ht, aA, aRb hcl hc, aA]
 have e2 := aV8 (hsh g t) V
 rw [hlen] at e2
 have := aXa (hs := hsh g t) (R := R) (V := V) (by omega) (by omega) (by omega) (by omega) hlen (fun x hx => hw x (bE0 hx)) (names := c.map nmE) (fun y hy => by
  obtain ⟨e, he, rfl⟩ := List.mem_map.1 hy
  have := bCj (hc e he); omega) (by simpa using hcl) (aM.mk 0 0 []) bK 0 (by simp; omega) (Nat.zero_le _)
 rw [List.take_zero, e2] at this
 exact this
end
theorem aHp (w : Nat) (hw : w < 18446744073709551616) : vJ (w : Int) = some (if w % 16777216 ≤ w / 16777216 then (0, 0, false) else (((w / 16777216 : Nat) : Int), ((w % 16777216 : Nat) : Int), true)) := by
 unfold vJ
 have e1 : Int.tmod (w : Int) 16777216 = ((w % 16777216 : Nat) : Int) := by rw [Int.tmod_eq_emod_of_nonneg (by omega)]; omega
 have e2 : Int.tdiv (w : Int) 16777216 = ((w / 16777216 : Nat) : Int) := by rw [Int.tdiv_eq_ediv_of_nonneg (by omega)]; omega
 rw [e1, e2, wuN (by omega)]
 by_cases c : w % 16777216 ≤ w / 16777216
 ·
  rw [bt (by simp; omega), if_pos c]
 ·
  rw [bf (by simp; omega), if_neg c, wr0 (by omega) (by omega), wr0 (by omega) (by omega)]
def okW (w : Nat) : Bool := decide (w / 16777216 < w % 16777216)
theorem aUb {l : List Nat} {i : Nat} (c : i < l.length) : idx (ns l) (i : Int) = some ((l[i] : Nat) : Int) := by
 rw [gA]; unfold ns; rw [List.getElem?_map, List.getElem?_eq_getElem c]; rfl
theorem xW (l : List Nat) : (ns l).length = l.length := by simp [ns]
theorem aTf {p : Nat → Bool} {l : List Nat} {i : Nat} (c : i < l.length) : (l.drop i).filter p = (if p l[i] then [l[i]] else []) ++ (l.drop (i + 1)).filter p := by
 rw [dQ c, List.filter_cons]; split <;> rfl
theorem aDk {w : List Nat} (hw : ∀ y, y ∈ w → y < 18446744073709551616) (hl : w.length < 1000000000) : ∀ (m i : Nat) (out : List Int), w.length < i + m → i ≤ w.length → out.length ≤ i → jT m out (ns w) ((ns w).length : Int) (i : Int) = some (out ++ ns ((w.drop i).filter okW))
 | 0, i, _, _, _, _ => by omega
 | m + 1, i, out, hm, hi, ho => by
  show vY (jT m) _ _ _ _ = _
  unfold vY oV
  rw [xW]
  by_cases c : i < w.length
  ·
   rw [bt (sR c), aUb c, aA, aHp _ (hw _ (List.getElem_mem c)), aA, wr1 i (by omega), aTf c]
   have ih := fun out ho => aDk hw hl m (i + 1) out (by omega) c ho
   rw [xW] at ih
   by_cases q : w[i] % 16777216 ≤ w[i] / 16777216
   ·
    have e : okW w[i] = false := by unfold okW; simp; omega
    rw [if_pos q, e]
    simp only []
    rw [bf rfl, ih out (by omega)]; rfl
   ·
    have e : okW w[i] = true := by unfold okW; simp; omega
    rw [if_neg q, e]
    simp only []
    rw [bt rfl, fF (by simp; omega), aA, ih _ (by simp; omega)]
    simp only [if_true, ns, List.map_append, List.map_cons, List.map_nil, List.append_assoc, List.cons_append, List.nil_append]
  ·
   rw [bf (sK c), List.drop_eq_nil_of_le (by omega)]; simp [ns]
def fnd (P : aC → Bool) : List aC → Nat → Option Nat
  | [], _ => none
  | a :: l, i => if P a then some i else fnd P l (i + 1)
def gF (u v : Int) (e : aC) : Bool := ((e.U == u) && (e.V == v)) || ((e.U == v) && (e.V == u))
theorem aKm {u v : Int} {l : List aC} (hl : l.length < 1000000000) : ∀ (m i : Nat), l.length < i + m → i ≤ l.length → sL m u v l (l.length : Int) (i : Int) = some (match fnd (gF u v) (l.drop i) i with | some k => ((k : Nat), true) | none => (0, false))
 | 0, i, _, _ => by omega
 | m + 1, i, hm, hi => by
  show aBj (sL m) _ _ _ _ _ = _
  unfold aBj
  by_cases c : i < l.length
  ·
   rw [bt (sR c), cJ c, aA, wr1 i (by omega), dQ c]
   show (bif gF u v l[i] then some ((i : Int), true) else _) = _
   unfold fnd
   cases q : gF u v l[i] with
   | true => rfl
   | false =>
    rw [bf rfl, aKm hl m (i + 1) (by omega) c]; rfl
  ·
   rw [bf (sK c), List.drop_eq_nil_of_le (by omega)]; rfl
theorem wK {u v : Int} {l : List aC} (hl : l.length < 1000000000) : lJ l u v = some (match fnd (gF u v) l 0 with | some k => ((k : Nat), true) | none => (0, false)) := by
 have hFU := FU
 unfold lJ
 exact aKm hl bK 0 (by omega) (Nat.zero_le _)
theorem yU {P : aC → Bool} : ∀ {l : List aC} {i k : Nat}, fnd P l i = some k → i ≤ k ∧ ∃ e, l[k - i]? = some e ∧ P e = true ∧ l.find? P = some e
 | [], i, k, h => by cases h
 | a :: l, i, k, h => by
  unfold fnd at h
  cases q : P a with
  | true =>
   rw [if_pos q] at h
   cases h
   exact ⟨Nat.le_refl _, a, by simp, q, by rw [List.find?_cons, q]⟩
  | false =>
   rw [if_neg (by simp [q])] at h
   obtain ⟨h1, e, h2, h3, h4⟩ := yU h
   refine ⟨by omega, e, ?_, h3, by rw [List.find?_cons, q]; exact h4⟩
   rw [show k - i = (k - (i + 1)) + 1 by omega, List.getElem?_cons_succ]; exact h2
theorem aG7 {P : aC → Bool} : ∀ {l : List aC} {i : Nat}, fnd P l i = none → l.find? P = none
 | [], i, h => rfl
 | a :: l, i, h => by
  unfold fnd at h
  cases q : P a with
  | true => rw [if_pos q] at h; cases h
  | false =>
   rw [if_neg (by simp [q])] at h
   rw [List.find?_cons, q]; exact aG7 h
theorem aYt {P Q : aC → Bool} {l : List aC} (h : ∀ e, e ∈ l → P e = Q e) : l.find? P = l.find? Q := by
 induction l with
 | nil => rfl
 | cons a l ih => rw [List.find?_cons, List.find?_cons, h a (by simp), ih fun e he => h e (by simp [he])]
theorem aNp {e : aC} (h : EB e) (w : Nat) : gF ((w / 16777216 : Nat) : Int) ((w % 16777216 : Nat) : Int) e = true ∧ okW w = true ↔ nmE e = w := by
 have h0 := aKh h
 obtain ⟨h1, h2, h3⟩ := h
 unfold gF okW
 simp only [Bool.or_eq_true, Bool.and_eq_true, beq_iff_eq, decide_eq_true_eq]
 omega
def bIp (o : Option aC) : aC × Bool := match o with | some e => (e, true) | none => (⟨0, 0, 0⟩, false)
theorem aS7 {c : List aC} (hc : ∀ e, e ∈ c → EB e) (hcl : c.length < 1000000000) {w : List Nat} (hw : ∀ y, y ∈ w → y < 18446744073709551616 ∧ okW y = true) (hl : w.length < 1000000000) : ∀ (m i : Nat), w.length < i + m → i ≤ w.length →
 iI m ⟨0, 0, 0⟩ c (ns w) ((ns w).length : Int) (i : Int) = some (bIp ((w.drop i).findSome? fun w => c.find? fun e => nmE e == w))
 | 0, i, _, _ => by omega
 | m + 1, i, hm, hi => by
  show tQ (iI m) _ _ _ _ _ = _
  unfold tQ nV
  rw [xW]
  by_cases q : i < w.length
  ·
   obtain ⟨w1, w2⟩ := hw _ (List.getElem_mem q)
   have ih := aS7 hc hcl hw hl m (i + 1) (by omega) q
   rw [xW] at ih
   have e : (c.find? fun e => nmE e == w[i]) = c.find? (gF ((w[i] / 16777216 : Nat) : Int) ((w[i] % 16777216 : Nat) : Int)) := aYt fun e he => by
    have := aNp (hc e he) w[i]
    rw [Bool.eq_iff_iff, beq_iff_eq, ← this]
    exact ⟨fun k => k.1, fun k => ⟨k, w2⟩⟩
   rw [bt (sR q), aUb q, aA, aHp _ w1, aA, wr1 i (by omega), ih, dQ q, List.findSome?_cons, e]
   have hne : ¬ w[i] % 16777216 ≤ w[i] / 16777216 := by unfold okW at w2; simp at w2; omega
   rw [if_neg hne]
   simp only []
   rw [bf (c := !true) rfl, wK hcl, aA]
   cases hf : fnd (gF ((w[i] / 16777216 : Nat) : Int) ((w[i] % 16777216 : Nat) : Int)) c 0 with
   | none =>
    simp only []
    rw [bf rfl, aG7 hf]
   | some k =>
    obtain ⟨_, x, h1, h2, h3⟩ := yU hf
    simp only []
    rw [bt rfl, gA, show k = k - 0 from rfl, h1, aA, h3]; rfl
  ·
   rw [bf (sK q), List.drop_eq_nil_of_le (by omega)]; rfl
theorem tR {c : List aC} (hc : ∀ e, e ∈ c → EB e) : ∀ w : List Nat, ((w.filter okW).findSome? fun w => c.find? fun e => nmE e == w) = w.findSome? fun w => c.find? fun e => nmE e == w
 | [] => rfl
 | a :: w => by
  rw [List.filter_cons, List.findSome?_cons]
  cases q : okW a with
  | true => rw [if_pos rfl, List.findSome?_cons, tR hc w]
  | false =>
   rw [if_neg (by simp), tR hc w]
   have : (c.find? fun e => nmE e == a) = none := by
    rw [List.find?_eq_none]
    intro e he k
    have := (aNp (hc e he) a).2 (by simpa using k)
    rw [q] at this; cases this.2
   rw [this]
theorem aNh {hs : List bS} {V : Nat} {names : List Nat} (hn : ∀ x, x ∈ names → x < 18446744073709551616) : ∀ y, y ∈ kX hs V names → y < 18446744073709551616 := fun y hy => by
 unfold kX at hy
 obtain ⟨k, _, rfl⟩ := List.mem_map.1 hy
 exact aRx names hn
theorem aL9 (hs : List bS) (V : Nat) (names : List Nat) : (kX hs V names).length = hs.length * V := by simp [kX]
theorem aL6 {R V : Nat} (hR1 : 1 ≤ R) (hR : R ≤ 8) (hV1 : 1 ≤ V) (hV : V ≤ 61) {w : List Nat} (hw : ∀ y, y ∈ w → y < 18446744073709551616) (hl : w.length = R * V) : rU ⟨(R : Int), (V : Int), ns w⟩ = some (ns (w.filter okW)) := by
 have hFU := FU
 have hRV : R * V ≤ 8 * 61 := Nat.mul_le_mul hR hV
 unfold rU nO kT
 simp only []
 have e1 : IntKind.i64.wrap ((R : Int) * (V : Int)) = ((R * V : Nat) : Int) := by rw [← Int.natCast_mul]; exact wr0 (by omega) (by omega)
 rw [aA, aA, xW, e1, hl]
 have e2 : ((((decide (1 ≤ (R : Int)) && decide ((R : Int) ≤ 8)) && decide (1 ≤ (V : Int))) && decide ((V : Int) ≤ 61)) && (((R * V : Nat) : Int) == ((R * V : Nat) : Int))) = true := by
  simp; omega
 rw [e2, bf (c := !true) rfl]
 have := aDk hw (by omega) bK 0 [] (by omega) (Nat.zero_le _) (by simp)
 rw [xW, hl] at this
 exact this
section
variable {g : aG} (hE : g.Edges.length < 1000000000) (hH : g.Hashes.length < 1000000000) (hw : ∀ x, x ∈ g.Hashes → HOK x)
theorem aOq {g : aG} (h : GOK g) {p : Int → Int} {v : Int} : ∀ e, e ∈ aD8 p v g.Edges → EB e := fun e he => h.eb (bBt he)
theorem aF3 {g : aG} (h : GOK g) {p : Int → Int} {v : Int} : ∀ x, x ∈ (aD8 p v g.Edges).map nmE → x < 18446744073709551616 := fun x hx => by
 obtain ⟨e, he, rfl⟩ := List.mem_map.1 hx
 have := bCj (aOq h e he); omega
def wds (g : aG) (t v : Int) : List Nat := kX (hsh g t) (lvl g.Config.N) ((aD8 (pf g t) v g.Edges).map nmE)
include hE hH hw
theorem aIr (t v : Int) : qS g t v = some (bIp (if grB g = true ∧ 0 ≤ t ∧ t < g.Config.L ∧ 0 ≤ v ∧ v < g.Config.N then srch g t v else none)) := by
 have hFU := FU
 unfold qS
 rw [aOc hE hH, aA]
 by_cases c : grB g = true ∧ 0 ≤ t ∧ t < g.Config.L ∧ 0 ≤ v ∧ v < g.Config.N
 ·
  obtain ⟨hb, h0, ht, v0, vn⟩ := c
  have h := gok hb
  have r1 := h.r1
  have r2 := h.r2
  obtain ⟨_, l3, l4⟩ := aLs h.n1 h.n2
  have hcl := bBm (pf g t) v g.Edges
  have hlen := aX6 h h0 ht
  rw [bf (by simp; exact ⟨hb, h0, ht, v0, vn⟩), aJt hE h (by omega) v0 vn, aA, aJz h hw h0 ht (aOq h) (by omega), aA, if_pos ⟨hb, h0, ht, v0, vn⟩]
  obtain ⟨R, hR⟩ := Int.eq_ofNat_of_zero_le (a := g.Config.R) (by omega)
  rw [hR, Int.toNat_natCast] at hlen
  rw [hR, aL6 (by omega) (by omega) (by omega) (by omega) (aNh (aF3 h)) (by rw [aL9, hlen]), aA]
  have hRV : R * lvl g.Config.N ≤ 8 * 22 := Nat.mul_le_mul (by omega) l4
  have hwl : ((kX (hsh g t) (lvl g.Config.N) ((aD8 (pf g t) v g.Edges).map nmE)).filter okW).length ≤ 176 := by
   refine Nat.le_trans (List.length_filter_le _ _) ?_
   rw [aL9, hlen]; omega
  have := aS7 (aOq h (p := pf g t) (v := v)) (by omega) (w := (kX (hsh g t) (lvl g.Config.N) ((aD8 (pf g t) v g.Edges).map nmE)).filter okW) (fun y hy => by
   rw [List.mem_filter] at hy
   exact ⟨aNh (aF3 h) y hy.1, hy.2⟩) (by omega) bK 0 (by omega) (Nat.zero_le _)
  rw [show ((0 : Nat) : Int) = (0 : Int) from rfl, List.drop_zero, tR (aOq h)] at this
  rw [this]; rfl
 ·
  rw [decide_eq_false c, bt (c := !false) rfl, if_neg c]; rfl
end
end Go.Proofs.YtkdohhmacfoolaaGreat
