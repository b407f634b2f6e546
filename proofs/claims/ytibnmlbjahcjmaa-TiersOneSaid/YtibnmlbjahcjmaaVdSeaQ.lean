/- Facts that the statement's proof is made of. No condition. -/
import Derived.Test.YtibnmlbjahcjmaaVdSeaP
set_option linter.unusedVariables false
set_option linter.unusedSimpArgs false
set_option maxRecDepth 20000
set_option maxHeartbeats 1000000
namespace Go.Proofs.Ytibnmlbjahcjmaa
open Go Go.AM Go.Pl Go.Pt
def mat (R V : Nat) (W : Nat → Nat → Nat) : List Int := (List.range (R * V)).map fun (k : Nat) => ((W (k / V) (k % V) : Nat) : Int)
theorem mat_len (R V : Nat) (W : Nat → Nat → Nat) : (mat R V W).length = R * V := by simp [mat]
theorem rv_lt {R V r i : Nat} (hr : r < R) (hi : i < V) : r * V + i < R * V := by
  have : (r + 1) * V ≤ R * V := Nat.mul_le_mul_right _ hr
  rw [Nat.add_mul] at this; omega
theorem rv_div {V r i : Nat} (hi : i < V) : (r * V + i) / V = r := by
  rw [Nat.add_comm, Nat.add_mul_div_right _ _ (by omega), Nat.div_eq_of_lt hi, Nat.zero_add]
theorem rv_mod {V r i : Nat} (hi : i < V) : (r * V + i) % V = i := by
  rw [Nat.add_comm, Nat.add_mul_mod_self_right, Nat.mod_eq_of_lt hi]
theorem mat_ext {R V : Nat} {W W' : Nat → Nat → Nat} (h : ∀ r i, r < R → i < V → W r i = W' r i) : mat R V W = mat R V W' := by
  unfold mat
  apply List.map_congr_left
  intro k hk
  rw [List.mem_range] at hk
  have hV : 0 < V := Nat.pos_of_ne_zero fun e => by subst e; simp at hk
  have h1 : k / V < R := Nat.div_lt_of_lt_mul (by rw [Nat.mul_comm]; exact hk)
  rw [h _ _ h1 (Nat.mod_lt _ hV)]
theorem mat_idx {R V : Nat} {W : Nat → Nat → Nat} {r i : Nat} (hr : r < R) (hi : i < V) {x : Int} (hx : x = ((r * V + i : Nat) : Int)) : idx (mat R V W) x = some ((W r i : Nat) : Int) := by
  rw [idx_at hx]
  unfold mat
  rw [List.getElem?_map, List.getElem?_range (rv_lt hr hi), Option.map_some, rv_div hi, rv_mod hi]
theorem mat_set {R V : Nat} {W W' : Nat → Nat → Nat} {r i : Nat} (hr : r < R) (hi : i < V) {x y : Int} (hx : x = ((r * V + i : Nat) : Int)) (hy : y = ((W' r i : Nat) : Int)) (hw : ∀ r' i', ¬ (r' = r ∧ i' = i) → W' r' i' = W r' i') :
    stt (mat R V W) x y = some (mat R V W') := by
  rw [stt_at hx (by rw [mat_len]; exact rv_lt hr hi)]
  congr 1
  apply List.ext_getElem?
  intro k
  rw [List.getElem?_set]
  unfold mat
  by_cases hk : k < R * V
  · have hV : 0 < V := by omega
    rw [List.getElem?_map, List.getElem?_map, List.getElem?_range hk]
    by_cases e : r * V + i = k
    · rw [if_pos e, if_pos (by simp; exact rv_lt hr hi), hy, Option.map_some, ← e, rv_div hi, rv_mod hi]
    · rw [if_neg e, Option.map_some, Option.map_some, hw]
      rintro ⟨q1, q2⟩
      apply e
      rw [← q1, ← q2]
      exact Nat.div_add_mod' k V
  · rw [if_neg (by intro e; exact hk (by rw [← e]; exact rv_lt hr hi)), List.getElem?_eq_none (by simp; omega), List.getElem?_eq_none (by simp; omega)]
theorem ns_words (hs : List GHash) (V : Nat) (names : List Nat) : ns (wordsN hs V names) = mat hs.length V fun r j => wordN (hs.getD r ⟨0, 0⟩) j names := by
  unfold ns wordsN mat; rw [List.map_map]; rfl
theorem wordN_snoc (h : GHash) (j : Nat) (names : List Nat) (x : Nat) : wordN h j (names ++ [x]) = if valN h x < bndL j then wordN h j names ^^^ x else wordN h j names := by
  unfold wordN; rw [List.foldl_append]; rfl
theorem wordN_lt {h : GHash} {j : Nat} : ∀ (names : List Nat), (∀ x, x ∈ names → x < 18446744073709551616) → wordN h j names < 18446744073709551616 := by
  intro names hn
  unfold wordN
  have : ∀ (l : List Nat) (w : Nat), (∀ x, x ∈ l → x < 18446744073709551616) → w < 18446744073709551616 → l.foldl (fun w x => if valN h x < bndL j then w ^^^ x else w) w < 18446744073709551616 := by
    intro l
    induction l with
    | nil => intro w _ hw; exact hw
    | cons a l ih =>
      intro w hl hw
      rw [List.foldl_cons]
      refine ih _ (fun x hx => hl x (by simp [hx])) ?_
      split
      · exact Nat.xor_lt_two_pow (n := 64) hw (hl a (by simp))
      · exact hw
  exact this names 0 hn (by decide)
section
variable {hs : List GHash} {R V : Nat} (hR1 : 1 ≤ R) (hR : R ≤ 8) (hV1 : 1 ≤ V) (hV : V ≤ 61) (hl : hs.length = R) (hh : ∀ h, h ∈ hs → HOK h) {x : Nat} (hx : x < 18446744073709551616)
def tog (hs : List GHash) (x : Nat) (W : Nat → Nat → Nat) (r i : Nat) : Nat → Nat → Nat := fun r' j => if (r' < r ∨ r' = r ∧ j < i) ∧ valN (hs.getD r' ⟨0, 0⟩) x < bndL j then W r' j ^^^ x else W r' j
include hR hV hx
theorem toggle_L2 {W : Nat → Nat → Nat} (hW : ∀ r j, W r j < 18446744073709551616) {r d : Nat} (hr : r < R) (hd : d ≤ V) (hdv : ∀ j, j < V → (j < d ↔ valN (hs.getD r ⟨0, 0⟩) x < bndL j)) (wds : List Int) (z : GSketchSketch) (rec1 : Int → GSketchSketch → GSketchSketch → List Int → List GHash → Int → Int → Option (GSketchSketch × Int)) : ∀ (m i : Nat), d < i + m → i ≤ d →
    sketchToggle_L2 rec1 m (x : Int) ⟨(R : Int), (V : Int), wds⟩ z (mat R V (tog hs x W r i)) (r : Int) hs (hs.length : Int) (r : Int) (d : Int) (i : Int) = rec1 (x : Int) ⟨(R : Int), (V : Int), wds⟩ z (mat R V (tog hs x W r d)) hs (hs.length : Int) ((r + 1 : Nat) : Int)
  | 0, i, _, _ => by omega
  | m + 1, i, hm, hi => by
    show sketchToggle_B2 rec1 (sketchToggle_L2 rec1 m) _ _ _ _ _ _ _ _ _ _ = _
    unfold sketchToggle_B2
    by_cases c : i < d
    · have hlt : r * V + i < R * V := rv_lt hr (by omega)
      have hRV : R * V ≤ 8 * 61 := Nat.mul_le_mul hR hV
      have e1 : IntKind.i64.wrap ((r : Int) * (V : Int)) = ((r * V : Nat) : Int) := by rw [← Int.natCast_mul]; exact wr0 (by omega) (by omega)
      have e2 : IntKind.i64.wrap (((r * V : Nat) : Int) + (i : Int)) = ((r * V + i : Nat) : Int) := by rw [← Int.natCast_add]; exact wr0 (by omega) (by omega)
      rw [bt (lt_t c), e1, e2, mat_idx hr (by omega) rfl, some_bind', some_bind']
      have e3 : tog hs x W r i r i = W r i := by unfold tog; rw [if_neg (by omega)]
      have e4 : tog hs x W r (i + 1) r i = W r i ^^^ x := by unfold tog; rw [if_pos ⟨by omega, (hdv i (by omega)).1 c⟩]
      rw [e3, bxorN _ _ (hW r i) hx, mat_set (W' := tog hs x W r (i + 1)) hr (show i < V by omega) rfl (by rw [e4]) (fun r' i' hne => by
        unfold tog
        have : (r' < r ∨ r' = r ∧ i' < i + 1) ↔ (r' < r ∨ r' = r ∧ i' < i) := by omega
        simp only [this]), some_bind', wr1 i (by omega)]
      exact toggle_L2 hW hr hd hdv wds z rec1 m (i + 1) (by omega) (by omega)
    · rw [bf (lt_f c), show i = d by omega, wr1 r (by omega)]
include hl hh
theorem toggle_L1 {W : Nat → Nat → Nat} (hW : ∀ r j, W r j < 18446744073709551616) (wds : List Int) (z : GSketchSketch) : ∀ (m r : Nat), R < r + m → r ≤ R →
    sketchToggle_L1 m (x : Int) ⟨(R : Int), (V : Int), wds⟩ z (mat R V (tog hs x W r 0)) hs (hs.length : Int) (r : Int) = some (⟨(R : Int), (V : Int), mat R V (tog hs x W R 0)⟩, 0)
  | 0, r, _, _ => by omega
  | m + 1, r, hm, hr => by
    have hFU := FU
    show sketchToggle_B1 (sketchToggle_L1 m) _ _ _ _ _ _ _ = _
    unfold sketchToggle_B1
    by_cases c : r < R
    · have hm2 : hs[r]'(by omega) ∈ hs := List.getElem_mem _
      have eD : hs.getD r ⟨0, 0⟩ = hs[r]'(by omega) := by simp [List.getD, List.getElem?_eq_getElem (show r < hs.length by omega)]
      obtain ⟨d, d1, d2, d3⟩ := levelDeep_eq (hh _ hm2) x V hV
      rw [bt (by rw [hl]; exact lt_t c), idx_get (show r < hs.length by omega), some_bind']
      simp only []
      rw [d1, some_bind']
      have := toggle_L2 (hs := hs) hR hV hx hW c d2 (by rw [eD]; exact d3) wds z (sketchToggle_L1 m) FUEL 0 (by omega) (Nat.zero_le _)
      rw [show (0 : Int) = ((0 : Nat) : Int) from rfl, this]
      have e : mat R V (tog hs x W r d) = mat R V (tog hs x W (r + 1) 0) := mat_ext fun r' j h1 h2 => by
        unfold tog
        by_cases q : r' = r
        · subst q
          rw [eD]
          by_cases q2 : valN (hs[r']'(by omega)) x < bndL j
          · rw [if_pos ⟨.inr ⟨rfl, (d3 j h2).2 q2⟩, q2⟩, if_pos ⟨.inl (by omega), q2⟩]
          · rw [if_neg (fun k => q2 k.2), if_neg (fun k => q2 k.2)]
        · have : (r' < r ∨ r' = r ∧ j < d) ↔ (r' < r + 1 ∨ r' = r + 1 ∧ j < 0) := by omega
          simp only [this]
      rw [e]
      exact toggle_L1 hW wds z m (r + 1) (by omega) c
    · rw [bf (by rw [hl]; exact lt_f c), show r = R by omega]
include hR1 hV1
theorem toggle_eq {names : List Nat} (hn : ∀ y, y ∈ names → y < 18446744073709551616) : sketchToggle_m ⟨(R : Int), (V : Int), ns (wordsN hs V names)⟩ hs (x : Int) = some (⟨(R : Int), (V : Int), ns (wordsN hs V (names ++ [x]))⟩, 0) := by
  have hFU := FU
  have hRV : R * V ≤ 8 * 61 := Nat.mul_le_mul hR hV
  unfold sketchToggle_m sketchRight_m sketchSized_m slicesCloneUint64_m
  rw [ns_words, hl]
  have e1 : IntKind.i64.wrap ((R : Int) * (V : Int)) = ((R * V : Nat) : Int) := by rw [← Int.natCast_mul]; exact wr0 (by omega) (by omega)
  simp only []
  rw [some_bind', some_bind', mat_len, e1]
  have e2 : ((((decide (1 ≤ (R : Int)) && decide ((R : Int) ≤ 8)) && decide (1 ≤ (V : Int))) && decide ((V : Int) ≤ 61)) && (((R * V : Nat) : Int) == ((R * V : Nat) : Int))) = true := by
    simp; omega
  rw [e2, bf (by simp), app_ok (by rw [mat_len]; simp; omega), some_bind', List.nil_append, ns_words, hl]
  have e0 : mat R V (fun r j => wordN (hs.getD r ⟨0, 0⟩) j names) = mat R V (tog hs x (fun r j => wordN (hs.getD r ⟨0, 0⟩) j names) 0 0) := mat_ext fun r j _ _ => by unfold tog; rw [if_neg (by omega)]
  have e3 : mat R V (fun r j => wordN (hs.getD r ⟨0, 0⟩) j (names ++ [x])) = mat R V (tog hs x (fun r j => wordN (hs.getD r ⟨0, 0⟩) j names) R 0) := mat_ext fun r j h1 h2 => by
    rw [wordN_snoc]; unfold tog
    by_cases q : valN (hs.getD r ⟨0, 0⟩) x < bndL j
    · rw [if_pos q, if_pos ⟨.inl h1, q⟩]
    · rw [if_neg q, if_neg (fun k => q k.2)]
  have := toggle_L1 (hs := hs) (R := R) (V := V) hR hV hl hh hx (W := fun r j => wordN (hs.getD r ⟨0, 0⟩) j names) (fun r j => wordN_lt names hn) (mat R V fun r j => wordN (hs.getD r ⟨0, 0⟩) j names) (GSketchSketch.mk 0 0 []) FUEL 0 (by omega) (Nat.zero_le _)
  rw [hl] at this
  rw [e3, ← this, ← e0]; rfl
end
theorem drawn_L {hs : List GHash} {R V : Nat} (hR1 : 1 ≤ R) (hR : R ≤ 8) (hV1 : 1 ≤ V) (hV : V ≤ 61) (hl : hs.length = R) (hh : ∀ h, h ∈ hs → HOK h) {names : List Nat} (hn : ∀ y, y ∈ names → y < 18446744073709551616) (hnl : names.length < 1000000000) (z : GSketchSketch) : ∀ (m i : Nat), names.length < i + m → i ≤ names.length →
    searchDrawn_L1 m z ⟨(R : Int), (V : Int), ns (wordsN hs V (names.take i))⟩ hs (ns names) ((ns names).length : Int) (i : Int) = some ⟨(R : Int), (V : Int), ns (wordsN hs V names)⟩
  | 0, i, _, _ => by omega
  | m + 1, i, hm, hi => by
    show searchDrawn_B1 (searchDrawn_L1 m) _ _ _ _ _ _ = _
    unfold searchDrawn_B1
    have hlen : (ns names).length = names.length := by simp [ns]
    by_cases c : i < names.length
    · have e : idx (ns names) (i : Int) = some ((names[i] : Nat) : Int) := by rw [idx_nat]; unfold ns; rw [List.getElem?_map, List.getElem?_eq_getElem c]; rfl
      rw [bt (by rw [hlen]; exact lt_t c), e, some_bind', toggle_eq hR1 hR hV1 hV hl hh (hn _ (List.getElem_mem c)) (fun y hy => hn y (List.mem_of_mem_take hy)), some_bind']
      simp only []
      rw [wr1 i (by omega), ← take_snoc c]
      exact drawn_L hR1 hR hV1 hV hl hh hn hnl z m (i + 1) (by omega) c
    · rw [bf (by rw [hlen]; exact lt_f c), List.take_of_length_le (by omega)]
theorem wordsN_nil (hs : List GHash) (V : Nat) : ns (wordsN hs V []) = List.replicate (hs.length * V) 0 := by
  rw [ns_words]
  unfold mat
  apply List.ext_getElem?
  intro k
  by_cases c : k < hs.length * V
  · rw [List.getElem?_map, List.getElem?_range c, List.getElem?_replicate, if_pos c]; rfl
  · rw [List.getElem?_eq_none (by simp; omega), List.getElem?_eq_none (by simp; omega)]
section
variable {g : GGraph} (h : GOK g) (hw : ∀ x, x ∈ g.Hashes → HOK x)
theorem hsh_mem {g : GGraph} {t : Int} {x : GHash} (hx : x ∈ hsh g t) : x ∈ g.Hashes := List.mem_of_mem_drop (List.mem_of_mem_take hx)
include h hw
theorem searchDrawn_eq {t : Int} (h0 : 0 ≤ t) (ht : t < g.Config.L) {c : List GEdge} (hc : ∀ e, e ∈ c → EB e) (hcl : c.length < 1000000000) :
    searchDrawn_m g t c = some ⟨g.Config.R, (lvl g.Config.N : Nat), ns (wordsN (hsh g t) (lvl g.Config.N) (c.map nmE))⟩ := by
  have hFU := FU
  obtain ⟨l1, l3, l4⟩ := levels_own h.n1 h.n2
  have r1 := h.r1
  have r2 := h.r2
  have hlen := hsh_len h h0 ht
  obtain ⟨R, hR⟩ := Int.eq_ofNat_of_zero_le (a := g.Config.R) (by omega)
  rw [hR, Int.toNat_natCast] at hlen
  unfold searchDrawn_m sketchNew_m sketchSized_m
  rw [l1, some_bind', hR]
  generalize lvl g.Config.N = V at *
  have hRV : R * V ≤ 8 * 22 := Nat.mul_le_mul (by omega) l4
  have e1 : IntKind.i64.wrap ((R : Int) * (V : Int)) = ((R * V : Nat) : Int) := by rw [← Int.natCast_mul]; exact wr0 (by omega) (by omega)
  rw [some_bind', bf (by simp; omega), e1, mkc_nat (k := R * V) rfl (Int.le_refl _) (by omega), some_bind', some_bind']
  simp only []
  rw [searchHashes0_eq h h0 ht, some_bind', cutNames_eq hcl hc, some_bind']
  have e2 := wordsN_nil (hsh g t) V
  rw [hlen] at e2
  have := drawn_L (hs := hsh g t) (R := R) (V := V) (by omega) (by omega) (by omega) (by omega) hlen (fun x hx => hw x (hsh_mem hx)) (names := c.map nmE) (fun y hy => by
    obtain ⟨e, he, rfl⟩ := List.mem_map.1 hy
    have := nmE_lt (hc e he); omega) (by simpa using hcl) (GSketchSketch.mk 0 0 []) FUEL 0 (by simp; omega) (Nat.zero_le _)
  rw [List.take_zero, e2] at this
  exact this
end
theorem nameEnds_eq (w : Nat) (hw : w < 18446744073709551616) : nameEnds_m (w : Int) = some (if w % 16777216 ≤ w / 16777216 then (0, 0, false) else (((w / 16777216 : Nat) : Int), ((w % 16777216 : Nat) : Int), true)) := by
  unfold nameEnds_m
  have e1 : Int.tmod (w : Int) 16777216 = ((w % 16777216 : Nat) : Int) := by rw [Int.tmod_eq_emod_of_nonneg (by omega)]; omega
  have e2 : Int.tdiv (w : Int) 16777216 = ((w / 16777216 : Nat) : Int) := by rw [Int.tdiv_eq_ediv_of_nonneg (by omega)]; omega
  rw [e1, e2, wuN (by omega)]
  by_cases c : w % 16777216 ≤ w / 16777216
  · rw [bt (by simp; omega), if_pos c]
  · rw [bf (by simp; omega), if_neg c, wr0 (by omega) (by omega), wr0 (by omega) (by omega)]
def okW (w : Nat) : Bool := decide (w / 16777216 < w % 16777216)
theorem idx_ns {l : List Nat} {i : Nat} (c : i < l.length) : idx (ns l) (i : Int) = some ((l[i] : Nat) : Int) := by
  rw [idx_nat]; unfold ns; rw [List.getElem?_map, List.getElem?_eq_getElem c]; rfl
theorem ns_len (l : List Nat) : (ns l).length = l.length := by simp [ns]
theorem filt_dropN {p : Nat → Bool} {l : List Nat} {i : Nat} (c : i < l.length) : (l.drop i).filter p = (if p l[i] then [l[i]] else []) ++ (l.drop (i + 1)).filter p := by
  rw [drop_cons c, List.filter_cons]; split <;> rfl
theorem sketchNames_L {w : List Nat} (hw : ∀ y, y ∈ w → y < 18446744073709551616) (hl : w.length < 1000000000) : ∀ (m i : Nat) (out : List Int), w.length < i + m → i ≤ w.length → out.length ≤ i → sketchNames_L1 m out (ns w) ((ns w).length : Int) (i : Int) = some (out ++ ns ((w.drop i).filter okW))
  | 0, i, _, _, _, _ => by omega
  | m + 1, i, out, hm, hi, ho => by
    show sketchNames_B1 (sketchNames_L1 m) _ _ _ _ = _
    unfold sketchNames_B1 sketchNames_J1
    rw [ns_len]
    by_cases c : i < w.length
    · rw [bt (lt_t c), idx_ns c, some_bind', nameEnds_eq _ (hw _ (List.getElem_mem c)), some_bind', wr1 i (by omega), filt_dropN c]
      have ih := fun out ho => sketchNames_L hw hl m (i + 1) out (by omega) c ho
      rw [ns_len] at ih
      by_cases q : w[i] % 16777216 ≤ w[i] / 16777216
      · have e : okW w[i] = false := by unfold okW; simp; omega
        rw [if_pos q, e]
        simp only []
        rw [bf rfl, ih out (by omega)]; rfl
      · have e : okW w[i] = true := by unfold okW; simp; omega
        rw [if_neg q, e]
        simp only []
        rw [bt rfl, app_ok (by simp; omega), some_bind', ih _ (by simp; omega)]
        simp only [if_true, ns, List.map_append, List.map_cons, List.map_nil, List.append_assoc, List.cons_append, List.nil_append]
    · rw [bf (lt_f c), List.drop_eq_nil_of_le (by omega)]; simp [ns]
def fnd (P : GEdge → Bool) : List GEdge → Nat → Option Nat
  | [], _ => none
  | a :: l, i => if P a then some i else fnd P l (i + 1)
def fEnds (u v : Int) (e : GEdge) : Bool := ((e.U == u) && (e.V == v)) || ((e.U == v) && (e.V == u))
theorem nameFind_L {u v : Int} {l : List GEdge} (hl : l.length < 1000000000) : ∀ (m i : Nat), l.length < i + m → i ≤ l.length → nameFind_L1 m u v l (l.length : Int) (i : Int) = some (match fnd (fEnds u v) (l.drop i) i with | some k => ((k : Nat), true) | none => (0, false))
  | 0, i, _, _ => by omega
  | m + 1, i, hm, hi => by
    show nameFind_B1 (nameFind_L1 m) _ _ _ _ _ = _
    unfold nameFind_B1
    by_cases c : i < l.length
    · rw [bt (lt_t c), idx_get c, some_bind', wr1 i (by omega), drop_cons c]
      show (bif fEnds u v l[i] then some ((i : Int), true) else _) = _
      unfold fnd
      cases q : fEnds u v l[i] with
      | true => rfl
      | false =>
        rw [bf rfl, nameFind_L hl m (i + 1) (by omega) c]; rfl
    · rw [bf (lt_f c), List.drop_eq_nil_of_le (by omega)]; rfl
theorem nameFind_eq {u v : Int} {l : List GEdge} (hl : l.length < 1000000000) : nameFind_m l u v = some (match fnd (fEnds u v) l 0 with | some k => ((k : Nat), true) | none => (0, false)) := by
  have hFU := FU
  unfold nameFind_m
  exact nameFind_L hl FUEL 0 (by omega) (Nat.zero_le _)
theorem fnd_some {P : GEdge → Bool} : ∀ {l : List GEdge} {i k : Nat}, fnd P l i = some k → i ≤ k ∧ ∃ e, l[k - i]? = some e ∧ P e = true ∧ l.find? P = some e
  | [], i, k, h => by cases h
  | a :: l, i, k, h => by
    unfold fnd at h
    cases q : P a with
    | true =>
      rw [if_pos q] at h
      cases h
      exact ⟨Nat.le_refl _, a, by simp, q, by rw [List.find?_cons, q]⟩
    | false =>
      rw [if_neg (by simp [q])] at h
      obtain ⟨h1, e, h2, h3, h4⟩ := fnd_some h
      refine ⟨by omega, e, ?_, h3, by rw [List.find?_cons, q]; exact h4⟩
      rw [show k - i = (k - (i + 1)) + 1 by omega, List.getElem?_cons_succ]; exact h2
theorem fnd_none {P : GEdge → Bool} : ∀ {l : List GEdge} {i : Nat}, fnd P l i = none → l.find? P = none
  | [], i, h => rfl
  | a :: l, i, h => by
    unfold fnd at h
    cases q : P a with
    | true => rw [if_pos q] at h; cases h
    | false =>
      rw [if_neg (by simp [q])] at h
      rw [List.find?_cons, q]; exact fnd_none h
theorem find_cong {P Q : GEdge → Bool} {l : List GEdge} (h : ∀ e, e ∈ l → P e = Q e) : l.find? P = l.find? Q := by
  induction l with
  | nil => rfl
  | cons a l ih => rw [List.find?_cons, List.find?_cons, h a (by simp), ih fun e he => h e (by simp [he])]
theorem ends_name {e : GEdge} (h : EB e) (w : Nat) : fEnds ((w / 16777216 : Nat) : Int) ((w % 16777216 : Nat) : Int) e = true ∧ okW w = true ↔ nmE e = w := by
  have h0 := nmE_cast h
  obtain ⟨h1, h2, h3⟩ := h
  unfold fEnds okW
  simp only [Bool.or_eq_true, Bool.and_eq_true, beq_iff_eq, decide_eq_true_eq]
  omega
def resS (o : Option GEdge) : GEdge × Bool := match o with | some e => (e, true) | none => (⟨0, 0, 0⟩, false)
theorem search_L {c : List GEdge} (hc : ∀ e, e ∈ c → EB e) (hcl : c.length < 1000000000) {w : List Nat} (hw : ∀ y, y ∈ w → y < 18446744073709551616 ∧ okW y = true) (hl : w.length < 1000000000) : ∀ (m i : Nat), w.length < i + m → i ≤ w.length →
    searchSearch_L1 m ⟨0, 0, 0⟩ c (ns w) ((ns w).length : Int) (i : Int) = some (resS ((w.drop i).findSome? fun w => c.find? fun e => nmE e == w))
  | 0, i, _, _ => by omega
  | m + 1, i, hm, hi => by
    show searchSearch_B1 (searchSearch_L1 m) _ _ _ _ _ = _
    unfold searchSearch_B1 searchSearch_J1
    rw [ns_len]
    by_cases q : i < w.length
    · obtain ⟨w1, w2⟩ := hw _ (List.getElem_mem q)
      have ih := search_L hc hcl hw hl m (i + 1) (by omega) q
      rw [ns_len] at ih
      have e : (c.find? fun e => nmE e == w[i]) = c.find? (fEnds ((w[i] / 16777216 : Nat) : Int) ((w[i] % 16777216 : Nat) : Int)) := find_cong fun e he => by
        have := ends_name (hc e he) w[i]
        rw [Bool.eq_iff_iff, beq_iff_eq, ← this]
        exact ⟨fun k => k.1, fun k => ⟨k, w2⟩⟩
      rw [bt (lt_t q), idx_ns q, some_bind', nameEnds_eq _ w1, some_bind', wr1 i (by omega), ih, drop_cons q, List.findSome?_cons, e]
      have hne : ¬ w[i] % 16777216 ≤ w[i] / 16777216 := by unfold okW at w2; simp at w2; omega
      rw [if_neg hne]
      simp only []
      rw [bf (c := !true) rfl, nameFind_eq hcl, some_bind']
      cases hf : fnd (fEnds ((w[i] / 16777216 : Nat) : Int) ((w[i] % 16777216 : Nat) : Int)) c 0 with
      | none =>
        simp only []
        rw [bf rfl, fnd_none hf]
      | some k =>
        obtain ⟨_, x, h1, h2, h3⟩ := fnd_some hf
        simp only []
        rw [bt rfl, idx_nat, show k = k - 0 from rfl, h1, some_bind', h3]; rfl
    · rw [bf (lt_f q), List.drop_eq_nil_of_le (by omega)]; rfl
theorem findSome_filter {c : List GEdge} (hc : ∀ e, e ∈ c → EB e) : ∀ w : List Nat, ((w.filter okW).findSome? fun w => c.find? fun e => nmE e == w) = w.findSome? fun w => c.find? fun e => nmE e == w
  | [] => rfl
  | a :: w => by
    rw [List.filter_cons, List.findSome?_cons]
    cases q : okW a with
    | true => rw [if_pos rfl, List.findSome?_cons, findSome_filter hc w]
    | false =>
      rw [if_neg (by simp), findSome_filter hc w]
      have : (c.find? fun e => nmE e == a) = none := by
        rw [List.find?_eq_none]
        intro e he k
        have := (ends_name (hc e he) a).2 (by simpa using k)
        rw [q] at this; cases this.2
      rw [this]
theorem wordsN_lt {hs : List GHash} {V : Nat} {names : List Nat} (hn : ∀ x, x ∈ names → x < 18446744073709551616) : ∀ y, y ∈ wordsN hs V names → y < 18446744073709551616 := fun y hy => by
  unfold wordsN at hy
  obtain ⟨k, _, rfl⟩ := List.mem_map.1 hy
  exact wordN_lt names hn
theorem wordsN_len (hs : List GHash) (V : Nat) (names : List Nat) : (wordsN hs V names).length = hs.length * V := by simp [wordsN]
theorem sketchNames_eq {R V : Nat} (hR1 : 1 ≤ R) (hR : R ≤ 8) (hV1 : 1 ≤ V) (hV : V ≤ 61) {w : List Nat} (hw : ∀ y, y ∈ w → y < 18446744073709551616) (hl : w.length = R * V) : sketchNames_m ⟨(R : Int), (V : Int), ns w⟩ = some (ns (w.filter okW)) := by
  have hFU := FU
  have hRV : R * V ≤ 8 * 61 := Nat.mul_le_mul hR hV
  unfold sketchNames_m sketchRight_m sketchSized_m
  simp only []
  have e1 : IntKind.i64.wrap ((R : Int) * (V : Int)) = ((R * V : Nat) : Int) := by rw [← Int.natCast_mul]; exact wr0 (by omega) (by omega)
  rw [some_bind', some_bind', ns_len, e1, hl]
  have e2 : ((((decide (1 ≤ (R : Int)) && decide ((R : Int) ≤ 8)) && decide (1 ≤ (V : Int))) && decide ((V : Int) ≤ 61)) && (((R * V : Nat) : Int) == ((R * V : Nat) : Int))) = true := by
    simp; omega
  rw [e2, bf (c := !true) rfl]
  have := sketchNames_L hw (by omega) FUEL 0 [] (by omega) (Nat.zero_le _) (by simp)
  rw [ns_len, hl] at this
  exact this
section
variable {g : GGraph} (hE : g.Edges.length < 1000000000) (hH : g.Hashes.length < 1000000000) (hw : ∀ x, x ∈ g.Hashes → HOK x)
theorem cut_eb {g : GGraph} (h : GOK g) {p : Int → Int} {v : Int} : ∀ e, e ∈ cutE p v g.Edges → EB e := fun e he => h.eb (cutE_mem he)
theorem cut_names_lt {g : GGraph} (h : GOK g) {p : Int → Int} {v : Int} : ∀ x, x ∈ (cutE p v g.Edges).map nmE → x < 18446744073709551616 := fun x hx => by
  obtain ⟨e, he, rfl⟩ := List.mem_map.1 hx
  have := nmE_lt (cut_eb h e he); omega
def wds (g : GGraph) (t v : Int) : List Nat := wordsN (hsh g t) (lvl g.Config.N) ((cutE (pf g t) v g.Edges).map nmE)
include hE hH hw
theorem searchSearch_eq (t v : Int) : searchSearch_m g t v = some (resS (if grB g = true ∧ 0 ≤ t ∧ t < g.Config.L ∧ 0 ≤ v ∧ v < g.Config.N then srch g t v else none)) := by
  have hFU := FU
  unfold searchSearch_m
  rw [hasSketch_eq hE hH, some_bind']
  by_cases c : grB g = true ∧ 0 ≤ t ∧ t < g.Config.L ∧ 0 ≤ v ∧ v < g.Config.N
  · obtain ⟨hb, h0, ht, v0, vn⟩ := c
    have h := gok hb
    have r1 := h.r1
    have r2 := h.r2
    obtain ⟨_, l3, l4⟩ := levels_own h.n1 h.n2
    have hcl := cutE_len (pf g t) v g.Edges
    have hlen := hsh_len h h0 ht
    rw [bf (by simp; exact ⟨hb, h0, ht, v0, vn⟩), searchCutOf_eq hE h (by omega) v0 vn, some_bind', searchDrawn_eq h hw h0 ht (cut_eb h) (by omega), some_bind', if_pos ⟨hb, h0, ht, v0, vn⟩]
    obtain ⟨R, hR⟩ := Int.eq_ofNat_of_zero_le (a := g.Config.R) (by omega)
    rw [hR, Int.toNat_natCast] at hlen
    rw [hR, sketchNames_eq (by omega) (by omega) (by omega) (by omega) (wordsN_lt (cut_names_lt h)) (by rw [wordsN_len, hlen]), some_bind']
    have hRV : R * lvl g.Config.N ≤ 8 * 22 := Nat.mul_le_mul (by omega) l4
    have hwl : ((wordsN (hsh g t) (lvl g.Config.N) ((cutE (pf g t) v g.Edges).map nmE)).filter okW).length ≤ 176 := by
      refine Nat.le_trans (List.length_filter_le _ _) ?_
      rw [wordsN_len, hlen]; omega
    have := search_L (cut_eb h (p := pf g t) (v := v)) (by omega) (w := (wordsN (hsh g t) (lvl g.Config.N) ((cutE (pf g t) v g.Edges).map nmE)).filter okW) (fun y hy => by
      rw [List.mem_filter] at hy
      exact ⟨wordsN_lt (cut_names_lt h) y hy.1, hy.2⟩) (by omega) FUEL 0 (by omega) (Nat.zero_le _)
    rw [show ((0 : Nat) : Int) = (0 : Int) from rfl, List.drop_zero, findSome_filter (cut_eb h)] at this
    rw [this]; rfl
  · rw [decide_eq_false c, bt (c := !false) rfl, if_neg c]; rfl
end
end Go.Proofs.Ytibnmlbjahcjmaa
