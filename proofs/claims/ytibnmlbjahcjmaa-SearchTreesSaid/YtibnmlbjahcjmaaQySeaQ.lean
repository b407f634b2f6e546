/- Facts that the statement's proof is made of. No condition. -/
import Derived.Test.YtibnmlbjahcjmaaQySeaP
set_option linter.unusedVariables false
set_option linter.unusedSimpArgs false
set_option maxRecDepth 20000
set_option maxHeartbeats 1000000
namespace Go.Proofs.Ytibnmlbjahcjmaa
open Go Go.AM Go.Pl Go.Pt
def mat (R V : Nat) (W : Nat → Nat → Nat) : List Int := (List.range (R * V)).map fun (k : Nat) => ((W (k / V) (k % V) : Nat) : Int)
theorem mat_len (R V : Nat) (W : Nat → Nat → Nat) : (mat R V W).length = R * V := by simp [mat]
theorem rv_lt {R V r i : Nat} (hr : r < R) (hi : i < V) : r * V + i < R * V := by
  have : (r + 1) * V ≤ R * V := Nat.mul_le_mul_right _ hr
  rw [Nat.add_mul] at this; omega
theorem rv_div {V r i : Nat} (hi : i < V) : (r * V + i) / V = r := by
  rw [Nat.add_comm, Nat.add_mul_div_right _ _ (by omega), Nat.div_eq_of_lt hi, Nat.zero_add]
theorem rv_mod {V r i : Nat} (hi : i < V) : (r * V + i) % V = i := by
  rw [Nat.add_comm, Nat.add_mul_mod_self_right, Nat.mod_eq_of_lt hi]
theorem mat_ext {R V : Nat} {W W' : Nat → Nat → Nat} (h : ∀ r i, r < R → i < V → W r i = W' r i) : mat R V W = mat R V W' := by
  unfold mat
  apply List.map_congr_left
  intro k hk
  rw [List.mem_range] at hk
  have hV : 0 < V := Nat.pos_of_ne_zero fun e => by subst e; simp at hk
  have h1 : k / V < R := Nat.div_lt_of_lt_mul (by rw [Nat.mul_comm]; exact hk)
  rw [h _ _ h1 (Nat.mod_lt _ hV)]
theorem mat_idx {R V : Nat} {W : Nat → Nat → Nat} {r i : Nat} (hr : r < R) (hi : i < V) {x : Int} (hx : x = ((r * V + i : Nat) : Int)) : idx (mat R V W) x = some ((W r i : Nat) : Int) := by
  rw [idx_at hx]
  unfold mat
  rw [List.getElem?_map, List.getElem?_range (rv_lt hr hi), Option.map_some, rv_div hi, rv_mod hi]
theorem mat_set {R V : Nat} {W W' : Nat → Nat → Nat} {r i : Nat} (hr : r < R) (hi : i < V) {x y : Int} (hx : x = ((r * V + i : Nat) : Int)) (hy : y = ((W' r i : Nat) : Int)) (hw : ∀ r' i', ¬ (r' = r ∧ i' = i) → W' r' i' = W r' i') :
    stt (mat R V W) x y = some (mat R V W') := by
  rw [stt_at hx (by rw [mat_len]; exact rv_lt hr hi)]
  congr 1
  apply List.ext_getElem?
  intro k
  rw [List.getElem?_set]
  unfold mat
  by_cases hk : k < R * V
  · have hV : 0 < V := by omega
    rw [List.getElem?_map, List.getElem?_map, List.getElem?_range hk]
    by_cases e : r * V + i = k
    · rw [if_pos e, if_pos (by simp; exact rv_lt hr hi), hy, Option.map_some, ← e, rv_div hi, rv_mod hi]
    · rw [if_neg e, Option.map_some, Option.map_some, hw]
      rintro ⟨q1, q2⟩
      apply e
      rw [← q1, ← q2]
      exact Nat.div_add_mod' k V
  · rw [if_neg (by intro e; exact hk (by rw [← e]; exact rv_lt hr hi)), List.getElem?_eq_none (by simp; omega), List.getElem?_eq_none (by simp; omega)]
theorem ns_words (hs : List GHash) (V : Nat) (names : List Nat) : ns (wordsN hs V names) = mat hs.length V fun r j => wordN (hs.getD r ⟨0, 0⟩) j names := by
  unfold ns wordsN mat; rw [List.map_map]; rfl
theorem wordN_snoc (h : GHash) (j : Nat) (names : List Nat) (x : Nat) : wordN h j (names ++ [x]) = if valN h x < bnd j then wordN h j names ^^^ x else wordN h j names := by
  unfold wordN; rw [List.foldl_append]; rfl
theorem wordN_lt {h : GHash} {j : Nat} : ∀ (names : List Nat), (∀ x, x ∈ names → x < 18446744073709551616) → wordN h j names < 18446744073709551616 := by
  intro names hn
  unfold wordN
  have : ∀ (l : List Nat) (w : Nat), (∀ x, x ∈ l → x < 18446744073709551616) → w < 18446744073709551616 → l.foldl (fun w x => if valN h x < bnd j then w ^^^ x else w) w < 18446744073709551616 := by
    intro l
    induction l with
    | nil => intro w _ hw; exact hw
    | cons a l ih =>
      intro w hl hw
      rw [List.foldl_cons]
      refine ih _ (fun x hx => hl x (by simp [hx])) ?_
      split
      · exact Nat.xor_lt_two_pow (n := 64) hw (hl a (by simp))
      · exact hw
  exact this names 0 hn (by decide)
section
variable {hs : List GHash} {R V : Nat} (hR1 : 1 ≤ R) (hR : R ≤ 8) (hV1 : 1 ≤ V) (hV : V ≤ 61) (hl : hs.length = R) (hh : ∀ h, h ∈ hs → HOK h) {x : Nat} (hx : x < 18446744073709551616)
def tog (hs : List GHash) (x : Nat) (W : Nat → Nat → Nat) (r i : Nat) : Nat → Nat → Nat := fun r' j => if (r' < r ∨ r' = r ∧ j < i) ∧ valN (hs.getD r' ⟨0, 0⟩) x < bnd j then W r' j ^^^ x else W r' j
include hR hV hx
theorem toggle_L2 {W : Nat → Nat → Nat} (hW : ∀ r j, W r j < 18446744073709551616) {r d : Nat} (hr : r < R) (hd : d ≤ V) (hdv : ∀ j, j < V → (j < d ↔ valN (hs.getD r ⟨0, 0⟩) x < bnd j)) (wds : List Int) (z : GSketchSketch) (rec1 : Int → GSketchSketch → GSketchSketch → List Int → List GHash → Int → Int → Option (GSketchSketch × Int)) : ∀ (m i : Nat), d < i + m → i ≤ d →
    sketchToggle_L2 rec1 m (x : Int) ⟨(R : Int), (V : Int), wds⟩ z (mat R V (tog hs x W r i)) (r : Int) hs (hs.length : Int) (r : Int) (d : Int) (i : Int) = rec1 (x : Int) ⟨(R : Int), (V : Int), wds⟩ z (mat R V (tog hs x W r d)) hs (hs.length : Int) ((r + 1 : Nat) : Int)
  | 0, i, _, _ => by omega
  | m + 1, i, hm, hi => by
    show sketchToggle_B2 rec1 (sketchToggle_L2 rec1 m) _ _ _ _ _ _ _ _ _ _ = _
    unfold sketchToggle_B2
    by_cases c : i < d
    · have hlt : r * V + i < R * V := rv_lt hr (by omega)
      have hRV : R * V ≤ 8 * 61 := Nat.mul_le_mul hR hV
      have e1 : IntKind.i64.wrap ((r : Int) * (V : Int)) = ((r * V : Nat) : Int) := by rw [← Int.natCast_mul]; exact wr0 (by omega) (by omega)
      have e2 : IntKind.i64.wrap (((r * V : Nat) : Int) + (i : Int)) = ((r * V + i : Nat) : Int) := by rw [← Int.natCast_add]; exact wr0 (by omega) (by omega)
      rw [bt (lt_t c), e1, e2, mat_idx hr (by omega) rfl, some_bind', some_bind']
      have e3 : tog hs x W r i r i = W r i := by unfold tog; rw [if_neg (by omega)]
      have e4 : tog hs x W r (i + 1) r i = W r i ^^^ x := by unfold tog; rw [if_pos ⟨by omega, (hdv i (by omega)).1 c⟩]
      rw [e3, bxorN _ _ (hW r i) hx, mat_set (W' := tog hs x W r (i + 1)) hr (show i < V by omega) rfl (by rw [e4]) (fun r' i' hne => by
        unfold tog
        have : (r' < r ∨ r' = r ∧ i' < i + 1) ↔ (r' < r ∨ r' = r ∧ i' < i) := by omega
        simp only [this]), some_bind', wr1 i (by omega)]
      exact toggle_L2 hW hr hd hdv wds z rec1 m (i + 1) (by omega) (by omega)
    · rw [bf (lt_f c), show i = d by omega, wr1 r (by omega)]
include hl hh
theorem toggle_L1 {W : Nat → Nat → Nat} (hW : ∀ r j, W r j < 18446744073709551616) (wds : List Int) (z : GSketchSketch) : ∀ (m r : Nat), R < r + m → r ≤ R →
    sketchToggle_L1 m (x : Int) ⟨(R : Int), (V : Int), wds⟩ z (mat R V (tog hs x W r 0)) hs (hs.length : Int) (r : Int) = some (⟨(R : Int), (V : Int), mat R V (tog hs x W R 0)⟩, 0)
  | 0, r, _, _ => by omega
  | m + 1, r, hm, hr => by
    have hFU := FU
    show sketchToggle_B1 (sketchToggle_L1 m) _ _ _ _ _ _ _ = _
    unfold sketchToggle_B1
    by_cases c : r < R
    · have hm2 : hs[r]'(by omega) ∈ hs := List.getElem_mem _
      have eD : hs.getD r ⟨0, 0⟩ = hs[r]'(by omega) := by simp [List.getD, List.getElem?_eq_getElem (show r < hs.length by omega)]
      obtain ⟨d, d1, d2, d3⟩ := levelDeep_eq (hh _ hm2) x V hV
      rw [bt (by rw [hl]; exact lt_t c), idx_get (show r < hs.length by omega), some_bind']
      simp only []
      rw [d1, some_bind']
      have := toggle_L2 (hs := hs) hR hV hx hW c d2 (by rw [eD]; exact d3) wds z (sketchToggle_L1 m) FUEL 0 (by omega) (Nat.zero_le _)
      rw [show (0 : Int) = ((0 : Nat) : Int) from rfl, this]
      have e : mat R V (tog hs x W r d) = mat R V (tog hs x W (r + 1) 0) := mat_ext fun r' j h1 h2 => by
        unfold tog
        by_cases q : r' = r
        · subst q
          rw [eD]
          by_cases q2 : valN (hs[r']'(by omega)) x < bnd j
          · rw [if_pos ⟨.inr ⟨rfl, (d3 j h2).2 q2⟩, q2⟩, if_pos ⟨.inl (by omega), q2⟩]
          · rw [if_neg (fun k => q2 k.2), if_neg (fun k => q2 k.2)]
        · have : (r' < r ∨ r' = r ∧ j < d) ↔ (r' < r + 1 ∨ r' = r + 1 ∧ j < 0) := by omega
          simp only [this]
      rw [e]
      exact toggle_L1 hW wds z m (r + 1) (by omega) c
    · rw [bf (by rw [hl]; exact lt_f c), show r = R by omega]
include hR1 hV1
theorem toggle_eq {names : List Nat} (hn : ∀ y, y ∈ names → y < 18446744073709551616) : sketchToggle_m ⟨(R : Int), (V : Int), ns (wordsN hs V names)⟩ hs (x : Int) = some (⟨(R : Int), (V : Int), ns (wordsN hs V (names ++ [x]))⟩, 0) := by
  have hFU := FU
  have hRV : R * V ≤ 8 * 61 := Nat.mul_le_mul hR hV
  unfold sketchToggle_m sketchRight_m sketchSized_m slicesCloneUint64_m
  rw [ns_words, hl]
  have e1 : IntKind.i64.wrap ((R : Int) * (V : Int)) = ((R * V : Nat) : Int) := by rw [← Int.natCast_mul]; exact wr0 (by omega) (by omega)
  simp only []
  rw [some_bind', some_bind', mat_len, e1]
  have e2 : ((((decide (1 ≤ (R : Int)) && decide ((R : Int) ≤ 8)) && decide (1 ≤ (V : Int))) && decide ((V : Int) ≤ 61)) && (((R * V : Nat) : Int) == ((R * V : Nat) : Int))) = true := by
    simp; omega
  rw [e2, bf (by simp), app_ok (by rw [mat_len]; simp; omega), some_bind', List.nil_append, ns_words, hl]
  have e0 : mat R V (fun r j => wordN (hs.getD r ⟨0, 0⟩) j names) = mat R V (tog hs x (fun r j => wordN (hs.getD r ⟨0, 0⟩) j names) 0 0) := mat_ext fun r j _ _ => by unfold tog; rw [if_neg (by omega)]
  have e3 : mat R V (fun r j => wordN (hs.getD r ⟨0, 0⟩) j (names ++ [x])) = mat R V (tog hs x (fun r j => wordN (hs.getD r ⟨0, 0⟩) j names) R 0) := mat_ext fun r j h1 h2 => by
    rw [wordN_snoc]; unfold tog
    by_cases q : valN (hs.getD r ⟨0, 0⟩) x < bnd j
    · rw [if_pos q, if_pos ⟨.inl h1, q⟩]
    · rw [if_neg q, if_neg (fun k => q k.2)]
  have := toggle_L1 (hs := hs) (R := R) (V := V) hR hV hl hh hx (W := fun r j => wordN (hs.getD r ⟨0, 0⟩) j names) (fun r j => wordN_lt names hn) (mat R V fun r j => wordN (hs.getD r ⟨0, 0⟩) j names) (GSketchSketch.mk 0 0 []) FUEL 0 (by omega) (Nat.zero_le _)
  rw [hl] at this
  rw [e3, ← this, ← e0]; rfl
end
theorem drawn_L {hs : List GHash} {R V : Nat} (hR1 : 1 ≤ R) (hR : R ≤ 8) (hV1 : 1 ≤ V) (hV : V ≤ 61) (hl : hs.length = R) (hh : ∀ h, h ∈ hs → HOK h) {names : List Nat} (hn : ∀ y, y ∈ names → y < 18446744073709551616) (hnl : names.length < 1000000000) (z : GSketchSketch) : ∀ (m i : Nat), names.length < i + m → i ≤ names.length →
    searchDrawn_L1 m z ⟨(R : Int), (V : Int), ns (wordsN hs V (names.take i))⟩ hs (ns names) ((ns names).length : Int) (i : Int) = some ⟨(R : Int), (V : Int), ns (wordsN hs V names)⟩
  | 0, i, _, _ => by omega
  | m + 1, i, hm, hi => by
    show searchDrawn_B1 (searchDrawn_L1 m) _ _ _ _ _ _ = _
    unfold searchDrawn_B1
    have hlen : (ns names).length = names.length := by simp [ns]
    by_cases c : i < names.length
    · have e : idx (ns names) (i : Int) = some ((names[i] : Nat) : Int) := by rw [idx_nat]; unfold ns; rw [List.getElem?_map, List.getElem?_eq_getElem c]; rfl
      rw [bt (by rw [hlen]; exact lt_t c), e, some_bind', toggle_eq hR1 hR hV1 hV hl hh (hn _ (List.getElem_mem c)) (fun y hy => hn y (List.mem_of_mem_take hy)), some_bind']
      simp only []
      rw [wr1 i (by omega), ← take_snoc c]
      exact drawn_L hR1 hR hV1 hV hl hh hn hnl z m (i + 1) (by omega) c
    · rw [bf (by rw [hlen]; exact lt_f c), List.take_of_length_le (by omega)]
theorem wordsN_nil (hs : List GHash) (V : Nat) : ns (wordsN hs V []) = List.replicate (hs.length * V) 0 := by
  rw [ns_words]
  unfold mat
  apply List.ext_getElem?
  intro k
  by_cases c : k < hs.length * V
  · rw [List.getElem?_map, List.getElem?_range c, List.getElem?_replicate, if_pos c]; rfl
  · rw [List.getElem?_eq_none (by simp; omega), List.getElem?_eq_none (by simp; omega)]
section
variable {g : GGraph} (h : GOK g) (hw : ∀ x, x ∈ g.Hashes → HOK x)
theorem hsh_mem {g : GGraph} {t : Int} {x : GHash} (hx : x ∈ hsh g t) : x ∈ g.Hashes := List.mem_of_mem_drop (List.mem_of_mem_take hx)
include h hw
theorem searchDrawn_eq {t : Int} (h0 : 0 ≤ t) (ht : t < g.Config.L) {c : List GEdge} (hc : ∀ e, e ∈ c → EB e) (hcl : c.length < 1000000000) :
    searchDrawn_m g t c = some ⟨g.Config.R, (lvl g.Config.N : Nat), ns (wordsN (hsh g t) (lvl g.Config.N) (c.map nmE))⟩ := by
  have hFU := FU
  obtain ⟨l1, l2, l3, l4⟩ := levels_eq h.n1 h.n2
  have r1 := h.r1
  have r2 := h.r2
  have hlen := hsh_len h h0 ht
  obtain ⟨R, hR⟩ := Int.eq_ofNat_of_zero_le (a := g.Config.R) (by omega)
  rw [hR, Int.toNat_natCast] at hlen
  unfold searchDrawn_m sketchNew_m sketchSized_m
  rw [l1, some_bind', hR]
  generalize lvl g.Config.N = V at *
  have hRV : R * V ≤ 8 * 22 := Nat.mul_le_mul (by omega) l4
  have e1 : IntKind.i64.wrap ((R : Int) * (V : Int)) = ((R * V : Nat) : Int) := by rw [← Int.natCast_mul]; exact wr0 (by omega) (by omega)
  rw [some_bind', bf (by simp; omega), e1, mkc_nat (k := R * V) rfl (Int.le_refl _) (by omega), some_bind', some_bind']
  simp only []
  rw [searchHashes0_eq h h0 ht, some_bind', cutNames_eq hcl hc, some_bind']
  have e2 := wordsN_nil (hsh g t) V
  rw [hlen] at e2
  have := drawn_L (hs := hsh g t) (R := R) (V := V) (by omega) (by omega) (by omega) (by omega) hlen (fun x hx => hw x (hsh_mem hx)) (names := c.map nmE) (fun y hy => by
    obtain ⟨e, he, rfl⟩ := List.mem_map.1 hy
    have := nmE_lt (hc e he); omega) (by simpa using hcl) (GSketchSketch.mk 0 0 []) FUEL 0 (by simp; omega) (Nat.zero_le _)
  rw [List.take_zero, e2] at this
  exact this
end
theorem ns_len (l : List Nat) : (ns l).length = l.length := by simp [ns]
theorem wordsN_len (hs : List GHash) (V : Nat) (names : List Nat) : (wordsN hs V names).length = hs.length * V := by simp [wordsN]
section
variable {g : GGraph} (hE : g.Edges.length < 1000000000) (hH : g.Hashes.length < 1000000000) (hw : ∀ x, x ∈ g.Hashes → HOK x)
theorem cut_eb {g : GGraph} (h : GOK g) {p : Int → Int} {v : Int} : ∀ e, e ∈ cutE p v g.Edges → EB e := fun e he => h.eb (cutE_mem he)
def wds (g : GGraph) (t v : Int) : List Nat := wordsN (hsh g t) (lvl g.Config.N) ((cutE (pf g t) v g.Edges).map nmE)
include hE hH hw
theorem searchWords_eq (t v : Int) : searchWords_m g t v = some (if grB g = true ∧ 0 ≤ t ∧ t < g.Config.L ∧ 0 ≤ v ∧ v < g.Config.N then ns (wds g t v) else []) := by
  unfold searchWords_m
  rw [hasSketch_eq hE hH, some_bind']
  by_cases c : grB g = true ∧ 0 ≤ t ∧ t < g.Config.L ∧ 0 ≤ v ∧ v < g.Config.N
  · obtain ⟨hb, h0, ht, v0, vn⟩ := c
    have h := gok hb
    have hcl := cutE_len (pf g t) v g.Edges
    rw [bf (by simp; exact ⟨hb, h0, ht, v0, vn⟩), searchCutOf_eq hE h (by omega) v0 vn, some_bind', searchDrawn_eq h hw h0 ht (cut_eb h) (by omega), some_bind', if_pos ⟨hb, h0, ht, v0, vn⟩]; rfl
  · rw [decide_eq_false c, bt (c := !false) rfl, if_neg c]
end
end Go.Proofs.Ytibnmlbjahcjmaa
