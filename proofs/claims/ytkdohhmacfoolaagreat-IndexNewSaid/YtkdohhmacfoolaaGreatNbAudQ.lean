/- Facts that the statement's proof is made of. No condition. -/
import Derived.Test.YtkdohhmacfoolaaGreatNbAudP
set_option linter.unusedVariables false
set_option linter.unusedSimpArgs false
set_option maxRecDepth 20000
set_option maxHeartbeats 1000000
namespace Go.Proofs.YtkdohhmacfoolaaGreat
open Go Go.AM Go.Pl Go.Pt
def Rg (n : Int) (l : List aC) : Prop := ∀ e, e ∈ l → 0 ≤ e.U ∧ e.U < n ∧ 0 ≤ e.V ∧ e.V < n
theorem Rg.inR {n : Int} {l : List aC} (h : Rg n l) (hn : 0 ≤ n) : InR n.toNat (en l) := by
  intro e he
  unfold en at he
  obtain ⟨x, hx, rfl⟩ := List.mem_map.1 he
  have := h x hx
  refine ⟨this.1, ?_, this.2.2.1, ?_⟩
  · show x.U < _; omega
  · show x.V < _; omega
theorem Rg.inR' {n : Int} {l : List aC} (h : Rg n l) : ∀ e, e ∈ en l → 0 ≤ e.1 ∧ e.1 < n ∧ 0 ≤ e.2 ∧ e.2 < n := by
  intro e he
  unfold en at he
  obtain ⟨x, hx, rfl⟩ := List.mem_map.1 he
  exact h x hx
theorem Rg.mono {n : Int} {l l' : List aC} (h : Rg n l) (hs : ∀ e, e ∈ l' → e ∈ l) : Rg n l' := fun e he => h e (hs e he)
theorem Rg.at {n : Int} {l : List aC} (h : Rg n l) {i : Nat} (c : i < l.length) : 0 ≤ l[i].U ∧ l[i].U < n ∧ 0 ≤ l[i].V ∧ l[i].V < n := h _ (List.getElem_mem c)
theorem aZv {n : Int} {l : List aC} (h : trL n none l = true) : Rg n l := fun e he => by
  obtain ⟨a, b, c, _⟩ := qZ.1 (aOz h e he); omega
theorem bAk {l : List aC} {t : Int} {e : aC} (h : e ∈ fo l t) : e ∈ l := (List.mem_filter.1 h).1
theorem bHu {n : Int} {l : List aC} (h : Rg n l) {x : Int} (h0 : 0 ≤ x) (hx : x < n) : 0 ≤ fB (en l) x ∧ fB (en l) x < n := sQ h.inR' ⟨h0, hx⟩
def pt (n : Int) (l : List aC) : List Int := tab n (fB (en l))
theorem bA2 (n : Int) (l : List aC) : (pt n l).length = n.toNat := yY _ _
theorem aVb {n : Int} {l : List aC} {x : Int} (h0 : 0 ≤ x) (hx : x < n) : idx (pt n l) x = some (fB (en l) x) := aPi h0 hx
theorem aPz {n : Int} {l : List aC} (hl : l.length < 1000000000) (h0 : 0 ≤ n) (hn : n ≤ 1024) (h : Rg n l) : nT n l = some (pt n l, 0) := by
  rw [aQ9 hl, if_pos ⟨h0, hn, h⟩]; rfl
theorem aD1 {n : Int} (h0 : 0 ≤ n) (hn : n ≤ 1024) {l : List aC} (h : Rg n l) : ∀ (m i : Nat), n.toNat < i + m → i ≤ n.toNat → lJ m (pt n l) (pt n l) ((pt n l).length : Int) (i : Int) = some true
  | 0, i, _, _ => by omega
  | m + 1, i, hm, hi => by
    show nU (lJ m) _ _ _ _ = _
    have hlen := bA2 n l
    unfold nU
    by_cases c : i < n.toNat
    · rw [bt (by rw [hlen]; exact aKt c), aVb (by omega) (by omega), aB]
      unfold fU
      have hr := bHu h (x := (i : Int)) (by omega) (by omega)
      have hle := aBy (en l) (i : Int)
      rw [aB, gt' (by rw [hlen]; simp; omega), aVb hr.1 hr.2, aB, aA1]
      rw [bf (by rw [hlen]; simp; omega), wr1 i (by omega)]
      exact aD1 h0 hn h m (i + 1) (by omega) (by omega)
    · rw [bf (by rw [hlen]; exact aJp c)]
theorem aIw {n : Int} (h0 : 0 ≤ n) (hn : n ≤ 1024) {l : List aC} (h : Rg n l) : mO (pt n l) = some true := by
  have hFU := FU
  unfold mO
  exact aD1 h0 hn h bY 0 (by omega) (Nat.zero_le _)
def cntF (n i : Nat) (p : Int → Int) : Nat := (List.range' i (n - i)).countP fun (k : Nat) => decide (p k = k)
theorem cntF_step {n i : Nat} {p : Int → Int} (c : i < n) : cntF n i p = (if p i = i then 1 else 0) + cntF n (i + 1) p := by
  unfold cntF
  rw [show n - i = (n - (i + 1)) + 1 by omega, List.range'_succ, List.countP_cons]
  simp only [decide_eq_true_eq]; omega
theorem aR9 (n : Nat) (p : Int → Int) : cntF n 0 p = cnt n p := by unfold cntF cnt; rw [Nat.sub_zero, List.range_eq_range']
theorem aVd {n i : Nat} (p : Int → Int) (c : ¬ i < n) : cntF n i p = 0 := by unfold cntF; rw [show n - i = 0 by omega]; rfl
theorem aAc {n : Int} (h0 : 0 ≤ n) (hn : n ≤ 1024) (f : Int → Int) : ∀ (m i k : Nat), n.toNat < i + m → i ≤ n.toNat → k ≤ i → kJ m (k : Int) (tab n f) ((tab n f).length : Int) (i : Int) = some (((k + cntF n.toNat i f : Nat) : Int))
  | 0, i, _, _, _, _ => by omega
  | m + 1, i, k, hm, hi, hk => by
    show pD (kJ m) _ _ _ _ = _
    have hlen := yY n f
    unfold pD pJ
    by_cases c : i < n.toNat
    · rw [bt (by rw [hlen]; exact aKt c), aPi (by omega) (by omega), aB, wr1 i (by omega), wr1 k (by omega), cntF_step c]
      by_cases e : f i = i
      · rw [bt (by simp [e]), aAc h0 hn f m (i + 1) (k + 1) (by omega) (by omega) (by omega), if_pos e]
        congr 2; omega
      · rw [bf (by simp; omega), aAc h0 hn f m (i + 1) k (by omega) (by omega) (by omega), if_neg e]
        congr 2; omega
    · rw [bf (by rw [hlen]; exact aJp c), aVd f c]; rfl
theorem aL0 {n : Int} (h0 : 0 ≤ n) (hn : n ≤ 1024) {l : List aC} (h : Rg n l) : rU (pt n l) = some ((cl n.toNat (en l) : Nat) : Int) := by
  have hFU := FU
  unfold rU
  rw [aIw h0 hn h, aB, bf (c := !true) rfl]
  have := aAc h0 hn (fB (en l)) bY 0 0 (by omega) (Nat.zero_le _) (Nat.le_refl _)
  rw [aR9, Nat.zero_add] at this
  exact this
theorem bGa {n : Nat} (l : List E) : cl n l ≤ n := by unfold cl cnt; exact Nat.le_trans List.countP_le_length (by simp)
theorem aN4 (l : List aC) : (en l).length = l.length := by simp [en]
def foB (n : Int) (l : List aC) : Bool := decide (cl n.toNat (en l) + l.length = n.toNat)
theorem aGf {n : Int} (h0 : 0 ≤ n) (hn : n ≤ 1024) {l : List aC} (hl : l.length < 1000000000) (h : Rg n l) : iP n l = some (foB n l) := by
  unfold iP foB
  rw [aPz hl h0 hn h, aB]
  have := bGa (n := n.toNat) (en l)
  simp only []
  rw [gt' (by rfl), aL0 h0 hn h, aB, wr0 (by omega) (by omega)]
  congr 1
  by_cases c : cl n.toNat (en l) + l.length = n.toNat
  · simp [c]; omega
  · simp [c]; omega
def Iv (n : Int) (l : List aC) (p : List Int) : Prop := p.length = n.toNat ∧ ∀ k : Nat, k < n.toNat → ∃ y : Nat, p[k]? = some (y : Int) ∧ y ≤ k ∧ cO (en l) k y
theorem Iv.set {n : Int} {l : List aC} {p : List Int} (h : Iv n l p) {v a : Nat} (hv : v < n.toNat) (hle : a ≤ v) (hc : cO (en l) v a) : Iv n l (p.set v (a : Int)) := by
  refine ⟨by rw [List.length_set]; exact h.1, fun k hk => ?_⟩
  by_cases e : k = v
  · subst e; exact ⟨a, by rw [List.getElem?_set_self (by rw [h.1]; exact hk)], hle, hc⟩
  · obtain ⟨y, h1, h2⟩ := h.2 k hk
    exact ⟨y, by rw [List.getElem?_set_ne (fun q => e q.symm)]; exact h1, h2⟩
theorem Iv.done {n : Int} {l : List aC} {p : List Int} (h : Rg n l) (hI : Iv n l p) (he : ∀ j (hj : j < l.length), idx p l[j].U = idx p l[j].V) : p = pt n l := by
  refine aM5 hI.1 fun k hk => ?_
  have key := aKg (n := n) (l := en l) h.inR' (q := fun x => (p[x.toNat]?).getD 0) (fun x h0 hx => by
    obtain ⟨y, y1, y2, y3⟩ := hI.2 x.toNat (by omega)
    have e : ((x.toNat : Nat) : Int) = x := by omega
    rw [e] at y3
    simp only [y1, Option.getD_some]
    exact ⟨by omega, by omega, y3⟩) (fun e hm => by
    unfold en at hm
    obtain ⟨x, hx, rfl⟩ := List.mem_map.1 hm
    obtain ⟨j, hj, rfl⟩ := List.getElem_of_mem hx
    have r := h.at hj
    have := he j hj
    rw [aA0 (k := l[j].U.toNat) (by omega), aA0 (k := l[j].V.toNat) (by omega)] at this
    simp only [this]) (k : Int) (by omega) hk
  obtain ⟨y, y1, _⟩ := hI.2 k (by omega)
  simp only [Int.toNat_natCast, y1, Option.getD_some] at key
  rw [y1, key]
end Go.Proofs.YtkdohhmacfoolaaGreat
