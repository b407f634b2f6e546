/- Facts that the statement's proof is made of. No condition. -/
import Derived.Test.YtkdohhmacfoolaaGreatNcIxN
set_option linter.unusedVariables false
set_option linter.unusedSimpArgs false
set_option maxRecDepth 20000
set_option maxHeartbeats 1000000
namespace Go.Proofs.YtkdohhmacfoolaaGreat
open Go Go.AM Go.Pl Go.Pt Go.Ix
theorem aIc (l : List Int) (k : Int) (hl : l.length < 1000000) : ∀ (m i : Nat), l.length < i + m → i ≤ l.length →
 ∃ v, oR m l k (i : Int) = some v ∧ ((k ∉ l.drop i ∧ v = -1) ∨ ∃ j : Nat, v = (j : Int) ∧ l[j]? = some k)
 | 0, i, hm, hi => by omega
 | m + 1, i, hm, hi => by
  show ∃ v, zJ (oR m) l k (i : Int) = some v ∧ _
  unfold zJ
  by_cases c : i < l.length
  ·
   rw [bt (by simpa using c), cK c, aA, dO c, wr1 i (by omega)]
   by_cases q : l[i] = k
   ·
    rw [bt (by simp [q])]
    exact ⟨_, rfl, .inr ⟨i, rfl, by rw [List.getElem?_eq_getElem c, q]⟩⟩
   ·
    rw [bf (by simp [q])]
    obtain ⟨v, h1, h2⟩ := aIc l k hl m (i + 1) (by omega) c
    refine ⟨v, h1, ?_⟩
    rcases h2 with ⟨h2, h3⟩ | h2
    ·
     exact .inl ⟨fun h => (List.mem_cons.1 h).elim (fun e => q e.symm) h2, h3⟩
    ·
     exact .inr h2
  ·
   rw [bf (by simpa using c), List.drop_eq_nil_of_le (by omega)]
   exact ⟨_, rfl, .inl ⟨by simp, rfl⟩⟩
theorem lU {l : List Int} (k : Int) (hl : l.length < 1000000) : ∃ v, vZ l k = some v ∧ ((k ∉ l ∧ v = -1) ∨ ∃ j : Nat, v = (j : Int) ∧ l[j]? = some k) := by
 have hFU := FU'
 exact aIc l k hl bK 0 (by omega) (Nat.zero_le _)
def pr2 (a b : Int) : aO := if b < a then ⟨b, a⟩ else ⟨a, b⟩
theorem aPa (a b : Int) : wT a b = some (pr2 a b) := by
 unfold wT pr2
 by_cases c : b < a
 ·
  rw [bt (by simpa using c), if_pos c]; rfl
 ·
  rw [bf (by simpa using c), if_neg c]; rfl
theorem aKh (a b : Int) : pr2 a b = pr2 b a := by
 unfold pr2
 by_cases c : b < a
 ·
  rw [if_pos c, if_neg (by omega)]
 ·
  by_cases d : a < b
  ·
   rw [if_neg c, if_pos d]
  ·
   have : a = b := by omega
   rw [this]
theorem bGs {a b c d : Int} (h : pr2 a b = pr2 c d) : (a = c ∧ b = d) ∨ (a = d ∧ b = c) := by
 unfold pr2 at h
 split at h <;> split at h <;> (injection h with h1 h2; omega)
theorem aUa (p q : aO) : aKn p q = decide (p = q) := by
 cases p with | mk a b => cases q with | mk c d =>
 unfold aKn
 by_cases h1 : a = c <;> by_cases h2 : b = d <;> simp [h1, h2]
theorem aN9 (l : List aO) (k : aO) (hl : l.length < 1000000) : ∀ (m i : Nat), l.length < i + m → i ≤ l.length →
 ∃ v, vL m l k (i : Int) = some v ∧ ((k ∉ l.drop i ∧ v = -1) ∨ ∃ j : Nat, v = (j : Int) ∧ l[j]? = some k)
 | 0, i, hm, hi => by omega
 | m + 1, i, hm, hi => by
  show ∃ v, aEa (vL m) l k (i : Int) = some v ∧ _
  unfold aEa
  by_cases c : i < l.length
  ·
   rw [bt (by simpa using c), cK c, aA, dO c, wr1 i (by omega), aUa]
   by_cases q : l[i] = k
   ·
    rw [bt (by simp [q])]
    exact ⟨_, rfl, .inr ⟨i, rfl, by rw [List.getElem?_eq_getElem c, q]⟩⟩
   ·
    rw [bf (by simp [q])]
    obtain ⟨v, h1, h2⟩ := aN9 l k hl m (i + 1) (by omega) c
    refine ⟨v, h1, ?_⟩
    rcases h2 with ⟨h2, h3⟩ | h2
    ·
     exact .inl ⟨fun h => (List.mem_cons.1 h).elim (fun e => q e.symm) h2, h3⟩
    ·
     exact .inr h2
  ·
   rw [bf (by simpa using c), List.drop_eq_nil_of_le (by omega)]
   exact ⟨_, rfl, .inl ⟨by simp, rfl⟩⟩
theorem aVx {l : List aO} (k : aO) (hl : l.length < 1000000) : ∃ v, aCk l k = some v ∧ ((k ∉ l ∧ v = -1) ∨ ∃ j : Nat, v = (j : Int) ∧ l[j]? = some k) := by
 have hFU := FU'
 exact aN9 l k hl bK 0 (by omega) (Nat.zero_le _)
def touch (a : Int) (p : aO) : Bool := p.x0 == a || p.x1 == a
def bHl (a : Int) (p : aO) : Int := IntKind.u64.wrap (IntKind.u64.wrap (p.x0 + p.x1) - a)
def aG7 (l : List aO) (a : Int) : List Int := aNz ((l.filter (touch a)).map (bHl a))
theorem aN8 : ∀ (l out : List Int), (l.foldl (fun out x => qU x out) out).length = l.length + out.length
 | [], out => by simp
 | x :: l, out => by rw [List.foldl_cons, aN8 l, yC, List.length_cons]; omega
theorem aB0 (l : List Int) : (aNz l).length = l.length := by unfold aNz; rw [aN8]; simp
theorem aNe (l : List aO) (a : Int) : (aG7 l a).length = (l.filter (touch a)).length := by unfold aG7; rw [aB0, List.length_map]
theorem aAv (rec1 : Int → aE → List Int → Int → Option (List Int)) (a : Int) (mm : aE) (out : List Int) (ho : out.length < 1000000) (i other : Int) : ∀ (m k : Nat), out.length < k + m → k ≤ out.length → (∀ j y, j < k → out[j]? = some y → y < other) →
 pH rec1 m a mm out i other (k : Int) = rec1 a mm (qU other out) (IntKind.i64.wrap (i + 1))
 | 0, k, hm, hk, _ => by omega
 | m + 1, k, hm, hk, hp => by
  show aAm rec1 (pH rec1 m) _ _ _ _ _ _ = _
  unfold aAm qJ
  by_cases c : k < out.length
  ·
   rw [gt' (by simpa using c), cK c, aA]
   by_cases q : out[k] < other
   ·
    rw [bt (by simp; omega), wr1 k (by omega)]
    exact aAv rec1 a mm out ho i other m (k + 1) (by omega) c fun j y hj hy => by
     rcases Nat.lt_or_ge j k with w | w
     ·
      exact hp j y w hy
     ·
      have : j = k := by omega
      subst this; rw [List.getElem?_eq_getElem c] at hy; cases hy; exact q
   ·
    rw [bf (by simp; omega), yX rfl hk, aA, fD (by simp; omega), aA, fD (by simp; omega), aA, oU rfl hk, aA, fD (by simp; omega), aA]
    rw [aOe hk hp fun y hy => by rw [List.getElem?_eq_getElem c] at hy; cases hy; exact q]
    simp
  ·
   rw [gf' (by simpa using c), aA, bf (by simp; omega), yX rfl hk, aA, fD (by simp; omega), aA, fD (by simp; omega), aA, oU rfl hk, aA, fD (by simp; omega), aA]
   rw [aOe hk hp fun y hy => by rw [List.getElem?_eq_none (by omega)] at hy; cases hy]
   simp
theorem aB3 (a : Int) (mm : aE) (hl : mm.Pairs.length < 100000) : ∀ (m i : Nat) (out : List Int), mm.Pairs.length < i + m → i ≤ mm.Pairs.length → out.length ≤ i →
 iK m a mm out (i : Int) = some ((((mm.Pairs.drop i).filter (touch a)).map (bHl a)).foldl (fun out x => qU x out) out)
 | 0, i, out, hm, hi, _ => by omega
 | m + 1, i, out, hm, hi, ho => by
  have hFU := FU'
  show zU (iK m) _ _ _ _ = _
  unfold zU
  by_cases c : i < mm.Pairs.length
  ·
   rw [bt (by simpa using c), cK c, aA, dO c, List.filter_cons]
   cases q : touch a mm.Pairs[i] with
   | true =>
    have e : (mm.Pairs[i].x0 != a && mm.Pairs[i].x1 != a) = false := by unfold touch at q; simp at q; simp; omega
    rw [bf e, if_pos rfl]
    have := aAv (iK m) a mm out (by omega) (i : Int) (bHl a mm.Pairs[i]) bK 0 (by omega) (Nat.zero_le _) (fun j y hj => by omega)
    rw [wr1 i (by omega), aB3 a mm hl m (i + 1) _ (by omega) c (by rw [yC]; omega)] at this
    exact this
   | false =>
    have e : (mm.Pairs[i].x0 != a && mm.Pairs[i].x1 != a) = true := by unfold touch at q; simp at q; simp; omega
    rw [bt e, if_neg (by simp)]
    unfold qJ
    rw [wr1 i (by omega)]
    exact aB3 a mm hl m (i + 1) out (by omega) c (by omega)
  ·
   rw [bf (by simpa using c), List.drop_eq_nil_of_le (by omega)]; rfl
theorem aPd {m : aE} (hl : m.Pairs.length < 100000) (a : Int) : aB7 m a = some (aG7 m.Pairs a) := by
 have hFU := FU'
 exact aB3 a m hl bK 0 [] (by omega) (Nat.zero_le _) (Nat.le_refl _)
def qF (l : List aC) (v : Int) : List Int := l.filterMap fun e => if v = e.U then some e.V else if v = e.V then some e.U else none
theorem vY (l : List aC) (hl : l.length < 100000) (v : Int) : ∀ (m i : Nat) (out : List Int), l.length < i + m → i ≤ l.length → out.length ≤ i → mO m v out l (l.length : Int) (i : Int) = some (out ++ qF (l.drop i) v)
 | 0, i, out, hm, hi, _ => by omega
 | m + 1, i, out, hm, hi, ho => by
  show aAj (mO m) _ _ _ _ _ = _
  unfold aAj qE
  by_cases c : i < l.length
  ·
   rw [bt (by simpa using c), cK c, aA, dO c, wr1 i (by omega)]
   unfold qF
   rw [List.filterMap_cons]
   by_cases q : v = l[i].U
   ·
    rw [bt (by simpa using q), fD (by simp; omega), aA, if_pos q, vY l hl v m (i + 1) _ (by omega) c (by simp; omega)]
    simp [qF]
   ·
    by_cases q2 : v = l[i].V
    ·
     rw [bf (by simpa using q), bt (by simpa using q2), fD (by simp; omega), aA, if_neg q, if_pos q2, vY l hl v m (i + 1) _ (by omega) c (by simp; omega)]
     simp [qF]
    ·
     rw [bf (by simpa using q), bf (by simpa using q2), if_neg q, if_neg q2, vY l hl v m (i + 1) _ (by omega) c (by omega)]
     simp [qF]
  ·
   rw [bf (by simpa using c), List.drop_eq_nil_of_le (by omega)]; simp [qF]
theorem aA1 {s : aD} (hg : grB s.Graph = true) (hl : s.Graph.Edges.length < 100000) {v : Int} (h0 : 0 ≤ v) (h1 : v < s.Graph.Config.N) : sK s v = some (qF s.Graph.Edges v) := by
 have hFU := FU'
 have k := gok hg
 unfold sK aB5 eG
 rw [iW (by omega), aA, k.tr, gt' (by rfl), aA, bf (by simp; omega)]
 have := vY s.Graph.Edges hl v bK 0 [] (by omega) (Nat.zero_le _) (Nat.le_refl _)
 rw [show (0 : Int) = ((0 : Nat) : Int) from rfl, this]; rfl
end Go.Proofs.YtkdohhmacfoolaaGreat
