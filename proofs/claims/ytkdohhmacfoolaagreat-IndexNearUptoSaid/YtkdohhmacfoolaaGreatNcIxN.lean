/- Facts that the statement's proof is made of. No condition. -/
import Derived.Test.YtkdohhmacfoolaaGreatNcIxC
set_option linter.unusedVariables false
set_option linter.unusedSimpArgs false
set_option maxRecDepth 20000
set_option maxHeartbeats 1000000
namespace Go.Proofs.YtkdohhmacfoolaaGreat
open Go Go.AM Go.Pl Go.Pt Go.Ix
theorem aOj : pO = some true := by decide +kernel
def bl : List Int → Nat → Option (Int × Nat)
  | [], _ => none
  | x :: t, i => if x % 2305843009213693952 = 2305843009213693951 then bl t (i + 1) else some (x % 2305843009213693952, i + 1)
theorem aEs : ∀ (t : List Int) (i : Nat) {v : Int} {p : Nat}, bl t i = some (v, p) → i < p ∧ p ≤ i + t.length ∧ 0 ≤ v ∧ v < 2305843009213693951
 | [], _, _, _, h => by cases h
 | x :: t, i, v, p, h => by
  unfold bl at h
  split at h
  ·
   obtain ⟨a, b, c⟩ := aEs t (i + 1) h
   simp only [List.length_cons]
   exact ⟨by omega, by omega, c⟩
  ·
   rename_i hx
   cases h
   simp only [List.length_cons]
   exact ⟨by omega, by omega, by omega, by omega⟩
def W64 (l : List Int) : Prop := ∀ x, x ∈ l → 0 ≤ x ∧ x < 18446744073709551616
theorem bI2 {x : Int} (h : 0 ≤ x ∧ x < 18446744073709551616) : aCi .u64 x 2305843009213693951 = x % 2305843009213693952 := by
 obtain ⟨a, rfl⟩ : ∃ a : Nat, x = (a : Int) := ⟨x.toNat, by omega⟩
 have := aWg a 2305843009213693951 (by omega) (by decide)
 rw [show ((2305843009213693951 : Nat) : Int) = 2305843009213693951 from rfl] at this
 rw [this]
 have e := Nat.and_two_pow_sub_one_eq_mod a 61
 rw [show (2 ^ 61 - 1 : Nat) = 2305843009213693951 from rfl, show (2 ^ 61 : Nat) = 2305843009213693952 from rfl] at e
 rw [e]; omega
section
variable {l : List Int} (hl : l.length < 10000000) (hw : W64 l)
include hl hw
theorem aIe (w : bC) (hL : w.List = l) (z : bC) : ∀ (m i : Nat), l.length < i + m → i ≤ l.length → pU m w z (i : Int) = some (match bl (l.drop i) i with | none => (0, w, 5) | some (v, p) => (v, ⟨l, (p : Int)⟩, 0))
 | 0, i, hm, hi => by omega
 | m + 1, i, hm, hi => by
  show aAe (pU m) w z (i : Int) = _
  unfold aAe
  rw [hL]
  by_cases c : i < l.length
  ·
   rw [bt (by simpa using c), cK c, aA, bI2 (hw _ (List.getElem_mem c)), dO c, wr1 i (by omega)]
   unfold bl
   by_cases q : l[i] % 2305843009213693952 = 2305843009213693951
   ·
    rw [bf (by simp; omega), if_pos q]
    exact aIe w hL z m (i + 1) (by omega) c
   ·
    rw [bt (by simp; omega), if_neg q]
  ·
   rw [bf (by simpa using c), List.drop_eq_nil_of_le (by omega)]; rfl
theorem aF5 {i : Nat} (hi : i ≤ l.length) : sE ⟨l, (i : Int)⟩ = some (match bl (l.drop i) i with | none => (0, ⟨l, (i : Int)⟩, 5) | some (v, p) => (v, ⟨l, (p : Int)⟩, 0)) := by
 have hFU := FU'
 unfold sE oF
 rw [aA, bf (by simp; omega)]
 exact aIe hl hw _ rfl _ bK i (by omega) hi
end
def hs (l : List Int) : Nat → Nat → Option (List bQ × Nat)
  | 0, i => some ([], i)
  | n + 1, i => (bl (l.drop i) i).bind fun a => (bl (l.drop a.2) a.2).bind fun b => (hs l n b.2).map fun r => (⟨a.1, b.1⟩ :: r.1, r.2)
theorem aPn (l : List Int) : ∀ n i {r : List bQ} {q : Nat}, hs l n i = some (r, q) → i ≤ l.length → r.length = n ∧ q ≤ l.length ∧ hsB r = true ∧ ∀ x, x ∈ r → 0 ≤ x.A ∧ 0 ≤ x.B
 | 0, i, r, q, h, hi => by cases h; exact ⟨rfl, hi, rfl, fun x hx => by cases hx⟩
 | n + 1, i, r, q, h, hi => by
  unfold hs at h
  cases ea : bl (l.drop i) i with
  | none => rw [ea] at h; cases h
  | some a =>
   rw [ea] at h
   simp only [Option.bind_some] at h
   obtain ⟨a1, a2, a3, a4⟩ := aEs _ _ (show bl (l.drop i) i = some (a.1, a.2) from ea)
   simp only [List.length_drop] at a2
   cases eb : bl (l.drop a.2) a.2 with
   | none => rw [eb] at h; cases h
   | some b =>
    rw [eb] at h
    simp only [Option.bind_some] at h
    obtain ⟨b1, b2, b3, b4⟩ := aEs _ _ (show bl (l.drop a.2) a.2 = some (b.1, b.2) from eb)
    simp only [List.length_drop] at b2
    cases eh : hs l n b.2 with
    | none => rw [eh] at h; cases h
    | some x =>
     rw [eh] at h
     cases h
     obtain ⟨c1, c2, c3, c4⟩ := aPn l n b.2 (show hs l n b.2 = some (x.1, x.2) from eh) (by omega)
     refine ⟨by simp [c1], c2, ?_, ?_⟩
     ·
      rw [aLj, c3]; simp [a4, b4]
     ·
      intro y hy
      rcases List.mem_cons.1 hy with rfl | hy
      ·
       exact ⟨a3, b3⟩
      ·
       exact c4 y hy
section
variable {l : List Int} (hl : l.length < 10000000) (hw : W64 l)
include hl hw
theorem aGa (w z : bC) (N : Nat) (hN : N ≤ 128) : ∀ (k m j i : Nat) (done : List bQ), j + k = N → k < m → done.length = j → i ≤ l.length →
 kP m w z (done ++ List.replicate k ⟨0, 0⟩) ⟨l, (i : Int)⟩ (N : Int) (j : Int) = some (match hs l k i with | none => ([], w, 5) | some (r, q) => (done ++ r, ⟨l, (q : Int)⟩, 0))
 | k, 0, j, i, done, _, hm, _, _ => by omega
 | 0, m + 1, j, i, done, hj, hm, hd, hi => by
  show mZ (kP m) w z _ _ _ _ = _
  unfold mZ
  rw [bf (by simp; omega)]
  rfl
 | k + 1, m + 1, j, i, done, hj, hm, hd, hi => by
  show mZ (kP m) w z _ _ _ _ = _
  unfold mZ
  rw [bt (by simp; omega), aF5 hl hw hi, aA]
  unfold hs
  cases ea : bl (l.drop i) i with
  | none => simp only [Option.bind_none]; rw [bt (by rfl)]
  | some a =>
   obtain ⟨a1, a2, a3, a4⟩ := aEs _ _ (show bl (l.drop i) i = some (a.1, a.2) from ea)
   simp only [List.length_drop] at a2
   simp only [Option.bind_some]
   rw [bf (by rfl), aF5 hl hw (by omega), aA]
   cases eb : bl (l.drop a.2) a.2 with
   | none => simp only [Option.bind_none]; rw [bt (by rfl)]
   | some b =>
    obtain ⟨b1, b2, b3, b4⟩ := aEs _ _ (show bl (l.drop a.2) a.2 = some (b.1, b.2) from eb)
    simp only [List.length_drop] at b2
    simp only [Option.bind_some]
    have hj' : j < (done ++ List.replicate (k + 1) (⟨0, 0⟩ : bQ)).length := by simp; omega
    have es : (done ++ List.replicate (k + 1) (⟨0, 0⟩ : bQ)).set j ⟨a.1, b.1⟩ = (done ++ [⟨a.1, b.1⟩]) ++ List.replicate k ⟨0, 0⟩ := by
     rw [List.replicate_succ, List.set_append_right _ _ (by omega), hd, Nat.sub_self]
     simp
    rw [bf (by rfl), cK hj', aA, jS hj', aA, wr1 j (by omega), es, aGa w z N hN k m (j + 1) b.2 _ (by omega) (by omega) (by simp [hd]) (by omega)]
    cases hs l k b.2 with
    | none => rfl
    | some x => simp
theorem aMl {n : Nat} (hn : n ≤ 128) {i : Nat} (hi : i ≤ l.length) : pF ⟨l, (i : Int)⟩ (n : Int) = some (match hs l n i with | none => ([], ⟨l, (i : Int)⟩, 5) | some (r, q) => (r, ⟨l, (q : Int)⟩, 0)) := by
 have hFU := FU'
 unfold pF oF
 rw [aA, bf (by simp; omega), aJj rfl (Int.le_refl _) (by omega), aA]
 have := aGa hl hw ⟨l, (i : Int)⟩ ⟨[], 0⟩ n hn n bK 0 i [] (by omega) (by omega) rfl hi
 simp only [List.nil_append] at this
 rw [List.length_replicate]
 exact this
end
structure SM (s : aD) : Prop where
  e : s.Graph.Edges.length < 1000000
  h : s.Graph.Hashes.length < 1000000
  v : s.Slots.length < 1000000
theorem bE7 {n : Nat} (h1 : 1 ≤ n) (h2 : n ≤ 1024) : VOK (List.replicate n ⟨false, 0⟩) := by
 refine ⟨by simpa using h1, by simpa using h2, fun s hs _ => ?_, fun i j k hi hj => ?_⟩
 ·
  rw [(List.mem_replicate.1 hs).2]
 ·
  unfold At at hi
  have := List.mem_of_getElem? hi
  have := (List.mem_replicate.1 this).2
  cases this
theorem aWs {c : aN} (h1 : 1 ≤ c.N ∧ c.N ≤ 1024 ∧ 1 ≤ c.L ∧ c.L ≤ 16 ∧ 1 ≤ c.R ∧ c.R ≤ 8) {r : List bQ} (h2 : (r.length : Int) = c.L * c.R) (h3 : hsB r = true) : grB ⟨c, r, []⟩ = true := by
 unfold grB cfB
 simp only [Bool.and_eq_true, decide_eq_true_eq]
 exact ⟨⟨h1.1, h1.2.1, h1.2.2.1, h1.2.2.2.1, h1.2.2.2.2.1, h1.2.2.2.2.2, h2⟩, h3, aCt.2 ⟨by omega, h1.2.1, ⟨List.Pairwise.nil, fun e he => by cases he⟩⟩, rfl, aCx.2 (cM.nil _)⟩
theorem bEq {c : aN} (h1 : 1 ≤ c.N ∧ c.N ≤ 1024 ∧ 1 ≤ c.L ∧ c.L ≤ 16 ∧ 1 ≤ c.R ∧ c.R ≤ 8) {r : List bQ} (h2 : (r.length : Int) = c.L * c.R) (h3 : hsB r = true) : SOK ⟨⟨c, r, []⟩, List.replicate c.N.toNat ⟨false, 0⟩⟩ :=
 ⟨aWs h1 h2 h3, bE7 (by omega) (by omega), by simp; omega, fun e he => by cases he⟩
def aHr (c : aN) : Prop := 1 ≤ c.N ∧ c.N ≤ 1024 ∧ 1 ≤ c.L ∧ c.L ≤ 16 ∧ 1 ≤ c.R ∧ c.R ≤ 8
theorem lr {c : aN} (h : aHr c) : ∃ n : Nat, c.L * c.R = (n : Int) ∧ n ≤ 128 := by
 obtain ⟨_, _, h1, h2, h3, h4⟩ := h
 have a : 0 ≤ c.L * c.R := Int.mul_nonneg (by omega) (by omega)
 have b : c.L * c.R ≤ 16 * 8 := Int.mul_le_mul h2 h4 (by omega) (by omega)
 exact ⟨(c.L * c.R).toNat, by omega, by omega⟩
def zst : aD := ⟨⟨⟨0, 0, 0⟩, [], []⟩, []⟩
theorem aSa {c : aN} {l : List Int} (hl : l.length < 10000000) (hw : W64 l) (at_ : Int) :
 (¬ aHr c → kA c ⟨l, at_⟩ = some (zst, ⟨l, at_⟩, 1)) ∧
 (aHr c → (¬ (0 ≤ at_ ∧ at_ ≤ l.length) → kA c ⟨l, at_⟩ = some (zst, ⟨l, at_⟩, 1) ∧ aD6 ⟨l, at_⟩ (c.L * c.R) = some ([], ⟨l, at_⟩, 1)) ∧
  ∀ i : Nat, at_ = (i : Int) → i ≤ l.length → (hs l (c.L * c.R).toNat i = none → kA c ⟨l, at_⟩ = some (zst, ⟨l, at_⟩, 5)) ∧
   ∀ r q, hs l (c.L * c.R).toNat i = some (r, q) → kA c ⟨l, at_⟩ = some (⟨⟨c, r, []⟩, List.replicate c.N.toNat ⟨false, 0⟩⟩, ⟨l, (q : Int)⟩, 0)) := by
 unfold kA
 refine ⟨fun h => ?_, fun h => ?_⟩
 ·
  rw [bt (by unfold aHr at h; simp; omega)]; rfl
 ·
  obtain ⟨n, hn, hn2⟩ := lr h
  have hb : (((((decide (c.N < 1) || decide (1024 < c.N)) || decide (c.L < 1)) || decide (16 < c.L)) || decide (c.R < 1)) || decide (8 < c.R)) = false := by unfold aHr at h; simp; omega
  rw [bf hb, hn, wr0 (by omega) (by omega)]
  refine ⟨fun ha => ?_, fun i hi hil => ?_⟩
  ·
   constructor
   ·
    unfold pF oF
    rw [aA, bt (by simp; omega)]
    simp only [aA]
    rw [bt (by rfl)]; rfl
   ·
    unfold aD6 zG
    rw [aA, bt (by simp; omega)]
  ·
   subst hi
   rw [aMl hl hw hn2 hil, aA, Int.toNat_natCast]
   refine ⟨fun e => ?_, fun r q e => ?_⟩
   ·
    rw [e]; simp only []; rw [bt (by rfl)]; rfl
   ·
    obtain ⟨c1, c2, c3, c4⟩ := aPn l n i e hil
    have g := aWs h (by rw [c1, hn]) c3
    rw [e]; simp only []
    rw [bf (by rfl), aQm c (by omega), g, if_pos rfl, aA]
    simp only []
    unfold aE7 mK
    have h' := h
    unfold aHr at h'
    have hs' : (decide (1 ≤ c.N) && decide (c.N ≤ 1024)) = true := by simp; omega
    rw [bf (by rfl), hs', aA, bf (by rfl), aJj (k := c.N.toNat) (by omega) (Int.le_refl _) (by omega), aA, aA]
    simp only []
    rw [bf (by rfl)]
theorem bSl {l : List Int} {P : Prop} (w : (∀ y, y ∈ l → (Lit.int .u64 y).wf = true) ∧ P) : W64 l := fun x hx => by
 have := w.1 x hx
 simp [Lit.wf, IntKind.min, IntKind.max, IntKind.signed, IntKind.bits] at this
 omega
end Go.Proofs.YtkdohhmacfoolaaGreat
