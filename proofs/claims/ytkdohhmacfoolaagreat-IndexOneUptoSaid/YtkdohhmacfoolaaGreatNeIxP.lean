/- Facts that the statement's proof is made of. No condition. -/
import Derived.Test.YtkdohhmacfoolaaGreatNeIxC
set_option linter.unusedVariables false
set_option linter.unusedSimpArgs false
set_option maxRecDepth 20000
set_option maxHeartbeats 1000000
namespace Go.Proofs.YtkdohhmacfoolaaGreat
open Go Go.AM Go.Pl Go.Pt Go.Ix
theorem aEi : jD = some true := by decide +kernel
def bl : List Int → Nat → Option (Int × Nat)
  | [], _ => none
  | x :: t, i => if x % 2305843009213693952 = 2305843009213693951 then bl t (i + 1) else some (x % 2305843009213693952, i + 1)
theorem aHr : ∀ (t : List Int) (i : Nat) {v : Int} {p : Nat}, bl t i = some (v, p) → i < p ∧ p ≤ i + t.length ∧ 0 ≤ v ∧ v < 2305843009213693951
 | [], _, _, _, h => by cases h
 | x :: t, i, v, p, h => by
  unfold bl at h
  split at h
  ·
   obtain ⟨a, b, c⟩ := aHr t (i + 1) h
   simp only [List.length_cons]
   exact ⟨by omega, by omega, c⟩
  ·
   rename_i hx
   cases h
   simp only [List.length_cons]
   exact ⟨by omega, by omega, by omega, by omega⟩
def W64 (l : List Int) : Prop := ∀ x, x ∈ l → 0 ≤ x ∧ x < 18446744073709551616
theorem bMp {x : Int} (h : 0 ≤ x ∧ x < 18446744073709551616) : aDa .u64 x 2305843009213693951 = x % 2305843009213693952 := by
 obtain ⟨a, rfl⟩ : ∃ a : Nat, x = (a : Int) := ⟨x.toNat, by omega⟩
 have := aZr a 2305843009213693951 (by omega) (by decide)
 rw [show ((2305843009213693951 : Nat) : Int) = 2305843009213693951 from rfl] at this
 rw [this]
 have e := Nat.and_two_pow_sub_one_eq_mod a 61
 rw [show (2 ^ 61 - 1 : Nat) = 2305843009213693951 from rfl, show (2 ^ 61 : Nat) = 2305843009213693952 from rfl] at e
 rw [e]; omega
section
variable {l : List Int} (hl : l.length < 10000000) (hw : W64 l)
include hl hw
theorem aJi (w : bD) (hL : w.List = l) (z : bD) : ∀ (m i : Nat), l.length < i + m → i ≤ l.length → qY m w z (i : Int) = some (match bl (l.drop i) i with | none => (0, w, 5) | some (v, p) => (v, ⟨l, (p : Int)⟩, 0))
 | 0, i, hm, hi => by omega
 | m + 1, i, hm, hi => by
  show aAy (qY m) w z (i : Int) = _
  unfold aAy
  rw [hL]
  by_cases c : i < l.length
  ·
   rw [bt (by simpa using c), bW c, aA, bMp (hw _ (List.getElem_mem c)), cR c, wr1 i (by omega)]
   unfold bl
   by_cases q : l[i] % 2305843009213693952 = 2305843009213693951
   ·
    rw [bf (by simp; omega), if_pos q]
    exact aJi w hL z m (i + 1) (by omega) c
   ·
    rw [bt (by simp; omega), if_neg q]
  ·
   rw [bf (by simpa using c), List.drop_eq_nil_of_le (by omega)]; rfl
theorem aHm {i : Nat} (hi : i ≤ l.length) : uI ⟨l, (i : Int)⟩ = some (match bl (l.drop i) i with | none => (0, ⟨l, (i : Int)⟩, 5) | some (v, p) => (v, ⟨l, (p : Int)⟩, 0)) := by
 have hFU := FU'
 unfold uI qL
 rw [aA, bf (by simp; omega)]
 exact aJi hl hw _ rfl _ bF i (by omega) hi
end
def hs (l : List Int) : Nat → Nat → Option (List bT × Nat)
  | 0, i => some ([], i)
  | n + 1, i => (bl (l.drop i) i).bind fun a => (bl (l.drop a.2) a.2).bind fun b => (hs l n b.2).map fun r => (⟨a.1, b.1⟩ :: r.1, r.2)
theorem aRm (l : List Int) : ∀ n i {r : List bT} {q : Nat}, hs l n i = some (r, q) → i ≤ l.length → r.length = n ∧ q ≤ l.length ∧ hsB r = true ∧ ∀ x, x ∈ r → 0 ≤ x.A ∧ 0 ≤ x.B
 | 0, i, r, q, h, hi => by cases h; exact ⟨rfl, hi, rfl, fun x hx => by cases hx⟩
 | n + 1, i, r, q, h, hi => by
  unfold hs at h
  cases ea : bl (l.drop i) i with
  | none => rw [ea] at h; cases h
  | some a =>
   rw [ea] at h
   simp only [Option.bind_some] at h
   obtain ⟨a1, a2, a3, a4⟩ := aHr _ _ (show bl (l.drop i) i = some (a.1, a.2) from ea)
   simp only [List.length_drop] at a2
   cases eb : bl (l.drop a.2) a.2 with
   | none => rw [eb] at h; cases h
   | some b =>
    rw [eb] at h
    simp only [Option.bind_some] at h
    obtain ⟨b1, b2, b3, b4⟩ := aHr _ _ (show bl (l.drop a.2) a.2 = some (b.1, b.2) from eb)
    simp only [List.length_drop] at b2
    cases eh : hs l n b.2 with
    | none => rw [eh] at h; cases h
    | some x =>
     rw [eh] at h
     cases h
     obtain ⟨c1, c2, c3, c4⟩ := aRm l n b.2 (show hs l n b.2 = some (x.1, x.2) from eh) (by omega)
     refine ⟨by simp [c1], c2, ?_, ?_⟩
     ·
      rw [aNu, c3]; simp [a4, b4]
     ·
      intro y hy
      rcases List.mem_cons.1 hy with rfl | hy
      ·
       exact ⟨a3, b3⟩
      ·
       exact c4 y hy
section
variable {l : List Int} (hl : l.length < 10000000) (hw : W64 l)
include hl hw
theorem aH7 (w z : bD) (N : Nat) (hN : N ≤ 128) : ∀ (k m j i : Nat) (done : List bT), j + k = N → k < m → done.length = j → i ≤ l.length →
 lE m w z (done ++ List.replicate k ⟨0, 0⟩) ⟨l, (i : Int)⟩ (N : Int) (j : Int) = some (match hs l k i with | none => ([], w, 5) | some (r, q) => (done ++ r, ⟨l, (q : Int)⟩, 0))
 | k, 0, j, i, done, _, hm, _, _ => by omega
 | 0, m + 1, j, i, done, hj, hm, hd, hi => by
  show oE (lE m) w z _ _ _ _ = _
  unfold oE
  rw [bf (by simp; omega)]
  rfl
 | k + 1, m + 1, j, i, done, hj, hm, hd, hi => by
  show oE (lE m) w z _ _ _ _ = _
  unfold oE
  rw [bt (by simp; omega), aHm hl hw hi, aA]
  unfold hs
  cases ea : bl (l.drop i) i with
  | none => simp only [Option.bind_none]; rw [bt (by rfl)]
  | some a =>
   obtain ⟨a1, a2, a3, a4⟩ := aHr _ _ (show bl (l.drop i) i = some (a.1, a.2) from ea)
   simp only [List.length_drop] at a2
   simp only [Option.bind_some]
   rw [bf (by rfl), aHm hl hw (by omega), aA]
   cases eb : bl (l.drop a.2) a.2 with
   | none => simp only [Option.bind_none]; rw [bt (by rfl)]
   | some b =>
    obtain ⟨b1, b2, b3, b4⟩ := aHr _ _ (show bl (l.drop a.2) a.2 = some (b.1, b.2) from eb)
    simp only [List.length_drop] at b2
    simp only [Option.bind_some]
    have hj' : j < (done ++ List.replicate (k + 1) (⟨0, 0⟩ : bT)).length := by simp; omega
    have es : (done ++ List.replicate (k + 1) (⟨0, 0⟩ : bT)).set j ⟨a.1, b.1⟩ = (done ++ [⟨a.1, b.1⟩]) ++ List.replicate k ⟨0, 0⟩ := by
     rw [List.replicate_succ, List.set_append_right _ _ (by omega), hd, Nat.sub_self]
     simp
    rw [bf (by rfl), bW hj', aA, iZ hj', aA, wr1 j (by omega), es, aH7 w z N hN k m (j + 1) b.2 _ (by omega) (by omega) (by simp [hd]) (by omega)]
    cases hs l k b.2 with
    | none => rfl
    | some x => simp
theorem aOj {n : Nat} (hn : n ≤ 128) {i : Nat} (hi : i ≤ l.length) : rE ⟨l, (i : Int)⟩ (n : Int) = some (match hs l n i with | none => ([], ⟨l, (i : Int)⟩, 5) | some (r, q) => (r, ⟨l, (q : Int)⟩, 0)) := by
 have hFU := FU'
 unfold rE qL
 rw [aA, bf (by simp; omega), aLd rfl (Int.le_refl _) (by omega), aA]
 have := aH7 hl hw ⟨l, (i : Int)⟩ ⟨[], 0⟩ n hn n bF 0 i [] (by omega) (by omega) rfl hi
 simp only [List.nil_append] at this
 rw [List.length_replicate]
 exact this
end
structure SM (s : aE) : Prop where
  e : s.Graph.Edges.length < 1000000
  h : s.Graph.Hashes.length < 1000000
  v : s.Slots.length < 1000000
theorem bKt {n : Nat} (h1 : 1 ≤ n) (h2 : n ≤ 1024) : VOK (List.replicate n ⟨false, 0⟩) := by
 refine ⟨by simpa using h1, by simpa using h2, fun s hs _ => ?_, fun i j k hi hj => ?_⟩
 ·
  rw [(List.mem_replicate.1 hs).2]
 ·
  unfold At at hi
  have := List.mem_of_getElem? hi
  have := (List.mem_replicate.1 this).2
  cases this
theorem aYw {c : aO} (h1 : 1 ≤ c.N ∧ c.N ≤ 1024 ∧ 1 ≤ c.L ∧ c.L ≤ 16 ∧ 1 ≤ c.R ∧ c.R ≤ 8) {r : List bT} (h2 : (r.length : Int) = c.L * c.R) (h3 : hsB r = true) : grB ⟨c, r, []⟩ = true := by
 unfold grB cfB
 simp only [Bool.and_eq_true, decide_eq_true_eq]
 exact ⟨⟨h1.1, h1.2.1, h1.2.2.1, h1.2.2.2.1, h1.2.2.2.2.1, h1.2.2.2.2.2, h2⟩, h3, aEc.2 ⟨by omega, h1.2.1, ⟨List.Pairwise.nil, fun e he => by cases he⟩⟩, rfl, aDy.2 (cT.nil _)⟩
theorem bLf {c : aO} (h1 : 1 ≤ c.N ∧ c.N ≤ 1024 ∧ 1 ≤ c.L ∧ c.L ≤ 16 ∧ 1 ≤ c.R ∧ c.R ≤ 8) {r : List bT} (h2 : (r.length : Int) = c.L * c.R) (h3 : hsB r = true) : SOK ⟨⟨c, r, []⟩, List.replicate c.N.toNat ⟨false, 0⟩⟩ :=
 ⟨aYw h1 h2 h3, bKt (by omega) (by omega), by simp; omega, fun e he => by cases he⟩
def aJ9 (c : aO) : Prop := 1 ≤ c.N ∧ c.N ≤ 1024 ∧ 1 ≤ c.L ∧ c.L ≤ 16 ∧ 1 ≤ c.R ∧ c.R ≤ 8
theorem lr {c : aO} (h : aJ9 c) : ∃ n : Nat, c.L * c.R = (n : Int) ∧ n ≤ 128 := by
 obtain ⟨_, _, h1, h2, h3, h4⟩ := h
 have a : 0 ≤ c.L * c.R := Int.mul_nonneg (by omega) (by omega)
 have b : c.L * c.R ≤ 16 * 8 := Int.mul_le_mul h2 h4 (by omega) (by omega)
 exact ⟨(c.L * c.R).toNat, by omega, by omega⟩
def zst : aE := ⟨⟨⟨0, 0, 0⟩, [], []⟩, []⟩
theorem aTu {c : aO} {l : List Int} (hl : l.length < 10000000) (hw : W64 l) (at_ : Int) :
 (¬ aJ9 c → jQ c ⟨l, at_⟩ = some (zst, ⟨l, at_⟩, 1)) ∧
 (aJ9 c → (¬ (0 ≤ at_ ∧ at_ ≤ l.length) → jQ c ⟨l, at_⟩ = some (zst, ⟨l, at_⟩, 1) ∧ aEv ⟨l, at_⟩ (c.L * c.R) = some ([], ⟨l, at_⟩, 1)) ∧
  ∀ i : Nat, at_ = (i : Int) → i ≤ l.length → (hs l (c.L * c.R).toNat i = none → jQ c ⟨l, at_⟩ = some (zst, ⟨l, at_⟩, 5)) ∧
   ∀ r q, hs l (c.L * c.R).toNat i = some (r, q) → jQ c ⟨l, at_⟩ = some (⟨⟨c, r, []⟩, List.replicate c.N.toNat ⟨false, 0⟩⟩, ⟨l, (q : Int)⟩, 0)) := by
 unfold jQ
 refine ⟨fun h => ?_, fun h => ?_⟩
 ·
  rw [bt (by unfold aJ9 at h; simp; omega)]; rfl
 ·
  obtain ⟨n, hn, hn2⟩ := lr h
  have hb : (((((decide (c.N < 1) || decide (1024 < c.N)) || decide (c.L < 1)) || decide (16 < c.L)) || decide (c.R < 1)) || decide (8 < c.R)) = false := by unfold aJ9 at h; simp; omega
  rw [bf hb, hn, wr0 (by omega) (by omega)]
  refine ⟨fun ha => ?_, fun i hi hil => ?_⟩
  ·
   constructor
   ·
    unfold rE qL
    rw [aA, bt (by simp; omega)]
    simp only [aA]
    rw [bt (by rfl)]; rfl
   ·
    unfold aEv aB3
    rw [aA, bt (by simp; omega)]
  ·
   subst hi
   rw [aOj hl hw hn2 hil, aA, Int.toNat_natCast]
   refine ⟨fun e => ?_, fun r q e => ?_⟩
   ·
    rw [e]; simp only []; rw [bt (by rfl)]; rfl
   ·
    obtain ⟨c1, c2, c3, c4⟩ := aRm l n i e hil
    have g := aYw h (by rw [c1, hn]) c3
    rw [e]; simp only []
    rw [bf (by rfl), aTi c (by omega), g, if_pos rfl, aA]
    simp only []
    unfold aG5 mX
    have h' := h
    unfold aJ9 at h'
    have hs' : (decide (1 ≤ c.N) && decide (c.N ≤ 1024)) = true := by simp; omega
    rw [bf (by rfl), hs', aA, bf (by rfl), aLd (k := c.N.toNat) (by omega) (Int.le_refl _) (by omega), aA, aA]
    simp only []
    rw [bf (by rfl)]
theorem bM5 {l : List Int} {P : Prop} (w : (∀ y, y ∈ l → (Lit.int .u64 y).wf = true) ∧ P) : W64 l := fun x hx => by
 have := w.1 x hx
 simp [Lit.wf, IntKind.min, IntKind.max, IntKind.signed, IntKind.bits] at this
 omega
end Go.Proofs.YtkdohhmacfoolaaGreat
set_option linter.unusedVariables false
set_option linter.unusedSimpArgs false
set_option maxRecDepth 20000
set_option maxHeartbeats 1000000
namespace Go.Proofs.YtkdohhmacfoolaaGreat
open Go Go.AM Go.Pl Go.Pt Go.Ix
theorem aJc (l : List Int) (k : Int) (hl : l.length < 1000000) : ∀ (m i : Nat), l.length < i + m → i ≤ l.length →
 ∃ v, rO m l k (i : Int) = some v ∧ ((k ∉ l.drop i ∧ v = -1) ∨ ∃ j : Nat, v = (j : Int) ∧ l[j]? = some k)
 | 0, i, hm, hi => by omega
 | m + 1, i, hm, hi => by
  show ∃ v, aBf (rO m) l k (i : Int) = some v ∧ _
  unfold aBf
  by_cases c : i < l.length
  ·
   rw [bt (by simpa using c), bW c, aA, cR c, wr1 i (by omega)]
   by_cases q : l[i] = k
   ·
    rw [bt (by simp [q])]
    exact ⟨_, rfl, .inr ⟨i, rfl, by rw [List.getElem?_eq_getElem c, q]⟩⟩
   ·
    rw [bf (by simp [q])]
    obtain ⟨v, h1, h2⟩ := aJc l k hl m (i + 1) (by omega) c
    refine ⟨v, h1, ?_⟩
    rcases h2 with ⟨h2, h3⟩ | h2
    ·
     exact .inl ⟨fun h => (List.mem_cons.1 h).elim (fun e => q e.symm) h2, h3⟩
    ·
     exact .inr h2
  ·
   rw [bf (by simpa using c), List.drop_eq_nil_of_le (by omega)]
   exact ⟨_, rfl, .inl ⟨by simp, rfl⟩⟩
theorem kN {l : List Int} (k : Int) (hl : l.length < 1000000) : ∃ v, tJ l k = some v ∧ ((k ∉ l ∧ v = -1) ∨ ∃ j : Nat, v = (j : Int) ∧ l[j]? = some k) := by
 have hFU := FU'
 exact aJc l k hl bF 0 (by omega) (Nat.zero_le _)
def pr2 (a b : Int) : aI := if b < a then ⟨b, a⟩ else ⟨a, b⟩
theorem aHx (a b : Int) : uA a b = some (pr2 a b) := by
 unfold uA pr2
 by_cases c : b < a
 ·
  rw [bt (by simpa using c), if_pos c]; rfl
 ·
  rw [bf (by simpa using c), if_neg c]; rfl
theorem aHb (a b : Int) : pr2 a b = pr2 b a := by
 unfold pr2
 by_cases c : b < a
 ·
  rw [if_pos c, if_neg (by omega)]
 ·
  by_cases d : a < b
  ·
   rw [if_neg c, if_pos d]
  ·
   have : a = b := by omega
   rw [this]
theorem aZf {a b c d : Int} (h : pr2 a b = pr2 c d) : (a = c ∧ b = d) ∨ (a = d ∧ b = c) := by
 unfold pr2 at h
 split at h <;> split at h <;> (injection h with h1 h2; omega)
theorem aXe (p q : aI) : aNs p q = decide (p = q) := by
 cases p with | mk a b => cases q with | mk c d =>
 unfold aNs
 by_cases h1 : a = c <;> by_cases h2 : b = d <;> simp [h1, h2]
theorem aPf (l : List aI) (k : aI) (hl : l.length < 1000000) : ∀ (m i : Nat), l.length < i + m → i ≤ l.length →
 ∃ v, xN m l k (i : Int) = some v ∧ ((k ∉ l.drop i ∧ v = -1) ∨ ∃ j : Nat, v = (j : Int) ∧ l[j]? = some k)
 | 0, i, hm, hi => by omega
 | m + 1, i, hm, hi => by
  show ∃ v, aFa (xN m) l k (i : Int) = some v ∧ _
  unfold aFa
  by_cases c : i < l.length
  ·
   rw [bt (by simpa using c), bW c, aA, cR c, wr1 i (by omega), aXe]
   by_cases q : l[i] = k
   ·
    rw [bt (by simp [q])]
    exact ⟨_, rfl, .inr ⟨i, rfl, by rw [List.getElem?_eq_getElem c, q]⟩⟩
   ·
    rw [bf (by simp [q])]
    obtain ⟨v, h1, h2⟩ := aPf l k hl m (i + 1) (by omega) c
    refine ⟨v, h1, ?_⟩
    rcases h2 with ⟨h2, h3⟩ | h2
    ·
     exact .inl ⟨fun h => (List.mem_cons.1 h).elim (fun e => q e.symm) h2, h3⟩
    ·
     exact .inr h2
  ·
   rw [bf (by simpa using c), List.drop_eq_nil_of_le (by omega)]
   exact ⟨_, rfl, .inl ⟨by simp, rfl⟩⟩
theorem aMu {l : List aI} (k : aI) (hl : l.length < 1000000) : ∃ v, aA5 l k = some v ∧ ((k ∉ l ∧ v = -1) ∨ ∃ j : Nat, v = (j : Int) ∧ l[j]? = some k) := by
 have hFU := FU'
 exact aPf l k hl bF 0 (by omega) (Nat.zero_le _)
theorem aTd {m : aC} (a b : Int) (hl : m.Pairs.length < 1000000) : aAt m a b = some (decide (pr2 a b ∈ m.Pairs)) := by
 obtain ⟨v, h1, h2⟩ := aMu (pr2 a b) hl
 unfold aAt
 rw [aHx, aA, h1, aA]
 rcases h2 with ⟨h2, rfl⟩ | ⟨j, rfl, h2⟩
 ·
  simp [h2]
 ·
  simp [List.mem_of_getElem? h2]
def touch (a : Int) (p : aI) : Bool := p.x0 == a || p.x1 == a
def bBe (a : Int) (p : aI) : Int := IntKind.u64.wrap (IntKind.u64.wrap (p.x0 + p.x1) - a)
theorem aZs {a : Int} {p : aI} (h0 : 0 ≤ p.x0 ∧ p.x0 < 18446744073709551616) (h1 : 0 ≤ p.x1 ∧ p.x1 < 18446744073709551616) : (p.x0 = a → bBe a p = p.x1) ∧ (p.x1 = a → bBe a p = p.x0) := by
 unfold bBe
 rw [IntKind.wrap_u64, IntKind.wrap_u64]
 omega
def uH (l : List aI) (a : Int) : List Int := aLy ((l.filter (touch a)).map (bBe a))
theorem aP2 : ∀ (l out : List Int), (l.foldl (fun out x => pZ x out) out).length = l.length + out.length
 | [], out => by simp
 | x :: l, out => by rw [List.foldl_cons, aP2 l, wJ, List.length_cons]; omega
theorem aGy (l : List Int) : (aLy l).length = l.length := by unfold aLy; rw [aP2]; simp
theorem aPp (l : List aI) (a : Int) : (uH l a).length = (l.filter (touch a)).length := by unfold uH; rw [aGy, List.length_map]
theorem aC1 (rec1 : Int → aC → List Int → Int → Option (List Int)) (a : Int) (mm : aC) (out : List Int) (ho : out.length < 1000000) (i other : Int) : ∀ (m k : Nat), out.length < k + m → k ≤ out.length → (∀ j y, j < k → out[j]? = some y → y < other) →
 rT rec1 m a mm out i other (k : Int) = rec1 a mm (pZ other out) (IntKind.i64.wrap (i + 1))
 | 0, k, hm, hk, _ => by omega
 | m + 1, k, hm, hk, hp => by
  show aAl rec1 (rT rec1 m) _ _ _ _ _ _ = _
  unfold aAl rN
  by_cases c : k < out.length
  ·
   rw [gt' (by simpa using c), bW c, aA]
   by_cases q : out[k] < other
   ·
    rw [bt (by simp; omega), wr1 k (by omega)]
    exact aC1 rec1 a mm out ho i other m (k + 1) (by omega) c fun j y hj hy => by
     rcases Nat.lt_or_ge j k with w | w
     ·
      exact hp j y w hy
     ·
      have : j = k := by omega
      subst this; rw [List.getElem?_eq_getElem c] at hy; cases hy; exact q
   ·
    rw [bf (by simp; omega), uJ rfl hk, aA, dY (by simp; omega), aA, dY (by simp; omega), aA, mH rfl hk, aA, dY (by simp; omega), aA]
    rw [aHw hk hp fun y hy => by rw [List.getElem?_eq_getElem c] at hy; cases hy; exact q]
    simp
  ·
   rw [gf' (by simpa using c), aA, bf (by simp; omega), uJ rfl hk, aA, dY (by simp; omega), aA, dY (by simp; omega), aA, mH rfl hk, aA, dY (by simp; omega), aA]
   rw [aHw hk hp fun y hy => by rw [List.getElem?_eq_none (by omega)] at hy; cases hy]
   simp
theorem aCd (a : Int) (mm : aC) (hl : mm.Pairs.length < 100000) : ∀ (m i : Nat) (out : List Int), mm.Pairs.length < i + m → i ≤ mm.Pairs.length → out.length ≤ i →
 jA m a mm out (i : Int) = some ((((mm.Pairs.drop i).filter (touch a)).map (bBe a)).foldl (fun out x => pZ x out) out)
 | 0, i, out, hm, hi, _ => by omega
 | m + 1, i, out, hm, hi, ho => by
  have hFU := FU'
  show aBs (jA m) _ _ _ _ = _
  unfold aBs
  by_cases c : i < mm.Pairs.length
  ·
   rw [bt (by simpa using c), bW c, aA, cR c, List.filter_cons]
   cases q : touch a mm.Pairs[i] with
   | true =>
    have e : (mm.Pairs[i].x0 != a && mm.Pairs[i].x1 != a) = false := by unfold touch at q; simp at q; simp; omega
    rw [bf e, if_pos rfl]
    have := aC1 (jA m) a mm out (by omega) (i : Int) (bBe a mm.Pairs[i]) bF 0 (by omega) (Nat.zero_le _) (fun j y hj => by omega)
    rw [wr1 i (by omega), aCd a mm hl m (i + 1) _ (by omega) c (by rw [wJ]; omega)] at this
    exact this
   | false =>
    have e : (mm.Pairs[i].x0 != a && mm.Pairs[i].x1 != a) = true := by unfold touch at q; simp at q; simp; omega
    rw [bt e, if_neg (by simp)]
    unfold rN
    rw [wr1 i (by omega)]
    exact aCd a mm hl m (i + 1) out (by omega) c (by omega)
  ·
   rw [bf (by simpa using c), List.drop_eq_nil_of_le (by omega)]; rfl
theorem aGt {m : aC} (hl : m.Pairs.length < 100000) (a : Int) : yB m a = some (uH m.Pairs a) := by
 have hFU := FU'
 exact aCd a m hl bF 0 [] (by omega) (Nat.zero_le _) (Nat.le_refl _)
def aDn (l : List aD) (v : Int) : List Int := l.filterMap fun e => if v = e.U then some e.V else if v = e.V then some e.U else none
theorem yR (l : List aD) (hl : l.length < 100000) (v : Int) : ∀ (m i : Nat) (out : List Int), l.length < i + m → i ≤ l.length → out.length ≤ i → nD m v out l (l.length : Int) (i : Int) = some (out ++ aDn (l.drop i) v)
 | 0, i, out, hm, hi, _ => by omega
 | m + 1, i, out, hm, hi, ho => by
  show aBa (nD m) _ _ _ _ _ = _
  unfold aBa qU
  by_cases c : i < l.length
  ·
   rw [bt (by simpa using c), bW c, aA, cR c, wr1 i (by omega)]
   unfold aDn
   rw [List.filterMap_cons]
   by_cases q : v = l[i].U
   ·
    rw [bt (by simpa using q), dY (by simp; omega), aA, if_pos q, yR l hl v m (i + 1) _ (by omega) c (by simp; omega)]
    simp [aDn]
   ·
    by_cases q2 : v = l[i].V
    ·
     rw [bf (by simpa using q), bt (by simpa using q2), dY (by simp; omega), aA, if_neg q, if_pos q2, yR l hl v m (i + 1) _ (by omega) c (by simp; omega)]
     simp [aDn]
    ·
     rw [bf (by simpa using q), bf (by simpa using q2), if_neg q, if_neg q2, yR l hl v m (i + 1) _ (by omega) c (by omega)]
     simp [aDn]
  ·
   rw [bf (by simpa using c), List.drop_eq_nil_of_le (by omega)]; simp [aDn]
theorem aS7 {s : aE} (hg : grB s.Graph = true) (hl : s.Graph.Edges.length < 100000) {v : Int} (h0 : 0 ≤ v) (h1 : v < s.Graph.Config.N) : tN s v = some (aDn s.Graph.Edges v) := by
 have hFU := FU'
 have k := gok hg
 unfold tN aC9 eW
 rw [jO (by omega), aA, k.tr, gt' (by rfl), aA, bf (by simp; omega)]
 have := yR s.Graph.Edges hl v bF 0 [] (by omega) (Nat.zero_le _) (Nat.le_refl _)
 rw [show (0 : Int) = ((0 : Nat) : Int) from rfl, this]; rfl
end Go.Proofs.YtkdohhmacfoolaaGreat
