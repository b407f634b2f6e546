/- Facts that the statement's proof is made of. No condition. -/
import Derived.Test.YtkdohhmacfoolaaGreatNbIxC
set_option linter.unusedVariables false
set_option linter.unusedSimpArgs false
set_option maxRecDepth 20000
set_option maxHeartbeats 1000000
namespace Go.Proofs.YtkdohhmacfoolaaGreat
open Go Go.AM Go.Pl Go.Pt Go.Ix
theorem aBn : iS = some true := by decide +kernel
def bl : List Int → Nat → Option (Int × Nat)
  | [], _ => none
  | x :: t, i => if x % 2305843009213693952 = 2305843009213693951 then bl t (i + 1) else some (x % 2305843009213693952, i + 1)
theorem yW : ∀ (t : List Int) (i : Nat) {v : Int} {p : Nat}, bl t i = some (v, p) → i < p ∧ p ≤ i + t.length ∧ 0 ≤ v ∧ v < 2305843009213693951
  | [], _, _, _, h => by cases h
  | x :: t, i, v, p, h => by
    unfold bl at h
    split at h
    · obtain ⟨a, b, c⟩ := yW t (i + 1) h
      simp only [List.length_cons]
      exact ⟨by omega, by omega, c⟩
    · rename_i hx
      cases h
      simp only [List.length_cons]
      exact ⟨by omega, by omega, by omega, by omega⟩
def W64 (l : List Int) : Prop := ∀ x, x ∈ l → 0 ≤ x ∧ x < 18446744073709551616
theorem aZq {x : Int} (h : 0 ≤ x ∧ x < 18446744073709551616) : zK .u64 x 2305843009213693951 = x % 2305843009213693952 := by
  obtain ⟨a, rfl⟩ : ∃ a : Nat, x = (a : Int) := ⟨x.toNat, by omega⟩
  have := bE2 a 2305843009213693951 (by omega) (by decide)
  rw [show ((2305843009213693951 : Nat) : Int) = 2305843009213693951 from rfl] at this
  rw [this]
  have e := Nat.and_two_pow_sub_one_eq_mod a 61
  rw [show (2 ^ 61 - 1 : Nat) = 2305843009213693951 from rfl, show (2 ^ 61 : Nat) = 2305843009213693952 from rfl] at e
  rw [e]; omega
section
variable {l : List Int} (hl : l.length < 1000000) (hw : W64 l)
include hl hw
theorem aDf (w : bH) (hL : w.List = l) (z : bH) : ∀ (m i : Nat), l.length < i + m → i ≤ l.length → lF m w z (i : Int) = some (match bl (l.drop i) i with | none => (0, w, 5) | some (v, p) => (v, ⟨l, (p : Int)⟩, 0))
  | 0, i, hm, hi => by omega
  | m + 1, i, hm, hi => by
    show nB (lF m) w z (i : Int) = _
    unfold nB
    rw [hL]
    by_cases c : i < l.length
    · rw [bt (by simpa using c), fJ c, aB, aZq (hw _ (List.getElem_mem c)), gF c, wr1 i (by omega)]
      unfold bl
      by_cases q : l[i] % 2305843009213693952 = 2305843009213693951
      · rw [bf (by simp; omega), if_pos q]
        exact aDf w hL z m (i + 1) (by omega) c
      · rw [bt (by simp; omega), if_neg q]
    · rw [bf (by simpa using c), List.drop_eq_nil_of_le (by omega)]; rfl
theorem aC4 (w : aH) (hL : w.List = l) (z : aH) : ∀ (m i : Nat), l.length < i + m → i ≤ l.length → jP m w z (i : Int) = some (match bl (l.drop i) i with | none => (0, w, 5) | some (v, p) => (v, ⟨l, (p : Int)⟩, 0))
  | 0, i, hm, hi => by omega
  | m + 1, i, hm, hi => by
    show lQ (jP m) w z (i : Int) = _
    unfold lQ
    rw [hL]
    by_cases c : i < l.length
    · have e : Int.tmod l[i] 2305843009213693952 = l[i] % 2305843009213693952 := Int.tmod_eq_emod_of_nonneg (hw _ (List.getElem_mem c)).1
      rw [bt (by simpa using c), fJ c, aB, e, gF c, wr1 i (by omega)]
      unfold bl
      by_cases q : l[i] % 2305843009213693952 = 2305843009213693951
      · rw [bf (by simp [q]), if_pos q]
        exact aC4 w hL z m (i + 1) (by omega) c
      · rw [bt (by simp [q]), if_neg q]
    · rw [bf (by simpa using c), List.drop_eq_nil_of_le (by omega)]; rfl
theorem aC7 {i : Nat} (hi : i ≤ l.length) : mK ⟨l, (i : Int)⟩ = some (match bl (l.drop i) i with | none => (0, ⟨l, (i : Int)⟩, 5) | some (v, p) => (v, ⟨l, (p : Int)⟩, 0)) := by
  have hFU := FU'
  unfold mK kH
  rw [aB, bf (by simp; omega)]
  exact aDf hl hw _ rfl _ bY i (by omega) hi
theorem aH0 {i : Nat} (hi : i ≤ l.length) : nJ ⟨l, (i : Int)⟩ = some (match bl (l.drop i) i with | none => (0, ⟨l, (i : Int)⟩, 5) | some (v, p) => (v, ⟨l, (p : Int)⟩, 0)) := by
  have hFU := FU'
  unfold nJ iX
  rw [aB, bf (by simp; omega)]
  exact aC4 hl hw _ rfl _ bY i (by omega) hi
end
def hs (l : List Int) : Nat → Nat → Option (List cC × Nat)
  | 0, i => some ([], i)
  | n + 1, i => (bl (l.drop i) i).bind fun a => (bl (l.drop a.2) a.2).bind fun b => (hs l n b.2).map fun r => (⟨a.1, b.1⟩ :: r.1, r.2)
def dr (l : List Int) : Nat → Nat → Option (List Int × Nat)
  | 0, i => some ([], i)
  | n + 1, i => (bl (l.drop i) i).bind fun a => (dr l n a.2).map fun r => (a.1 :: r.1, r.2)
def flat (h : List cC) : List Int := h.flatMap fun x => [x.A, x.B]
theorem aYx (l : List Int) : ∀ n i, dr l (2 * n) i = (hs l n i).map fun r => (flat r.1, r.2)
  | 0, i => rfl
  | n + 1, i => by
    show dr l (2 * n + 1 + 1) i = _
    unfold dr hs
    cases bl (l.drop i) i with
    | none => rfl
    | some a =>
      simp only [Option.bind_some]
      unfold dr
      cases bl (l.drop a.2) a.2 with
      | none => rfl
      | some b =>
        simp only [Option.bind_some]
        rw [aYx l n b.2]
        cases hs l n b.2 <;> rfl
theorem aEo (l : List Int) : ∀ n i {r : List cC} {q : Nat}, hs l n i = some (r, q) → i ≤ l.length → r.length = n ∧ q ≤ l.length ∧ hsB r = true ∧ ∀ x, x ∈ r → 0 ≤ x.A ∧ 0 ≤ x.B
  | 0, i, r, q, h, hi => by cases h; exact ⟨rfl, hi, rfl, fun x hx => by cases hx⟩
  | n + 1, i, r, q, h, hi => by
    unfold hs at h
    cases ea : bl (l.drop i) i with
    | none => rw [ea] at h; cases h
    | some a =>
      rw [ea] at h
      simp only [Option.bind_some] at h
      obtain ⟨a1, a2, a3, a4⟩ := yW _ _ (show bl (l.drop i) i = some (a.1, a.2) from ea)
      simp only [List.length_drop] at a2
      cases eb : bl (l.drop a.2) a.2 with
      | none => rw [eb] at h; cases h
      | some b =>
        rw [eb] at h
        simp only [Option.bind_some] at h
        obtain ⟨b1, b2, b3, b4⟩ := yW _ _ (show bl (l.drop a.2) a.2 = some (b.1, b.2) from eb)
        simp only [List.length_drop] at b2
        cases eh : hs l n b.2 with
        | none => rw [eh] at h; cases h
        | some x =>
          rw [eh] at h
          cases h
          obtain ⟨c1, c2, c3, c4⟩ := aEo l n b.2 (show hs l n b.2 = some (x.1, x.2) from eh) (by omega)
          refine ⟨by simp [c1], c2, ?_, ?_⟩
          · rw [aFi, c3]; simp [a4, b4]
          · intro y hy
            rcases List.mem_cons.1 hy with rfl | hy
            · exact ⟨a3, b3⟩
            · exact c4 y hy
section
variable {l : List Int} (hl : l.length < 1000000) (hw : W64 l)
include hl hw
theorem aBe (w z : bH) (N : Nat) (hN : N ≤ 128) : ∀ (k m j i : Nat) (done : List cC), j + k = N → k < m → done.length = j → i ≤ l.length →
    gX m w z (done ++ List.replicate k ⟨0, 0⟩) ⟨l, (i : Int)⟩ (N : Int) (j : Int) = some (match hs l k i with | none => ([], w, 5) | some (r, q) => (done ++ r, ⟨l, (q : Int)⟩, 0))
  | k, 0, j, i, done, _, hm, _, _ => by omega
  | 0, m + 1, j, i, done, hj, hm, hd, hi => by
    show hS (gX m) w z _ _ _ _ = _
    unfold hS
    rw [bf (by simp; omega)]
    rfl
  | k + 1, m + 1, j, i, done, hj, hm, hd, hi => by
    show hS (gX m) w z _ _ _ _ = _
    unfold hS
    rw [bt (by simp; omega), aC7 hl hw hi, aB]
    unfold hs
    cases ea : bl (l.drop i) i with
    | none => simp only [Option.bind_none]; rw [bt (by rfl)]
    | some a =>
      obtain ⟨a1, a2, a3, a4⟩ := yW _ _ (show bl (l.drop i) i = some (a.1, a.2) from ea)
      simp only [List.length_drop] at a2
      simp only [Option.bind_some]
      rw [bf (by rfl), aC7 hl hw (by omega), aB]
      cases eb : bl (l.drop a.2) a.2 with
      | none => simp only [Option.bind_none]; rw [bt (by rfl)]
      | some b =>
        obtain ⟨b1, b2, b3, b4⟩ := yW _ _ (show bl (l.drop a.2) a.2 = some (b.1, b.2) from eb)
        simp only [List.length_drop] at b2
        simp only [Option.bind_some]
        have hj' : j < (done ++ List.replicate (k + 1) (⟨0, 0⟩ : cC)).length := by simp; omega
        have es : (done ++ List.replicate (k + 1) (⟨0, 0⟩ : cC)).set j ⟨a.1, b.1⟩ = (done ++ [⟨a.1, b.1⟩]) ++ List.replicate k ⟨0, 0⟩ := by
          rw [List.replicate_succ, List.set_append_right _ _ (by omega), hd, Nat.sub_self]
          simp
        rw [bf (by rfl), fJ hj', aB, zA hj', aB, wr1 j (by omega), es, aBe w z N hN k m (j + 1) b.2 _ (by omega) (by omega) (by simp [hd]) (by omega)]
        cases hs l k b.2 with
        | none => rfl
        | some x => simp
theorem aGz {n : Nat} (hn : n ≤ 128) {i : Nat} (hi : i ≤ l.length) : lI ⟨l, (i : Int)⟩ (n : Int) = some (match hs l n i with | none => ([], ⟨l, (i : Int)⟩, 5) | some (r, q) => (r, ⟨l, (q : Int)⟩, 0)) := by
  have hFU := FU'
  unfold lI kH
  rw [aB, bf (by simp; omega), aP8 rfl (Int.le_refl _) (by omega), aB]
  have := aBe hl hw ⟨l, (i : Int)⟩ ⟨[], 0⟩ n hn n bY 0 i [] (by omega) (by omega) rfl hi
  simp only [List.nil_append] at this
  rw [List.length_replicate]
  exact this
omit hl hw in
theorem sP (z v : aH) (h : List cC) (hh : h.length ≤ 128) : ∀ (m j : Nat), h.length < j + m → j ≤ h.length → gI m (h.length : Int) z (flat h) v (h.take j) (j : Int) = some (h, v, 0)
  | 0, j, hm, hj => by omega
  | m + 1, j, hm, hj => by
    show kP (gI m) _ _ _ _ _ _ = _
    unfold kP
    by_cases c : j < h.length
    · have g : ∀ (h : List cC) (j : Nat) (c : j < h.length), (flat h)[2 * j]? = some h[j].A ∧ (flat h)[2 * j + 1]? = some h[j].B := by
        intro h
        induction h with
        | nil => intro j c; simp at c
        | cons x t ih =>
          intro j c
          cases j with
          | zero => exact ⟨rfl, rfl⟩
          | succ j =>
            have c' : j < t.length := by simpa using c
            obtain ⟨u, v⟩ := ih j c'
            exact ⟨by show (x.A :: x.B :: flat t)[2 * j + 1 + 1]? = _; simpa using u, by show (x.A :: x.B :: flat t)[2 * j + 1 + 1 + 1]? = _; simpa using v⟩
      obtain ⟨g1, g2⟩ := g h j c
      have e1 : IntKind.i64.wrap (2 * (j : Int)) = ((2 * j : Nat) : Int) := by rw [wr0 (by omega) (by omega)]; omega
      rw [bt (by simpa using c), e1, wr1 (2 * j) (by omega), oP, oP, g1, g2, aB, aB, aJ4 (by simp; omega), aB, wr1 j (by omega)]
      rw [show h.take j ++ [⟨h[j].A, h[j].B⟩] = h.take (j + 1) from (aHp c).symm]
      exact sP z v h hh m (j + 1) (by omega) c
    · rw [bf (by simpa using c), show j = h.length by omega, List.take_length]
theorem zW (w z : aH) (N : Nat) (hN : N ≤ 128) : ∀ (k m i : Nat) (all : List Int), all.length + k = 2 * N → k < m → i ≤ l.length →
    gM m (N : Int) w z all ⟨l, (i : Int)⟩ = (match dr l k i with | none => some ([], w, 5) | some (r, q) => gI bY (N : Int) z (all ++ r) ⟨l, (q : Int)⟩ [] 0)
  | k, 0, i, all, _, hm, _ => by omega
  | 0, m + 1, i, all, hj, hm, hi => by
    show gN (gM m) _ _ _ _ _ = _
    unfold gN
    rw [wr0 (by omega) (by omega), bf (by simp; omega)]
    simp only [dr, List.append_nil]
  | k + 1, m + 1, i, all, hj, hm, hi => by
    show gN (gM m) _ _ _ _ _ = _
    unfold gN
    rw [wr0 (by omega) (by omega), bt (by simp; omega), aH0 hl hw hi, aB]
    unfold dr
    cases ea : bl (l.drop i) i with
    | none => simp only [Option.bind_none]; rw [bt (by rfl)]
    | some a =>
      obtain ⟨a1, a2, a3, a4⟩ := yW _ _ (show bl (l.drop i) i = some (a.1, a.2) from ea)
      simp only [List.length_drop] at a2
      simp only [Option.bind_some]
      rw [bf (by rfl), aJ4 (by simp; omega), aB, zW w z N hN k m a.2 _ (by simp; omega) (by omega) (by omega)]
      cases dr l k a.2 with
      | none => rfl
      | some x => simp
theorem xB {n : Nat} (hn : n ≤ 128) {i : Nat} (hi : i ≤ l.length) : hY ⟨l, (i : Int)⟩ (n : Int) = some (match hs l n i with | none => ([], ⟨l, (i : Int)⟩, 5) | some (r, q) => (r, ⟨l, (q : Int)⟩, 0)) := by
  have hFU := FU'
  unfold hY iX
  rw [aB, bf (by simp; omega), zW hl hw ⟨l, (i : Int)⟩ ⟨[], 0⟩ n hn (2 * n) bY i [] (by simp) (by omega) hi, aYx]
  cases eh : hs l n i with
  | none => rfl
  | some x =>
    obtain ⟨c1, c2, c3, c4⟩ := aEo l n i (show hs l n i = some (x.1, x.2) from eh) hi
    have := sP ⟨[], 0⟩ ⟨l, (x.2 : Int)⟩ x.1 (by omega) bY 0 (by omega) (Nat.zero_le _)
    rw [c1] at this
    exact this
end
theorem aDr (s : List bC) (hs : s.length < 1000000) : ∀ (m i : Nat), s.length < i + m → i ≤ s.length → lA m ((s.take i).map fun x => ⟨x.Used, x.Key⟩) s (s.length : Int) (i : Int) = some (s.map fun x => ⟨x.Used, x.Key⟩)
  | 0, i, hm, hi => by omega
  | m + 1, i, hm, hi => by
    show nX (lA m) _ _ _ _ = _
    unfold nX
    by_cases c : i < s.length
    · rw [bt (by simpa using c), fJ c, aB, aJ4 (by simp; omega), aB, wr1 i (by omega)]
      have := aDr s hs m (i + 1) (by omega) c
      rw [aHp c, List.map_append] at this
      exact this
    · rw [bf (by simpa using c), show i = s.length by omega, List.take_length]
def rf (s : List bC) : List bI := s.map fun x => ⟨x.Used, x.Key⟩
theorem aBm {s : List bC} (hs : s.length < 1000000) : tH s = some (rf s) := by
  have hFU := FU'
  exact aDr s hs bY 0 (by omega) (Nat.zero_le _)
theorem aVr (x y : bI) : ((x.Used == y.Used) && ((x.Key == y.Key) && true)) = decide (x = y) := by
  cases x with | mk a b => cases y with | mk c d =>
  by_cases h1 : a = c <;> by_cases h2 : b = d <;> simp [h1, h2]
theorem aD3 (a b : List bI) (hab : a.length = b.length) (hl : a.length < 1000000000) : ∀ (m i : Nat), a.length < i + m → i ≤ a.length → lD m a b (i : Int) = some (decide (a.drop i = b.drop i))
  | 0, i, hm, hi => by omega
  | m + 1, i, hm, hi => by
    show nL (lD m) _ _ _ = _
    unfold nL
    by_cases c : i < a.length
    · have c' : i < b.length := by omega
      rw [bt (by simpa using c), fJ c, aB, fJ c', aB, aVr, wr1 i (by omega), gF c, gF c']
      by_cases q : a[i] = b[i]
      · rw [bf (by simp [q]), aD3 a b hab hl m (i + 1) (by omega) c]; simp [q, -List.getElem_cons_drop]
      · rw [bt (by simp [q])]; simp [q, -List.getElem_cons_drop]
    · rw [bf (by simpa using c), List.drop_eq_nil_of_le (by omega), List.drop_eq_nil_of_le (by omega)]; rfl
theorem aJh (a b : List bI) (hl : a.length < 1000000000) : oZ a b = some (decide (a = b)) := by
  have hFU := FU'
  unfold oZ
  by_cases c : a.length = b.length
  · rw [bf (by simp [c])]
    have := aD3 a b c hl bY 0 (by omega) (Nat.zero_le _)
    simpa using this
  · rw [bt (by simp; omega)]
    have : a ≠ b := fun h => c (by rw [h])
    simp [this]
theorem aTb : ∀ {s t : List bC}, rf s = rf t → s = t
  | [], [], _ => rfl
  | [], y :: t, h => by cases h
  | x :: s, [], h => by cases h
  | x :: s, y :: t, h => by
    have h' : (⟨x.Used, x.Key⟩ : bI) :: rf s = ⟨y.Used, y.Key⟩ :: rf t := h
    injection h' with h1 h2
    injection h1 with h3 h4
    cases x with | mk a b => cases y with | mk c d =>
    simp only at h3 h4
    rw [h3, h4, aTb h2]
structure SM (s : aI) : Prop where
  e : s.Graph.Edges.length < 1000000
  h : s.Graph.Hashes.length < 1000000
  v : s.Slots.length < 1000000
theorem aJ0 {a b : aI} (ha : SM a) (hb : SM b) : iL a b = some (decide (a = b)) := by
  have h1 := ha.e; have h2 := ha.h; have h3 := ha.v
  unfold iL sF sZ
  rw [aBm ha.v, aB, aB, aBm hb.v, aB, aB, aBh _ _ (by show a.Graph.Edges.length < _; omega) (by show a.Graph.Hashes.length < _; omega), aB, aJh _ _ (by simp [rf]; omega), aB, aB]
  cases a with | mk a1 a2 => cases b with | mk b1 b2 =>
  congr 1
  by_cases c1 : a1 = b1 <;> by_cases c2 : a2 = b2
  · simp [c1, c2]
  · have : rf a2 ≠ rf b2 := fun h => c2 (aTb h)
    simp [c1, c2, this]
  · simp [c1, c2]
  · simp [c1, c2]
theorem aXn {n : Nat} (h1 : 1 ≤ n) (h2 : n ≤ 1024) : VOK (List.replicate n ⟨false, 0⟩) := by
  refine ⟨by simpa using h1, by simpa using h2, fun s hs _ => ?_, fun i j k hi hj => ?_⟩
  · rw [(List.mem_replicate.1 hs).2]
  · unfold At at hi
    have := List.mem_of_getElem? hi
    have := (List.mem_replicate.1 this).2
    cases this
theorem aPk {c : aZ} (h1 : 1 ≤ c.N ∧ c.N ≤ 1024 ∧ 1 ≤ c.L ∧ c.L ≤ 16 ∧ 1 ≤ c.R ∧ c.R ≤ 8) {r : List cC} (h2 : (r.length : Int) = c.L * c.R) (h3 : hsB r = true) : grB ⟨c, r, []⟩ = true := by
  unfold grB cfB
  simp only [Bool.and_eq_true, decide_eq_true_eq]
  exact ⟨⟨h1.1, h1.2.1, h1.2.2.1, h1.2.2.2.1, h1.2.2.2.2.1, h1.2.2.2.2.2, h2⟩, h3, aPu.2 ⟨by omega, h1.2.1, ⟨List.Pairwise.nil, fun e he => by cases he⟩⟩, rfl, aPa.2 (dN.nil _)⟩
theorem aW4 {c : aZ} (h1 : 1 ≤ c.N ∧ c.N ≤ 1024 ∧ 1 ≤ c.L ∧ c.L ≤ 16 ∧ 1 ≤ c.R ∧ c.R ≤ 8) {r : List cC} (h2 : (r.length : Int) = c.L * c.R) (h3 : hsB r = true) : SOK ⟨⟨c, r, []⟩, List.replicate c.N.toNat ⟨false, 0⟩⟩ :=
  ⟨aPk h1 h2 h3, aXn (by omega) (by omega), by simp; omega, fun e he => by cases he⟩
def aB1 (c : aZ) : Prop := 1 ≤ c.N ∧ c.N ≤ 1024 ∧ 1 ≤ c.L ∧ c.L ≤ 16 ∧ 1 ≤ c.R ∧ c.R ≤ 8
theorem lr {c : aZ} (h : aB1 c) : ∃ n : Nat, c.L * c.R = (n : Int) ∧ n ≤ 128 := by
  obtain ⟨_, _, h1, h2, h3, h4⟩ := h
  have a : 0 ≤ c.L * c.R := Int.mul_nonneg (by omega) (by omega)
  have b : c.L * c.R ≤ 16 * 8 := Int.mul_le_mul h2 h4 (by omega) (by omega)
  exact ⟨(c.L * c.R).toNat, by omega, by omega⟩
def zst : aI := ⟨⟨⟨0, 0, 0⟩, [], []⟩, []⟩
theorem aKc {c : aZ} {l : List Int} (hl : l.length < 1000000) (hw : W64 l) (at_ : Int) :
    (¬ aB1 c → iZ c ⟨l, at_⟩ = some (zst, ⟨l, at_⟩, 1)) ∧
    (aB1 c → (¬ (0 ≤ at_ ∧ at_ ≤ l.length) → iZ c ⟨l, at_⟩ = some (zst, ⟨l, at_⟩, 1) ∧ hY ⟨l, at_⟩ (c.L * c.R) = some ([], ⟨l, at_⟩, 1)) ∧
      ∀ i : Nat, at_ = (i : Int) → i ≤ l.length → (hs l (c.L * c.R).toNat i = none → iZ c ⟨l, at_⟩ = some (zst, ⟨l, at_⟩, 5)) ∧
        ∀ r q, hs l (c.L * c.R).toNat i = some (r, q) → iZ c ⟨l, at_⟩ = some (⟨⟨c, r, []⟩, List.replicate c.N.toNat ⟨false, 0⟩⟩, ⟨l, (q : Int)⟩, 0)) := by
  unfold iZ
  refine ⟨fun h => ?_, fun h => ?_⟩
  · rw [bt (by unfold aB1 at h; simp; omega)]; rfl
  · obtain ⟨n, hn, hn2⟩ := lr h
    have hb : (((((decide (c.N < 1) || decide (1024 < c.N)) || decide (c.L < 1)) || decide (16 < c.L)) || decide (c.R < 1)) || decide (8 < c.R)) = false := by unfold aB1 at h; simp; omega
    rw [bf hb, hn, wr0 (by omega) (by omega)]
    refine ⟨fun ha => ?_, fun i hi hil => ?_⟩
    · constructor
      · unfold lI kH
        rw [aB, bt (by simp; omega)]
        simp only [aB]
        rw [bt (by rfl)]; rfl
      · unfold hY iX
        rw [aB, bt (by simp; omega)]
    · subst hi
      rw [aGz hl hw hn2 hil, aB, Int.toNat_natCast]
      refine ⟨fun e => ?_, fun r q e => ?_⟩
      · rw [e]; simp only []; rw [bt (by rfl)]; rfl
      · obtain ⟨c1, c2, c3, c4⟩ := aEo l n i e hil
        have g := aPk h (by rw [c1, hn]) c3
        rw [e]; simp only []
        rw [bf (by rfl), aLi c (by omega), g, if_pos rfl, aB]
        simp only []
        unfold wA iT
        have h' := h
        unfold aB1 at h'
        have hs' : (decide (1 ≤ c.N) && decide (c.N ≤ 1024)) = true := by simp; omega
        rw [bf (by rfl), hs', aB, bf (by rfl), aP8 (k := c.N.toNat) (by omega) (Int.le_refl _) (by omega), aB, aB]
        simp only []
        rw [bf (by rfl)]
theorem zSM : SM zst := ⟨by decide, by decide, by decide⟩
theorem aOu (c : aZ) (l : List Int) (hw : W64 l) (from_ : Int) : rV c l from_ = some true := by
  unfold rV
  by_cases h : 600 < l.length ∨ (60 < c.N ∧ c.N ≤ 1024)
  · rw [bt (by simp; omega), aBn, aB]
  · have hl : l.length < 1000000 := by omega
    have z : iL zst (aI.mk (aJ.mk (aZ.mk 0 0 0) [] []) []) = some true := by
      show iL zst zst = _
      rw [aJ0 zSM zSM]; simp
    obtain ⟨n1, n2⟩ := aKc (c := c) hl hw from_
    rw [bf (by simp; omega)]
    by_cases hc : aB1 c
    · obtain ⟨n3, n4⟩ := n2 hc
      have hc' := hc
      unfold aB1 at hc'
      have hr : gZ c = some true := by unfold gZ; simp; omega
      obtain ⟨n, hn, hn2⟩ := lr hc
      by_cases ha : 0 ≤ from_ ∧ from_ ≤ l.length
      · obtain ⟨i, rfl⟩ : ∃ i : Nat, from_ = (i : Int) := ⟨from_.toNat, by omega⟩
        have hi : i ≤ l.length := by omega
        obtain ⟨n5, n6⟩ := n4 i rfl hi
        rw [hn, Int.toNat_natCast] at n5 n6
        cases e : hs l n i with
        | none =>
          rw [n5 e, aB]
          simp only []
          rw [hr, aB, bf (by rfl), hn, wr0 (by omega) (by omega), xB hl hw hn2 hi, e, aB]
          simp only []
          rw [bt (by rfl), z, aB, gt' (by simp), aBn, aB]
          simp
        | some x =>
          obtain ⟨c1, c2, c3, c4⟩ := aEo l n i (show hs l n i = some (x.1, x.2) from e) hi
          have ok := aW4 hc (by rw [c1, hn]) c3
          obtain ⟨b, b1, b2⟩ := aIc (s := ⟨⟨c, x.1, []⟩, List.replicate c.N.toNat ⟨false, 0⟩⟩) (by simp) (by show x.1.length < _; omega) (by simp; omega)
          rw [n6 x.1 x.2 e, aB]
          simp only []
          rw [hr, aB, bf (by rfl), hn, wr0 (by omega) (by omega), xB hl hw hn2 hi, e, aB]
          simp only []
          have eN : (((List.replicate c.N.toNat (⟨false, 0⟩ : bC)).length : Int) == c.N) = true := by simp; omega
          rw [bf (by rfl), gt' (by simp), aBh _ _ (by simp) (by show x.1.length < _; omega), aB, eN, gt' (by simp), b1, aB, b2.2 ok, gt' (by simp), aBn, aB]
          simp
      · obtain ⟨n5, n6⟩ := n3 ha
        rw [hn] at n6
        rw [n5, aB]
        simp only []
        rw [hr, aB, bf (by rfl), hn, wr0 (by omega) (by omega), n6, aB]
        simp only []
        rw [bt (by rfl), z, aB, gt' (by simp), aBn, aB]
        simp
    · have hr : gZ c = some false := by unfold aB1 at hc; unfold gZ; simp; omega
      rw [n1 hc, aB]
      simp only []
      rw [hr, aB, bt (by rfl), z, aB, gt' (by simp), aBn, aB]
      simp
theorem bHx {l : List Int} {P : Prop} (w : (∀ y, y ∈ l → (Lit.int .u64 y).wf = true) ∧ P) : W64 l := fun x hx => by
  have := w.1 x hx
  simp [Lit.wf, IntKind.min, IntKind.max, IntKind.signed, IntKind.bits] at this
  omega
theorem aLr (c : aZ) (words : List Int) (at_ : Int) {A B P : Prop} (_ : A) (w : (∀ y, y ∈ words → (Lit.int .u64 y).wf = true) ∧ P) (_ : B) : rV c words at_ = some true := aOu c words (bHx w) at_
end Go.Proofs.YtkdohhmacfoolaaGreat
