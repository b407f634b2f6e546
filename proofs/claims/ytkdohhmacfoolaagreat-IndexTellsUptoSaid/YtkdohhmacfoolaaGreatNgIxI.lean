/- Facts. No condition. -/
import Derived.Test.YtkdohhmacfoolaaGreatNgIxH
set_option linter.unusedVariables false
set_option linter.unusedSimpArgs false
set_option maxRecDepth 20000
set_option maxHeartbeats 1000000
namespace Go.Proofs.YtkdohhmacfoolaaGreat
open Go Go.AM Go.Pl Go.Pt Go.Ix
def BB (l : List Int) : Prop := ∀ x, x ∈ l → 0 ≤ x ∧ x < 256
theorem BB.app {a b : List Int} (ha : BB a) (hb : BB b) : BB (a ++ b) := fun x hx => (List.mem_append.mp hx).elim (ha x) (hb x)
theorem BB.nil : BB [] := fun x hx => by cases hx
theorem BB.fm {α : Type} {l : List α} {f : α → List Int} (h : ∀ x, x ∈ l → BB (f x)) : BB (l.flatMap f) := fun y hy => by
 obtain ⟨x, hx, hy⟩ := List.mem_flatMap.1 hy
 exact h x hx y hy
theorem bJ3 (a b : List Int) : lU (a ++ b) = lU a ++ lU b := by
 unfold lU
 apply ByteArray.ext
 simp
theorem aBy (a : List Int) : (lU a).size = a.length := by simp [lU, ByteArray.size]
theorem tO {a b : List Int} (h : a.length + b.length ≤ 9223372036854775807) : aEe (lU a) (lU b) = some (lU (a ++ b)) := by
 unfold aEe
 rw [aBy, aBy, if_pos h, bJ3]
theorem bLu {l : List Int} (h : BB l) {i : Nat} (hi : i < l.length) : aYt (lU l) (i : Int) = some l[i] := by
 unfold aYt
 rw [aBy, if_pos (by omega)]
 unfold aP8 lU
 have := h l[i] (List.getElem_mem hi)
 simp [List.getD, hi, UInt8.toNat_ofNat']
 omega
def lb (n : Int) : Nat → List Int
  | 0 => []
  | k + 1 => n % 256 :: lb (n / 256) k
theorem fN : ∀ (n : Int) (k : Nat), (lb n k).length = k
 | n, 0 => rfl
 | n, k + 1 => by unfold lb; rw [List.length_cons, fN (n / 256) k]
theorem hZ : ∀ (n : Int) (k : Nat), BB (lb n k)
 | n, 0 => BB.nil
 | n, k + 1 => fun x hx => by
  unfold lb at hx
  rcases List.mem_cons.1 hx with rfl | hx
  ·
   omega
  ·
   exact hZ _ k x hx
theorem bZz {n : Int} (h : 0 ≤ n) : shr .u64 n 8 = n / 256 := by
 obtain ⟨a, rfl⟩ := Int.eq_ofNat_of_zero_le h
 have := aYs a 8 (by decide)
 rw [show ((8 : Nat) : Int) = 8 from rfl] at this
 rw [this]; omega
theorem u8w (n : Int) : IntKind.u8.wrap n = n % 256 := IntKind.wrap_u8 n
theorem bQa : ∀ (m i k : Nat) (b : List Int) (n : Int), k < i + m → i ≤ k → k ≤ 1000 → 0 ≤ n → b.length + k ≤ 4000000 + i → uT m b n (k : Int) (i : Int) = some (b ++ lb n (k - i))
 | 0, i, k, b, n, hm, hi, _, _, _ => by omega
 | m + 1, i, k, b, n, hm, hi, hk, hn, hb => by
  show (bif decide ((i : Int) < (k : Int)) then ((app b [IntKind.u8.wrap n]).bind fun x => uT m x (shr .u64 n 8) (k : Int) (IntKind.i64.wrap ((i : Int) + 1))) else some b) = _
  by_cases c : i < k
  ·
   rw [bt (by simpa using c), dL (by simp; omega), aA, u8w, bZz hn, wr1 i (by omega), bQa m (i + 1) k _ _ (by omega) c hk (by omega) (by simp; omega)]
   rw [show k - i = (k - (i + 1)) + 1 by omega, List.append_assoc]
   rfl
  ·
   rw [bf (by simpa using c), show k - i = 0 by omega]; simp [lb]
theorem put_eq {b : List Int} {n : Int} (hn : 0 ≤ n) (hb : b.length ≤ 1000000) {k : Nat} (hk : k ≤ 1000) : iD b n (k : Int) = some (b ++ lb n k) := by
 have hFU := FU'
 exact bQa bF 0 k b n (by omega) (Nat.zero_le _) hk hn (by omega)
theorem aYc : ∀ (m i k : Nat) (b : List Int) (n : Int), k < i + m → i ≤ k → k ≤ 1000 → 0 ≤ n → n < 18446744073709551616 → b.length ≤ 4000000 + i → qL m n (k : Int) (lU b) (i : Int) = some (lU (b ++ lb n (k - i)))
 | 0, i, k, b, n, hm, hi, _, _, _, _ => by omega
 | m + 1, i, k, b, n, hm, hi, hk, hn, hn', hb => by
  show aBm (qL m) _ _ _ _ = _
  unfold aBm
  by_cases c : i < k
  ·
   have e1 : IntKind.u8.wrap (Int.tmod n 256) = n % 256 := by rw [u8w, Int.tmod_eq_emod_of_nonneg hn]; omega
   have e2 : IntKind.u64.wrap (Int.tdiv n 256) = n / 256 := by rw [Int.tdiv_eq_ediv_of_nonneg hn, wu]; omega
   rw [bt (by simpa using c), e1, tO (by simp; omega), aA, e2, wr1 i (by omega), aYc m (i + 1) k _ _ (by omega) c hk (by omega) (by omega) (by simp; omega)]
   rw [show k - i = (k - (i + 1)) + 1 by omega, List.append_assoc]
   rfl
  ·
   rw [bf (by simpa using c), show k - i = 0 by omega]; simp [lb]
theorem jA {n : Int} (hn : 0 ≤ n) (hn' : n < 18446744073709551616) {k : Nat} (hk : k ≤ 1000) : eQ n (k : Int) = some (lU (lb n k)) := by
 have hFU := FU'
 have := aYc bF 0 k [] n (by omega) (Nat.zero_le _) hk hn hn' (by simp)
 rw [List.nil_append, Nat.sub_zero] at this
 exact this
def smN (n : Nat) (x : Int) : Nat := (n % 2305843009213693951 * (257 % 2305843009213693951) % 2305843009213693951 % 2305843009213693951 + (x.toNat + 1) % 2305843009213693951) % 2305843009213693951
def aSf (l : List Int) (n : Nat) : Nat := l.foldl smN n
theorem bEl : ∀ (l : List Int) (n : Nat), n < 2305843009213693951 → aSf l n < 2305843009213693951
 | [], n, h => h
 | x :: l, n, _ => bEl l _ (Nat.mod_lt _ (by decide))
theorem bPx {x : Int} (h : 0 ≤ x ∧ x < 256) : IntKind.u64.wrap (IntKind.u64.wrap x + 1) = ((x.toNat + 1 : Nat) : Int) := by rw [wu, wu]; omega
theorem bHy (a b : Nat) : aDs (a : Int) (b : Int) = some (((a % 2305843009213693951) * (b % 2305843009213693951) % 2305843009213693951 : Nat) : Int) := by
 have hFU := FU'
 unfold aDs
 have ha : a % 2305843009213693951 < 2305843009213693951 := Nat.mod_lt _ (by decide)
 have hb : b % 2305843009213693951 < 2305843009213693951 := Nat.mod_lt _ (by decide)
 have key := aQk (a % 2305843009213693951) (b % 2305843009213693951) ha hb 61 bF (Nat.le_refl _) (by omega)
 have e0 : b % 2305843009213693951 / 2 ^ 61 = 0 := Nat.div_eq_of_lt (by omega)
 rw [e0, Nat.mul_zero] at key
 have e1 : ((0 % 2305843009213693951 : Nat) : Int) = 0 := rfl
 have e2 : (((61 : Nat) : Int) - 1) = 60 := rfl
 rw [e1, e2] at key
 rw [aNw, aNw, key]
theorem bQf {l : List Int} (h : BB l) (hl : l.length ≤ 4000000) : ∀ (m i n : Nat), l.length < i + m → i ≤ l.length → aAb m (lU l) (n : Int) (i : Int) = some ((aSf (l.drop i) n : Nat) : Int)
 | 0, i, n, hm, hi => by omega
 | m + 1, i, n, hm, hi => by
  show aJa (aAb m) _ _ _ = _
  unfold aJa
  rw [aBy]
  by_cases c : i < l.length
  ·
   have e : (257 : Int) = ((257 : Nat) : Int) := rfl
   rw [bt (by simpa using c), e, bE3, aA, bLu h c, aA, bPx (h _ (List.getElem_mem c))]
   unfold aFz aAo
   rw [aA, aA, addN, aA, wr1 i (by omega), bQf h hl m (i + 1) _ (by omega) c, bP c]
   rfl
  ·
   rw [bf (by simpa using c), List.drop_eq_nil_of_le (by omega)]; rfl
theorem bLm {l : List Int} (h : BB l) (hl : l.length ≤ 4000000) : ∀ (m i n : Nat), l.length < i + m → i ≤ l.length → wR m (lU l) (n : Int) (i : Int) = some ((aSf (l.drop i) n : Nat) : Int)
 | 0, i, n, hm, hi => by omega
 | m + 1, i, n, hm, hi => by
  show aGe (wR m) _ _ _ = _
  unfold aGe
  rw [aBy]
  by_cases c : i < l.length
  ·
   have e : (257 : Int) = ((257 : Nat) : Int) := rfl
   rw [bt (by simpa using c), e, bHy, aA, bLu h c, aA, bPx (h _ (List.getElem_mem c))]
   unfold uP
   rw [addN, aA, wr1 i (by omega), bLm h hl m (i + 1) _ (by omega) c, bP c]
   rfl
  ·
   rw [bf (by simpa using c), List.drop_eq_nil_of_le (by omega)]; rfl
theorem bRy {l : List Int} (h : BB l) (hl : l.length ≤ 4000000) : aMc (lU l) = some ((aSf l 1 : Nat) : Int) := by
 have hFU := FU'
 exact bQf h hl bF 0 1 (by omega) (Nat.zero_le _)
theorem bPh {l : List Int} (h : BB l) (hl : l.length ≤ 4000000) : aIw (lU l) = some ((aSf l 1 : Nat) : Int) := by
 have hFU := FU'
 exact bLm h hl bF 0 1 (by omega) (Nat.zero_le _)
def lh (h : bV) : List Int := lb h.A 8 ++ lb h.B 8
def ls (x : aM) : List Int := lb (if x.Used then 1 else 0) 1 ++ lb x.Key 8
def lE (e : aC) : List Int := lb e.U 2 ++ lb e.V 2 ++ lb e.Tier 1
def lc (c : aT) : List Int := [82, 65, 70, 84] ++ lb c.N 2 ++ lb c.L 2 ++ lb c.R 2
def body (s : aD) : List Int := lc s.Graph.Config ++ s.Graph.Hashes.flatMap lh ++ s.Slots.flatMap ls ++ lb s.Graph.Edges.length 4 ++ s.Graph.Edges.flatMap lE
def bytesOf (s : aD) : List Int := body s ++ lb ((aSf (body s) 1 : Nat) : Int) 8
theorem aPs {α : Type} {f : α → List Int} {k : Nat} (h : ∀ x, (f x).length = k) : ∀ l : List α, (l.flatMap f).length = l.length * k
 | [] => by simp
 | x :: l => by rw [List.flatMap_cons, List.length_append, h, aPs h l, List.length_cons, Nat.succ_mul]; omega
theorem bKw (h : bV) : (lh h).length = 16 := by unfold lh; simp [fN]
theorem bL0 (x : aM) : (ls x).length = 9 := by unfold ls; simp [fN]
theorem aLw (c : aT) : (lc c).length = 10 := by unfold lc; simp [fN]
structure NB (s : aD) : Prop where
  c : 0 ≤ s.Graph.Config.N ∧ 0 ≤ s.Graph.Config.L ∧ 0 ≤ s.Graph.Config.R ∧ s.Graph.Config.N < 65536 ∧ s.Graph.Config.L < 65536 ∧ s.Graph.Config.R < 65536
  h : ∀ x, x ∈ s.Graph.Hashes → (0 ≤ x.A ∧ x.A < 18446744073709551616) ∧ 0 ≤ x.B ∧ x.B < 18446744073709551616
  k : ∀ x, x ∈ s.Slots → 0 ≤ x.Key ∧ x.Key < 18446744073709551616
  e : ∀ x, x ∈ s.Graph.Edges → (0 ≤ x.U ∧ x.U < 65536) ∧ (0 ≤ x.V ∧ x.V < 65536) ∧ 0 ≤ x.Tier ∧ x.Tier < 256
  nh : s.Graph.Hashes.length ≤ 1000
  ns : s.Slots.length ≤ 2000
  ne : s.Graph.Edges.length ≤ 10000
theorem uu {n : Int} (h : 0 ≤ n) (h' : n < 18446744073709551616) : IntKind.u64.wrap n = n := by rw [wu]; omega
section
variable {s : aD} (nb : NB s)
include nb
theorem bEf : ∀ (m i : Nat) (b : List Int), s.Graph.Edges.length < i + m → i ≤ s.Graph.Edges.length → b.length ≤ 100000 + 5 * i → BB b →
 sA m b s.Graph.Edges (s.Graph.Edges.length : Int) (i : Int) = some (lU ((b ++ (s.Graph.Edges.drop i).flatMap lE) ++ lb ((aSf (b ++ (s.Graph.Edges.drop i).flatMap lE) 1 : Nat) : Int) 8), 0)
 | 0, i, b, hm, hi, _, _ => by omega
 | m + 1, i, b, hm, hi, hb, bb => by
  have hE := nb.ne
  show aGt (sA m) _ _ _ _ = _
  unfold aGt
  by_cases c : i < s.Graph.Edges.length
  ·
   have q := nb.e _ (List.getElem_mem c)
   rw [bt (by simpa using c), bR c, aA, uu q.1.1 (by omega), uu q.2.1.1 (by omega), uu q.2.2.1 (by omega)]
   have p1 := put_eq (b := b) q.1.1 (by omega) (k := 2) (by decide)
   have p2 := put_eq (b := b ++ lb s.Graph.Edges[i].U 2) q.2.1.1 (by simp [fN]; omega) (k := 2) (by decide)
   have p3 := put_eq (b := b ++ lb s.Graph.Edges[i].U 2 ++ lb s.Graph.Edges[i].V 2) q.2.2.1 (by simp [fN]; omega) (k := 1) (by decide)
   rw [show ((2 : Nat) : Int) = 2 from rfl] at p1 p2
   rw [show ((1 : Nat) : Int) = 1 from rfl] at p3
   rw [p1, aA, p2, aA, p3, aA, wr1 i (by omega), bEf m (i + 1) _ (by omega) c (by simp [fN]; omega) (((bb.app (hZ _ _)).app (hZ _ _)).app (hZ _ _)), bP c, List.flatMap_cons]
   simp only [lE, List.append_assoc]
  ·
   rw [bf (by simpa using c), List.drop_eq_nil_of_le (by omega), List.flatMap_nil, List.append_nil, bRy bb (by omega), aA]
   have p1 := put_eq (b := b) (n := ((aSf b 1 : Nat) : Int)) (by omega) (by omega) (k := 8) (by decide)
   rw [show ((8 : Nat) : Int) = 8 from rfl] at p1
   rw [p1, aA]
theorem aVx : ∀ (m i : Nat) (b : List Int), s.Slots.length < i + m → i ≤ s.Slots.length → b.length ≤ 50000 + 9 * i → BB b →
 iY m s b s.Slots (s.Slots.length : Int) (i : Int) = sA bF (b ++ (s.Slots.drop i).flatMap ls ++ lb s.Graph.Edges.length 4) s.Graph.Edges (s.Graph.Edges.length : Int) 0
 | 0, i, b, hm, hi, _, _ => by omega
 | m + 1, i, b, hm, hi, hb, bb => by
  have hE := nb.ns
  have hE' := nb.ne
  show aGs (iY m) _ _ _ _ _ = _
  unfold aGs
  by_cases c : i < s.Slots.length
  ·
   have q := nb.k _ (List.getElem_mem c)
   rw [bt (by simpa using c), bR c, aA]
   have one : ∀ u : Int, 0 ≤ u → wX (iY m) s b s.Slots[i] u s.Slots (s.Slots.length : Int) (i : Int) = iY m s (b ++ lb u 1 ++ lb s.Slots[i].Key 8) s.Slots (s.Slots.length : Int) ((i + 1 : Nat) : Int) := fun u hu => by
    unfold wX aGu
    have p1 := put_eq (b := b) hu (by omega) (k := 1) (by decide)
    have p2 := put_eq (b := b ++ lb u 1) q.1 (by simp [fN]; omega) (k := 8) (by decide)
    rw [show ((1 : Nat) : Int) = 1 from rfl] at p1
    rw [show ((8 : Nat) : Int) = 8 from rfl] at p2
    rw [p1, aA, p2, aA, wr1 i (by omega)]
   cases u : s.Slots[i].Used with
   | true =>
    rw [bt (by rfl), one 1 (by decide), aVx m (i + 1) _ (by omega) c (by simp [fN]; omega) ((bb.app (hZ _ _)).app (hZ _ _)), bP c, List.flatMap_cons]
    simp only [ls, u, if_true, List.append_assoc]
   | false =>
    rw [bf (by rfl), one 0 (by decide), aVx m (i + 1) _ (by omega) c (by simp [fN]; omega) ((bb.app (hZ _ _)).app (hZ _ _)), bP c, List.flatMap_cons]
    simp only [ls, u, List.append_assoc]
    rfl
  ·
   rw [bf (by simpa using c), List.drop_eq_nil_of_le (by omega), List.flatMap_nil, List.append_nil, uu (by omega) (by omega)]
   have p1 := put_eq (b := b) (n := (s.Graph.Edges.length : Int)) (by omega) (by omega) (k := 4) (by decide)
   rw [show ((4 : Nat) : Int) = 4 from rfl] at p1
   rw [p1, aA]
theorem bEe : ∀ (m i : Nat) (b : List Int), s.Graph.Hashes.length < i + m → i ≤ s.Graph.Hashes.length → b.length ≤ 1000 + 16 * i → BB b →
 nX m s b s.Graph.Hashes (s.Graph.Hashes.length : Int) (i : Int) = iY bF s (b ++ (s.Graph.Hashes.drop i).flatMap lh) s.Slots (s.Slots.length : Int) 0
 | 0, i, b, hm, hi, _, _ => by omega
 | m + 1, i, b, hm, hi, hb, bb => by
  have hE := nb.nh
  show aGr (nX m) _ _ _ _ _ = _
  unfold aGr
  by_cases c : i < s.Graph.Hashes.length
  ·
   have q := nb.h _ (List.getElem_mem c)
   rw [bt (by simpa using c), bR c, aA]
   have p1 := put_eq (b := b) q.1.1 (by omega) (k := 8) (by decide)
   have p2 := put_eq (b := b ++ lb s.Graph.Hashes[i].A 8) q.2.1 (by simp [fN]; omega) (k := 8) (by decide)
   rw [show ((8 : Nat) : Int) = 8 from rfl] at p1 p2
   rw [p1, aA, p2, aA, wr1 i (by omega), bEe m (i + 1) _ (by omega) c (by simp [fN]; omega) ((bb.app (hZ _ _)).app (hZ _ _)), bP c, List.flatMap_cons]
   simp only [lh, List.append_assoc]
  ·
   rw [bf (by simpa using c), List.drop_eq_nil_of_le (by omega), List.flatMap_nil, List.append_nil]
theorem bPi (hr : lD s = some true) : aEj s = some (lU (bytesOf s), 0) := by
 have hFU := FU'
 have h1 := nb.nh; have h2 := nb.ns; have h3 := nb.ne
 obtain ⟨c1, c2, c3, c4, c5, c6⟩ := nb.c
 unfold aEj
 rw [hr, aA, bf (by rfl)]
 have key : ∀ m, 4 ≤ m → jZ m s [82, 65, 70, 84] [s.Graph.Config.N, s.Graph.Config.L, s.Graph.Config.R] (([s.Graph.Config.N, s.Graph.Config.L, s.Graph.Config.R] : List Int).length : Int) 0 = nX bF s (lc s.Graph.Config) s.Graph.Hashes (s.Graph.Hashes.length : Int) 0 := by
  intro m hm
  obtain ⟨m, rfl⟩ : ∃ k, m = k + 4 := ⟨m - 4, by omega⟩
  have p1 := put_eq (b := [82, 65, 70, 84]) c1 (by simp) (k := 2) (by decide)
  have p2 := put_eq (b := [82, 65, 70, 84] ++ lb s.Graph.Config.N 2) c2 (by simp [fN]) (k := 2) (by decide)
  have p3 := put_eq (b := [82, 65, 70, 84] ++ lb s.Graph.Config.N 2 ++ lb s.Graph.Config.L 2) c3 (by simp [fN]) (k := 2) (by decide)
  rw [show ((2 : Nat) : Int) = 2 from rfl] at p1 p2 p3
  have st : ∀ (k : Nat) (b : List Int) (i : Nat) (x : Int), ([s.Graph.Config.N, s.Graph.Config.L, s.Graph.Config.R] : List Int)[i]? = some x → 0 ≤ x → x < 65536 → iD b x 2 = some (b ++ lb x 2) →
   jZ (k + 1) s b [s.Graph.Config.N, s.Graph.Config.L, s.Graph.Config.R] (([s.Graph.Config.N, s.Graph.Config.L, s.Graph.Config.R] : List Int).length : Int) (i : Int) = jZ k s (b ++ lb x 2) [s.Graph.Config.N, s.Graph.Config.L, s.Graph.Config.R] (([s.Graph.Config.N, s.Graph.Config.L, s.Graph.Config.R] : List Int).length : Int) ((i + 1 : Nat) : Int) := by
   intro k b i x hx h0 h1 hp
   have hi := (List.getElem?_eq_some_iff.1 hx).1
   show wW (jZ k) _ _ _ _ _ = _
   unfold wW
   rw [bt (by simp at hi ⊢; omega), dI, hx, aA, uu h0 (by omega), hp, aA, wr1 i (by simp at hi; omega)]
  have e1 := st (m + 3) [82, 65, 70, 84] 0 _ rfl c1 c4 p1
  have e2 := st (m + 2) _ 1 _ rfl c2 c5 p2
  have e3 := st (m + 1) _ 2 _ rfl c3 c6 p3
  have e4 : jZ (m + 1) s (lc s.Graph.Config) [s.Graph.Config.N, s.Graph.Config.L, s.Graph.Config.R] (([s.Graph.Config.N, s.Graph.Config.L, s.Graph.Config.R] : List Int).length : Int) ((3 : Nat) : Int) = nX bF s (lc s.Graph.Config) s.Graph.Hashes (s.Graph.Hashes.length : Int) 0 := by
   show wW (jZ m) _ _ _ _ _ = _
   unfold wW
   rw [bf (by simp)]
  exact e1.trans (e2.trans (e3.trans e4))
 rw [key bF (by omega)]
 have b0 : BB (lc s.Graph.Config) := by
  have h0 : BB [82, 65, 70, 84] := by intro x hx; simp at hx; omega
  exact ((h0.app (hZ _ _)).app (hZ _ _)).app (hZ _ _)
 have b1 : BB (lc s.Graph.Config ++ s.Graph.Hashes.flatMap lh) := b0.app (BB.fm fun _ _ => (hZ _ _).app (hZ _ _))
 have b2 : BB (lc s.Graph.Config ++ s.Graph.Hashes.flatMap lh ++ s.Slots.flatMap ls ++ lb s.Graph.Edges.length 4) := (b1.app (BB.fm fun _ _ => (hZ _ _).app (hZ _ _))).app (hZ _ _)
 have l1 := aPs bKw s.Graph.Hashes
 have l2 := aPs bL0 s.Slots
 have e2 := bEe nb bF 0 (lc s.Graph.Config) (by omega) (Nat.zero_le _) (by rw [aLw]; omega) b0
 have e3 := aVx nb bF 0 (lc s.Graph.Config ++ s.Graph.Hashes.flatMap lh) (by omega) (Nat.zero_le _) (by rw [List.length_append, aLw, l1]; omega) b1
 have e4 := bEf nb bF 0 (lc s.Graph.Config ++ s.Graph.Hashes.flatMap lh ++ s.Slots.flatMap ls ++ lb s.Graph.Edges.length 4) (by omega) (Nat.zero_le _) (by rw [List.length_append, List.length_append, List.length_append, aLw, l1, l2, fN]; omega) b2
 simp only [List.drop_zero] at e2 e3 e4
 exact e2.trans (e3.trans e4)
theorem aYn {T : aH} (hg : T.Graph = s.Graph) : ∀ (m i : Nat) (b : List Int), s.Graph.Edges.length < i + m → i ≤ s.Graph.Edges.length → b.length ≤ 100000 + 5 * i → BB b →
 oT m T (lU b) (i : Int) = some (lU ((b ++ (s.Graph.Edges.drop i).flatMap lE) ++ lb ((aSf (b ++ (s.Graph.Edges.drop i).flatMap lE) 1 : Nat) : Int) 8))
 | 0, i, b, hm, hi, _, _ => by omega
 | m + 1, i, b, hm, hi, hb, bb => by
  have hE := nb.ne
  show aE4 (oT m) _ _ _ = _
  unfold aE4
  rw [hg]
  by_cases c : i < s.Graph.Edges.length
  ·
   have q := nb.e _ (List.getElem_mem c)
   rw [bt (by simpa using c), bR c, aA, uu q.1.1 (by omega), uu q.2.1.1 (by omega), uu q.2.2.1 (by omega)]
   have p1 := jA q.1.1 (by omega) (k := 2) (by decide)
   have p2 := jA q.2.1.1 (by omega) (k := 2) (by decide)
   have p3 := jA q.2.2.1 (by omega) (k := 1) (by decide)
   rw [show ((2 : Nat) : Int) = 2 from rfl] at p1 p2
   rw [show ((1 : Nat) : Int) = 1 from rfl] at p3
   rw [p1, aA, tO (by simp [fN]; omega), aA, p2, aA, tO (by simp [fN]; omega), aA, p3, aA, tO (by simp [fN]; omega), aA, wr1 i (by omega), aYn hg m (i + 1) _ (by omega) c (by simp [fN]; omega) (((bb.app (hZ _ _)).app (hZ _ _)).app (hZ _ _)), bP c, List.flatMap_cons]
   simp only [lE, List.append_assoc]
  ·
   have hlt := bEl b 1 (by decide)
   rw [bf (by simpa using c), List.drop_eq_nil_of_le (by omega), List.flatMap_nil, List.append_nil, bPh bb (by omega), aA]
   have p1 := jA (n := ((aSf b 1 : Nat) : Int)) (by omega) (by omega) (k := 8) (by decide)
   rw [show ((8 : Nat) : Int) = 8 from rfl] at p1
   rw [p1, aA, tO (by simp [fN]; omega), aA]
theorem aQu {T : aH} (hg : T.Graph = s.Graph) (ht : T.Slots = rf s.Slots) : ∀ (m i : Nat) (b : List Int), s.Slots.length < i + m → i ≤ s.Slots.length → b.length ≤ 50000 + 9 * i → BB b →
 gU m T (lU b) (i : Int) = oT bF T (lU (b ++ (s.Slots.drop i).flatMap ls ++ lb s.Graph.Edges.length 4)) 0
 | 0, i, b, hm, hi, _, _ => by omega
 | m + 1, i, b, hm, hi, hb, bb => by
  have hE := nb.ns
  have hE' := nb.ne
  show aE3 (gU m) _ _ _ = _
  unfold aE3
  rw [ht, show (rf s.Slots).length = s.Slots.length by simp [rf]]
  by_cases c : i < s.Slots.length
  ·
   have q := nb.k _ (List.getElem_mem c)
   have eI : idx (rf s.Slots) (i : Int) = some ⟨s.Slots[i].Used, s.Slots[i].Key⟩ := by rw [dI]; unfold rf; rw [List.getElem?_map, List.getElem?_eq_getElem c]; rfl
   rw [bt (by simpa using c), eI, aA]
   have one : ∀ u : Int, 0 ≤ u → tG (gU m) T (lU (b ++ lb u 1)) (i : Int) = gU m T (lU (b ++ lb u 1 ++ lb s.Slots[i].Key 8)) ((i + 1 : Nat) : Int) := fun u hu => by
    unfold tG aE5
    have p2 := jA q.1 q.2 (k := 8) (by decide)
    rw [show ((8 : Nat) : Int) = 8 from rfl] at p2
    rw [ht, eI, aA, p2, aA, tO (by simp [fN]; omega), aA, wr1 i (by omega)]
   have p0 := jA (n := 0) (by decide) (by decide) (k := 1) (by decide)
   have p1 := jA (n := 1) (by decide) (by decide) (k := 1) (by decide)
   rw [show ((1 : Nat) : Int) = 1 from rfl] at p0 p1
   cases u : s.Slots[i].Used with
   | true =>
    rw [bt (by rfl), p1, aA, tO (by simp [fN]; omega), aA, one 1 (by decide), aQu hg ht m (i + 1) _ (by omega) c (by simp [fN]; omega) ((bb.app (hZ _ _)).app (hZ _ _)), bP c, List.flatMap_cons]
    simp only [ls, u, if_true, List.append_assoc]
   | false =>
    rw [bf (by rfl), p0, aA, tO (by simp [fN]; omega), aA, one 0 (by decide), aQu hg ht m (i + 1) _ (by omega) c (by simp [fN]; omega) ((bb.app (hZ _ _)).app (hZ _ _)), bP c, List.flatMap_cons]
    simp only [ls, u, List.append_assoc]
    rfl
  ·
   rw [bf (by simpa using c), List.drop_eq_nil_of_le (by omega), List.flatMap_nil, List.append_nil, hg, uu (by omega) (by omega)]
   have p1 := jA (n := (s.Graph.Edges.length : Int)) (by omega) (by omega) (k := 4) (by decide)
   rw [show ((4 : Nat) : Int) = 4 from rfl] at p1
   rw [p1, aA, tO (by simp [fN]; omega), aA]
theorem aYm {T : aH} (hg : T.Graph = s.Graph) : ∀ (m i : Nat) (b : List Int), s.Graph.Hashes.length < i + m → i ≤ s.Graph.Hashes.length → b.length ≤ 1000 + 16 * i → BB b →
 tH m T (lU b) (i : Int) = gU bF T (lU (b ++ (s.Graph.Hashes.drop i).flatMap lh)) 0
 | 0, i, b, hm, hi, _, _ => by omega
 | m + 1, i, b, hm, hi, hb, bb => by
  have hE := nb.nh
  show aE2 (tH m) _ _ _ = _
  unfold aE2
  rw [hg]
  by_cases c : i < s.Graph.Hashes.length
  ·
   have q := nb.h _ (List.getElem_mem c)
   rw [bt (by simpa using c), bR c, aA]
   have p1 := jA q.1.1 q.1.2 (k := 8) (by decide)
   have p2 := jA q.2.1 q.2.2 (k := 8) (by decide)
   rw [show ((8 : Nat) : Int) = 8 from rfl] at p1 p2
   rw [p1, aA, tO (by simp [fN]; omega), aA, aA, p2, aA, tO (by simp [fN]; omega), aA, wr1 i (by omega), aYm hg m (i + 1) _ (by omega) c (by simp [fN]; omega) ((bb.app (hZ _ _)).app (hZ _ _)), bP c, List.flatMap_cons]
   simp only [lh, List.append_assoc]
  ·
   rw [bf (by simpa using c), List.drop_eq_nil_of_le (by omega), List.flatMap_nil, List.append_nil]
theorem bLl : wQ ⟨s.Graph, rf s.Slots⟩ = some (lU (bytesOf s)) := by
 have hFU := FU'
 have h1 := nb.nh; have h2 := nb.ns; have h3 := nb.ne
 obtain ⟨c1, c2, c3, c4, c5, c6⟩ := nb.c
 unfold wQ
 simp only []
 rw [uu c1 (by omega), uu c2 (by omega), uu c3 (by omega)]
 have p1 := jA c1 (by omega) (k := 2) (by decide)
 have p2 := jA c2 (by omega) (k := 2) (by decide)
 have p3 := jA c3 (by omega) (k := 2) (by decide)
 rw [show ((2 : Nat) : Int) = 2 from rfl] at p1 p2 p3
 have e0 : (⟨#[82, 65, 70, 84]⟩ : ByteArray) = lU [82, 65, 70, 84] := rfl
 rw [p1, aA, e0, tO (by simp [fN]), aA, p2, aA, tO (by simp [fN]), aA, p3, aA, tO (by simp [fN]), aA]
 have b0 : BB (lc s.Graph.Config) := by
  have h0 : BB [82, 65, 70, 84] := by intro x hx; simp at hx; omega
  exact ((h0.app (hZ _ _)).app (hZ _ _)).app (hZ _ _)
 have b1 : BB (lc s.Graph.Config ++ s.Graph.Hashes.flatMap lh) := b0.app (BB.fm fun _ _ => (hZ _ _).app (hZ _ _))
 have b2 : BB (lc s.Graph.Config ++ s.Graph.Hashes.flatMap lh ++ s.Slots.flatMap ls ++ lb s.Graph.Edges.length 4) := (b1.app (BB.fm fun _ _ => (hZ _ _).app (hZ _ _))).app (hZ _ _)
 have l1 := aPs bKw s.Graph.Hashes
 have l2 := aPs bL0 s.Slots
 have e2 := aYm nb (T := ⟨s.Graph, rf s.Slots⟩) rfl bF 0 (lc s.Graph.Config) (by omega) (Nat.zero_le _) (by rw [aLw]; omega) b0
 have e3 := aQu nb (T := ⟨s.Graph, rf s.Slots⟩) rfl rfl bF 0 (lc s.Graph.Config ++ s.Graph.Hashes.flatMap lh) (by omega) (Nat.zero_le _) (by rw [List.length_append, aLw, l1]; omega) b1
 have e4 := aYn nb (T := ⟨s.Graph, rf s.Slots⟩) rfl bF 0 (lc s.Graph.Config ++ s.Graph.Hashes.flatMap lh ++ s.Slots.flatMap ls ++ lb s.Graph.Edges.length 4) (by omega) (Nat.zero_le _) (by rw [List.length_append, List.length_append, List.length_append, aLw, l1, l2, fN]; omega) b2
 simp only [List.drop_zero] at e2 e3 e4
 exact e2.trans (e3.trans e4)
end
end Go.Proofs.YtkdohhmacfoolaaGreat
