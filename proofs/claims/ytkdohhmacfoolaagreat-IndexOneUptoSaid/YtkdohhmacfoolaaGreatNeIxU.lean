/- Facts that the statement's proof is made of. No condition. -/
import Derived.Test.YtkdohhmacfoolaaGreatNeIxR
set_option linter.unusedVariables false
set_option linter.unusedSimpArgs false
set_option maxRecDepth 20000
set_option maxHeartbeats 1000000
namespace Go.Proofs.YtkdohhmacfoolaaGreat
open Go Go.AM Go.Pl Go.Pt Go.Ix
theorem aU8 {x : Int} : ∀ {A : List Int}, (∀ z, z ∈ A → z < x) → pZ x A = A ++ [x]
 | [], _ => rfl
 | y :: A, h => by
  unfold pZ
  rw [if_pos (h y (List.mem_cons_self ..)), aU8 fun z hz => h z (List.mem_cons_of_mem _ hz)]; rfl
theorem aPb {x y : Int} (hxy : x < y) : ∀ {A : List Int}, pZ x (A ++ [y]) = pZ x A ++ [y]
 | [] => by
  show (if y < x then y :: pZ x [] else x :: y :: []) = _
  rw [if_neg (by omega)]; rfl
 | z :: A => by
  show pZ x (z :: (A ++ [y])) = _
  unfold pZ
  split
  ·
   rw [aPb hxy]; rfl
  ·
   rfl
theorem aYi (x y : Int) : oY x y = some (decide (x < y)) := by
 have h : ∀ z : Int, eX z = some false := fun z => by unfold eX; simp
 unfold oY
 rw [h x, aA, gf' (by rfl), aA]
 simp
theorem set_mid (A B : List Int) (x y : Int) : (A ++ x :: B).set A.length y = A ++ y :: B := by
 rw [List.set_append_right _ _ (Nat.le_refl _), Nat.sub_self]; rfl
theorem aR0 (A B : List Int) (x : Int) : (A ++ x :: B)[A.length]? = some x := by
 rw [List.getElem?_append_right (Nat.le_refl _), Nat.sub_self]; rfl
theorem bA6 (rec1 : List Int → Int → Int → Int → Option (List Int)) (b i x : Int) : ∀ (m : Nat) (A B : List Int), A.length < m → A.length < 1000000 → A.Pairwise (· < ·) → x ∉ A →
 cL rec1 m (A ++ x :: B) 0 b i (A.length : Int) = rec1 (pZ x A ++ B) 0 b (IntKind.i64.wrap (i + 1))
 | 0, A, B, hm, _, _, _ => by omega
 | m + 1, A, B, hm, hA, hp, hx => by
  show cU rec1 (cL rec1 m) _ _ _ _ _ = _
  unfold cU
  rcases List.eq_nil_or_concat A with rfl | ⟨A', y, eA⟩
  ·
   rw [gf' (by rfl), aA, gf' (by rfl), aA, gf' (by rfl), aA, bf (by rfl)]
   rfl
  ·
   rw [List.concat_eq_append] at eA
   subst eA
   have hl : (A' ++ [y]).length = A'.length + 1 := by simp
   rw [hl] at hm hA ⊢
   have c0 : (decide ((0 : Int) < ((A'.length + 1 : Nat) : Int)) == true) = true := by simp
   have ew : IntKind.i64.wrap (((A'.length + 1 : Nat) : Int) - 1) = (A'.length : Int) := by rw [wr0 (by omega) (by omega)]; omega
   have g1 : (A' ++ [y] ++ x :: B)[A'.length + 1]? = some x := by have := aR0 (A' ++ [y]) B x; rwa [hl] at this
   have e0 : A' ++ [y] ++ x :: B = A' ++ y :: x :: B := by simp
   have g2 : (A' ++ [y] ++ x :: B)[A'.length]? = some y := by rw [e0]; exact aR0 A' _ y
   have s1 : (A' ++ [y] ++ x :: B).set (A'.length + 1) y = A' ++ y :: y :: B := by have := set_mid (A' ++ [y]) B x y; rw [hl] at this; rw [this]; simp
   have s2 : (A' ++ y :: y :: B).set A'.length x = A' ++ x :: y :: B := set_mid A' _ y x
   have g3 : (A' ++ y :: y :: B)[A'.length]? = some y := aR0 A' _ y
   obtain ⟨p1, p2, p3⟩ := List.pairwise_append.1 hp
   rw [ew, gt' c0, fI, g1, aA, gt' c0, fI, g2, aA, gt' c0, aYi, aA]
   by_cases c : x < y
   ·
    rw [bt (by simp [c]), aA, aA, aA, iZ (by simp), s1, aA, fI, g3, aA, iZ (by simp), s2, aA]
    rw [bA6 rec1 b i x m A' (y :: B) (by omega) (by omega) p1 (fun h => hx (List.mem_append_left _ h)), aPb c]
    simp
   ·
    rw [bf (by simp [c])]
    have hxy : y < x := by
     have : x ≠ y := fun e => hx (by rw [e]; simp)
     omega
    rw [aU8 fun z hz => ?_]
    ·
     simp
    ·
     rcases List.mem_append.1 hz with q | q
     ·
      have := p3 z q y (by simp); omega
     ·
      have : z = y := by simpa using q
      omega
theorem aZ0 (b : Int) : ∀ (m : Nat) (R S : List Int), R.length < m → (b : Int) = ((S.length + R.length : Nat) : Int) → S.length + R.length < 1000000 → S.Pairwise (· < ·) → (∀ x, x ∈ R → x ∉ S) → R.Nodup →
 bQ m (S ++ R) 0 b (S.length : Int) = some (R.foldl (fun out x => pZ x out) S)
 | 0, R, S, hm, _, _, _, _, _ => by omega
 | m + 1, R, S, hm, hb, hl, hp, hd, hn => by
  have hFU := FU'
  show cC (bQ m) _ _ _ _ = _
  unfold cC
  cases R with
  | nil => rw [bf (by simp at hb; simp; omega)]; simp
  | cons x R =>
   obtain ⟨n1, n2⟩ := List.nodup_cons.1 hn
   rw [List.length_cons] at hm hb hl
   have hx := hd x (List.mem_cons_self ..)
   rw [bt (by simp; omega), bA6 _ b _ x bF S R (by omega) (by omega) hp hx, wr1 _ (by omega)]
   have := aZ0 b m R (pZ x S) (by omega) (by rw [wJ]; omega) (by rw [wJ]; omega) (aS0 hp hx) (fun z hz q => by
    rcases aA9.1 q with rfl | q
    ·
     exact n1 hz
    ·
     exact hd z (List.mem_cons_of_mem _ hz) q) n2
   rw [wJ] at this
   exact this
theorem aNj : ∀ n : Fin 13, (zY (IntKind.u64.wrap ((n.val : Nat) : Int))).isSome = true := by decide +kernel
theorem bI3 {l : List Int} (hl : l.length ≤ 12) (hn : l.Nodup) : gB l = some (aLy l) := by
 have hFU := FU'
 obtain ⟨r, hr⟩ := Option.isSome_iff_exists.1 (aNj ⟨l.length, by omega⟩)
 unfold gB
 rw [hr, aA]
 unfold fK
 obtain ⟨F, hF⟩ : ∃ F, bF = F + 1 := ⟨bF - 1, by omega⟩
 rw [hF]
 have e : dD l 0 (l.length : Int) = some (aLy l) := by
  unfold dD
  rw [show IntKind.i64.wrap ((0 : Int) + 1) = 1 from by decide]
  cases l with
  | nil =>
   rw [hF]
   show cC _ _ _ _ _ = _
   unfold cC
   rw [bf (by rfl)]; rfl
  | cons x l =>
   obtain ⟨n1, n2⟩ := List.nodup_cons.1 hn
   rw [List.length_cons] at hl
   exact aZ0 _ bF l [x] (by omega) (by simp; omega) (by simp; omega) (by simp) (fun z hz q => by
    have : z = x := by simpa using q
    exact n1 (this ▸ hz)) n2
 have e2 : dV (F + 1) l 0 (l.length : Int) r true true = some (aLy l) := by
  show dT _ _ _ _ _ _ _ = _
  unfold dT
  rw [wr0 (by omega) (by omega), bt (by simp; omega), e]
  simp [aC7, aGy]
 rw [e2]
 simp [aC7, aGy]
end Go.Proofs.YtkdohhmacfoolaaGreat
set_option linter.unusedVariables false
set_option linter.unusedSimpArgs false
set_option maxRecDepth 20000
set_option maxHeartbeats 1000000
namespace Go.Proofs.YtkdohhmacfoolaaGreat
open Go Go.AM Go.Pl Go.Pt Go.Ix
def usd (l : List aM) (v : Int) : Bool := ((l[v.toNat]?).map (·.Used)).getD false
theorem aAg {l : List aM} {v : Int} : usd l v = true ↔ Usd l v := by
 unfold usd Usd At
 cases h : l[v.toNat]? with
 | none => simp
 | some s =>
  cases s with
  | mk u k => cases u <;> simp
theorem aX9 (s : aE) (l : List Int) (hl : l.length ≤ 500) (hr : ∀ v, v ∈ l → 0 ≤ v ∧ v < s.Slots.length) : ∀ (m i : Nat) (out : List Int), l.length < i + m → i ≤ l.length → out.length ≤ i →
 nA m s out l (l.length : Int) (i : Int) = (let r := out ++ ((l.drop i).filter (usd s.Slots)).map (kv s.Slots); (aC7 (fun x => x.length) r.length (gB r)).bind fun l10 => some l10)
 | 0, i, out, hm, hi, _ => by omega
 | m + 1, i, out, hm, hi, ho => by
  show aBx (nA m) _ _ _ _ _ = _
  unfold aBx vU
  by_cases c : i < l.length
  ·
   obtain ⟨r0, r1⟩ := hr _ (List.getElem_mem c)
   have hj : l[i].toNat < s.Slots.length := by omega
   have ei : idx s.Slots l[i] = some s.Slots[l[i].toNat] := by
    have := bW hj
    rwa [Int.toNat_of_nonneg r0] at this
   have eu : usd s.Slots l[i] = s.Slots[l[i].toNat].Used := by unfold usd; rw [List.getElem?_eq_getElem hj]; rfl
   have ek : kv s.Slots l[i] = s.Slots[l[i].toNat].Key := by unfold kv; rw [List.getElem?_eq_getElem hj]; rfl
   rw [bt (by simpa using c), bW c, aA, ei, aA, cR c, List.filter_cons, eu, wr1 i (by omega)]
   cases q : s.Slots[l[i].toNat].Used with
   | true =>
    rw [bt rfl, aA, dY (by simp; omega), aA, if_pos rfl, aX9 s l hl hr m (i + 1) _ (by omega) c (by simp; omega), List.map_cons, ek]
    simp
   | false =>
    rw [bf rfl, if_neg (by simp), aX9 s l hl hr m (i + 1) _ (by omega) c (by omega)]
  ·
   rw [bf (by simpa using c), List.drop_eq_nil_of_le (by omega)]
   simp
theorem aR3 {s : aE} {l : List Int} (hl : l.length ≤ 12) (hr : ∀ v, v ∈ l → 0 ≤ v ∧ v < s.Slots.length) (hn : ((l.filter (usd s.Slots)).map (kv s.Slots)).Nodup) : mD s l = some (aLy ((l.filter (usd s.Slots)).map (kv s.Slots))) := by
 have hFU := FU'
 unfold mD
 have := aX9 s l (by omega) hr bF 0 [] (by omega) (Nat.zero_le _) (Nat.le_refl _)
 rw [show ((0 : Nat) : Int) = 0 from rfl] at this
 have hf := List.length_filter_le (usd s.Slots) l
 rw [this, List.drop_zero, List.nil_append]
 simp only []
 rw [bI3 (by rw [List.length_map]; omega) hn]
 simp [aC7, aGy]
section
variable {c : aO} {s : aE} {m : aC} (R : Rel c s m)
include R
theorem Rel.kv_nodup {l : List Int} (hl : ∀ v, v ∈ l → 0 ≤ v) (hn : l.Nodup) : ((l.filter (usd s.Slots)).map (kv s.Slots)).Nodup := by
 refine List.pairwise_map.2 ((hn.filter _).imp_of_mem fun {a b} ha hb h e => h ?_)
 obtain ⟨a1, a2⟩ := List.mem_filter.1 ha
 obtain ⟨b1, b2⟩ := List.mem_filter.1 hb
 have := R.ok.v.inj _ _ _ (rY (aAg.1 a2)) (by rw [e]; exact rY (aAg.1 b2))
 have := hl a a1
 have := hl b b1
 omega
end
section
variable {c : aO} {s : aE} {m : aC} (R : Rel c s m) (hS : s.Slots.length ≤ 12) (hE : s.Graph.Edges.length < 10000)
include R hS hE
omit hE in
theorem ans {d a b : Int} {text : ByteArray} {vA vB : Int} {bA bB : Bool} (h5 : 5 ≤ d) (h15 : d ≤ 13) (fA : Fd s a vA bA) (fB : Fd s b vB bB) {rA rB : Bool} (eA : vG d = some rA) (eB : vP d = some rB) (ok : ((rA && !bA) || (rB && !bB)) = false) {r : GA} (h : iE s d vA vB = some r) :
 dK s ⟨d, a, b, text⟩ = some (s, r) := by
 rw [aU4 R (by omega) (by simp; omega) fA fB eA eB, ok, bf (by rfl), bt (by simp; omega), h, aA]
omit hE in
theorem bSv {a : Int} {i : Nat} (h : At s.Slots i a) : Fd s a (i : Int) true := by
 obtain ⟨v, b, f⟩ := fd R (by omega) a
 rcases f.c with ⟨rfl, j, rfl, hj⟩ | ⟨_, _, no⟩
 ·
  have := R.ok.v.inj _ _ _ hj h
  subst this; exact f
 ·
  exact absurd h (no i)
end
end Go.Proofs.YtkdohhmacfoolaaGreat
set_option linter.unusedVariables false
set_option linter.unusedSimpArgs false
set_option maxRecDepth 20000
set_option maxHeartbeats 1000000
namespace Go.Proofs.YtkdohhmacfoolaaGreat
open Go Go.AM Go.Pl Go.Pt Go.Ix
theorem bLu (n : Int) (l : List aY) (hl : l.length < 1000000) : ∀ (m i : Nat), l.length < i + m → i ≤ l.length → ∃ r, tX m n l (l.length : Int) (i : Int) = some r ∧ (r = -1 ∨ r = n)
 | 0, i, hm, hi => by omega
 | m + 1, i, hm, hi => by
  show ∃ r, aDr (tX m) _ _ _ _ = some r ∧ _
  unfold aDr
  by_cases c : i < l.length
  ·
   rw [bt (by simpa using c), bW c, aA, wr1 i (by omega)]
   by_cases q : 1000 < l[i].Text.size
   ·
    rw [bt (by simp; omega)]
    exact ⟨_, rfl, .inl rfl⟩
   ·
    rw [bf (by simp; omega)]
    exact bLu n l hl m (i + 1) (by omega) c
  ·
   rw [bf (by simpa using c)]
   exact ⟨_, rfl, .inr rfl⟩
theorem bMr (c : aO) (l : List aY) {most : Nat} (hm : most ≤ 1000) : ∃ r, mN c l (most : Int) = some r ∧ (r = -1 ∨ ∃ n : Nat, r = (n : Int) ∧ n ≤ l.length ∧ n ≤ most ∧ c.N ≤ 10 ∧ c.L ≤ 4 ∧ c.R ≤ 3) := by
 have hFU := FU'
 unfold mN
 by_cases q : (10 < c.N ∨ 4 < c.L) ∨ 3 < c.R
 ·
  rw [bt (by simp; omega)]
  exact ⟨_, rfl, .inl rfl⟩
 ·
  rw [bf (by simp; omega)]
  have e : (if (most : Int) < (l.length : Int) then (most : Int) else (l.length : Int)) = ((min most l.length : Nat) : Int) := by
   split <;> omega
  rw [e, uJ rfl (by omega), aA]
  obtain ⟨r, h1, h2⟩ := bLu ((min most l.length : Nat) : Int) (l.take (min most l.length)) (by simp; omega) bF 0 (by simp; omega) (Nat.zero_le _)
  refine ⟨r, h1, h2.imp id fun h => ⟨_, h, by omega, by omega, by omega, by omega, by omega⟩⟩
theorem bKd {c : aO} (hc : aJ9 c) {r : List bT} (h2 : (r.length : Int) = c.L * c.R) (h3 : hsB r = true) (h4 : ∀ x, x ∈ r → 0 ≤ x.A ∧ 0 ≤ x.B) (h5 : r.length ≤ 128) : Rel c ⟨⟨c, r, []⟩, List.replicate c.N.toNat ⟨false, 0⟩⟩ ⟨c.N, [], []⟩ := by
 have ok := bLf hc h2 h3
 refine ⟨ok, ⟨ok.g, fun x hx => h4 x hx, by simp, by show r.length < _; omega⟩, rfl, rfl, ?_, List.Perm.refl _⟩
 have : uk (List.replicate c.N.toNat (⟨false, 0⟩ : aM)) = [] := by unfold uk; simp
 show List.Perm [] (uk (List.replicate c.N.toNat ⟨false, 0⟩))
 rw [this]
theorem start {c : aO} {words : List Int} (hw : W64 words) (hb : words.length ≤ 1048576) (l : List aY) {most : Nat} (hm : most ≤ 1000) : ∃ r2 s w e, mN c l (most : Int) = some r2 ∧ jQ c ⟨words, 0⟩ = some (s, w, e) ∧
 ((decide (r2 < 0) || (e != 0)) = true ∨ ((decide (r2 < 0) || (e != 0)) = false ∧ ∃ n : Nat, r2 = (n : Int) ∧ n ≤ l.length ∧ n ≤ most ∧ Rel c s ⟨c.N, [], []⟩ ∧ s.Slots.length ≤ 10 ∧ s.Graph.Edges = [])) := by
 obtain ⟨r2, f1, f2⟩ := bMr c l hm
 obtain ⟨n1, n2⟩ := aTu (c := c) (l := words) (by omega) hw 0
 by_cases hc : aJ9 c
 ·
  obtain ⟨_, n4⟩ := n2 hc
  obtain ⟨n5, n6⟩ := n4 0 rfl (Nat.zero_le _)
  cases eh : hs words (c.L * c.R).toNat 0 with
  | none => exact ⟨r2, _, _, _, f1, n5 eh, .inl (by simp)⟩
  | some x =>
   refine ⟨r2, _, _, _, f1, n6 x.1 x.2 eh, ?_⟩
   rcases f2 with rfl | ⟨n, rfl, q1, q2, q3, q4, q5⟩
   ·
    exact .inl (by simp)
   ·
    obtain ⟨k, hk, hk2⟩ := lr hc
    obtain ⟨c1, c2, c3, c4⟩ := aRm words _ 0 (show hs words (c.L * c.R).toNat 0 = some (x.1, x.2) from eh) (Nat.zero_le _)
    rw [hk, Int.toNat_natCast] at c1
    refine .inr ⟨by simp, n, rfl, q1, q2, bKd hc (by rw [c1, hk]) c3 c4 (by omega), by simp; omega, rfl⟩
 ·
  exact ⟨r2, _, _, _, f1, n1 hc, .inl (by simp)⟩
theorem Rel.knodup {c : aO} {s : aE} {m : aC} (R : Rel c s m) : m.Keys.Nodup := by
 refine R.keys.nodup_iff.2 ?_
 unfold uk
 rw [List.Nodup, List.pairwise_map]
 have : ∀ (l : List aM), (∀ i j k, At l i k → At l j k → i = j) → (l.filter (·.Used)).Pairwise fun a b => a.Key ≠ b.Key := by
  intro l
  induction l with
  | nil => intro _; simp
  | cons x l ih =>
   intro h
   have ih := ih fun i j k a b => by
    have := h (i + 1) (j + 1) k a b
    omega
   rw [List.filter_cons]
   split
   ·
    rename_i hx
    refine List.pairwise_cons.2 ⟨fun y hy e => ?_, ih⟩
    obtain ⟨y1, y2⟩ := List.mem_filter.1 hy
    obtain ⟨j, hj⟩ := List.getElem?_of_mem y1
    have := h 0 (j + 1) x.Key (by show (x :: l)[0]? = _; cases x; cases hx; rfl) (by
     show (x :: l)[j + 1]? = _
     rw [List.getElem?_cons_succ, hj, e]
     cases y; cases y2; rfl)
    omega
   ·
    exact ih
 exact this s.Slots R.ok.v.inj
theorem Rel.pair_keys {c : aO} {s : aE} {m : aC} (R : Rel c s m) {p : aI} (h : p ∈ m.Pairs) : p.x0 ≠ p.x1 ∧ p.x0 ∈ m.Keys ∧ p.x1 ∈ m.Keys := by
 rw [R.pairs.mem_iff, List.mem_map] at h
 obtain ⟨q, hq, rfl⟩ := h
 obtain ⟨e, he, rfl⟩ := fQ.1 hq
 obtain ⟨e1, e2, e3, u1, u2⟩ := R.edge he
 have k1 := rY u1
 have k2 := rY u2
 have ne : kv s.Slots e.U ≠ kv s.Slots e.V := fun w => by
  have := R.ok.v.inj _ _ _ k1 (by rw [w]; exact k2)
  omega
 have m1 := (R.mem _).2 ⟨_, k1⟩
 have m2 := (R.mem _).2 ⟨_, k2⟩
 unfold sB pr2
 simp only []
 split
 ·
  exact ⟨fun w => ne w.symm, m2, m1⟩
 ·
  exact ⟨ne, m1, m2⟩
end Go.Proofs.YtkdohhmacfoolaaGreat
