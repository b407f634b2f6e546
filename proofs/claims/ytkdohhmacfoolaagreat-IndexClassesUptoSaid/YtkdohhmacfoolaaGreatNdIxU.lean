/- Facts that the statement's proof is made of. No condition. -/
import Derived.Test.YtkdohhmacfoolaaGreatNdIxR
set_option linter.unusedVariables false
set_option linter.unusedSimpArgs false
set_option maxRecDepth 20000
set_option maxHeartbeats 1000000
namespace Go.Proofs.YtkdohhmacfoolaaGreat
open Go Go.AM Go.Pl Go.Pt Go.Ix
theorem aRq {x : Int} : ∀ {A : List Int}, (∀ z, z ∈ A → z < x) → qY x A = A ++ [x]
 | [], _ => rfl
 | y :: A, h => by
  unfold qY
  rw [if_pos (h y (List.mem_cons_self ..)), aRq fun z hz => h z (List.mem_cons_of_mem _ hz)]; rfl
theorem aNr {x y : Int} (hxy : x < y) : ∀ {A : List Int}, qY x (A ++ [y]) = qY x A ++ [y]
 | [] => by
  show (if y < x then y :: qY x [] else x :: y :: []) = _
  rw [if_neg (by omega)]; rfl
 | z :: A => by
  show qY x (z :: (A ++ [y])) = _
  unfold qY
  split
  ·
   rw [aNr hxy]; rfl
  ·
   rfl
theorem aVk (x y : Int) : nX x y = some (decide (x < y)) := by
 have h : ∀ z : Int, fT z = some false := fun z => by unfold fT; simp
 unfold nX
 rw [h x, aA, gf' (by rfl), aA]
 simp
theorem set_mid (A B : List Int) (x y : Int) : (A ++ x :: B).set A.length y = A ++ y :: B := by
 rw [List.set_append_right _ _ (Nat.le_refl _), Nat.sub_self]; rfl
theorem aP5 (A B : List Int) (x : Int) : (A ++ x :: B)[A.length]? = some x := by
 rw [List.getElem?_append_right (Nat.le_refl _), Nat.sub_self]; rfl
theorem aX7 (rec1 : List Int → Int → Int → Int → Option (List Int)) (b i x : Int) : ∀ (m : Nat) (A B : List Int), A.length < m → A.length < 1000000 → A.Pairwise (· < ·) → x ∉ A →
 cG rec1 m (A ++ x :: B) 0 b i (A.length : Int) = rec1 (qY x A ++ B) 0 b (IntKind.i64.wrap (i + 1))
 | 0, A, B, hm, _, _, _ => by omega
 | m + 1, A, B, hm, hA, hp, hx => by
  show cO rec1 (cG rec1 m) _ _ _ _ _ = _
  unfold cO
  rcases List.eq_nil_or_concat A with rfl | ⟨A', y, eA⟩
  ·
   rw [gf' (by rfl), aA, gf' (by rfl), aA, gf' (by rfl), aA, bf (by rfl)]
   rfl
  ·
   rw [List.concat_eq_append] at eA
   subst eA
   have hl : (A' ++ [y]).length = A'.length + 1 := by simp
   rw [hl] at hm hA ⊢
   have c0 : (decide ((0 : Int) < ((A'.length + 1 : Nat) : Int)) == true) = true := by simp
   have ew : IntKind.i64.wrap (((A'.length + 1 : Nat) : Int) - 1) = (A'.length : Int) := by rw [wr0 (by omega) (by omega)]; omega
   have g1 : (A' ++ [y] ++ x :: B)[A'.length + 1]? = some x := by have := aP5 (A' ++ [y]) B x; rwa [hl] at this
   have e0 : A' ++ [y] ++ x :: B = A' ++ y :: x :: B := by simp
   have g2 : (A' ++ [y] ++ x :: B)[A'.length]? = some y := by rw [e0]; exact aP5 A' _ y
   have s1 : (A' ++ [y] ++ x :: B).set (A'.length + 1) y = A' ++ y :: y :: B := by have := set_mid (A' ++ [y]) B x y; rw [hl] at this; rw [this]; simp
   have s2 : (A' ++ y :: y :: B).set A'.length x = A' ++ x :: y :: B := set_mid A' _ y x
   have g3 : (A' ++ y :: y :: B)[A'.length]? = some y := aP5 A' _ y
   obtain ⟨p1, p2, p3⟩ := List.pairwise_append.1 hp
   rw [ew, gt' c0, gA, g1, aA, gt' c0, gA, g2, aA, gt' c0, aVk, aA]
   by_cases c : x < y
   ·
    rw [bt (by simp [c]), aA, aA, aA, jW (by simp), s1, aA, gA, g3, aA, jW (by simp), s2, aA]
    rw [aX7 rec1 b i x m A' (y :: B) (by omega) (by omega) p1 (fun h => hx (List.mem_append_left _ h)), aNr c]
    simp
   ·
    rw [bf (by simp [c])]
    have hxy : y < x := by
     have : x ≠ y := fun e => hx (by rw [e]; simp)
     omega
    rw [aRq fun z hz => ?_]
    ·
     simp
    ·
     rcases List.mem_append.1 hz with q | q
     ·
      have := p3 z q y (by simp); omega
     ·
      have : z = y := by simpa using q
      omega
theorem aX9 (b : Int) : ∀ (m : Nat) (R S : List Int), R.length < m → (b : Int) = ((S.length + R.length : Nat) : Int) → S.length + R.length < 1000000 → S.Pairwise (· < ·) → (∀ x, x ∈ R → x ∉ S) → R.Nodup →
 bN m (S ++ R) 0 b (S.length : Int) = some (R.foldl (fun out x => qY x out) S)
 | 0, R, S, hm, _, _, _, _, _ => by omega
 | m + 1, R, S, hm, hb, hl, hp, hd, hn => by
  have hFU := FU'
  show bW (bN m) _ _ _ _ = _
  unfold bW
  cases R with
  | nil => rw [bf (by simp at hb; simp; omega)]; simp
  | cons x R =>
   obtain ⟨n1, n2⟩ := List.nodup_cons.1 hn
   rw [List.length_cons] at hm hb hl
   have hx := hd x (List.mem_cons_self ..)
   rw [bt (by simp; omega), aX7 _ b _ x bK S R (by omega) (by omega) hp hx, wr1 _ (by omega)]
   have := aX9 b m R (qY x S) (by omega) (by rw [yT]; omega) (by rw [yT]; omega) (aOa hp hx) (fun z hz q => by
    rcases aBe.1 q with rfl | q
    ·
     exact n1 hz
    ·
     exact hd z (List.mem_cons_of_mem _ hz) q) n2
   rw [yT] at this
   exact this
theorem aUu : ∀ n : Fin 13, (yS (IntKind.u64.wrap ((n.val : Nat) : Int))).isSome = true := by decide +kernel
theorem bEp {l : List Int} (hl : l.length ≤ 12) (hn : l.Nodup) : fU l = some (aOw l) := by
 have hFU := FU'
 obtain ⟨r, hr⟩ := Option.isSome_iff_exists.1 (aUu ⟨l.length, by omega⟩)
 unfold fU
 rw [hr, aA]
 unfold eZ
 obtain ⟨F, hF⟩ : ∃ F, bK = F + 1 := ⟨bK - 1, by omega⟩
 rw [hF]
 have e : cX l 0 (l.length : Int) = some (aOw l) := by
  unfold cX
  rw [show IntKind.i64.wrap ((0 : Int) + 1) = 1 from by decide]
  cases l with
  | nil =>
   rw [hF]
   show bW _ _ _ _ _ = _
   unfold bW
   rw [bf (by rfl)]; rfl
  | cons x l =>
   obtain ⟨n1, n2⟩ := List.nodup_cons.1 hn
   rw [List.length_cons] at hl
   exact aX9 _ bK l [x] (by omega) (by simp; omega) (by simp; omega) (by simp) (fun z hz q => by
    have : z = x := by simpa using q
    exact n1 (this ▸ hz)) n2
 have e2 : dO (F + 1) l 0 (l.length : Int) r true true = some (aOw l) := by
  show dN _ _ _ _ _ _ _ = _
  unfold dN
  rw [wr0 (by omega) (by omega), bt (by simp; omega), e]
  simp [aFj, aF2]
 rw [e2]
 simp [aFj, aF2]
end Go.Proofs.YtkdohhmacfoolaaGreat
set_option linter.unusedVariables false
set_option linter.unusedSimpArgs false
set_option maxRecDepth 20000
set_option maxHeartbeats 1000000
namespace Go.Proofs.YtkdohhmacfoolaaGreat
open Go Go.AM Go.Pl Go.Pt Go.Ix
def usd (l : List aJ) (v : Int) : Bool := ((l[v.toNat]?).map (·.Used)).getD false
theorem aCw {l : List aJ} {v : Int} : usd l v = true ↔ Usd l v := by
 unfold usd Usd At
 cases h : l[v.toNat]? with
 | none => simp
 | some s =>
  cases s with
  | mk u k => cases u <;> simp
theorem aV2 (s : aD) (l : List Int) (hl : l.length ≤ 500) (hr : ∀ v, v ∈ l → 0 ≤ v ∧ v < s.Slots.length) : ∀ (m i : Nat) (out : List Int), l.length < i + m → i ≤ l.length → out.length ≤ i →
 mC m s out l (l.length : Int) (i : Int) = (let r := out ++ ((l.drop i).filter (usd s.Slots)).map (kv s.Slots); (aFj (fun x => x.length) r.length (fU r)).bind fun l10 => some l10)
 | 0, i, out, hm, hi, _ => by omega
 | m + 1, i, out, hm, hi, ho => by
  show aA4 (mC m) _ _ _ _ _ = _
  unfold aA4 tX
  by_cases c : i < l.length
  ·
   obtain ⟨r0, r1⟩ := hr _ (List.getElem_mem c)
   have hj : l[i].toNat < s.Slots.length := by omega
   have ei : idx s.Slots l[i] = some s.Slots[l[i].toNat] := by
    have := cJ hj
    rwa [Int.toNat_of_nonneg r0] at this
   have eu : usd s.Slots l[i] = s.Slots[l[i].toNat].Used := by unfold usd; rw [List.getElem?_eq_getElem hj]; rfl
   have ek : kv s.Slots l[i] = s.Slots[l[i].toNat].Key := by unfold kv; rw [List.getElem?_eq_getElem hj]; rfl
   rw [bt (by simpa using c), cJ c, aA, ei, aA, dQ c, List.filter_cons, eu, wr1 i (by omega)]
   cases q : s.Slots[l[i].toNat].Used with
   | true =>
    rw [bt rfl, aA, fF (by simp; omega), aA, if_pos rfl, aV2 s l hl hr m (i + 1) _ (by omega) c (by simp; omega), List.map_cons, ek]
    simp
   | false =>
    rw [bf rfl, if_neg (by simp), aV2 s l hl hr m (i + 1) _ (by omega) c (by omega)]
  ·
   rw [bf (by simpa using c), List.drop_eq_nil_of_le (by omega)]
   simp
theorem aPo {s : aD} {l : List Int} (hl : l.length ≤ 12) (hr : ∀ v, v ∈ l → 0 ≤ v ∧ v < s.Slots.length) (hn : ((l.filter (usd s.Slots)).map (kv s.Slots)).Nodup) : lZ s l = some (aOw ((l.filter (usd s.Slots)).map (kv s.Slots))) := by
 have hFU := FU'
 unfold lZ
 have := aV2 s l (by omega) hr bK 0 [] (by omega) (Nat.zero_le _) (Nat.le_refl _)
 rw [show ((0 : Nat) : Int) = 0 from rfl] at this
 have hf := List.length_filter_le (usd s.Slots) l
 rw [this, List.drop_zero, List.nil_append]
 simp only []
 rw [bEp (by rw [List.length_map]; omega) hn]
 simp [aFj, aF2]
section
variable {c : aN} {s : aD} {m : aE} (R : Rel c s m)
include R
theorem Rel.kv_nodup {l : List Int} (hl : ∀ v, v ∈ l → 0 ≤ v) (hn : l.Nodup) : ((l.filter (usd s.Slots)).map (kv s.Slots)).Nodup := by
 refine List.pairwise_map.2 ((hn.filter _).imp_of_mem fun {a b} ha hb h e => h ?_)
 obtain ⟨a1, a2⟩ := List.mem_filter.1 ha
 obtain ⟨b1, b2⟩ := List.mem_filter.1 hb
 have := R.ok.v.inj _ _ _ (aLl (aCw.1 a2)) (by rw [e]; exact aLl (aCw.1 b2))
 have := hl a a1
 have := hl b b1
 omega
end
section
variable {c : aN} {s : aD} {m : aE} (R : Rel c s m) (hS : s.Slots.length ≤ 12) (hE : s.Graph.Edges.length < 10000)
include R hS hE
omit hE in
theorem ans {d a b : Int} {text : ByteArray} {vA vB : Int} {bA bB : Bool} (h5 : 5 ≤ d) (h15 : d ≤ 13) (fA : Fd s a vA bA) (fB : Fd s b vB bB) {rA rB : Bool} (eA : tZ d = some rA) (eB : uD d = some rB) (ok : ((rA && !bA) || (rB && !bB)) = false) {r : GA} (h : gZ s d vA vB = some r) :
 dI s ⟨d, a, b, text⟩ = some (s, r) := by
 rw [aS1 R (by omega) (by simp; omega) fA fB eA eB, ok, bf (by rfl), bt (by simp; omega), h, aA]
omit hE in
theorem aWk {a : Int} {i : Nat} (h : At s.Slots i a) : Fd s a (i : Int) true := by
 obtain ⟨v, b, f⟩ := fd R (by omega) a
 rcases f.c with ⟨rfl, j, rfl, hj⟩ | ⟨_, _, no⟩
 ·
  have := R.ok.v.inj _ _ _ hj h
  subst this; exact f
 ·
  exact absurd h (no i)
end
end Go.Proofs.YtkdohhmacfoolaaGreat
set_option linter.unusedVariables false
set_option linter.unusedSimpArgs false
set_option maxRecDepth 20000
set_option maxHeartbeats 1000000
namespace Go.Proofs.YtkdohhmacfoolaaGreat
open Go Go.AM Go.Pl Go.Pt Go.Ix
theorem bH9 (n : Int) (l : List bD) (hl : l.length < 1000000) : ∀ (m i : Nat), l.length < i + m → i ≤ l.length → ∃ r, tB m n l (l.length : Int) (i : Int) = some r ∧ (r = -1 ∨ r = n)
 | 0, i, hm, hi => by omega
 | m + 1, i, hm, hi => by
  show ∃ r, aB7 (tB m) _ _ _ _ = some r ∧ _
  unfold aB7
  by_cases c : i < l.length
  ·
   rw [bt (by simpa using c), cJ c, aA, wr1 i (by omega)]
   by_cases q : 1000 < l[i].Text.size
   ·
    rw [bt (by simp; omega)]
    exact ⟨_, rfl, .inl rfl⟩
   ·
    rw [bf (by simp; omega)]
    exact bH9 n l hl m (i + 1) (by omega) c
  ·
   rw [bf (by simpa using c)]
   exact ⟨_, rfl, .inr rfl⟩
theorem bIv (c : aN) (l : List bD) {most : Nat} (hm : most ≤ 1000) : ∃ r, rC c l (most : Int) = some r ∧ (r = -1 ∨ ∃ n : Nat, r = (n : Int) ∧ n ≤ l.length ∧ n ≤ most ∧ c.N ≤ 10 ∧ c.L ≤ 4 ∧ c.R ≤ 3) := by
 have hFU := FU'
 unfold rC
 by_cases q : (10 < c.N ∨ 4 < c.L) ∨ 3 < c.R
 ·
  rw [bt (by simp; omega)]
  exact ⟨_, rfl, .inl rfl⟩
 ·
  rw [bf (by simp; omega)]
  have e : (if (most : Int) < (l.length : Int) then (most : Int) else (l.length : Int)) = ((min most l.length : Nat) : Int) := by
   split <;> omega
  rw [e, zJ rfl (by omega), aA]
  obtain ⟨r, h1, h2⟩ := bH9 ((min most l.length : Nat) : Int) (l.take (min most l.length)) (by simp; omega) bK 0 (by simp; omega) (Nat.zero_le _)
  refine ⟨r, h1, h2.imp id fun h => ⟨_, h, by omega, by omega, by omega, by omega, by omega⟩⟩
theorem bG3 {c : aN} (hc : aI6 c) {r : List bS} (h2 : (r.length : Int) = c.L * c.R) (h3 : hsB r = true) (h4 : ∀ x, x ∈ r → 0 ≤ x.A ∧ 0 ≤ x.B) (h5 : r.length ≤ 128) : Rel c ⟨⟨c, r, []⟩, List.replicate c.N.toNat ⟨false, 0⟩⟩ ⟨c.N, [], []⟩ := by
 have ok := bF2 hc h2 h3
 refine ⟨ok, ⟨ok.g, fun x hx => h4 x hx, by simp, by show r.length < _; omega⟩, rfl, rfl, ?_, List.Perm.refl _⟩
 have : uk (List.replicate c.N.toNat (⟨false, 0⟩ : aJ)) = [] := by unfold uk; simp
 show List.Perm [] (uk (List.replicate c.N.toNat ⟨false, 0⟩))
 rw [this]
theorem start {c : aN} {words : List Int} (hw : W64 words) (hb : words.length ≤ 1048576) (l : List bD) {most : Nat} (hm : most ≤ 1000) : ∃ r2 s w e, rC c l (most : Int) = some r2 ∧ jZ c ⟨words, 0⟩ = some (s, w, e) ∧
 ((decide (r2 < 0) || (e != 0)) = true ∨ ((decide (r2 < 0) || (e != 0)) = false ∧ ∃ n : Nat, r2 = (n : Int) ∧ n ≤ l.length ∧ n ≤ most ∧ Rel c s ⟨c.N, [], []⟩ ∧ s.Slots.length ≤ 10 ∧ s.Graph.Edges = [])) := by
 obtain ⟨r2, f1, f2⟩ := bIv c l hm
 obtain ⟨n1, n2⟩ := aSi (c := c) (l := words) (by omega) hw 0
 by_cases hc : aI6 c
 ·
  obtain ⟨_, n4⟩ := n2 hc
  obtain ⟨n5, n6⟩ := n4 0 rfl (Nat.zero_le _)
  cases eh : hs words (c.L * c.R).toNat 0 with
  | none => exact ⟨r2, _, _, _, f1, n5 eh, .inl (by simp)⟩
  | some x =>
   refine ⟨r2, _, _, _, f1, n6 x.1 x.2 eh, ?_⟩
   rcases f2 with rfl | ⟨n, rfl, q1, q2, q3, q4, q5⟩
   ·
    exact .inl (by simp)
   ·
    obtain ⟨k, hk, hk2⟩ := lr hc
    obtain ⟨c1, c2, c3, c4⟩ := aO6 words _ 0 (show hs words (c.L * c.R).toNat 0 = some (x.1, x.2) from eh) (Nat.zero_le _)
    rw [hk, Int.toNat_natCast] at c1
    refine .inr ⟨by simp, n, rfl, q1, q2, bG3 hc (by rw [c1, hk]) c3 c4 (by omega), by simp; omega, rfl⟩
 ·
  exact ⟨r2, _, _, _, f1, n1 hc, .inl (by simp)⟩
theorem Rel.knodup {c : aN} {s : aD} {m : aE} (R : Rel c s m) : m.Keys.Nodup := by
 refine R.keys.nodup_iff.2 ?_
 unfold uk
 rw [List.Nodup, List.pairwise_map]
 have : ∀ (l : List aJ), (∀ i j k, At l i k → At l j k → i = j) → (l.filter (·.Used)).Pairwise fun a b => a.Key ≠ b.Key := by
  intro l
  induction l with
  | nil => intro _; simp
  | cons x l ih =>
   intro h
   have ih := ih fun i j k a b => by
    have := h (i + 1) (j + 1) k a b
    omega
   rw [List.filter_cons]
   split
   ·
    rename_i hx
    refine List.pairwise_cons.2 ⟨fun y hy e => ?_, ih⟩
    obtain ⟨y1, y2⟩ := List.mem_filter.1 hy
    obtain ⟨j, hj⟩ := List.getElem?_of_mem y1
    have := h 0 (j + 1) x.Key (by show (x :: l)[0]? = _; cases x; cases hx; rfl) (by
     show (x :: l)[j + 1]? = _
     rw [List.getElem?_cons_succ, hj, e]
     cases y; cases y2; rfl)
    omega
   ·
    exact ih
 exact this s.Slots R.ok.v.inj
end Go.Proofs.YtkdohhmacfoolaaGreat
