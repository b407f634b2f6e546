/- Facts that the statement's proof is made of. No condition. -/
import Derived.Test.YtkdohhmacfoolaaGreatNeIxW
set_option linter.unusedVariables false
set_option linter.unusedSimpArgs false
set_option maxRecDepth 20000
set_option maxHeartbeats 1000000
namespace Go.Proofs.YtkdohhmacfoolaaGreat
open Go Go.AM Go.Pl Go.Pt Go.Ix
def ltP (p q : aI) : Prop := p.x0 < q.x0 ∨ p.x0 = q.x0 ∧ p.x1 < q.x1
instance (p q : aI) : Decidable (ltP p q) := inferInstanceAs (Decidable (_ ∨ _))
theorem aIb {a b c : aI} (h : ltP a b) (k : ltP b c) : ltP a c := by unfold ltP at *; omega
theorem bL8 {a : aI} : ¬ ltP a a := by unfold ltP; omega
theorem bA1 {a b : aI} (h : ¬ ltP a b) (hne : a ≠ b) : ltP b a := by
 unfold ltP at *
 cases a with
 | mk a0 a1 =>
  cases b with
  | mk b0 b1 =>
   simp only at h ⊢
   by_cases e : a0 = b0
   ·
    subst e
    have : a1 ≠ b1 := fun e => hne (by rw [e])
    omega
   ·
    omega
def yA (x : aI) : List aI → List aI
  | [] => [x]
  | y :: l => if ltP y x then y :: yA x l else x :: y :: l
theorem aGm {x z : aI} : ∀ {l : List aI}, z ∈ yA x l ↔ z = x ∨ z ∈ l
 | [] => by simp [yA]
 | y :: l => by
  unfold yA
  split
  ·
   rw [List.mem_cons, aGm, List.mem_cons]
   constructor
   ·
    rintro (h | h | h)
    ·
     exact .inr (.inl h)
    ·
     exact .inl h
    ·
     exact .inr (.inr h)
   ·
    rintro (h | h | h)
    ·
     exact .inr (.inl h)
    ·
     exact .inl h
    ·
     exact .inr (.inr h)
  ·
   rw [List.mem_cons]
theorem aZ9 {x : aI} : ∀ {l : List aI}, l.Pairwise ltP → x ∉ l → (yA x l).Pairwise ltP
 | [], _, _ => by simp [yA]
 | y :: l, h, hx => by
  obtain ⟨h1, h2⟩ := List.pairwise_cons.1 h
  have hne : x ≠ y := fun e => hx (e ▸ List.mem_cons_self ..)
  unfold yA
  split
  ·
   rename_i c
   refine List.pairwise_cons.2 ⟨fun z hz => ?_, aZ9 h2 fun q => hx (List.mem_cons_of_mem _ q)⟩
   rcases aGm.1 hz with rfl | hz
   ·
    exact c
   ·
    exact h1 z hz
  ·
   rename_i c
   have q := bA1 c hne.symm
   refine List.pairwise_cons.2 ⟨fun z hz => ?_, h⟩
   rcases List.mem_cons.1 hz with rfl | hz
   ·
    exact q
   ·
    exact aIb q (h1 z hz)
theorem aDf {x : aI} : ∀ {l : List aI}, (yA x l).length = l.length + 1
 | [] => rfl
 | y :: l => by
  unfold yA
  split
  ·
   simp [aDf]
  ·
   simp
theorem aU6 {x : aI} : ∀ {A : List aI}, (∀ z, z ∈ A → ltP z x) → yA x A = A ++ [x]
 | [], _ => rfl
 | y :: A, h => by
  unfold yA
  rw [if_pos (h y (List.mem_cons_self ..)), aU6 fun z hz => h z (List.mem_cons_of_mem _ hz)]; rfl
theorem aPk {x y : aI} (hxy : ltP x y) : ∀ {A : List aI}, yA x (A ++ [y]) = yA x A ++ [y]
 | [] => by
  show (if ltP y x then y :: yA x [] else x :: y :: []) = _
  rw [if_neg fun h => bL8 (aIb h hxy)]; rfl
 | z :: A => by
  show yA x (z :: (A ++ [y])) = _
  unfold yA
  split
  ·
   rw [aPk hxy]; rfl
  ·
   rfl
def aDp (l : List aI) : List aI := l.foldl (fun out x => yA x out) []
theorem aNw : ∀ (l out : List aI), (l.foldl (fun out x => yA x out) out).length = l.length + out.length
 | [], out => by simp
 | x :: l, out => by rw [List.foldl_cons, aNw l, aDf, List.length_cons]; omega
theorem aEk (l : List aI) : (aDp l).length = l.length := by unfold aDp; rw [aNw]; simp
theorem bCr {z : aI} {l : List aI} : z ∈ aDp l ↔ z ∈ l := by
 have : ∀ (l out : List aI), z ∈ l.foldl (fun out x => yA x out) out ↔ z ∈ out ∨ z ∈ l := by
  intro l
  induction l with
  | nil => intro out; simp
  | cons x l ih =>
   intro out
   rw [List.foldl_cons, ih, aGm, List.mem_cons]
   constructor
   ·
    rintro ((h | h) | h)
    ·
     exact .inr (.inl h)
    ·
     exact .inl h
    ·
     exact .inr (.inr h)
   ·
    rintro (h | h | h)
    ·
     exact .inl (.inr h)
    ·
     exact .inl (.inl h)
    ·
     exact .inr h
 exact (this l []).trans (by simp)
theorem aZa (x y : Int) : iM x y = some (if x < y then -1 else if y < x then 1 else 0) := by
 have h : ∀ z : Int, eX z = some false := fun z => by unfold eX; simp
 unfold iM
 rw [h x, aA, h y, aA, bf (by rfl), bf (by rfl)]
 by_cases c : x < y
 ·
  rw [bt (by simpa using c), if_pos c]
 ·
  rw [bf (by simpa using c), if_neg c]
  by_cases d : y < x
  ·
   rw [bt (by simpa using d), if_pos d]
  ·
   rw [bf (by simpa using d), if_neg d]
theorem bGs (a b : Int) : aAi [a, b] = some (if a = 0 then b else a) := by
 unfold aAi
 obtain ⟨F, hF⟩ : ∃ F, bF = F + 3 := ⟨bF - 3, by have := FU'; omega⟩
 rw [hF]
 show mP (qD (F + 2)) _ _ _ _ = _
 unfold mP
 have i0 : idx [a, b] 0 = some a := rfl
 have i1 : idx [a, b] 1 = some b := rfl
 rw [bt (by rfl), i0, aA]
 by_cases e : a = 0
 ·
  rw [bf (by simp [e]), if_pos e, show IntKind.i64.wrap ((0 : Int) + 1) = 1 from by decide]
  show mP (qD (F + 1)) _ _ _ _ = _
  unfold mP
  rw [bt (by rfl), i1, aA]
  by_cases f : b = 0
  ·
   rw [bf (by simp [f]), show IntKind.i64.wrap ((1 : Int) + 1) = 2 from by decide]
   show mP (qD F) _ _ _ _ = _
   unfold mP
   rw [bf (by rfl), f]
  ·
   rw [bt (by simp [f])]
 ·
  rw [bt (by simp [e]), if_neg e]
theorem bLc (p q : aI) : ∃ c, kU p q = some c ∧ (c < 0 ↔ ltP p q) := by
 unfold kU
 rw [aZa, aA, aZa, aA, bGs, aA]
 refine ⟨_, rfl, ?_⟩
 unfold ltP
 by_cases c : p.x0 < q.x0
 ·
  rw [if_pos c, if_neg (by decide)]; exact ⟨fun _ => .inl c, fun _ => by decide⟩
 ·
  rw [if_neg c]
  by_cases d : q.x0 < p.x0
  ·
   rw [if_pos d, if_neg (by decide)]; omega
  ·
   rw [if_neg d, if_pos rfl]
   by_cases e : p.x1 < q.x1
   ·
    rw [if_pos e]; omega
   ·
    rw [if_neg e]
    split <;> omega
theorem aTv (A B : List aI) (x y : aI) : (A ++ x :: B).set A.length y = A ++ y :: B := by
 rw [List.set_append_right _ _ (Nat.le_refl _), Nat.sub_self]; rfl
theorem aM8 (A B : List aI) (x : aI) : (A ++ x :: B)[A.length]? = some x := by
 rw [List.getElem?_append_right (Nat.le_refl _), Nat.sub_self]; rfl
section
variable {cmp : aI → aI → Option Int} (hc : ∀ p q, ∃ c, cmp p q = some c ∧ (c < 0 ↔ ltP p q))
include hc
theorem aUf (rec1 : List aI → Int → Int → Int → Option (List aI)) (b i : Int) (x : aI) : ∀ (m : Nat) (A B : List aI), A.length < m → A.length < 1000000 → A.Pairwise ltP → x ∉ A →
 cJ cmp rec1 m (A ++ x :: B) 0 b i (A.length : Int) = rec1 (yA x A ++ B) 0 b (IntKind.i64.wrap (i + 1))
 | 0, A, B, hm, _, _, _ => by omega
 | m + 1, A, B, hm, hA, hp, hx => by
  show cW cmp rec1 (cJ cmp rec1 m) _ _ _ _ _ = _
  unfold cW
  rcases List.eq_nil_or_concat A with rfl | ⟨A', y, eA⟩
  ·
   rw [gf' (by rfl), aA, gf' (by rfl), aA, gf' (by rfl), aA, bf (by rfl)]
   rfl
  ·
   rw [List.concat_eq_append] at eA
   subst eA
   have hl : (A' ++ [y]).length = A'.length + 1 := by simp
   rw [hl] at hm hA ⊢
   have c0 : (decide ((0 : Int) < ((A'.length + 1 : Nat) : Int)) == true) = true := by simp
   have ew : IntKind.i64.wrap (((A'.length + 1 : Nat) : Int) - 1) = (A'.length : Int) := by rw [wr0 (by omega) (by omega)]; omega
   have g1 : (A' ++ [y] ++ x :: B)[A'.length + 1]? = some x := by have := aM8 (A' ++ [y]) B x; rwa [hl] at this
   have e0 : A' ++ [y] ++ x :: B = A' ++ y :: x :: B := by simp
   have g2 : (A' ++ [y] ++ x :: B)[A'.length]? = some y := by rw [e0]; exact aM8 A' _ y
   have s1 : (A' ++ [y] ++ x :: B).set (A'.length + 1) y = A' ++ y :: y :: B := by have := aTv (A' ++ [y]) B x y; rw [hl] at this; rw [this]; simp
   have s2 : (A' ++ y :: y :: B).set A'.length x = A' ++ x :: y :: B := aTv A' _ y x
   have g3 : (A' ++ y :: y :: B)[A'.length]? = some y := aM8 A' _ y
   obtain ⟨p1, p2, p3⟩ := List.pairwise_append.1 hp
   obtain ⟨k, hk, hk2⟩ := hc x y
   rw [ew, gt' c0, fI, g1, aA, gt' c0, fI, g2, aA, gt' c0, hk, aA]
   by_cases c : ltP x y
   ·
    rw [bt (by simp [hk2.2 c]), aA, aA, aA, iZ (by simp), s1, aA, fI, g3, aA, iZ (by simp), s2, aA]
    rw [aUf rec1 b i x m A' (y :: B) (by omega) (by omega) p1 (fun h => hx (List.mem_append_left _ h)), aPk c]
    simp
   ·
    have nk : ¬ k < 0 := fun h => c (hk2.1 h)
    rw [bf (by simp [nk])]
    have hxy : ltP y x := bA1 c fun e => hx (by rw [e]; simp)
    rw [aU6 fun z hz => ?_]
    ·
     simp
    ·
     rcases List.mem_append.1 hz with q | q
     ·
      exact aIb (p3 z q y (by simp)) hxy
     ·
      have : z = y := by simpa using q
      rw [this]; exact hxy
theorem aTw (b : Int) : ∀ (m : Nat) (R S : List aI), R.length < m → (b : Int) = ((S.length + R.length : Nat) : Int) → S.length + R.length < 1000000 → S.Pairwise ltP → (∀ x, x ∈ R → x ∉ S) → R.Nodup →
 bR cmp m (S ++ R) 0 b (S.length : Int) = some (R.foldl (fun out x => yA x out) S)
 | 0, R, S, hm, _, _, _, _, _ => by omega
 | m + 1, R, S, hm, hb, hl, hp, hd, hn => by
  have hFU := FU'
  show bZ cmp (bR cmp m) _ _ _ _ = _
  unfold bZ
  cases R with
  | nil => rw [bf (by simp at hb; simp; omega)]; simp
  | cons x R =>
   obtain ⟨n1, n2⟩ := List.nodup_cons.1 hn
   rw [List.length_cons] at hm hb hl
   have hx := hd x (List.mem_cons_self ..)
   rw [bt (by simp; omega), aUf hc _ b _ x bF S R (by omega) (by omega) hp hx, wr1 _ (by omega)]
   have := aTw b m R (yA x S) (by omega) (by rw [aDf]; omega) (by rw [aDf]; omega) (aZ9 hp hx) (fun z hz q => by
    rcases aGm.1 q with rfl | q
    ·
     exact n1 hz
    ·
     exact hd z (List.mem_cons_of_mem _ hz) q) n2
   rw [aDf] at this
   exact this
theorem bFi {l : List aI} (hl : l.length ≤ 12) (hn : l.Nodup) : eZ l cmp = some (aDp l) := by
 have hFU := FU'
 obtain ⟨r, hr⟩ := Option.isSome_iff_exists.1 (aNj ⟨l.length, by omega⟩)
 unfold eZ
 rw [hr, aA]
 unfold fL
 obtain ⟨F, hF⟩ : ∃ F, bF = F + 1 := ⟨bF - 1, by omega⟩
 rw [hF]
 have e : dE l 0 (l.length : Int) cmp = some (aDp l) := by
  unfold dE
  rw [show IntKind.i64.wrap ((0 : Int) + 1) = 1 from by decide]
  cases l with
  | nil =>
   rw [hF]
   show bZ cmp _ _ _ _ _ = _
   unfold bZ
   rw [bf (by rfl)]; rfl
  | cons x l =>
   obtain ⟨n1, n2⟩ := List.nodup_cons.1 hn
   rw [List.length_cons] at hl
   exact aTw hc _ bF l [x] (by omega) (by simp; omega) (by simp; omega) (by simp) (fun z hz q => by
    have : z = x := by simpa using q
    exact n1 (this ▸ hz)) n2
 have e2 : dW cmp (F + 1) l 0 (l.length : Int) r true true = some (aDp l) := by
  show dX cmp _ _ _ _ _ _ _ = _
  unfold dX
  rw [wr0 (by omega) (by omega), bt (by simp; omega), e]
  simp [aC7, aEk]
 rw [e2]
 simp [aC7, aEk]
end
def fps (s : aE) : List aI := (en (kf s.Graph)).map (sB s.Slots)
section
variable {c : aO} {s : aE} {m : aC} (R : Rel c s m)
include R
theorem bBn : (fps s).Nodup := by
 have nd : (en (kf s.Graph)).Nodup := (gok R.gd.ok).gc.ti.tb.fo_nodup _
 refine List.pairwise_map.2 (nd.imp_of_mem fun {a b} ha hb h e => h ?_)
 obtain ⟨x, x1, x2⟩ := fQ.1 ha
 obtain ⟨y, y1, y2⟩ := fQ.1 hb
 obtain ⟨a1, a2, a3, a4, a5⟩ := R.edge (aBr x1)
 obtain ⟨b1, b2, b3, b4, b5⟩ := R.edge (aBr y1)
 subst x2 y2
 have inj : ∀ {u v : Int}, 0 ≤ u → 0 ≤ v → Usd s.Slots u → Usd s.Slots v → kv s.Slots u = kv s.Slots v → u = v := fun h0 h1 hu hv e => by
  have := R.ok.v.inj _ _ _ (rY hu) (by rw [e]; exact rY hv)
  omega
 rcases aZf e with ⟨e1, e2⟩ | ⟨e1, e2⟩
 ·
  rw [inj a1 b1 a4 b4 e1, inj a2 b2 a5 b5 e2]
 ·
  have q1 := inj a1 b2 a4 b5 e1
  have q2 := inj a2 b1 a5 b4 e2
  omega
omit R in
theorem aYx : (fps s).length = (kf s.Graph).length := by unfold fps; rw [List.length_map, nT]
theorem bJj {p : aI} (h : p ∈ fps s) : p ∈ m.Pairs ∧ p.x0 < p.x1 := by
 obtain ⟨q, q1, rfl⟩ := List.mem_map.1 h
 obtain ⟨e, e1, rfl⟩ := fQ.1 q1
 have hp : sB s.Slots (e.U, e.V) ∈ m.Pairs := R.pairs.mem_iff.2 (List.mem_map.2 ⟨_, fQ.2 ⟨e, aBr e1, rfl⟩, rfl⟩)
 refine ⟨hp, ?_⟩
 have ne := (R.pair_keys hp).1
 unfold sB pr2 at ne ⊢
 split
 ·
  rename_i h; exact h
 ·
  rename_i h
  rw [if_neg h] at ne
  have n' : kv s.Slots e.U ≠ kv s.Slots e.V := ne
  have h' : ¬ kv s.Slots e.V < kv s.Slots e.U := h
  show kv s.Slots e.U < kv s.Slots e.V
  omega
theorem aUu : (kf s.Graph).length + cl s.Graph.Config.N.toNat (en (kf s.Graph)) = s.Slots.length := by
 have h := (gok R.gd.ok).fr
 unfold foB at h
 have h := of_decide_eq_true h
 have e := R.ok.len
 have e2 : (kf s.Graph).length = (fo s.Graph.Edges s.Graph.Config.L).length := rfl
 have e3 : cl s.Graph.Config.N.toNat (en (kf s.Graph)) = cl s.Graph.Config.N.toNat (en (fo s.Graph.Edges s.Graph.Config.L)) := rfl
 omega
variable (hS : s.Slots.length ≤ 12)
include hS
theorem aTo : ∀ (n i : Nat) (out : List aI), (kf s.Graph).length < i + n → i ≤ (kf s.Graph).length → out.length ≤ i →
 mW n s out (kf s.Graph) ((kf s.Graph).length : Int) (i : Int) = (let r := out ++ ((en (kf s.Graph)).drop i).map (sB s.Slots); (aC7 (fun x => x.length) r.length (eZ r (fun x0 x1 => kU x0 x1))).bind fun l12 => some l12)
 | 0, i, out, hm, hi, _ => by omega
 | n + 1, i, out, hm, hi, ho => by
  have kl := aUu R
  show xI (mW n) _ _ _ _ _ = _
  unfold xI
  by_cases c : i < (kf s.Graph).length
  ·
   obtain ⟨h1, h2, h3, u1, u2⟩ := R.edge (aBr (List.getElem_mem c))
   have k1 := rY u1
   have k2 := rY u2
   have i1 : idx s.Slots (kf s.Graph)[i].U = some ⟨true, kv s.Slots (kf s.Graph)[i].U⟩ := by rw [oZ (k := (kf s.Graph)[i].U.toNat) (by omega)]; exact k1
   have i2 : idx s.Slots (kf s.Graph)[i].V = some ⟨true, kv s.Slots (kf s.Graph)[i].V⟩ := by rw [oZ (k := (kf s.Graph)[i].V.toNat) (by omega)]; exact k2
   have ec : i < (en (kf s.Graph)).length := by rw [nT]; exact c
   have ee : (en (kf s.Graph))[i] = ((kf s.Graph)[i].U, (kf s.Graph)[i].V) := List.getElem_map (fun e : aD => (e.U, e.V))
   have ep : (⟨if kv s.Slots (kf s.Graph)[i].V < kv s.Slots (kf s.Graph)[i].U then kv s.Slots (kf s.Graph)[i].V else kv s.Slots (kf s.Graph)[i].U, if kv s.Slots (kf s.Graph)[i].U < kv s.Slots (kf s.Graph)[i].V then kv s.Slots (kf s.Graph)[i].V else kv s.Slots (kf s.Graph)[i].U⟩ : aI) = sB s.Slots ((kf s.Graph)[i].U, (kf s.Graph)[i].V) := by
    unfold sB pr2
    simp only []
    by_cases q : kv s.Slots (kf s.Graph)[i].V < kv s.Slots (kf s.Graph)[i].U
    ·
     rw [if_pos q, if_pos q, if_neg (by omega)]
    ·
     rw [if_neg q, if_neg q]
     by_cases q' : kv s.Slots (kf s.Graph)[i].U < kv s.Slots (kf s.Graph)[i].V
     ·
      rw [if_pos q']
     ·
      rw [if_neg q']
      have : kv s.Slots (kf s.Graph)[i].U = kv s.Slots (kf s.Graph)[i].V := by omega
      rw [this]
   rw [bt (nU c), bW c, aA, i1, aA, i2, aA]
   simp only []
   rw [ep, dY (by simp; omega), aA, wr1 i (by omega), aTo n (i + 1) _ (by omega) c (by simp; omega), cR ec, List.map_cons, ee]
   simp
  ·
   rw [bf (nY c), List.drop_eq_nil_of_le (by rw [nT]; omega)]
   simp
theorem bCs (a b : Int) (text : ByteArray) : dK s ⟨12, a, b, text⟩ = some (s, GA.lp 40 (aDp (fps s))) := by
 have hFU := FU'
 obtain ⟨vA, bA, fA⟩ := fd R (by omega) a
 obtain ⟨vB, bB, fB⟩ := fd R (by omega) b
 have kl := aUu R
 refine ans R hS (by decide) (by decide) fA fB rfl rfl (by rfl) ?_
 unfold iE zS
 have tf : gL s.Graph.Config.N s.Graph.Edges s.Graph.Config.L = some (kf s.Graph) := by
  rw [lW R.gd.e, if_pos (gok R.gd.ok).tr]; rfl
 have := aTo R hS bF 0 [] (by omega) (Nat.zero_le _) (Nat.le_refl _)
 rw [aLc R, aA, bf (by rfl), bf (by rfl), bf (by rfl), bf (by rfl), bf (by rfl), bf (by rfl), bf (by rfl), bt (by rfl), tf, aA, show (0 : Int) = ((0 : Nat) : Int) from rfl, this, List.drop_zero, List.nil_append]
 simp only []
 have e : (en (kf s.Graph)).map (sB s.Slots) = fps s := rfl
 rw [e, bFi bLc (by rw [aYx]; omega) (bBn R)]
 simp [aC7, aEk]
end
end Go.Proofs.YtkdohhmacfoolaaGreat
