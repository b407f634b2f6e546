/- Facts. No condition. -/
import Derived.Test.YtkdohhmacfoolaaGreatNgIxW
set_option linter.unusedVariables false
set_option linter.unusedSimpArgs false
set_option maxRecDepth 20000
set_option maxHeartbeats 1000000
namespace Go.Proofs.YtkdohhmacfoolaaGreat
open Go Go.AM Go.Pl Go.Pt Go.Ix
def ltP (p q : aG) : Prop := p.x0 < q.x0 ∨ p.x0 = q.x0 ∧ p.x1 < q.x1
instance (p q : aG) : Decidable (ltP p q) := inferInstanceAs (Decidable (_ ∨ _))
theorem aM0 {a b c : aG} (h : ltP a b) (k : ltP b c) : ltP a c := by unfold ltP at *; omega
theorem bP6 {a : aG} : ¬ ltP a a := by unfold ltP; omega
theorem bE0 {a b : aG} (h : ¬ ltP a b) (hne : a ≠ b) : ltP b a := by
 unfold ltP at *
 cases a with
 | mk a0 a1 =>
  cases b with
  | mk b0 b1 =>
   simp only at h ⊢
   by_cases e : a0 = b0
   ·
    subst e
    have : a1 ≠ b1 := fun e => hne (by rw [e])
    omega
   ·
    omega
def uJ (x : aG) : List aG → List aG
  | [] => [x]
  | y :: l => if ltP y x then y :: uJ x l else x :: y :: l
theorem aQ8 {x z : aG} : ∀ {l : List aG}, z ∈ uJ x l ↔ z = x ∨ z ∈ l
 | [] => by simp [uJ]
 | y :: l => by
  unfold uJ
  split
  ·
   rw [List.mem_cons, aQ8, List.mem_cons]
   constructor
   ·
    rintro (h | h | h)
    ·
     exact .inr (.inl h)
    ·
     exact .inl h
    ·
     exact .inr (.inr h)
   ·
    rintro (h | h | h)
    ·
     exact .inr (.inl h)
    ·
     exact .inl h
    ·
     exact .inr (.inr h)
  ·
   rw [List.mem_cons]
theorem bDx {x : aG} : ∀ {l : List aG}, l.Pairwise ltP → x ∉ l → (uJ x l).Pairwise ltP
 | [], _, _ => by simp [uJ]
 | y :: l, h, hx => by
  obtain ⟨h1, h2⟩ := List.pairwise_cons.1 h
  have hne : x ≠ y := fun e => hx (e ▸ List.mem_cons_self ..)
  unfold uJ
  split
  ·
   rename_i c
   refine List.pairwise_cons.2 ⟨fun z hz => ?_, bDx h2 fun q => hx (List.mem_cons_of_mem _ q)⟩
   rcases aQ8.1 hz with rfl | hz
   ·
    exact c
   ·
    exact h1 z hz
  ·
   rename_i c
   have q := bE0 c hne.symm
   refine List.pairwise_cons.2 ⟨fun z hz => ?_, h⟩
   rcases List.mem_cons.1 hz with rfl | hz
   ·
    exact q
   ·
    exact aM0 q (h1 z hz)
theorem aC4 {x : aG} : ∀ {l : List aG}, (uJ x l).length = l.length + 1
 | [] => rfl
 | y :: l => by
  unfold uJ
  split
  ·
   simp [aC4]
  ·
   simp
theorem aXm {x : aG} : ∀ {A : List aG}, (∀ z, z ∈ A → ltP z x) → uJ x A = A ++ [x]
 | [], _ => rfl
 | y :: A, h => by
  unfold uJ
  rw [if_pos (h y (List.mem_cons_self ..)), aXm fun z hz => h z (List.mem_cons_of_mem _ hz)]; rfl
theorem aT3 {x y : aG} (hxy : ltP x y) : ∀ {A : List aG}, uJ x (A ++ [y]) = uJ x A ++ [y]
 | [] => by
  show (if ltP y x then y :: uJ x [] else x :: y :: []) = _
  rw [if_neg fun h => bP6 (aM0 h hxy)]; rfl
 | z :: A => by
  show uJ x (z :: (A ++ [y])) = _
  unfold uJ
  split
  ·
   rw [aT3 hxy]; rfl
  ·
   rfl
def aHy (l : List aG) : List aG := l.foldl (fun out x => uJ x out) []
theorem aPv : ∀ (l out : List aG), (l.foldl (fun out x => uJ x out) out).length = l.length + out.length
 | [], out => by simp
 | x :: l, out => by rw [List.foldl_cons, aPv l, aC4, List.length_cons]; omega
theorem aHd (l : List aG) : (aHy l).length = l.length := by unfold aHy; rw [aPv]; simp
theorem bDl (x y : Int) : jB x y = some (if x < y then -1 else if y < x then 1 else 0) := by
 have h : ∀ z : Int, fI z = some false := fun z => by unfold fI; simp
 unfold jB
 rw [h x, aA, h y, aA, bf (by rfl), bf (by rfl)]
 by_cases c : x < y
 ·
  rw [bt (by simpa using c), if_pos c]
 ·
  rw [bf (by simpa using c), if_neg c]
  by_cases d : y < x
  ·
   rw [bt (by simpa using d), if_pos d]
  ·
   rw [bf (by simpa using d), if_neg d]
theorem bJ9 (a b : Int) : aCv [a, b] = some (if a = 0 then b else a) := by
 unfold aCv
 obtain ⟨F, hF⟩ : ∃ F, bF = F + 3 := ⟨bF - 3, by have := FU'; omega⟩
 rw [hF]
 show mY (rQ (F + 2)) _ _ _ _ = _
 unfold mY
 have i0 : idx [a, b] 0 = some a := rfl
 have i1 : idx [a, b] 1 = some b := rfl
 rw [bt (by rfl), i0, aA]
 by_cases e : a = 0
 ·
  rw [bf (by simp [e]), if_pos e, show IntKind.i64.wrap ((0 : Int) + 1) = 1 from by decide]
  show mY (rQ (F + 1)) _ _ _ _ = _
  unfold mY
  rw [bt (by rfl), i1, aA]
  by_cases f : b = 0
  ·
   rw [bf (by simp [f]), show IntKind.i64.wrap ((1 : Int) + 1) = 2 from by decide]
   show mY (rQ F) _ _ _ _ = _
   unfold mY
   rw [bf (by rfl), f]
  ·
   rw [bt (by simp [f])]
 ·
  rw [bt (by simp [e]), if_neg e]
theorem bN0 (p q : aG) : ∃ c, lW p q = some c ∧ (c < 0 ↔ ltP p q) := by
 unfold lW
 rw [bDl, aA, bDl, aA, bJ9, aA]
 refine ⟨_, rfl, ?_⟩
 unfold ltP
 by_cases c : p.x0 < q.x0
 ·
  rw [if_pos c, if_neg (by decide)]; exact ⟨fun _ => .inl c, fun _ => by decide⟩
 ·
  rw [if_neg c]
  by_cases d : q.x0 < p.x0
  ·
   rw [if_pos d, if_neg (by decide)]; omega
  ·
   rw [if_neg d, if_pos rfl]
   by_cases e : p.x1 < q.x1
   ·
    rw [if_pos e]; omega
   ·
    rw [if_neg e]
    split <;> omega
theorem aYr (A B : List aG) (x y : aG) : (A ++ x :: B).set A.length y = A ++ y :: B := by
 rw [List.set_append_right _ _ (Nat.le_refl _), Nat.sub_self]; rfl
theorem aPw (A B : List aG) (x : aG) : (A ++ x :: B)[A.length]? = some x := by
 rw [List.getElem?_append_right (Nat.le_refl _), Nat.sub_self]; rfl
section
variable {cmp : aG → aG → Option Int} (hc : ∀ p q, ∃ c, cmp p q = some c ∧ (c < 0 ↔ ltP p q))
include hc
theorem aYw (rec1 : List aG → Int → Int → Int → Option (List aG)) (b i : Int) (x : aG) : ∀ (m : Nat) (A B : List aG), A.length < m → A.length < 1000000 → A.Pairwise ltP → x ∉ A →
 cQ cmp rec1 m (A ++ x :: B) 0 b i (A.length : Int) = rec1 (uJ x A ++ B) 0 b (IntKind.i64.wrap (i + 1))
 | 0, A, B, hm, _, _, _ => by omega
 | m + 1, A, B, hm, hA, hp, hx => by
  show cX cmp rec1 (cQ cmp rec1 m) _ _ _ _ _ = _
  unfold cX
  rcases List.eq_nil_or_concat A with rfl | ⟨A', y, eA⟩
  ·
   rw [gf' (by rfl), aA, gf' (by rfl), aA, gf' (by rfl), aA, bf (by rfl)]
   rfl
  ·
   rw [List.concat_eq_append] at eA
   subst eA
   have hl : (A' ++ [y]).length = A'.length + 1 := by simp
   rw [hl] at hm hA ⊢
   have c0 : (decide ((0 : Int) < ((A'.length + 1 : Nat) : Int)) == true) = true := by simp
   have ew : IntKind.i64.wrap (((A'.length + 1 : Nat) : Int) - 1) = (A'.length : Int) := by rw [wr0 (by omega) (by omega)]; omega
   have g1 : (A' ++ [y] ++ x :: B)[A'.length + 1]? = some x := by have := aPw (A' ++ [y]) B x; rwa [hl] at this
   have e0 : A' ++ [y] ++ x :: B = A' ++ y :: x :: B := by simp
   have g2 : (A' ++ [y] ++ x :: B)[A'.length]? = some y := by rw [e0]; exact aPw A' _ y
   have s1 : (A' ++ [y] ++ x :: B).set (A'.length + 1) y = A' ++ y :: y :: B := by have := aYr (A' ++ [y]) B x y; rw [hl] at this; rw [this]; simp
   have s2 : (A' ++ y :: y :: B).set A'.length x = A' ++ x :: y :: B := aYr A' _ y x
   have g3 : (A' ++ y :: y :: B)[A'.length]? = some y := aPw A' _ y
   obtain ⟨p1, p2, p3⟩ := List.pairwise_append.1 hp
   obtain ⟨k, hk, hk2⟩ := hc x y
   rw [ew, gt' c0, dI, g1, aA, gt' c0, dI, g2, aA, gt' c0, hk, aA]
   by_cases c : ltP x y
   ·
    rw [bt (by simp [hk2.2 c]), aA, aA, aA, iR (by simp), s1, aA, dI, g3, aA, iR (by simp), s2, aA]
    rw [aYw rec1 b i x m A' (y :: B) (by omega) (by omega) p1 (fun h => hx (List.mem_append_left _ h)), aT3 c]
    simp
   ·
    have nk : ¬ k < 0 := fun h => c (hk2.1 h)
    rw [bf (by simp [nk])]
    have hxy : ltP y x := bE0 c fun e => hx (by rw [e]; simp)
    rw [aXm fun z hz => ?_]
    ·
     simp
    ·
     rcases List.mem_append.1 hz with q | q
     ·
      exact aM0 (p3 z q y (by simp)) hxy
     ·
      have : z = y := by simpa using q
      rw [this]; exact hxy
theorem aYv (b : Int) : ∀ (m : Nat) (R S : List aG), R.length < m → (b : Int) = ((S.length + R.length : Nat) : Int) → S.length + R.length < 1000000 → S.Pairwise ltP → (∀ x, x ∈ R → x ∉ S) → R.Nodup →
 bW cmp m (S ++ R) 0 b (S.length : Int) = some (R.foldl (fun out x => uJ x out) S)
 | 0, R, S, hm, _, _, _, _, _ => by omega
 | m + 1, R, S, hm, hb, hl, hp, hd, hn => by
  have hFU := FU'
  show cL cmp (bW cmp m) _ _ _ _ = _
  unfold cL
  cases R with
  | nil => rw [bf (by simp at hb; simp; omega)]; simp
  | cons x R =>
   obtain ⟨n1, n2⟩ := List.nodup_cons.1 hn
   rw [List.length_cons] at hm hb hl
   have hx := hd x (List.mem_cons_self ..)
   rw [bt (by simp; omega), aYw hc _ b _ x bF S R (by omega) (by omega) hp hx, wr1 _ (by omega)]
   have := aYv b m R (uJ x S) (by omega) (by rw [aC4]; omega) (by rw [aC4]; omega) (bDx hp hx) (fun z hz q => by
    rcases aQ8.1 q with rfl | q
    ·
     exact n1 hz
    ·
     exact hd z (List.mem_cons_of_mem _ hz) q) n2
   rw [aC4] at this
   exact this
theorem bLx {l : List aG} (hl : l.length ≤ 12) (hn : l.Nodup) : fK l cmp = some (aHy l) := by
 have hFU := FU'
 obtain ⟨r, hr⟩ := Option.isSome_iff_exists.1 (aP7 ⟨l.length, by omega⟩)
 unfold fK
 rw [hr, aA]
 unfold fV
 obtain ⟨F, hF⟩ : ∃ F, bF = F + 1 := ⟨bF - 1, by omega⟩
 rw [hF]
 have e : dF l 0 (l.length : Int) cmp = some (aHy l) := by
  unfold dF
  rw [show IntKind.i64.wrap ((0 : Int) + 1) = 1 from by decide]
  cases l with
  | nil =>
   rw [hF]
   show cL cmp _ _ _ _ _ = _
   unfold cL
   rw [bf (by rfl)]; rfl
  | cons x l =>
   obtain ⟨n1, n2⟩ := List.nodup_cons.1 hn
   rw [List.length_cons] at hl
   exact aYv hc _ bF l [x] (by omega) (by simp; omega) (by simp; omega) (by simp) (fun z hz q => by
    have : z = x := by simpa using q
    exact n1 (this ▸ hz)) n2
 have e2 : eJ cmp (F + 1) l 0 (l.length : Int) r true true = some (aHy l) := by
  show eG cmp _ _ _ _ _ _ _ = _
  unfold eG
  rw [wr0 (by omega) (by omega), bt (by simp; omega), e]
  simp [aF1, aHd]
 rw [e2]
 simp [aF1, aHd]
end
def fps (s : aD) : List aG := (en (kf s.Graph)).map (zU s.Slots)
section
variable {c : aT} {s : aD} {m : aF} (R : Rel c s m)
include R
theorem bHk : (fps s).Nodup := by
 have nd : (en (kf s.Graph)).Nodup := (gok R.gd.ok).gc.ti.tb.fo_nodup _
 refine List.pairwise_map.2 (nd.imp_of_mem fun {a b} ha hb h e => h ?_)
 obtain ⟨x, x1, x2⟩ := iA.1 ha
 obtain ⟨y, y1, y2⟩ := iA.1 hb
 obtain ⟨a1, a2, a3, a4, a5⟩ := R.edge (aIq x1)
 obtain ⟨b1, b2, b3, b4, b5⟩ := R.edge (aIq y1)
 subst x2 y2
 have inj : ∀ {u v : Int}, 0 ≤ u → 0 ≤ v → Usd s.Slots u → Usd s.Slots v → kv s.Slots u = kv s.Slots v → u = v := fun h0 h1 hu hv e => by
  have := R.ok.v.inj _ _ _ (uK hu) (by rw [e]; exact uK hv)
  omega
 rcases bE9 e with ⟨e1, e2⟩ | ⟨e1, e2⟩
 ·
  rw [inj a1 b1 a4 b4 e1, inj a2 b2 a5 b5 e2]
 ·
  have q1 := inj a1 b2 a4 b5 e1
  have q2 := inj a2 b1 a5 b4 e2
  omega
omit R in
theorem bDq : (fps s).length = (kf s.Graph).length := by unfold fps; rw [List.length_map, oY]
theorem aV7 : (kf s.Graph).length + cl s.Graph.Config.N.toNat (en (kf s.Graph)) = s.Slots.length := by
 have h := (gok R.gd.ok).fr
 unfold foB at h
 have h := of_decide_eq_true h
 have e := R.ok.len
 have e2 : (kf s.Graph).length = (fo s.Graph.Edges s.Graph.Config.L).length := rfl
 have e3 : cl s.Graph.Config.N.toNat (en (kf s.Graph)) = cl s.Graph.Config.N.toNat (en (fo s.Graph.Edges s.Graph.Config.L)) := rfl
 omega
variable (hS : s.Slots.length ≤ 12)
include hS
theorem aXe : ∀ (n i : Nat) (out : List aG), (kf s.Graph).length < i + n → i ≤ (kf s.Graph).length → out.length ≤ i →
 nD n s out (kf s.Graph) ((kf s.Graph).length : Int) (i : Int) = (let r := out ++ ((en (kf s.Graph)).drop i).map (zU s.Slots); (aF1 (fun x => x.length) r.length (fK r (fun x0 x1 => lW x0 x1))).bind fun l12 => some l12)
 | 0, i, out, hm, hi, _ => by omega
 | n + 1, i, out, hm, hi, ho => by
  have kl := aV7 R
  show zM (nD n) _ _ _ _ _ = _
  unfold zM
  by_cases c : i < (kf s.Graph).length
  ·
   obtain ⟨h1, h2, h3, u1, u2⟩ := R.edge (aIq (List.getElem_mem c))
   have k1 := uK u1
   have k2 := uK u2
   have i1 : idx s.Slots (kf s.Graph)[i].U = some ⟨true, kv s.Slots (kf s.Graph)[i].U⟩ := by rw [rH (k := (kf s.Graph)[i].U.toNat) (by omega)]; exact k1
   have i2 : idx s.Slots (kf s.Graph)[i].V = some ⟨true, kv s.Slots (kf s.Graph)[i].V⟩ := by rw [rH (k := (kf s.Graph)[i].V.toNat) (by omega)]; exact k2
   have ec : i < (en (kf s.Graph)).length := by rw [oY]; exact c
   have ee : (en (kf s.Graph))[i] = ((kf s.Graph)[i].U, (kf s.Graph)[i].V) := List.getElem_map (fun e : aC => (e.U, e.V))
   have ep : (⟨if kv s.Slots (kf s.Graph)[i].V < kv s.Slots (kf s.Graph)[i].U then kv s.Slots (kf s.Graph)[i].V else kv s.Slots (kf s.Graph)[i].U, if kv s.Slots (kf s.Graph)[i].U < kv s.Slots (kf s.Graph)[i].V then kv s.Slots (kf s.Graph)[i].V else kv s.Slots (kf s.Graph)[i].U⟩ : aG) = zU s.Slots ((kf s.Graph)[i].U, (kf s.Graph)[i].V) := by
    unfold zU pr2
    simp only []
    by_cases q : kv s.Slots (kf s.Graph)[i].V < kv s.Slots (kf s.Graph)[i].U
    ·
     rw [if_pos q, if_pos q, if_neg (by omega)]
    ·
     rw [if_neg q, if_neg q]
     by_cases q' : kv s.Slots (kf s.Graph)[i].U < kv s.Slots (kf s.Graph)[i].V
     ·
      rw [if_pos q']
     ·
      rw [if_neg q']
      have : kv s.Slots (kf s.Graph)[i].U = kv s.Slots (kf s.Graph)[i].V := by omega
      rw [this]
   rw [bt (nI c), bR c, aA, i1, aA, i2, aA]
   simp only []
   rw [ep, dL (by simp; omega), aA, wr1 i (by omega), aXe n (i + 1) _ (by omega) c (by simp; omega), bP ec, List.map_cons, ee]
   simp
  ·
   rw [bf (nH c), List.drop_eq_nil_of_le (by rw [oY]; omega)]
   simp
theorem bHj (a b : Int) (text : ByteArray) : cU s ⟨12, a, b, text⟩ = some (s, GA.lp 40 (aHy (fps s))) := by
 have hFU := FU'
 obtain ⟨vA, bA, fA⟩ := fd R (by omega) a
 obtain ⟨vB, bB, fB⟩ := fd R (by omega) b
 have kl := aV7 R
 refine ans R hS (by decide) (by decide) fA fB rfl rfl (by rfl) ?_
 unfold eE aBh
 have tf : gZ s.Graph.Config.N s.Graph.Edges s.Graph.Config.L = some (kf s.Graph) := by
  rw [nY R.gd.e, if_pos (gok R.gd.ok).tr]; rfl
 have := aXe R hS bF 0 [] (by omega) (Nat.zero_le _) (Nat.le_refl _)
 rw [aD5 R, aA, bf (by rfl), bf (by rfl), bf (by rfl), bf (by rfl), bf (by rfl), bf (by rfl), bf (by rfl), bt (by rfl), tf, aA, show (0 : Int) = ((0 : Nat) : Int) from rfl, this, List.drop_zero, List.nil_append]
 simp only []
 have e : (en (kf s.Graph)).map (zU s.Slots) = fps s := rfl
 rw [e, bLx bN0 (by rw [bDq]; omega) (bHk R)]
 simp [aF1, aHd]
end
end Go.Proofs.YtkdohhmacfoolaaGreat
