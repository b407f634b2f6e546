/- Facts. No condition. -/
import Derived.Test.YtkdohhmacfoolaaGreatNgIxR
set_option linter.unusedVariables false
set_option linter.unusedSimpArgs false
set_option maxRecDepth 20000
set_option maxHeartbeats 1000000
namespace Go.Proofs.YtkdohhmacfoolaaGreat
open Go Go.AM Go.Pl Go.Pt Go.Ix
theorem aXn {x : Int} : ∀ {A : List Int}, (∀ z, z ∈ A → z < x) → rI x A = A ++ [x]
 | [], _ => rfl
 | y :: A, h => by
  unfold rI
  rw [if_pos (h y (List.mem_cons_self ..)), aXn fun z hz => h z (List.mem_cons_of_mem _ hz)]; rfl
theorem aT4 {x y : Int} (hxy : x < y) : ∀ {A : List Int}, rI x (A ++ [y]) = rI x A ++ [y]
 | [] => by
  show (if y < x then y :: rI x [] else x :: y :: []) = _
  rw [if_neg (by omega)]; rfl
 | z :: A => by
  show rI x (z :: (A ++ [y])) = _
  unfold rI
  split
  ·
   rw [aT4 hxy]; rfl
  ·
   rfl
theorem aZy (x y : Int) : qY x y = some (decide (x < y)) := by
 have h : ∀ z : Int, fI z = some false := fun z => by unfold fI; simp
 unfold qY
 rw [h x, aA, gf' (by rfl), aA]
 simp
theorem set_mid (A B : List Int) (x y : Int) : (A ++ x :: B).set A.length y = A ++ y :: B := by
 rw [List.set_append_right _ _ (Nat.le_refl _), Nat.sub_self]; rfl
theorem aUv (A B : List Int) (x : Int) : (A ++ x :: B)[A.length]? = some x := by
 rw [List.getElem?_append_right (Nat.le_refl _), Nat.sub_self]; rfl
theorem bEj (rec1 : List Int → Int → Int → Int → Option (List Int)) (b i x : Int) : ∀ (m : Nat) (A B : List Int), A.length < m → A.length < 1000000 → A.Pairwise (· < ·) → x ∉ A →
 cR rec1 m (A ++ x :: B) 0 b i (A.length : Int) = rec1 (rI x A ++ B) 0 b (IntKind.i64.wrap (i + 1))
 | 0, A, B, hm, _, _, _ => by omega
 | m + 1, A, B, hm, hA, hp, hx => by
  show cY rec1 (cR rec1 m) _ _ _ _ _ = _
  unfold cY
  rcases List.eq_nil_or_concat A with rfl | ⟨A', y, eA⟩
  ·
   rw [gf' (by rfl), aA, gf' (by rfl), aA, gf' (by rfl), aA, bf (by rfl)]
   rfl
  ·
   rw [List.concat_eq_append] at eA
   subst eA
   have hl : (A' ++ [y]).length = A'.length + 1 := by simp
   rw [hl] at hm hA ⊢
   have c0 : (decide ((0 : Int) < ((A'.length + 1 : Nat) : Int)) == true) = true := by simp
   have ew : IntKind.i64.wrap (((A'.length + 1 : Nat) : Int) - 1) = (A'.length : Int) := by rw [wr0 (by omega) (by omega)]; omega
   have g1 : (A' ++ [y] ++ x :: B)[A'.length + 1]? = some x := by have := aUv (A' ++ [y]) B x; rwa [hl] at this
   have e0 : A' ++ [y] ++ x :: B = A' ++ y :: x :: B := by simp
   have g2 : (A' ++ [y] ++ x :: B)[A'.length]? = some y := by rw [e0]; exact aUv A' _ y
   have s1 : (A' ++ [y] ++ x :: B).set (A'.length + 1) y = A' ++ y :: y :: B := by have := set_mid (A' ++ [y]) B x y; rw [hl] at this; rw [this]; simp
   have s2 : (A' ++ y :: y :: B).set A'.length x = A' ++ x :: y :: B := set_mid A' _ y x
   have g3 : (A' ++ y :: y :: B)[A'.length]? = some y := aUv A' _ y
   obtain ⟨p1, p2, p3⟩ := List.pairwise_append.1 hp
   rw [ew, gt' c0, dI, g1, aA, gt' c0, dI, g2, aA, gt' c0, aZy, aA]
   by_cases c : x < y
   ·
    rw [bt (by simp [c]), aA, aA, aA, iR (by simp), s1, aA, dI, g3, aA, iR (by simp), s2, aA]
    rw [bEj rec1 b i x m A' (y :: B) (by omega) (by omega) p1 (fun h => hx (List.mem_append_left _ h)), aT4 c]
    simp
   ·
    rw [bf (by simp [c])]
    have hxy : y < x := by
     have : x ≠ y := fun e => hx (by rw [e]; simp)
     omega
    rw [aXn fun z hz => ?_]
    ·
     simp
    ·
     rcases List.mem_append.1 hz with q | q
     ·
      have := p3 z q y (by simp); omega
     ·
      have : z = y := by simpa using q
      omega
theorem bEi (b : Int) : ∀ (m : Nat) (R S : List Int), R.length < m → (b : Int) = ((S.length + R.length : Nat) : Int) → S.length + R.length < 1000000 → S.Pairwise (· < ·) → (∀ x, x ∈ R → x ∉ S) → R.Nodup →
 bX m (S ++ R) 0 b (S.length : Int) = some (R.foldl (fun out x => rI x out) S)
 | 0, R, S, hm, _, _, _, _, _ => by omega
 | m + 1, R, S, hm, hb, hl, hp, hd, hn => by
  have hFU := FU'
  show cM (bX m) _ _ _ _ = _
  unfold cM
  cases R with
  | nil => rw [bf (by simp at hb; simp; omega)]; simp
  | cons x R =>
   obtain ⟨n1, n2⟩ := List.nodup_cons.1 hn
   rw [List.length_cons] at hm hb hl
   have hx := hd x (List.mem_cons_self ..)
   rw [bt (by simp; omega), bEj _ b _ x bF S R (by omega) (by omega) hp hx, wr1 _ (by omega)]
   have := bEi b m R (rI x S) (by omega) (by rw [zN]; omega) (by rw [zN]; omega) (aV5 hp hx) (fun z hz q => by
    rcases aC6.1 q with rfl | q
    ·
     exact n1 hz
    ·
     exact hd z (List.mem_cons_of_mem _ hz) q) n2
   rw [zN] at this
   exact this
theorem aP7 : ∀ n : Fin 13, (aBx (IntKind.u64.wrap ((n.val : Nat) : Int))).isSome = true := by decide +kernel
theorem bPl {l : List Int} (hl : l.length ≤ 12) (hn : l.Nodup) : gQ l = some (aOc l) := by
 have hFU := FU'
 obtain ⟨r, hr⟩ := Option.isSome_iff_exists.1 (aP7 ⟨l.length, by omega⟩)
 unfold gQ
 rw [hr, aA]
 unfold fW
 obtain ⟨F, hF⟩ : ∃ F, bF = F + 1 := ⟨bF - 1, by omega⟩
 rw [hF]
 have e : dG l 0 (l.length : Int) = some (aOc l) := by
  unfold dG
  rw [show IntKind.i64.wrap ((0 : Int) + 1) = 1 from by decide]
  cases l with
  | nil =>
   rw [hF]
   show cM _ _ _ _ _ = _
   unfold cM
   rw [bf (by rfl)]; rfl
  | cons x l =>
   obtain ⟨n1, n2⟩ := List.nodup_cons.1 hn
   rw [List.length_cons] at hl
   exact bEi _ bF l [x] (by omega) (by simp; omega) (by simp; omega) (by simp) (fun z hz q => by
    have : z = x := by simpa using q
    exact n1 (this ▸ hz)) n2
 have e2 : eN (F + 1) l 0 (l.length : Int) r true true = some (aOc l) := by
  show eK _ _ _ _ _ _ _ = _
  unfold eK
  rw [wr0 (by omega) (by omega), bt (by simp; omega), e]
  simp [aF1, aA3]
 rw [e2]
 simp [aF1, aA3]
def usd (l : List aM) (v : Int) : Bool := ((l[v.toNat]?).map (·.Used)).getD false
theorem aHg {l : List aM} {v : Int} : usd l v = true ↔ Usd l v := by
 unfold usd Usd At
 cases h : l[v.toNat]? with
 | none => simp
 | some s =>
  cases s with
  | mk u k => cases u <;> simp
theorem bCa (s : aD) (l : List Int) (hl : l.length ≤ 500) (hr : ∀ v, v ∈ l → 0 ≤ v ∧ v < s.Slots.length) : ∀ (m i : Nat) (out : List Int), l.length < i + m → i ≤ l.length → out.length ≤ i →
 oM m s out l (l.length : Int) (i : Int) = (let r := out ++ ((l.drop i).filter (usd s.Slots)).map (kv s.Slots); (aF1 (fun x => x.length) r.length (gQ r)).bind fun l10 => some l10)
 | 0, i, out, hm, hi, _ => by omega
 | m + 1, i, out, hm, hi, ho => by
  show aD3 (oM m) _ _ _ _ _ = _
  unfold aD3 yF
  by_cases c : i < l.length
  ·
   obtain ⟨r0, r1⟩ := hr _ (List.getElem_mem c)
   have hj : l[i].toNat < s.Slots.length := by omega
   have ei : idx s.Slots l[i] = some s.Slots[l[i].toNat] := by
    have := bR hj
    rwa [Int.toNat_of_nonneg r0] at this
   have eu : usd s.Slots l[i] = s.Slots[l[i].toNat].Used := by unfold usd; rw [List.getElem?_eq_getElem hj]; rfl
   have ek : kv s.Slots l[i] = s.Slots[l[i].toNat].Key := by unfold kv; rw [List.getElem?_eq_getElem hj]; rfl
   rw [bt (by simpa using c), bR c, aA, ei, aA, bP c, List.filter_cons, eu, wr1 i (by omega)]
   cases q : s.Slots[l[i].toNat].Used with
   | true =>
    rw [bt rfl, aA, dL (by simp; omega), aA, if_pos rfl, bCa s l hl hr m (i + 1) _ (by omega) c (by simp; omega), List.map_cons, ek]
    simp
   | false =>
    rw [bf rfl, if_neg (by simp), bCa s l hl hr m (i + 1) _ (by omega) c (by omega)]
  ·
   rw [bf (by simpa using c), List.drop_eq_nil_of_le (by omega)]
   simp
theorem aK6 {s : aD} {l : List Int} (hl : l.length ≤ 12) (hr : ∀ v, v ∈ l → 0 ≤ v ∧ v < s.Slots.length) (hn : ((l.filter (usd s.Slots)).map (kv s.Slots)).Nodup) : nE s l = some (aOc ((l.filter (usd s.Slots)).map (kv s.Slots))) := by
 have hFU := FU'
 unfold nE
 have := bCa s l (by omega) hr bF 0 [] (by omega) (Nat.zero_le _) (Nat.le_refl _)
 rw [show ((0 : Nat) : Int) = 0 from rfl] at this
 have hf := List.length_filter_le (usd s.Slots) l
 rw [this, List.drop_zero, List.nil_append]
 simp only []
 rw [bPl (by rw [List.length_map]; omega) hn]
 simp [aF1, aA3]
section
variable {c : aT} {s : aD} {m : aF} (R : Rel c s m)
include R
theorem Rel.near_mem {j : Nat} {v : Int} : v ∈ sW s.Graph.Edges (j : Int) ↔ 0 ≤ v ∧ ∃ e, e ∈ s.Graph.Edges ∧ gK (j : Int) v e = true := by
 unfold sW
 rw [List.mem_filterMap]
 constructor
 ·
  rintro ⟨e, he, h⟩
  obtain ⟨e1, e2, e3, _, _⟩ := R.edge he
  unfold gK
  split at h
  ·
   rename_i q; cases h; exact ⟨e2, e, he, by simp [q]⟩
  ·
   split at h
   ·
    rename_i q; cases h; exact ⟨e1, e, he, by simp [q]⟩
   ·
    cases h
 ·
  rintro ⟨h0, e, he, h⟩
  obtain ⟨e1, e2, e3, _, _⟩ := R.edge he
  refine ⟨e, he, ?_⟩
  rcases aFp h with ⟨a, b⟩ | ⟨a, b⟩
  ·
   rw [if_pos a.symm, b]
  ·
   rw [if_neg (by omega), if_pos b.symm, a]
theorem Rel.near_usd {j : Nat} {v : Int} (h : v ∈ sW s.Graph.Edges (j : Int)) : 0 ≤ v ∧ v < s.Slots.length ∧ Usd s.Slots v := by
 obtain ⟨h0, e, he, q⟩ := R.near_mem.1 h
 obtain ⟨_, _, _, u1, u2⟩ := R.edge he
 have hu : Usd s.Slots v := by
  rcases aFp q with ⟨a, b⟩ | ⟨a, b⟩
  ·
   rw [← b]; exact u2
  ·
   rw [← a]; exact u1
 obtain ⟨k, hk⟩ := hu
 have := (List.getElem?_eq_some_iff.1 hk).1
 exact ⟨h0, by omega, k, hk⟩
theorem Rel.near_nodup (v : Int) : (sW s.Graph.Edges v).Nodup := by
 have pw := (gok R.gd.ok).gc.ti.tb.pw
 unfold en at pw
 rw [List.pairwise_map] at pw
 unfold sW
 refine List.pairwise_filterMap.2 (pw.imp_of_mem fun {a b} ha hb h x hx y hy e => ?_)
 obtain ⟨_, _, a3, _, _⟩ := R.edge ha
 obtain ⟨_, _, b3, _, _⟩ := R.edge hb
 unfold ltE at h
 simp only [] at h
 subst e
 split at hx
 ·
  split at hy
  ·
   cases hx; injection hy with hy; omega
  ·
   split at hy
   ·
    cases hx; injection hy with hy; omega
   ·
    cases hy
 ·
  split at hx
  ·
   split at hy
   ·
    cases hx; injection hy with hy; omega
   ·
    split at hy
    ·
     cases hx; injection hy with hy; omega
    ·
     cases hy
  ·
   cases hx
theorem Rel.kv_nodup {l : List Int} (hl : ∀ v, v ∈ l → 0 ≤ v) (hn : l.Nodup) : ((l.filter (usd s.Slots)).map (kv s.Slots)).Nodup := by
 refine List.pairwise_map.2 ((hn.filter _).imp_of_mem fun {a b} ha hb h e => h ?_)
 obtain ⟨a1, a2⟩ := List.mem_filter.1 ha
 obtain ⟨b1, b2⟩ := List.mem_filter.1 hb
 have := R.ok.v.inj _ _ _ (uK (aHg.1 a2)) (by rw [e]; exact uK (aHg.1 b2))
 have := hl a a1
 have := hl b b1
 omega
omit R in
theorem bKa {l : List Int} {n : Nat} (hn : l.Nodup) (hr : ∀ v, v ∈ l → 0 ≤ v ∧ v < (n : Int)) : l.length ≤ n := by
 have := aY3 (b := (List.range n).map fun (k : Nat) => (k : Int)) hn fun v hv => by
  obtain ⟨h0, h1⟩ := hr v hv
  exact List.mem_map.2 ⟨v.toNat, List.mem_range.2 (by omega), by omega⟩
 simpa using this
end
section
variable {c : aT} {s : aD} {m : aF} (R : Rel c s m) (hS : s.Slots.length ≤ 12) (hE : s.Graph.Edges.length < 10000)
include R hS hE
omit hE in
theorem ans {d a b : Int} {text : ByteArray} {vA vB : Int} {bA bB : Bool} (h5 : 5 ≤ d) (h15 : d ≤ 13) (fA : Fd s a vA bA) (fB : Fd s b vB bB) {rA rB : Bool} (eA : sS d = some rA) (eB : sT d = some rB) (ok : ((rA && !bA) || (rB && !bB)) = false) {r : GA} (h : eE s d vA vB = some r) :
 cU s ⟨d, a, b, text⟩ = some (s, r) := by
 rw [aPm R (by omega) (by simp; omega) fA fB eA eB, ok, bf (by rfl), bt (by simp; omega), h, aA]
omit hE in
theorem aN1 {a : Int} {i : Nat} (h : At s.Slots i a) : Fd s a (i : Int) true := by
 obtain ⟨v, b, f⟩ := fd R (by omega) a
 rcases f.c with ⟨rfl, j, rfl, hj⟩ | ⟨_, _, no⟩
 ·
  have := R.ok.v.inj _ _ _ hj h
  subst this; exact f
 ·
  exact absurd h (no i)
omit hS hE in
theorem kept : ∃ k, nZ s.Graph = some k := ⟨_, aEp R.gd.e R.gd.h⟩
theorem has_eq {a b : Int} (ha : a ∈ m.Keys) (hb : b ∈ m.Keys) (text : ByteArray) : cU s ⟨5, a, b, text⟩ = some (s, GA.b 4 (decide (pr2 a b ∈ m.Pairs))) := by
 obtain ⟨i, hi⟩ := (R.mem a).1 ha
 obtain ⟨j, hj⟩ := (R.mem b).1 hb
 obtain ⟨k, hk⟩ := kept R
 refine ans R hS (by decide) (by decide) (aN1 R hS hi) (aN1 R hS hj) rfl rfl (by rfl) ?_
 unfold eE
 rw [hk, aA, bt (by rfl), wJ (by omega), aA]
 have hh := R.has hi hj
 cases q : fnd (gK (i : Int) (j : Int)) s.Graph.Edges 0 with
 | none =>
  have : ¬ pr2 a b ∈ m.Pairs := fun w => by
   obtain ⟨e, e1, e2⟩ := hh.1 w
   rw [bAv q e e1] at e2; cases e2
  rw [decide_eq_false this]
 | some k =>
  obtain ⟨e, r1, r2, _⟩ := aCf q
  rw [decide_eq_true (hh.2 ⟨e, List.mem_of_getElem? r1, r2⟩)]
theorem bFm {a : Int} (ha : a ∈ m.Keys) (b : Int) (text : ByteArray) : cU s ⟨6, a, b, text⟩ = some (s, GA.i 3 .i64 ((aC8 m.Pairs a).length : Int)) := by
 obtain ⟨i, hi⟩ := (R.mem a).1 ha
 obtain ⟨vB, bB, fB⟩ := fd R (by omega) b
 obtain ⟨k, hk⟩ := kept R
 obtain ⟨i0, i1⟩ := R.lt hi
 refine ans R hS (by decide) (by decide) (aN1 R hS hi) fB rfl rfl (by rfl) ?_
 unfold eE qH
 rw [hk, aA, bf (by rfl), bt (by rfl), aD4 R.gd.ok (by omega) i0 i1, aA, aA, R.near_len hi]
def aT8 (s : aD) (j : Nat) : List Int := aOc ((sW s.Graph.Edges (j : Int)).map (kv s.Slots))
omit hS hE in
theorem aKe (j : Nat) : ((sW s.Graph.Edges (j : Int)).filter (usd s.Slots)) = sW s.Graph.Edges (j : Int) := List.filter_eq_self.2 fun v hv => aHg.2 (R.near_usd hv).2.2
omit hS hE in
theorem aT9 {a : Int} {i : Nat} (hi : At s.Slots i a) : Srt (aT8 s i) (fun y => y ∈ m.Keys ∧ pr2 a y ∈ m.Pairs) ∧ (aT8 s i).length = (aC8 m.Pairs a).length := by
 have nd := R.kv_nodup (fun v hv => (R.near_usd hv).1) (R.near_nodup (i : Int))
 rw [aKe R] at nd
 have S := aQt nd
 refine ⟨⟨S.up, fun y => (S.mem y).trans ?_⟩, by unfold aT8; rw [aA3, List.length_map, R.near_len hi]⟩
 rw [List.mem_map]
 constructor
 ·
  rintro ⟨v, hv, rfl⟩
  obtain ⟨u0, u1, u2⟩ := R.near_usd hv
  have hk := uK u2
  obtain ⟨_, e, he, q⟩ := R.near_mem.1 hv
  refine ⟨(R.mem _).2 ⟨_, hk⟩, (R.has hi hk).2 ⟨e, he, ?_⟩⟩
  rw [Int.toNat_of_nonneg u0]; exact q
 ·
  rintro ⟨hy, hp⟩
  obtain ⟨j, hj⟩ := (R.mem y).1 hy
  obtain ⟨e, he, q⟩ := (R.has hi hj).1 hp
  exact ⟨(j : Int), R.near_mem.2 ⟨by omega, e, he, q⟩, aHt hj⟩
theorem bPd {a : Int} {i : Nat} (hi : At s.Slots i a) (b : Int) (text : ByteArray) : cU s ⟨7, a, b, text⟩ = some (s, GA.lu 24 (aT8 s i)) := by
 obtain ⟨vB, bB, fB⟩ := fd R (by omega) b
 obtain ⟨k, hk⟩ := kept R
 obtain ⟨i0, i1⟩ := R.lt hi
 refine ans R hS (by decide) (by decide) (aN1 R hS hi) fB rfl rfl (by rfl) ?_
 unfold eE
 have nd := R.kv_nodup (fun v hv => (R.near_usd hv).1) (R.near_nodup (i : Int))
 have hl := bKa (R.near_nodup (i : Int)) fun v hv => ⟨(R.near_usd hv).1, (R.near_usd hv).2.1⟩
 rw [hk, aA, bf (by rfl), bf (by rfl), bt (by rfl), aD4 R.gd.ok (by omega) i0 i1, aA, aK6 (by omega) (fun v hv => ⟨(R.near_usd hv).1, (R.near_usd hv).2.1⟩) nd, aA, aKe R]
 rfl
end
end Go.Proofs.YtkdohhmacfoolaaGreat
