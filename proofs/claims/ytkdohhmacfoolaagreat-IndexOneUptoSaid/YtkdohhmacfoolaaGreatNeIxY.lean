/- Facts that the statement's proof is made of. No condition. -/
import Derived.Test.YtkdohhmacfoolaaGreatNeIxW
set_option linter.unusedVariables false
set_option linter.unusedSimpArgs false
set_option maxRecDepth 20000
set_option maxHeartbeats 1000000
namespace Go.Proofs.YtkdohhmacfoolaaGreat
open Go Go.AM Go.Pl Go.Pt Go.Ix
theorem aPo (rec1 : List Int → List Int → Int → Option (List Int)) (l out : List Int) {i : Nat} (hi : i < l.length) (ho : out.length < 1000000) : ∀ (m k : Nat), out.length < k + m → k ≤ out.length → (∀ j y, j < k → out[j]? = some y → y < l[i]) →
 mU rec1 m l out (i : Int) (k : Int) = rec1 l (pZ l[i] out) (IntKind.i64.wrap ((i : Int) + 1))
 | 0, k, hm, hk, _ => by omega
 | m + 1, k, hm, hk, hp => by
  show xH rec1 (mU rec1 m) _ _ _ _ = _
  unfold xH
  by_cases c : k < out.length
  ·
   rw [gt' (by simpa using c), bW c, aA, gt' (by simpa using c), bW hi, aA]
   by_cases q : out[k] < l[i]
   ·
    rw [bt (by simp; omega), wr1 k (by omega)]
    exact aPo rec1 l out hi ho m (k + 1) (by omega) c fun j y hj hy => by
     rcases Nat.lt_or_ge j k with w | w
     ·
      exact hp j y w hy
     ·
      have : j = k := by omega
      subst this; rw [List.getElem?_eq_getElem c] at hy; cases hy; exact q
   ·
    rw [bf (by simp; omega), uJ rfl hk, aA, dY (by simp; omega), aA, aA, dY (by simp; omega), aA, mH rfl hk, aA, dY (by simp; omega), aA]
    rw [aHw hk hp fun y hy => by rw [List.getElem?_eq_getElem c] at hy; cases hy; exact q]
    simp
  ·
   rw [gf' (by simpa using c), aA, gf' (by simpa using c), aA, bf (by simp <;> omega), uJ rfl hk, aA, dY (by simp; omega), aA, bW hi, aA, dY (by simp; omega), aA, mH rfl hk, aA, dY (by simp; omega), aA]
   rw [aHw hk hp fun y hy => by rw [List.getElem?_eq_none (by omega)] at hy; cases hy]
   simp
theorem aP6 (l : List Int) (hl : l.length < 100000) : ∀ (m i : Nat) (out : List Int), l.length < i + m → i ≤ l.length → out.length ≤ i → iN m l out (i : Int) = some ((l.drop i).foldl (fun out x => pZ x out) out)
 | 0, i, out, hm, hi, _ => by omega
 | m + 1, i, out, hm, hi, ho => by
  have hFU := FU'
  show wP (iN m) _ _ _ = _
  unfold wP
  by_cases c : i < l.length
  ·
   have := aPo (iN m) l out c (by omega) bF 0 (by omega) (Nat.zero_le _) (fun j y hj => by omega)
   rw [bt (by simpa using c), show (0 : Int) = ((0 : Nat) : Int) from rfl, this, wr1 i (by omega), aP6 l hl m (i + 1) _ (by omega) c (by rw [wJ]; omega), cR c]
   rfl
  ·
   rw [bf (by simpa using c), List.drop_eq_nil_of_le (by omega)]; rfl
theorem bAk {l : List Int} (hl : l.length < 100000) : zT l = some (aLy l) := by
 have hFU := FU'
 have := aP6 l hl bF 0 [] (by omega) (Nat.zero_le _) (Nat.le_refl _)
 exact this
theorem bFq {z : Int} {l : List Int} : z ∈ aLy l ↔ z ∈ l := by
 have : ∀ (l out : List Int), z ∈ l.foldl (fun out x => pZ x out) out ↔ z ∈ out ∨ z ∈ l := by
  intro l
  induction l with
  | nil => intro out; simp
  | cons x l ih =>
   intro out
   rw [List.foldl_cons, ih, aA9, List.mem_cons]
   constructor
   ·
    rintro ((h | h) | h)
    ·
     exact .inr (.inl h)
    ·
     exact .inl h
    ·
     exact .inr (.inr h)
   ·
    rintro (h | h | h)
    ·
     exact .inl (.inr h)
    ·
     exact .inl (.inl h)
    ·
     exact .inr h
 exact (this l []).trans (by simp)
def KU (m : aC) : Prop := ∀ x, x ∈ m.Keys → 0 ≤ x ∧ x < 18446744073709551616
theorem cnd {β : Type} {c : Bool} {x y o : β} (h : (bif c then x else y) = o) : (c = true ∧ x = o) ∨ (c = false ∧ y = o) := by
 cases c with
 | true => exact .inl ⟨rfl, h⟩
 | false => exact .inr ⟨rfl, h⟩
theorem aQj {α : Type} {l xs r : List α} (h : app l xs = some r) : r = l ++ xs := by
 unfold app at h
 split at h
 ·
  exact (Option.some.inj h).symm
 ·
  cases h
theorem aZ8 {α : Type} {l r : List α} {a b : Int} (h : slc l a b = some r) : ∀ x, x ∈ r → x ∈ l := by
 unfold slc at h
 split at h
 ·
  cases h; exact fun x hx => List.mem_of_mem_drop (List.mem_of_mem_take hx)
 ·
  cases h
theorem aT5 {m k : aC} {d a b f : Int} (h : dN m d a b = some (k, f)) : ∀ x, x ∈ k.Keys → x ∈ m.Keys ∨ x = a := by
 have same : ∀ {f' : Int}, some (m, f') = some (k, f) → ∀ x, x ∈ k.Keys → x ∈ m.Keys ∨ x = a := fun e x hx => by
  have := (Prod.mk.inj (Option.some.inj e)).1
  subst this; exact .inl hx
 unfold dN at h
 obtain ⟨x2, _, h⟩ := bnd h
 rcases cnd h with ⟨_, h⟩ | ⟨_, h⟩
 ·
  rcases cnd h with ⟨_, h⟩ | ⟨_, h⟩
  ·
   exact same h
  rcases cnd h with ⟨_, h⟩ | ⟨_, h⟩
  ·
   exact same h
  obtain ⟨l4, h3, h⟩ := bnd h
  obtain ⟨l6, h5, h⟩ := bnd h
  cases h
  intro x hx
  rw [show (aC.mk m.Most l6 m.Pairs).Keys = l6 from rfl, aQj h5, aQj h3, List.nil_append, List.mem_append] at hx
  exact hx.imp id fun q => by simpa using q
 ·
  obtain ⟨x8, _, h⟩ := bnd h
  rcases cnd h with ⟨_, h⟩ | ⟨_, h⟩
  ·
   exact same h
  rcases cnd h with ⟨_, h⟩ | ⟨_, h⟩
  ·
   obtain ⟨x10, _, h⟩ := bnd h
   rcases cnd h with ⟨_, h⟩ | ⟨_, h⟩
   ·
    exact same h
   obtain ⟨l12, g1, h⟩ := bnd h
   obtain ⟨l14, g2, h⟩ := bnd h
   obtain ⟨l16, g3, h⟩ := bnd h
   obtain ⟨l18, g4, h⟩ := bnd h
   cases h
   intro x hx
   rw [show (aC.mk m.Most l18 m.Pairs).Keys = l18 from rfl, aQj g4, aQj g2, List.nil_append, List.mem_append] at hx
   exact .inl (hx.elim (aZ8 g1 x) (aZ8 g3 x))
  ·
   obtain ⟨x20, _, h⟩ := bnd h
   obtain ⟨x22, _, h⟩ := bnd h
   rcases cnd h with ⟨_, h⟩ | ⟨_, h⟩
   ·
    rcases cnd h with ⟨_, h⟩ | ⟨_, h⟩
    ·
     exact same h
    obtain ⟨_, _, h⟩ := bnd h
    obtain ⟨_, _, h⟩ := bnd h
    obtain ⟨_, _, h⟩ := bnd h
    obtain ⟨_, _, h⟩ := bnd h
    cases h
    exact fun x hx => .inl hx
   ·
    rcases cnd h with ⟨_, h⟩ | ⟨_, h⟩
    ·
     exact same h
    rcases cnd h with ⟨_, h⟩ | ⟨_, h⟩
    ·
     exact same h
    obtain ⟨_, _, h⟩ := bnd h
    obtain ⟨_, _, h⟩ := bnd h
    cases h
    exact fun x hx => .inl hx
theorem KU.change {m k : aC} {d a b f : Int} (hk : KU m) (ha : 0 ≤ a ∧ a < 18446744073709551616) (h : dN m d a b = some (k, f)) : KU k := fun x hx =>
 (aT5 h x hx).elim (hk x) fun e => e ▸ ha
def aKg : List Int → List Int → List Int
  | [], l => l
  | y :: N, l => aKg N (if y ∈ l then l else l ++ [y])
theorem aCn {z : Int} : ∀ {N l : List Int}, z ∈ aKg N l ↔ z ∈ l ∨ z ∈ N
 | [], l => by simp [aKg]
 | y :: N, l => by
  unfold aKg
  rw [aCn]
  split
  ·
   rename_i h
   rw [List.mem_cons]
   constructor
   ·
    rintro (q | q)
    ·
     exact .inl q
    ·
     exact .inr (.inr q)
   ·
    rintro (q | rfl | q)
    ·
     exact .inl q
    ·
     exact .inl h
    ·
     exact .inr q
  ·
   rw [List.mem_append, List.mem_cons, List.mem_cons]
   simp [or_assoc]
theorem aN8 : ∀ {N l : List Int}, l.Nodup → (aKg N l).Nodup
 | [], l, h => h
 | y :: N, l, h => by
  unfold aKg
  refine aN8 ?_
  split
  ·
   exact h
  ·
   rename_i q
   exact List.nodup_append.2 ⟨h, by simp, fun a ha b hb e => q (by
    have : b = y := by simpa using hb
    subst this; exact e ▸ ha)⟩
theorem aN3 : ∀ (N l : List Int), ∃ t, aKg N l = l ++ t
 | [], l => ⟨[], by simp [aKg]⟩
 | y :: N, l => by
  unfold aKg
  split
  ·
   exact aN3 N l
  ·
   obtain ⟨t, h⟩ := aN3 N (l ++ [y])
   exact ⟨y :: t, by rw [h]; simp⟩
theorem aMj (rec1 : aC → List Int → Int → Option (List Int)) (mm : aC) (i : Int) (N : List Int) (hN : N.length < 100000) : ∀ (m k : Nat) (inn : List Int), N.length < k + m → k ≤ N.length → inn.length + N.length < 100000 + k →
 lF rec1 m mm inn i N (k : Int) = rec1 mm (aKg (N.drop k) inn) (IntKind.i64.wrap (i + 1))
 | 0, k, inn, hm, hk, _ => by omega
 | m + 1, k, inn, hm, hk, hl => by
  have hFU := FU'
  show zG rec1 (lF rec1 m) _ _ _ _ _ = _
  unfold zG tB
  by_cases c : k < N.length
  ·
   obtain ⟨r, f1, f2⟩ := kN (l := inn) N[k] (by omega)
   rw [bt (by simpa using c), bW c, aA, f1, aA, wr1 k (by omega), cR c]
   rcases f2 with ⟨f2, rfl⟩ | ⟨j, rfl, f2⟩
   ·
    rw [bt (by rfl), aA, dY (by simp; omega), aA, aMj rec1 mm i N hN m (k + 1) _ (by omega) c (by simp; omega)]
    conv => rhs; unfold aKg
    rw [if_neg f2]
   ·
    rw [bf (by simp), aMj rec1 mm i N hN m (k + 1) _ (by omega) c (by omega)]
    conv => rhs; unfold aKg
    rw [if_pos (List.mem_of_getElem? f2)]
  ·
   rw [bf (by simpa using c), List.drop_eq_nil_of_le (by omega)]; rfl
theorem aUd (u v : Int) : pr2 (pr2 u v).x0 (pr2 u v).x1 = pr2 u v := by
 by_cases h : v < u
 ·
  have e : pr2 u v = ⟨v, u⟩ := if_pos h
  rw [e]
  show pr2 v u = _
  unfold pr2
  rw [if_neg (by omega)]
 ·
  have e : pr2 u v = ⟨u, v⟩ := if_neg h
  rw [e]; exact e
def pe (m : aC) : List E := m.Pairs.map fun p => (p.x0, p.x1)
section
variable {c : aO} {s : aE} {m : aC} (R : Rel c s m) (K : KU m)
include R K
theorem aEm {a y : Int} : y ∈ uH m.Pairs a ↔ pr2 a y ∈ m.Pairs := by
 have nm : ∀ p, p ∈ m.Pairs → pr2 p.x0 p.x1 = p := fun p hp => by
  rw [R.pairs.mem_iff, List.mem_map] at hp
  obtain ⟨q, _, rfl⟩ := hp
  exact aUd _ _
 have rg : ∀ p, p ∈ m.Pairs → (0 ≤ p.x0 ∧ p.x0 < 18446744073709551616) ∧ (0 ≤ p.x1 ∧ p.x1 < 18446744073709551616) := fun p hp => ⟨K _ (R.pair_keys hp).2.1, K _ (R.pair_keys hp).2.2⟩
 unfold uH
 rw [bFq, List.mem_map]
 constructor
 ·
  rintro ⟨p, hp, rfl⟩
  obtain ⟨p1, p2⟩ := List.mem_filter.1 hp
  obtain ⟨o1, o2⟩ := aZs (a := a) (rg p p1).1 (rg p p1).2
  unfold touch at p2
  simp only [Bool.or_eq_true, beq_iff_eq] at p2
  rcases p2 with e | e
  ·
   rw [o1 e, ← e, nm p p1]; exact p1
  ·
   rw [o2 e, ← e, aHb, nm p p1]; exact p1
 ·
  intro h
  refine ⟨_, List.mem_filter.2 ⟨h, ?_⟩, ?_⟩
  ·
   unfold touch pr2
   split <;> simp
  ·
   obtain ⟨o1, o2⟩ := aZs (a := a) (rg _ h).1 (rg _ h).2
   by_cases q : y < a
   ·
    have e : pr2 a y = ⟨y, a⟩ := by unfold pr2; rw [if_pos q]
    rw [e] at o2 ⊢
    exact o2 rfl
   ·
    have e : pr2 a y = ⟨a, y⟩ := by unfold pr2; rw [if_neg q]
    rw [e] at o1 ⊢
    exact o1 rfl
theorem bHj {a y : Int} (h : y ∈ uH m.Pairs a) : y ∈ m.Keys := by
 have := R.pair_keys ((aEm R K).1 h)
 unfold pr2 at this
 split at this
 ·
  exact this.2.1
 ·
  exact this.2.2
theorem bC4 {a y : Int} (h : y ∈ uH m.Pairs a) : bN (pe m) a y := by
 have h := (aEm R K).1 h
 unfold pr2 at h
 split at h
 ·
  exact .eno (List.mem_map.2 ⟨_, h, rfl⟩)
 ·
  exact .one (List.mem_map.2 ⟨_, h, rfl⟩)
theorem aPu {a b : Int} (h : (a, b) ∈ pe m) : b ∈ uH m.Pairs a ∧ a ∈ uH m.Pairs b := by
 obtain ⟨p, p1, p2⟩ := List.mem_map.1 h
 cases p2
 have nm : pr2 p.x0 p.x1 = p := by
  have hp := p1
  rw [R.pairs.mem_iff, List.mem_map] at hp
  obtain ⟨q, _, rfl⟩ := hp
  exact aUd _ _
 exact ⟨(aEm R K).2 (by rw [nm]; exact p1), (aEm R K).2 (by rw [aHb, nm]; exact p1)⟩
theorem aSy (hP : m.Pairs.length < 10000) (hK : m.Keys.length ≤ 1000) {a : Int} : ∀ (n i : Nat) (inn : List Int), inn.Nodup → (∀ y, y ∈ inn → y ∈ m.Keys ∧ bN (pe m) a y) → a ∈ inn → i ≤ inn.length → m.Keys.length < i + n → (∀ j x, j < i → inn[j]? = some x → ∀ y, y ∈ uH m.Pairs x → y ∈ inn) →
 ∃ L, gF n m inn (i : Int) = some L ∧ Srt L (fun y => y ∈ m.Keys ∧ bN (pe m) a y)
 | 0, i, inn, nd, hin, _, hi, hn, _ => by
  have := tW nd fun y hy => (hin y hy).1
  omega
 | n + 1, i, inn, nd, hin, ha, hi, hn, hc => by
  have hFU := FU'
  have hl := tW nd fun y hy => (hin y hy).1
  show ∃ L, zK (gF n) _ _ _ = some L ∧ _
  unfold zK
  by_cases c : i < inn.length
  ·
   have nl : (uH m.Pairs inn[i]).length < 10001 := by
    rw [aPp]
    have := List.length_filter_le (touch inn[i]) m.Pairs
    omega
   have := aMj (gF n) m (i : Int) (uH m.Pairs inn[i]) (by omega) bF 0 inn (by omega) (Nat.zero_le _) (by omega)
   rw [bt (by simpa using c), bW c, aA, aGt (by omega), aA, show (0 : Int) = ((0 : Nat) : Int) from rfl, this, wr1 i (by omega), List.drop_zero]
   obtain ⟨t, ht⟩ := aN3 (uH m.Pairs inn[i]) inn
   have hi1 := hin _ (List.getElem_mem c)
   refine aSy hP hK n (i + 1) _ (aN8 nd) (fun y hy => ?_) (aCn.2 (.inl ha)) (by rw [ht]; simp; omega) (by omega) (fun j x hj hx y hy => ?_)
   ·
    rcases aCn.1 hy with q | q
    ·
     exact hin y q
    ·
     exact ⟨bHj R K q, hi1.2.trans (bC4 R K q)⟩
   ·
    have hx' : inn[j]? = some x := by
     rw [ht, List.getElem?_append_left (by omega)] at hx
     exact hx
    rcases Nat.lt_or_ge j i with w | w
    ·
     exact aCn.2 (.inl (hc j x w hx' y hy))
    ·
     have : j = i := by omega
     subst this
     rw [List.getElem?_eq_getElem c] at hx'
     cases hx'
     exact aCn.2 (.inr hy)
  ·
   rw [bf (by simpa using c), bAk (by omega), aA]
   refine ⟨_, rfl, ?_⟩
   have S := aUl nd
   refine ⟨S.up, fun y => (S.mem y).trans ⟨hin y, fun ⟨_, h⟩ => ?_⟩⟩
   have cl : ∀ x y, x ∈ inn → y ∈ uH m.Pairs x → y ∈ inn := fun x y hx hy => by
    obtain ⟨j, hj⟩ := List.getElem?_of_mem hx
    exact hc j x (by have := (List.getElem?_eq_some_iff.1 hj).1; omega) hj y hy
   have key : ∀ {x y : Int}, bN (pe m) x y → x ∈ inn → y ∈ inn := fun {x y} h => by
    induction h with
    | refl x => exact id
    | fwd e _ ih => exact fun hx => ih (cl _ _ hx (aPu R K e).1)
    | bwd e _ ih => exact fun hx => ih (cl _ _ hx (aPu R K e).2)
   exact key h ha
theorem aTk (hP : m.Pairs.length < 10000) (hK : m.Keys.length ≤ 1000) {a : Int} (ha : a ∈ m.Keys) : ∃ L, vL m a = some L ∧ Srt L (fun y => y ∈ m.Keys ∧ bN (pe m) a y) := by
 have hFU := FU'
 exact aSy R K hP hK bF 0 [a] (by simp) (fun y hy => by
  have : y = a := by simpa using hy
  subst this; exact ⟨ha, .refl _⟩) (by simp) (Nat.zero_le _) (by omega) (fun j x hj => by omega)
omit K in
theorem wF {i j : Nat} {a b : Int} (hi : At s.Slots i a) (hj : At s.Slots j b) : bN (pe m) a b ↔ bN (en s.Graph.Edges) (i : Int) (j : Int) := by
 have e1 := aDq hi
 have e2 := aDq hj
 have ui : Usd s.Slots (i : Int) := ⟨a, by rw [Int.toNat_natCast]; exact hi⟩
 have uj : Usd s.Slots (j : Int) := ⟨b, by rw [Int.toNat_natCast]; exact hj⟩
 have M := aRw (l := en s.Graph.Edges) (kv s.Slots) (fun v => 0 ≤ v ∧ Usd s.Slots v) (fun e he => by
  obtain ⟨q, q1, q2⟩ := fQ.1 he
  obtain ⟨h1, h2, _, h3, h4⟩ := R.edge q1
  cases q2
  exact ⟨⟨h1, h3⟩, ⟨h2, h4⟩⟩) (fun x y hx hy e => by
  have := R.ok.v.inj _ _ _ (rY hx.2) (by rw [e]; exact rY hy.2)
  omega) (x := (i : Int)) (y := (j : Int)) ⟨by omega, ui⟩ ⟨by omega, uj⟩
 rw [e1, e2] at M
 refine Iff.trans ⟨aMw fun x y h => ?_, aMw fun x y h => ?_⟩ M
 ·
  obtain ⟨p, p1, p2⟩ := List.mem_map.1 h
  cases p2
  rw [R.pairs.mem_iff, List.mem_map] at p1
  obtain ⟨q, q1, rfl⟩ := p1
  unfold sB pr2
  split
  ·
   exact .inr (List.mem_map.2 ⟨q, q1, rfl⟩)
  ·
   exact .inl (List.mem_map.2 ⟨q, q1, rfl⟩)
 ·
  obtain ⟨q, q1, q2⟩ := List.mem_map.1 h
  cases q2
  have : sB s.Slots q ∈ m.Pairs := R.pairs.mem_iff.2 (List.mem_map.2 ⟨q, q1, rfl⟩)
  unfold sB pr2 at this
  split at this
  ·
   exact .inr (List.mem_map.2 ⟨_, this, rfl⟩)
  ·
   exact .inl (List.mem_map.2 ⟨_, this, rfl⟩)
end
end Go.Proofs.YtkdohhmacfoolaaGreat
