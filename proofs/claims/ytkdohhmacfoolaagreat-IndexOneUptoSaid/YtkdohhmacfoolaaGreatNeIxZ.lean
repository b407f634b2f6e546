/- Facts that the statement's proof is made of. No condition. -/
import Derived.Test.YtkdohhmacfoolaaGreatNeIxW
import Derived.Test.YtkdohhmacfoolaaGreatNeIxY
set_option linter.unusedVariables false
set_option linter.unusedSimpArgs false
set_option maxRecDepth 20000
set_option maxHeartbeats 1000000
namespace Go.Proofs.YtkdohhmacfoolaaGreat
open Go Go.AM Go.Pl Go.Pt Go.Ix
theorem aXw (b w : Bool) : aAc (GA.b 4 b) w = some (b == w) := rfl
def pk (s : aE) : Int → Int := cH (en (kf s.Graph))
section
variable (rec2 : aE → aC → Int → List Int → Int → Int → Option Bool) (rec3 : aE → aC → Int → Int → List Int → List Int → Int → Int → List Int → Int → Int → Option Bool)
end
section
variable {c : aO} {s : aE} {mm : aC} (R : Rel c s mm) (hS : s.Slots.length ≤ 10)
include R hS
end
end Go.Proofs.YtkdohhmacfoolaaGreat
set_option linter.unusedVariables false
set_option linter.unusedSimpArgs false
set_option maxRecDepth 20000
set_option maxHeartbeats 1000000
namespace Go.Proofs.YtkdohhmacfoolaaGreat
open Go Go.AM Go.Pl Go.Pt Go.Ix
theorem aQg (l w : List Int) (hl : l.length < 1000000000) : lX (GA.lu 24 l) w = some (decide (l = w)) := by
 unfold lX
 rw [show aVr 24 (GA.lu 24 l) = some (l, true) from rfl, aA]
 simp only []
 rw [gt' (by rfl), aQu l w hl, aA, Bool.true_and]
section
variable {c : aO} {s : aE} {m : aC} (R : Rel c s m)
include R
def aLg (s : aE) (i : Nat) : Prop := ∀ (j : Nat) (b : Int), At s.Slots j b → (pk s (j : Int) = pk s (i : Int) ↔ bN (en s.Graph.Edges) (i : Int) (j : Int))
theorem aVa (K : KU m) {i : Nat} {a : Int} (hi : At s.Slots i a) {L : List Int} (hL : Srt L (fun y => y ∈ m.Keys ∧ bN (pe m) a y)) : sE s (pk s) (i : Int) = L ↔ aLg s i := by
 have M := qS R (pk s) (i : Int)
 constructor
 ·
  intro e j b hj
  have h1 := M.mem b
  rw [e, hL.mem] at h1
  rw [← wF R hi hj]
  constructor
  ·
   intro q; exact (h1.2 ⟨j, hj, q⟩).2
  ·
   intro q
   obtain ⟨j', g1, g2⟩ := h1.1 ⟨(R.mem b).2 ⟨j, hj⟩, q⟩
   have := R.ok.v.inj _ _ _ g1 hj
   subst this; exact g2
 ·
  intro h
  refine M.uniq hL fun y => ?_
  constructor
  ·
   rintro ⟨j, g1, g2⟩
   exact ⟨(R.mem y).2 ⟨j, g1⟩, (wF R hi g1).2 ((h j y g1).1 g2)⟩
  ·
   rintro ⟨g1, g2⟩
   obtain ⟨j, hj⟩ := (R.mem y).1 g1
   exact ⟨j, hj, (h j y hj).2 ((wF R hi hj).1 g2)⟩
theorem bAy : pt s.Graph.Config.N (kf s.Graph) = pt s.Graph.Config.N s.Graph.Edges ↔ ∀ (i : Nat) (a : Int), At s.Slots i a → aLg s i := by
 have sub : ∀ e, e ∈ kf s.Graph → e ∈ s.Graph.Edges := fun e he => aBr he
 have P1 := isP (en (kf s.Graph))
 have P2 := isP (en s.Graph.Edges)
 have up : ∀ {x y : Int}, bN (en (kf s.Graph)) x y → bN (en s.Graph.Edges) x y := fun h => h.mono (aUw sub)
 constructor
 ·
  intro h i a hi j b hj
  have e : ∀ x : Int, 0 ≤ x → x < s.Graph.Config.N → cH (en (kf s.Graph)) x = cH (en s.Graph.Edges) x := fun x h0 hx => by
   have h1 := aQm (l := kf s.Graph) h0 hx
   rw [h, aQm h0 hx] at h1
   exact (Option.some.inj h1).symm
  have li := R.lt hi
  have lj := R.lt hj
  show cH (en (kf s.Graph)) _ = cH (en (kf s.Graph)) _ ↔ _
  rw [e _ li.1 li.2, e _ lj.1 lj.2, P2.iff]
  exact ⟨bN.symm, bN.symm⟩
 ·
  intro h
  refine bI7 fun x h0 hx => ?_
  by_cases ux : Usd s.Slots x
  ·
   have c1 : bN (en (kf s.Graph)) x (cH (en (kf s.Graph)) x) := kM _ _
   have c2 : bN (en s.Graph.Edges) x (cH (en s.Graph.Edges) x) := kM _ _
   have u2 : Usd s.Slots (cH (en s.Graph.Edges) x) := (R.conn_usd (fun _ h => h) c2).elim (fun w => w ▸ ux) (·.2)
   have r2 := bG7 R.n0.2.2 h0 hx
   obtain ⟨k, hk⟩ := ux
   obtain ⟨k2, hk2⟩ := u2
   have q := (h x.toNat k hk _ k2 hk2).2 (by rw [Int.toNat_of_nonneg h0, Int.toNat_of_nonneg r2.1]; exact c2)
   rw [Int.toNat_of_nonneg h0, Int.toNat_of_nonneg r2.1] at q
   have q : cH (en (kf s.Graph)) (cH (en s.Graph.Edges) x) = cH (en (kf s.Graph)) x := q
   have a1 := P1.le (cH (en s.Graph.Edges) x)
   have a2 := P2.le (cH (en (kf s.Graph)) x)
   have a3 := (P2.iff _ _).2 (up c1)
   omega
  ·
   have z1 := R.conn_usd sub (kM (en (kf s.Graph)) x)
   have z2 := R.conn_usd (fun _ h => h) (kM (en s.Graph.Edges) x)
   rcases z1 with z1 | z1
   ·
    rcases z2 with z2 | z2
    ·
     rw [← z1, ← z2]
    ·
     exact absurd z2.1 ux
   ·
    exact absurd z1.1 ux
variable (hS : s.Slots.length ≤ 10) (K : KU m)
include hS K
theorem bGf (hE : s.Graph.Edges.length < 10000) : ∀ (n i : Nat) (all : Bool), m.Keys.length < i + n → i ≤ m.Keys.length → ((all = true ∧ ∀ (j : Nat) (a : Int) (v : Nat), i ≤ j → m.Keys[j]? = some a → At s.Slots v a → aLg s v) ↔ pt s.Graph.Config.N (kf s.Graph) = pt s.Graph.Config.N s.Graph.Edges) →
 lG n s m all m.Keys (m.Keys.length : Int) (i : Int) = some true
 | 0, i, all, hm, hi, _ => by omega
 | n + 1, i, all, hm, hi, hs => by
  have hFU := FU'
  have sm := R.small (by omega) hE
  have hK : m.Keys.length ≤ 10 := by
   have := R.keys.length_eq
   have := aZ5 s.Slots
   omega
  have hP : m.Pairs.length < 10000 := by
   have b := R.pairs.length_eq
   rw [List.length_map, nT] at b
   omega
  show zW (lG n) _ _ _ _ _ _ = _
  unfold zW
  by_cases c : i < m.Keys.length
  ·
   obtain ⟨v, hv⟩ := (R.mem _).1 (List.getElem_mem c)
   obtain ⟨L, hL, S⟩ := aTk R K hP (by omega) (List.getElem_mem c)
   have ml : (sE s (pk s) (v : Int)).length < 1000000000 := by
    have := tW (b := m.Keys) (qS R (pk s) (v : Int)).nodup fun y hy => (R.mem _).2 ((((qS R (pk s) (v : Int)).mem y).1 hy).imp fun _ h => h.1)
    omega
   have ex := aVa R K hv S
   rw [bt (by simpa using c), bW c, aA, aLr R (by omega) hv, aA]
   simp only []
   have split : ∀ b : Bool, (all && b) = true ↔ all = true ∧ b = true := fun b => Bool.and_eq_true_iff
   have step : ∀ b : Bool, (b = true ↔ aLg s v) → lG n s m (all && b) m.Keys (m.Keys.length : Int) ((i + 1 : Nat) : Int) = some true := fun b hb => by
    refine bGf hE n (i + 1) (all && b) (by omega) c (Iff.trans ?_ hs)
    rw [split]
    constructor
    ·
     rintro ⟨⟨h1, h2⟩, h3⟩
     refine ⟨h1, fun j a w hj ha hw => ?_⟩
     rcases Nat.lt_or_ge i j with q | q
     ·
      exact h3 j a w q ha hw
     ·
      have : j = i := by omega
      subst this
      rw [List.getElem?_eq_getElem c] at ha
      cases ha
      have := R.ok.v.inj _ _ _ hw hv
      subst this
      exact hb.1 h2
    ·
     rintro ⟨h1, h2⟩
     exact ⟨⟨h1, hb.2 (h2 i _ v (Nat.le_refl _) (List.getElem?_eq_getElem c) hv)⟩, fun j a w hj ha hw => h2 j a w (by omega) ha hw⟩
   cases all with
   | true =>
    have t := aQg (sE s (pk s) (v : Int)) L ml
    have t : lX (GA.lu 24 (sE s (cH (en (kf s.Graph))) (v : Int))) L = some (decide (sE s (pk s) (v : Int) = L)) := t
    rw [gt' (by rfl), hL, aA, gt' (by rfl), t, aA, wr1 i (by omega)]
    exact step _ (decide_eq_true_iff.trans ex)
   | false =>
    rw [gf' (by rfl), aA, gf' (by rfl), aA, wr1 i (by omega)]
    have := step (decide (sE s (pk s) (v : Int) = L)) (decide_eq_true_iff.trans ex)
    rw [Bool.false_and] at this ⊢
    exact this
  ·
   rw [bf (by simpa using c), bG4 R (by omega), aA]
   simp only []
   have e : decide (pt s.Graph.Config.N (kf s.Graph) = pt s.Graph.Config.N s.Graph.Edges) = all := by
    cases all with
    | true => exact decide_eq_true (hs.1 ⟨rfl, fun j a v hj ha => absurd (List.getElem?_eq_some_iff.1 ha).1 (by omega)⟩)
    | false => exact decide_eq_false fun h => Bool.noConfusion (hs.2 h).1
   rw [e, aXw, aA, gt' (by simp), aEi, aA]
   simp
end
theorem bHk {c : aO} (L : List aY) (hL : L.length ≤ 1000) (hA : ∀ x, x ∈ L → 0 ≤ x.A ∧ x.A < 18446744073709551616) : ∀ (m i : Nat) (s : aE) (mm : aC), Rel c s mm → KU mm → s.Slots.length ≤ 10 → s.Graph.Edges.length ≤ i → L.length < i + m → i ≤ L.length → oI m s mm L (L.length : Int) (i : Int) = some true
 | 0, i, s, mm, _, _, _, _, hm, hi => by omega
 | m + 1, i, s, mm, R, K, hS, hE, hm, hi => by
  have hFU := FU'
  show zV (oI m) _ _ _ _ _ = _
  unfold zV
  by_cases c : i < L.length
  ·
   rw [bt (by simpa using c), bW c, aA]
   by_cases q : L[i].Do < 1 ∨ 4 < L[i].Do
   ·
    rw [bt (by simpa using q), aEi, aA]
   ·
    obtain ⟨s', f, k, I, M, R', _, e1, e2, _⟩ := step R (by omega) (by omega) (d := L[i].Do) (by omega) (by omega) L[i].A L[i].B L[i].Text
    have I' : dK s L[i] = some (s', GA.i 36 .i64 f) := I
    rw [bf (by simp; omega), I', aA]
    simp only []
    rw [M, aA, wr1 i (by omega)]
    exact bHk L hL hA m (i + 1) s' k R' (K.change (hA _ (List.getElem_mem c)) M) (by omega) (by omega) (by omega) c
  ·
   rw [bf (by simpa using c)]
   have sm := R.small (by omega) (by omega)
   refine bGf R hS K (by omega) bF 0 true (by omega) (Nat.zero_le _) ?_
   rw [bAy R]
   constructor
   ·
    rintro ⟨_, h⟩ i a hi
    obtain ⟨j, hj⟩ := List.getElem?_of_mem ((R.mem a).2 ⟨i, hi⟩)
    exact h j a i (Nat.zero_le _) hj hi
   ·
    exact fun h => ⟨rfl, fun j a v _ _ hv => h v a hv⟩
theorem wfk {x : Int} (h : (Lit.int .u64 x).wf = true) : 0 ≤ x ∧ x < 18446744073709551616 := bM5 (l := [x]) (P := True) ⟨fun y hy => by
 have : y = x := by simpa using hy
 subst this; exact h, trivial⟩ x (by simp)
theorem aS2 (c : aO) (words : List Int) (l : List aY) (hw : W64 words) (hb : words.length ≤ 1048576) (hA : ∀ x, x ∈ l → 0 ≤ x.A ∧ x.A < 18446744073709551616) : vQ c words l = some true := by
 have hFU := FU'
 obtain ⟨r2, s, w, e, f1, f2, f3⟩ := start hw hb l (c := c) (most := 30) (by omega)
 have f1' : mN c l 30 = some r2 := f1
 unfold vQ
 rw [f1', aA, f2, aA]
 simp only []
 rcases f3 with f3 | ⟨f3, n, rfl, n1, n2, R, h1, h2⟩
 ·
  rw [bt f3, aEi, aA]
 ·
  rw [bf f3, uJ rfl n1, aA]
  exact bHk (l.take n) (by simp; omega) (fun x hx => hA x (List.mem_of_mem_take hx)) bF 0 s _ R (fun x hx => by cases hx) h1 (by rw [h2]; exact Nat.le_refl _) (by simp; omega) (Nat.zero_le _)
theorem aQs (c : aO) (words : List Int) (l : List aY) {A P B C : Prop} (_ : A) (w : (∀ y, y ∈ words → (Lit.int .u64 y).wf = true) ∧ P)
 (a : (∀ y, y ∈ l → ((Lit.int .i64 y.Do).wf = true) ∧ ((Lit.int .u64 y.A).wf = true) ∧ ((Lit.int .u64 y.B).wf = true) ∧ (y.Text.size ≤ maxLen)) ∧ B) (b : words.length ≤ 1048576) (_ : C) : vQ c words l = some true :=
 aS2 c words l (bM5 w) b fun x hx => wfk (a.1 x hx).2.1
end Go.Proofs.YtkdohhmacfoolaaGreat
