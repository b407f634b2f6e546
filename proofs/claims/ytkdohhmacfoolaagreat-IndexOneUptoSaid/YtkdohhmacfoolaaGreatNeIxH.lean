/- Facts that the statement's proof is made of. No condition. -/
import Derived.Test.YtkdohhmacfoolaaGreatNeIxF
import Derived.Test.YtkdohhmacfoolaaGreatNeIxZ
set_option linter.unusedVariables false
set_option linter.unusedSimpArgs false
set_option maxRecDepth 20000
set_option maxHeartbeats 1000000
namespace Go.Proofs.YtkdohhmacfoolaaGreat
open Go Go.AM Go.Pl Go.Pt Go.Ix
def unU (s : aE) : Nat := (vs s.Graph.Config.N).countP fun v => !usd s.Slots v
theorem countP_split {α : Type} (a b : α → Bool) (h : ∀ x, b x = false → a x = true) : ∀ l : List α, l.countP a = l.countP (fun x => a x && b x) + l.countP fun x => !b x
 | [] => rfl
 | x :: l => by
  rw [List.countP_cons, List.countP_cons, List.countP_cons, countP_split a b h l]
  cases hb : b x with
  | false => rw [h x hb]; simp; omega
  | true => cases a x <;> simp <;> omega
section
variable {c : aO} {s : aE} {m : aC} (R : Rel c s m)
include R
theorem aZ6 {l : List aD} (hl : ∀ e, e ∈ l → e ∈ s.Graph.Edges) : cl s.Graph.Config.N.toNat (en l) = aSt s (cH (en l)) + unU s := by
 have h := countP_split (fun v : Int => v == cH (en l) v) (usd s.Slots) (fun v hv => by
  have := R.conn_usd hl (kM (en l) v)
  rcases this with q | q
  ·
   show (v == cH (en l) v) = true
   rw [← q]; simp
  ·
   rw [aAg.2 q.1] at hv; cases hv) (vs s.Graph.Config.N)
 have e : cl s.Graph.Config.N.toNat (en l) = (vs s.Graph.Config.N).countP fun v : Int => v == cH (en l) v := by
  unfold cl cnt vs
  rw [List.countP_map]
  congr 1
  funext k
  show decide (cH (en l) (k : Int) = (k : Int)) = ((k : Int) == cH (en l) (k : Int))
  by_cases q : cH (en l) (k : Int) = (k : Int)
  ·
   rw [q]; simp
  ·
   rw [decide_eq_false q]; exact (beq_eq_false_iff_ne.2 fun w => q w.symm).symm
 rw [e, h]; rfl
theorem bL1 : m.Keys.length + unU s = s.Slots.length := by
 have hl := R.ok.len
 have e : (vs s.Graph.Config.N).map (usd s.Slots) = s.Slots.map (·.Used) := by
  refine List.ext_getElem (by simp [aW5]; omega) fun i h1 h2 => ?_
  have c : i < s.Slots.length := by simpa using h2
  have cv : i < (vs s.Graph.Config.N).length := by simpa using h1
  rw [List.getElem_map, List.getElem_map]
  have : (vs s.Graph.Config.N)[i] = (i : Int) := bLw cv
  rw [this]
  unfold usd
  rw [Int.toNat_natCast, List.getElem?_eq_getElem c]; rfl
 have e2 : unU s = s.Slots.countP fun x => !x.Used := by
  have q := congrArg (List.countP fun b : Bool => !b) e
  rw [List.countP_map, List.countP_map] at q
  exact q
 have e3 : m.Keys.length = s.Slots.countP (·.Used) := by
  rw [R.keys.length_eq]
  unfold uk
  rw [List.length_map]
  exact List.countP_eq_length_filter.symm
 have e4 := countP_split (α := aM) (fun _ => true) (·.Used) (fun _ _ => rfl) s.Slots
 have e5 : s.Slots.countP (fun _ => true) = s.Slots.length := by simp
 simp only [Bool.true_and] at e4
 omega
theorem aYd (K : KU m) {i : Nat} {a : Int} (hi : At s.Slots i a) {L : List Int} (hL : Srt L (fun y => y ∈ m.Keys ∧ bN (pe m) a y)) : sE s (cH (en s.Graph.Edges)) (i : Int) = L := by
 refine (qS R _ (i : Int)).uniq hL fun y => ?_
 constructor
 ·
  rintro ⟨j, g1, g2⟩
  exact ⟨(R.mem y).2 ⟨j, g1⟩, (wF R hi g1).2 ((nB _).1 g2).symm⟩
 ·
  rintro ⟨g1, g2⟩
  obtain ⟨j, hj⟩ := (R.mem y).1 g1
  exact ⟨j, hj, (nB _).2 ((wF R hi hj).1 g2).symm⟩
end
section
variable (rec2 : aE → aC → Int → List Int → Int → Int → Option Bool) (rec3 : aE → aC → Int → Int → List Int → List Int → Int → Int → List Int → Int → Int → Option Bool)
theorem bEj (s : aE) (mm : aC) (classes k x : Int) (so t92 t127 : List Int) (t93 t94 t128 t129 : Int) (hl : so.length < 1000000) : ∀ (m i : Nat) (inn : Bool), so.length < i + m → i ≤ so.length →
 uC rec2 rec3 m s mm classes k so x inn t92 t93 t94 t127 t128 t129 so (so.length : Int) (i : Int) =
  bif !(inn || decide (x ∈ so.drop i)) then some false else rec3 s mm classes k so t92 t93 t94 t127 t128 (IntKind.i64.wrap (t129 + 1))
 | 0, i, inn, hm, hi => by omega
 | m + 1, i, inn, hm, hi => by
  show aD6 rec2 rec3 (uC rec2 rec3 m) _ _ _ _ _ _ _ _ _ _ _ _ _ _ _ _ = _
  unfold aD6
  by_cases c : i < so.length
  ·
   rw [bt (nU c), bW c, aA, wr1 i (by omega), bEj s mm classes k x so t92 t127 t93 t94 t128 t129 hl m (i + 1) _ (by omega) c, cR c]
   have e : (inn || x == so[i] || decide (x ∈ so.drop (i + 1))) = (inn || decide (x ∈ so[i] :: so.drop (i + 1))) := by
    rw [Bool.or_assoc]
    congr 1
    by_cases q : x = so[i]
    ·
     rw [q, decide_eq_true (List.mem_cons_self ..)]; simp
    ·
     have : (x == so[i]) = false := beq_eq_false_iff_ne.2 q
     rw [this, Bool.false_or]
     exact decide_eq_decide.2 (by rw [List.mem_cons]; exact ⟨.inr, fun h => h.elim (fun w => absurd w q) id⟩)
   rw [e]
  ·
   rw [bf (nY c), List.drop_eq_nil_of_le (by omega)]
   simp
end
section
variable {c : aO} {s : aE} {m : aC} (R : Rel c s m)
include R
omit R in
theorem bFl (rec2 : aE → aC → Int → List Int → Int → Int → Option Bool) (classes k : Int) (so got t92 : List Int) (t93 t94 : Int) (hs : so.length < 1000000) (hg : got.length < 1000000) (hsub : ∀ x, x ∈ got → x ∈ so) {y : Int} (hy : so[0]? = some y) : ∀ (n i : Nat), got.length < i + n → i ≤ got.length →
 mF rec2 n s m classes k so t92 t93 t94 got (got.length : Int) (i : Int) = rec2 s m (bif y == k then IntKind.i64.wrap (classes + 1) else classes) t92 t93 (IntKind.i64.wrap (t94 + 1))
 | 0, i, hm, hi => by omega
 | n + 1, i, hm, hi => by
  have hFU := FU'
  show aDm rec2 (mF rec2 n) _ _ _ _ _ _ _ _ _ _ _ = _
  unfold aDm yI
  by_cases c : i < got.length
  ·
   have := bEj rec2 (mF rec2 n) s m classes k got[i] so t92 got t93 t94 (got.length : Int) (i : Int) hs bF 0 false (by omega) (Nat.zero_le _)
   rw [List.drop_zero, Bool.false_or, decide_eq_true (hsub _ (List.getElem_mem c)), bf (by rfl), wr1 i (by omega)] at this
   rw [bt (nU c), bW c, aA, show (0 : Int) = ((0 : Nat) : Int) from rfl, this, bFl rec2 classes k so got t92 t93 t94 hs hg hsub hy n (i + 1) (by omega) c]
  ·
   have h0 : idx so 0 = some y := by
    have := fI so 0
    rw [show ((0 : Nat) : Int) = 0 from rfl] at this
    rw [this]; exact hy
   rw [bf (nY c), h0, aA]
   cases q : y == k with
   | true => rw [bt rfl, bt rfl]
   | false => rw [bf rfl, bf rfl]
omit R in
theorem bGr (K : KU m) (hP : m.Pairs.length < 1000000) (classes many : Int) (ps : List aI) (hl : ps.length < 1000000) (hps : ∀ p, p ∈ ps → p ∈ m.Pairs ∧ p.x0 < p.x1) (h1 : classes ≤ many) (h2 : (ps.length : Int) = (m.Keys.length : Int) - many) : ∀ (n i : Nat), ps.length < i + n → i ≤ ps.length →
 tU n m classes many true ps true ps (ps.length : Int) (i : Int) = some true
 | 0, i, hm, hi => by omega
 | n + 1, i, hm, hi => by
  show aDu (tU n) _ _ _ _ _ _ _ _ _ = _
  unfold aDu
  by_cases c : i < ps.length
  ·
   obtain ⟨p1, p2⟩ := hps _ (List.getElem_mem c)
   have e : pr2 ps[i].x0 ps[i].x1 = ps[i] := by unfold pr2; rw [if_neg (by omega)]
   have l1 : decide (ps[i].x1 ≤ ps[i].x0) = false := decide_eq_false (by omega)
   rw [bt (nU c), bW c, aA, l1, gt' (by rfl), aTd _ _ hP, aA, e, decide_eq_true p1, bf (by rfl), wr1 i (by omega)]
   exact bGr K hP classes many ps hl hps h1 h2 n (i + 1) (by omega) c
  ·
   have e : IntKind.i64.wrap ((m.Keys.length : Int) - many) = (ps.length : Int) := by rw [← h2, wr0 (by omega) (by omega)]
   have z : (((true && true) && decide (classes ≤ many)) && ((ps.length : Int) == IntKind.i64.wrap ((m.Keys.length : Int) - many))) = true := by rw [e, decide_eq_true h1]; simp
   rw [bf (nY c), z, gt' (by rfl), aEi, aA]; rfl
variable (hS : s.Slots.length ≤ 10) (K : KU m)
include hS K
theorem aV3 (hE : s.Graph.Edges.length < 10000) : ∀ (n i f : Nat), m.Keys.length < i + n → i ≤ m.Keys.length → f ≤ i → f + (m.Keys.drop i).countP (aTj s (cH (en s.Graph.Edges))) = aSt s (cH (en s.Graph.Edges)) →
 iC n s m (f : Int) m.Keys (m.Keys.length : Int) (i : Int) = some true
 | 0, i, f, hm, hi, _, _ => by omega
 | n + 1, i, f, hm, hi, hf, hs => by
  have hFU := FU'
  have sm := R.small (by omega) hE
  have hK : m.Keys.length ≤ 10 := by
   have := R.keys.length_eq
   have := aZ5 s.Slots
   omega
  have hP : m.Pairs.length < 10000 := by
   have b := R.pairs.length_eq
   rw [List.length_map, nT] at b
   omega
  show aCl (iC n) _ _ _ _ _ _ = _
  unfold aCl
  by_cases c : i < m.Keys.length
  ·
   obtain ⟨v, hv⟩ := (R.mem _).1 (List.getElem_mem c)
   obtain ⟨L, hL, S⟩ := aTk R K hP (by omega) (List.getElem_mem c)
   have M := qS R (pk s) (v : Int)
   have hin := (M.mem m.Keys[i]).2 ⟨v, hv, rfl⟩
   have hsub : ∀ x, x ∈ sE s (pk s) (v : Int) → x ∈ L := fun x hx => by
    obtain ⟨j, g1, g2⟩ := (M.mem x).1 hx
    refine (S.mem x).2 ⟨(R.mem x).2 ⟨j, g1⟩, (wF R hv g1).2 ?_⟩
    have : bN (en (kf s.Graph)) (j : Int) (v : Int) := (nB _).1 g2
    exact (this.mono (aUw fun e he => aBr he)).symm
   have l1 := tW M.nodup hsub
   have l2 := tW (b := m.Keys) S.nodup fun y hy => ((S.mem y).1 hy).1
   have l3 := List.length_pos_of_mem hin
   have lz : 0 < L.length := by omega
   have e0 : aVr 24 (GA.lu 24 (sE s (cH (en (kf s.Graph))) (v : Int))) = some (sE s (pk s) (v : Int), true) := rfl
   have cond : (((!true) || decide ((L.length : Int) < ((sE s (pk s) (v : Int)).length : Int))) || (((sE s (pk s) (v : Int)).length : Int) == 0)) = false := by
    rw [decide_eq_false (by omega), beq_eq_false_iff_ne.2 (by omega)]; rfl
   rw [bt (nU c), bW c, aA, aLr R (by omega) hv, aA]
   simp only []
   rw [e0, aA]
   simp only []
   rw [hL, aA, bf cond]
   have T := bFl (s := s) (m := m) (iC n) (f : Int) m.Keys[i] L (sE s (pk s) (v : Int)) m.Keys (m.Keys.length : Int) (i : Int) (by omega) (by omega) hsub (List.getElem?_eq_getElem lz) bF 0 (by omega) (Nat.zero_le _)
   have eb : aTj s (cH (en s.Graph.Edges)) m.Keys[i] = (L[0] == m.Keys[i]) := by
    unfold aTj
    rw [R.slt hv, aYd R K hv S, List.head?_eq_getElem?, List.getElem?_eq_getElem lz]; rfl
   rw [cR c, List.countP_cons, eb] at hs
   rw [show (0 : Int) = ((0 : Nat) : Int) from rfl, T, wr1 i (by omega)]
   cases q : L[0] == m.Keys[i] with
   | true =>
    rw [q, if_pos rfl] at hs
    rw [bt rfl, wr1 f (by omega)]
    exact aV3 hE n (i + 1) (f + 1) (by omega) c (by omega) (by omega)
   | false =>
    rw [q, if_neg (by simp)] at hs
    rw [bf rfl]
    exact aV3 hE n (i + 1) f (by omega) c (by omega) (by omega)
  ·
   rw [List.drop_eq_nil_of_le (by omega), List.countP_nil, Nat.add_zero] at hs
   have sub : ∀ e, e ∈ kf s.Graph → e ∈ s.Graph.Edges := fun e he => aBr he
   have c1 := aZ6 R sub
   have c2 := aZ6 R (l := s.Graph.Edges) fun _ h => h
   have c3 := bDq (n := s.Graph.Config.N.toNat) (aUw sub) (R.n0.2.2.inR R.n0.1)
   have c4 := aUu R
   have c5 := bL1 R
   have e1 : aZ1 .i64 3 (GA.i 3 .i64 ((aSt s (cH (en (kf s.Graph))) : Nat) : Int)) = some (((aSt s (cH (en (kf s.Graph))) : Nat) : Int), true) := rfl
   have e2 : bJk 40 (GA.lp 40 (aDp (fps s))) = some (aDp (fps s), true) := rfl
   rw [bf (nY c), bHh R (by omega), aA]
   simp only []
   rw [e1, aA]
   simp only []
   rw [bCs R (by omega), aA]
   simp only []
   rw [e2, aA]
   simp only []
   have ln : (aDp (fps s)).length = (kf s.Graph).length := by rw [aEk, aYx]
   exact bGr K (by omega) _ _ (aDp (fps s)) (by omega) (fun p hp => bJj R (bCr.1 hp)) (by omega) (by omega) bF 0 (by omega) (Nat.zero_le _)
end
theorem bFb {c : aO} (L : List aY) (hL : L.length ≤ 1000) (hA : ∀ x, x ∈ L → 0 ≤ x.A ∧ x.A < 18446744073709551616) : ∀ (m i : Nat) (s : aE) (mm : aC), Rel c s mm → KU mm → s.Slots.length ≤ 10 → s.Graph.Edges.length ≤ i → L.length < i + m → i ≤ L.length → tV m s mm L (L.length : Int) (i : Int) = some true
 | 0, i, s, mm, _, _, _, _, hm, hi => by omega
 | m + 1, i, s, mm, R, K, hS, hE, hm, hi => by
  have hFU := FU'
  show aCf (tV m) _ _ _ _ _ = _
  unfold aCf
  by_cases c : i < L.length
  ·
   rw [bt (by simpa using c), bW c, aA]
   by_cases q : L[i].Do < 1 ∨ 4 < L[i].Do
   ·
    rw [bt (by simpa using q), aEi, aA]
   ·
    obtain ⟨s', f, k, I, M, R', _, e1, e2, _⟩ := step R (by omega) (by omega) (d := L[i].Do) (by omega) (by omega) L[i].A L[i].B L[i].Text
    have I' : dK s L[i] = some (s', GA.i 36 .i64 f) := I
    rw [bf (by simp; omega), I', aA]
    simp only []
    rw [M, aA, wr1 i (by omega)]
    exact bFb L hL hA m (i + 1) s' k R' (K.change (hA _ (List.getElem_mem c)) M) (by omega) (by omega) (by omega) c
  ·
   rw [bf (by simpa using c)]
   have sm := R.small (by omega) (by omega)
   refine aV3 R hS K (by omega) bF 0 0 (by omega) (Nat.zero_le _) (Nat.le_refl _) ?_
   rw [List.drop_zero, Nat.zero_add]
   exact bMt R fun _ h => h
theorem aVm (c : aO) (words : List Int) (l : List aY) (hw : W64 words) (hb : words.length ≤ 1048576) (hA : ∀ x, x ∈ l → 0 ≤ x.A ∧ x.A < 18446744073709551616) : aBm c words l = some true := by
 have hFU := FU'
 obtain ⟨r2, s, w, e, f1, f2, f3⟩ := start hw hb l (c := c) (most := 30) (by omega)
 have f1' : mN c l 30 = some r2 := f1
 unfold aBm
 rw [f1', aA, f2, aA]
 simp only []
 rcases f3 with f3 | ⟨f3, n, rfl, n1, n2, R, h1, h2⟩
 ·
  rw [bt f3, aEi, aA]
 ·
  rw [bf f3, uJ rfl n1, aA]
  exact bFb (l.take n) (by simp; omega) (fun x hx => hA x (List.mem_of_mem_take hx)) bF 0 s _ R (fun x hx => by cases hx) h1 (by rw [h2]; exact Nat.le_refl _) (by simp; omega) (Nat.zero_le _)
theorem aXm (c : aO) (words : List Int) (l : List aY) {A P B C : Prop} (_ : A) (w : (∀ y, y ∈ words → (Lit.int .u64 y).wf = true) ∧ P)
 (a : (∀ y, y ∈ l → ((Lit.int .i64 y.Do).wf = true) ∧ ((Lit.int .u64 y.A).wf = true) ∧ ((Lit.int .u64 y.B).wf = true) ∧ (y.Text.size ≤ maxLen)) ∧ B) (b : words.length ≤ 1048576) (_ : C) : aBm c words l = some true :=
 aVm c words l (bM5 w) b fun x hx => wfk (a.1 x hx).2.1
end Go.Proofs.YtkdohhmacfoolaaGreat
