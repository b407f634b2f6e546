/- Facts. No condition. -/
import Derived.Test.YtkdohhmacfoolaaGreatNgIxJ
set_option linter.unusedVariables false
set_option linter.unusedSimpArgs false
set_option maxRecDepth 20000
set_option maxHeartbeats 1000000
namespace Go.Proofs.YtkdohhmacfoolaaGreat
open Go Go.AM Go.Pl Go.Pt Go.Ix
theorem bE8 : ∀ {a b : List Int}, a.Nodup → (∀ x, x ∈ a → x ∈ b) → a.length = b.length → a.Perm b
 | [], b, _, _, h => by
  have : b = [] := List.length_eq_zero_iff.1 h.symm
  rw [this]
 | x :: a, b, hn, hs, hl => by
  obtain ⟨h1, h2⟩ := List.nodup_cons.1 hn
  have hx := hs x (List.mem_cons_self ..)
  have hp := List.perm_cons_erase hx
  refine List.Perm.trans (List.Perm.cons x (bE8 h2 (fun y hy => ?_) ?_)) hp.symm
  ·
   have hne : y ≠ x := fun e => h1 (e ▸ hy)
   exact (List.mem_erase_of_ne hne).2 (hs y (List.mem_cons_of_mem _ hy))
  ·
   have := hp.length_eq
   simp only [List.length_cons] at this hl
   omega
section
variable {c : aT} {s : aD} {m : aF} (R : Rel c s m)
include R
theorem aN2 {a v : Int} {b : Bool} (f : Fd s a v b) (h : a ∉ m.Keys) : b = false := by
 rcases f.c with ⟨_, j, _, hj⟩ | ⟨h, _⟩
 ·
  exact absurd ((R.mem a).2 ⟨j, hj⟩) h
 ·
  exact h
theorem bL6 (K : KU m) {a : Int} {i : Nat} (hi : At s.Slots i a) : aT8 s i = aC8 m.Pairs a := by
 obtain ⟨h1, h2⟩ := aT9 R hi
 have hB : ∀ x, x ∈ aT8 s i → x ∈ (m.Pairs.filter (touch a)).map (bCk a) := fun x hx => aKb.1 ((aM1 R K).2 ((h1.mem x).1 hx).2)
 have nd := (bE8 h1.nodup hB (by rw [h2]; unfold aC8; rw [aA3])).nodup_iff.1 h1.nodup
 have h3 := aQt nd
 refine h1.uniq h3 fun x => ⟨fun h => hB x ((h1.mem x).2 h), fun h => ?_⟩
 have := (aM1 R K).1 (aKb.2 h)
 exact ⟨bL5 R K (aKb.2 h), this⟩
variable (hS : s.Slots.length ≤ 12) (hE : s.Graph.Edges.length < 10000) (K : KU m)
include hS hE K
theorem bL4 : NB s := by
 have g := gok R.gd.ok
 have g1 := g.n1; have g2 := g.n2; have g3 := g.l1; have g4 := g.l2; have g5 := g.r1; have g6 := g.r2
 refine ⟨⟨by omega, by omega, by omega, by omega, by omega, by omega⟩, fun x hx => ?_, fun x hx => ?_, fun x hx => ?_, ?_, by omega, by omega⟩
 ·
  have h1 := g.hs
  unfold hsB at h1
  rw [List.all_eq_true] at h1
  have h2 := h1 x hx
  simp only [Bool.and_eq_true, decide_eq_true_eq] at h2
  have h3 : HOK x := R.gd.hw x hx
  obtain ⟨h4, h5⟩ := h3
  omega
 ·
  cases u : x.Used with
  | false => rw [R.ok.v.z x hx u]; omega
  | true =>
   obtain ⟨j, hj, e⟩ := List.mem_iff_getElem.1 hx
   refine K _ ((R.mem _).2 ⟨j, ?_⟩)
   unfold At
   rw [List.getElem?_eq_getElem hj, e]
   cases x with | mk a b => simp only at u; subst u; rfl
 ·
  have h1 := oP.1 ((aEr.1 g.tr).2.2.ok x hx)
  omega
 ·
  have h1 := g.hl
  have h2 : s.Graph.Config.L * s.Graph.Config.R ≤ 16 * 8 := Int.mul_le_mul g4 g6 (by omega) (by omega)
  omega
omit hE K in
theorem aXb {d a b : Int} {text : ByteArray} {vA vB : Int} {bA bB rA rB : Bool} (hd : (decide (d < 1) || decide (15 < d)) = false) (fA : Fd s a vA bA) (fB : Fd s b vB bB) (eA : sS d = some rA) (eB : sT d = some rB) (h : ((rA && !bA) || (rB && !bB)) = true) :
 cU s ⟨d, a, b, text⟩ = some (s, GA.i 36 .i64 7) := by rw [aPm R (by omega) hd fA fB eA eB, bt h]
omit K in
theorem rP {d a b : Int} {text : ByteArray} (h : (((decide (d < 10) || (d == 11)) && !decide (a ∈ m.Keys)) || (((d == 5) || (d == 8)) && !decide (b ∈ m.Keys))) = true) : jP (rs s) m ⟨d, a, b, text⟩ (GA.i 36 .i64 7) = some true := by
 obtain ⟨sm1, sm2⟩ := R.small (by omega) hE
 unfold jP
 rw [vG _ sm1, aA, vG _ sm1, aA, bt h]
 rfl
omit R hS hE K in
theorem bJc (reply : GA) (x : bH) (l : List Int) (hl : l.length < 1000000) : ∀ (n i : Nat) (inn : Bool), l.length < i + n → i ≤ l.length →
 qI n reply x inn l (l.length : Int) (i : Int) = (oO reply (inn || (l.drop i).any fun y => y == x.B)).bind fun r => some r
 | 0, i, inn, hn, hi => by omega
 | n + 1, i, inn, hn, hi => by
  show aBi (qI n) _ _ _ _ _ _ = _
  unfold aBi
  by_cases c : i < l.length
  ·
   rw [bt (by simpa using c), bR c, aA, wr1 i (by omega), bJc reply x l hl n (i + 1) _ (by omega) c, bP c, List.any_cons, Bool.or_assoc]
  ·
   rw [bf (by simpa using c), List.drop_eq_nil_of_le (by omega)]
   simp
omit hE K in
theorem aQ9 (p : Int → Int) (u : Int) : (aS4 s p u).length < 1000000 := by
 have e := R.ok.len
 unfold aS4
 rw [aA3, List.length_map]
 have := aOy s.Graph.Config.N.toNat 0 p (p u)
 have := List.length_filter_le (usd s.Slots) (trl s.Graph.Config.N p u)
 unfold trl at this ⊢
 omega
theorem bLp (a b : Int) (text : ByteArray) : cU s ⟨14, a, b, text⟩ = some (s, GA.s 9 (lU (bytesOf s))) := by
 obtain ⟨vA, bA, fA⟩ := fd R (by omega) a
 obtain ⟨vB, bB, fB⟩ := fd R (by omega) b
 rw [aPm R (by omega) (d := 14) (by rfl) fA fB (rA := false) (rB := false) rfl rfl, bf (by rfl), bt (by rfl)]
 unfold eE
 rw [aD5 R, aA, bf (by rfl), bf (by rfl), bf (by rfl), bf (by rfl), bf (by rfl), bf (by rfl), bf (by rfl), bf (by rfl), bf (by rfl), bPi (bL4 R hS hE K) (aOu R (by omega)), aA, aA]
theorem bIx {d : Int} (h5 : 5 ≤ d) (h14 : d ≤ 14) (a b : Int) (text : ByteArray) : ∃ reply, cU s ⟨d, a, b, text⟩ = some (s, reply) ∧ jP (rs s) m ⟨d, a, b, text⟩ reply = some true := by
 have hFU := FU'
 obtain ⟨sm1, sm2⟩ := R.small (by omega) hE
 obtain ⟨vA, bA, fA⟩ := fd R (by omega) a
 obtain ⟨vB, bB, fB⟩ := fd R (by omega) b
 have cases10 : d = 5 ∨ d = 6 ∨ d = 7 ∨ d = 8 ∨ d = 9 ∨ d = 10 ∨ d = 11 ∨ d = 12 ∨ d = 13 ∨ d = 14 := by omega
 have pre : ∀ (d : Int) (reply : GA), (((decide (d < 10) || (d == 11)) && !decide (a ∈ m.Keys)) || (((d == 5) || (d == 8)) && !decide (b ∈ m.Keys))) = false → jP (rs s) m ⟨d, a, b, text⟩ reply = _ := fun d reply h => by
  unfold jP
  rw [vG _ sm1, aA, vG _ sm1, aA, bf h]
 rcases cases10 with rfl | rfl | rfl | rfl | rfl | rfl | rfl | rfl | rfl | rfl
 ·
  
  by_cases ha : a ∈ m.Keys
  ·
   by_cases hb : b ∈ m.Keys
   ·
    refine ⟨_, has_eq R hS hE ha hb text, ?_⟩
    rw [pre 5 _ (by simp [ha, hb]), bt (by rfl), aYk _ _ (by omega), aA, aJc, aA]
    simp
   ·
    exact ⟨_, aXb R hS (by rfl) fA fB (rA := true) (rB := true) rfl rfl (by rw [aN2 R fB hb]; simp), rP R hS hE (by simp [hb])⟩
  ·
   exact ⟨_, aXb R hS (by rfl) fA fB (rA := true) (rB := true) rfl rfl (by rw [aN2 R fA ha]; simp), rP R hS hE (by simp [ha])⟩
 ·
  by_cases ha : a ∈ m.Keys
  ·
   refine ⟨_, bFm R hS hE ha b text, ?_⟩
   rw [pre 6 _ (by simp [ha]), bf (by rfl), bt (by rfl), aEa sm2, aA, aGx, aA]
   simp
  ·
   exact ⟨_, aXb R hS (by rfl) fA fB (rA := true) (rB := false) rfl rfl (by rw [aN2 R fA ha]; simp), rP R hS hE (by simp [ha])⟩
 ·
  by_cases ha : a ∈ m.Keys
  ·
   obtain ⟨i, hi⟩ := (R.mem a).1 ha
   refine ⟨_, bPd R hS hE hi b text, ?_⟩
   have hl := (aT9 R hi).2
   rw [aT7] at hl
   have := List.length_filter_le (touch a) m.Pairs
   rw [pre 7 _ (by simp [ha]), bf (by rfl), bf (by rfl), bt (by rfl), aEa sm2, aA, aL3 _ _ (by omega), aA, bL6 R K hi]
   simp
  ·
   exact ⟨_, aXb R hS (by rfl) fA fB (rA := true) (rB := false) rfl rfl (by rw [aN2 R fA ha]; simp), rP R hS hE (by simp [ha])⟩
 ·
  by_cases ha : a ∈ m.Keys
  ·
   by_cases hb : b ∈ m.Keys
   ·
    obtain ⟨i, hi⟩ := (R.mem a).1 ha
    obtain ⟨j, hj⟩ := (R.mem b).1 hb
    have hil := (List.getElem?_eq_some_iff.1 hi).1
    refine ⟨_, bN2 R hS hi hj text, ?_⟩
    have L := bJc (GA.b 4 (decide (cO (en (kf s.Graph)) (i : Int) = cO (en (kf s.Graph)) (j : Int)))) ⟨8, a, b, text⟩ (aS4 s (cO (en (kf s.Graph))) (i : Int)) (aQ9 R hS _ _) bF 0 false (by have := aQ9 R hS (cO (en (kf s.Graph))) (i : Int); omega) (Nat.zero_le _)
    rw [show ((0 : Nat) : Int) = 0 from rfl, List.drop_zero, Bool.false_or] at L
    rw [pre 8 _ (by simp [ha, hb]), bf (by rfl), bf (by rfl), bf (by rfl), bt (by rfl), aIn R hi, aA, xP R hil, aA, L, aJc, aA, bMm]
    have M := (bL2 R (cO (en (kf s.Graph))) (i : Int)).mem b
    have q : (cO (en (kf s.Graph)) (i : Int) = cO (en (kf s.Graph)) (j : Int)) ↔ b ∈ aS4 s (cO (en (kf s.Graph))) (i : Int) := by
     rw [M]
     constructor
     ·
      intro e; exact ⟨j, hj, e.symm⟩
     ·
      rintro ⟨j', hj', e⟩
      have := R.ok.v.inj _ _ _ hj' hj
      subst this; exact e.symm
    have e : decide (cO (en (kf s.Graph)) (i : Int) = cO (en (kf s.Graph)) (j : Int)) = decide (b ∈ aS4 s (cO (en (kf s.Graph))) (i : Int)) := decide_eq_decide.2 q
    rw [e]
    exact congrArg some (beq_self_eq_true _)
   ·
    exact ⟨_, aXb R hS (by rfl) fA fB (rA := true) (rB := true) rfl rfl (by rw [aN2 R fB hb]; simp), rP R hS hE (by simp [hb])⟩
  ·
   exact ⟨_, aXb R hS (by rfl) fA fB (rA := true) (rB := true) rfl rfl (by rw [aN2 R fA ha]; simp), rP R hS hE (by simp [ha])⟩
 ·
  by_cases ha : a ∈ m.Keys
  ·
   obtain ⟨i, hi⟩ := (R.mem a).1 ha
   have hil := (List.getElem?_eq_some_iff.1 hi).1
   refine ⟨_, size_eq R hS hi b text, ?_⟩
   rw [pre 9 _ (by simp [ha]), bf (by rfl), bf (by rfl), bf (by rfl), bf (by rfl), bt (by rfl), aIn R hi, aA, xP R hil, aA, aGx, aA]
   simp
  ·
   exact ⟨_, aXb R hS (by rfl) fA fB (rA := true) (rB := false) rfl rfl (by rw [aN2 R fA ha]; simp), rP R hS hE (by simp [ha])⟩
 ·
  refine ⟨_, bJd R hS a b text, ?_⟩
  rw [pre 10 _ (by simp), bf (by rfl), bf (by rfl), bf (by rfl), bf (by rfl), bf (by rfl), bt (by rfl), aS7 R, aA, aGx, aA]
  simp
 ·
  by_cases ha : a ∈ m.Keys
  ·
   obtain ⟨i, hi⟩ := (R.mem a).1 ha
   have hil := (List.getElem?_eq_some_iff.1 hi).1
   refine ⟨_, bCf R hS hi b text, ?_⟩
   rw [pre 11 _ (by simp [ha]), bf (by rfl), bf (by rfl), bf (by rfl), bf (by rfl), bf (by rfl), bf (by rfl), bt (by rfl), aIn R hi, aA, xP R hil, aA, aL3 _ _ (by have := aQ9 R hS (cO (en (kf s.Graph))) (i : Int); omega), aA]
   simp
  ·
   exact ⟨_, aXb R hS (by rfl) fA fB (rA := true) (rB := false) rfl rfl (by rw [aN2 R fA ha]; simp), rP R hS hE (by simp [ha])⟩
 ·
  refine ⟨_, bHj R hS a b text, ?_⟩
  have kl := aV7 R
  rw [pre 12 _ (by simp), bf (by rfl), bf (by rfl), bf (by rfl), bf (by rfl), bf (by rfl), bf (by rfl), bf (by rfl), bt (by rfl)]
  have e : bNb 40 (GA.lp 40 (aHy (fps s))) = some (aHy (fps s), true) := rfl
  rw [e, aA]
  simp only []
  rw [gt' (by rfl), aQp R, aA, gt' (by rfl), aOb _ (by rw [aHd, bDq]; omega), aA]
  rfl
 ·
  refine ⟨_, bIy R hS a b text, ?_⟩
  have k1 : jU (rs s).Graph = some (pt s.Graph.Config.N (kf s.Graph)) := aE1 R.gd.e (gok R.gd.ok)
  have k2 : aCd (rs s).Graph = some (pt s.Graph.Config.N s.Graph.Edges) := bCv R.gd.e (gok R.gd.ok)
  have n0 := R.n0
  rw [pre 13 _ (by simp), bf (by rfl), bf (by rfl), bf (by rfl), bf (by rfl), bf (by rfl), bf (by rfl), bf (by rfl), bf (by rfl), bt (by rfl), k1, aA, k2, aA, aVr _ _ (bEa n0.2.1 _), aA, aJc, aA]
  simp
 ·
  refine ⟨_, bLp R hS hE K a b text, ?_⟩
  rw [pre 14 _ (by simp), bf (by rfl), bf (by rfl), bf (by rfl), bf (by rfl), bf (by rfl), bf (by rfl), bf (by rfl), bf (by rfl), bf (by rfl)]
  have e : bDs 9 (GA.s 9 (lU (bytesOf s))) = some (lU (bytesOf s), true) := rfl
  rw [e, aA]
  simp only []
  rw [gt' (by rfl), show wQ (rs s) = some (lU (bytesOf s)) from bLl (bL4 R hS hE K), aA]
  simp
theorem bU5 : SM s := by
 have g := (bL4 R hS hE K)
 have := g.nh
 exact ⟨by omega, by omega, by omega⟩
end
theorem aL4 {c : aT} (L : List bH) (hL : L.length ≤ 1000) (hA : ∀ x, x ∈ L → 0 ≤ x.A ∧ x.A < 18446744073709551616) : ∀ (m i : Nat) (s : aD) (mm : aF), Rel c s mm → KU mm → s.Slots.length ≤ 10 → s.Graph.Edges.length ≤ i → L.length < i + m → i ≤ L.length → iT m s mm L (L.length : Int) (i : Int) = some true
 | 0, i, s, mm, _, _, _, _, hm, hi => by omega
 | m + 1, i, s, mm, R, K, hS, hE, hm, hi => by
  show aB8 (iT m) _ _ _ _ _ = _
  unfold aB8 pU aB9
  by_cases c : i < L.length
  ·
   rw [bt (by simpa using c), bR c, aA]
   have sm := bU5 R (by omega) (by omega) K
   have eS : nG s s = some true := by rw [aVa sm sm]; simp
   by_cases q : L[i].Do = 15
   ·
    rw [bt (by simpa using q), aUi, aA]
   ·
    rw [bf (by simpa using q)]
    by_cases q1 : L[i].Do < 1 ∨ 15 < L[i].Do
    ·
     have I : cU s L[i] = some (s, GA.i 36 .i64 1) := by
      have e : (decide (L[i].Do < 1) || decide (15 < L[i].Do)) = true := by simpa using q1
      unfold cU
      rw [e, gf' (by rfl), aA, bt (by rfl)]
     have e1 : oN (GA.i 36 .i64 1) = some 1 := rfl
     rw [I, aA]
     simp only []
     rw [bt (by simpa using q1), e1, aA, gt' (by rfl), eS, aA, bf (by rfl), wr1 i (by omega)]
     exact aL4 L hL hA m (i + 1) s mm R K hS (by omega) (by omega) c
    ·
     by_cases q2 : L[i].Do ≤ 4
     ·
      obtain ⟨s', f, k, I, M, R', fz, e1, e2, f0⟩ := step R (by omega) (by omega) (d := L[i].Do) (by omega) (by omega) L[i].A L[i].B L[i].Text
      have I' : cU s L[i] = some (s', GA.i 36 .i64 f) := I
      have K' := KU.change K (hA _ (List.getElem_mem c)) M
      have e3 : oN (GA.i 36 .i64 f) = some f := rfl
      rw [I', aA]
      simp only []
      rw [bf (by simp; omega), bt (by simpa using q2), M, aA]
      simp only []
      rw [e3, aA]
      have t0 : (f != f) = false := by simp
      rw [t0]
      have rest : iT m s' k L (L.length : Int) (IntKind.i64.wrap ((i : Int) + 1)) = some true := by
       rw [wr1 i (by omega)]
       exact aL4 L hL hA m (i + 1) s' k R' K' (by omega) (by omega) (by omega) c
      by_cases z : f = 0
      ·
       have t1 : (f != 0) = false := by simpa using z
       rw [t1, gf' (by rfl), aA, gt' (by rfl), aOu R' (by omega), aA, bf (by rfl)]
       exact rest
      ·
       have t1 : (f != 0) = true := by simpa using z
       have es := (fz z).1
       rw [t1, gt' (by rfl), es, eS, aA, gt' (by rfl), aOu R (by omega), aA, bf (by rfl)]
       rw [es] at rest
       exact rest
     ·
      obtain ⟨reply, I, A⟩ := bIx R (by omega) (by omega) K (d := L[i].Do) (by omega) (by omega) L[i].A L[i].B L[i].Text
      have I' : cU s L[i] = some (s, reply) := I
      have A' : jP (rs s) mm L[i] reply = some true := A
      rw [I', aA]
      simp only []
      rw [bf (by simp; omega), bf (by simpa using q2), eS, aA, gt' (by rfl), aXq (by omega), aA, gt' (by rfl), A', aA, bf (by rfl), wr1 i (by omega)]
      exact aL4 L hL hA m (i + 1) s mm R K hS (by omega) (by omega) c
  ·
   rw [bf (by simpa using c), aUi, aA]
theorem aU0 (c : aT) (words : List Int) (l : List bH) (hw : W64 words) (hb : words.length ≤ 1048576) (hA : ∀ x, x ∈ l → 0 ≤ x.A ∧ x.A < 18446744073709551616) : xZ c words l = some true := by
 have hFU := FU'
 obtain ⟨r2, s, w, e, f1, f2, f3⟩ := start hw hb l (c := c) (most := 40) (by omega)
 have f1' : uL c l 40 = some r2 := f1
 unfold xZ
 rw [f1', aA, f2, aA]
 simp only []
 rcases f3 with f3 | ⟨f3, n, rfl, n1, n2, R, h1, h2⟩
 ·
  rw [bt f3, aUi, aA]
 ·
  rw [bf f3, xU rfl n1, aA]
  exact aL4 (l.take n) (by simp; omega) (fun x hx => hA x (List.mem_of_mem_take hx)) bF 0 s _ R (fun x hx => by cases hx) h1 (by rw [h2]; exact Nat.le_refl _) (by simp; omega) (Nat.zero_le _)
theorem aU1 (c : aT) (words : List Int) (l : List bH) {A P B C : Prop} (_ : A) (w : (∀ y, y ∈ words → (Lit.int .u64 y).wf = true) ∧ P)
 (a : (∀ y, y ∈ l → ((Lit.int .i64 y.Do).wf = true) ∧ ((Lit.int .u64 y.A).wf = true) ∧ ((Lit.int .u64 y.B).wf = true) ∧ (y.Text.size ≤ maxLen)) ∧ B) (b : words.length ≤ 1048576) (_ : C) : xZ c words l = some true :=
 aU0 c words l (bYp w) b fun x hx => wfk (a.1 x hx).2.1
end Go.Proofs.YtkdohhmacfoolaaGreat
