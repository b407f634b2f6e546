/- Facts. No condition. -/
import Derived.Test.YtkdohhmacfoolaaGreatNgPl
set_option linter.unusedSimpArgs false
set_option linter.unusedVariables false
namespace Go.Pt
abbrev E := Int × Int
inductive cH (l : List E) : Int → Int → Prop where
  | refl (x : Int) : cH l x x
  | fwd {x y z : Int} (e : (x, y) ∈ l) (h : cH l y z) : cH l x z
  | bwd {x y z : Int} (e : (y, x) ∈ l) (h : cH l y z) : cH l x z
variable {l l' : List E}
theorem cH.trans {x y z : Int} (h : cH l x y) (k : cH l y z) : cH l x z := by
 induction h with
 | refl x => exact k
 | fwd e _ ih => exact .fwd e (ih k)
 | bwd e _ ih => exact .bwd e (ih k)
theorem cH.one {x y : Int} (e : (x, y) ∈ l) : cH l x y := .fwd e (.refl _)
theorem cH.eno {x y : Int} (e : (x, y) ∈ l) : cH l y x := .bwd e (.refl _)
theorem cH.symm {x y : Int} (h : cH l x y) : cH l y x := by
 induction h with
 | refl x => exact .refl x
 | fwd e _ ih => exact ih.trans (.eno e)
 | bwd e _ ih => exact ih.trans (.one e)
theorem cH.mono (hl : ∀ e, e ∈ l → e ∈ l') {x y : Int} (h : cH l x y) : cH l' x y := by
 induction h with
 | refl x => exact .refl x
 | fwd e _ ih => exact .fwd (hl _ e) ih
 | bwd e _ ih => exact .bwd (hl _ e) ih
theorem cH.bind (hl : ∀ a b, (a, b) ∈ l → cH l' a b) {x y : Int} (h : cH l x y) : cH l' x y := by
 induction h with
 | refl x => exact .refl x
 | fwd e _ ih => exact (hl _ _ e).trans ih
 | bwd e _ ih => exact (hl _ _ e).symm.trans ih
theorem cH.nil {x y : Int} (h : cH [] x y) : x = y := by
 cases h with
 | refl => rfl
 | fwd e _ => cases e
 | bwd e _ => cases e
theorem cH.cons_iff {e : E} {x y : Int} : cH (e :: l) x y ↔ cH l x y ∨ (cH l x e.1 ∧ cH l e.2 y) ∨ (cH l x e.2 ∧ cH l e.1 y) := by
 constructor
 ·
  intro h
  induction h with
  | refl x => exact .inl (.refl x)
  | @fwd a b c hm _ ih =>
   rcases List.mem_cons.1 hm with h | h
   ·
    subst h
    rcases ih with ih | ⟨i1, i2⟩ | ⟨i1, i2⟩
    ·
     exact .inr (.inl ⟨.refl _, ih⟩)
    ·
     exact .inr (.inl ⟨.refl _, i2⟩)
    ·
     exact .inl i2
   ·
    rcases ih with ih | ⟨i1, i2⟩ | ⟨i1, i2⟩
    ·
     exact .inl (.fwd h ih)
    ·
     exact .inr (.inl ⟨.fwd h i1, i2⟩)
    ·
     exact .inr (.inr ⟨.fwd h i1, i2⟩)
  | @bwd a b c hm _ ih =>
   rcases List.mem_cons.1 hm with h | h
   ·
    subst h
    rcases ih with ih | ⟨i1, i2⟩ | ⟨i1, i2⟩
    ·
     exact .inr (.inr ⟨.refl _, ih⟩)
    ·
     exact .inl i2
    ·
     exact .inr (.inr ⟨.refl _, i2⟩)
   ·
    rcases ih with ih | ⟨i1, i2⟩ | ⟨i1, i2⟩
    ·
     exact .inl (.bwd h ih)
    ·
     exact .inr (.inl ⟨.bwd h i1, i2⟩)
    ·
     exact .inr (.inr ⟨.bwd h i1, i2⟩)
 ·
  have m : ∀ {a b : Int}, cH l a b → cH (e :: l) a b := fun h => h.mono fun _ h => List.mem_cons_of_mem _ h
  have h1 : cH (e :: l) e.1 e.2 := .one (by simp)
  rintro (h | ⟨h, k⟩ | ⟨h, k⟩)
  ·
   exact m h
  ·
   exact (m h).trans (h1.trans (m k))
  ·
   exact (m h).trans (h1.symm.trans (m k))
theorem cH.range {n : Int} (hr : ∀ e, e ∈ l → 0 ≤ e.1 ∧ e.1 < n ∧ 0 ≤ e.2 ∧ e.2 < n) {x y : Int} (h : cH l x y) (hx : 0 ≤ x ∧ x < n) : 0 ≤ y ∧ y < n := by
 induction h with
 | refl x => exact hx
 | fwd e _ ih => have := hr _ e; exact ih ⟨this.2.2.1, this.2.2.2⟩
 | bwd e _ ih => have := hr _ e; exact ih ⟨this.1, this.2.1⟩
def wC (p : Int → Int) (u v : Int) : Int → Int := fun x => if p x = max (p u) (p v) then min (p u) (p v) else p x
def cO (l : List E) : Int → Int := l.foldl (fun p e => wC p e.1 e.2) id
structure IsP (l : List E) (p : Int → Int) : Prop where
  le : ∀ x, p x ≤ x
  idem : ∀ x, p (p x) = p x
  iff : ∀ x y, p x = p y ↔ cH l x y
theorem IsP.nil : IsP [] id := ⟨fun _ => Int.le_refl _, fun _ => rfl, fun _ _ => ⟨fun h => by cases h; exact .refl _, fun h => h.nil⟩⟩
theorem IsP.join {p : Int → Int} (h : IsP l p) (e : E) : IsP (e :: l) (wC p e.1 e.2) := by
 have hmx := Int.max_def (p e.1) (p e.2)
 have hmn := Int.min_def (p e.1) (p e.2)
 refine ⟨fun x => ?_, fun x => ?_, fun x y => ?_⟩
 ·
  have := h.le x
  unfold wC
  split <;> omega
 ·
  have i1 := h.idem x
  have i2 := h.idem e.1
  have i3 := h.idem e.2
  unfold wC
  by_cases c : p x = max (p e.1) (p e.2)
  ·
   simp only [c, if_true]
   have : p (min (p e.1) (p e.2)) = min (p e.1) (p e.2) := by
    rcases Int.le_total (p e.1) (p e.2) with q | q
    ·
     rw [Int.min_eq_left q, i2]
    ·
     rw [Int.min_eq_right q, i3]
   rw [this]; split <;> rfl
  ·
   simp only [c, if_false]
   rw [i1, if_neg c]
 ·
  rw [cH.cons_iff, ← h.iff, ← h.iff, ← h.iff, ← h.iff, ← h.iff]
  unfold wC
  split <;> split <;> omega
theorem aQf (l : List E) (e : E) : cO (l ++ [e]) = wC (cO l) e.1 e.2 := by simp [cO]
theorem IsP.congr {p : Int → Int} (h : IsP l p) (hc : ∀ x y, cH l x y ↔ cH l' x y) : IsP l' p := ⟨h.le, h.idem, fun x y => (h.iff x y).trans (hc x y)⟩
theorem nA (h : ∀ e, e ∈ l ↔ e ∈ l') (x y : Int) : cH l x y ↔ cH l' x y := ⟨fun k => k.mono fun e he => (h e).1 he, fun k => k.mono fun e he => (h e).2 he⟩
theorem isP (l : List E) : IsP l (cO l) := by
 have key : ∀ (n : Nat) (l : List E), l.length = n → IsP l (cO l) := by
  intro n
  induction n with
  | zero => intro l h; cases l with | nil => exact IsP.nil | cons => simp at h
  | succ n ih =>
   intro l h
   have hne : l ≠ [] := fun e => by subst e; simp at h
   obtain ⟨l', e, rfl⟩ : ∃ l' e, l = l' ++ [e] := ⟨l.dropLast, l.getLast hne, (List.dropLast_concat_getLast hne).symm⟩
   rw [aQf]
   refine ((ih _ (by simpa using h)).join _).congr (nA fun e => ?_)
   simp [or_comm]
 exact key _ l rfl
theorem yU (l : List E) {x y : Int} : cO l x = cO l y ↔ cH l x y := (isP l).iff x y
theorem aCb (l : List E) (x : Int) : cO l x ≤ x := (isP l).le x
theorem aDq (l : List E) (x : Int) : cO l (cO l x) = cO l x := (isP l).idem x
theorem zT (l : List E) (x : Int) : cH l x (cO l x) := ((isP l).iff x _).1 (aDq l x).symm
theorem aY7 (h : ∀ x y, cH l x y ↔ cH l' x y) : cO l = cO l' := by
 funext x
 have a : cO l x = cO l (cO l' x) := (yU l).2 ((h _ _).2 (zT l' x))
 have b : cO l' x = cO l' (cO l x) := (yU l').2 ((h _ _).1 (zT l x))
 have c := aCb l (cO l' x)
 have d := aCb l' (cO l x)
 omega
theorem wM {n : Int} (hr : ∀ e, e ∈ l → 0 ≤ e.1 ∧ e.1 < n ∧ 0 ≤ e.2 ∧ e.2 < n) {x : Int} (hx : 0 ≤ x ∧ x < n) : 0 ≤ cO l x ∧ cO l x < n :=
 (zT l x).range hr hx
theorem aY6 {n : Int} (hr : ∀ e, e ∈ l → 0 ≤ e.1 ∧ e.1 < n ∧ 0 ≤ e.2 ∧ e.2 < n) {q : Int → Int} (h1 : ∀ x, 0 ≤ x → x < n → 0 ≤ q x ∧ q x ≤ x ∧ cH l x (q x))
 (h2 : ∀ e, e ∈ l → q e.1 = q e.2) : ∀ x, 0 ≤ x → x < n → q x = cO l x := by
 intro x hx hn
 obtain ⟨a1, a2, a3⟩ := h1 x hx hn
 have key : ∀ {x y : Int}, cH l x y → q x = q y := by
  intro x y h
  induction h with
  | refl => rfl
  | fwd e _ ih => exact (h2 _ e).trans ih
  | bwd e _ ih => exact (h2 _ e).symm.trans ih
 have b1 : cO l x ≤ q x := by rw [(yU l).2 a3]; exact aCb _ _
 have pr := wM hr ⟨hx, hn⟩
 obtain ⟨c1, c2, c3⟩ := h1 _ pr.1 pr.2
 have b2 : q x = q (cO l x) := key (zT l x)
 omega
def cnt (n : Nat) (p : Int → Int) : Nat := (List.range n).countP fun (k : Nat) => decide (p k = k)
def cl (n : Nat) (l : List E) : Nat := cnt n (cO l)
theorem aLm {f : Nat → Bool} {a : Nat} : ∀ {l : List Nat}, l.Nodup → a ∈ l → f a = true → l.countP (fun k => f k && k != a) + 1 = l.countP f
 | [], _, h, _ => by cases h
 | b :: l, hn, hm, hf => by
  rw [List.nodup_cons] at hn
  rcases List.mem_cons.1 hm with h | h
  ·
   subst h
   have e : l.countP (fun k => f k && k != a) = l.countP f := List.countP_congr fun k hk => by
    have : k ≠ a := fun e => hn.1 (e ▸ hk)
    simp [this]
   simp [List.countP_cons, hf, e]
  ·
   have hb : b ≠ a := fun e => hn.1 (e ▸ h)
   have := aLm hn.2 h hf
   simp only [List.countP_cons]
   have e : (f b && b != a) = f b := by simp [hb]
   rw [e]; omega
theorem bJb {n : Nat} {p : Int → Int} (hid : ∀ x, p (p x) = p x) {u v : Int} (hu : 0 ≤ p u ∧ p u < n) (hv : 0 ≤ p v ∧ p v < n) :
 cnt n (wC p u v) + (if p u = p v then 0 else 1) = cnt n p := by
 have hmx := Int.max_def (p u) (p v)
 have hmn := Int.min_def (p u) (p v)
 split
 ·
  rename_i h
  have : wC p u v = p := by funext x; unfold wC; split <;> omega
  rw [this]; rfl
 ·
  rename_i h
  unfold cnt
  have hM : ((max (p u) (p v)).toNat : Int) = max (p u) (p v) := by omega
  have hpM : p (max (p u) (p v)) = max (p u) (p v) := by
   rcases Int.le_total (p u) (p v) with q | q
   ·
    rw [Int.max_eq_right q, hid]
   ·
    rw [Int.max_eq_left q, hid]
  rw [← aLm (f := fun (k : Nat) => decide (p k = k)) (a := (max (p u) (p v)).toNat) List.nodup_range (by rw [List.mem_range]; omega) (by rw [hM, hpM]; simp)]
  refine congrArg (· + 1) (List.countP_congr fun k _ => ?_)
  have i1 := hid u
  have i2 := hid v
  simp only [decide_eq_true_eq, Bool.and_eq_true, bne_iff_ne, ne_eq]
  unfold wC
  constructor
  ·
   intro hk
   split at hk
   ·
    rename_i c
    exfalso
    have : p (min (p u) (p v)) = min (p u) (p v) := by
     rcases Int.le_total (p u) (p v) with q | q
     ·
      rw [Int.min_eq_left q, i1]
     ·
      rw [Int.min_eq_right q, i2]
    rw [hk, c] at this
    omega
   ·
    rename_i c
    refine ⟨hk, fun e => c ?_⟩
    rw [hk]; omega
  ·
   rintro ⟨hk, hne⟩
   rw [if_neg (fun c => hne (by omega))]
   exact hk
def InR (n : Nat) (l : List E) : Prop := ∀ e, e ∈ l → 0 ≤ e.1 ∧ e.1 < (n : Int) ∧ 0 ≤ e.2 ∧ e.2 < (n : Int)
theorem aX3 {n : Nat} (h : ∀ x y, cH l x y ↔ cH l' x y) : cl n l = cl n l' := by unfold cl; rw [aY7 h]
theorem bJ8 (n : Nat) : cl n [] = n := by
 unfold cl cnt
 have : (fun (k : Nat) => decide (cO [] (k : Int) = (k : Int))) = fun _ => true := by funext k; simp [cO]
 rw [this, List.countP_true, List.length_range]
theorem aUn {n : Nat} {e : E} (hr : InR n (e :: l)) : cl n (e :: l) + (if cO l e.1 = cO l e.2 then 0 else 1) = cl n l := by
 have h1 := hr e (by simp)
 have hl : InR n l := fun x hx => hr x (by simp [hx])
 have : cl n (e :: l) = cnt n (wC (cO l) e.1 e.2) := by
  rw [← aQf]
  exact aX3 (nA fun x => by simp [or_comm])
 rw [this]
 exact bJb (aDq l) (wM hl ⟨h1.1, h1.2.1⟩) (wM hl ⟨h1.2.2.1, h1.2.2.2⟩)
theorem aX4 {n : Nat} {e : E} (hr : InR n (e :: l)) (h : cH l e.1 e.2) : cl n (e :: l) = cl n l := by
 have := aUn hr; rw [if_pos ((yU l).2 h)] at this; omega
theorem aZw {n : Nat} {e : E} (hr : InR n (e :: l)) (h : ¬ cH l e.1 e.2) : cl n (e :: l) + 1 = cl n l := by
 have := aUn hr; rw [if_neg (fun c => h ((yU l).1 c))] at this; omega
theorem InR.tail {n : Nat} {e : E} (h : InR n (e :: l)) : InR n l := fun x hx => h x (by simp [hx])
theorem bPz {n : Nat} : ∀ {l : List E}, InR n l → n ≤ cl n l + l.length
 | [], _ => by rw [bJ8]; simp
 | e :: l, hr => by
  have h1 := aUn hr
  have h2 := bPz hr.tail
  simp only [List.length_cons]
  split at h1 <;> omega
theorem bMz {n : Nat} (h : l.Perm l') : cl n l = cl n l' := aX3 (nA fun e => h.mem_iff)
theorem InR.perm {n : Nat} (hr : InR n l) (h : l.Perm l') : InR n l' := fun e he => hr e (h.mem_iff.2 he)
def cW (n : Nat) (l : List E) : Prop := cl n l + l.length = n
theorem cW.cons {n : Nat} {e : E} (hr : InR n (e :: l)) : cW n (e :: l) ↔ cW n l ∧ ¬ cH l e.1 e.2 := by
 unfold cW
 have h2 := bPz hr.tail
 simp only [List.length_cons]
 by_cases h : cH l e.1 e.2
 ·
  have := aX4 hr h
  constructor
  ·
   intro; omega
  ·
   rintro ⟨_, k⟩; exact absurd h k
 ·
  have := aZw hr h
  constructor
  ·
   intro; exact ⟨by omega, h⟩
  ·
   rintro ⟨_, _⟩; omega
theorem cW.perm {n : Nat} (h : cW n l) (hp : l.Perm l') : cW n l' := by unfold cW at *; rw [← bMz hp, ← hp.length_eq]; exact h
theorem cW.nil (n : Nat) : cW n [] := by unfold cW; rw [bJ8]; rfl
theorem cW.sublist {n : Nat} (hr : InR n l) (h : cW n l) : ∀ {l' : List E}, l'.Sublist l → cW n l' := by
 intro l' hs
 induction hs with
 | slnil => exact h
 | cons a _ ih => exact ih hr.tail ((cW.cons hr).1 h).1
 | cons_cons a hs ih =>
  have h1 := (cW.cons hr).1 h
  refine (cW.cons (fun x hx => hr x ?_)).2 ⟨ih hr.tail h1.1, fun c => h1.2 (c.mono fun e he => hs.subset he)⟩
  rcases List.mem_cons.1 hx with h | h
  ·
   simp [h]
  ·
   simp [hs.subset h]
theorem bI5 {t : E} {a b : Int} (h : cH (t :: l) a b) (hn : ¬ cH l a b) (x y : Int) : cH ((a, b) :: l) x y ↔ cH (t :: l) x y := by
 rcases cH.cons_iff.1 h with h | ⟨h1, h2⟩ | ⟨h1, h2⟩
 ·
  exact absurd h hn
 all_goals
  constructor
  ·
   refine fun k => k.bind fun c d hm => ?_
   rcases List.mem_cons.1 hm with e | e
   ·
    cases e; exact h
   ·
    exact .one (by simp [e])
  ·
   refine fun k => k.bind fun c d hm => ?_
   rcases List.mem_cons.1 hm with e | e
   ·
    subst e
    have m : ∀ {x y : Int}, cH l x y → cH ((a, b) :: l) x y := fun h => h.mono fun _ h => List.mem_cons_of_mem _ h
    have o : cH ((a, b) :: l) a b := .one (by simp)
    first
     | exact (m h1).symm.trans (o.trans (m h2).symm)
     | exact (m h2).trans (o.symm.trans (m h1))
   ·
    exact .one (by simp [e])
end Go.Pt
namespace Go.Pt
variable {l : List E} {n : Nat}
def Tch (l : List E) (i : Nat) (x y : Int) : Prop := l[i]? = some (x, y) ∨ l[i]? = some (y, x)
theorem Tch.symm {i : Nat} {x y : Int} (h : Tch l i x y) : Tch l i y x := h.elim .inr .inl
theorem Tch.lt {i : Nat} {x y : Int} (h : Tch l i x y) : i < l.length := by
 rcases h with h | h <;> exact (List.getElem?_eq_some_iff.1 h).1
theorem Tch.conn {i : Nat} {x y : Int} (h : Tch l i x y) : cH l x y := by
 rcases h with h | h
 ·
  exact .one (List.mem_of_getElem? h)
 ·
  exact .eno (List.mem_of_getElem? h)
def Br (l : List E) (u v : Int) (i : Nat) : Prop := i < l.length ∧ ¬ cH (l.eraseIdx i) u v
theorem aT5 {i j : Nat} {e : E} (h : l[j]? = some e) (hij : j ≠ i) : e ∈ l.eraseIdx i := by
 rw [List.mem_eraseIdx_iff_getElem?]; exact ⟨j, hij, h⟩
theorem Tch.conn_erase {i j : Nat} {x y : Int} (h : Tch l j x y) (hij : j ≠ i) : cH (l.eraseIdx i) x y := by
 rcases h with h | h
 ·
  exact .one (aT5 h hij)
 ·
  exact .eno (aT5 h hij)
theorem zK {i : Nat} {e : E} (h : l[i]? = some e) : l.Perm (e :: l.eraseIdx i) := by
 obtain ⟨hi, he⟩ := List.getElem?_eq_some_iff.1 h
 rw [List.eraseIdx_eq_take_drop_succ]
 have : l = l.take i ++ e :: l.drop (i + 1) := by rw [← he, List.getElem_cons_drop, List.take_append_drop]
 exact (List.Perm.of_eq this).trans List.perm_middle
theorem aFg {i : Nat} {e : E} (h : l[i]? = some e) (x y : Int) : cH l x y ↔ cH (e :: l.eraseIdx i) x y := nA (fun _ => (zK h).mem_iff) x y
theorem cW.bridge (hr : InR n l) (hf : cW n l) {i : Nat} {x y : Int} (h : Tch l i x y) : ¬ cH (l.eraseIdx i) x y := by
 rcases h with h | h
 ·
  exact ((cW.cons (hr.perm (zK h))).1 (hf.perm (zK h))).2
 ·
  exact fun c => ((cW.cons (hr.perm (zK h))).1 (hf.perm (zK h))).2 c.symm
theorem aR3 {i : Nat} {x y : Int} (h : Tch l i x y) {a b : Int} (hc : cH l a b) : cH (l.eraseIdx i) a b ∨ (cH (l.eraseIdx i) a x ∧ cH (l.eraseIdx i) y b) ∨ (cH (l.eraseIdx i) a y ∧ cH (l.eraseIdx i) x b) := by
 rcases h with h | h
 ·
  exact cH.cons_iff.1 ((aFg h _ _).1 hc)
 ·
  rcases cH.cons_iff.1 ((aFg h _ _).1 hc) with h | h | h
  ·
   exact .inl h
  ·
   exact .inr (.inr h)
  ·
   exact .inr (.inl h)
theorem aSq (hr : InR n l) (hf : cW n l) {x v y y' : Int} {i j : Nat} (hi : Tch l i x y) (hj : Tch l j x y') (bi : Br l x v i) (bj : Br l x v j) (hc : cH l x v) : i = j := by
 refine Classical.byContradiction fun hij => ?_
 have hy : cH (l.eraseIdx i) y v := by
  rcases aR3 hi hc with h | ⟨_, h⟩ | ⟨h, _⟩
  ·
   exact absurd h bi.2
  ·
   exact h
  ·
   exact absurd h (hf.bridge hr hi)
 have hxy' : cH (l.eraseIdx i) x y' := hj.conn_erase (fun h => hij h.symm)
 have hj' : ∃ k, Tch (l.eraseIdx i) k x y' ∧ ∀ a b, cH ((l.eraseIdx i).eraseIdx k) a b → cH (l.eraseIdx j) a b := by
  by_cases hlt : j < i
  ·
   refine ⟨j, ?_, fun a b h => h.mono fun e he => ?_⟩
   ·
    rcases hj with h | h
    ·
     exact .inl (by rw [List.getElem?_eraseIdx_of_lt hlt, h])
    ·
     exact .inr (by rw [List.getElem?_eraseIdx_of_lt hlt, h])
   ·
    rw [List.mem_eraseIdx_iff_getElem?] at he ⊢
    obtain ⟨k, h1, h2⟩ := he
    rw [List.getElem?_eraseIdx] at h2
    split at h2
    ·
     exact ⟨k, h1, h2⟩
    ·
     exact ⟨k + 1, by omega, h2⟩
  ·
   refine ⟨j - 1, ?_, fun a b h => h.mono fun e he => ?_⟩
   ·
    have e : j - 1 + 1 = j := by omega
    rcases hj with h | h
    ·
     exact .inl (by rw [List.getElem?_eraseIdx_of_ge (by omega), e, h])
    ·
     exact .inr (by rw [List.getElem?_eraseIdx_of_ge (by omega), e, h])
   ·
    rw [List.mem_eraseIdx_iff_getElem?] at he ⊢
    obtain ⟨k, h1, h2⟩ := he
    rw [List.getElem?_eraseIdx] at h2
    split at h2
    ·
     exact ⟨k, by omega, h2⟩
    ·
     exact ⟨k + 1, by omega, h2⟩
 obtain ⟨k, hk, hsub⟩ := hj'
 have hxi : cH (l.eraseIdx j) x y := hi.conn_erase hij
 rcases aR3 hk hy with h | ⟨_, h⟩ | ⟨_, h⟩
 ·
  exact bj.2 (hxi.trans (hsub _ _ h))
 ·
  
  rename_i h0
  exact hf.bridge hr hi (h0.mono fun e he => List.mem_of_mem_eraseIdx he).symm
 ·
  exact bj.2 (hsub _ _ h)
theorem aUk (hr : InR n l) (hf : cW n l) {x v y : Int} {i : Nat} (hi : Tch l i x y) (bi : Br l x v i) (hc : cH l x v) (j : Nat) : Br l y v j ↔ Br l x v j ∧ j ≠ i := by
 have hy : cH (l.eraseIdx i) y v := by
  rcases aR3 hi hc with h | ⟨_, h⟩ | ⟨h, _⟩
  ·
   exact absurd h bi.2
  ·
   exact h
  ·
   exact absurd h (hf.bridge hr hi)
 by_cases h : j = i
 ·
  subst h
  exact ⟨fun h => absurd hy h.2, fun h => absurd rfl h.2⟩
 ·
  have hxy : cH (l.eraseIdx j) x y := hi.conn_erase (fun k => h k.symm)
  exact ⟨fun k => ⟨⟨k.1, fun c => k.2 (hxy.symm.trans c)⟩, h⟩, fun k => ⟨k.1.1, fun c => k.1.2 (hxy.trans c)⟩⟩
theorem bMv (hr : InR n l) (hf : cW n l) {x v y : Int} {i : Nat} (hi : Tch l i x y) (bi : ¬ Br l x v i) (j : Nat) : Br l y v j ↔ Br l x v j ∨ j = i := by
 have hx : cH (l.eraseIdx i) x v := Classical.byContradiction fun c => bi ⟨hi.lt, c⟩
 by_cases h : j = i
 ·
  subst h
  exact ⟨fun _ => .inr rfl, fun _ => ⟨hi.lt, fun c => hf.bridge hr hi (hx.trans c.symm)⟩⟩
 ·
  have hxy : cH (l.eraseIdx j) x y := hi.conn_erase (fun k => h k.symm)
  exact ⟨fun k => .inl ⟨k.1, fun c => k.2 (hxy.symm.trans c)⟩, fun k => (k.resolve_right h).elim fun k1 k2 => ⟨k1, fun c => k2 (hxy.trans c)⟩⟩
theorem aUj {v : Int} (j : Nat) : ¬ Br l v v j := fun h => h.2 (.refl _)
open Classical in
noncomputable def dep (l : List E) (u v : Int) : Nat := (List.range l.length).countP fun i => decide (Br l u v i)
open Classical in
theorem bJo (hr : InR n l) (hf : cW n l) {x v y : Int} {i : Nat} (hi : Tch l i x y) (bi : Br l x v i) (hc : cH l x v) : dep l y v + 1 = dep l x v := by
 unfold dep
 rw [← aLm (f := fun i => decide (Br l x v i)) (a := i) List.nodup_range (List.mem_range.2 hi.lt) (by simpa using bi)]
 refine congrArg (· + 1) (List.countP_congr fun k _ => ?_)
 simp [aUk hr hf hi bi hc]
theorem bQw (l : List E) (u v : Int) : dep l u v ≤ l.length := by
 unfold dep; exact Nat.le_trans List.countP_le_length (by simp)
end Go.Pt
namespace Go.Pl
open Go Go.AM
variable {α β : Type}
theorem dI (l : List α) (k : Nat) : idx l (k : Int) = l[k]? := by simp [idx]
theorem rH {l : List α} {i : Int} {k : Nat} (h : i = k) : idx l i = l[k]? := by subst h; exact dI l k
theorem bR {l : List α} {k : Nat} (h : k < l.length) : idx l (k : Int) = some l[k] := by rw [dI]; exact List.getElem?_eq_getElem h
theorem iR {l : List α} {k : Nat} (h : k < l.length) (x : α) : stt l (k : Int) x = some (l.set k x) := by
 unfold stt; rw [if_pos ⟨by omega, by omega⟩]; simp
theorem bD2 {l : List α} {i : Int} {k : Nat} (hi : i = k) (h : k < l.length) (x : α) : stt l i x = some (l.set k x) := by subst hi; exact iR h x
theorem wr1 (k : Nat) (h : k < 4611686018427387904) : IntKind.i64.wrap ((k : Int) + 1) = ((k + 1 : Nat) : Int) := by rw [bM8 (by omega) (by omega)]; omega
theorem wr0 {n : Int} (h1 : -4611686018427387904 ≤ n) (h2 : n ≤ 4611686018427387904) : IntKind.i64.wrap n = n := bM8 (by omega) (by omega)
theorem aA (x : α) (f : α → Option β) : (some x).bind f = f x := by cases h : f x <;> simp [h]
theorem bt {c : Bool} {x y : β} (h : c = true) : (bif c then x else y) = x := by subst h; simp
theorem bf {c : Bool} {x y : β} (h : c = false) : (bif c then x else y) = y := by subst h; simp
theorem gt' {b : Bool} {d : α} {o : Option α} (h : b = true) : eP b d o = o := by subst h; simp [eP]
theorem gf' {b : Bool} {d : α} {o : Option α} (h : b = false) : eP b d o = some d := by subst h; simp [eP]
theorem ck {b : Bool} (h : b = true) : chk b = some () := by subst h; simp [chk]
theorem bDi {b : Nat} {l xs : List α} (h : (l.length + xs.length) * b ≤ 140737488355328) : aUd b l xs = some (l ++ xs) := by unfold aUd; rw [if_pos h]
theorem dL {l xs : List α} (h : l.length + xs.length ≤ 4294967296) : app l xs = some (l ++ xs) := by unfold app; rw [if_pos h]
theorem bCg {n : Int} (h : 0 ≤ n) (h' : n ≤ 4294967296) (z : α) : mkc n n z = some (List.replicate n.toNat z) := by unfold mkc; rw [if_pos ⟨h, Int.le_refl _, h'⟩]
theorem aOs {n c : Int} {k : Nat} (h : n = k) (hc : n ≤ c) (h' : c ≤ 4294967296) (z : α) : mkc n c z = some (List.replicate k z) := by
 subst h; unfold mkc; rw [if_pos ⟨by omega, hc, h'⟩]; simp
theorem aW2 {l : List α} {lo hi : Int} {a b : Nat} (h1 : lo = a) (h2 : hi = b) (h3 : a ≤ b) (h4 : b ≤ l.length) : slc l lo hi = some ((l.drop a).take (b - a)) := by
 subst h1; subst h2; unfold slc; rw [if_pos ⟨by omega, by omega, by omega⟩]; simp
theorem mC {l : List α} {lo : Int} {a : Nat} (h1 : lo = a) (h4 : a ≤ l.length) : slc l lo (l.length : Int) = some (l.drop a) := by
 rw [aW2 h1 rfl h4 (Nat.le_refl _)]; congr 1; apply List.take_of_length_le; simp
theorem xU {l : List α} {hi : Int} {b : Nat} (h2 : hi = b) (h4 : b ≤ l.length) : slc l 0 hi = some (l.take b) := by
 have := aW2 (l := l) (lo := ((0 : Nat) : Int)) (a := 0) rfl h2 (Nat.zero_le _) h4
 simpa using this
theorem bP {l : List α} {k : Nat} (h : k < l.length) : l.drop k = l[k] :: l.drop (k + 1) := List.drop_eq_getElem_cons h
theorem yX {l : List α} {k : Nat} (h : k < l.length) : l.take (k + 1) = l.take k ++ [l[k]] := by rw [List.take_add_one, List.getElem?_eq_getElem h]; rfl
theorem aJj : (1000000000 : Nat) < bF := by unfold bF; decide
def tab (n : Int) (f : Int → Int) : List Int := (List.range n.toNat).map fun (k : Nat) => f (k : Int)
theorem lQ (n : Int) (f : Int → Int) : (tab n f).length = n.toNat := by simp [tab]
theorem vK {n : Int} {f : Int → Int} {k : Nat} (h : (k : Int) < n) : (tab n f)[k]? = some (f k) := by
 unfold tab; rw [List.getElem?_map, List.getElem?_range (by omega)]; rfl
theorem aOx {n : Int} {f : Int → Int} {x : Int} (h0 : 0 ≤ x) (h : x < n) : idx (tab n f) x = some (f x) := by
 rw [rH (k := x.toNat) (by omega), vK (by omega)]; congr 2; omega
theorem bAa {n : Int} {f : Int → Int} {p : List Int} (hl : p.length = n.toNat) (h : ∀ k : Nat, (k : Int) < n → p[k]? = some (f k)) : p = tab n f := by
 apply List.ext_getElem?
 intro k
 by_cases hk : k < p.length
 ·
  rw [h k (by omega), vK (by omega)]
 ·
  rw [List.getElem?_eq_none (by omega), List.getElem?_eq_none (by rw [lQ]; omega)]
end Go.Pl
