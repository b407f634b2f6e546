/- Facts that the statement's proof is made of. No condition. -/
import Derived.Test.YtkdohhmacfoolaaGreatNaSeaM
set_option linter.unusedVariables false
set_option linter.unusedSimpArgs false
namespace Go.Pt
variable {l : List E} {n : Nat}
def wo (l : List E) (x : E) : List E := l.filter fun e => decide (e ≠ x)
theorem mem_wo {x e : E} : e ∈ wo l x ↔ e ∈ l ∧ e ≠ x := by unfold wo; rw [List.mem_filter]; simp
theorem wo_nodup (h : l.Nodup) (x : E) : (wo l x).Nodup := h.filter _
theorem wo_sub (x : E) : (wo l x).Sublist l := List.filter_sublist
theorem perm_ext {l l' : List E} (h : l.Nodup) (h' : l'.Nodup) (hm : ∀ e, e ∈ l ↔ e ∈ l') : l.Perm l' := (List.perm_ext_iff_of_nodup h h').2 hm
theorem perm_wo (h : l.Nodup) {x : E} (hx : x ∈ l) : l.Perm (x :: wo l x) := by
  refine perm_ext h (List.nodup_cons.2 ⟨fun k => (mem_wo.1 k).2 rfl, wo_nodup h x⟩) fun e => ?_
  rw [List.mem_cons, mem_wo]
  by_cases q : e = x
  · subst q; simp [hx]
  · simp [q]
theorem Forest.ext {l l' : List E} (hf : Forest n l) (h : l.Nodup) (h' : l'.Nodup) (hm : ∀ e, e ∈ l ↔ e ∈ l') : Forest n l' := hf.perm (perm_ext h h' hm)
theorem Forest.wo (hr : InR n l) (hd : l.Nodup) (hf : Forest n l) {x : E} (hx : x ∈ l) : Forest n (wo l x) ∧ ¬ Conn (wo l x) x.1 x.2 :=
  (Forest.cons (hr.perm (perm_wo hd hx))).1 (hf.perm (perm_wo hd hx))
theorem conn_wo (hd : l.Nodup) {x : E} (hx : x ∈ l) (a b : Int) : Conn l a b ↔ Conn (x :: wo l x) a b := conn_mem (fun _ => (perm_wo hd hx).mem_iff) a b
theorem InR.wo (hr : InR n l) (x : E) : InR n (wo l x) := fun e he => hr e (mem_wo.1 he).1
theorem nosep2 (hr : InR n l) (hd : l.Nodup) (hf : Forest n l) {x y : E} {a b : Int} (h1 : Conn (wo l x) a b) (h2 : Conn (wo l y) a b) : Conn (wo (wo l x) y) a b := by
  by_cases hy : y ∈ Go.Pt.wo l x
  · have hyl := (mem_wo.1 hy).1
    have nb := (hf.wo hr hd hyl).2
    have m : ∀ {c d : Int}, Conn (Go.Pt.wo (Go.Pt.wo l x) y) c d → Conn (Go.Pt.wo l y) c d := fun h => h.mono fun e he => mem_wo.2 ⟨(mem_wo.1 (mem_wo.1 he).1).1, (mem_wo.1 he).2⟩
    rcases Conn.cons_iff.1 ((conn_wo (wo_nodup hd x) hy a b).1 h1) with h | ⟨k1, k2⟩ | ⟨k1, k2⟩
    · exact h
    · exact absurd ((m k1).symm.trans (h2.trans (m k2).symm)) nb
    · exact absurd ((m k2).trans (h2.symm.trans (m k1))) nb
  · exact h1.mono fun e he => mem_wo.2 ⟨he, fun q => by subst q; exact hy he⟩
theorem keep_L {a b : Int} : ∀ (r l : List E), InR n l → l.Nodup → Forest n l → (∀ x, x ∈ r → Conn (wo l x) a b) → Conn l a b → Conn (l.filter fun e => decide (e ∉ r)) a b
  | [], l, _, _, _, _, h => h.mono fun e he => by simp [he]
  | x :: r, l, hr, hd, hf, hx, h => by
    have h1 := hx x (by simp)
    have hf' : Forest n (wo l x) := hf.sublist hr (wo_sub x)
    have ih := keep_L r (wo l x) (hr.wo x) (wo_nodup hd x) hf' (fun y hy => nosep2 hr hd hf h1 (hx y (by simp [hy]))) h1
    refine ih.mono fun e he => ?_
    rw [List.mem_filter] at he ⊢
    have := mem_wo.1 he.1
    refine ⟨this.1, ?_⟩
    have h2 := he.2
    simp only [decide_eq_true_eq] at h2 ⊢
    simp only [List.mem_cons, not_or]; exact ⟨this.2, h2⟩
theorem keep {a b : Int} (P : E → Bool) (hr : InR n l) (hd : l.Nodup) (hf : Forest n l) (hP : ∀ x, x ∈ l → P x = false → Conn (wo l x) a b) (h : Conn l a b) : Conn (l.filter P) a b := by
  refine (keep_L (l.filter fun e => !P e) l hr hd hf (fun x hx => ?_) h).mono fun e he => ?_
  · rw [List.mem_filter] at hx; exact hP x hx.1 (by simpa using hx.2)
  · rw [List.mem_filter] at he ⊢
    refine ⟨he.1, ?_⟩
    have := he.2
    simp only [decide_eq_true_eq, List.mem_filter, not_and] at this
    have := this he.1
    simpa using this
def ltE (a b : E) : Prop := a.1 < b.1 ∨ a.1 = b.1 ∧ a.2 < b.2
theorem ltE_trans {a b c : E} (h : ltE a b) (k : ltE b c) : ltE a c := by unfold ltE at *; omega
theorem pw_nodup (h : l.Pairwise ltE) : l.Nodup := h.imp fun {a b} h e => by subst e; unfold ltE at h; omega
end Go.Pt
namespace Go.Proofs.YtkdohhmacfoolaaGreat
open Go.Pt
structure Tb (n : Int) (l : List GEdge) : Prop where
  pw : (en l).Pairwise ltE
  ok : ∀ e, e ∈ l → okE n e = true
theorem lessE_iff {a b : GEdge} : lessE a b = true ↔ ltE (a.U, a.V) (b.U, b.V) := by unfold lessE ltE; exact decide_eq_true_iff
theorem en_cons (e : GEdge) (l : List GEdge) : en (e :: l) = (e.U, e.V) :: en l := rfl
theorem mem_en {l : List GEdge} {q : E} : q ∈ en l ↔ ∃ e, e ∈ l ∧ (e.U, e.V) = q := by unfold en; rw [List.mem_map]
theorem trL_iff {n : Int} : ∀ {l : List GEdge} {p : Option GEdge}, trL n p l = true ↔ (∀ e, e ∈ l → okE n e = true) ∧ (en l).Pairwise ltE ∧ ∀ q, p = some q → ∀ e, e ∈ l → ltE (q.U, q.V) (e.U, e.V)
  | [], p => by simp [trL, en]
  | a :: l, p => by
    rw [trL_cons, Bool.and_eq_true, trL_iff (l := l), en_cons, List.pairwise_cons]
    unfold stE
    rw [Bool.and_eq_true]
    constructor
    · rintro ⟨⟨h1, h2⟩, h3, h4, h5⟩
      refine ⟨fun e he => ?_, ⟨fun q hq => ?_, h4⟩, ?_⟩
      · rcases List.mem_cons.1 he with r | r
        · subst r; exact h1
        · exact h3 e r
      · obtain ⟨x, hx, rfl⟩ := mem_en.1 hq
        exact h5 a rfl x hx
      · rintro q rfl e he
        have hq : ltE (q.U, q.V) (a.U, a.V) := lessE_iff.1 h2
        rcases List.mem_cons.1 he with r | r
        · subst r; exact hq
        · exact ltE_trans hq (h5 a rfl e r)
    · rintro ⟨h1, ⟨h2, h3⟩, h4⟩
      refine ⟨⟨h1 a (by simp), ?_⟩, fun e he => h1 e (by simp [he]), h3, ?_⟩
      · cases p with
        | none => rfl
        | some q => exact lessE_iff.2 (h4 q rfl a (by simp))
      · rintro q hq e he
        cases hq
        exact h2 _ (mem_en.2 ⟨e, he, rfl⟩)
theorem trB_iff {n : Int} {l : List GEdge} : trB n l = true ↔ 0 ≤ n ∧ n ≤ 1024 ∧ Tb n l := by
  unfold trB
  rw [Bool.and_eq_true, decide_eq_true_eq, trL_iff]
  constructor
  · rintro ⟨⟨a, b⟩, c, d, _⟩; exact ⟨a, b, d, c⟩
  · rintro ⟨a, b, d, c⟩; exact ⟨⟨a, b⟩, c, d, fun q h => by cases h⟩
section
variable {n : Int} {l : List GEdge}
theorem Tb.rg (h : Tb n l) : Rg n l := fun e he => by
  have := okE_iff.1 (h.ok e he); omega
theorem Tb.nodup (h : Tb n l) : (en l).Nodup := pw_nodup h.pw
theorem Tb.inj (h : Tb n l) {e f : GEdge} (he : e ∈ l) (hf : f ∈ l) (hu : e.U = f.U) (hv : e.V = f.V) : e = f := by
  have hp : l.Pairwise fun a b => ltE (a.U, a.V) (b.U, b.V) := by have := h.pw; unfold en at this; rwa [List.pairwise_map] at this
  clear h
  induction l with
  | nil => cases he
  | cons a l ih =>
    rw [List.pairwise_cons] at hp
    rcases List.mem_cons.1 he with r | r <;> rcases List.mem_cons.1 hf with s | s
    · rw [r, s]
    · subst r; have := hp.1 f s; unfold ltE at this; simp only at this; omega
    · subst s; have := hp.1 e r; unfold ltE at this; simp only at this; omega
    · exact ih r s hp.2
theorem en_sublist {l l' : List GEdge} (h : l'.Sublist l) : (en l').Sublist (en l) := h.map _
theorem Tb.sub {l' : List GEdge} (h : Tb n l) (hs : l'.Sublist l) : Tb n l' := ⟨h.pw.sublist (en_sublist hs), fun e he => h.ok e (hs.subset he)⟩
theorem fo_sub (l : List GEdge) (k : Int) : (fo l k).Sublist l := List.filter_sublist
theorem Tb.fo_nodup (h : Tb n l) (k : Int) : (en (fo l k)).Nodup := (h.sub (fo_sub l k)).nodup
end
theorem inT_iff {t : Int} {e : GEdge} : inT t e = true ↔ 1 ≤ e.Tier ∧ e.Tier ≤ t := by unfold inT; simp
theorem mem_fo_iff {l : List GEdge} {k : Int} {e : GEdge} : e ∈ fo l k ↔ e ∈ l ∧ 1 ≤ e.Tier ∧ e.Tier ≤ k := by unfold fo; rw [List.mem_filter, inT_iff]
theorem mem_fe {l : List GEdge} {k a b : Int} : (a, b) ∈ en (fo l k) ↔ ∃ e, e ∈ l ∧ e.U = a ∧ e.V = b ∧ 1 ≤ e.Tier ∧ e.Tier ≤ k := by
  rw [mem_en]
  constructor
  · rintro ⟨e, he, h⟩
    obtain ⟨h1, h2, h3⟩ := mem_fo_iff.1 he
    cases h; exact ⟨e, h1, rfl, rfl, h2, h3⟩
  · rintro ⟨e, h1, rfl, rfl, h2, h3⟩
    exact ⟨e, mem_fo_iff.2 ⟨h1, h2, h3⟩, rfl⟩
def setT (l : List GEdge) (x : GEdge) (s : Int) : List GEdge := l.map fun e => if e.U = x.U ∧ e.V = x.V then ⟨e.U, e.V, s⟩ else e
section
variable {n : Int} {l : List GEdge} {x : GEdge} {s : Int}
theorem en_setT (l : List GEdge) (x : GEdge) (s : Int) : en (setT l x s) = en l := by
  unfold en setT; rw [List.map_map]; apply List.map_congr_left; intro e _; simp only [Function.comp]; split <;> rfl
theorem Tb.setT (h : Tb n l) (h0 : 0 ≤ s) (h1 : s ≤ 16) : Tb n (setT l x s) := by
  refine ⟨by rw [en_setT]; exact h.pw, fun e he => ?_⟩
  unfold Go.Proofs.YtkdohhmacfoolaaGreat.setT at he
  obtain ⟨y, hy, rfl⟩ := List.mem_map.1 he
  have := okE_iff.1 (h.ok y hy)
  split
  · exact okE_iff.2 ⟨this.1, this.2.1, this.2.2.1, h0, h1⟩
  · exact h.ok y hy
theorem mem_setT {e : GEdge} (hx : ∃ y, y ∈ l ∧ y.U = x.U ∧ y.V = x.V) : e ∈ setT l x s ↔ (e ∈ l ∧ ¬ (e.U = x.U ∧ e.V = x.V)) ∨ e = ⟨x.U, x.V, s⟩ := by
  unfold setT
  rw [List.mem_map]
  constructor
  · rintro ⟨y, hy, rfl⟩
    split
    · rename_i c; right; rw [c.1, c.2]
    · rename_i c; exact .inl ⟨hy, c⟩
  · rintro (⟨h1, h2⟩ | rfl)
    · exact ⟨e, h1, if_neg h2⟩
    · obtain ⟨y, hy, h1, h2⟩ := hx
      refine ⟨y, hy, ?_⟩
      rw [if_pos ⟨h1, h2⟩, h1, h2]
theorem mem_fe_setT {k a b : Int} (hx : ∃ y, y ∈ l ∧ y.U = x.U ∧ y.V = x.V) : (a, b) ∈ en (fo (setT l x s) k) ↔ ((a, b) ∈ en (fo l k) ∧ ¬ (a = x.U ∧ b = x.V)) ∨ ((a = x.U ∧ b = x.V) ∧ 1 ≤ s ∧ s ≤ k) := by
  rw [mem_fe, mem_fe]
  constructor
  · rintro ⟨e, he, rfl, rfl, h1, h2⟩
    rcases (mem_setT hx).1 he with ⟨h3, h4⟩ | rfl
    · exact .inl ⟨⟨e, h3, rfl, rfl, h1, h2⟩, h4⟩
    · exact .inr ⟨⟨rfl, rfl⟩, h1, h2⟩
  · rintro (⟨⟨e, he, rfl, rfl, h1, h2⟩, h3⟩ | ⟨⟨rfl, rfl⟩, h1, h2⟩)
    · exact ⟨e, (mem_setT hx).2 (.inl ⟨he, h3⟩), rfl, rfl, h1, h2⟩
    · exact ⟨_, (mem_setT hx).2 (.inr rfl), rfl, rfl, h1, h2⟩
theorem fo_setT {k : Int} (hs : ¬ (1 ≤ s ∧ s ≤ k)) : ∀ {l : List GEdge}, (∀ e, e ∈ l → e.U = x.U → e.V = x.V → ¬ (1 ≤ e.Tier ∧ e.Tier ≤ k)) → fo (setT l x s) k = fo l k
  | [], _ => rfl
  | e :: l, h => by
    have ih := fo_setT hs (l := l) (fun e he => h e (by simp [he]))
    have h1 := h e (by simp)
    unfold fo setT at ih ⊢
    rw [List.map_cons, List.filter_cons, List.filter_cons, ih]
    split
    · rename_i c
      have a1 : inT k ⟨e.U, e.V, s⟩ = false := by rw [Bool.eq_false_iff]; intro q; exact hs (inT_iff.1 q)
      have a2 : inT k e = false := by rw [Bool.eq_false_iff]; intro q; exact h1 c.1 c.2 (inT_iff.1 q)
      rw [a1, a2]; rfl
    · rfl
end
abbrev CT (l : List GEdge) (t x y : Int) : Prop := Conn (en (fo l t)) x y
def behE (y x : GEdge) : Prop := x.Tier < y.Tier ∨ y.Tier = x.Tier ∧ ltE (x.U, x.V) (y.U, y.V)
def sepE (l : List GEdge) (L a b : Int) (x : GEdge) : Prop := x ∈ fo l L ∧ ¬ Conn (wo (en (fo l L)) (x.U, x.V)) a b
structure IsTop (l : List GEdge) (L a b : Int) (top : GEdge) : Prop where
  sep : sepE l L a b top
  max : ∀ y, sepE l L a b y → ¬ behE y top
theorem IsTop.uniq {l : List GEdge} {L a b : Int} {x y : GEdge} (hx : IsTop l L a b x) (hy : IsTop l L a b y) : x = y := by
  have h1 := hx.max y hy.sep
  have h2 := hy.max x hx.sep
  unfold behE ltE at h1 h2
  cases x; cases y; simp only [GEdge.mk.injEq] at *; omega
def StepR (l : List GEdge) (L t : Int) (e : GEdge) (l2 : List GEdge) : Prop :=
  (e.Tier = 0 ∧ CT l L e.U e.V ∧ ∃ top, IsTop l L e.U e.V top ∧ l2 = setT (setT l top 0) e (t + 1)) ∨ (¬ (e.Tier = 0 ∧ CT l L e.U e.V) ∧ l2 = setT l e (t + 1))
theorem StepR.uniq {l : List GEdge} {L t : Int} {e : GEdge} {a b : List GEdge} (h : StepR l L t e a) (k : StepR l L t e b) : a = b := by
  rcases h with ⟨h1, h2, x, h3, rfl⟩ | ⟨h1, rfl⟩ <;> rcases k with ⟨k1, k2, y, k3, rfl⟩ | ⟨k1, rfl⟩
  · rw [h3.uniq k3]
  · exact absurd ⟨h1, h2⟩ k1
  · exact absurd ⟨k1, k2⟩ h1
  · rfl
theorem ctMono {l : List GEdge} {t t' x y : Int} (h : CT l t x y) (ht : t ≤ t') : CT l t' x y := Conn.mono (fun e he => by
  cases e with | mk a b =>
  obtain ⟨e, h1, h2, h3, h4, h5⟩ := mem_fe.1 he
  exact mem_fe.2 ⟨e, h1, h2, h3, h4, by omega⟩) h
structure Ti (n L : Int) (l : List GEdge) : Prop where
  tb : Tb n l
  le : ∀ e, e ∈ l → e.Tier ≤ L
  fr : Forest n.toNat (en (fo l L))
structure Stp (n L t : Int) (e : GEdge) (l l2 : List GEdge) : Prop where
  ti : Ti n L l2
  en : en l2 = en l
  low : ∀ k, k ≤ t → fo l2 k = fo l k
  up : ∀ k x y, CT l k x y → CT l2 k x y
  now : CT l2 (t + 1) e.U e.V
  just : ∀ k x y, CT l2 k x y → CT l k x y ∨ ((CT l k x e.U ∨ CT l k x e.V) ∧ (CT l k e.U y ∨ CT l k e.V y))
theorem cons_just {l : List E} {e : E} {x y : Int} (h : Conn (e :: l) x y) : Conn l x y ∨ ((Conn l x e.1 ∨ Conn l x e.2) ∧ (Conn l e.1 y ∨ Conn l e.2 y)) := by
  rcases Conn.cons_iff.1 h with h | ⟨h, k⟩ | ⟨h, k⟩
  · exact .inl h
  · exact .inr ⟨.inl h, .inr k⟩
  · exact .inr ⟨.inr h, .inl k⟩
section
variable {n L t : Int} {e : GEdge} {l l2 : List GEdge}
theorem Ti.inR (h : Ti n L l) (hn : 0 ≤ n) (k : Int) : InR n.toNat (en (fo l k)) := Rg.inR ((h.tb.sub (fo_sub l k)).rg) hn
theorem Ti.big (h : Ti n L l) {k : Int} {a b : Int} (hm : (a, b) ∈ en (fo l k)) : (a, b) ∈ en (fo l L) := by
  obtain ⟨e, h1, h2, h3, h4, h5⟩ := mem_fe.1 hm
  exact mem_fe.2 ⟨e, h1, h2, h3, h4, h.le e h1⟩
theorem Ti.not_mem (h : Ti n L l) (he : e ∈ l) {k : Int} (hk : ¬ (1 ≤ e.Tier ∧ e.Tier ≤ k)) : (e.U, e.V) ∉ en (fo l k) := fun q => by
  obtain ⟨f, h1, h2, h3, h4⟩ := mem_fe.1 q
  have := h.tb.inj h1 he h2 h3
  subst this; exact hk h4
theorem setT_le (h : ∀ e, e ∈ l → e.Tier ≤ L) {x : GEdge} {s : Int} (hs : s ≤ L) : ∀ e, e ∈ setT l x s → e.Tier ≤ L := fun e he => by
  unfold setT at he
  obtain ⟨y, hy, rfl⟩ := List.mem_map.1 he
  split
  · exact hs
  · exact h y hy
theorem top_above (h : Ti n L l) (hn : 0 ≤ n) (hc : CT l L e.U e.V) {top : GEdge} (hT : IsTop l L e.U e.V top) : CT l top.Tier e.U e.V := by
  classical
  have := keep (fun q => decide (q ∈ en (fo l top.Tier))) (h.inR hn L) (h.tb.fo_nodup L) h.fr (fun x hx hP => by
    cases x with | mk a b =>
    refine Classical.byContradiction fun c => ?_
    obtain ⟨y, h1, rfl, rfl, h4, h5⟩ := mem_fe.1 hx
    have hs : sepE l L e.U e.V y := ⟨mem_fo_iff.2 ⟨h1, h4, h5⟩, c⟩
    have hm := hT.max y hs
    have : y.Tier ≤ top.Tier := by unfold behE at hm; omega
    simp only [decide_eq_false_iff_not] at hP
    exact hP (mem_fe.2 ⟨y, h1, rfl, rfl, h4, this⟩)) hc
  exact this.mono fun q hq => by
    rw [List.mem_filter] at hq
    simpa using hq.2
theorem stepA (h : Ti n L l) (hn : 0 ≤ n) (h0 : 0 ≤ t) (htL : t < L) (hL : L ≤ 16) (he : e ∈ l) (hno : ¬ CT l (t + 1) e.U e.V) (h1 : e.Tier = 0) (hc : CT l L e.U e.V) {top : GEdge} (hT : IsTop l L e.U e.V top) :
    Stp n L t e l (setT (setT l top 0) e (t + 1)) := by
  obtain ⟨htl, ht1, ht2⟩ := mem_fo_iff.1 hT.sep.1
  have hab := top_above h hn hc hT
  have hgt : t + 1 < top.Tier := Classical.byContradiction fun c => hno (ctMono hab (by omega))
  have hne : ¬ (e.U = top.U ∧ e.V = top.V) := fun q => by
    have := h.tb.inj he htl q.1 q.2
    subst this; omega
  have hx1 : ∃ y, y ∈ l ∧ y.U = top.U ∧ y.V = top.V := ⟨top, htl, rfl, rfl⟩
  have hx2 : ∃ y, y ∈ setT l top 0 ∧ y.U = e.U ∧ y.V = e.V := ⟨e, (mem_setT hx1).2 (.inl ⟨he, hne⟩), rfl, rfl⟩
  have hek : ∀ k, (e.U, e.V) ∉ en (fo l k) := fun k => h.not_mem he (by omega)
  have hm : ∀ k a b, (a, b) ∈ en (fo (setT (setT l top 0) e (t + 1)) k) ↔ ((a, b) ∈ en (fo l k) ∧ ¬ (a = top.U ∧ b = top.V)) ∨ ((a = e.U ∧ b = e.V) ∧ t + 1 ≤ k) := by
    intro k a b
    rw [mem_fe_setT hx2, mem_fe_setT hx1]
    constructor
    · rintro (⟨h1 | h1, h2⟩ | h1)
      · exact .inl h1
      · omega
      · exact .inr ⟨h1.1, h1.2.2⟩
    · rintro (h1 | h1)
      · refine .inl ⟨.inl h1, ?_⟩
        rintro ⟨rfl, rfl⟩
        exact hek k h1.1
      · exact .inr ⟨h1.1, by omega, h1.2⟩
  have hlow : ∀ k, k ≤ t → fo (setT (setT l top 0) e (t + 1)) k = fo l k := fun k hk => by
    rw [fo_setT (by omega), fo_setT (by omega)]
    · intro y hy a b
      have := h.tb.inj hy htl a b
      subst this; omega
    · intro y hy a b c
      rcases (mem_setT hx1).1 hy with ⟨q, _⟩ | q
      · have := h.tb.inj q he a b
        subst this; omega
      · subst q; simp at c
  have hmid : ∀ k, t + 1 ≤ k → k < top.Tier → ∀ x y, Conn (en (fo (setT (setT l top 0) e (t + 1)) k)) x y ↔ Conn ((e.U, e.V) :: en (fo l k)) x y := fun k hk hk' => conn_mem fun q => by
    cases q with | mk a b =>
    rw [hm, List.mem_cons]
    have hk2 : (top.U, top.V) ∉ en (fo l k) := h.not_mem htl (by omega)
    constructor
    · rintro (h1 | ⟨⟨rfl, rfl⟩, _⟩)
      · exact .inr h1.1
      · exact .inl rfl
    · rintro (h1 | h1)
      · cases h1; exact .inr ⟨⟨rfl, rfl⟩, hk⟩
      · exact .inl ⟨h1, fun c => hk2 (by rw [← c.1, ← c.2]; exact h1)⟩
  have hnt : ∀ k, ¬ Conn (wo (en (fo l k)) (top.U, top.V)) e.U e.V := fun k c => hT.sep.2 (c.mono fun q hq => by
    cases q with | mk a b =>
    exact mem_wo.2 ⟨h.big (mem_wo.1 hq).1, (mem_wo.1 hq).2⟩)
  have hmemT : ∀ k, top.Tier ≤ k → (top.U, top.V) ∈ en (fo l k) := fun k hk => mem_fe.2 ⟨top, htl, rfl, rfl, ht1, hk⟩
  have hmemE : ∀ k, t + 1 ≤ k → ∀ q, q ∈ en (fo (setT (setT l top 0) e (t + 1)) k) ↔ q ∈ (e.U, e.V) :: wo (en (fo l k)) (top.U, top.V) := fun k hk q => by
    cases q with | mk a b =>
    rw [hm, List.mem_cons, mem_wo]
    constructor
    · rintro (h1 | ⟨⟨rfl, rfl⟩, _⟩)
      · exact .inr ⟨h1.1, fun c => h1.2 (by cases c; exact ⟨rfl, rfl⟩)⟩
      · exact .inl rfl
    · rintro (h1 | h1)
      · cases h1; exact .inr ⟨⟨rfl, rfl⟩, hk⟩
      · exact .inl ⟨h1.1, fun c => h1.2 (by rw [c.1, c.2])⟩
  have hhigh : ∀ k, top.Tier ≤ k → ∀ x y, Conn (en (fo (setT (setT l top 0) e (t + 1)) k)) x y ↔ CT l k x y := fun k hk x y => by
    rw [conn_mem (hmemE k (by omega)) x y]
    refine Iff.trans ?_ (conn_wo (h.tb.fo_nodup k) (hmemT k hk) x y).symm
    exact swap_conn ((conn_wo (h.tb.fo_nodup k) (hmemT k hk) _ _).1 (ctMono hab hk)) (hnt k) x y
  have htb : Tb n (setT (setT l top 0) e (t + 1)) := (h.tb.setT (by omega) (by omega)).setT (by omega) (by omega)
  refine ⟨⟨htb, setT_le (setT_le h.le (by omega)) (by omega), ?_⟩, by rw [en_setT, en_setT], hlow, fun k x y hk => ?_, ?_, fun k x y hk => ?_⟩
  · have hw := h.fr.wo (h.inR hn L) (h.tb.fo_nodup L) (hmemT L (by omega))
    have hee : (e.U, e.V) ∉ wo (en (fo l L)) (top.U, top.V) := fun q => hek L (mem_wo.1 q).1
    have hr : InR n.toNat ((e.U, e.V) :: wo (en (fo l L)) (top.U, top.V)) := fun q hq => by
      rcases List.mem_cons.1 hq with c | c
      · subst c; exact Rg.inR h.tb.rg hn _ (mem_en.2 ⟨e, he, rfl⟩)
      · exact h.inR hn L q (mem_wo.1 c).1
    have hF : Forest n.toNat ((e.U, e.V) :: wo (en (fo l L)) (top.U, top.V)) := (Forest.cons hr).2 ⟨hw.1, hnt L⟩
    exact hF.ext (List.nodup_cons.2 ⟨hee, wo_nodup (h.tb.fo_nodup L) _⟩) (htb.fo_nodup L) fun q => (hmemE L (by omega) q).symm
  · by_cases c : k ≤ t
    · unfold CT; rw [hlow k c]; exact hk
    · by_cases c' : k < top.Tier
      · exact (hmid k (by omega) c' x y).2 (Conn.mono (fun q hq => List.mem_cons_of_mem _ hq) hk)
      · exact (hhigh k (by omega) x y).2 hk
  · exact (hmid (t + 1) (by omega) hgt _ _).2 (.one (by simp))
  · by_cases c : k ≤ t
    · left; unfold CT at hk; rw [hlow k c] at hk; exact hk
    · by_cases c' : k < top.Tier
      · exact cons_just ((hmid k (by omega) c' x y).1 hk)
      · exact .inl ((hhigh k (by omega) x y).1 hk)
theorem stepB (h : Ti n L l) (hn : 0 ≤ n) (h0 : 0 ≤ t) (htL : t < L) (hL : L ≤ 16) (he : e ∈ l) (hno : ¬ CT l (t + 1) e.U e.V) (h1 : ¬ (e.Tier = 0 ∧ CT l L e.U e.V)) :
    Stp n L t e l (setT l e (t + 1)) := by
  have hx1 : ∃ y, y ∈ l ∧ y.U = e.U ∧ y.V = e.V := ⟨e, he, rfl, rfl⟩
  have hge := (okE_iff.1 (h.tb.ok e he)).2.2.2.1
  have hti : e.Tier = 0 ∨ t + 1 < e.Tier := Classical.byContradiction fun c => hno (.one (mem_fe.2 ⟨e, he, rfl, rfl, by omega, by omega⟩))
  have hm : ∀ k, t + 1 ≤ k → ∀ q, q ∈ en (fo (setT l e (t + 1)) k) ↔ q ∈ (e.U, e.V) :: en (fo l k) := fun k hk q => by
    cases q with | mk a b =>
    rw [mem_fe_setT hx1, List.mem_cons]
    constructor
    · rintro (h1 | ⟨⟨rfl, rfl⟩, _⟩)
      · exact .inr h1.1
      · exact .inl rfl
    · rintro (h1 | h1)
      · cases h1; exact .inr ⟨⟨rfl, rfl⟩, by omega, hk⟩
      · by_cases c : a = e.U ∧ b = e.V
        · exact .inr ⟨c, by omega, hk⟩
        · exact .inl ⟨h1, c⟩
  have hlow : ∀ k, k ≤ t → fo (setT l e (t + 1)) k = fo l k := fun k hk => by
    rw [fo_setT (by omega)]
    intro y hy a b
    have := h.tb.inj hy he a b
    subst this; omega
  have htb : Tb n (setT l e (t + 1)) := h.tb.setT (by omega) (by omega)
  refine ⟨⟨htb, setT_le h.le (by omega), ?_⟩, by rw [en_setT], hlow, fun k x y hk => ?_, ?_, fun k x y hk => ?_⟩
  · by_cases c : e.Tier = 0
    · have hc : ¬ CT l L e.U e.V := fun q => h1 ⟨c, q⟩
      have hek : (e.U, e.V) ∉ en (fo l L) := h.not_mem he (by omega)
      have hr : InR n.toNat ((e.U, e.V) :: en (fo l L)) := fun q hq => by
        rcases List.mem_cons.1 hq with c | c
        · subst c; exact Rg.inR h.tb.rg hn _ (mem_en.2 ⟨e, he, rfl⟩)
        · exact h.inR hn L q c
      exact ((Forest.cons hr).2 ⟨h.fr, hc⟩).ext (List.nodup_cons.2 ⟨hek, h.tb.fo_nodup L⟩) (htb.fo_nodup L) fun q => (hm L (by omega) q).symm
    · have hek : (e.U, e.V) ∈ en (fo l L) := mem_fe.2 ⟨e, he, rfl, rfl, by omega, h.le e he⟩
      refine h.fr.ext (h.tb.fo_nodup L) (htb.fo_nodup L) fun q => ?_
      rw [hm L (by omega), List.mem_cons]
      constructor
      · exact .inr
      · rintro (c | c)
        · subst c; exact hek
        · exact c
  · by_cases c : k ≤ t
    · unfold CT; rw [hlow k c]; exact hk
    · exact (conn_mem (hm k (by omega)) x y).2 (Conn.mono (fun q hq => List.mem_cons_of_mem _ hq) hk)
  · exact (conn_mem (hm (t + 1) (by omega)) _ _).2 (.one (by simp))
  · by_cases c : k ≤ t
    · left; unfold CT at hk; rw [hlow k c] at hk; exact hk
    · exact cons_just ((conn_mem (hm k (by omega)) x y).1 hk)
theorem step_facts (h : Ti n L l) (hn : 0 ≤ n) (h0 : 0 ≤ t) (htL : t < L) (hL : L ≤ 16) (he : e ∈ l) (hno : ¬ CT l (t + 1) e.U e.V) (hs : StepR l L t e l2) : Stp n L t e l l2 := by
  rcases hs with ⟨h1, h2, top, h3, rfl⟩ | ⟨h1, rfl⟩
  · exact stepA h hn h0 htL hL he hno h1 h2 h3
  · exact stepB h hn h0 htL hL he hno h1
end
end Go.Proofs.YtkdohhmacfoolaaGreat
