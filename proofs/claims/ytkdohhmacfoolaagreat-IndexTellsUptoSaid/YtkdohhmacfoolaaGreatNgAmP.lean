/- Facts. No condition. -/
import Derived.Test.YtkdohhmacfoolaaGreatNgAmL
set_option linter.unusedSimpArgs false
set_option linter.unusedVariables false
set_option maxRecDepth 4000
namespace Go.AM
open Go.RowKit
attribute [local semireducible] aW KN aBu uB AIn AWp cN
variable {P : Program}
def bJm (cm : Nat → Nat → Bool) (ops : Array Oper) : Bool :=
  (List.range ops.size).all fun i =>
    ((ops[i]?).map (·.after.all fun e => !Region.binds .any e || decide (e.on < i))).getD false &&
    (List.range i).all fun p => ((zP [] ops.toList).getD i 0).testBit p || cm p i
abbrev HI (P : Program) (ops : Array Oper) (I : St → Prop) : Prop := ∀ {C : Ctx} {a : Act} {w : World} {i id : Nat} {o : Oper} {s s' : St}, Real C s a w → ops[i]? = some o → cN P true ops id o s s' → I s → I s'
abbrev HC (P : Program) (ops : Array Oper) (base : Nat) (cm : Nat → Nat → Bool) (I : St → Prop) : Prop := ∀ {C : Ctx} {a : Act} {w : World} {p i : Nat} {op oi : Oper} {s s1 s2 : St}, Real C s a w → I s → ops[p]? = some op → ops[i]? = some oi → cm p i = true → p ≠ i →
    cN P true ops (base + p) op s s1 → cN P true ops (base + i) oi s1 s2 → ∃ t, cN P true ops (base + i) oi s t ∧ cN P true ops (base + p) op t s2
theorem aJq {C : Ctx} {ops : Array Oper} {base : Nat} (cm : Nat → Nat → Bool) (I : St → Prop) (hI : HI P ops I) (hC : HC P ops base cm I) : ∀ (L1 : List Nat) (i : Nat) (L2 : List Nat) (s sf : St) (a : Act) (w : World), Real C s a w → I s → (∀ p, p ∈ L1 → cm p i = true ∧ p ≠ i) →
 aF3 P ops base (L1 ++ i :: L2) s sf → ∃ o t, ops[i]? = some o ∧ cN P true ops (base + i) o s t ∧ aF3 P ops base (L1 ++ L2) t sf
 | [], i, L2, s, sf, a, w, _, _, _, h => h
 | p :: L1, i, L2, s, sf, a, w, hr, hn, hc, h => by
  obtain ⟨op, s1, h1, h2, h3⟩ := h
  obtain ⟨a1, w1, hr1⟩ := aMe h2 hr
  have hn1 := hI hr h1 h2 hn
  obtain ⟨oi, t1, h4, h5, h6⟩ := aJq cm I hI hC L1 i L2 s1 sf a1 w1 hr1 hn1 (fun q hq => hc q (by simp [hq])) h3
  obtain ⟨hcm, hne⟩ := hc p (by simp)
  obtain ⟨t, h7, h8⟩ := hC hr hn h1 h4 hcm hne h2 h5
  exact ⟨oi, t, h4, h7, op, t1, h1, h8, h6⟩
section
variable {ops : Array Oper}
theorem aO7 {cm : Nat → Nat → Bool} (hok : bJm cm ops = true) {listed : Array Bool}
 (hclosed : ∀ k o, ops[k]? = some o → listed.getD k false = true → ∀ e, e ∈ o.after → Region.binds .any e = true → listed.getD e.on false = true) :
 ∀ (i : Nat) (o : Oper), ops[i]? = some o → (∀ e, e ∈ o.after → Region.binds .any e = true → listed.getD e.on false = true) →
 ∀ p, ((zP [] ops.toList).getD i 0).testBit p = true → listed.getD p false = true := by
 intro i
 induction i using Nat.strongRecOn with
 | _ i ih =>
  intro o ho hall p hp
  obtain ⟨acc', h1, h2⟩ := aKa ops.toList [] i o (by simpa using ho)
  simp only [List.length_nil, Nat.zero_add] at h1 h2
  rw [h1] at hp
  obtain ⟨e, he, hb, h3⟩ := aIp hp
  have hon := hall e he hb
  rcases h3 with rfl | h3
  ·
   exact hon
  ·
   have hlt : i < ops.size := (Array.getElem?_eq_some_iff.1 ho).1
   have hei : e.on < i := by
    have := List.all_eq_true.1 hok i (by simpa using hlt)
    simp only [Bool.and_eq_true, ho, Option.map_some, Option.getD_some] at this
    have := Array.all_eq_true_iff_forall_mem.1 this.1 e he
    simpa [hb] using this
   obtain ⟨oe, hoe⟩ : ∃ oe, ops[e.on]? = some oe := ⟨ops[e.on]'(by omega), by simp [show e.on < ops.size by omega]⟩
   rw [h2 _ hei] at h3
   exact ih e.on hei oe hoe (fun e' he' hb' => hclosed e.on oe hoe hon e' he' hb') p h3
theorem aX9 {C : Ctx} {base : Nat} {Q : Exit → Act → World → Prop} (cm : Nat → Nat → Bool) (I : St → Prop) (hok : bJm cm ops = true) (hI : HI P ops I) (hC : HC P ops base cm I) : ∀ (fuel : Nat) (L : List Nat) (listed : Array Bool) (s sf : St) (a : Act) (w : World),
 L.length = fuel → L.Pairwise (· < ·) → listed.size = ops.size → (∀ i, i < ops.size → (listed.getD i false = true ↔ i ∉ L)) → (∀ i, i ∈ L → i < ops.size) →
 (∀ k o, ops[k]? = some o → listed.getD k false = true → ∀ e, e ∈ o.after → Region.binds .any e = true → listed.getD e.on false = true) →
 aF3 P ops base L s sf → I s → Real C s a w → (∀ a' w', Real C sf a' w' → Q .normal a' w') → wpAny P .any ops Q fuel listed a w := by
 intro fuel
 have hdep : ∀ i o, ops[i]? = some o → ∀ e, e ∈ o.after → Region.binds .any e = true → e.on < i := by
  intro i o ho e he hb
  have hlt : i < ops.size := (Array.getElem?_eq_some_iff.1 ho).1
  have := List.all_eq_true.1 hok i (by simpa using hlt)
  simp only [Bool.and_eq_true, ho, Option.map_some, Option.getD_some] at this
  have := Array.all_eq_true_iff_forall_mem.1 this.1 e he
  simpa [hb] using this
 have getDt : ∀ (listed : Array Bool) (i : Nat), listed.size = ops.size → i < ops.size → listed.getD i true = listed.getD i false := by
  intro listed i hs hi; simp [hs, hi]
 induction fuel with
 | zero =>
  intro L listed s sf a w hL _ hsz hl hlt hcl hch hno hr hQ
  have : L = [] := List.eq_nil_of_length_eq_zero hL
  subst this
  have : s = sf := hch
  subst this
  refine ⟨?_, hQ a w hr⟩
  cases hrd : Region.ready .any ops listed with
  | nil => rfl
  | cons x xs =>
   have hx : x ∈ Region.ready .any ops listed := by rw [hrd]; simp
   obtain ⟨h1, o, h2, _⟩ := mem_ready.1 hx
   have hxs : x < ops.size := (Array.getElem?_eq_some_iff.1 h2).1
   rw [getDt listed x hsz hxs] at h1
   have := (hl x hxs).2 (by simp)
   rw [h1] at this; cases this
 | succ fuel ih =>
  intro L listed s sf a w hL hsort hsz hl hlt hcl hch hno hr hQ
  refine ⟨fun hempty => ?_, fun i hi => ?_⟩
  ·
   
   exfalso
   match L, hL with
   | x :: L', _ =>
    have hxs : x < ops.size := hlt x (by simp)
    obtain ⟨o, ho⟩ : ∃ o, ops[x]? = some o := ⟨ops[x], by simp [hxs]⟩
    have : x ∈ Region.ready .any ops listed := by
     refine mem_ready.2 ⟨?_, o, ho, fun e he hb => ?_⟩
     ·
      rw [getDt listed x hsz hxs]
      cases hv : listed.getD x false with
      | false => rfl
      | true => exact absurd (by simp) ((hl x hxs).1 hv)
     ·
      have hex := hdep x o ho e he hb
      refine (hl e.on (by omega)).2 (fun hm => ?_)
      rcases List.mem_cons.1 hm with h | h
      ·
       omega
      ·
       have := List.rel_of_pairwise_cons hsort h
       omega
    rw [hempty] at this; cases this
  ·
   obtain ⟨h1, oi, hoi, hall⟩ := mem_ready.1 hi
   have his : i < ops.size := (Array.getElem?_eq_some_iff.1 hoi).1
   rw [getDt listed i hsz his] at h1
   have hiL : i ∈ L := by
    rcases Classical.em (i ∈ L) with h | h
    ·
     exact h
    ·
     have := (hl i his).2 h; rw [h1] at this; cases this
   obtain ⟨L1, L2, rfl⟩ := List.append_of_mem hiL
   have hp := List.pairwise_append.1 hsort
   have hpre : ∀ p, p ∈ L1 → cm p i = true ∧ p ≠ i := by
    intro p hpm
    have hpi : p < i := hp.2.2 p hpm i (by simp)
    refine ⟨?_, by omega⟩
    have := List.all_eq_true.1 hok i (by simpa using his)
    simp only [Bool.and_eq_true] at this
    have := List.all_eq_true.1 this.2 p (by simpa using hpi)
    simp only [Bool.or_eq_true] at this
    rcases this with h | h
    ·
     exfalso
     have := aO7 hok hcl i oi hoi hall p h
     exact ((hl p (by omega)).1 this) (by simp [hpm])
    ·
     exact h
   obtain ⟨o, t, h2, h3, h4⟩ := aJq cm I hI hC L1 i L2 s sf a w hr hno hpre hch
   rw [hoi] at h2; cases h2
   have hst := uW (Q := Q) h3 hr (K := wpAny P .any ops Q fuel (listed.setIfInBounds i true)) (fun a' w' hr' => by
    refine ih (L1 ++ L2) (listed.setIfInBounds i true) t sf a' w' (by simp at hL ⊢; omega) ?_ (by simpa using hsz) (fun j hj => ?_) (fun j hj => hlt j (by simp at hj ⊢; rcases hj with h | h <;> simp [h])) ?_ h4 (hI hr hoi h3 hno) hr' hQ
    ·
     refine List.pairwise_append.2 ⟨hp.1, (List.pairwise_cons.1 hp.2.1).2, fun x hx y hy => hp.2.2 x hx y (by simp [hy])⟩
    ·
     have hnd : i ∉ L1 ++ L2 := by
      intro hm
      rcases List.mem_append.1 hm with h | h
      ·
       have := hp.2.2 i h i (by simp); omega
      ·
       have := (List.pairwise_cons.1 hp.2.1).1 i h; omega
     by_cases hji : j = i
     ·
      subst hji
      simp [hsz, his]
      simpa using hnd
     ·
      have e : (listed.setIfInBounds i true).getD j false = listed.getD j false := getD_set_ne false (Ne.symm hji)
      rw [e, hl j hj]
      simp [hji]
    ·
     intro k o hk hkl e he hb
     by_cases hki : k = i
     ·
      subst hki
      rw [hoi] at hk; cases hk
      exact getD_set_true (hall e he hb)
     ·
      rw [getD_set_ne false (Ne.symm hki)] at hkl
      exact getD_set_true (hcl k o hk hkl e he hb))
   unfold wpOp
   simp only [hoi]
   split at hst
   ·
    rename_i hw; simp only [hw, if_true]; exact .inl hst
   ·
    rename_i hw; simp only [hw]; exact hst
end
theorem AWp.regionG {B : Nat → Prop} (cm : Nat → Nat → Bool) (I : St → Prop) (m : Nat) {id : Nat} {l : List Oper} {Q : Exit → St → Prop} {n N : Nat} {f : Nat → AV} {e : Nat → Ent} (hmix : P.follows .mixedOrders = true) (hok : bJm cm l.toArray = true) (hI : HI P l.toArray I) (hC : HC P l.toArray N cm I) (hno : I ⟨n, f, ⟨e, N⟩⟩)
 (h : aW P true l.toArray N 0 l (fun s' => Q .normal ⟨s'.n, s'.f, ⟨s'.H.ent, N + m⟩⟩) ⟨n, f, ⟨e, N⟩⟩) : AWp P B (.region id l.toArray true) Q ⟨n, f, ⟨e, N⟩⟩ := by
 intro C a w _ hr
 refine wp_region_any hmix ?_
 obtain ⟨sf, h1, h2⟩ := yD l 0 _ (fun j => by simp) h
 have hr' : Real C ⟨n, f, ⟨e, N⟩⟩ a { w with drawn := w.drawn + 1 } := by
  obtain ⟨hd, O, hs, hv, ht⟩ := hr
  obtain ⟨h3, h4⟩ := hs.same (w' := { w with drawn := w.drawn + 1 }) rfl rfl rfl rfl
  exact ⟨hd, O, h3, hv.mono h4, ht.trans h4⟩
 refine aX9 cm I hok hI hC l.toArray.size (List.range' 0 l.length) _ _ sf a _ (by simp) List.pairwise_lt_range' (by simp) (fun i hi => ?_) (fun i hi => by simp at hi ⊢; omega) (fun k o hk hkl => ?_) h1 hno hr' (fun a' w' hr'' => ⟨_, hr''.nxt _, h2⟩)
 ·
  simp at hi
  simp [hi]
 ·
  have : (Array.replicate l.toArray.size false).getD k false = false := by
   simp only [Array.getD_eq_getD_getElem?, Array.getElem?_replicate]
   split <;> rfl
  rw [this] at hkl; cases hkl
structure IJ (T0 T1 U : List Nat) (J : Nat) (E : Ent) (s : St) : Prop where
  t0 : ∀ k, k ∈ T0 → ∃ off, s.f k = .adr J off
  t1 : ∀ k, k ∈ T1 → (∃ off, s.f k = .adr J off) ∨ s.f k = .any ∨ s.f k = .v undef
  u : ∀ k, k ∈ U → dH (s.f k) ≠ some J
  e : s.H.ent J = E
theorem bCi {C : Ctx} {s : St} {a : Act} {w : World} (hr : Real C s a w) {x : Operand} {J off : Nat} (hx : aval s.f x = .adr J off) (h : aF4 (aval s.f x)) : False := by
 obtain ⟨hd, O, hs, hv, ht⟩ := hr
 have h3 := h _ _ _ _ (hv.aval x)
 rw [hx] at h3
 generalize a.eval x = v at h3
 exact match h3 with | .adrdead _ _ _ h _ => nomatch h | .adr _ _ _ h => nomatch h
theorem aTo {ops : Array Oper} {id : Nat} {o : Oper} {s s' : St} {t : TypeId} {x y : Operand} {J : Nat} (h : cN P true ops id o s s') (ho : o.op = .store t x y) (hx : dH (aval s.f x) ≠ some J) : s'.H.ent J = s.H.ent J := by
 obtain ⟨hd, h⟩ := h
 split at h
 ·
  subst h; rfl
 ·
  unfold aAg at h
  split at h
  ·
   rename_i f args ats ho'
   rw [ho] at ho'; cases ho'
  ·
   rename_i op hne
   rcases h with ⟨r, h1, rfl⟩ | ⟨r, H', h1, rfl⟩ | ⟨r, h0, h1, rfl⟩
   ·
    rfl
   ·
    rw [ho] at h1
    simp only [dN] at h1
    split at h1
    ·
     rename_i j off cs ha hc
     split at h1
     ·
      split at h1
      ·
       cases h1
       refine upd_ne _ _ _ _ fun q => hx ?_
       rw [ha, q]; rfl
      ·
       cases h1
     ·
      cases h1
    ·
     cases h1
   ·
    rfl
 ·
  exact h.elim
section
variable {T0 T1 U : List Nat} {J : Nat} {E : Ent} {ops : Array Oper}
end
end Go.AM
namespace Go.AM
open Go.RowKit
attribute [local semireducible] aW KN aBu uB AIn AWp cN
variable {P : Program}
def aGj (vs : List (Nat × Nat)) : Operand → Option Nat
  | .tmp k => vs.lookup k
  | _ => none
def bEc (vs : List (Nat × Nat)) (op : Op) : Option Nat := match op with | .load _ x => aGj vs x | .fieldAddr _ x _ => aGj vs x | _ => none
def aMf (vs : List (Nat × Nat)) (op : Op) : Option Nat := match op with | .store _ a _ => aGj vs a | _ => none
def cmV (vs : List (Nat × Nat)) (ops : Array Oper) (p i : Nat) : Bool :=
  aPi [] ops p i || match ops[p]?, ops[i]? with
  | some op, some oi => op.apart ops oi && (match bEc vs op.op, aMf vs oi.op with | some a, some b => a != b | _, _ => false)
  | _, _ => false
def bDy (vs : List (Nat × Nat)) (o : Oper) : Bool := match o.dst with | some d => (vs.lookup d).isNone | none => true
def IV (vs : List (Nat × Nat)) (s : St) : Prop := ∀ k j, vs.lookup k = some j → ∃ off, s.f k = .adr j off
theorem IV.nil {s : St} : IV [] s := fun k j h => by cases h
theorem IV.cons {vs : List (Nat × Nat)} {s : St} {k j off : Nat} (h : s.f k = .adr j off) (h' : IV vs s) : IV ((k, j) :: vs) s := fun k' j' q => by
 rw [List.lookup_cons] at q
 by_cases c : k' = k
 ·
  subst c; simp at q; subst q; exact ⟨off, h⟩
 ·
  have : (k' == k) = false := by simpa using c
  rw [this] at q; exact h' k' j' q
theorem nP {vs : List (Nat × Nat)} {x : Operand} {j : Nat} (h : aGj vs x = some j) : ∃ k, x = .tmp k ∧ vs.lookup k = some j := by
 cases x with
 | tmp k => exact ⟨k, rfl, h⟩
 | _ => cases h
theorem aL0 {ops : Array Oper} {id : Nat} {o : Oper} {s s' : St} (h : cN P true ops id o s s') : ∃ r, s'.f = gJ s.f o.dst r := by
 obtain ⟨hd, h⟩ := h
 split at h
 ·
  subst h; exact ⟨_, rfl⟩
 ·
  unfold aAg at h
  split at h
  ·
   obtain ⟨_, _, _, r, H', _, _, _, _, _, rfl⟩ := h; exact ⟨r, rfl⟩
  ·
   rcases h with ⟨r, _, rfl⟩ | ⟨r, H', _, rfl⟩ | ⟨r, _, _, rfl⟩ <;> exact ⟨r, rfl⟩
 ·
  exact h.elim
section
variable {vs : List (Nat × Nat)} {ops : Array Oper}
theorem IV.step (hk : (ops.all (bDy vs)) = true) : HI P ops (IV vs) := by
 intro C a w i id o s s' hr ho h I k j hkj
 have hko : bDy vs o = true := Array.all_eq_true_iff_forall_mem.1 hk o (Array.mem_of_getElem? ho)
 obtain ⟨r, h1⟩ := aL0 h
 obtain ⟨off, h2⟩ := I k j hkj
 refine ⟨off, ?_⟩
 rw [h1]
 cases hd : o.dst with
 | none => exact h2
 | some d =>
  show aE s.f d r k = _
  unfold aE
  split
  ·
   rename_i q
   subst q
   unfold bDy at hko
   rw [hd] at hko
   simp only [hkj] at hko
   cases hko
  ·
   exact h2
theorem bCr {op : Op} {a : Nat} (h : bEc vs op = some a) : xM op = true := by
 unfold bEc at h
 split at h <;> first | rfl | cases h
theorem aTn {op : Op} {a : Nat} (h : aMf vs op = some a) : aJh op = true := by
 unfold aMf at h
 split at h <;> first | rfl | cases h
theorem IV.comm {base : Nat} : HC P ops base (cmV vs ops) (IV vs) := by
 intro C a w p i op oi s s1 s2 hr I h1 h4 hcm hne h2 h5
 unfold cmV at hcm
 rw [Bool.or_eq_true] at hcm
 rcases hcm with hcm | hcm
 ·
  have hn : ∀ s : St, NoT [] s := fun s k hk => by cases hk
  unfold aPi at hcm
  rw [h1, h4] at hcm
  simp only [Bool.or_eq_true] at hcm
  rcases hcm with hcm | hcm
  ·
   unfold aIg at hcm
   rw [h1, h4] at hcm
   simp only [Bool.and_eq_true, Bool.or_eq_true, decide_eq_true_eq] at hcm
   obtain ⟨hap, (⟨c1, c2⟩ | ⟨c1, c2⟩) | ⟨c1, c2⟩⟩ := hcm
   ·
    exact aMd hr h2 h5 hap c1 c2 (by omega)
   ·
    exact sJ h2 h5 hap c1 c2
   ·
    exact sI h2 h5 hap c1 c2
  ·
   simp only [Bool.and_eq_true, Bool.or_eq_true] at hcm
   obtain ⟨hap, ((⟨c1, c2⟩ | ⟨c1, c2⟩) | ⟨c1, c2⟩) | ⟨c1, c2⟩⟩ := hcm
   ·
    exact aHm h2 h5 hap c1 c2 (hn _)
   ·
    exact aHn h2 h5 hap c1 c2 (hn _)
   ·
    exact aFe h2 h5 hap c1 c2
   ·
    exact aFf h2 h5 hap c1 c2
 ·
  rw [h1, h4] at hcm
  simp only [Bool.and_eq_true] at hcm
  obtain ⟨hap, hc⟩ := hcm
  split at hc
  ·
   rename_i x y c1 c2
   have hxy : x ≠ y := by simpa using hc
   obtain ⟨d1, d2, d3⟩ := Oper.apart_spec hap
   obtain ⟨rp, e1, tp⟩ := aM4 h2 (bCr c1)
   subst e1
   have hent : s2.H.ent x = s.H.ent x := by
    have c2' := c2
    unfold aMf at c2'
    split at c2'
    ·
     rename_i t z y' ho
     obtain ⟨k, rfl, hk⟩ := nP c2'
     obtain ⟨off, hv⟩ := I k y hk
     refine aTo (s := ⟨s.n, gJ s.f op.dst rp, s.H⟩) h5 ho ?_
     have : aval (gJ s.f op.dst rp) (.tmp k) = s.f k := dE d1 k (List.mem_append_left _ (List.mem_filterMap.2 ⟨.tmp k, by rw [ho]; simp [Op.operands], rfl⟩))
     show dH (aval (gJ s.f op.dst rp) (.tmp k)) ≠ some x
     rw [this, hv]
     intro q; cases q; exact hxy rfl
    ·
     cases c2'
   obtain ⟨ri, H', e2, ti⟩ := aEt h5 (aTn c2)
   subst e2
   refine ⟨_, ti s.f (fun t ht => dE d1 t ht), ?_⟩
   have := tp (gJ s.f oi.dst ri) H' (fun t ht => (dE d3 t ht).symm) fun z hz j hj hnd => by
    have hJ : j = x := by
     unfold bEc at c1
     split at c1
     ·
      rename_i t y' ho
      obtain ⟨k, rfl, hk⟩ := nP c1
      rw [ho] at hz
      simp [Op.operands] at hz; subst hz
      obtain ⟨off, hv⟩ := I k x hk
      have e : aval s.f (.tmp k) = s.f k := rfl
      rw [e, hv] at hj; cases hj; rfl
     ·
      rename_i t y' f ho
      obtain ⟨k, rfl, hk⟩ := nP c1
      rw [ho] at hz
      simp [Op.operands] at hz; subst hz
      obtain ⟨off, hv⟩ := I k x hk
      have e : aval s.f (.tmp k) = s.f k := rfl
      rw [e, hv] at hj; cases hj; rfl
     ·
      cases c1
    subst hJ
    exact hent
   rw [← mF s.f op.dst oi.dst rp ri d2] at this
   exact this
  ·
   cases hc
end
theorem AWp.regV {B : Nat → Prop} (vs : List (Nat × Nat)) (m : Nat) {id : Nat} {l : List Oper} {Q : Exit → St → Prop} {n N N' : Nat} {f : Nat → AV} {e : Nat → Ent} (hmix : P.follows .mixedOrders = true) (hok : bJm (cmV vs l.toArray) l.toArray = true) (hk : (l.toArray.all (bDy vs)) = true)
 (h0 : IV vs ⟨n, f, ⟨e, N⟩⟩) (hN : N + m = N') (h : aW P true l.toArray N 0 l (KN Q N') ⟨n, f, ⟨e, N⟩⟩) : AWp P B (.region id l.toArray true) Q ⟨n, f, ⟨e, N⟩⟩ := by
 subst hN
 exact AWp.regionG (cmV vs l.toArray) (IV vs) m hmix hok (IV.step hk) IV.comm h0 h
end Go.AM
