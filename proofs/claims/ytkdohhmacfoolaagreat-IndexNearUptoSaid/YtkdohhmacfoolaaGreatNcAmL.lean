/- Facts that the statement's proof is made of. No condition. -/
import Derived.Test.YtkdohhmacfoolaaGreatNcAmK
set_option linter.unusedSimpArgs false
set_option linter.unusedVariables false
set_option maxRecDepth 4000
namespace Go.AM
open Go.RowKit
attribute [local semireducible] aV KN zL sP AIn AWp bZ
variable {P : Program}
def qY (op : Op) : Bool := match op with | .fieldAddr .. | .load .. | .indexAddr .. | .slice .. | .call { callee := .builtin .len, .. } => true | _ => false
def aEt (op : Op) : Bool := match op with | .call { callee := .builtin .append, .. } => true | _ => false
def bH3 (T : List Nat) (ops : Array Oper) (p i : Nat) : Bool :=
  aG4 T ops p i || match ops[p]?, ops[i]? with
  | some op, some oi => op.apart ops oi && aEt op.op && qY oi.op
  | _, _ => false
theorem aEk {H : aH} {x : AV} {j : Nat} (h : H.alive x = true) (hj : cI x = some j) : H.ent j ≠ .dead := by
 intro hd
 cases x <;> simp [cI] at hj <;> subst hj <;> simp [aH.alive, hd] at h
theorem aSw {d n : Nat} {x : AV} (h : dZ d (some x) = some n) : cI x = none := by
 cases x with
 | v y => rfl
 | _ => simp [dZ] at h
theorem kQ {ρ : Operand → AV} {d n : Nat} {o : Option Operand} {x : Operand} (h : dZ d (o.map ρ) = some n) (hx : x ∈ o) : cI (ρ x) = none := by
 cases hx
 exact aSw h
theorem aV2 {H : aH} {ρ : Operand → AV} {t : TypeId} {a : Operand} {lo hi mx : Option Operand} {r : AV} (h : tL P H t (ρ a) (lo.map ρ) (hi.map ρ) (mx.map ρ) = some r) :
 (∀ j, cI (ρ a) = some j → H.ent j ≠ .dead) ∧ (∀ x, x ∈ lo ∨ x ∈ hi ∨ x ∈ mx → cI (ρ x) = none) := by
 unfold tL at h
 split at h
 ·
  rename_i s hu ha
  split at h
  ·
   rename_i l hh h1 h2 h3
   refine ⟨fun j hj => (by rw [ha] at hj; cases hj), fun x hx => ?_⟩
   rcases hx with q | q | q
   ·
    exact kQ h2 q
   ·
    exact kQ h3 q
   ·
    cases q; cases h1
  ·
   cases h
 ·
  rename_i e hu ha
  split at h
  ·
   rename_i h1 h2 h3 h4
   refine ⟨fun j hj => (by rw [ha] at hj; cases hj), fun x hx => ?_⟩
   rcases hx with q | q | q
   ·
    exact kQ h2 q
   ·
    exact kQ h3 q
   ·
    exact kQ h4 q
  ·
   cases h
 ·
  rename_i e xs len full hu ha
  split at h
  ·
   split at h
   ·
    rename_i l hh m h2 h3 h4
    refine ⟨fun j hj => (by rw [ha] at hj; cases hj), fun x hx => ?_⟩
    rcases hx with q | q | q
    ·
     exact kQ h2 q
    ·
     exact kQ h3 q
    ·
     exact kQ h4 q
   ·
    cases h
  ·
   cases h
 ·
  rename_i e id off len hu ha
  split at h
  ·
   rename_i hent
   split at h
   ·
    rename_i l hh h2 h3 h4
    refine ⟨fun j hj hd => ?_, fun x hx => ?_⟩
    ·
     rw [ha] at hj; cases hj
     rw [hd] at hent; cases hent
    ·
     rcases hx with q | q | q
     ·
      exact kQ h2 q
     ·
      exact kQ h3 q
     ·
      cases q; cases h4
   ·
    cases h
  ·
   cases h
 ·
  cases h
theorem aYj {H : aH} {ρ : Operand → AV} {op : Op} {r : AV} (hs : qY op = true) (h : bD P H ρ op = some r) : ∀ x, x ∈ op.operands → ∀ j, cI (ρ x) = some j → H.ent j ≠ .dead := by
 intro x hx j hj
 cases op with
 | fieldAddr t a f =>
  simp only [bD] at h
  split at h
  ·
   rename_i ha
   simp [Op.operands] at hx; subst hx
   exact aEk ha hj
  ·
   cases h
 | load t a =>
  simp only [bD] at h
  simp [Op.operands] at hx; subst hx
  intro hd
  cases hv : ρ x <;> rw [hv] at h hj <;> simp [cI] at hj <;> subst hj <;> simp [bP, hd] at h
 | indexAddr t a i =>
  simp only [bD] at h
  split at h
  ·
   rename_i ha
   simp [Op.operands] at hx
   rcases hx with rfl | rfl
   ·
    exact aEk ha hj
   ·
    exfalso
    unfold gW at h
    split at h <;> first | (cases h; done) | (rename_i hq; rw [hq] at hj; cases hj)
  ·
   cases h
 | slice t a lo hi mx =>
  simp only [bD] at h
  obtain ⟨h1, h2⟩ := aV2 h
  simp [Op.operands] at hx
  rcases hx with rfl | hx | hx | hx
  ·
   exact h1 j hj
  ·
   rw [h2 x (.inl hx)] at hj; cases hj
  ·
   rw [h2 x (.inr (.inl hx))] at hj; cases hj
  ·
   rw [h2 x (.inr (.inr hx))] at hj; cases hj
 | call c =>
  obtain ⟨callee, args, ats⟩ := c
  cases callee with
  | builtin b =>
   cases b <;> first | (simp [qY] at hs; done) | skip
   simp only [bD] at h
   split at h
   ·
    rename_i ha
    rw [List.all_eq_true] at ha
    refine aEk (ha _ (List.mem_map.2 ⟨x, ?_, rfl⟩)) hj
    simpa [Op.operands, Call.operands] using hx
   ·
    cases h
  | _ => simp [qY] at hs
 | _ => simp [qY] at hs
theorem aCw {ops : Array Oper} {id : Nat} {o : Oper} {s s' : St} (h : bZ P true ops id o s s') (hs : qY o.op = true) :
 ∃ r, s' = ⟨s.n, fG s.f o.dst r, s.H⟩ ∧ ∀ (f' : Nat → AV) (G : aH), (∀ t, t ∈ o.looksAt ops → s.f t = f' t) → (∀ x, x ∈ o.op.operands → ∀ j, cI (aval s.f x) = some j → s.H.ent j ≠ .dead → G.ent j = s.H.ent j) → bZ P true ops id o ⟨s.n, f', G⟩ ⟨s.n, fG f' o.dst r, G⟩ := by
 obtain ⟨hd, h⟩ := h
 split at h
 ·
  rename_i hg
  subst h
  refine ⟨.v undef, rfl, fun f' G hf _ => ⟨hd, ?_⟩⟩
  have := dX (ops := ops) hf
  rw [hg] at this
  simp only [← this]
 ·
  rename_i hg
  unfold uG at h
  split at h
  ·
   rename_i f args ats ho
   rw [ho] at hs; cases hs
  ·
   rename_i op hne
   rcases h with ⟨r, h1, rfl⟩ | ⟨r, H', h1, rfl⟩ | ⟨r, h0, h1, rfl⟩
   ·
    refine ⟨r, rfl, fun f' G hf hG => ⟨hd, ?_⟩⟩
    have e := dX (ops := ops) hf
    rw [hg] at e
    simp only [← e]
    refine rD (s := ⟨s.n, f', G⟩) ?_
    rw [← h1]
    exact (sI (gX hf) fun x hx j hj => (hG x hx j hj (aYj hs h1 x hx j hj)).symm).symm
   ·
    exfalso
    cases ho : o.op <;> rw [ho] at h1 hs <;> first | (simp [qY] at hs; done) | (simp [cQ] at h1; done) | skip
    rename_i c
    obtain ⟨callee, args, ats⟩ := c
    cases callee with
    | builtin b => cases b <;> first | (simp [qY] at hs; done) | (simp [cQ] at h1; done)
    | _ => simp [qY] at hs
   ·
    refine ⟨r, rfl, fun f' G hf hG => ⟨hd, ?_⟩⟩
    have e := dX (ops := ops) hf
    rw [hg] at e
    simp only [← e]
    have hop := gX hf
    refine sL (s := ⟨s.n, f', G⟩) (fun x hx => by rw [← hop x hx]; exact h0 x hx) (fun o' w X ρ h2 h3 h4 => h1 o' w X ρ h2 h3 (fun x hx => by rw [hop x hx]; exact h4 x hx)) ?_
    unfold mF
    split
    ·
     rename_i f args ats ho
     exact absurd ho (by intro ho; exact hne _ _ _ ho)
    ·
     rfl
 ·
  exact h.elim
theorem aI7 {H H' : aH} {id : Nat} {ts tx : TypeId} {s x r : AV} (h : qP P H id ts tx s x = some (r, H')) (j : Nat) : H'.ent j = H.ent j ∨ H'.ent j = .dead ∨ (j = id ∧ H.isFresh id = true) := by
 by_cases hj : j = id
 ·
  subst hj
  refine .inr (.inr ⟨rfl, ?_⟩)
  unfold qP at h
  split at h
  ·
   split at h
   ·
    split at h
    ·
     split at h
     ·
      rename_i q; exact q.1
     ·
      cases h
    ·
     cases h
   ·
    split at h
    ·
     split at h
     ·
      split at h
      ·
       rename_i q; exact q.1
      ·
       cases h
     ·
      cases h
    ·
     cases h
  ·
   cases h
 ·
  unfold qP at h
  split at h
  ·
   split at h
   ·
    split at h
    ·
     split at h
     ·
      cases h; exact .inl (upd_ne _ _ _ _ hj)
     ·
      cases h
    ·
     cases h
   ·
    split at h
    ·
     split at h
     ·
      split at h
      ·
       cases h
       rename_i oid _ _ _ _ _
       have e : ∀ (G : aH) (e : Ent), (G.put id e).ent j = G.ent j := fun G e => upd_ne _ _ _ _ hj
       rw [e]
       split
       ·
        rename_i k _ _
        by_cases hk : j = k
        ·
         subst hk; exact .inr (.inl (by simp [aH.put, upd]))
        ·
         exact .inl (upd_ne _ _ _ _ hk)
       ·
        exact .inl rfl
      ·
       cases h
     ·
      cases h
    ·
     cases h
  ·
   cases h
theorem bEr {ops : Array Oper} {id : Nat} {o : Oper} {s s' : St} (h : bZ P true ops id o s s') (hs : aEt o.op = true) (j : Nat) : s'.H.ent j = s.H.ent j ∨ s'.H.ent j = .dead ∨ (j = id ∧ s.H.isFresh id = true) := by
 obtain ⟨hd, h⟩ := h
 split at h
 ·
  subst h; exact .inl rfl
 ·
  unfold uG at h
  split at h
  ·
   rename_i f args ats ho
   rw [ho] at hs; cases hs
  ·
   rename_i op hne
   rcases h with ⟨r, h1, rfl⟩ | ⟨r, H', h1, rfl⟩ | ⟨r, h0, h1, rfl⟩
   ·
    exact .inl rfl
   ·
    cases ho : o.op <;> rw [ho] at h1 hs <;> first | (simp [aEt] at hs; done) | skip
    rename_i c
    obtain ⟨callee, args, ats⟩ := c
    cases callee with
    | builtin b =>
     cases b <;> first | (simp [aEt] at hs; done) | skip
     simp only [cQ] at h1
     split at h1
     ·
      exact aI7 h1 j
     ·
      cases h1
    | _ => simp [aEt] at hs
   ·
    exact .inl rfl
 ·
  exact h.elim
theorem bCz {op : Op} (h : aEt op = true) : aD3 op = true := by
 unfold aEt at h
 split at h
 ·
  rfl
 ·
  cases h
theorem aLx {C : Ctx} {ops : Array Oper} {ip ii : Nat} {p i : Oper} {s s1 s2 : St} {a : Act} {w : World} (hr : Real C s a w) (hp : bZ P true ops ip p s s1) (hi : bZ P true ops ii i s1 s2)
 (hap : p.apart ops i = true) (hcp : aEt p.op = true) (hci : qY i.op = true) : ∃ t, bZ P true ops ii i s t ∧ bZ P true ops ip p t s2 := by
 obtain ⟨d1, d2, d3⟩ := Oper.apart_spec hap
 have hE := bEr hp hcp
 obtain ⟨rp, H', e1, tp⟩ := wW hp (bCz hcp)
 subst e1
 obtain ⟨ri, e2, ti⟩ := aCw hi hci
 subst e2
 have hopi : ∀ x, x ∈ i.op.operands → aval (fG s.f p.dst rp) x = aval s.f x := by
  intro x hx
  cases x with
  | tmp t => exact cH d1 t (List.mem_append_left _ (List.mem_filterMap.2 ⟨.tmp t, by simpa using hx, rfl⟩))
  | _ => rfl
 refine ⟨_, ti s.f s.H (fun t ht => cH d1 t ht) (fun x hx j hj hnd => ?_), ?_⟩
 ·
  simp only [] at hj hnd
  rw [hopi x hx] at hj
  have hnf := hr.notFresh hj
  rcases hE j with q | q | ⟨rfl, q⟩
  ·
   exact q.symm
  ·
   exact absurd q hnd
  ·
   exact absurd (aH.isFresh_eq q) hnf
 ·
  have := tp (fG s.f i.dst ri) (fun t ht => (cH d3 t ht).symm)
  rw [← jI s.f p.dst i.dst rp ri d2] at this
  exact this
section
variable {ops : Array Oper}
end
end Go.AM
