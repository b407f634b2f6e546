/- Facts that the statement's proof is made of. No condition. -/
import Derived.Test.YtibnmlbjahcjmaaVdAmL
set_option linter.unusedSimpArgs false
set_option linter.unusedVariables false
set_option maxRecDepth 4000
namespace Go.AM
open Go.RowKit
attribute [local semireducible] ARun KN ASeq AThen AIn AWp AStep
variable {P : Program}
abbrev HI (P : Program) (ops : Array Oper) (I : St → Prop) : Prop := ∀ {C : Ctx} {a : Act} {w : World} {i id : Nat} {o : Oper} {s s' : St}, Real C s a w → ops[i]? = some o → AStep P true ops id o s s' → I s → I s'
section
variable {ops : Array Oper}
end
def tmpIn (T : List Nat) : Operand → Bool
  | .tmp k => T.contains k
  | _ => false
def keepJ (T0 T1 U : List Nat) (o : Oper) : Bool :=
  (match o.op with | .store _ a _ => tmpIn U a | .fieldAddr .. | .load .. | .move _ | .indexAddr .. | .binOp .. => true | _ => false) &&
  (match o.dst with
  | some d => !T0.contains d && (!T1.contains d || (match o.op with | .fieldAddr _ x _ => tmpIn T0 x | _ => false)) && (!U.contains d || (match o.op with | .load _ x => tmpIn T1 x | .fieldAddr _ x _ => tmpIn U x | .indexAddr _ x _ => tmpIn U x | _ => false))
  | none => true)
structure IJ (T0 T1 U : List Nat) (J : Nat) (E : Ent) (s : St) : Prop where
  t0 : ∀ k, k ∈ T0 → ∃ off, s.f k = .adr J off
  t1 : ∀ k, k ∈ T1 → (∃ off, s.f k = .adr J off) ∨ s.f k = .any ∨ s.f k = .v undef
  u : ∀ k, k ∈ U → topId (s.f k) ≠ some J
  e : s.H.ent J = E
theorem tmpIn_at {T : List Nat} {x : Operand} (h : tmpIn T x = true) : ∃ k, k ∈ T ∧ x = .tmp k := by
  cases x with
  | tmp k => exact ⟨k, by simpa [tmpIn] using h, rfl⟩
  | _ => cases h
theorem no_own_adr {C : Ctx} {s : St} {a : Act} {w : World} (hr : Real C s a w) {x : Operand} {J off : Nat} (hx : aval s.f x = .adr J off) (h : NoOwn (aval s.f x)) : False := by
  obtain ⟨hd, O, hs, hv, ht⟩ := hr
  have h3 := h _ _ _ _ (hv.aval x)
  rw [hx] at h3
  generalize a.eval x = v at h3
  exact match h3 with | .adrdead _ _ _ h _ => nomatch h | .adr _ _ _ h => nomatch h
theorem acells_top {t : TypeId} {xs : List AV} {r : AV} {J : Nat} (h : acellsAt P t xs = some r) (hx : ∀ x, x ∈ xs → topId x ≠ some J) : topId r ≠ some J := by
  unfold acellsAt at h
  repeat' split at h
  all_goals first
    | (cases h; done)
    | (cases h; intro q; cases q)
    | (exact hx r (List.mem_of_getElem? h))
    | (exact hx r (List.mem_of_mem_head? h))
    | (cases h; exact hx _ (by simp))
theorem store_ent {ops : Array Oper} {id : Nat} {o : Oper} {s s' : St} {t : TypeId} {x y : Operand} {J : Nat} (h : AStep P true ops id o s s') (ho : o.op = .store t x y) (hx : topId (aval s.f x) ≠ some J) : s'.H.ent J = s.H.ent J := by
  obtain ⟨hd, h⟩ := h
  split at h
  · subst h; rfl
  · unfold Exec at h
    split at h
    · rename_i f args ats ho'
      rw [ho] at ho'; cases ho'
    · rename_i op hne
      rcases h with ⟨r, h1, rfl⟩ | ⟨r, H', h1, rfl⟩ | ⟨r, h0, h1, rfl⟩
      · rfl
      · rw [ho] at h1
        simp only [aheap] at h1
        split at h1
        · rename_i j off cs ha hc
          split at h1
          · split at h1
            · cases h1
              refine upd_ne _ _ _ _ fun q => hx ?_
              rw [ha, q]; rfl
            · cases h1
          · cases h1
        · cases h1
      · rfl
  · exact h.elim
section
variable {T0 T1 U : List Nat} {J : Nat} {E : Ent} {ops : Array Oper}
theorem IJ.step (hk : (ops.all (keepJ T0 T1 U)) = true) (hE : ∀ sz xs lock, E = .cells sz xs lock → ∀ x, x ∈ xs → topId x ≠ some J) : HI P ops (IJ T0 T1 U J E) := by
  intro C a w i id o s s' hr ho h I
  have hko : keepJ T0 T1 U o = true := Array.all_eq_true_iff_forall_mem.1 hk o (Array.mem_of_getElem? ho)
  unfold keepJ at hko
  rw [Bool.and_eq_true] at hko
  obtain ⟨hk1, hk2⟩ := hko
  have hent : s'.H.ent J = E := by
    rw [← I.e]
    by_cases hs : ∃ t x y, o.op = .store t x y
    · obtain ⟨t, x, y, ho'⟩ := hs
      rw [ho'] at hk1
      obtain ⟨k, hk, rfl⟩ := tmpIn_at hk1
      exact store_ent h ho' (I.u k hk)
    · obtain ⟨hd, h⟩ := h
      split at h
      · subst h; rfl
      · unfold Exec at h
        split at h
        · rename_i f args ats ho'
          rw [ho'] at hk1; cases hk1
        · rcases h with ⟨r, h1, rfl⟩ | ⟨r, H', h1, rfl⟩ | ⟨r, h0, h1, rfl⟩
          · rfl
          · exfalso
            cases hop : o.op <;> rw [hop] at hk1 h1 <;> first | (cases hk1; done) | (simp [aheap] at h1; done) | exact hs ⟨_, _, _, hop⟩
          · rfl
      · exact h.elim
  have hput : ∃ r, s'.f = aput s.f o.dst r ∧ (∀ d, o.dst = some d → d ∈ T1 → (∃ off, r = .adr J off) ∨ r = .any ∨ r = .v undef) ∧ (∀ d, o.dst = some d → d ∈ U → topId r ≠ some J) := by
    obtain ⟨hd, h⟩ := h
    split at h
    · subst h; exact ⟨_, rfl, fun _ _ _ => .inr (.inr rfl), fun _ _ _ q => by cases q⟩
    · unfold Exec at h
      split at h
      · rename_i f args ats ho'
        rw [ho'] at hk1; cases hk1
      · rcases h with ⟨r, h1, rfl⟩ | ⟨r, H', h1, rfl⟩ | ⟨r, h0, h1, rfl⟩
        · refine ⟨r, rfl, fun d hd hT => ?_, fun d hd hU => ?_⟩
          · simp only [hd] at hk2
            have : T1.contains d = true := by simpa using hT
            rw [this] at hk2
            simp only [Bool.not_true, Bool.false_or, Bool.and_eq_true] at hk2
            have hk3 := hk2.1.2
            split at hk3
            · rename_i t x f ho'
              obtain ⟨k, hk, rfl⟩ := tmpIn_at hk3
              obtain ⟨off, hv⟩ := I.t0 k hk
              rw [ho'] at h1
              simp only [apure] at h1
              split at h1
              · have e : aval s.f (.tmp k) = .adr J off := hv
                rw [e] at h1
                unfold afieldAddr at h1
                repeat' split at h1
                all_goals first | (cases h1; done) | (rename_i hq; cases hq; done) | (cases h1; rename_i hq; injection hq with hq _; exact .inl ⟨_, by rw [hq]⟩) | (cases h1; exact .inl ⟨_, rfl⟩)
              · cases h1
            · cases hk3
          · simp only [hd] at hk2
            have : U.contains d = true := by simpa using hU
            rw [this] at hk2
            simp only [Bool.not_true, Bool.false_or, Bool.and_eq_true] at hk2
            have hk3 := hk2.2
            split at hk3
            · rename_i t x ho'
              obtain ⟨k, hk, rfl⟩ := tmpIn_at hk3
              rw [ho'] at h1
              simp only [apure] at h1
              have e : aval s.f (.tmp k) = s.f k := rfl
              rw [e] at h1
              rcases I.t1 k hk with ⟨off, q⟩ | q | q
              · rw [q] at h1
                simp only [aload] at h1
                rw [I.e] at h1
                split at h1
                · exact acells_top h1 fun x hx => hE _ _ _ rfl x (List.mem_of_mem_drop hx)
                · cases h1
              · rw [q] at h1; cases h1
              · rw [q] at h1; cases h1
            · rename_i t x f ho'
              obtain ⟨k, hk, rfl⟩ := tmpIn_at hk3
              have hu := I.u k hk
              rw [ho'] at h1
              simp only [apure] at h1
              split at h1
              · have e : aval s.f (.tmp k) = s.f k := rfl
                rw [e] at h1
                unfold afieldAddr at h1
                repeat' split at h1
                all_goals first | (cases h1; done) | (cases h1; intro q; cases q; done) | (cases h1; rename_i hq; rw [hq] at hu; exact hu)
              · cases h1
            · rename_i t x y ho'
              obtain ⟨k, hk, rfl⟩ := tmpIn_at hk3
              have hu := I.u k hk
              rw [ho'] at h1
              simp only [apure] at h1
              split at h1
              · have e : aval s.f (.tmp k) = s.f k := rfl
                rw [e] at h1
                unfold aindexAddr at h1
                repeat' split at h1
                all_goals first | (cases h1; done) | (cases h1; intro q; cases q; done) | (cases h1; simp_all [topId])
              · cases h1
            · cases hk3
        · refine ⟨r, rfl, fun d hd hT => ?_, fun d hd hU => ?_⟩ <;> exfalso
          · simp only [hd] at hk2
            have : T1.contains d = true := by simpa using hT
            rw [this] at hk2
            simp only [Bool.not_true, Bool.false_or, Bool.and_eq_true] at hk2
            have hk3 := hk2.1.2
            split at hk3
            · rename_i ho'; rw [ho'] at h1; simp [aheap] at h1
            · cases hk3
          · simp only [hd] at hk2
            have : U.contains d = true := by simpa using hU
            rw [this] at hk2
            simp only [Bool.not_true, Bool.false_or, Bool.and_eq_true] at hk2
            have hk3 := hk2.2
            split at hk3 <;> first | (rename_i ho'; rw [ho'] at h1; simp [aheap] at h1; done) | cases hk3
        · refine ⟨r, rfl, fun d hd hT => ?_, fun d hd hU => ?_⟩
          · exfalso
            simp only [hd] at hk2
            have : T1.contains d = true := by simpa using hT
            rw [this] at hk2
            simp only [Bool.not_true, Bool.false_or, Bool.and_eq_true] at hk2
            have hk3 := hk2.1.2
            split at hk3
            · rename_i t x f ho'
              obtain ⟨k, hk, rfl⟩ := tmpIn_at hk3
              obtain ⟨off, hv⟩ := I.t0 k hk
              exact no_own_adr hr (x := .tmp k) hv (h0 _ (by rw [ho']; simp [Op.operands]))
            · cases hk3
          · rw [pop_noid hr h0 h1]; intro q; cases q
    · exact h.elim
  obtain ⟨r, h1, h2, h3⟩ := hput
  refine ⟨fun k hkT => ?_, fun k hkT => ?_, fun k hkU => ?_, hent⟩
  · rw [h1]
    cases hd : o.dst with
    | none => exact I.t0 k hkT
    | some d =>
      have hne : d ≠ k := fun q => by
        subst q
        simp only [hd, Bool.and_eq_true, Bool.not_eq_true'] at hk2
        have : T0.contains d = true := by simpa using hkT
        rw [hk2.1.1] at this; cases this
      show ∃ off, fset s.f d r k = .adr J off
      unfold fset
      split
      · rename_i q; exact absurd q.symm hne
      · exact I.t0 k hkT
  · rw [h1]
    cases hd : o.dst with
    | none => exact I.t1 k hkT
    | some d =>
      show (∃ off, fset s.f d r k = .adr J off) ∨ fset s.f d r k = .any ∨ fset s.f d r k = .v undef
      unfold fset
      split
      · rename_i q; subst q; exact h2 _ hd hkT
      · exact I.t1 k hkT
  · rw [h1]
    cases hd : o.dst with
    | none => exact I.u k hkU
    | some d =>
      show topId (fset s.f d r k) ≠ some J
      unfold fset
      split
      · rename_i q; subst q; exact h3 _ hd hkU
      · exact I.u k hkU
end
end Go.AM
