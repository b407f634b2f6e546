/- Facts that the statement's proof is made of. No condition. -/
import Derived.Test.YtibnmlbjahcjmaaQyAmG
set_option linter.unusedSimpArgs false
set_option linter.unusedVariables false
set_option maxRecDepth 4000
namespace Go.AM
open Go.RowKit
attribute [local semireducible] ARun KN ASeq AThen AIn AWp AStep
variable {P : Program}
def opndT (T : List Nat) : Operand → Bool
  | .tmp k => T.contains k
  | _ => true
def quietT (T : List Nat) (op : Op) : Bool := (match op with | .move _ | .fieldAddr .. | .load .. | .indexAddr .. => true | _ => false) && op.operands.all (opndT T)
def wrOp (op : Op) : Bool := match op with | .store .. | .call { callee := .builtin .append, .. } => true | _ => false
def commT (T : List Nat) (ops : Array Oper) (p i : Nat) : Bool :=
  match ops[p]?, ops[i]? with
  | some op, some oi => commOK ops p i || (op.apart ops oi && ((quietT T op.op && wrOp oi.op) || (wrOp op.op && quietT T oi.op) || (silentOp op.op && wrOp oi.op) || (wrOp op.op && silentOp oi.op)))
  | _, _ => false
def NoT (T : List Nat) (s : St) : Prop := ∀ k, k ∈ T → topId (s.f k) = none
theorem topId_const {f : Nat → AV} {x : Operand} (h : ∀ t, x ≠ .tmp t) : topId (aval f x) = none := by
  cases x with
  | tmp t => exact absurd rfl (h t)
  | const c =>
    show topId (constAV c) = none
    unfold constAV; split <;> rfl
  | _ => rfl
theorem NoT.at {T : List Nat} {s : St} (h : NoT T s) {x : Operand} (hq : opndT T x = true) : topId (aval s.f x) = none := by
  cases x with
  | tmp k => exact h k (by simpa [opndT] using hq)
  | _ => exact topId_const (by intro t; simp)
theorem quiet_form {T : List Nat} {ops : Array Oper} {id : Nat} {o : Oper} {s s' : St} (h : AStep P true ops id o s s') (hs : quietT T o.op = true) (hn : ∀ x, x ∈ o.op.operands → topId (aval s.f x) = none) :
    ∃ r, s' = ⟨s.n, aput s.f o.dst r, s.H⟩ ∧ ∀ (f' : Nat → AV) (G : Heap), (∀ t, t ∈ o.looksAt ops → s.f t = f' t) → AStep P true ops id o ⟨s.n, f', G⟩ ⟨s.n, aput f' o.dst r, G⟩ := by
  obtain ⟨hd, h⟩ := h
  split at h
  · rename_i hg
    subst h
    refine ⟨.v undef, rfl, fun f' G hf => ⟨hd, ?_⟩⟩
    have := gstat_congr (ops := ops) hf
    rw [hg] at this
    simp only [← this]
  · rename_i hg
    have hs0 := hs
    unfold quietT at hs
    rw [Bool.and_eq_true] at hs
    have hs1 := hs.1
    unfold Exec at h
    split at h
    · rename_i f args ats ho
      rw [ho] at hs1; cases hs1
    · rename_i op hne
      rcases h with ⟨r, h1, rfl⟩ | ⟨r, H', h1, rfl⟩ | ⟨r, h0, h1, rfl⟩
      · refine ⟨r, rfl, fun f' G hf => ⟨hd, ?_⟩⟩
        have e := gstat_congr (ops := ops) hf
        rw [hg] at e
        simp only [← e]
        refine exec_pure (s := ⟨s.n, f', G⟩) ?_
        rw [← h1]
        exact (apure_congr (opnd_congr hf) fun x hx j hj => by rw [hn x hx] at hj; cases hj).symm
      · exfalso
        cases ho : o.op <;> rw [ho] at h1 hs1 <;> first | (simp at hs1; done) | (simp [aheap] at h1; done)
      · refine ⟨r, rfl, fun f' G hf => ⟨hd, ?_⟩⟩
        have e := gstat_congr (ops := ops) hf
        rw [hg] at e
        simp only [← e]
        have hop := opnd_congr hf
        refine exec_pop (s := ⟨s.n, f', G⟩) (fun x hx => by rw [← hop x hx]; exact h0 x hx) (fun o' w X ρ h2 h3 h4 => h1 o' w X ρ h2 h3 (fun x hx => by rw [hop x hx]; exact h4 x hx)) ?_
        unfold clsOfCall
        split
        · rename_i f args ats ho
          exact absurd ho (by intro ho; exact hne _ _ _ ho)
        · rfl
  · exact h.elim
theorem wr_form {ops : Array Oper} {id : Nat} {o : Oper} {s s' : St} (h : AStep P true ops id o s s') (hs : wrOp o.op = true) :
    ∃ r H', s' = ⟨s.n, aput s.f o.dst r, H'⟩ ∧ ∀ (f' : Nat → AV), (∀ t, t ∈ o.looksAt ops → s.f t = f' t) → AStep P true ops id o ⟨s.n, f', s.H⟩ ⟨s.n, aput f' o.dst r, H'⟩ := by
  obtain ⟨hd, h⟩ := h
  split at h
  · rename_i hg
    subst h
    refine ⟨.v undef, _, rfl, fun f' hf => ⟨hd, ?_⟩⟩
    have := gstat_congr (ops := ops) hf
    rw [hg] at this
    simp only [← this]
  · rename_i hg
    unfold Exec at h
    split at h
    · rename_i f args ats ho
      rw [ho] at hs; cases hs
    · rename_i op hne
      rcases h with ⟨r, h1, rfl⟩ | ⟨r, H', h1, rfl⟩ | ⟨r, h0, h1, rfl⟩
      · refine ⟨r, _, rfl, fun f' hf => ⟨hd, ?_⟩⟩
        have e := gstat_congr (ops := ops) hf
        rw [hg] at e
        simp only [← e]
        refine exec_pure (s := ⟨s.n, f', s.H⟩) ?_
        rw [← h1]
        exact (apure_congr (opnd_congr hf) fun x hx j hj => rfl).symm
      · refine ⟨r, H', rfl, fun f' hf => ⟨hd, ?_⟩⟩
        have e := gstat_congr (ops := ops) hf
        rw [hg] at e
        simp only [← e]
        refine exec_heap (s := ⟨s.n, f', s.H⟩) ?_
        rw [← h1]
        have hop := opnd_congr hf
        cases ho : o.op <;> rw [ho] at hs hop <;> first | (simp [wrOp] at hs; done) | skip
        · rename_i t a x
          simp only [aheap]
          rw [hop a (by simp [Op.operands]), hop x (by simp [Op.operands])]
        · rename_i c
          obtain ⟨callee, args, ats⟩ := c
          cases callee with
          | builtin b =>
            cases b <;> first | (simp [wrOp] at hs; done) | skip
            simp only [aheap]
            have hm : ∀ x, x ∈ args.toList → aval s.f x = aval f' x := fun x hx => hop x (by simp [Op.operands, Call.operands]; simpa using hx)
            split
            · rename_i s1 x1 ts tx ha ht
              rw [ha] at hm
              rw [hm s1 (by simp), hm x1 (by simp)]
            · rfl
          | _ => simp [wrOp] at hs
      · refine ⟨r, _, rfl, fun f' hf => ⟨hd, ?_⟩⟩
        have e := gstat_congr (ops := ops) hf
        rw [hg] at e
        simp only [← e]
        have hop := opnd_congr hf
        refine exec_pop (s := ⟨s.n, f', s.H⟩) (fun x hx => by rw [← hop x hx]; exact h0 x hx) (fun o' w X ρ h2 h3 h4 => h1 o' w X ρ h2 h3 (fun x hx => by rw [hop x hx]; exact h4 x hx)) ?_
        unfold clsOfCall
        split
        · rename_i f args ats ho
          exact absurd ho (by intro ho; exact hne _ _ _ ho)
        · rfl
  · exact h.elim
theorem comm_wr_quiet {T : List Nat} {ops : Array Oper} {ip ii : Nat} {p i : Oper} {s s1 s2 : St} (hp : AStep P true ops ip p s s1) (hi : AStep P true ops ii i s1 s2)
    (hap : p.apart ops i = true) (hcp : wrOp p.op = true) (hci : quietT T i.op = true) (hn : NoT T s1) : ∃ t, AStep P true ops ii i s t ∧ AStep P true ops ip p t s2 := by
  obtain ⟨d1, d2, d3⟩ := Oper.apart_spec hap
  obtain ⟨rp, H', e1, tp⟩ := wr_form hp hcp
  subst e1
  have hq := hci
  unfold quietT at hq
  rw [Bool.and_eq_true] at hq
  obtain ⟨ri, e2, ti⟩ := quiet_form hi hci fun x hx => hn.at (Array.all_eq_true_iff_forall_mem.1 hq.2 x hx)
  subst e2
  refine ⟨_, ti s.f s.H (fun t ht => aput_looks d1 t ht), ?_⟩
  have := tp (aput s.f i.dst ri) (fun t ht => (aput_looks d3 t ht).symm)
  rw [← fset_comm s.f p.dst i.dst rp ri d2] at this
  exact this
theorem comm_quiet_wr {T : List Nat} {ops : Array Oper} {ip ii : Nat} {p i : Oper} {s s1 s2 : St} (hp : AStep P true ops ip p s s1) (hi : AStep P true ops ii i s1 s2)
    (hap : p.apart ops i = true) (hcp : quietT T p.op = true) (hci : wrOp i.op = true) (hn : NoT T s) : ∃ t, AStep P true ops ii i s t ∧ AStep P true ops ip p t s2 := by
  obtain ⟨d1, d2, d3⟩ := Oper.apart_spec hap
  have hq := hcp
  unfold quietT at hq
  rw [Bool.and_eq_true] at hq
  obtain ⟨rp, e1, tp⟩ := quiet_form hp hcp fun x hx => hn.at (Array.all_eq_true_iff_forall_mem.1 hq.2 x hx)
  subst e1
  obtain ⟨ri, H', e2, ti⟩ := wr_form hi hci
  subst e2
  refine ⟨_, ti s.f (fun t ht => aput_looks d1 t ht), ?_⟩
  have := tp (aput s.f i.dst ri) H' (fun t ht => (aput_looks d3 t ht).symm)
  rw [← fset_comm s.f p.dst i.dst rp ri d2] at this
  exact this
theorem comm_wr_silent {ops : Array Oper} {ip ii : Nat} {p i : Oper} {s s1 s2 : St} (hp : AStep P true ops ip p s s1) (hi : AStep P true ops ii i s1 s2)
    (hap : p.apart ops i = true) (hcp : wrOp p.op = true) (hci : silentOp i.op = true) : ∃ t, AStep P true ops ii i s t ∧ AStep P true ops ip p t s2 := by
  obtain ⟨d1, d2, d3⟩ := Oper.apart_spec hap
  obtain ⟨rp, H', e1, tp⟩ := wr_form hp hcp
  subst e1
  obtain ⟨ri, e2, ti⟩ := silent_form hi hci
  subst e2
  refine ⟨_, ti s.f s.H (fun t ht => aput_looks d1 t ht), ?_⟩
  have := tp (aput s.f i.dst ri) (fun t ht => (aput_looks d3 t ht).symm)
  rw [← fset_comm s.f p.dst i.dst rp ri d2] at this
  exact this
theorem comm_silent_wr {ops : Array Oper} {ip ii : Nat} {p i : Oper} {s s1 s2 : St} (hp : AStep P true ops ip p s s1) (hi : AStep P true ops ii i s1 s2)
    (hap : p.apart ops i = true) (hcp : silentOp p.op = true) (hci : wrOp i.op = true) : ∃ t, AStep P true ops ii i s t ∧ AStep P true ops ip p t s2 := by
  obtain ⟨d1, d2, d3⟩ := Oper.apart_spec hap
  obtain ⟨rp, e1, tp⟩ := silent_form hp hcp
  subst e1
  obtain ⟨ri, H', e2, ti⟩ := wr_form hi hci
  subst e2
  refine ⟨_, ti s.f (fun t ht => aput_looks d1 t ht), ?_⟩
  have := tp (aput s.f i.dst ri) H' (fun t ht => (aput_looks d3 t ht).symm)
  rw [← fset_comm s.f p.dst i.dst rp ri d2] at this
  exact this
theorem pop_noid {C : Ctx} {s : St} {a : Act} {w : World} (hr : Real C s a w) {o : Oper} {r : AV} (h0 : ∀ x, x ∈ o.op.operands → NoOwn (aval s.f x)) (h1 : POp P o.op (aval s.f) r) : topId r = none := by
  obtain ⟨hd, O, hs, hv, ht⟩ := hr
  obtain ⟨v, w', _, h3, _⟩ := h1 o w (Mut C.X s.H O) (fun x => a.eval x) rfl (fun b i hm => by
    rcases hm with hm | ⟨id, o, ho, hb, _⟩
    · have := hs.xlt _ _ hm; have := hs.below.size; omega
    · rw [← hb]; exact (hs.live_lt ho).2) (fun x hx => h0 x hx _ _ _ _ (hv.aval x))
  cases r with
  | own id off len => exact match h3 with | .owndead _ _ _ _ h _ => nomatch h | .own _ _ _ _ _ h _ _ => nomatch h | .ownvirt _ _ _ h => nomatch h | .ownz _ _ _ _ h => nomatch h
  | adr id off => exact match h3 with | .adrdead _ _ _ h _ => nomatch h | .adr _ _ _ h => nomatch h
  | _ => rfl
section
variable {ops : Array Oper}
end
end Go.AM
