/- Facts that the statement's proof is made of. No condition. -/
import Derived.Test.YtkdohhmacfoolaaGreatNaAmG
set_option linter.unusedSimpArgs false
set_option linter.unusedVariables false
set_option maxRecDepth 4000
namespace Go.AM
open Go.RowKit
attribute [local semireducible] ARun KN ASeq AThen AIn AWp AStep
variable {P : Program}
def opndT (T : List Nat) : Operand → Bool
  | .tmp k => T.contains k
  | _ => true
def quietT (T : List Nat) (op : Op) : Bool := (match op with | .move _ | .fieldAddr .. | .load .. | .indexAddr .. => true | _ => false) && op.operands.all (opndT T)
def wrOp (op : Op) : Bool := match op with | .store .. | .call { callee := .builtin .append, .. } => true | _ => false
def keepT (T : List Nat) (o : Oper) : Bool := match o.dst with
  | some d => !T.contains d || (match o.op with | .move x => opndT T x | .fieldAddr _ x _ => opndT T x | _ => false)
  | none => true
def commT (T : List Nat) (ops : Array Oper) (p i : Nat) : Bool :=
  match ops[p]?, ops[i]? with
  | some op, some oi => commOK ops p i || (op.apart ops oi && ((quietT T op.op && wrOp oi.op) || (wrOp op.op && quietT T oi.op) || (silentOp op.op && wrOp oi.op) || (wrOp op.op && silentOp oi.op)))
  | _, _ => false
def dOKT (T : List Nat) (ops : Array Oper) : Bool :=
  (List.range ops.size).all fun i =>
    ((ops[i]?).map (·.after.all fun e => !Region.binds .any e || decide (e.on < i))).getD false &&
    (List.range i).all fun p => ((masks [] ops.toList).getD i 0).testBit p || commT T ops p i
def keepsT (T : List Nat) (ops : Array Oper) : Bool := ops.all (keepT T)
def NoT (T : List Nat) (s : St) : Prop := ∀ k, k ∈ T → topId (s.f k) = none
theorem topId_const {f : Nat → AV} {x : Operand} (h : ∀ t, x ≠ .tmp t) : topId (aval f x) = none := by
  cases x with
  | tmp t => exact absurd rfl (h t)
  | const c =>
    show topId (constAV c) = none
    unfold constAV; split <;> rfl
  | _ => rfl
theorem NoT.at {T : List Nat} {s : St} (h : NoT T s) {x : Operand} (hq : opndT T x = true) : topId (aval s.f x) = none := by
  cases x with
  | tmp k => exact h k (by simpa [opndT] using hq)
  | _ => exact topId_const (by intro t; simp)
theorem quiet_form {T : List Nat} {ops : Array Oper} {id : Nat} {o : Oper} {s s' : St} (h : AStep P true ops id o s s') (hs : quietT T o.op = true) (hn : ∀ x, x ∈ o.op.operands → topId (aval s.f x) = none) :
    ∃ r, s' = ⟨s.n, aput s.f o.dst r, s.H⟩ ∧ ∀ (f' : Nat → AV) (G : Heap), (∀ t, t ∈ o.looksAt ops → s.f t = f' t) → AStep P true ops id o ⟨s.n, f', G⟩ ⟨s.n, aput f' o.dst r, G⟩ := by
  obtain ⟨hd, h⟩ := h
  split at h
  · rename_i hg
    subst h
    refine ⟨.v undef, rfl, fun f' G hf => ⟨hd, ?_⟩⟩
    have := gstat_congr (ops := ops) hf
    rw [hg] at this
    simp only [← this]
  · rename_i hg
    have hs0 := hs
    unfold quietT at hs
    rw [Bool.and_eq_true] at hs
    have hs1 := hs.1
    unfold Exec at h
    split at h
    · rename_i f args ats ho
      rw [ho] at hs1; cases hs1
    · rename_i op hne
      rcases h with ⟨r, h1, rfl⟩ | ⟨r, H', h1, rfl⟩ | ⟨r, h0, h1, rfl⟩
      · refine ⟨r, rfl, fun f' G hf => ⟨hd, ?_⟩⟩
        have e := gstat_congr (ops := ops) hf
        rw [hg] at e
        simp only [← e]
        refine exec_pure (s := ⟨s.n, f', G⟩) ?_
        rw [← h1]
        exact (apure_congr (opnd_congr hf) fun x hx j hj => by rw [hn x hx] at hj; cases hj).symm
      · exfalso
        cases ho : o.op <;> rw [ho] at h1 hs1 <;> first | (simp at hs1; done) | (simp [aheap] at h1; done)
      · refine ⟨r, rfl, fun f' G hf => ⟨hd, ?_⟩⟩
        have e := gstat_congr (ops := ops) hf
        rw [hg] at e
        simp only [← e]
        have hop := opnd_congr hf
        refine exec_pop (s := ⟨s.n, f', G⟩) (fun x hx => by rw [← hop x hx]; exact h0 x hx) (fun o' w X ρ h2 h3 h4 => h1 o' w X ρ h2 h3 (fun x hx => by rw [hop x hx]; exact h4 x hx)) ?_
        unfold clsOfCall
        split
        · rename_i f args ats ho
          exact absurd ho (by intro ho; exact hne _ _ _ ho)
        · rfl
  · exact h.elim
theorem wr_form {ops : Array Oper} {id : Nat} {o : Oper} {s s' : St} (h : AStep P true ops id o s s') (hs : wrOp o.op = true) :
    ∃ r H', s' = ⟨s.n, aput s.f o.dst r, H'⟩ ∧ ∀ (f' : Nat → AV), (∀ t, t ∈ o.looksAt ops → s.f t = f' t) → AStep P true ops id o ⟨s.n, f', s.H⟩ ⟨s.n, aput f' o.dst r, H'⟩ := by
  obtain ⟨hd, h⟩ := h
  split at h
  · rename_i hg
    subst h
    refine ⟨.v undef, _, rfl, fun f' hf => ⟨hd, ?_⟩⟩
    have := gstat_congr (ops := ops) hf
    rw [hg] at this
    simp only [← this]
  · rename_i hg
    unfold Exec at h
    split at h
    · rename_i f args ats ho
      rw [ho] at hs; cases hs
    · rename_i op hne
      rcases h with ⟨r, h1, rfl⟩ | ⟨r, H', h1, rfl⟩ | ⟨r, h0, h1, rfl⟩
      · refine ⟨r, _, rfl, fun f' hf => ⟨hd, ?_⟩⟩
        have e := gstat_congr (ops := ops) hf
        rw [hg] at e
        simp only [← e]
        refine exec_pure (s := ⟨s.n, f', s.H⟩) ?_
        rw [← h1]
        exact (apure_congr (opnd_congr hf) fun x hx j hj => rfl).symm
      · refine ⟨r, H', rfl, fun f' hf => ⟨hd, ?_⟩⟩
        have e := gstat_congr (ops := ops) hf
        rw [hg] at e
        simp only [← e]
        refine exec_heap (s := ⟨s.n, f', s.H⟩) ?_
        rw [← h1]
        have hop := opnd_congr hf
        cases ho : o.op <;> rw [ho] at hs hop <;> first | (simp [wrOp] at hs; done) | skip
        · rename_i t a x
          simp only [aheap]
          rw [hop a (by simp [Op.operands]), hop x (by simp [Op.operands])]
        · rename_i c
          obtain ⟨callee, args, ats⟩ := c
          cases callee with
          | builtin b =>
            cases b <;> first | (simp [wrOp] at hs; done) | skip
            simp only [aheap]
            have hm : ∀ x, x ∈ args.toList → aval s.f x = aval f' x := fun x hx => hop x (by simp [Op.operands, Call.operands]; simpa using hx)
            split
            · rename_i s1 x1 ts tx ha ht
              rw [ha] at hm
              rw [hm s1 (by simp), hm x1 (by simp)]
            · rfl
          | _ => simp [wrOp] at hs
      · refine ⟨r, _, rfl, fun f' hf => ⟨hd, ?_⟩⟩
        have e := gstat_congr (ops := ops) hf
        rw [hg] at e
        simp only [← e]
        have hop := opnd_congr hf
        refine exec_pop (s := ⟨s.n, f', s.H⟩) (fun x hx => by rw [← hop x hx]; exact h0 x hx) (fun o' w X ρ h2 h3 h4 => h1 o' w X ρ h2 h3 (fun x hx => by rw [hop x hx]; exact h4 x hx)) ?_
        unfold clsOfCall
        split
        · rename_i f args ats ho
          exact absurd ho (by intro ho; exact hne _ _ _ ho)
        · rfl
  · exact h.elim
theorem comm_wr_quiet {T : List Nat} {ops : Array Oper} {ip ii : Nat} {p i : Oper} {s s1 s2 : St} (hp : AStep P true ops ip p s s1) (hi : AStep P true ops ii i s1 s2)
    (hap : p.apart ops i = true) (hcp : wrOp p.op = true) (hci : quietT T i.op = true) (hn : NoT T s1) : ∃ t, AStep P true ops ii i s t ∧ AStep P true ops ip p t s2 := by
  obtain ⟨d1, d2, d3⟩ := Oper.apart_spec hap
  obtain ⟨rp, H', e1, tp⟩ := wr_form hp hcp
  subst e1
  have hq := hci
  unfold quietT at hq
  rw [Bool.and_eq_true] at hq
  obtain ⟨ri, e2, ti⟩ := quiet_form hi hci fun x hx => hn.at (Array.all_eq_true_iff_forall_mem.1 hq.2 x hx)
  subst e2
  refine ⟨_, ti s.f s.H (fun t ht => aput_looks d1 t ht), ?_⟩
  have := tp (aput s.f i.dst ri) (fun t ht => (aput_looks d3 t ht).symm)
  rw [← fset_comm s.f p.dst i.dst rp ri d2] at this
  exact this
theorem comm_quiet_wr {T : List Nat} {ops : Array Oper} {ip ii : Nat} {p i : Oper} {s s1 s2 : St} (hp : AStep P true ops ip p s s1) (hi : AStep P true ops ii i s1 s2)
    (hap : p.apart ops i = true) (hcp : quietT T p.op = true) (hci : wrOp i.op = true) (hn : NoT T s) : ∃ t, AStep P true ops ii i s t ∧ AStep P true ops ip p t s2 := by
  obtain ⟨d1, d2, d3⟩ := Oper.apart_spec hap
  have hq := hcp
  unfold quietT at hq
  rw [Bool.and_eq_true] at hq
  obtain ⟨rp, e1, tp⟩ := quiet_form hp hcp fun x hx => hn.at (Array.all_eq_true_iff_forall_mem.1 hq.2 x hx)
  subst e1
  obtain ⟨ri, H', e2, ti⟩ := wr_form hi hci
  subst e2
  refine ⟨_, ti s.f (fun t ht => aput_looks d1 t ht), ?_⟩
  have := tp (aput s.f i.dst ri) H' (fun t ht => (aput_looks d3 t ht).symm)
  rw [← fset_comm s.f p.dst i.dst rp ri d2] at this
  exact this
theorem comm_wr_silent {ops : Array Oper} {ip ii : Nat} {p i : Oper} {s s1 s2 : St} (hp : AStep P true ops ip p s s1) (hi : AStep P true ops ii i s1 s2)
    (hap : p.apart ops i = true) (hcp : wrOp p.op = true) (hci : silentOp i.op = true) : ∃ t, AStep P true ops ii i s t ∧ AStep P true ops ip p t s2 := by
  obtain ⟨d1, d2, d3⟩ := Oper.apart_spec hap
  obtain ⟨rp, H', e1, tp⟩ := wr_form hp hcp
  subst e1
  obtain ⟨ri, e2, ti⟩ := silent_form hi hci
  subst e2
  refine ⟨_, ti s.f s.H (fun t ht => aput_looks d1 t ht), ?_⟩
  have := tp (aput s.f i.dst ri) (fun t ht => (aput_looks d3 t ht).symm)
  rw [← fset_comm s.f p.dst i.dst rp ri d2] at this
  exact this
theorem comm_silent_wr {ops : Array Oper} {ip ii : Nat} {p i : Oper} {s s1 s2 : St} (hp : AStep P true ops ip p s s1) (hi : AStep P true ops ii i s1 s2)
    (hap : p.apart ops i = true) (hcp : silentOp p.op = true) (hci : wrOp i.op = true) : ∃ t, AStep P true ops ii i s t ∧ AStep P true ops ip p t s2 := by
  obtain ⟨d1, d2, d3⟩ := Oper.apart_spec hap
  obtain ⟨rp, e1, tp⟩ := silent_form hp hcp
  subst e1
  obtain ⟨ri, H', e2, ti⟩ := wr_form hi hci
  subst e2
  refine ⟨_, ti s.f (fun t ht => aput_looks d1 t ht), ?_⟩
  have := tp (aput s.f i.dst ri) H' (fun t ht => (aput_looks d3 t ht).symm)
  rw [← fset_comm s.f p.dst i.dst rp ri d2] at this
  exact this
theorem apure_quiet_top {H : Heap} {ρ : Operand → AV} {op : Op} {r : AV} (h : apure P H ρ op = some r) : (∀ x, op = .move x → topId r = topId (ρ x)) ∧ ∀ t x k, op = .fieldAddr t x k → topId (ρ x) = none → topId r = none := by
  constructor
  · rintro x rfl
    simp only [apure] at h; cases h; rfl
  · rintro t x k rfl hx
    simp only [apure] at h
    split at h
    · unfold afieldAddr at h
      repeat (split at h)
      all_goals first | (cases h; done) | (cases h; rfl) | (cases h; rename_i hq; simp_all [topId])
    · cases h
theorem pop_noid {C : Ctx} {s : St} {a : Act} {w : World} (hr : Real C s a w) {o : Oper} {r : AV} (h0 : ∀ x, x ∈ o.op.operands → NoOwn (aval s.f x)) (h1 : POp P o.op (aval s.f) r) : topId r = none := by
  obtain ⟨hd, O, hs, hv, ht⟩ := hr
  obtain ⟨v, w', _, h3, _⟩ := h1 o w (Mut C.X s.H O) (fun x => a.eval x) rfl (fun b i hm => by
    rcases hm with hm | ⟨id, o, ho, hb, _⟩
    · have := hs.xlt _ _ hm; have := hs.below.size; omega
    · rw [← hb]; exact (hs.live_lt ho).2) (fun x hx => h0 x hx _ _ _ _ (hv.aval x))
  cases r with
  | own id off len => exact match h3 with | .owndead _ _ _ _ h _ => nomatch h | .own _ _ _ _ _ h _ _ => nomatch h | .ownvirt _ _ _ h => nomatch h | .ownz _ _ _ _ h => nomatch h
  | adr id off => exact match h3 with | .adrdead _ _ _ h _ => nomatch h | .adr _ _ _ h => nomatch h
  | _ => rfl
theorem keepsT_step {C : Ctx} {a : Act} {w : World} {T : List Nat} {ops : Array Oper} {i id : Nat} {o : Oper} {s s' : St} (hr : Real C s a w) (hk : keepsT T ops = true) (ho : ops[i]? = some o) (h : AStep P true ops id o s s') (hn : NoT T s) : NoT T s' := by
  have hko : keepT T o = true := Array.all_eq_true_iff_forall_mem.1 hk o (Array.mem_of_getElem? ho)
  unfold keepT at hko
  have hput : ∃ r, s'.f = aput s.f o.dst r ∧ ∀ d, o.dst = some d → d ∈ T → topId r = none := by
    obtain ⟨hd, h⟩ := h
    split at h
    · subst h; exact ⟨_, rfl, fun _ _ _ => rfl⟩
    · have key : ∃ r, s'.f = aput s.f o.dst r ∧ ((∀ x, o.op = .move x → opndT T x = true → topId r = none) ∧ ∀ t x k, o.op = .fieldAddr t x k → opndT T x = true → topId r = none) := by
        unfold Exec at h
        split at h
        · rename_i f args ats ho'
          obtain ⟨g, first, cap, r, H', _, _, _, _, _, rfl⟩ := h
          exact ⟨r, rfl, fun x hx => (by rw [ho'] at hx; cases hx), fun t x k hx => (by rw [ho'] at hx; cases hx)⟩
        · rcases h with ⟨r, h1, rfl⟩ | ⟨r, H', h1, rfl⟩ | ⟨r, h0, h1, rfl⟩
          · obtain ⟨a, b⟩ := apure_quiet_top h1
            exact ⟨r, rfl, fun x hx hq => by rw [a x hx]; exact hn.at hq, fun t x k hx hq => b t x k hx (hn.at hq)⟩
          · refine ⟨r, rfl, fun x hx => ?_, fun t x k hx => ?_⟩
            · rw [hx] at h1; simp [aheap] at h1
            · rw [hx] at h1; simp [aheap] at h1
          · refine ⟨r, rfl, fun x hx hq => ?_, fun t x k hx hq => ?_⟩
            · exact pop_noid hr h0 h1
            · exact pop_noid hr h0 h1
      obtain ⟨r, h1, h2, h3⟩ := key
      refine ⟨r, h1, fun d hd hdT => ?_⟩
      simp only [hd] at hko
      have : T.contains d = true := by simpa using hdT
      rw [this] at hko
      simp only [Bool.not_true, Bool.false_or] at hko
      split at hko
      · rename_i x hx; exact h2 x hx hko
      · rename_i t x k hx; exact h3 t x k hx hko
      · cases hko
    · exact h.elim
  obtain ⟨r, h1, h2⟩ := hput
  intro k hkT
  rw [h1]
  cases hd : o.dst with
  | none => exact hn k hkT
  | some d =>
    show topId (fset s.f d r k) = none
    unfold fset
    split
    · rename_i e; subst e; exact h2 _ hd hkT
    · exact hn k hkT
theorem bring_frontT {T : List Nat} {C : Ctx} {ops : Array Oper} {base : Nat} (hkp : keepsT T ops = true) : ∀ (L1 : List Nat) (i : Nat) (L2 : List Nat) (s sf : St) (a : Act) (w : World), Real C s a w → NoT T s → (∀ p, p ∈ L1 → commT T ops p i = true ∧ p ≠ i) →
    Chain P ops base (L1 ++ i :: L2) s sf → ∃ o t, ops[i]? = some o ∧ AStep P true ops (base + i) o s t ∧ Chain P ops base (L1 ++ L2) t sf
  | [], i, L2, s, sf, a, w, _, _, _, h => h
  | p :: L1, i, L2, s, sf, a, w, hr, hn, hc, h => by
    obtain ⟨op, s1, h1, h2, h3⟩ := h
    obtain ⟨a1, w1, hr1⟩ := step_real h2 hr
    have hn1 := keepsT_step hr hkp h1 h2 hn
    obtain ⟨oi, t1, h4, h5, h6⟩ := bring_frontT hkp L1 i L2 s1 sf a1 w1 hr1 hn1 (fun q hq => hc q (by simp [hq])) h3
    obtain ⟨hcm, hne⟩ := hc p (by simp)
    unfold commT at hcm
    rw [h1, h4] at hcm
    simp only [Bool.or_eq_true] at hcm
    rcases hcm with hcm | hcm
    · unfold commOK at hcm
      rw [h1, h4] at hcm
      simp only [Bool.and_eq_true, Bool.or_eq_true, decide_eq_true_eq] at hcm
      obtain ⟨hap, (⟨c1, c2⟩ | ⟨c1, c2⟩) | ⟨c1, c2⟩⟩ := hcm
      · obtain ⟨t, h7, h8⟩ := step_comm hr h2 h5 hap c1 c2 (by omega)
        exact ⟨oi, t, h4, h7, op, t1, h1, h8, h6⟩
      · obtain ⟨t, h7, h8⟩ := comm_store_silent h2 h5 hap c1 c2
        exact ⟨oi, t, h4, h7, op, t1, h1, h8, h6⟩
      · obtain ⟨t, h7, h8⟩ := comm_silent_store h2 h5 hap c1 c2
        exact ⟨oi, t, h4, h7, op, t1, h1, h8, h6⟩
    · simp only [Bool.and_eq_true, Bool.or_eq_true] at hcm
      obtain ⟨hap, ((⟨c1, c2⟩ | ⟨c1, c2⟩) | ⟨c1, c2⟩) | ⟨c1, c2⟩⟩ := hcm
      · obtain ⟨t, h7, h8⟩ := comm_quiet_wr h2 h5 hap c1 c2 hn
        exact ⟨oi, t, h4, h7, op, t1, h1, h8, h6⟩
      · obtain ⟨t, h7, h8⟩ := comm_wr_quiet h2 h5 hap c1 c2 hn1
        exact ⟨oi, t, h4, h7, op, t1, h1, h8, h6⟩
      · obtain ⟨t, h7, h8⟩ := comm_silent_wr h2 h5 hap c1 c2
        exact ⟨oi, t, h4, h7, op, t1, h1, h8, h6⟩
      · obtain ⟨t, h7, h8⟩ := comm_wr_silent h2 h5 hap c1 c2
        exact ⟨oi, t, h4, h7, op, t1, h1, h8, h6⟩
section
variable {ops : Array Oper}
theorem listed_of_maskT {T : List Nat} (hok : dOKT T ops = true) {listed : Array Bool}
    (hclosed : ∀ k o, ops[k]? = some o → listed.getD k false = true → ∀ e, e ∈ o.after → Region.binds .any e = true → listed.getD e.on false = true) :
    ∀ (i : Nat) (o : Oper), ops[i]? = some o → (∀ e, e ∈ o.after → Region.binds .any e = true → listed.getD e.on false = true) →
    ∀ p, ((masks [] ops.toList).getD i 0).testBit p = true → listed.getD p false = true := by
  intro i
  induction i using Nat.strongRecOn with
  | _ i ih =>
    intro o ho hall p hp
    obtain ⟨acc', h1, h2⟩ := masks_at ops.toList [] i o (by simpa using ho)
    simp only [List.length_nil, Nat.zero_add] at h1 h2
    rw [h1] at hp
    obtain ⟨e, he, hb, h3⟩ := maskOf_bit hp
    have hon := hall e he hb
    rcases h3 with rfl | h3
    · exact hon
    · have hlt : i < ops.size := (Array.getElem?_eq_some_iff.1 ho).1
      have hei : e.on < i := by
        have := List.all_eq_true.1 hok i (by simpa using hlt)
        simp only [Bool.and_eq_true, ho, Option.map_some, Option.getD_some] at this
        have := Array.all_eq_true_iff_forall_mem.1 this.1 e he
        simpa [hb] using this
      obtain ⟨oe, hoe⟩ : ∃ oe, ops[e.on]? = some oe := ⟨ops[e.on]'(by omega), by simp [show e.on < ops.size by omega]⟩
      rw [h2 _ hei] at h3
      exact ih e.on hei oe hoe (fun e' he' hb' => hclosed e.on oe hoe hon e' he' hb') p h3
theorem draw_soundT {T : List Nat} {C : Ctx} {base : Nat} {Q : Exit → Act → World → Prop} (hok : dOKT T ops = true) (hkp : keepsT T ops = true) : ∀ (fuel : Nat) (L : List Nat) (listed : Array Bool) (s sf : St) (a : Act) (w : World),
    L.length = fuel → L.Pairwise (· < ·) → listed.size = ops.size → (∀ i, i < ops.size → (listed.getD i false = true ↔ i ∉ L)) → (∀ i, i ∈ L → i < ops.size) →
    (∀ k o, ops[k]? = some o → listed.getD k false = true → ∀ e, e ∈ o.after → Region.binds .any e = true → listed.getD e.on false = true) →
    Chain P ops base L s sf → NoT T s → Real C s a w → (∀ a' w', Real C sf a' w' → Q .normal a' w') → wpAny P .any ops Q fuel listed a w := by
  intro fuel
  have hdep : ∀ i o, ops[i]? = some o → ∀ e, e ∈ o.after → Region.binds .any e = true → e.on < i := by
    intro i o ho e he hb
    have hlt : i < ops.size := (Array.getElem?_eq_some_iff.1 ho).1
    have := List.all_eq_true.1 hok i (by simpa using hlt)
    simp only [Bool.and_eq_true, ho, Option.map_some, Option.getD_some] at this
    have := Array.all_eq_true_iff_forall_mem.1 this.1 e he
    simpa [hb] using this
  have getDt : ∀ (listed : Array Bool) (i : Nat), listed.size = ops.size → i < ops.size → listed.getD i true = listed.getD i false := by
    intro listed i hs hi; simp [hs, hi]
  induction fuel with
  | zero =>
    intro L listed s sf a w hL _ hsz hl hlt hcl hch hno hr hQ
    have : L = [] := List.eq_nil_of_length_eq_zero hL
    subst this
    have : s = sf := hch
    subst this
    refine ⟨?_, hQ a w hr⟩
    cases hrd : Region.ready .any ops listed with
    | nil => rfl
    | cons x xs =>
      have hx : x ∈ Region.ready .any ops listed := by rw [hrd]; simp
      obtain ⟨h1, o, h2, _⟩ := mem_ready.1 hx
      have hxs : x < ops.size := (Array.getElem?_eq_some_iff.1 h2).1
      rw [getDt listed x hsz hxs] at h1
      have := (hl x hxs).2 (by simp)
      rw [h1] at this; cases this
  | succ fuel ih =>
    intro L listed s sf a w hL hsort hsz hl hlt hcl hch hno hr hQ
    refine ⟨fun hempty => ?_, fun i hi => ?_⟩
    · 
      exfalso
      match L, hL with
      | x :: L', _ =>
        have hxs : x < ops.size := hlt x (by simp)
        obtain ⟨o, ho⟩ : ∃ o, ops[x]? = some o := ⟨ops[x], by simp [hxs]⟩
        have : x ∈ Region.ready .any ops listed := by
          refine mem_ready.2 ⟨?_, o, ho, fun e he hb => ?_⟩
          · rw [getDt listed x hsz hxs]
            cases hv : listed.getD x false with
            | false => rfl
            | true => exact absurd (by simp) ((hl x hxs).1 hv)
          · have hex := hdep x o ho e he hb
            refine (hl e.on (by omega)).2 (fun hm => ?_)
            rcases List.mem_cons.1 hm with h | h
            · omega
            · have := List.rel_of_pairwise_cons hsort h
              omega
        rw [hempty] at this; cases this
    · obtain ⟨h1, oi, hoi, hall⟩ := mem_ready.1 hi
      have his : i < ops.size := (Array.getElem?_eq_some_iff.1 hoi).1
      rw [getDt listed i hsz his] at h1
      have hiL : i ∈ L := by
        rcases Classical.em (i ∈ L) with h | h
        · exact h
        · have := (hl i his).2 h; rw [h1] at this; cases this
      obtain ⟨L1, L2, rfl⟩ := List.append_of_mem hiL
      have hp := List.pairwise_append.1 hsort
      have hpre : ∀ p, p ∈ L1 → commT T ops p i = true ∧ p ≠ i := by
        intro p hpm
        have hpi : p < i := hp.2.2 p hpm i (by simp)
        refine ⟨?_, by omega⟩
        have := List.all_eq_true.1 hok i (by simpa using his)
        simp only [Bool.and_eq_true] at this
        have := List.all_eq_true.1 this.2 p (by simpa using hpi)
        simp only [Bool.or_eq_true] at this
        rcases this with h | h
        · exfalso
          have := listed_of_maskT hok hcl i oi hoi hall p h
          exact ((hl p (by omega)).1 this) (by simp [hpm])
        · exact h
      obtain ⟨o, t, h2, h3, h4⟩ := bring_frontT hkp L1 i L2 s sf a w hr hno hpre hch
      rw [hoi] at h2; cases h2
      have hst := step_sound (Q := Q) h3 hr (K := wpAny P .any ops Q fuel (listed.setIfInBounds i true)) (fun a' w' hr' => by
        refine ih (L1 ++ L2) (listed.setIfInBounds i true) t sf a' w' (by simp at hL ⊢; omega) ?_ (by simpa using hsz) (fun j hj => ?_) (fun j hj => hlt j (by simp at hj ⊢; rcases hj with h | h <;> simp [h])) ?_ h4 (keepsT_step hr hkp hoi h3 hno) hr' hQ
        · refine List.pairwise_append.2 ⟨hp.1, (List.pairwise_cons.1 hp.2.1).2, fun x hx y hy => hp.2.2 x hx y (by simp [hy])⟩
        · have hnd : i ∉ L1 ++ L2 := by
            intro hm
            rcases List.mem_append.1 hm with h | h
            · have := hp.2.2 i h i (by simp); omega
            · have := (List.pairwise_cons.1 hp.2.1).1 i h; omega
          by_cases hji : j = i
          · subst hji
            simp [hsz, his]
            simpa using hnd
          · have e : (listed.setIfInBounds i true).getD j false = listed.getD j false := getD_set_ne false (Ne.symm hji)
            rw [e, hl j hj]
            simp [hji]
        · intro k o hk hkl e he hb
          by_cases hki : k = i
          · subst hki
            rw [hoi] at hk; cases hk
            exact getD_set_true (hall e he hb)
          · rw [getD_set_ne false (Ne.symm hki)] at hkl
            exact getD_set_true (hcl k o hk hkl e he hb))
      unfold wpOp
      simp only [hoi]
      split at hst
      · rename_i hw; simp only [hw, if_true]; exact .inl hst
      · rename_i hw; simp only [hw]; exact hst
end
theorem AWp.regionT {B : Nat → Prop} (T : List Nat) (m : Nat) {id : Nat} {l : List Oper} {Q : Exit → St → Prop} {n N : Nat} {f : Nat → AV} {e : Nat → Ent} (hmix : P.follows .mixedOrders = true) (hok : dOKT T l.toArray = true) (hkp : keepsT T l.toArray = true) (hno : ∀ k, k ∈ T → topId (f k) = none)
    (h : ARun P true l.toArray N 0 l (fun s' => Q .normal ⟨s'.n, s'.f, ⟨s'.H.ent, N + m⟩⟩) ⟨n, f, ⟨e, N⟩⟩) : AWp P B (.region id l.toArray true) Q ⟨n, f, ⟨e, N⟩⟩ := by
  intro C a w _ hr
  refine wp_region_any hmix ?_
  obtain ⟨sf, h1, h2⟩ := chain_of_run l 0 _ (fun j => by simp) h
  have hr' : Real C ⟨n, f, ⟨e, N⟩⟩ a { w with drawn := w.drawn + 1 } := by
    obtain ⟨hd, O, hs, hv, ht⟩ := hr
    obtain ⟨h3, h4⟩ := hs.same (w' := { w with drawn := w.drawn + 1 }) rfl rfl rfl rfl
    exact ⟨hd, O, h3, hv.mono h4, ht.trans h4⟩
  refine draw_soundT hok hkp l.toArray.size (List.range' 0 l.length) _ _ sf a _ (by simp) List.pairwise_lt_range' (by simp) (fun i hi => ?_) (fun i hi => by simp at hi ⊢; omega) (fun k o hk hkl => ?_) h1 hno hr' (fun a' w' hr'' => ⟨_, hr''.nxt _, h2⟩)
  · simp at hi
    simp [hi]
  · have : (Array.replicate l.toArray.size false).getD k false = false := by
      simp only [Array.getD_eq_getD_getElem?, Array.getElem?_replicate]
      split <;> rfl
    rw [this] at hkl; cases hkl
theorem AWp.regT {B : Nat → Prop} (T : List Nat) (m : Nat) {id : Nat} {l : List Oper} {Q : Exit → St → Prop} {n N N' : Nat} {f : Nat → AV} {e : Nat → Ent} (hmix : P.follows .mixedOrders = true) (hok : dOKT T l.toArray = true) (hkp : keepsT T l.toArray = true) (hno : ∀ k, k ∈ T → topId (f k) = none) (hN : N + m = N')
    (h : ARun P true l.toArray N 0 l (KN Q N') ⟨n, f, ⟨e, N⟩⟩) : AWp P B (.region id l.toArray true) Q ⟨n, f, ⟨e, N⟩⟩ := by
  subst hN; exact AWp.regionT T m hmix hok hkp hno h
end Go.AM
