/- Facts that the statement's proof is made of. No condition. -/
import Derived.Test.YtibnmlbjahcjmaaQwAmK
set_option linter.unusedSimpArgs false
set_option linter.unusedVariables false
set_option maxRecDepth 4000
namespace Go.AM
open Go.RowKit
attribute [local semireducible] ARun KN ASeq AThen AIn AWp AStep
variable {P : Program}
def readOp (op : Op) : Bool := match op with | .fieldAddr .. | .load .. | .indexAddr .. | .slice .. | .call { callee := .builtin .len, .. } => true | _ => false
def appOp (op : Op) : Bool := match op with | .call { callee := .builtin .append, .. } => true | _ => false
def commU (T : List Nat) (ops : Array Oper) (p i : Nat) : Bool :=
  commT T ops p i || match ops[p]?, ops[i]? with
  | some op, some oi => op.apart ops oi && appOp op.op && readOp oi.op
  | _, _ => false
def dOKU (T : List Nat) (ops : Array Oper) : Bool :=
  (List.range ops.size).all fun i =>
    ((ops[i]?).map (·.after.all fun e => !Region.binds .any e || decide (e.on < i))).getD false &&
    (List.range i).all fun p => ((masks [] ops.toList).getD i 0).testBit p || commU T ops p i
theorem alive_live {H : Heap} {x : AV} {j : Nat} (h : H.alive x = true) (hj : topId x = some j) : H.ent j ≠ .dead := by
  intro hd
  cases x <;> simp [topId] at hj <;> subst hj <;> simp [Heap.alive, hd] at h
theorem abound_top {d n : Nat} {x : AV} (h : abound d (some x) = some n) : topId x = none := by
  cases x with
  | v y => rfl
  | _ => simp [abound] at h
theorem bound_top {ρ : Operand → AV} {d n : Nat} {o : Option Operand} {x : Operand} (h : abound d (o.map ρ) = some n) (hx : x ∈ o) : topId (ρ x) = none := by
  cases hx
  exact abound_top h
theorem slice_live {H : Heap} {ρ : Operand → AV} {t : TypeId} {a : Operand} {lo hi mx : Option Operand} {r : AV} (h : aslice P H t (ρ a) (lo.map ρ) (hi.map ρ) (mx.map ρ) = some r) :
    (∀ j, topId (ρ a) = some j → H.ent j ≠ .dead) ∧ (∀ x, x ∈ lo ∨ x ∈ hi ∨ x ∈ mx → topId (ρ x) = none) := by
  unfold aslice at h
  split at h
  · rename_i s hu ha
    split at h
    · rename_i l hh h1 h2 h3
      refine ⟨fun j hj => (by rw [ha] at hj; cases hj), fun x hx => ?_⟩
      rcases hx with q | q | q
      · exact bound_top h2 q
      · exact bound_top h3 q
      · cases q; cases h1
    · cases h
  · rename_i e hu ha
    split at h
    · rename_i h1 h2 h3 h4
      refine ⟨fun j hj => (by rw [ha] at hj; cases hj), fun x hx => ?_⟩
      rcases hx with q | q | q
      · exact bound_top h2 q
      · exact bound_top h3 q
      · exact bound_top h4 q
    · cases h
  · rename_i e xs len full hu ha
    split at h
    · split at h
      · rename_i l hh m h2 h3 h4
        refine ⟨fun j hj => (by rw [ha] at hj; cases hj), fun x hx => ?_⟩
        rcases hx with q | q | q
        · exact bound_top h2 q
        · exact bound_top h3 q
        · exact bound_top h4 q
      · cases h
    · cases h
  · rename_i e id off len hu ha
    split at h
    · rename_i hent
      split at h
      · rename_i l hh h2 h3 h4
        refine ⟨fun j hj hd => ?_, fun x hx => ?_⟩
        · rw [ha] at hj; cases hj
          rw [hd] at hent; cases hent
        · rcases hx with q | q | q
          · exact bound_top h2 q
          · exact bound_top h3 q
          · cases q; cases h4
      · cases h
    · cases h
  · cases h
theorem read_live {H : Heap} {ρ : Operand → AV} {op : Op} {r : AV} (hs : readOp op = true) (h : apure P H ρ op = some r) : ∀ x, x ∈ op.operands → ∀ j, topId (ρ x) = some j → H.ent j ≠ .dead := by
  intro x hx j hj
  cases op with
  | fieldAddr t a f =>
    simp only [apure] at h
    split at h
    · rename_i ha
      simp [Op.operands] at hx; subst hx
      exact alive_live ha hj
    · cases h
  | load t a =>
    simp only [apure] at h
    simp [Op.operands] at hx; subst hx
    intro hd
    cases hv : ρ x <;> rw [hv] at h hj <;> simp [topId] at hj <;> subst hj <;> simp [aload, hd] at h
  | indexAddr t a i =>
    simp only [apure] at h
    split at h
    · rename_i ha
      simp [Op.operands] at hx
      rcases hx with rfl | rfl
      · exact alive_live ha hj
      · exfalso
        unfold aindexAddr at h
        split at h <;> first | (cases h; done) | (rename_i hq; rw [hq] at hj; cases hj)
    · cases h
  | slice t a lo hi mx =>
    simp only [apure] at h
    obtain ⟨h1, h2⟩ := slice_live h
    simp [Op.operands] at hx
    rcases hx with rfl | hx | hx | hx
    · exact h1 j hj
    · rw [h2 x (.inl hx)] at hj; cases hj
    · rw [h2 x (.inr (.inl hx))] at hj; cases hj
    · rw [h2 x (.inr (.inr hx))] at hj; cases hj
  | call c =>
    obtain ⟨callee, args, ats⟩ := c
    cases callee with
    | builtin b =>
      cases b <;> first | (simp [readOp] at hs; done) | skip
      simp only [apure] at h
      split at h
      · rename_i ha
        rw [List.all_eq_true] at ha
        refine alive_live (ha _ (List.mem_map.2 ⟨x, ?_, rfl⟩)) hj
        simpa [Op.operands, Call.operands] using hx
      · cases h
    | _ => simp [readOp] at hs
  | _ => simp [readOp] at hs
theorem read_form {ops : Array Oper} {id : Nat} {o : Oper} {s s' : St} (h : AStep P true ops id o s s') (hs : readOp o.op = true) :
    ∃ r, s' = ⟨s.n, aput s.f o.dst r, s.H⟩ ∧ ∀ (f' : Nat → AV) (G : Heap), (∀ t, t ∈ o.looksAt ops → s.f t = f' t) → (∀ x, x ∈ o.op.operands → ∀ j, topId (aval s.f x) = some j → s.H.ent j ≠ .dead → G.ent j = s.H.ent j) → AStep P true ops id o ⟨s.n, f', G⟩ ⟨s.n, aput f' o.dst r, G⟩ := by
  obtain ⟨hd, h⟩ := h
  split at h
  · rename_i hg
    subst h
    refine ⟨.v undef, rfl, fun f' G hf _ => ⟨hd, ?_⟩⟩
    have := gstat_congr (ops := ops) hf
    rw [hg] at this
    simp only [← this]
  · rename_i hg
    unfold Exec at h
    split at h
    · rename_i f args ats ho
      rw [ho] at hs; cases hs
    · rename_i op hne
      rcases h with ⟨r, h1, rfl⟩ | ⟨r, H', h1, rfl⟩ | ⟨r, h0, h1, rfl⟩
      · refine ⟨r, rfl, fun f' G hf hG => ⟨hd, ?_⟩⟩
        have e := gstat_congr (ops := ops) hf
        rw [hg] at e
        simp only [← e]
        refine exec_pure (s := ⟨s.n, f', G⟩) ?_
        rw [← h1]
        exact (apure_congr (opnd_congr hf) fun x hx j hj => (hG x hx j hj (read_live hs h1 x hx j hj)).symm).symm
      · exfalso
        cases ho : o.op <;> rw [ho] at h1 hs <;> first | (simp [readOp] at hs; done) | (simp [aheap] at h1; done) | skip
        rename_i c
        obtain ⟨callee, args, ats⟩ := c
        cases callee with
        | builtin b => cases b <;> first | (simp [readOp] at hs; done) | (simp [aheap] at h1; done)
        | _ => simp [readOp] at hs
      · refine ⟨r, rfl, fun f' G hf hG => ⟨hd, ?_⟩⟩
        have e := gstat_congr (ops := ops) hf
        rw [hg] at e
        simp only [← e]
        have hop := opnd_congr hf
        refine exec_pop (s := ⟨s.n, f', G⟩) (fun x hx => by rw [← hop x hx]; exact h0 x hx) (fun o' w X ρ h2 h3 h4 => h1 o' w X ρ h2 h3 (fun x hx => by rw [hop x hx]; exact h4 x hx)) ?_
        unfold clsOfCall
        split
        · rename_i f args ats ho
          exact absurd ho (by intro ho; exact hne _ _ _ ho)
        · rfl
  · exact h.elim
theorem aappend_ent {H H' : Heap} {id : Nat} {ts tx : TypeId} {s x r : AV} (h : aappend P H id ts tx s x = some (r, H')) (j : Nat) : H'.ent j = H.ent j ∨ H'.ent j = .dead ∨ (j = id ∧ H.isFresh id = true) := by
  by_cases hj : j = id
  · subst hj
    refine .inr (.inr ⟨rfl, ?_⟩)
    unfold aappend at h
    split at h
    · split at h
      · split at h
        · split at h
          · rename_i q; exact q.1
          · cases h
        · cases h
      · split at h
        · split at h
          · split at h
            · rename_i q; exact q.1
            · cases h
          · cases h
        · cases h
    · cases h
  · unfold aappend at h
    split at h
    · split at h
      · split at h
        · split at h
          · cases h; exact .inl (upd_ne _ _ _ _ hj)
          · cases h
        · cases h
      · split at h
        · split at h
          · split at h
            · cases h
              rename_i oid _ _ _ _ _
              have e : ∀ (G : Heap) (e : Ent), (G.put id e).ent j = G.ent j := fun G e => upd_ne _ _ _ _ hj
              rw [e]
              split
              · rename_i k _ _
                by_cases hk : j = k
                · subst hk; exact .inr (.inl (by simp [Heap.put, upd]))
                · exact .inl (upd_ne _ _ _ _ hk)
              · exact .inl rfl
            · cases h
          · cases h
        · cases h
    · cases h
theorem app_ent {ops : Array Oper} {id : Nat} {o : Oper} {s s' : St} (h : AStep P true ops id o s s') (hs : appOp o.op = true) (j : Nat) : s'.H.ent j = s.H.ent j ∨ s'.H.ent j = .dead ∨ (j = id ∧ s.H.isFresh id = true) := by
  obtain ⟨hd, h⟩ := h
  split at h
  · subst h; exact .inl rfl
  · unfold Exec at h
    split at h
    · rename_i f args ats ho
      rw [ho] at hs; cases hs
    · rename_i op hne
      rcases h with ⟨r, h1, rfl⟩ | ⟨r, H', h1, rfl⟩ | ⟨r, h0, h1, rfl⟩
      · exact .inl rfl
      · cases ho : o.op <;> rw [ho] at h1 hs <;> first | (simp [appOp] at hs; done) | skip
        rename_i c
        obtain ⟨callee, args, ats⟩ := c
        cases callee with
        | builtin b =>
          cases b <;> first | (simp [appOp] at hs; done) | skip
          simp only [aheap] at h1
          split at h1
          · exact aappend_ent h1 j
          · cases h1
        | _ => simp [appOp] at hs
      · exact .inl rfl
  · exact h.elim
theorem app_wr {op : Op} (h : appOp op = true) : wrOp op = true := by
  unfold appOp at h
  split at h
  · rfl
  · cases h
theorem comm_app_read {C : Ctx} {ops : Array Oper} {ip ii : Nat} {p i : Oper} {s s1 s2 : St} {a : Act} {w : World} (hr : Real C s a w) (hp : AStep P true ops ip p s s1) (hi : AStep P true ops ii i s1 s2)
    (hap : p.apart ops i = true) (hcp : appOp p.op = true) (hci : readOp i.op = true) : ∃ t, AStep P true ops ii i s t ∧ AStep P true ops ip p t s2 := by
  obtain ⟨d1, d2, d3⟩ := Oper.apart_spec hap
  have hE := app_ent hp hcp
  obtain ⟨rp, H', e1, tp⟩ := wr_form hp (app_wr hcp)
  subst e1
  obtain ⟨ri, e2, ti⟩ := read_form hi hci
  subst e2
  have hopi : ∀ x, x ∈ i.op.operands → aval (aput s.f p.dst rp) x = aval s.f x := by
    intro x hx
    cases x with
    | tmp t => exact aput_looks d1 t (List.mem_append_left _ (List.mem_filterMap.2 ⟨.tmp t, by simpa using hx, rfl⟩))
    | _ => rfl
  refine ⟨_, ti s.f s.H (fun t ht => aput_looks d1 t ht) (fun x hx j hj hnd => ?_), ?_⟩
  · simp only [] at hj hnd
    rw [hopi x hx] at hj
    have hnf := hr.notFresh hj
    rcases hE j with q | q | ⟨rfl, q⟩
    · exact q.symm
    · exact absurd q hnd
    · exact absurd (Heap.isFresh_eq q) hnf
  · have := tp (aput s.f i.dst ri) (fun t ht => (aput_looks d3 t ht).symm)
    rw [← fset_comm s.f p.dst i.dst rp ri d2] at this
    exact this
theorem bring_frontU {T : List Nat} {C : Ctx} {ops : Array Oper} {base : Nat} (hkp : keepsT T ops = true) : ∀ (L1 : List Nat) (i : Nat) (L2 : List Nat) (s sf : St) (a : Act) (w : World), Real C s a w → NoT T s → (∀ p, p ∈ L1 → commU T ops p i = true ∧ p ≠ i) →
    Chain P ops base (L1 ++ i :: L2) s sf → ∃ o t, ops[i]? = some o ∧ AStep P true ops (base + i) o s t ∧ Chain P ops base (L1 ++ L2) t sf
  | [], i, L2, s, sf, a, w, _, _, _, h => h
  | p :: L1, i, L2, s, sf, a, w, hr, hn, hc, h => by
    obtain ⟨op, s1, h1, h2, h3⟩ := h
    obtain ⟨a1, w1, hr1⟩ := step_real h2 hr
    have hn1 := keepsT_step hr hkp h1 h2 hn
    obtain ⟨oi, t1, h4, h5, h6⟩ := bring_frontU hkp L1 i L2 s1 sf a1 w1 hr1 hn1 (fun q hq => hc q (by simp [hq])) h3
    obtain ⟨hcm, hne⟩ := hc p (by simp)
    unfold commU at hcm
    rw [Bool.or_eq_true] at hcm
    rcases hcm with hcm | hcm
    rotate_left
    · rw [h1, h4] at hcm
      simp only [Bool.and_eq_true] at hcm
      obtain ⟨t, h7, h8⟩ := comm_app_read hr h2 h5 hcm.1.1 hcm.1.2 hcm.2
      exact ⟨oi, t, h4, h7, op, t1, h1, h8, h6⟩
    unfold commT at hcm
    rw [h1, h4] at hcm
    simp only [Bool.or_eq_true] at hcm
    rcases hcm with hcm | hcm
    · unfold commOK at hcm
      rw [h1, h4] at hcm
      simp only [Bool.and_eq_true, Bool.or_eq_true, decide_eq_true_eq] at hcm
      obtain ⟨hap, (⟨c1, c2⟩ | ⟨c1, c2⟩) | ⟨c1, c2⟩⟩ := hcm
      · obtain ⟨t, h7, h8⟩ := step_comm hr h2 h5 hap c1 c2 (by omega)
        exact ⟨oi, t, h4, h7, op, t1, h1, h8, h6⟩
      · obtain ⟨t, h7, h8⟩ := comm_store_silent h2 h5 hap c1 c2
        exact ⟨oi, t, h4, h7, op, t1, h1, h8, h6⟩
      · obtain ⟨t, h7, h8⟩ := comm_silent_store h2 h5 hap c1 c2
        exact ⟨oi, t, h4, h7, op, t1, h1, h8, h6⟩
    · simp only [Bool.and_eq_true, Bool.or_eq_true] at hcm
      obtain ⟨hap, ((⟨c1, c2⟩ | ⟨c1, c2⟩) | ⟨c1, c2⟩) | ⟨c1, c2⟩⟩ := hcm
      · obtain ⟨t, h7, h8⟩ := comm_quiet_wr h2 h5 hap c1 c2 hn
        exact ⟨oi, t, h4, h7, op, t1, h1, h8, h6⟩
      · obtain ⟨t, h7, h8⟩ := comm_wr_quiet h2 h5 hap c1 c2 hn1
        exact ⟨oi, t, h4, h7, op, t1, h1, h8, h6⟩
      · obtain ⟨t, h7, h8⟩ := comm_silent_wr h2 h5 hap c1 c2
        exact ⟨oi, t, h4, h7, op, t1, h1, h8, h6⟩
      · obtain ⟨t, h7, h8⟩ := comm_wr_silent h2 h5 hap c1 c2
        exact ⟨oi, t, h4, h7, op, t1, h1, h8, h6⟩
section
variable {ops : Array Oper}
theorem listed_of_maskU {T : List Nat} (hok : dOKU T ops = true) {listed : Array Bool}
    (hclosed : ∀ k o, ops[k]? = some o → listed.getD k false = true → ∀ e, e ∈ o.after → Region.binds .any e = true → listed.getD e.on false = true) :
    ∀ (i : Nat) (o : Oper), ops[i]? = some o → (∀ e, e ∈ o.after → Region.binds .any e = true → listed.getD e.on false = true) →
    ∀ p, ((masks [] ops.toList).getD i 0).testBit p = true → listed.getD p false = true := by
  intro i
  induction i using Nat.strongRecOn with
  | _ i ih =>
    intro o ho hall p hp
    obtain ⟨acc', h1, h2⟩ := masks_at ops.toList [] i o (by simpa using ho)
    simp only [List.length_nil, Nat.zero_add] at h1 h2
    rw [h1] at hp
    obtain ⟨e, he, hb, h3⟩ := maskOf_bit hp
    have hon := hall e he hb
    rcases h3 with rfl | h3
    · exact hon
    · have hlt : i < ops.size := (Array.getElem?_eq_some_iff.1 ho).1
      have hei : e.on < i := by
        have := List.all_eq_true.1 hok i (by simpa using hlt)
        simp only [Bool.and_eq_true, ho, Option.map_some, Option.getD_some] at this
        have := Array.all_eq_true_iff_forall_mem.1 this.1 e he
        simpa [hb] using this
      obtain ⟨oe, hoe⟩ : ∃ oe, ops[e.on]? = some oe := ⟨ops[e.on]'(by omega), by simp [show e.on < ops.size by omega]⟩
      rw [h2 _ hei] at h3
      exact ih e.on hei oe hoe (fun e' he' hb' => hclosed e.on oe hoe hon e' he' hb') p h3
theorem draw_soundU {T : List Nat} {C : Ctx} {base : Nat} {Q : Exit → Act → World → Prop} (hok : dOKU T ops = true) (hkp : keepsT T ops = true) : ∀ (fuel : Nat) (L : List Nat) (listed : Array Bool) (s sf : St) (a : Act) (w : World),
    L.length = fuel → L.Pairwise (· < ·) → listed.size = ops.size → (∀ i, i < ops.size → (listed.getD i false = true ↔ i ∉ L)) → (∀ i, i ∈ L → i < ops.size) →
    (∀ k o, ops[k]? = some o → listed.getD k false = true → ∀ e, e ∈ o.after → Region.binds .any e = true → listed.getD e.on false = true) →
    Chain P ops base L s sf → NoT T s → Real C s a w → (∀ a' w', Real C sf a' w' → Q .normal a' w') → wpAny P .any ops Q fuel listed a w := by
  intro fuel
  have hdep : ∀ i o, ops[i]? = some o → ∀ e, e ∈ o.after → Region.binds .any e = true → e.on < i := by
    intro i o ho e he hb
    have hlt : i < ops.size := (Array.getElem?_eq_some_iff.1 ho).1
    have := List.all_eq_true.1 hok i (by simpa using hlt)
    simp only [Bool.and_eq_true, ho, Option.map_some, Option.getD_some] at this
    have := Array.all_eq_true_iff_forall_mem.1 this.1 e he
    simpa [hb] using this
  have getDt : ∀ (listed : Array Bool) (i : Nat), listed.size = ops.size → i < ops.size → listed.getD i true = listed.getD i false := by
    intro listed i hs hi; simp [hs, hi]
  induction fuel with
  | zero =>
    intro L listed s sf a w hL _ hsz hl hlt hcl hch hno hr hQ
    have : L = [] := List.eq_nil_of_length_eq_zero hL
    subst this
    have : s = sf := hch
    subst this
    refine ⟨?_, hQ a w hr⟩
    cases hrd : Region.ready .any ops listed with
    | nil => rfl
    | cons x xs =>
      have hx : x ∈ Region.ready .any ops listed := by rw [hrd]; simp
      obtain ⟨h1, o, h2, _⟩ := mem_ready.1 hx
      have hxs : x < ops.size := (Array.getElem?_eq_some_iff.1 h2).1
      rw [getDt listed x hsz hxs] at h1
      have := (hl x hxs).2 (by simp)
      rw [h1] at this; cases this
  | succ fuel ih =>
    intro L listed s sf a w hL hsort hsz hl hlt hcl hch hno hr hQ
    refine ⟨fun hempty => ?_, fun i hi => ?_⟩
    · 
      exfalso
      match L, hL with
      | x :: L', _ =>
        have hxs : x < ops.size := hlt x (by simp)
        obtain ⟨o, ho⟩ : ∃ o, ops[x]? = some o := ⟨ops[x], by simp [hxs]⟩
        have : x ∈ Region.ready .any ops listed := by
          refine mem_ready.2 ⟨?_, o, ho, fun e he hb => ?_⟩
          · rw [getDt listed x hsz hxs]
            cases hv : listed.getD x false with
            | false => rfl
            | true => exact absurd (by simp) ((hl x hxs).1 hv)
          · have hex := hdep x o ho e he hb
            refine (hl e.on (by omega)).2 (fun hm => ?_)
            rcases List.mem_cons.1 hm with h | h
            · omega
            · have := List.rel_of_pairwise_cons hsort h
              omega
        rw [hempty] at this; cases this
    · obtain ⟨h1, oi, hoi, hall⟩ := mem_ready.1 hi
      have his : i < ops.size := (Array.getElem?_eq_some_iff.1 hoi).1
      rw [getDt listed i hsz his] at h1
      have hiL : i ∈ L := by
        rcases Classical.em (i ∈ L) with h | h
        · exact h
        · have := (hl i his).2 h; rw [h1] at this; cases this
      obtain ⟨L1, L2, rfl⟩ := List.append_of_mem hiL
      have hp := List.pairwise_append.1 hsort
      have hpre : ∀ p, p ∈ L1 → commU T ops p i = true ∧ p ≠ i := by
        intro p hpm
        have hpi : p < i := hp.2.2 p hpm i (by simp)
        refine ⟨?_, by omega⟩
        have := List.all_eq_true.1 hok i (by simpa using his)
        simp only [Bool.and_eq_true] at this
        have := List.all_eq_true.1 this.2 p (by simpa using hpi)
        simp only [Bool.or_eq_true] at this
        rcases this with h | h
        · exfalso
          have := listed_of_maskU hok hcl i oi hoi hall p h
          exact ((hl p (by omega)).1 this) (by simp [hpm])
        · exact h
      obtain ⟨o, t, h2, h3, h4⟩ := bring_frontU hkp L1 i L2 s sf a w hr hno hpre hch
      rw [hoi] at h2; cases h2
      have hst := step_sound (Q := Q) h3 hr (K := wpAny P .any ops Q fuel (listed.setIfInBounds i true)) (fun a' w' hr' => by
        refine ih (L1 ++ L2) (listed.setIfInBounds i true) t sf a' w' (by simp at hL ⊢; omega) ?_ (by simpa using hsz) (fun j hj => ?_) (fun j hj => hlt j (by simp at hj ⊢; rcases hj with h | h <;> simp [h])) ?_ h4 (keepsT_step hr hkp hoi h3 hno) hr' hQ
        · refine List.pairwise_append.2 ⟨hp.1, (List.pairwise_cons.1 hp.2.1).2, fun x hx y hy => hp.2.2 x hx y (by simp [hy])⟩
        · have hnd : i ∉ L1 ++ L2 := by
            intro hm
            rcases List.mem_append.1 hm with h | h
            · have := hp.2.2 i h i (by simp); omega
            · have := (List.pairwise_cons.1 hp.2.1).1 i h; omega
          by_cases hji : j = i
          · subst hji
            simp [hsz, his]
            simpa using hnd
          · have e : (listed.setIfInBounds i true).getD j false = listed.getD j false := getD_set_ne false (Ne.symm hji)
            rw [e, hl j hj]
            simp [hji]
        · intro k o hk hkl e he hb
          by_cases hki : k = i
          · subst hki
            rw [hoi] at hk; cases hk
            exact getD_set_true (hall e he hb)
          · rw [getD_set_ne false (Ne.symm hki)] at hkl
            exact getD_set_true (hcl k o hk hkl e he hb))
      unfold wpOp
      simp only [hoi]
      split at hst
      · rename_i hw; simp only [hw, if_true]; exact .inl hst
      · rename_i hw; simp only [hw]; exact hst
end
theorem AWp.regionU {B : Nat → Prop} (T : List Nat) (m : Nat) {id : Nat} {l : List Oper} {Q : Exit → St → Prop} {n N : Nat} {f : Nat → AV} {e : Nat → Ent} (hmix : P.follows .mixedOrders = true) (hok : dOKU T l.toArray = true) (hkp : keepsT T l.toArray = true) (hno : ∀ k, k ∈ T → topId (f k) = none)
    (h : ARun P true l.toArray N 0 l (fun s' => Q .normal ⟨s'.n, s'.f, ⟨s'.H.ent, N + m⟩⟩) ⟨n, f, ⟨e, N⟩⟩) : AWp P B (.region id l.toArray true) Q ⟨n, f, ⟨e, N⟩⟩ := by
  intro C a w _ hr
  refine wp_region_any hmix ?_
  obtain ⟨sf, h1, h2⟩ := chain_of_run l 0 _ (fun j => by simp) h
  have hr' : Real C ⟨n, f, ⟨e, N⟩⟩ a { w with drawn := w.drawn + 1 } := by
    obtain ⟨hd, O, hs, hv, ht⟩ := hr
    obtain ⟨h3, h4⟩ := hs.same (w' := { w with drawn := w.drawn + 1 }) rfl rfl rfl rfl
    exact ⟨hd, O, h3, hv.mono h4, ht.trans h4⟩
  refine draw_soundU hok hkp l.toArray.size (List.range' 0 l.length) _ _ sf a _ (by simp) List.pairwise_lt_range' (by simp) (fun i hi => ?_) (fun i hi => by simp at hi ⊢; omega) (fun k o hk hkl => ?_) h1 hno hr' (fun a' w' hr'' => ⟨_, hr''.nxt _, h2⟩)
  · simp at hi
    simp [hi]
  · have : (Array.replicate l.toArray.size false).getD k false = false := by
      simp only [Array.getD_eq_getD_getElem?, Array.getElem?_replicate]
      split <;> rfl
    rw [this] at hkl; cases hkl
theorem AWp.regU {B : Nat → Prop} (T : List Nat) (m : Nat) {id : Nat} {l : List Oper} {Q : Exit → St → Prop} {n N N' : Nat} {f : Nat → AV} {e : Nat → Ent} (hmix : P.follows .mixedOrders = true) (hok : dOKU T l.toArray = true) (hkp : keepsT T l.toArray = true) (hno : ∀ k, k ∈ T → topId (f k) = none) (hN : N + m = N')
    (h : ARun P true l.toArray N 0 l (KN Q N') ⟨n, f, ⟨e, N⟩⟩) : AWp P B (.region id l.toArray true) Q ⟨n, f, ⟨e, N⟩⟩ := by
  subst hN; exact AWp.regionU T m hmix hok hkp hno h
end Go.AM
