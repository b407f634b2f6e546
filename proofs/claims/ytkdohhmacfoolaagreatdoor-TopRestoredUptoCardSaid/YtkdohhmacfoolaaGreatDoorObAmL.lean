/- Facts. No condition. -/
import Derived.Test.YtkdohhmacfoolaaGreatDoorObAmK
set_option linter.unusedSimpArgs false
set_option linter.unusedVariables false
set_option maxRecDepth 4000
namespace Go.AM
open Go.RowKit
attribute [local semireducible] aW KN aDk wC AIn AWp cP
variable {P:Program}
def wX(op:Op):Bool:=match op with| .fieldAddr .. | .load .. | .indexAddr .. | .slice .. | .call { callee:= .builtin .len,.. } =>true|_=>false
def aKg(op:Op):Bool:=match op with| .call { callee:= .builtin .append,.. } =>true|_=>false
def bQk(T:List Nat)(ops:Array Oper)(p i:Nat):Bool:=
  aKq T ops p i||match ops[p]?,ops[i]? with
  |some op,some oi=>op.apart ops oi&&aKg op.op&&wX oi.op
  |_,_=>false
theorem aJb{H:aI}{x:AV}{j:Nat}(h:H.alive x=true)(hj:dU x=some j):H.ent j≠ .dead:=by
 intro hd;cases x<;>simp [dU] at hj<;>subst hj<;>simp [aI.alive,hd] at h
theorem bAi{d n:Nat}{x:AV}(h:fH d (some x)=some n):dU x=none:=by
 cases x with
 |v y=>rfl
 |_=>simp [fH] at h
theorem nN{ρ:Operand→AV}{d n:Nat}{o:Option Operand}{x:Operand}(h:fH d (o.map ρ)=some n)(hx:x∈o):dU (ρ x)=none:=by
 cases hx;exact bAi h
theorem bCs{H:aI}{ρ:Operand→AV}{t:TypeId}{a:Operand}{lo hi mx:Option Operand}{r:AV}(h:uK P H t (ρ a) (lo.map ρ) (hi.map ρ) (mx.map ρ)=some r):
 (∀j,dU (ρ a)=some j→H.ent j≠ .dead)∧(∀x,x∈lo∨x∈hi∨x∈mx→dU (ρ x)=none):=by
 unfold uK at h;split at h
 ·
  rename_i s hu ha;split at h
  ·
   rename_i l hh h1 h2 h3;refine ⟨fun j hj=>(by rw [ha] at hj;cases hj),fun x hx=>?_⟩;rcases hx with q|q|q
   · exact nN h2 q
   · exact nN h3 q
   · cases q;cases h1
  · cases h
 ·
  rename_i e hu ha;split at h
  ·
   rename_i h1 h2 h3 h4;refine ⟨fun j hj=>(by rw [ha] at hj;cases hj),fun x hx=>?_⟩;rcases hx with q|q|q
   · exact nN h2 q
   · exact nN h3 q
   · exact nN h4 q
  · cases h
 ·
  rename_i e xs len full hu ha;split at h
  ·
   split at h
   ·
    rename_i l hh m h2 h3 h4;refine ⟨fun j hj=>(by rw [ha] at hj;cases hj),fun x hx=>?_⟩;rcases hx with q|q|q
    · exact nN h2 q
    · exact nN h3 q
    · exact nN h4 q
   · cases h
  · cases h
 ·
  rename_i e id off len hu ha;split at h
  ·
   rename_i hent;split at h
   ·
    rename_i l hh h2 h3 h4;refine ⟨fun j hj hd=>?_,fun x hx=>?_⟩
    · rw [ha] at hj;cases hj;rw [hd] at hent;cases hent
    ·
     rcases hx with q|q|q
     · exact nN h2 q
     · exact nN h3 q
     · cases q;cases h4
   · cases h
  · cases h
 · cases h
theorem bI9{H:aI}{ρ:Operand→AV}{op:Op}{r:AV}(hs:wX op=true)(h:bG P H ρ op=some r): ∀x,x∈op.operands→ ∀j,dU (ρ x)=some j→H.ent j≠ .dead:=by
 intro x hx j hj
 cases op with
 |fieldAddr t a f=>
  simp only [bG] at h;split at h
  · rename_i ha;simp [Op.operands] at hx;subst hx;exact aJb ha hj
  · cases h
 |load t a=>
  simp only [bG] at h;simp [Op.operands] at hx;subst hx;intro hd;cases hv:ρ x<;>rw [hv] at h hj<;>simp [dU] at hj<;>subst hj<;>simp [bW,hd] at h
 |indexAddr t a i=>
  simp only [bG] at h;split at h
  ·
   rename_i ha;simp [Op.operands] at hx;rcases hx with rfl|rfl
   · exact aJb ha hj
   ·
    exfalso
    unfold kD at h;split at h<;>first|(cases h;done)|(rename_i hq;rw [hq] at hj;cases hj)
  · cases h
 |slice t a lo hi mx=>
  simp only [bG] at h;obtain ⟨h1,h2⟩:=bCs h;simp [Op.operands] at hx;rcases hx with rfl|hx|hx|hx
  · exact h1 j hj
  · rw [h2 x (.inl hx)] at hj;cases hj
  · rw [h2 x (.inr (.inl hx))] at hj;cases hj
  · rw [h2 x (.inr (.inr hx))] at hj;cases hj
 |call c=>
  obtain ⟨callee,args,ats⟩:=c
  cases callee with
  |builtin b=>
   cases b<;>first|(simp [wX] at hs;done)|skip
   simp only [bG] at h;split at h
   ·
    rename_i ha;rw [List.all_eq_true] at ha;refine aJb (ha _ (List.mem_map.2 ⟨x,?_,rfl⟩)) hj
    simpa [Op.operands,Call.operands] using hx
   · cases h
  |_=>simp [wX] at hs
 |_=>simp [wX] at hs
theorem aIb{ops:Array Oper}{id:Nat}{o:Oper}{s s':St}(h:cP P true ops id o s s')(hs:wX o.op=true):
 ∃r,s'=⟨s.n,gY s.f o.dst r,s.H⟩∧ ∀(f':Nat→AV) (G:aI),(∀t,t∈o.looksAt ops→s.f t=f' t)→(∀x,x∈o.op.operands→ ∀j,dU (aval s.f x)=some j→s.H.ent j≠ .dead→G.ent j=s.H.ent j)→cP P true ops id o ⟨s.n,f',G⟩ ⟨s.n,gY f' o.dst r,G⟩:=by
 obtain ⟨hd,h⟩:=h;split at h
 · rename_i hg;subst h;refine ⟨.v undef,rfl,fun f' G hf _=>⟨hd,?_⟩⟩;have:=fW (ops:=ops) hf;rw [hg] at this;simp only [←this]
 ·
  rename_i hg;unfold zU at h;split at h
  · rename_i f args ats ho;rw [ho] at hs;cases hs
  ·
   rename_i op hne;rcases h with ⟨r,h1,rfl⟩|⟨r,H',h1,rfl⟩|⟨r,h0,h1,rfl⟩
   · refine ⟨r,rfl,fun f' G hf hG=>⟨hd,?_⟩⟩;have e:=fW (ops:=ops) hf;rw [hg] at e;simp only [←e];refine wP (s:=⟨s.n,f',G⟩) ?_;rw [←h1];exact (xS (kE hf) fun x hx j hj=>(hG x hx j hj (bI9 hs h1 x hx j hj)).symm).symm
   ·
    exfalso
    cases ho:o.op<;>rw [ho] at h1 hs<;>first|(simp [wX] at hs;done)|(simp [dL] at h1;done)|skip
    rename_i c;obtain ⟨callee,args,ats⟩:=c
    cases callee with
    |builtin b=>cases b<;>first|(simp [wX] at hs;done)|(simp [dL] at h1;done)
    |_=>simp [wX] at hs
   ·
    refine ⟨r,rfl,fun f' G hf hG=>⟨hd,?_⟩⟩;have e:=fW (ops:=ops) hf;rw [hg] at e;simp only [←e];have hop:=kE hf;refine aB0 (s:=⟨s.n,f',G⟩) (fun x hx=>by rw [←hop x hx];exact h0 x hx) (fun o' w X ρ h2 h3 h4=>h1 o' w X ρ h2 h3 (fun x hx=>by rw [hop x hx];exact h4 x hx)) ?_;unfold tU;split
    · rename_i f args ats ho;exact absurd ho (by intro ho;exact hne _ _ _ ho)
    · rfl
 · exact h.elim
theorem aNp{H H':aI}{id:Nat}{ts tx:TypeId}{s x r:AV}(h:uH P H id ts tx s x=some (r,H'))(j:Nat):H'.ent j=H.ent j∨H'.ent j= .dead∨(j=id∧H.isFresh id=true):=by
 by_cases hj:j=id
 ·
  subst hj;refine .inr (.inr ⟨rfl,?_⟩);unfold uH at h;split at h
  ·
   split at h
   ·
    split at h
    ·
     split at h
     · rename_i q;exact q.1
     · cases h
    · cases h
   ·
    split at h
    ·
     split at h
     ·
      split at h
      · rename_i q;exact q.1
      · cases h
     · cases h
    · cases h
  · cases h
 ·
  unfold uH at h;split at h
  ·
   split at h
   ·
    split at h
    ·
     split at h
     · cases h;exact .inl (upd_ne _ _ _ _ hj)
     · cases h
    · cases h
   ·
    split at h
    ·
     split at h
     ·
      split at h
      ·
       cases h;rename_i oid _ _ _ _ _;have e: ∀(G:aI) (e:Ent),(G.put id e).ent j=G.ent j:=fun G e=>upd_ne _ _ _ _ hj;rw [e];split
       ·
        rename_i k _ _
        by_cases hk:j=k
        · subst hk;exact .inr (.inl (by simp [aI.put,upd]))
        · exact .inl (upd_ne _ _ _ _ hk)
       · exact .inl rfl
      · cases h
     · cases h
    · cases h
  · cases h
theorem bN4{ops:Array Oper}{id:Nat}{o:Oper}{s s':St}(h:cP P true ops id o s s')(hs:aKg o.op=true)(j:Nat):s'.H.ent j=s.H.ent j∨s'.H.ent j= .dead∨(j=id∧s.H.isFresh id=true):=by
 obtain ⟨hd,h⟩:=h;split at h
 · subst h;exact .inl rfl
 ·
  unfold zU at h;split at h
  · rename_i f args ats ho;rw [ho] at hs;cases hs
  ·
   rename_i op hne;rcases h with ⟨r,h1,rfl⟩|⟨r,H',h1,rfl⟩|⟨r,h0,h1,rfl⟩
   · exact .inl rfl
   ·
    cases ho:o.op<;>rw [ho] at h1 hs<;>first|(simp [aKg] at hs;done)|skip
    rename_i c;obtain ⟨callee,args,ats⟩:=c
    cases callee with
    |builtin b=>
     cases b<;>first|(simp [aKg] at hs;done)|skip
     simp only [dL] at h1;split at h1
     · exact aNp h1 j
     · cases h1
    |_=>simp [aKg] at hs
   · exact .inl rfl
 · exact h.elim
theorem bJ9{op:Op}(h:aKg op=true):aIm op=true:=by
 unfold aKg at h;split at h
 · rfl
 · cases h
theorem aSf{C:Ctx}{ops:Array Oper}{ip ii:Nat}{p i:Oper}{s s1 s2:St}{a:Act}{w:World}(hr:Real C s a w)(hp:cP P true ops ip p s s1)(hi:cP P true ops ii i s1 s2)
 (hap:p.apart ops i=true) (hcp:aKg p.op=true) (hci:wX i.op=true): ∃t,cP P true ops ii i s t∧cP P true ops ip p t s2:=by
 obtain ⟨d1,d2,d3⟩:=Oper.apart_spec hap;have hE:=bN4 hp hcp;obtain ⟨rp,H',e1,tp⟩:=aCp hp (bJ9 hcp);subst e1;obtain ⟨ri,e2,ti⟩:=aIb hi hci;subst e2
 have hopi: ∀x,x∈i.op.operands→aval (gY s.f p.dst rp) x=aval s.f x:=by
  intro x hx
  cases x with
  |tmp t=>exact dJ d1 t (List.mem_append_left _ (List.mem_filterMap.2 ⟨.tmp t,by simpa using hx,rfl⟩))
  |_=>rfl
 refine ⟨_,ti s.f s.H (fun t ht=>dJ d1 t ht) (fun x hx j hj hnd=>?_),?_⟩
 ·
  simp only [] at hj hnd;rw [hopi x hx] at hj;have hnf:=hr.notFresh hj;rcases hE j with q|q|⟨rfl,q⟩
  · exact q.symm
  · exact absurd q hnd
  · exact absurd (aI.isFresh_eq q) hnf
 · have:=tp (gY s.f i.dst ri) (fun t ht=>(dJ d3 t ht).symm);rw [←lU s.f p.dst i.dst rp ri d2] at this;exact this
section
variable {ops:Array Oper}
end
end Go.AM
