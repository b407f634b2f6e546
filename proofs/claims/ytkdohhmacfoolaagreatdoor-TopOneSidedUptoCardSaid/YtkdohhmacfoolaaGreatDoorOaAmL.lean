/- Facts. No condition. -/
import Derived.Test.YtkdohhmacfoolaaGreatDoorOaAmK
set_option linter.unusedSimpArgs false
set_option linter.unusedVariables false
set_option maxRecDepth 4000
namespace Go.AM
open Go.RowKit
attribute [local semireducible] aR KN aA3 rL AIn AWp bR
variable {P:Program}
def rY(op:Op):Bool:=match op with| .fieldAddr .. | .load .. | .indexAddr .. | .slice .. | .call { callee:= .builtin .len,.. } =>true|_=>false
def aG5(op:Op):Bool:=match op with| .call { callee:= .builtin .append,.. } =>true|_=>false
def bH4(T:List Nat)(ops:Array Oper)(p i:Nat):Bool:=
  aGh T ops p i||match ops[p]?,ops[i]? with
  |some op,some oi=>op.apart ops oi&&aG5 op.op&&rY oi.op
  |_,_=>false
theorem aF1{H:aG}{x:AV}{j:Nat}(h:H.alive x=true)(hj:cW x=some j):H.ent j≠ .dead:=by
 intro hd;cases x<;>simp [cW] at hj<;>subst hj<;>simp [aG.alive,hd] at h
theorem aTo{d n:Nat}{x:AV}(h:dS d (some x)=some n):cW x=none:=by
 cases x with
 |v y=>rfl
 |_=>simp [dS] at h
theorem kQ{ρ:Operand→AV}{d n:Nat}{o:Option Operand}{x:Operand}(h:dS d (o.map ρ)=some n)(hx:x∈o):cW (ρ x)=none:=by
 cases hx;exact aTo h
theorem aVp{H:aG}{ρ:Operand→AV}{t:TypeId}{a:Operand}{lo hi mx:Option Operand}{r:AV}(h:qK P H t (ρ a) (lo.map ρ) (hi.map ρ) (mx.map ρ)=some r):
 (∀j,cW (ρ a)=some j→H.ent j≠ .dead)∧(∀x,x∈lo∨x∈hi∨x∈mx→cW (ρ x)=none):=by
 unfold qK at h;split at h
 ·
  rename_i s hu ha;split at h
  ·
   rename_i l hh h1 h2 h3;refine ⟨fun j hj=>(by rw [ha] at hj;cases hj),fun x hx=>?_⟩;rcases hx with q|q|q
   · exact kQ h2 q
   · exact kQ h3 q
   · cases q;cases h1
  · cases h
 ·
  rename_i e hu ha;split at h
  ·
   rename_i h1 h2 h3 h4;refine ⟨fun j hj=>(by rw [ha] at hj;cases hj),fun x hx=>?_⟩;rcases hx with q|q|q
   · exact kQ h2 q
   · exact kQ h3 q
   · exact kQ h4 q
  · cases h
 ·
  rename_i e xs len full hu ha;split at h
  ·
   split at h
   ·
    rename_i l hh m h2 h3 h4;refine ⟨fun j hj=>(by rw [ha] at hj;cases hj),fun x hx=>?_⟩;rcases hx with q|q|q
    · exact kQ h2 q
    · exact kQ h3 q
    · exact kQ h4 q
   · cases h
  · cases h
 ·
  rename_i e id off len hu ha;split at h
  ·
   rename_i hent;split at h
   ·
    rename_i l hh h2 h3 h4;refine ⟨fun j hj hd=>?_,fun x hx=>?_⟩
    · rw [ha] at hj;cases hj;rw [hd] at hent;cases hent
    ·
     rcases hx with q|q|q
     · exact kQ h2 q
     · exact kQ h3 q
     · cases q;cases h4
   · cases h
  · cases h
 · cases h
theorem aZw{H:aG}{ρ:Operand→AV}{op:Op}{r:AV}(hs:rY op=true)(h:aX P H ρ op=some r): ∀x,x∈op.operands→ ∀j,cW (ρ x)=some j→H.ent j≠ .dead:=by
 intro x hx j hj
 cases op with
 |fieldAddr t a f=>
  simp only [aX] at h;split at h
  · rename_i ha;simp [Op.operands] at hx;subst hx;exact aF1 ha hj
  · cases h
 |load t a=>
  simp only [aX] at h;simp [Op.operands] at hx;subst hx;intro hd;cases hv:ρ x<;>rw [hv] at h hj<;>simp [cW] at hj<;>subst hj<;>simp [bP,hd] at h
 |indexAddr t a i=>
  simp only [aX] at h;split at h
  ·
   rename_i ha;simp [Op.operands] at hx;rcases hx with rfl|rfl
   · exact aF1 ha hj
   ·
    exfalso
    unfold iD at h;split at h<;>first|(cases h;done)|(rename_i hq;rw [hq] at hj;cases hj)
  · cases h
 |slice t a lo hi mx=>
  simp only [aX] at h;obtain ⟨h1,h2⟩:=aVp h;simp [Op.operands] at hx;rcases hx with rfl|hx|hx|hx
  · exact h1 j hj
  · rw [h2 x (.inl hx)] at hj;cases hj
  · rw [h2 x (.inr (.inl hx))] at hj;cases hj
  · rw [h2 x (.inr (.inr hx))] at hj;cases hj
 |call c=>
  obtain ⟨callee,args,ats⟩:=c
  cases callee with
  |builtin b=>
   cases b<;>first|(simp [rY] at hs;done)|skip
   simp only [aX] at h;split at h
   ·
    rename_i ha;rw [List.all_eq_true] at ha;refine aF1 (ha _ (List.mem_map.2 ⟨x,?_,rfl⟩)) hj
    simpa [Op.operands,Call.operands] using hx
   · cases h
  |_=>simp [rY] at hs
 |_=>simp [rY] at hs
theorem aE0{ops:Array Oper}{id:Nat}{o:Oper}{s s':St}(h:bR P true ops id o s s')(hs:rY o.op=true):
 ∃r,s'=⟨s.n,eR s.f o.dst r,s.H⟩∧ ∀(f':Nat→AV) (G:aG),(∀t,t∈o.looksAt ops→s.f t=f' t)→(∀x,x∈o.op.operands→ ∀j,cW (aval s.f x)=some j→s.H.ent j≠ .dead→G.ent j=s.H.ent j)→bR P true ops id o ⟨s.n,f',G⟩ ⟨s.n,eR f' o.dst r,G⟩:=by
 obtain ⟨hd,h⟩:=h;split at h
 · rename_i hg;subst h;refine ⟨.v undef,rfl,fun f' G hf _=>⟨hd,?_⟩⟩;have:=dW (ops:=ops) hf;rw [hg] at this;simp only [←this]
 ·
  rename_i hg;unfold tY at h;split at h
  · rename_i f args ats ho;rw [ho] at hs;cases hs
  ·
   rename_i op hne;rcases h with ⟨r,h1,rfl⟩|⟨r,H',h1,rfl⟩|⟨r,h0,h1,rfl⟩
   · refine ⟨r,rfl,fun f' G hf hG=>⟨hd,?_⟩⟩;have e:=dW (ops:=ops) hf;rw [hg] at e;simp only [←e];refine rU (s:=⟨s.n,f',G⟩) ?_;rw [←h1];exact (sM (iE hf) fun x hx j hj=>(hG x hx j hj (aZw hs h1 x hx j hj)).symm).symm
   ·
    exfalso
    cases ho:o.op<;>rw [ho] at h1 hs<;>first|(simp [rY] at hs;done)|(simp [cL] at h1;done)|skip
    rename_i c;obtain ⟨callee,args,ats⟩:=c
    cases callee with
    |builtin b=>cases b<;>first|(simp [rY] at hs;done)|(simp [cL] at h1;done)
    |_=>simp [rY] at hs
   ·
    refine ⟨r,rfl,fun f' G hf hG=>⟨hd,?_⟩⟩;have e:=dW (ops:=ops) hf;rw [hg] at e;simp only [←e];have hop:=iE hf;refine vL (s:=⟨s.n,f',G⟩) (fun x hx=>by rw [←hop x hx];exact h0 x hx) (fun o' w X ρ h2 h3 h4=>h1 o' w X ρ h2 h3 (fun x hx=>by rw [hop x hx];exact h4 x hx)) ?_;unfold pF;split
    · rename_i f args ats ho;exact absurd ho (by intro ho;exact hne _ _ _ ho)
    · rfl
 · exact h.elim
theorem aIq{H H':aG}{id:Nat}{ts tx:TypeId}{s x r:AV}(h:qG P H id ts tx s x=some (r,H'))(j:Nat):H'.ent j=H.ent j∨H'.ent j= .dead∨(j=id∧H.isFresh id=true):=by
 by_cases hj:j=id
 ·
  subst hj;refine .inr (.inr ⟨rfl,?_⟩);unfold qG at h;split at h
  ·
   split at h
   ·
    split at h
    ·
     split at h
     · rename_i q;exact q.1
     · cases h
    · cases h
   ·
    split at h
    ·
     split at h
     ·
      split at h
      · rename_i q;exact q.1
      · cases h
     · cases h
    · cases h
  · cases h
 ·
  unfold qG at h;split at h
  ·
   split at h
   ·
    split at h
    ·
     split at h
     · cases h;exact .inl (upd_ne _ _ _ _ hj)
     · cases h
    · cases h
   ·
    split at h
    ·
     split at h
     ·
      split at h
      ·
       cases h;rename_i oid _ _ _ _ _;have e: ∀(G:aG) (e:Ent),(G.put id e).ent j=G.ent j:=fun G e=>upd_ne _ _ _ _ hj;rw [e];split
       ·
        rename_i k _ _
        by_cases hk:j=k
        · subst hk;exact .inr (.inl (by simp [aG.put,upd]))
        · exact .inl (upd_ne _ _ _ _ hk)
       · exact .inl rfl
      · cases h
     · cases h
    · cases h
  · cases h
theorem bE6{ops:Array Oper}{id:Nat}{o:Oper}{s s':St}(h:bR P true ops id o s s')(hs:aG5 o.op=true)(j:Nat):s'.H.ent j=s.H.ent j∨s'.H.ent j= .dead∨(j=id∧s.H.isFresh id=true):=by
 obtain ⟨hd,h⟩:=h;split at h
 · subst h;exact .inl rfl
 ·
  unfold tY at h;split at h
  · rename_i f args ats ho;rw [ho] at hs;cases hs
  ·
   rename_i op hne;rcases h with ⟨r,h1,rfl⟩|⟨r,H',h1,rfl⟩|⟨r,h0,h1,rfl⟩
   · exact .inl rfl
   ·
    cases ho:o.op<;>rw [ho] at h1 hs<;>first|(simp [aG5] at hs;done)|skip
    rename_i c;obtain ⟨callee,args,ats⟩:=c
    cases callee with
    |builtin b=>
     cases b<;>first|(simp [aG5] at hs;done)|skip
     simp only [cL] at h1;split at h1
     · exact aIq h1 j
     · cases h1
    |_=>simp [aG5] at hs
   · exact .inl rfl
 · exact h.elim
theorem bAx{op:Op}(h:aG5 op=true):aE9 op=true:=by
 unfold aG5 at h;split at h
 · rfl
 · cases h
theorem aMy{C:Ctx}{ops:Array Oper}{ip ii:Nat}{p i:Oper}{s s1 s2:St}{a:Act}{w:World}(hr:Real C s a w)(hp:bR P true ops ip p s s1)(hi:bR P true ops ii i s1 s2)
 (hap:p.apart ops i=true) (hcp:aG5 p.op=true) (hci:rY i.op=true): ∃t,bR P true ops ii i s t∧bR P true ops ip p t s2:=by
 obtain ⟨d1,d2,d3⟩:=Oper.apart_spec hap;have hE:=bE6 hp hcp;obtain ⟨rp,H',e1,tp⟩:=yW hp (bAx hcp);subst e1;obtain ⟨ri,e2,ti⟩:=aE0 hi hci;subst e2
 have hopi: ∀x,x∈i.op.operands→aval (eR s.f p.dst rp) x=aval s.f x:=by
  intro x hx
  cases x with
  |tmp t=>exact cG d1 t (List.mem_append_left _ (List.mem_filterMap.2 ⟨.tmp t,by simpa using hx,rfl⟩))
  |_=>rfl
 refine ⟨_,ti s.f s.H (fun t ht=>cG d1 t ht) (fun x hx j hj hnd=>?_),?_⟩
 ·
  simp only [] at hj hnd;rw [hopi x hx] at hj;have hnf:=hr.notFresh hj;rcases hE j with q|q|⟨rfl,q⟩
  · exact q.symm
  · exact absurd q hnd
  · exact absurd (aG.isFresh_eq q) hnf
 · have:=tp (eR s.f i.dst ri) (fun t ht=>(cG d3 t ht).symm);rw [←jI s.f p.dst i.dst rp ri d2] at this;exact this
section
variable {ops:Array Oper}
end
end Go.AM
