/- Facts. No condition. -/
import Derived.Test.YtkdohhmacfoolaaGreatDoorOaTiP
set_option linter.unusedVariables false
set_option linter.unusedSimpArgs false
set_option maxRecDepth 20000
set_option maxHeartbeats 1000000
namespace Go.Proofs.YtkdohhmacfoolaaGreatDoor
open Go Go.AM Go.Pl Go.Pt
section
variable {n:Int}(h0:0≤n)(hn:n≤1024){l:List aC}(hl:l.length<1000000000)(hr:Rg n l)(hne: ∀e,e∈l→e.U≠e.V)(hf:cU n.toNat (en l)){v:Int}
include h0 hn hl hr hne hf
omit hl in
theorem bD2{lead:List Int}(hL:bDt (en l) n.toNat v lead): ∀(m:Nat) (x:Int) (path:List aC),0≤x→x<n→bF (en l) x v→dep (en l) x v<m→path.length+dep (en l) x v<1000000000→
 ∃p,jX m l v lead path x=some (path++p,0)∧p.length≤dep (en l) x v∧ ∀e,e∈p↔ ∃j,l[j]? =some e∧Br (en l) x v j
 |0,x,path,_,_,_,hm,_=>by omega
 |m+1,x,path,x0,xn,hc,hm,hp=>by
  have hrI:=hr.inR h0;show ∃p,qR (jX m) _ _ _ _ _=_∧_∧_;unfold qR
  by_cases e:x=v
  ·
   subst e;rw [bf (by simp)];refine ⟨[],by simp,by simp,fun e=>?_⟩;constructor
   · intro h;cases h
   · rintro ⟨j,_,b⟩;exact absurd b (aPa j)
  ·
   obtain ⟨i,y,a,b,c⟩:=hL.yes x x0 om hc e;obtain ⟨g,hg,hgo⟩:=aIp.1 b;have hmem:g∈l:=List.mem_of_getElem? hg;have hd:=bBm hrI hf b c hc
   have hyr:0≤y∧y<n:=by
    have:=hr g hmem;rcases hgo with ⟨q1,q2⟩|⟨q1,q2⟩<;>omega
   have hcy:bF (en l) y v:=b.symm.conn.trans hc;obtain ⟨p,p1,pl,p2⟩:=bD2 hL m y (path++[g]) hyr.1 hyr.2 hcy om (by simp;omega);have hlead:idx lead x=some (i:Int):=by rw [vR (k:=x.toNat) om];exact a
   rw [bt (by simp [e]),hlead,aA,bf (by simp),aA,fT,hg,aA,jH (by simp;omega),aA,aOf hg (hne _ hmem) b,aA,p1];refine ⟨g::p,by simp,by simp only [List.length_cons];omega,fun f=>?_⟩;rw [List.mem_cons,p2];constructor
   ·
    rintro (rfl|⟨j,q1,q2⟩)
    · exact ⟨i,hg,c⟩
    · exact ⟨j,q1,((aPb hrI hf b c hc j).1 q2).1⟩
   ·
    rintro ⟨j,q1,q2⟩
    by_cases q:j=i
    · subst q;rw [hg] at q1;exact .inl (Option.some.inj q1).symm
    · exact .inr ⟨j,q1,(aPb hrI hf b c hc j).2 ⟨q2,q⟩⟩
theorem aPn{u:Int}(u0:0≤u)(un:u<n)(v0:0≤v)(vn:v<n):(bF (en l) u v→ ∃p,lQ n l u v=some (p,0)∧p.length≤l.length∧ ∀e,e∈p↔ ∃j,l[j]? =some e∧Br (en l) u v j)∧(¬bF (en l) u v→lQ n l u v=some ([],3)):=by
 have hFU:=FU;obtain ⟨lead,l1,l2⟩:=aN0 h0 hn hl hr hne hf v0 vn;have hdl:=bI5 (en l) u v;rw [zE] at hdl
 have pre:lQ n l u v=jX aZ l v lead [] u:=by
  unfold lQ nT;rw [zG h0 hn hl hr,aA,aGm.2 hf,cR,aA,cR,aA,bf,l1,aA];simp;omega
 rw [pre];refine ⟨fun hc=>?_,fun hc=>?_⟩
 · obtain ⟨p,p1,pl,p2⟩:=bD2 h0 hn hr hne hf l2 aZ u [] u0 un hc om (by simp;omega);exact ⟨p,p1,by omega,p2⟩
 ·
  have hne':u≠v:=fun e=>hc (by rw [e];exact .refl _);have hlead:idx lead u=some (-1):=by rw [vR (k:=u.toNat) om];exact l2.no u u0 om hc
  have hF:aZ=(aZ-1)+1:=by omega
  rw [hF];show qR (jX (aZ-1)) _ _ _ _ _=_;unfold qR;rw [bt (by simp [hne']),hlead,aA,bt (by rfl)]
end
instance (y x:aC):Decidable (aG9 y x):=by unfold aG9 ltE;infer_instance
theorem aFc(t:List aC)(ht:t.length<1000000000)(z:aC): ∀(m i:Nat) (g:aC),t.length<i+m→i≤t.length→
 ∃top,jJ m z g t (t.length:Int) (i:Int)=some (top,true)∧(top=g∨top∈t.drop i)∧ ¬aG9 g top∧ ∀y,y∈t.drop i→ ¬aG9 y top
 |0,i,g,_,_=>by omega
 |m+1,i,g,hm,hi=>by
  show ∃top,rV (jJ m) _ _ _ _ _=_∧_;unfold rV rW
  by_cases c:i<t.length
  ·
   have hb:((decide (g.Tier<t[i].Tier))||((t[i].Tier==g.Tier)&&nG g t[i]))=decide (aG9 t[i] g):=by
    rw [Bool.eq_iff_iff,decide_eq_true_iff,Bool.or_eq_true,Bool.and_eq_true,decide_eq_true_iff,beq_iff_eq,uQ];rfl
   rw [bt (kJ c),dH c,aA,aCx,wr1 i om,gH c]
   have hb2: ∀o:Bool,((decide (g.Tier<t[i].Tier))||((t[i].Tier==g.Tier)&&(bif ((decide (g.Tier<t[i].Tier))==false)&&((t[i].Tier==g.Tier)==true) then nG g t[i] else o)))=decide (aG9 t[i] g):=by
    intro o;rw [←hb];cases decide (g.Tier<t[i].Tier)<;>cases (t[i].Tier==g.Tier)<;>rfl
   rw [cR,aA,hb2]
   by_cases q:aG9 t[i] g
   ·
    obtain ⟨top,h1,h2,h3,h4⟩:=aFc t ht z m (i+1) t[i] om c;rw [bt (by simpa using q),h1];refine ⟨top,rfl,.inr ?_,fun k=>?_,fun y hy=>?_⟩
    ·
     rcases h2 with h2|h2
     · rw [h2];exact List.mem_cons_self ..
     · exact List.mem_cons_of_mem _ h2
    · unfold aG9 ltE at *; simp only at *; omega
    ·
     rcases List.mem_cons.1 hy with rfl|hy
     · exact h3
     · exact h4 y hy
   ·
    obtain ⟨top,h1,h2,h3,h4⟩:=aFc t ht z m (i+1) g om c;rw [bf (by simpa using q),h1];refine ⟨top,rfl,h2.imp id fun k=>List.mem_cons_of_mem _ k,h3,fun y hy=>?_⟩;rcases List.mem_cons.1 hy with rfl|hy
    · unfold aG9 ltE at *; simp only at *; omega
    · exact h4 y hy
  · rw [bf (lC c),List.drop_eq_nil_of_le om];exact ⟨g,rfl,.inl rfl,by unfold aG9 ltE;simp only;omega,fun y hy=>by cases hy⟩
theorem aRx{p:List aC}(hp:p≠[])(hl:p.length<1000000000): ∃top,iK p=some (top,true)∧top∈p∧ ∀y,y∈p→ ¬aG9 y top:=by
 have hFU:=FU
 cases p with
 |nil=>exact absurd rfl hp
 |cons a t=>
  simp only [List.length_cons] at hl;obtain ⟨top,h1,h2,h3,h4⟩:=aFc t om ⟨0,0,0⟩ aZ 0 a om (Nat.zero_le _)
  have hs:slc (a::t) 1 ((a::t).length:Int)=some t:=by
   have:=aAk (l:=a::t) (lo:=1) (a:=1) rfl (by simp)
   simpa using this
  unfold iK;rw [bf (by simp;omega),show idx (a::t) 0=some a from rfl,aA,hs,aA];refine ⟨top,h1,?_,fun y hy=>?_⟩
  ·
   rcases h2 with rfl|h2
   · simp
   · exact List.mem_cons_of_mem _ h2
  ·
   rcases List.mem_cons.1 hy with rfl|hy
   · exact h3
   · exact h4 y hy
theorem bGi{l:List aC}{x y:aC}(s:Int)(hu:x.U=y.U)(hv:x.V=y.V):setT l x s=setT l y s:=by unfold setT;rw [hu,hv]
theorem bDg{n:Int}{l:List aC}(h:Tb n l){k:Nat}{e:aC}(he:l[k]? =some e)(s:Int):l.set k ⟨e.U,e.V,s⟩=setT l e s:=by
 apply List.ext_getElem?;intro j;unfold setT;rw [List.getElem?_set,List.getElem?_map];have hk:=(List.getElem?_eq_some_iff.1 he).1
 by_cases c:k=j
 · subst c;rw [if_pos rfl,if_pos hk,he];simp
 ·
  rw [if_neg c]
  cases hj:l[j]? with
  |none=>rfl
  |some f=>
   have hne: ¬(f.U=e.U∧f.V=e.V):=fun q=>by
    have:=h.inj (List.mem_of_getElem? hj) (List.mem_of_getElem? he) q.1 q.2;subst this;have hjl:=(List.getElem?_eq_some_iff.1 hj).1;have nd:=h.nodup;have e1:(en l)[k]? =(en l)[j]? :=by unfold en;rw [List.getElem?_map,List.getElem?_map,he,hj]
    exact c ((List.getElem?_inj (by rw [zE];exact hk) nd).1 e1)
   rw [Option.map_some,if_neg hne]
theorem aJk{n:Int}{l:List aC}(hT:trB n l=true)(hl:l.length<1000000000){x:aC}(hx: ∃y,y∈l∧y.U=x.U∧y.V=x.V){s:Int}(s0:0≤s)(s1:s≤16):sD n l x.U x.V s=some (setT l x s,0):=by
 obtain ⟨n0,n1,tb⟩:=uM.1 hT;obtain ⟨y,hy,yu,yv⟩:=hx;have rg:=tb.rg y hy;have ok:=jC.1 (tb.ok y hy);unfold sD eI kW iS;rw [kV hl,hT,aA,cR,aA,cR,aA,cR,aA,bf (by simp;omega),yI hl,aA];obtain ⟨k,hk⟩:=aWg hy;rw [yu,yv] at hk;obtain ⟨_,f,h1,h2,h3⟩:=sS hk;rw [Nat.sub_zero] at h1
 have hf:f=y:=by
  have hfl:=List.mem_of_getElem? h1;have okf:=jC.1 (tb.ok f hfl);unfold fB at h2;simp only [Bool.or_eq_true,Bool.and_eq_true,beq_iff_eq] at h2;exact tb.inj hfl hy om om
 subst hf;have hkl:=(List.getElem?_eq_some_iff.1 h1).1;rw [hk];simp only [];rw [bf (c:= !true) rfl,jH (by simp;omega),aA,List.nil_append,fT,h1,aA,oN hkl,aA,bDg tb h1,bGi s yu yv]
end Go.Proofs.YtkdohhmacfoolaaGreatDoor
