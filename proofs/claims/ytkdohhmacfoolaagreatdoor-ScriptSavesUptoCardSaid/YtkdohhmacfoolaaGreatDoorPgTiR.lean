/- Facts. No condition. -/
import Derived.Test.YtkdohhmacfoolaaGreatDoorPgTiP
set_option linter.unusedVariables false
set_option linter.unusedSimpArgs false
set_option maxRecDepth 20000
set_option maxHeartbeats 1000000
namespace Go.Proofs.YtkdohhmacfoolaaGreatDoor
open Go Go.AM Go.Pl Go.Pt
section
variable {n:Int}(h0:0≤n)(hn:n≤1024){l:List aE}(hl:l.length<1000000000)(hr:Rg n l)(hne: ∀e,e∈l→e.U≠e.V)(hf:eN n.toNat (en l)){v:Int}
include h0 hn hl hr hne hf
omit hl in
theorem bPk{lead:List Int}(hL:bQw (en l) n.toNat v lead): ∀(m:Nat) (x:Int) (path:List aE),0≤x→x<n→cO (en l) x v→dep (en l) x v<m→path.length+dep (en l) x v<1000000000→
 ∃p,qK m l v lead path x=some (path++p,0)∧p.length≤dep (en l) x v∧ ∀e,e∈p↔ ∃j,l[j]? =some e∧Br (en l) x v j
 |0,x,path,_,_,_,hm,_=>by omega
 |m+1,x,path,x0,xn,hc,hm,hp=>by
  have hrI:=hr.inR h0;show ∃p,zI (qK m) _ _ _ _ _=_∧_∧_;unfold zI
  by_cases e:x=v
  ·
   subst e;rw [bf (by simp)];refine ⟨[],by simp,by simp,fun e=>?_⟩;constructor
   · intro h;cases h
   · rintro ⟨j,_,b⟩;exact absurd b (aWt j)
  ·
   obtain ⟨i,y,a,b,c⟩:=hL.yes x x0 om hc e;obtain ⟨g,hg,hgo⟩:=aP9.1 b;have hmem:g∈l:=List.mem_of_getElem? hg;have hd:=bN8 hrI hf b c hc
   have hyr:0≤y∧y<n:=by
    have:=hr g hmem;rcases hgo with ⟨q1,q2⟩|⟨q1,q2⟩<;>omega
   have hcy:cO (en l) y v:=b.symm.conn.trans hc;obtain ⟨p,p1,pl,p2⟩:=bPk hL m y (path++[g]) hyr.1 hyr.2 hcy om (by simp;omega);have hlead:idx lead x=some (i:Int):=by rw [xK (k:=x.toNat) om];exact a
   rw [bt (by simp [e]),hlead,aA,bf (by simp),aA,mD,hg,aA,gG (by simp;omega),aA,aVy hg (hne _ hmem) b,aA,p1];refine ⟨g::p,by simp,by simp only [List.length_cons];omega,fun f=>?_⟩;rw [List.mem_cons,p2];constructor
   ·
    rintro (rfl|⟨j,q1,q2⟩)
    · exact ⟨i,hg,c⟩
    · exact ⟨j,q1,((aWu hrI hf b c hc j).1 q2).1⟩
   ·
    rintro ⟨j,q1,q2⟩
    by_cases q:j=i
    · subst q;rw [hg] at q1;exact .inl (Option.some.inj q1).symm
    · exact .inr ⟨j,q1,(aWu hrI hf b c hc j).2 ⟨q2,q⟩⟩
theorem aX9{u:Int}(u0:0≤u)(un:u<n)(v0:0≤v)(vn:v<n):(cO (en l) u v→ ∃p,sT n l u v=some (p,0)∧p.length≤l.length∧ ∀e,e∈p↔ ∃j,l[j]? =some e∧Br (en l) u v j)∧(¬cO (en l) u v→sT n l u v=some ([],3)):=by
 have hFU:=FU;obtain ⟨lead,l1,l2⟩:=aU8 h0 hn hl hr hne hf v0 vn;have hdl:=bWm (en l) u v;rw [zG] at hdl
 have pre:sT n l u v=qK aY l v lead [] u:=by
  unfold sT vT;rw [aFd h0 hn hl hr,aA,aK6.2 hf,jS,aA,jS,aA,bf,l1,aA];simp;omega
 rw [pre];refine ⟨fun hc=>?_,fun hc=>?_⟩
 · obtain ⟨p,p1,pl,p2⟩:=bPk h0 hn hr hne hf l2 aY u [] u0 un hc om (by simp;omega);exact ⟨p,p1,by omega,p2⟩
 ·
  have hne':u≠v:=fun e=>hc (by rw [e];exact .refl _);have hlead:idx lead u=some (-1):=by rw [xK (k:=u.toNat) om];exact l2.no u u0 om hc
  have hF:aY=(aY-1)+1:=by omega
  rw [hF];show zI (qK (aY-1)) _ _ _ _ _=_;unfold zI;rw [bt (by simp [hne']),hlead,aA,bt (by rfl)]
end
instance (y x:aE):Decidable (aO9 y x):=by unfold aO9 ltE;infer_instance
theorem aLm(t:List aE)(ht:t.length<1000000000)(z:aE): ∀(m i:Nat) (g:aE),t.length<i+m→i≤t.length→
 ∃top,oU m z g t (t.length:Int) (i:Int)=some (top,true)∧(top=g∨top∈t.drop i)∧ ¬aO9 g top∧ ∀y,y∈t.drop i→ ¬aO9 y top
 |0,i,g,_,_=>by omega
 |m+1,i,g,hm,hi=>by
  show ∃top,aAm (oU m) _ _ _ _ _=_∧_;unfold aAm aAn
  by_cases c:i<t.length
  ·
   have hb:((decide (g.Tier<t[i].Tier))||((t[i].Tier==g.Tier)&&aEq g t[i]))=decide (aO9 t[i] g):=by
    rw [Bool.eq_iff_iff,decide_eq_true_iff,Bool.or_eq_true,Bool.and_eq_true,decide_eq_true_iff,beq_iff_eq,aD0];rfl
   rw [bt (oJ c),cN c,aA,aJ4,wr1 i om,dZ c]
   have hb2: ∀o:Bool,((decide (g.Tier<t[i].Tier))||((t[i].Tier==g.Tier)&&(bif ((decide (g.Tier<t[i].Tier))==false)&&((t[i].Tier==g.Tier)==true) then aEq g t[i] else o)))=decide (aO9 t[i] g):=by
    intro o;rw [←hb];cases decide (g.Tier<t[i].Tier)<;>cases (t[i].Tier==g.Tier)<;>rfl
   rw [jS,aA,hb2]
   by_cases q:aO9 t[i] g
   ·
    obtain ⟨top,h1,h2,h3,h4⟩:=aLm t ht z m (i+1) t[i] om c;rw [bt (by simpa using q),h1];refine ⟨top,rfl,.inr ?_,fun k=>?_,fun y hy=>?_⟩
    ·
     rcases h2 with h2|h2
     · rw [h2];exact List.mem_cons_self ..
     · exact List.mem_cons_of_mem _ h2
    · unfold aO9 ltE at *; simp only at *; omega
    ·
     rcases List.mem_cons.1 hy with rfl|hy
     · exact h3
     · exact h4 y hy
   ·
    obtain ⟨top,h1,h2,h3,h4⟩:=aLm t ht z m (i+1) g om c;rw [bf (by simpa using q),h1];refine ⟨top,rfl,h2.imp id fun k=>List.mem_cons_of_mem _ k,h3,fun y hy=>?_⟩;rcases List.mem_cons.1 hy with rfl|hy
    · unfold aO9 ltE at *; simp only at *; omega
    · exact h4 y hy
  · rw [bf (oI c),List.drop_eq_nil_of_le om];exact ⟨g,rfl,.inl rfl,by unfold aO9 ltE;simp only;omega,fun y hy=>by cases hy⟩
theorem bA9{p:List aE}(hp:p≠[])(hl:p.length<1000000000): ∃top,nJ p=some (top,true)∧top∈p∧ ∀y,y∈p→ ¬aO9 y top:=by
 have hFU:=FU
 cases p with
 |nil=>exact absurd rfl hp
 |cons a t=>
  simp only [List.length_cons] at hl;obtain ⟨top,h1,h2,h3,h4⟩:=aLm t om ⟨0,0,0⟩ aY 0 a om (Nat.zero_le _)
  have hs:slc (a::t) 1 ((a::t).length:Int)=some t:=by
   have:=wF (l:=a::t) (lo:=1) (a:=1) rfl (by simp)
   simpa using this
  unfold nJ;rw [bf (by simp;omega),show idx (a::t) 0=some a from rfl,aA,hs,aA];refine ⟨top,h1,?_,fun y hy=>?_⟩
  ·
   rcases h2 with rfl|h2
   · simp
   · exact List.mem_cons_of_mem _ h2
  ·
   rcases List.mem_cons.1 hy with rfl|hy
   · exact h3
   · exact h4 y hy
theorem bUq{l:List aE}{x y:aE}(s:Int)(hu:x.U=y.U)(hv:x.V=y.V):setT l x s=setT l y s:=by unfold setT;rw [hu,hv]
theorem bQ4{n:Int}{l:List aE}(h:Tb n l){k:Nat}{e:aE}(he:l[k]? =some e)(s:Int):l.set k ⟨e.U,e.V,s⟩=setT l e s:=by
 apply List.ext_getElem?;intro j;unfold setT;rw [List.getElem?_set,List.getElem?_map];have hk:=(List.getElem?_eq_some_iff.1 he).1
 by_cases c:k=j
 · subst c;rw [if_pos rfl,if_pos hk,he];simp
 ·
  rw [if_neg c]
  cases hj:l[j]? with
  |none=>rfl
  |some f=>
   have hne: ¬(f.U=e.U∧f.V=e.V):=fun q=>by
    have:=h.inj (List.mem_of_getElem? hj) (List.mem_of_getElem? he) q.1 q.2;subst this;have hjl:=(List.getElem?_eq_some_iff.1 hj).1;have nd:=h.nodup;have e1:(en l)[k]? =(en l)[j]? :=by unfold en;rw [List.getElem?_map,List.getElem?_map,he,hj]
    exact c ((List.getElem?_inj (by rw [zG];exact hk) nd).1 e1)
   rw [Option.map_some,if_neg hne]
theorem aQe{n:Int}{l:List aE}(hT:trB n l=true)(hl:l.length<1000000000){x:aE}(hx: ∃y,y∈l∧y.U=x.U∧y.V=x.V){s:Int}(s0:0≤s)(s1:s≤16):aAz n l x.U x.V s=some (setT l x s,0):=by
 obtain ⟨n0,n1,tb⟩:=aI0.1 hT;obtain ⟨y,hy,yu,yv⟩:=hx;have rg:=tb.rg y hy;have ok:=uR.1 (tb.ok y hy);unfold aAz iL sB nX;rw [oM hl,hT,aA,jS,aA,jS,aA,jS,aA,bf (by simp;omega),aBi hl,aA];obtain ⟨k,hk⟩:=bS1 hy;rw [yu,yv] at hk;obtain ⟨_,f,h1,h2,h3⟩:=aG2 hk;rw [Nat.sub_zero] at h1
 have hf:f=y:=by
  have hfl:=List.mem_of_getElem? h1;have okf:=uR.1 (tb.ok f hfl);unfold kN at h2;simp only [Bool.or_eq_true,Bool.and_eq_true,beq_iff_eq] at h2;exact tb.inj hfl hy om om
 subst hf;have hkl:=(List.getElem?_eq_some_iff.1 h1).1;rw [hk];simp only [];rw [bf (c:= !true) rfl,gG (by simp;omega),aA,List.nil_append,mD,h1,aA,uZ hkl,aA,bQ4 tb h1,bUq s yu yv]
open Go Go.AM Go.Pl Go.Pt
theorem bMj{l:List aE}(nd:(en l).Nodup){j:Nat}{x:aE}(hj:l[j]? =some x)(a b:Int):Br (en l) a b j↔ ¬cO (wo (en l) (x.U,x.V)) a b:=by
 have hej:(en l)[j]? =some (x.U,x.V):=by unfold en;rw [List.getElem?_map,hj];rfl
 have hlt:=(List.getElem?_eq_some_iff.1 hej).1
 have hm: ∀q,q∈(en l).eraseIdx j↔q∈wo (en l) (x.U,x.V):=fun q=>by
  rw [List.mem_eraseIdx_iff_getElem?,tD];constructor
  · rintro ⟨i,h1,h2⟩;refine ⟨List.mem_of_getElem? h2,fun e=>?_⟩;subst e;exact h1 ((List.getElem?_inj (List.getElem?_eq_some_iff.1 h2).1 nd).1 (h2.trans hej.symm))
  · rintro ⟨h1,h2⟩;obtain ⟨i,hi⟩:=List.getElem?_of_mem h1;refine ⟨i,fun e=>?_,hi⟩;subst e;rw [hi] at hej;exact h2 (Option.some.inj hej)
 unfold Br;rw [sQ hm];exact ⟨fun h=>h.2,fun h=>⟨hlt,h⟩⟩
structure GD(g:aJ):Prop where
  ok:grB g=true
  hw:HW g
  e:g.Edges.length<1000000000
  h:g.Hashes.length<1000000000
theorem Ti.tiB{n L:Int}{l:List aE}(h:Ti n L l):tiB L l=true:=by
 unfold Go.Proofs.YtkdohhmacfoolaaGreatDoor.tiB;rw [List.all_eq_true];intro e he
 simpa using h.le e he
theorem GD.of{g g2:aJ}(h:GD g)(a:Alk g g2)(t:TG g2):GD g2:=by
 have k:=gok h.ok;have n1:=k.n1;refine ⟨?_,fun x hx=>h.hw x (by rw [←a.h];exact hx),?_,by rw [a.h];exact h.h⟩
 ·
  unfold grB
  have c:cfB g2=true:=by
   have:=h.ok;unfold grB at this;rw [Bool.and_eq_true] at this;have:=this.1;unfold cfB at this⊢;rw [a.c,a.h];exact this
  have hs:hsB g2.Hashes=true:=by rw [a.h];exact k.hs
  have tr:trB g2.Config.N g2.Edges=true:=aI0.2 ⟨by rw [a.c];omega,by rw [a.c];exact k.n2,t.tb⟩;have ti:tiB g2.Config.L g2.Edges=true:=t.tiB;have fr:foB g2.Config.N (fo g2.Edges g2.Config.L)=true:=aK6.2 t.fr;rw [c,hs,tr,ti,fr];rfl
 ·
  have:(en g2.Edges).length=(en g.Edges).length:=by rw [a.e]
  rw [zG,zG] at this;have:=h.e;omega
theorem bQk{g:aJ}(h:GOK g){t w:Int}(w0:0≤w)(wn:w<g.Config.N):(trl g.Config.N (pf g t) w).length=(trl g.Config.N (pf g (t+1)) w).length↔ ¬Gr g t w:=by
 have up: ∀ {x y},GT g t x y→GT g (t+1) x y:=fun h=>aDd h om
 have e:(trl g.Config.N (pf g (t+1)) w).filter (fun x=>pf g t x==pf g t w)=trl g.Config.N (pf g t) w:=by
  unfold trl trF;rw [List.filter_map,List.filter_filter];congr 1;refine List.filter_congr fun k _=>?_;rw [Bool.eq_iff_iff,Bool.and_eq_true,Function.comp,beq_iff_eq,beq_iff_eq];constructor
  · exact fun q=>q.1
  · intro q;refine ⟨q,?_⟩;rw [xP] at q ⊢; exact up q
 constructor
 ·
  intro hl ⟨x,h1,h2⟩;have hs:((trl g.Config.N (pf g (t+1)) w).filter (fun x=>pf g t x==pf g t w))=trl g.Config.N (pf g (t+1)) w:=List.filter_sublist.eq_of_length (by rw [e,hl])
  have hx:x∈trl g.Config.N (pf g (t+1)) w:=aKc.2 (by
   have hr:0≤x∧x<g.Config.N:=cO.range (aPv h.rg (t+1)).inR' h1 ⟨w0,wn⟩;exact ⟨hr.1,hr.2,xP.2 h1.symm⟩)
  rw [←hs,List.mem_filter,beq_iff_eq] at hx;exact h2 (xP.1 hx.2).symm
 · intro hg;rw [←e];congr 1;rw [List.filter_eq_self];intro x hx;have:=aKc.1 hx;rw [beq_iff_eq,xP];refine Classical.byContradiction fun c=>hg ⟨x,(xP.1 this.2.2).symm,fun k=>c k.symm⟩
theorem bYl{t:Int}(h0:0≤t)(h1:t<16):IntKind.i64.wrap (t+1)=t+1:=wr0 om om
theorem aW2{g:aJ}(h:GD g){t w:Int}(h0:0≤t)(ht:t<g.Config.L)(w0:0≤w)(wn:w<g.Config.N): ∃g2,sC g t w=some g2∧aV6 g t w g2:=by
 have hFU:=FU;have k:=gok h.ok;have gc:=k.gc;have n1:=k.n1;have n2:=k.n2;have l2:=k.l2;have nn:0≤g.Config.N:=by omega
 have hE:=h.e;unfold sC;rw [aKz h.e h.h,aA,if_pos ⟨h.ok,h0,by omega,w0,wn⟩,bYl h0 om,aKz h.e h.h,aA,if_pos ⟨h.ok,by omega,by omega,w0,wn⟩,aR2 h.e h.h h.hw,if_pos ⟨h.ok,h0,ht,w0,wn⟩,aA];have tg:=bQk k (t:=t) w0 wn
 by_cases c:(trl g.Config.N (pf g t) w).length=(trl g.Config.N (pf g (t+1)) w).length
 ·
  have ng:=tg.1 c;rw [bf (by simp [c])]
  cases hs:srch g t w with
  |none=>exact ⟨g,rfl,.inl ⟨.inr hs,rfl⟩⟩
  |some e=>
   obtain ⟨he,hcut⟩:=aTb hs;have hno:=aTa ng hs;have eb:=k.eb he;have hT:=k.tr;have hre:=k.rg e he;rw [show bY0 (some e)=(e,true) from rfl];simp only [];rw [bf (c:= !true) rfl]
   have last: ∀(l1:List aE) (z:aJ),trB g.Config.N l1=true→l1.length<1000000000→(∃y,y∈l1∧y.U=e.U∧y.V=e.V)→pZ t ⟨g.Config,g.Hashes,l1⟩ z e g.Config.N=some ⟨g.Config,g.Hashes,setT l1 e (t+1)⟩:=fun l1 z a b c=>by
    unfold pZ;rw [bYl h0 om];simp only [];rw [aQe a b c om om,aA]
   have hex: ∃y,y∈g.Edges∧y.U=e.U∧y.V=e.V:=⟨e,he,rfl,rfl⟩
   have plain: ¬(e.Tier=0∧CT g.Edges g.Config.L e.U e.V)→ ∃g2,pZ t g ⟨⟨0,0,0⟩,[],[]⟩ e g.Config.N=some g2∧aV6 g t w g2:=fun q=>
    ⟨_,last g.Edges _ hT h.e hex,.inr ⟨ng,e,_,hs,.inr ⟨q,rfl⟩,rfl⟩⟩
   by_cases z:e.Tier=0
   ·
    have hF:=gc.fo (Int.le_refl g.Config.L);have hfl:=aX5 g.Edges g.Config.L;have hfr:=aPv k.rg g.Config.L
    have hne: ∀f,f∈fo g.Edges g.Config.L→f.U≠f.V:=fun f hf=>by
     have:=k.eb (bEr hf);unfold EB at this;omega
    obtain ⟨p1,p2⟩:=aX9 nn n2 (l:=fo g.Edges g.Config.L) om hfr hne hF (u:=e.U) (v:=e.V) hre.1 hre.2.1 hre.2.2.1 hre.2.2.2;have nd:(en (fo g.Edges g.Config.L)).Nodup:=gc.ti.tb.fo_nodup _;rw [bt (by simp [z]),tX h.e,aA,hT];simp only [if_true]
    by_cases cc:CT g.Edges g.Config.L e.U e.V
    ·
     obtain ⟨p,q1,ql,q2⟩:=p1 cc
     have hmem: ∀x,x∈p↔bUp g.Edges g.Config.L e.U e.V x:=fun x=>by
      rw [q2];constructor
      · rintro ⟨j,a,b⟩;exact ⟨List.mem_of_getElem? a,(bMj nd a _ _).1 b⟩
      · rintro ⟨a,b⟩;obtain ⟨j,hj⟩:=List.getElem?_of_mem a;exact ⟨j,hj,(bMj nd hj _ _).2 b⟩
     have hpn:p≠[]:=fun hp=>by
      obtain ⟨x,x1,x2⟩:=bY2 (hfr.inR nn) nd hF cc (by unfold EB at eb;omega);obtain ⟨f,hf,rfl⟩:=oW.1 x1;have:=(hmem f).2 ⟨hf,x2⟩;rw [hp] at this;cases this
     have hpl:p.length<1000000000:=by omega
     obtain ⟨top,t1,t2,t3⟩:=bA9 hpn hpl;have hT':bFq g.Edges g.Config.L e.U e.V top:=⟨(hmem top).1 t2,fun y hy=>t3 y ((hmem y).2 hy)⟩
     obtain ⟨tm1,tm2,tm3⟩:=qS.1 hT'.sep.1;rw [q1,aA];simp only [];rw [t1,aA];simp only [];have tb1:trB g.Config.N (setT g.Edges top 0)=true:=aI0.2 ⟨nn,n2,gc.ti.tb.setT om om⟩
     have hex1: ∃y,y∈setT g.Edges top 0∧y.U=e.U∧y.V=e.V:=⟨e,(aG5 ⟨top,tm1,rfl,rfl⟩).2 (.inl ⟨he,fun q=>by
      have:=gc.ti.tb.inj he tm1 q.1 q.2;subst this;omega⟩),rfl,rfl⟩
     rw [bt (by rfl),aQe hT h.e ⟨top,tm1,rfl,rfl⟩ om om,aA];exact ⟨_,last _ _ tb1 (by rw [bQ3];exact h.e) hex1,.inr ⟨ng,e,_,hs,.inl ⟨z,cc,top,hT',rfl⟩,rfl⟩⟩
    · rw [p2 cc,aA];simp only [];have:nJ []=some (⟨0,0,0⟩,false):=rfl;rw [this,aA];simp only [];rw [bf (by rfl)];exact plain fun q=>cc q.2
   · rw [bf (by simp [z])];exact plain fun q=>z q.1
 · refine ⟨g,?_,.inl ⟨.inl (Classical.byContradiction fun q=>c (tg.2 q)),rfl⟩⟩;rw [bt (by simp;omega)]
theorem bAu{u v:Int} : ∀(m:Nat) (t:Int) (g:aJ),GD g→0≤t→t≤g.Config.L→g.Config.L<t+m→0≤u→u<g.Config.N→0≤v→v<g.Config.N→ ∀z,∃g2,tZ m u v g z g.Config.L t=some g2∧aFv u v t g g2∧GD g2
 |0,t,g,_,_,_,_,_,_,_,_,_=>by omega
 |m+1,t,g,h,h0,hle,hm,u0,un,v0,vn,z=>by
  have k:=gok h.ok;have l2:=k.l2;show ∃g2,aEb (tZ m) _ _ _ _ _ _=_∧_;unfold aEb
  by_cases c:t<g.Config.L
  · obtain ⟨g1,a1,a2⟩:=aW2 h h0 c u0 un;have F1:=a2.facts k.gc.ti k.gc.n0 k.gc.l2 h0 c;have h1:=h.of F1.al F1.ti;have k1:=gok h1.ok;obtain ⟨g2,b1,b2⟩:=aW2 h1 h0 (by rw [F1.al.c];exact c) v0 (by rw [F1.al.c];exact vn);have F2:=b2.facts k1.gc.ti k1.gc.n0 k1.gc.l2 h0 (by rw [F1.al.c];exact c);have h2:=h1.of F2.al F2.ti;have cg:g2.Config=g.Config:=F2.al.c.trans F1.al.c;obtain ⟨g3,c1,c2,c3⟩:=bAu m (t+1) g2 h2 om (by rw [cg];omega) (by rw [cg];omega) u0 (by rw [cg];exact un) v0 (by rw [cg];exact vn) z;rw [cg] at c1;rw [bt (by simpa using c),a1,aA,b1,aA,bYl h0 om];exact ⟨g3,c1,.step c a2 b2 c2,c3⟩
  · rw [bf (by simpa using c)];exact ⟨g,rfl,.done c,h⟩
theorem aVt{g:aJ}(h:GD g){u v:Int}(u0:0≤u)(un:u<g.Config.N)(v0:0≤v)(vn:v<g.Config.N): ∃g2,wU g u v=some g2∧aFv u v 0 g g2∧GD g2:=by
 have hFU:=FU;have k:=gok h.ok;have:=k.l1;have:=k.l2;exact bAu aY 0 g h (Int.le_refl _) om om u0 un v0 vn _
theorem aNw{g:aJ}(hE:g.Edges.length<1000000000)(hH:g.Hashes.length<1000000000)(u v:Int):yO g u v=some (decide (grB g=true∧0≤u∧u<g.Config.N∧0≤v∧v<g.Config.N)):=by
 unfold yO;rw [lO hE hH,aA];congr 1
 cases grB g with
 |false=>simp
 |true=>by_cases a:0≤u<;>by_cases b:u<g.Config.N<;>by_cases c:0≤v<;>by_cases d:v<g.Config.N<;>simp [a,b,c,d]
end Go.Proofs.YtkdohhmacfoolaaGreatDoor
