/- Facts. No condition. -/
import Derived.Test.YtkdohhmacfoolaaGreatDoorOaTiQ
set_option linter.unusedVariables false
set_option linter.unusedSimpArgs false
set_option maxRecDepth 20000
set_option maxHeartbeats 1000000
namespace Go.Proofs.YtkdohhmacfoolaaGreatDoor
open Go Go.AM Go.Pl Go.Pt
theorem bB4{l:List aC}(nd:(en l).Nodup){j:Nat}{x:aC}(hj:l[j]? =some x)(a b:Int):Br (en l) a b j↔ ¬bF (wo (en l) (x.U,x.V)) a b:=by
 have hej:(en l)[j]? =some (x.U,x.V):=by unfold en;rw [List.getElem?_map,hj];rfl
 have hlt:=(List.getElem?_eq_some_iff.1 hej).1
 have hm: ∀q,q∈(en l).eraseIdx j↔q∈wo (en l) (x.U,x.V):=fun q=>by
  rw [List.mem_eraseIdx_iff_getElem?,gM];constructor
  · rintro ⟨i,h1,h2⟩;refine ⟨List.mem_of_getElem? h2,fun e=>?_⟩;subst e;exact h1 ((List.getElem?_inj (List.getElem?_eq_some_iff.1 h2).1 nd).1 (h2.trans hej.symm))
  · rintro ⟨h1,h2⟩;obtain ⟨i,hi⟩:=List.getElem?_of_mem h1;refine ⟨i,fun e=>?_,hi⟩;subst e;rw [hi] at hej;exact h2 (Option.some.inj hej)
 unfold Br;rw [kI hm];exact ⟨fun h=>h.2,fun h=>⟨hlt,h⟩⟩
structure GD(g:aE):Prop where
  ok:grB g=true
  hw:HW g
  e:g.Edges.length<1000000000
  h:g.Hashes.length<1000000000
theorem Ti.tiB{n L:Int}{l:List aC}(h:Ti n L l):tiB L l=true:=by
 unfold Go.Proofs.YtkdohhmacfoolaaGreatDoor.tiB;rw [List.all_eq_true];intro e he
 simpa using h.le e he
theorem GD.of{g g2:aE}(h:GD g)(a:Alk g g2)(t:TG g2):GD g2:=by
 have k:=gok h.ok;have n1:=k.n1;refine ⟨?_,fun x hx=>h.hw x (by rw [←a.h];exact hx),?_,by rw [a.h];exact h.h⟩
 ·
  unfold grB
  have c:cfB g2=true:=by
   have:=h.ok;unfold grB at this;rw [Bool.and_eq_true] at this;have:=this.1;unfold cfB at this⊢;rw [a.c,a.h];exact this
  have hs:hsB g2.Hashes=true:=by rw [a.h];exact k.hs
  have tr:trB g2.Config.N g2.Edges=true:=uM.2 ⟨by rw [a.c];omega,by rw [a.c];exact k.n2,t.tb⟩;have ti:tiB g2.Config.L g2.Edges=true:=t.tiB;have fr:foB g2.Config.N (fo g2.Edges g2.Config.L)=true:=aGm.2 t.fr;rw [c,hs,tr,ti,fr];rfl
 ·
  have:(en g2.Edges).length=(en g.Edges).length:=by rw [a.e]
  rw [zE,zE] at this;have:=h.e;omega
theorem bDq{g:aE}(h:GOK g){t w:Int}(w0:0≤w)(wn:w<g.Config.N):(trl g.Config.N (pf g t) w).length=(trl g.Config.N (pf g (t+1)) w).length↔ ¬Gr g t w:=by
 have up: ∀ {x y},GT g t x y→GT g (t+1) x y:=fun h=>rT h om
 have e:(trl g.Config.N (pf g (t+1)) w).filter (fun x=>pf g t x==pf g t w)=trl g.Config.N (pf g t) w:=by
  unfold trl trF;rw [List.filter_map,List.filter_filter];congr 1;refine List.filter_congr fun k _=>?_;rw [Bool.eq_iff_iff,Bool.and_eq_true,Function.comp,beq_iff_eq,beq_iff_eq];constructor
  · exact fun q=>q.1
  · intro q;refine ⟨q,?_⟩;rw [oT] at q ⊢; exact up q
 constructor
 ·
  intro hl ⟨x,h1,h2⟩;have hs:((trl g.Config.N (pf g (t+1)) w).filter (fun x=>pf g t x==pf g t w))=trl g.Config.N (pf g (t+1)) w:=List.filter_sublist.eq_of_length (by rw [e,hl])
  have hx:x∈trl g.Config.N (pf g (t+1)) w:=aGu.2 (by
   have hr:0≤x∧x<g.Config.N:=bF.range (aEc h.rg (t+1)).inR' h1 ⟨w0,wn⟩;exact ⟨hr.1,hr.2,oT.2 h1.symm⟩)
  rw [←hs,List.mem_filter,beq_iff_eq] at hx;exact h2 (oT.1 hx.2).symm
 · intro hg;rw [←e];congr 1;rw [List.filter_eq_self];intro x hx;have:=aGu.1 hx;rw [beq_iff_eq,oT];refine Classical.byContradiction fun c=>hg ⟨x,(oT.1 this.2.2).symm,fun k=>c k.symm⟩
theorem bJj{t:Int}(h0:0≤t)(h1:t<16):IntKind.i64.wrap (t+1)=t+1:=wr0 om om
theorem aOg{g:aE}(h:GD g){t w:Int}(h0:0≤t)(ht:t<g.Config.L)(w0:0≤w)(wn:w<g.Config.N): ∃g2,kZ g t w=some g2∧aCe g t w g2:=by
 have hFU:=FU;have k:=gok h.ok;have gc:=k.gc;have n1:=k.n1;have n2:=k.n2;have l2:=k.l2;have nn:0≤g.Config.N:=by omega
 have hE:=h.e;unfold kZ;rw [aEn h.e h.h,aA,if_pos ⟨h.ok,h0,by omega,w0,wn⟩,bJj h0 om,aEn h.e h.h,aA,if_pos ⟨h.ok,by omega,by omega,w0,wn⟩,aCa h.e h.h h.hw,if_pos ⟨h.ok,h0,ht,w0,wn⟩,aA];have tg:=bDq k (t:=t) w0 wn
 by_cases c:(trl g.Config.N (pf g t) w).length=(trl g.Config.N (pf g (t+1)) w).length
 ·
  have ng:=tg.1 c;rw [bf (by simp [c])]
  cases hs:srch g t w with
  |none=>exact ⟨g,rfl,.inl ⟨.inr hs,rfl⟩⟩
  |some e=>
   obtain ⟨he,hcut⟩:=aDl hs;have hno:=aMa ng hs;have eb:=k.eb he;have hT:=k.tr;have hre:=k.rg e he;rw [show bJ1 (some e)=(e,true) from rfl];simp only [];rw [bf (c:= !true) rfl]
   have last: ∀(l1:List aC) (z:aE),trB g.Config.N l1=true→l1.length<1000000000→(∃y,y∈l1∧y.U=e.U∧y.V=e.V)→jQ t ⟨g.Config,g.Hashes,l1⟩ z e g.Config.N=some ⟨g.Config,g.Hashes,setT l1 e (t+1)⟩:=fun l1 z a b c=>by
    unfold jQ;rw [bJj h0 om];simp only [];rw [aJk a b c om om,aA]
   have hex: ∃y,y∈g.Edges∧y.U=e.U∧y.V=e.V:=⟨e,he,rfl,rfl⟩
   have plain: ¬(e.Tier=0∧CT g.Edges g.Config.L e.U e.V)→ ∃g2,jQ t g ⟨⟨0,0,0⟩,[],[]⟩ e g.Config.N=some g2∧aCe g t w g2:=fun q=>
    ⟨_,last g.Edges _ hT h.e hex,.inr ⟨ng,e,_,hs,.inr ⟨q,rfl⟩,rfl⟩⟩
   by_cases z:e.Tier=0
   ·
    have hF:=gc.fo (Int.le_refl g.Config.L);have hfl:=aL4 g.Edges g.Config.L;have hfr:=aEc k.rg g.Config.L
    have hne: ∀f,f∈fo g.Edges g.Config.L→f.U≠f.V:=fun f hf=>by
     have:=k.eb (aLk hf);unfold EB at this;omega
    obtain ⟨p1,p2⟩:=aPn nn n2 (l:=fo g.Edges g.Config.L) om hfr hne hF (u:=e.U) (v:=e.V) hre.1 hre.2.1 hre.2.2.1 hre.2.2.2;have nd:(en (fo g.Edges g.Config.L)).Nodup:=gc.ti.tb.fo_nodup _;rw [bt (by simp [z]),mL h.e,aA,hT];simp only [if_true]
    by_cases cc:CT g.Edges g.Config.L e.U e.V
    ·
     obtain ⟨p,q1,ql,q2⟩:=p1 cc
     have hmem: ∀x,x∈p↔aZy g.Edges g.Config.L e.U e.V x:=fun x=>by
      rw [q2];constructor
      · rintro ⟨j,a,b⟩;exact ⟨List.mem_of_getElem? a,(bB4 nd a _ _).1 b⟩
      · rintro ⟨a,b⟩;obtain ⟨j,hj⟩:=List.getElem?_of_mem a;exact ⟨j,hj,(bB4 nd hj _ _).2 b⟩
     have hpn:p≠[]:=fun hp=>by
      obtain ⟨x,x1,x2⟩:=bJ2 (hfr.inR nn) nd hF cc (by unfold EB at eb;omega);obtain ⟨f,hf,rfl⟩:=qU.1 x1;have:=(hmem f).2 ⟨hf,x2⟩;rw [hp] at this;cases this
     have hpl:p.length<1000000000:=by omega
     obtain ⟨top,t1,t2,t3⟩:=aRx hpn hpl;have hT':xJ g.Edges g.Config.L e.U e.V top:=⟨(hmem top).1 t2,fun y hy=>t3 y ((hmem y).2 hy)⟩
     obtain ⟨tm1,tm2,tm3⟩:=dX.1 hT'.sep.1;rw [q1,aA];simp only [];rw [t1,aA];simp only [];have tb1:trB g.Config.N (setT g.Edges top 0)=true:=uM.2 ⟨nn,n2,gc.ti.tb.setT om om⟩
     have hex1: ∃y,y∈setT g.Edges top 0∧y.U=e.U∧y.V=e.V:=⟨e,(nV ⟨top,tm1,rfl,rfl⟩).2 (.inl ⟨he,fun q=>by
      have:=gc.ti.tb.inj he tm1 q.1 q.2;subst this;omega⟩),rfl,rfl⟩
     rw [bt (by rfl),aJk hT h.e ⟨top,tm1,rfl,rfl⟩ om om,aA];exact ⟨_,last _ _ tb1 (by rw [bDf];exact h.e) hex1,.inr ⟨ng,e,_,hs,.inl ⟨z,cc,top,hT',rfl⟩,rfl⟩⟩
    · rw [p2 cc,aA];simp only [];have:iK []=some (⟨0,0,0⟩,false):=rfl;rw [this,aA];simp only [];rw [bf (by rfl)];exact plain fun q=>cc q.2
   · rw [bf (by simp [z])];exact plain fun q=>z q.1
 · refine ⟨g,?_,.inl ⟨.inl (Classical.byContradiction fun q=>c (tg.2 q)),rfl⟩⟩;rw [bt (by simp;omega)]
theorem aSe{u v:Int} : ∀(m:Nat) (t:Int) (g:aE),GD g→0≤t→t≤g.Config.L→g.Config.L<t+m→0≤u→u<g.Config.N→0≤v→v<g.Config.N→ ∀z,∃g2,mM m u v g z g.Config.L t=some g2∧xK u v t g g2∧GD g2
 |0,t,g,_,_,_,_,_,_,_,_,_=>by omega
 |m+1,t,g,h,h0,hle,hm,u0,un,v0,vn,z=>by
  have k:=gok h.ok;have l2:=k.l2;show ∃g2,wY (mM m) _ _ _ _ _ _=_∧_;unfold wY
  by_cases c:t<g.Config.L
  · obtain ⟨g1,a1,a2⟩:=aOg h h0 c u0 un;have F1:=a2.facts k.gc.ti k.gc.n0 k.gc.l2 h0 c;have h1:=h.of F1.al F1.ti;have k1:=gok h1.ok;obtain ⟨g2,b1,b2⟩:=aOg h1 h0 (by rw [F1.al.c];exact c) v0 (by rw [F1.al.c];exact vn);have F2:=b2.facts k1.gc.ti k1.gc.n0 k1.gc.l2 h0 (by rw [F1.al.c];exact c);have h2:=h1.of F2.al F2.ti;have cg:g2.Config=g.Config:=F2.al.c.trans F1.al.c;obtain ⟨g3,c1,c2,c3⟩:=aSe m (t+1) g2 h2 om (by rw [cg];omega) (by rw [cg];omega) u0 (by rw [cg];exact un) v0 (by rw [cg];exact vn) z;rw [cg] at c1;rw [bt (by simpa using c),a1,aA,b1,aA,bJj h0 om];exact ⟨g3,c1,.step c a2 b2 c2,c3⟩
  · rw [bf (by simpa using c)];exact ⟨g,rfl,.done c,h⟩
theorem aOd{g:aE}(h:GD g){u v:Int}(u0:0≤u)(un:u<g.Config.N)(v0:0≤v)(vn:v<g.Config.N): ∃g2,oH g u v=some g2∧xK u v 0 g g2∧GD g2:=by
 have hFU:=FU;have k:=gok h.ok;have:=k.l1;have:=k.l2;exact aSe aZ 0 g h (Int.le_refl _) om om u0 un v0 vn _
theorem aHn{g:aE}(hE:g.Edges.length<1000000000)(hH:g.Hashes.length<1000000000)(u v:Int):qE g u v=some (decide (grB g=true∧0≤u∧u<g.Config.N∧0≤v∧v<g.Config.N)):=by
 unfold qE;rw [fJ hE hH,aA];congr 1
 cases grB g with
 |false=>simp
 |true=>by_cases a:0≤u<;>by_cases b:u<g.Config.N<;>by_cases c:0≤v<;>by_cases d:v<g.Config.N<;>simp [a,b,c,d]
end Go.Proofs.YtkdohhmacfoolaaGreatDoor
