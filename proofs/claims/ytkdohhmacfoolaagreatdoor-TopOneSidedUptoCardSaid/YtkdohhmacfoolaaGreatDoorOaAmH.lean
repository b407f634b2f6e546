/- Facts. No condition. -/
import Derived.Test.YtkdohhmacfoolaaGreatDoorOaGJ1
import GoSem.ClaimOpenFrom
set_option maxRecDepth 20000
namespace Go.Proofs.YtkdohhmacfoolaaGreatDoor
open Go Go.AM
theorem aDo:iF=some true:=by decide+kernel
end Go.Proofs.YtkdohhmacfoolaaGreatDoor
set_option linter.unusedVariables false
set_option linter.unusedSimpArgs false
set_option maxHeartbeats 1000000
namespace Go.Proofs.YtkdohhmacfoolaaGreatDoor
open Go Go.AM Go.Pl Go.Pt
theorem bCz{g:aE}(h:GD g)(n:NoL g){c:aT}(hc:g.Config=c): ∀(m j:Nat),g.Edges.length<j+m→j≤g.Edges.length→
 jG m c g (g.Edges.map bar) (pt g.Config.N (kf g)) (pt g.Config.N (g.Edges.map bar)) ((btw (cI (en (kf g))) (g.Edges.take j)).length:Int) (g.Edges.map bar) ((g.Edges.map bar).length:Int) (j:Int)=some true
 |0,j,_,_=>by omega
 |m+1,j,hm,hj=>by
  have hE:=h.e;have k:=gok h.ok;have n1:=k.n1;have n2:=k.n2;have hbl:=aG8 g.Edges;have cN:c.N=g.Config.N:=by rw [hc]
  have kl:((pt g.Config.N (kf g)).length:Int)=c.N:=by rw [aD8,cN];omega
  show uZ (jG m) _ _ _ _ _ _ _ _ _=_;unfold uZ qF
  by_cases q:j<g.Edges.length
  ·
   have q':j<(g.Edges.map bar).length:=by rw [hbl];exact q
   have ok:=jC.1 ((uM.1 k.tr).2.2.ok _ (List.getElem_mem q));have e0:((((pt g.Config.N (kf g)).length:Int) !=c.N)==false)=true:=by rw [kl];simp
   have e1:(((pt g.Config.N (kf g)).length:Int) !=c.N)=false:=by rw [kl];simp
   have hU:(g.Edges.map bar)[j].U=g.Edges[j].U:=by rw [List.getElem_map];rfl
   have hV:(g.Edges.map bar)[j].V=g.Edges[j].V:=by rw [List.getElem_map];rfl
   have tk:g.Edges.take j++[g.Edges[j]]=g.Edges.take (j+1):=(sE q).symm
   have hb:(btw (cI (en (kf g))) (g.Edges.take j)).length≤g.Edges.length:=by
    have:=List.length_filter_le (fun e:aC=>cI (en (kf g)) e.U !=cI (en (kf g)) e.V) (g.Edges.take j);unfold btw;have:=List.length_take_le j g.Edges;omega
   have ih:=bCz h n hc m (j+1) om q;have hsp:btw (cI (en (kf g))) (g.Edges.take (j+1))=btw (cI (en (kf g))) (g.Edges.take j)++btw (cI (en (kf g))) [g.Edges[j]]:=by rw [←tk];unfold btw;rw [List.filter_append]
   rw [bt (kJ q'),dH q',aA,e0,gt' (by rfl),hU,hV,vZ om om,aA,gt' (by rfl),vZ om om,aA,e1,Bool.false_or,wr1 j om]
   cases hx:(cI (en (kf g)) g.Edges[j].U !=cI (en (kf g)) g.Edges[j].V) with
   |true=>
    rw [bt rfl,wr1 _ om]
    have:(btw (cI (en (kf g))) (g.Edges.take (j+1))).length=(btw (cI (en (kf g))) (g.Edges.take j)).length+1:=by
     rw [hsp,List.length_append];unfold btw;rw [List.filter_cons,hx];rfl
    rw [←this];exact ih
   |false=>
    rw [bf rfl]
    have:(btw (cI (en (kf g))) (g.Edges.take (j+1))).length=(btw (cI (en (kf g))) (g.Edges.take j)).length:=by
     rw [hsp,List.length_append];unfold btw;rw [List.filter_cons,hx];rfl
    rw [←this];exact ih
  ·
   have e:g.Edges.take j=g.Edges:=List.take_of_length_le om;have rgb:Rg g.Config.N (g.Edges.map bar):=(uM.1 (aQt k.tr)).2.2.rg
   have rf:kR (pt g.Config.N (kf g)) (pt g.Config.N (g.Edges.map bar))=some true:=
    aLt om k.n2 (aEc k.rg _) rgb fun x y q=>by rw [bBo];exact q.mono (bBp fun e he=>aLk he)
   have x2:=(aXr (n:=g.Config.N) om (l:=kf g) (l':=g.Edges) (fun e he=>aLk he) k.rg).2
   have hx:(decide (pt g.Config.N (kf g)=pt g.Config.N g.Edges)==(((btw (cI (en (kf g))) g.Edges).length:Int)==0))=true:=by
    by_cases q:(btw (cI (en (kf g))) g.Edges).length=0
    · rw [decide_eq_true (x2.2 q),q];rfl
    · rw [decide_eq_false (fun e=>q (x2.1 e)),beq_false_of_ne (by omega:((btw (cI (en (kf g))) g.Edges).length:Int)≠0)];rfl
   have hl:((g.Edges.length:Int)==((g.Edges.map bar).length:Int))=true:=by rw [hbl];simp
   rw [bf (lC (by rw [hbl];exact q)),e,rf,aA,gt' (by rfl),aN9 h.hw h.e h.h,aA,h.ok,decide_eq_true (n.nil k),gt' (by rfl),aMw h.e h.h,aA,h.ok];simp only [Bool.true_and];rw [hx,hl,gt' (by rfl),aDo,aA];rfl
theorem bCy{g:aE}(h:GD g)(n:NoL g){c:aT}(hc:g.Config=c): ∀(m j:Nat),(fo g.Edges c.L).length<j+m→j≤(fo g.Edges c.L).length→
 lO m c g (g.Edges.map bar) (pt g.Config.N (kf g)) (pt g.Config.N (g.Edges.map bar)) (fo g.Edges c.L) ((fo g.Edges c.L).length:Int) (j:Int)=some true
 |0,j,_,_=>by omega
 |m+1,j,hm,hj=>by
  have hFU:=FU;have hE:=h.e;have hbl:=aG8 g.Edges;have hfl:(fo g.Edges c.L).length≤g.Edges.length:=List.length_filter_le _ _;show uY (lO m) _ _ _ _ _ _ _ _=_;unfold uY
  by_cases q:j<(fo g.Edges c.L).length
  ·
   obtain ⟨i,hi⟩:=aWg (l:=g.Edges) (e:=(fo g.Edges c.L)[j]) (aLk (List.getElem_mem q))
   have hf:lZ (g.Edges.map bar) (fo g.Edges c.L)[j].U (fo g.Edges c.L)[j].V=some ((i:Nat):Int):=by
    rw [aBp (by rw [hbl];exact hE),aPk,hi]
   rw [bt (kJ q),dH q,aA,hf,aA,bf (by simp),wr1 j om];exact bCy h n hc m (j+1) om q
  · have:=bCz h n hc aZ 0 om (Nat.zero_le _);rw [List.take_zero] at this;rw [bf (lC q)];exact this
theorem aKs{L:List bG}(hL:L.length<1000){c:aT}(t6:aE): ∀(m i:Nat) (g:aE),L.length<i+m→i≤L.length→GD g→NoL g→g.Config=c→g.Edges.length≤i→
 ∃g',dF m c t6 g (g.Edges.map bar) L (L.length:Int) (i:Int)=some (g',g'.Edges.map bar,true)∧GD g'∧NoL g'∧g'.Config=c
 |0,i,g,_,_,_,_,_,_=>by omega
 |m+1,i,g,hm,hi,h,n,hc,he=>by
  have hbl:=aG8 g.Edges;have k:=gok h.ok;have cN:c.N=g.Config.N:=by rw [hc]
  by_cases q:i<L.length
  ·
   have tb:=aQt k.tr;obtain ⟨⟨a,ae⟩,a1,a2⟩:=aSn tb om L[i].U L[i].V;obtain ⟨⟨b,be⟩,b1,b2⟩:=aMh h om L[i].U L[i].V;obtain ⟨⟨r,re⟩,r1,r2⟩:=aM0 tb om L[i].U L[i].V;obtain ⟨⟨d,de⟩,d1,d2⟩:=aMg h L[i].U L[i].V;obtain ⟨x1,x2⟩:=bEx b2 a2;obtain ⟨y1,y2⟩:=bEm d2 r2;simp only [] at x1 x2 y1 y2;subst x1 x2 y1 y2;have fb:=bEw h b2;have fd:=bEk h d2;have lb:b.Edges.length≤g.Edges.length+1:=fb.len;have ld:d.Edges.length≤g.Edges.length+1:=fd.len
   cases hG:L[i].Gone with
   |true=>
    obtain ⟨g',e,r⟩:=aKs hL t6 m (i+1) d om q fd.gd (fd.nol n) (fd.c.trans hc) om;refine ⟨g',?_,r⟩;show eF (dF m) _ _ _ _ _ _ _=_;unfold eF fZ;rw [bt (kJ q),dH q,aA,hG,bt rfl,d1,aA,cN];simp only [];rw [r1,aA,wr1 i om];exact e
   |false=>
    obtain ⟨g',e,r⟩:=aKs hL t6 m (i+1) b om q fb.gd (fb.nol n) (fb.c.trans hc) om;refine ⟨g',?_,r⟩;show eF (dF m) _ _ _ _ _ _ _=_;unfold eF fZ;rw [bt (kJ q),dH q,aA,hG,bf rfl,b1,aA,cN];simp only [];rw [a1,aA,wr1 i om];exact e
  · refine ⟨g,?_,h,n,hc⟩;show eF (dF m) _ _ _ _ _ _ _=_;unfold eF;rw [bf (lC q)]
theorem aMn(c:aT)(hs:List bS)(acts:List bG)(hw: ∀x,x∈hs→HOK x)(hl:hs.length≤8796093022207):nM c hs acts=some true:=by
 have hFU:=FU;unfold nM jD;obtain ⟨n,n1,n2⟩:=aS5 c acts;rw [n1,aA,aT2 c hl,aA]
 cases hg:grB ⟨c,hs,[]⟩ with
 |false=>
  simp [aDo]
 |true=>
  simp only [if_true];have hl:=bEq hg;rcases n2 with n2|⟨k,rfl,k1,k2,_⟩
  · rw [bt (by simp [n2]),aA,bt (by rfl),aDo];rfl
  ·
   have h:GD ⟨c,hs,[]⟩:=⟨hg,hw,by simp,by simp;omega⟩
   obtain ⟨g,e,gd,nl,hc⟩:=aKs (L:=acts.take k) (c:=c) (by rw [List.length_take];omega) ⟨⟨0,0,0⟩,[],[]⟩ aZ 0 _ (by rw [List.length_take];omega) (Nat.zero_le _) h (NoL.new c hs) rfl (by simp);have e':dF aZ c ⟨⟨0,0,0⟩,[],[]⟩ ⟨c,hs,[]⟩ [] (acts.take k) ((acts.take k).length:Int) 0=some (g,g.Edges.map bar,true):=e;have kg:=gok gd.ok;have cN:c.N=g.Config.N:=by rw [hc]
   have rgb:Rg g.Config.N (g.Edges.map bar):=(uM.1 (aQt kg.tr)).2.2.rg;rw [bf (by simp),bAo k2,aA,e',aA,bf (by rfl),bC6 gd,aA,cN,aVn (by have:=kg.n1;omega) kg.n2 (by rw [aG8];exact gd.e) rgb,aA,aLz gd.e,aA];exact bCy gd nl hc aZ 0 (by have:(fo g.Edges c.L).length≤g.Edges.length:=List.length_filter_le _ _;have:=gd.e;omega) (Nat.zero_le _)
theorem aMo(c:aT)(hs:List bS)(acts:List bG){A P B C:Prop}(_:A)(w:WH hs P)(_:B)(b:hs.length≤1048576)(_:C):nM c hs acts=some true:=aMn c hs acts w.hw om
end Go.Proofs.YtkdohhmacfoolaaGreatDoor
namespace Go.AM
open Go
theorem aQx: ∀(w r:List Char),Char.ofNat 32∉w→wordsSigns (w++Char.ofNat 32::r)=w::wordsSigns r
 |[],r,_=>by show wordsSigns (Char.ofNat 32::r)=_;rw [wordsSigns.eq_2]
 |c::w,r,h=>by
  have hc: ¬c=Char.ofNat 32:=fun e=>h (by simp [e]);have ih:=aQx w r (fun m=>h (List.mem_cons_of_mem _ m));show wordsSigns (c::(w++Char.ofNat 32::r))=_;rw [wordsSigns.eq_3 _ _ (fun e=>hc e),ih]
def vI:List Char:= "cut".toList
theorem aOn(R:List (List Char)):stripLifts liftWords (vI::R)=([],vI::R):=by kernel_rfl
theorem bI2{s d:List Char}(h:Char.ofNat 32∉s)(hs:isSumSigns s=true):
 behindMainWord (wordsSigns ("harness".toList++Char.ofNat 32::(s++Char.ofNat 32::(vI++Char.ofNat 32::d))))=vI::wordsSigns d:=by
 rw [aQx _ _ (by decide+kernel),aQx _ _ h,aQx _ _ (by decide+kernel)];generalize wordsSigns d=R;have e:(("harness".toList== "harness".toList|| "harness".toList== "ownmain".toList)&&isSumSigns s)=true:=by rw [hs];decide+kernel
 exact if_pos e
variable {P:Program}{R:List (List Char)}(h:behindMainWord (wordsSigns P.initOrder.toList)=vI::R)
include h
theorem aPp:P.headLifts=[]:=by
 unfold Program.headLifts;rw [h,aOn]
 kernel_rfl
theorem aN8:P.liftsFinal=false:=by
 unfold Program.liftsFinal;rw [h,aPp h]
 kernel_rfl
theorem bG6:P.make=some .cut:=by
 unfold Program.make;rw [h]
 kernel_rfl
theorem aSc(h1:P.laysLater=false)(h2:P.bearsReflect=false)(h3:P.doorFits []=true):P.mayEnter=true:=by
 unfold Program.mayEnter;rw [h];simp only [aOn,h1,h2,h3]
 kernel_rfl
end Go.AM
