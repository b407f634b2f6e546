/- Facts. No condition. -/
import Derived.Test.YtkdohhmacfoolaaGreatDoorOcIxQ
set_option linter.unusedVariables false
set_option linter.unusedSimpArgs false
set_option maxRecDepth 20000
set_option maxHeartbeats 1000000
namespace Go.Proofs.YtkdohhmacfoolaaGreatDoor
open Go Go.AM Go.Pl Go.Pt Go.Ix
theorem bKr{c:aY}{s:aD}{m:aW}(R:Rel c s m)(hS:s.Slots.length≤1024):rS s=some true:=by
 obtain ⟨b,b1,b2⟩:=aSv R.gd.e R.gd.h hS;rw [b1,b2.2 R.ok]
structure Fd(s:aD)(k v:Int)(b:Bool):Prop where
  h:nW s.Slots k=some (v,b)
  c:(b=true∧ ∃j:Nat,v=(j:Int)∧At s.Slots j k)∨(b=false∧v=0∧ ∀j,¬At s.Slots j k)
theorem fd{c:aY}{s:aD}{m:aW}(R:Rel c s m)(hS:s.Slots.length≤1024)(k:Int): ∃v b,Fd s k v b:=by
 obtain ⟨v,b,h1,h2⟩:=aT3 hS R.ok.v k;exact ⟨v,b,h1,h2⟩
section
variable {c:aY}{s:aD}{m:aW}(R:Rel c s m)(hS:s.Slots.length≤1024)(hE:s.Graph.Edges.length<10000)
include R hS hE
theorem Rel.small:m.Keys.length<1000000∧m.Pairs.length<100000:=by
 have a:=R.keys.length_eq;have b:=R.pairs.length_eq;rw [List.length_map,tT] at b;have:=bM2 s.Slots;exact ⟨by omega,by omega⟩
omit hE in
theorem aPu{d a b:Int}{text:ByteArray}{vA vB:Int}{bA bB rA rB:Bool}(hd:(decide (d<1)||decide (15<d))=false)(fA:Fd s a vA bA)(fB:Fd s b vB bB)(eA:sI d=some rA)(eB:sJ d=some rB):
 fG s ⟨d,a,b,text⟩=(bif (rA&& !bA)||(rB&& !bB) then some (s,GA.i 36 .i64 7) else bif decide (4<d)&&(d !=15) then (gP s d vA vB).bind fun r=>some (s,r) else
  (iJ s ⟨d,a,b,text⟩ vA vB).bind fun x=>bif x.2 !=0 then some (s,GA.i 36 .i64 x.2) else some (x.1,GA.i 36 .i64 0)):=by
 unfold fG;simp only [];rw [hd,gt' (by rfl),bKr R hS,aA,bf (by rfl),fA.h,aA];simp only [];rw [fB.h,aA];simp only [];rw [eA,aA]
 cases q:(rA&& !bA) with
 |true=>rw [gf' (by rfl),aA,bt (by rfl),bt (by rfl)]
 |false=>rw [gt' (by rfl),eB,aA]
def Step(c:aY)(s:aD)(m:aW)(d a b:Int)(text:ByteArray):Prop:=
  ∃s' f k,fG s ⟨d,a,b,text⟩=some (s',GA.i 36 .i64 f)∧fQ m d a b=some (k,f)∧Rel c s' k∧(f≠0→s'=s∧k=m)∧s'.Slots.length=s.Slots.length∧s'.Graph.Edges.length≤s.Graph.Edges.length+1∧0≤f
theorem step1(a b:Int)(text:ByteArray):Step c s m 1 a b text:=by
 obtain ⟨sm1,sm2⟩:=R.small hS hE;obtain ⟨vA,bA,fA⟩:=fd R hS a;obtain ⟨vB,bB,fB⟩:=fd R hS b;unfold Step;rw [aPu R hS (d:=1) (by rfl) fA fB rfl rfl];unfold fQ;rw [bf (by rfl),bf (by rfl)];unfold iJ;rw [bt (by rfl)];obtain ⟨r2,f1,f2⟩:=oN a sm1;rw [f1,aA,bt (by rfl)];obtain ⟨l',v,e,h1,h2⟩:=aVq hS R.ok.v a;simp only [];rw [h1,aA];simp only [fI];have hmem:=R.mem a;rcases h2 with ⟨q1,rfl,rfl⟩|⟨q1,q2,rfl,rfl⟩|⟨q1,j,⟨x,hj,hx⟩,rfl,rfl⟩
 ·
  rw [aA];simp only [];rw [bt (by rfl)];rcases f2 with ⟨f2,rfl⟩|⟨j,rfl,f2⟩
  · exact absurd (hmem.2 q1) f2
  · rw [bt (by simp)];exact ⟨_,_,_,rfl,rfl,R,fun _=>⟨rfl,rfl⟩,rfl,by omega,by simp⟩
 ·
  rw [aA];simp only [];rw [bt (by rfl)];rcases f2 with ⟨f2,rfl⟩|⟨j,rfl,f2⟩
  · have e1:=R.keys.length_eq;rw [bO8 q2] at e1;have e2:=R.ok.len;have e3:=R.most;rw [R.cf] at e2;rw [bf (by rfl),bt (by simp;omega)];exact ⟨_,_,_,rfl,rfl,R,fun _=>⟨rfl,rfl⟩,rfl,by omega,by simp⟩
  · exact absurd (hmem.1 (List.mem_of_getElem? f2)) fun ⟨j,h⟩=>q1 j h
 ·
  rw [aA];simp only [];rw [bf (by rfl)];rcases f2 with ⟨f2,rfl⟩|⟨j,rfl,f2⟩
  · have e1:=R.keys.length_eq;have e4:=(bM3 hj hx a).length_eq;have e5:=bM2 (s.Slots.set j ⟨true,a⟩);rw [List.length_cons] at e4;rw [List.length_set] at e5;have e2:=R.ok.len;have e3:=R.most;rw [R.cf] at e2;rw [bf (by rfl),bf (by simp;omega),fV (by simp;omega),aA,fV (by simp;omega),aA,List.nil_append];exact ⟨_,_,_,rfl,rfl,R.on hj hx q1,fun h=>absurd rfl h,by simp,by simp,by simp⟩
  · exact absurd (hmem.1 (List.mem_of_getElem? f2)) fun ⟨j,h⟩=>q1 j h
theorem step2(a b:Int)(text:ByteArray):Step c s m 2 a b text:=by
 obtain ⟨sm1,sm2⟩:=R.small hS hE;obtain ⟨vA,bA,fA⟩:=fd R hS a;obtain ⟨vB,bB,fB⟩:=fd R hS b;have cA:=fA.c;have hmem:=R.mem a;obtain ⟨r2,f1,f2⟩:=oN a sm1;have I:=aPu R hS (d:=2) (text:=text) (by rfl) fA fB rfl rfl;rcases cA with ⟨rfl,i,rfl,ha⟩|⟨rfl,rfl,ha⟩
 ·
  rw [bf (by rfl),bf (by rfl)] at I;rcases f2 with ⟨f2,rfl⟩|⟨j,rfl,f2⟩
  · exact absurd (hmem.2 ⟨i,ha⟩) f2
  obtain ⟨i0,i1⟩:=R.lt ha;have nl:=R.near_len ha
  have M:fQ m 2 a b=(bif decide (0<((aQ7 m.Pairs a).length:Int)) then some (m,11) else ((slc m.Keys 0 (j:Int)).bind fun l12=>(app [] l12).bind fun l14=>(slc m.Keys (IntKind.i64.wrap ((j:Int)+1)) (m.Keys.length:Int)).bind fun l16=>(app l14 l16).bind fun l18=>some (⟨m.Most,l18,m.Pairs⟩,0))):=by
   unfold fQ;rw [f1,aA,bf (by rfl),gf' (by simp),aA,bf (by simp),bt (by rfl),aSl sm2,aA]
  unfold iJ pY at I;simp only [] at I;rw [bf (by rfl),bt (by rfl),aRw R.gd.ok om i0 i1,aA,aA,nl] at I
  by_cases z:0<(aQ7 m.Pairs a).length
  · rw [bt (by simpa using z),aA,bt (by rfl)] at I;rw [bt (by simpa using z)] at M;exact ⟨_,_,_,I,M,R,fun _=>⟨rfl,rfl⟩,rfl,by omega,by simp⟩
  ·
   rw [bf (by simpa using z)] at I M;obtain ⟨l',e,h1,h2⟩:=aO8 hS R.ok.v a;rw [h1,aA] at I;simp only [fI] at I;rcases h2 with ⟨h2,_⟩|⟨i',h2,rfl,rfl⟩
   · exact absurd ha (h2 i)
   ·
    have:=R.ok.v.inj _ _ _ h2 ha;subst this;have hj:=(List.getElem?_eq_some_iff.1 f2).1;have ez:aEd s.Graph.Edges (i':Int)=[]:=List.eq_nil_of_length_eq_zero om;rw [aA,bf (by rfl)] at I;rw [aGr rfl om,aA,fV (by simp;omega),aA,wr1 j om,sZ rfl om,aA,fV (by simp;omega),aA,List.nil_append] at M;refine ⟨_,_,_,I,M,R.off ha ez ?_,fun h=>absurd rfl h,by simp,by simp,by simp⟩;obtain ⟨_,e⟩:=List.getElem?_eq_some_iff.1 f2
    have:m.Keys=m.Keys.take j++a::m.Keys.drop (j+1):=by
     conv=>lhs;rw [←List.take_append_drop j m.Keys,eC hj,e]
    conv=>lhs;rw [this]
    exact List.perm_middle
 ·
  rw [bt (by rfl)] at I;rcases f2 with ⟨f2,rfl⟩|⟨j,rfl,f2⟩
  · refine ⟨_,_,_,I,?_,R,fun _=>⟨rfl,rfl⟩,rfl,by omega,by simp⟩;unfold fQ;rw [f1,aA,bf (by rfl),gf' (by rfl),aA,bt (by rfl)]
  · exact absurd (hmem.1 (List.mem_of_getElem? f2)) fun ⟨j,h⟩=>ha j h
theorem both{d a b:Int}(hd:d=3∨d=4){i j:Nat}(ha:At s.Slots i a)(hb:At s.Slots j b): ∃r22,aJn m.Pairs (pr2 a b)=some r22∧((pr2 a b∉m.Pairs∧r22= -1)∨ ∃k:Nat,r22=(k:Int)∧m.Pairs[k]? =some (pr2 a b))∧
 fQ m d a b=(bif d==4 then (bif decide (r22<0) then some (m,9) else ((slc m.Pairs 0 r22).bind fun l24=>(app [] l24).bind fun l26=>(slc m.Pairs (IntKind.i64.wrap (r22+1)) (m.Pairs.length:Int)).bind fun l28=>(app l26 l28).bind fun l30=>some (⟨m.Most,m.Keys,l30⟩,0))) else
  (bif a==b then some (m,8) else (bif decide (0≤r22) then some (m,4) else ((app [] m.Pairs).bind fun l32=>(app l32 [pr2 a b]).bind fun l34=>some (⟨m.Most,m.Keys,l34⟩,0))))):=by
 obtain ⟨sm1,sm2⟩:=R.small hS hE;obtain ⟨r22,p1,p2⟩:=aYi (pr2 a b) (l:=m.Pairs) om;refine ⟨r22,p1,p2,?_⟩;obtain ⟨r2,f1,f2⟩:=oN a sm1;obtain ⟨r8,g1,g2⟩:=oN b sm1
 have ra:0≤r2:=by
  rcases f2 with ⟨f2,_⟩|⟨_,rfl,_⟩
  · exact absurd ((R.mem a).2 ⟨i,ha⟩) f2
  · omega
 have rb:0≤r8:=by
  rcases g2 with ⟨g2,_⟩|⟨_,rfl,_⟩
  · exact absurd ((R.mem b).2 ⟨j,hb⟩) g2
  · omega
 have d1:(d==1)=false:=by simp;omega
 have d2:(d==2)=false:=by simp;omega
 clear f2 g2 p2;have n1:decide (r2<0)=false:=decide_eq_false om;have n2:decide (r8<0)=false:=decide_eq_false om;have n3:decide (2<d)=true:=decide_eq_true om;unfold fQ;rw [f1,aA,bf d1,n1,n3,gt' (by rfl),g1,aA,n2,bf (by rfl),bf d2,aSm,aA,p1,aA]
theorem lone{d a b:Int}(hd:d=3∨d=4)(h:a∉m.Keys∨b∉m.Keys):fQ m d a b=some (m,7):=by
 obtain ⟨sm1,sm2⟩:=R.small hS hE;obtain ⟨r2,f1,f2⟩:=oN a sm1;obtain ⟨r8,g1,g2⟩:=oN b sm1;have d1:(d==1)=false:=by clear f2 g2 h;simp;omega
 unfold fQ;rw [f1,aA,bf d1];rcases f2 with ⟨f2,rfl⟩|⟨k,rfl,f2⟩
 · rw [gf' (by simp),aA,bt (by simp)]
 ·
  rw [gt' (by clear g2 h;simp;omega),g1,aA];rcases g2 with ⟨g2,rfl⟩|⟨k',rfl,g2⟩
  · rw [bt (by clear h;simp;omega)]
  · exact (h.elim (fun q=>q (List.mem_of_getElem? f2)) fun q=>q (List.mem_of_getElem? g2)).elim
theorem bLy(a b:Int)(text:ByteArray):Step c s m 3 a b text:=by
 obtain ⟨sm1,sm2⟩:=R.small hS hE;obtain ⟨vA,bA,fA⟩:=fd R hS a;obtain ⟨vB,bB,fB⟩:=fd R hS b;have cA:=fA.c;have cB:=fB.c;have I:=aPu R hS (d:=3) (text:=text) (by rfl) fA fB rfl rfl;rcases cA with ⟨rfl,i,rfl,ha⟩|⟨rfl,rfl,ha⟩
 ·
  rcases cB with ⟨rfl,j,rfl,hb⟩|⟨rfl,rfl,hb⟩
  ·
   rw [bf (by rfl),bf (by rfl)] at I;unfold iJ at I;simp only [] at I;rw [bf (by rfl),bf (by rfl),bt (by rfl)] at I;obtain ⟨r,t1,t2⟩:=aF0 R.gd om (i:Int) (j:Int);obtain ⟨r22,p1,p2,M⟩:=both R hS hE (d:=3) (.inl rfl) ha hb;rw [bf (by rfl)] at M;rw [t1,aA] at I;simp only [fI] at I;have li:=R.lt ha;have lj:=R.lt hb;have hh:=R.has ha hb;rcases t2 with ⟨h1,rfl⟩|⟨h1,h2,rfl⟩|⟨h1,h2,h3,rfl⟩|⟨h1,h2,h3,l',g2,h4,hg,h5,h6,rfl⟩
   · exact absurd ⟨li.1,li.2,lj.1,lj.2⟩ h1
   ·
    have e:i=j:=by omega
    subst e
    have e:a=b:=by
     unfold At at ha hb;rw [ha] at hb;cases hb;rfl
    rw [aA,bt (by rfl)] at I;rw [bt (by simpa using e)] at M;exact ⟨_,_,_,I,M,R,fun _=>⟨rfl,rfl⟩,rfl,by omega,by simp⟩
   ·
    have e:a≠b:=fun e=>h2 (by subst e;have:=R.ok.v.inj _ _ _ ha hb;omega);rw [aA,bt (by rfl)] at I;rcases p2 with ⟨p2,rfl⟩|⟨k,rfl,p2⟩
    · exact absurd (hh.2 h3) p2
    · rw [bf (by simpa using e),bt (by simp)] at M;exact ⟨_,_,_,I,M,R,fun _=>⟨rfl,rfl⟩,rfl,by omega,by simp⟩
   ·
    have e:a≠b:=fun e=>h2 (by subst e;have:=R.ok.v.inj _ _ _ ha hb;omega);rw [aA,bf (by rfl)] at I;rcases p2 with ⟨p2,rfl⟩|⟨k,rfl,p2⟩
    · rw [bf (by simpa using e),bf (by rfl),fV (by simp;omega),aA,fV (by simp;omega),aA,List.nil_append] at M;have F:=(bJ0 R.gd (.inr (.inr (.inr ⟨h1,h2,h3,l',g2,h4,hg,h5,h6,rfl⟩)))).len;exact ⟨_,_,_,I,M,R.ins ha hb h2 h4 hg h5 h6,fun h=>absurd rfl h,rfl,F,by simp⟩
    · obtain ⟨e,e1,e2⟩:=hh.1 (List.mem_of_getElem? p2);rw [h3 e e1] at e2;cases e2
  · rw [bt (by rfl)] at I;exact ⟨_,_,_,I,lone R hS hE (.inl rfl) (.inr fun q=>by obtain ⟨j,h⟩:=(R.mem b).1 q;exact hb j h),R,fun _=>⟨rfl,rfl⟩,rfl,by omega,by simp⟩
 · rw [bt (by rfl)] at I;exact ⟨_,_,_,I,lone R hS hE (.inl rfl) (.inl fun q=>by obtain ⟨j,h⟩:=(R.mem a).1 q;exact ha j h),R,fun _=>⟨rfl,rfl⟩,rfl,by omega,by simp⟩
theorem bQb(a b:Int)(text:ByteArray):Step c s m 4 a b text:=by
 obtain ⟨sm1,sm2⟩:=R.small hS hE;obtain ⟨vA,bA,fA⟩:=fd R hS a;obtain ⟨vB,bB,fB⟩:=fd R hS b;have cA:=fA.c;have cB:=fB.c;have I:=aPu R hS (d:=4) (text:=text) (by rfl) fA fB rfl rfl;rcases cA with ⟨rfl,i,rfl,ha⟩|⟨rfl,rfl,ha⟩
 ·
  rcases cB with ⟨rfl,j,rfl,hb⟩|⟨rfl,rfl,hb⟩
  ·
   rw [bf (by rfl),bf (by rfl)] at I;unfold iJ at I;simp only [] at I;rw [bf (by rfl),bf (by rfl),bf (by rfl),bt (by rfl)] at I;obtain ⟨r22,p1,p2,M⟩:=both R hS hE (d:=4) (.inr rfl) ha hb;rw [bt (by rfl)] at M;have li:=R.lt ha;have lj:=R.lt hb;have hh:=R.has ha hb
   by_cases eq:i=j
   ·
    subst eq;rw [bt (by simp),aA,bt (by rfl)] at I;rcases p2 with ⟨p2,rfl⟩|⟨k,rfl,p2⟩
    · rw [bt (by rfl)] at M;exact ⟨_,_,_,I,M,R,fun _=>⟨rfl,rfl⟩,rfl,by omega,by simp⟩
    · obtain ⟨e,e1,e2⟩:=hh.1 (List.mem_of_getElem? p2);have e3:=(R.edge e1).2.2.1;have:=aHr e2;omega
   ·
    rw [bf (by simp;omega)] at I;obtain ⟨r,t1,t2⟩:=aO1 R.gd (i:Int) (j:Int);rw [t1,aA] at I;simp only [fI] at I;rcases t2 with ⟨h1,rfl⟩|⟨h1,h2,rfl⟩|⟨h1,k,g2,h2,hg,h5,h6,rfl⟩
    · exact absurd ⟨li.1,li.2,lj.1,lj.2⟩ h1
    ·
     rw [aA,bt (by rfl)] at I;rcases p2 with ⟨p2,rfl⟩|⟨k,rfl,p2⟩
     · rw [bt (by rfl)] at M;exact ⟨_,_,_,I,M,R,fun _=>⟨rfl,rfl⟩,rfl,by omega,by simp⟩
     · obtain ⟨e,e1,e2⟩:=hh.1 (List.mem_of_getElem? p2);rw [bFe h2 e e1] at e2;cases e2
    ·
     rw [aA,bf (by rfl)] at I;rcases p2 with ⟨p2,rfl⟩|⟨k',rfl,p2⟩
     · obtain ⟨e,r1,r2,r3⟩:=aFe h2;exact absurd (hh.2 ⟨e,List.mem_of_getElem? r1,r2⟩) p2
     ·
      have hj:=(List.getElem?_eq_some_iff.1 p2).1;rw [bf (by simp),aGr rfl om,aA,fV (by simp;omega),aA,wr1 k' om,sZ rfl om,aA,fV (by simp;omega),aA,List.nil_append] at M;have F:=(bIn R.gd (.inr (.inr ⟨h1,k,g2,h2,hg,h5,h6,rfl⟩))).len;refine ⟨_,_,_,I,M,R.del ha hb h2 hg h5 h6 ?_,fun h=>absurd rfl h,rfl,F,by simp⟩;obtain ⟨_,e⟩:=List.getElem?_eq_some_iff.1 p2
      have:m.Pairs=m.Pairs.take k'++pr2 a b::m.Pairs.drop (k'+1):=by
       conv=>lhs;rw [←List.take_append_drop k' m.Pairs,eC hj,e]
      conv=>lhs;rw [this]
      exact List.perm_middle
  · rw [bt (by rfl)] at I;exact ⟨_,_,_,I,lone R hS hE (.inr rfl) (.inr fun q=>by obtain ⟨j,h⟩:=(R.mem b).1 q;exact hb j h),R,fun _=>⟨rfl,rfl⟩,rfl,by omega,by simp⟩
 · rw [bt (by rfl)] at I;exact ⟨_,_,_,I,lone R hS hE (.inr rfl) (.inl fun q=>by obtain ⟨j,h⟩:=(R.mem a).1 q;exact ha j h),R,fun _=>⟨rfl,rfl⟩,rfl,by omega,by simp⟩
theorem step{d:Int}(h1:1≤d)(h4:d≤4)(a b:Int)(text:ByteArray):Step c s m d a b text:=by
 have:d=1∨d=2∨d=3∨d=4:=by omega
 rcases this with rfl|rfl|rfl|rfl
 · exact step1 R hS hE a b text
 · exact step2 R hS hE a b text
 · exact bLy R hS hE a b text
 · exact bQb R hS hE a b text
end
end Go.Proofs.YtkdohhmacfoolaaGreatDoor
