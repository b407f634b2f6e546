/- Facts. No condition. -/
import Derived.Test.YtkdohhmacfoolaaGreatDoorObTiS
set_option linter.unusedVariables false
set_option linter.unusedSimpArgs false
set_option maxRecDepth 20000
set_option maxHeartbeats 1000000
namespace Go.Proofs.YtkdohhmacfoolaaGreatDoor
open Go Go.AM Go.Pl Go.Pt
theorem aTu{a b:List aD}(h:en a=en b):a.length=b.length:=by have:=congrArg List.length h;rwa [uS,uS] at this
def bTp(g:aF)(u v:Int)(r:aF×Int):Prop:=
  (¬vtx g.Config.N u v∧r=(g,1))∨(vtx g.Config.N u v∧u=v∧r=(g,8))∨(vtx g.Config.N u v∧u≠v∧(∃e,e∈g.Edges∧iQ u v e=true)∧r=(g,4))∨
    (vtx g.Config.N u v∧u≠v∧(∀e,e∈g.Edges→iQ u v e=false)∧ ∃l' g2,aEb g.Edges (edg u v) l'∧GD ⟨g.Config,g.Hashes,l'⟩∧zS u v 0 ⟨g.Config,g.Hashes,l'⟩ g2∧GD g2∧r=(g2,0))
theorem aHz{g:aF}(h:GD g)(hl:g.Edges.length+1<1000000000)(u v:Int): ∃r,sY g u v=some r∧bTp g u v r:=by
 have k:=gok h.ok;unfold sY;rw [aMa h.e h.h,aA]
 by_cases c:vtx g.Config.N u v
 ·
  have c0:=c;unfold vtx at c;obtain ⟨r,r1,r2⟩:=aZq k.tr hl u v;rw [decide_eq_true ⟨h.ok,c⟩,bf (c:= !true) rfl,r1,aA];rcases r2 with ⟨h1,rfl⟩|⟨h1,h2,rfl⟩|⟨h1,h2,h3,rfl⟩|⟨h1,h2,h3,l',h4,rfl⟩
  · exact absurd c0 h1
  · exact ⟨_,rfl,.inr (.inl ⟨c0,h2,rfl⟩)⟩
  · exact ⟨_,rfl,.inr (.inr (.inl ⟨c0,h2,h3,rfl⟩))⟩
  · have hg:=bRi h c0 h2 h3 h4 hl;obtain ⟨g2,m1,m2,m3⟩:=aU2 hg c.1 c.2.1 c.2.2.1 c.2.2.2;simp only [];rw [bf (by rfl),m1,aA];exact ⟨_,rfl,.inr (.inr (.inr ⟨c0,h2,h3,l',g2,h4,hg,m2,m3,rfl⟩))⟩
 · rw [decide_eq_false (fun q=>c q.2)];exact ⟨_,rfl,.inl ⟨c,rfl⟩⟩
def bTo(g:aF)(u v:Int)(r:aF×Int):Prop:=
  (¬vtx g.Config.N u v∧r=(g,1))∨(vtx g.Config.N u v∧fnd (iQ u v) g.Edges 0=none∧r=(g,9))∨
    (vtx g.Config.N u v∧ ∃k g2,fnd (iQ u v) g.Edges 0=some k∧GD ⟨g.Config,g.Hashes,g.Edges.take k++g.Edges.drop (k+1)⟩∧zS u v 0 ⟨g.Config,g.Hashes,g.Edges.take k++g.Edges.drop (k+1)⟩ g2∧GD g2∧r=(g2,0))
theorem aHy{g:aF}(h:GD g)(u v:Int): ∃r,sX g u v=some r∧bTo g u v r:=by
 have k:=gok h.ok;unfold sX;rw [aMa h.e h.h,aA]
 by_cases c:vtx g.Config.N u v
 ·
  have c0:=c;unfold vtx at c;obtain ⟨r,r1,r2⟩:=aRw k.tr h.e u v;rw [decide_eq_true ⟨h.ok,c⟩,bf (c:= !true) rfl,r1,aA];rcases r2 with ⟨h1,rfl⟩|⟨h1,h2,rfl⟩|⟨h1,j,h2,rfl⟩
  · exact absurd c0 h1
  · exact ⟨_,rfl,.inr (.inl ⟨c0,h2,rfl⟩)⟩
  · have hg:=bSx h h2;obtain ⟨g2,m1,m2,m3⟩:=aU2 hg c.1 c.2.1 c.2.2.1 c.2.2.2;simp only [];rw [bf (by rfl),m1,aA];exact ⟨_,rfl,.inr (.inr ⟨c0,j,g2,h2,hg,m2,m3,rfl⟩)⟩
 · rw [decide_eq_false (fun q=>c q.2)];exact ⟨_,rfl,.inl ⟨c,rfl⟩⟩
open Go Go.AM Go.Pl Go.Pt
theorem bQ6{n:Int}{f:Int→Int}{x y:Int}(h0:0≤x)(h:x<n):stt (tab n f) x y=some (tab n fun z=>if z=x then y else f z):=by
 rw [aX5 (k:=x.toNat) om (by rw [lS];omega)];congr 1;apply List.ext_getElem?;intro k;unfold tab;rw [List.getElem?_set]
 by_cases hk:k<n.toNat
 ·
  rw [List.getElem?_map,List.getElem?_map,List.getElem?_range hk]
  by_cases e:x.toNat=k
  · rw [if_pos e,if_pos (by simp;omega)];simp;omega
  · rw [if_neg e];simp;omega
 · rw [if_neg om,List.getElem?_eq_none (by simp;omega),List.getElem?_eq_none (by simp;omega)]
def szP(f:Int→Int)(i:Nat)(c:Int):Int:=((((List.range i).filter fun (k:Nat)=>f (k:Int)==c).length:Nat):Int)
theorem bM8(f:Int→Int)(i:Nat)(c:Int):szP f (i+1) c=szP f i c+if c=f i then 1 else 0:=by
 unfold szP;rw [List.range_succ,List.filter_append,List.length_append,List.filter_cons]
 by_cases e:c=f i
 · rw [if_pos (by simp [e]),if_pos e];simp
 · rw [if_neg (by simp;exact fun q=>e q.symm),if_neg e];simp
theorem bT6(f:Int→Int)(i:Nat)(c:Int):0≤szP f i c∧szP f i c≤i:=by
 have:=List.length_filter_le (fun (k:Nat)=>f (k:Int)==c) (List.range i);rw [List.length_range] at this;unfold szP;omega
theorem bEg{n:Int}(f:Int→Int)(v:Int):szP f n.toNat (f v)=((trl n f v).length:Int):=by
 unfold szP trl trF;rw [List.length_map,Nat.sub_zero,List.range_eq_range']
theorem aLs{n:Int}(h0:0≤n)(hn:n≤1024)(f:Int→Int)(hr: ∀x,0≤x→x<n→0≤f x∧f x<n): ∀(m i:Nat),n.toNat<i+m→i≤n.toNat→sM m (tab n (szP f i)) (tab n f) ((tab n f).length:Int) (i:Int)=some (tab n (szP f n.toNat))
 |0,i,_,_=>by omega
 |m+1,i,hm,hi=>by
  show aD5 (sM m) _ _ _ _=_;have hlen:=lS n f;unfold aD5
  by_cases c:i<n.toNat
  ·
   obtain ⟨r1,r2⟩:=hr i om om;have hz:=bT6 f i (f i);rw [bt (by rw [hlen];exact oE c),xM om om,aA,xM r1 r2,aA,aA,wr0 om om,bQ6 r1 r2,aA,wr1 i om]
   have e:(tab n fun z=>if z=f i then szP f i (f i)+1 else szP f i z)=tab n (szP f (i+1)):=bQ5 fun z _ _=>by
    rw [bM8]
    by_cases q:z=f i
    · rw [if_pos q,if_pos q,q]
    · rw [if_neg q,if_neg q];omega
   rw [e];exact aLs h0 hn f hr m (i+1) om om
  · rw [bf (by rw [hlen];exact oD c),show i=n.toNat by omega]
theorem aSw{n:Int}(h0:0≤n)(hn:n≤1024)(f:Int→Int)(hr: ∀x,0≤x→x<n→0≤f x∧f x<n):mZ (tab n f)=some (tab n (szP f n.toNat)):=by
 have hFU:=FU;have hlen:=lS n f;unfold mZ;rw [aLb (k:=n.toNat) om om om,aA]
 have e:List.replicate n.toNat (0:Int)=tab n (szP f 0):=aVc (by simp) fun k hk=>by
  rw [List.getElem?_replicate,if_pos om];rfl
 rw [e];exact aLs h0 hn f hr bC 0 om (Nat.zero_le _)
def aJq(g:aF)(t v:Int):Bool:=(pf g t v==v)&&(((trl g.Config.N (pf g t) v).length==(trl g.Config.N (pf g (t+1)) v).length)&&(srch g t v).isSome)
def aP9(g:aF)(t:Int)(i:Nat):List (Int×Int):=((List.range' i (g.Config.N.toNat-i)).filter fun (k:Nat)=>aJq g t k).map fun (k:Nat)=>(t,(k:Int))
theorem aI9{g:aF}{t:Int}{i:Nat}(h:i<g.Config.N.toNat):aP9 g t i=(if aJq g t i then [(t,(i:Int))] else [])++aP9 g t (i+1):=by
 unfold aP9;rw [show g.Config.N.toNat-i=(g.Config.N.toNat-(i+1))+1 by omega,List.range'_succ,List.filter_cons]
 cases q:aJq g t i with
 |true=>rw [if_pos rfl,if_pos rfl];rfl
 |false=>rw [if_neg (by simp),if_neg (by simp)];rfl
theorem bLb{g:aF}{t:Int}{i:Nat}(h: ¬i<g.Config.N.toNat):aP9 g t i=[]:=by unfold aP9;rw [show g.Config.N.toNat-i=0 by omega];rfl
theorem bLc(g:aF)(t:Int)(i:Nat):(aP9 g t i).length≤g.Config.N.toNat-i:=by
 unfold aP9;rw [List.length_map];exact Nat.le_trans (List.length_filter_le _ _) (by simp)
theorem aYy{g:aF}{t:Int}{q:Int×Int} :q∈aP9 g t 0↔q.1=t∧0≤q.2∧q.2<g.Config.N∧aJq g t q.2=true:=by
 unfold aP9;rw [List.mem_map];constructor
 · rintro ⟨k,hk,rfl⟩;rw [List.mem_filter,List.mem_range'] at hk;obtain ⟨⟨i,h1,h2⟩,h3⟩:=hk;exact ⟨rfl,by simp,by simp;omega,h3⟩
 ·
  rintro ⟨h0,h1,h2,h3⟩;have e:((q.2.toNat:Nat):Int)=q.2:=by omega
  refine ⟨q.2.toNat,?_,by rw [e,←h0]⟩;rw [List.mem_filter,List.mem_range',e];exact ⟨⟨q.2.toNat,by omega,by omega⟩,h3⟩
def aN4(g:aF)(t:Nat):List (Int×Int):=(List.range' t (g.Config.L.toNat-t)).flatMap fun (k:Nat)=>aP9 g k 0
theorem bI5{g:aF}{t:Nat}(h:t<g.Config.L.toNat):aN4 g t=aP9 g t 0++aN4 g (t+1):=by
 unfold aN4;rw [show g.Config.L.toNat-t=(g.Config.L.toNat-(t+1))+1 by omega,List.range'_succ,List.flatMap_cons]
theorem bLa{g:aF}{t:Nat}(h: ¬t<g.Config.L.toNat):aN4 g t=[]:=by unfold aN4;rw [show g.Config.L.toNat-t=0 by omega];rfl
theorem bLe{g:aF}{q:Int×Int} :q∈aN4 g 0↔0≤q.1∧q.1<g.Config.L∧0≤q.2∧q.2<g.Config.N∧aJq g q.1 q.2=true:=by
 unfold aN4;rw [List.mem_flatMap];constructor
 · rintro ⟨k,hk,hq⟩;rw [List.mem_range'] at hk;obtain ⟨i,h1,h2⟩:=hk;obtain ⟨a,b,c,d⟩:=aYy.1 hq;rw [a];exact ⟨by omega,by omega,b,c,d⟩
 ·
  rintro ⟨h1,h2,h3⟩;have e:((q.1.toNat:Nat):Int)=q.1:=by omega
  exact ⟨q.1.toNat,List.mem_range'.2 ⟨q.1.toNat,by omega,by omega⟩,aYy.2 ⟨by omega,by rw [e];exact h3⟩⟩
def mA(q:Int×Int):cG:=⟨q.1,q.2⟩
theorem bQy{g:aF}(h:GOK g)(t:Int){x:Int}(h0:0≤x)(hx:x<g.Config.N):0≤pf g t x∧pf g t x<g.Config.N:=bQz (aGv h.rg t) h0 hx
section
variable {g:aF}(h:GD g)
include h
theorem aIw(t:Int):rK g t=some (pt g.Config.N (fo g.Edges t)):=by
 have k:=gok h.ok;have n1:=k.n1;have hf:=aMy g.Edges t;have:=h.e;unfold rK;rw [mE h.e,aA,k.tr];simp only [if_true];rw [aE5 om om k.n2 (aGv k.rg _),aA]
theorem aCg(rec1:aF→List cG→Int→Int→Option (List cG))(t:Nat)(ht:(t:Int)<g.Config.L)(T:Int): ∀(m i:Nat) (out:List cG),g.Config.N.toNat<i+m→i≤g.Config.N.toNat→out.length≤1024*t+i→
 lY rec1 m g out (t:Int) (pt g.Config.N (fo g.Edges ((t:Int)+1))) (tab g.Config.N (szP (pf g t) g.Config.N.toNat)) (tab g.Config.N (szP (pf g ((t:Int)+1)) g.Config.N.toNat)) T (t:Int) (pt g.Config.N (fo g.Edges (t:Int))) ((pt g.Config.N (fo g.Edges (t:Int))).length:Int) (i:Int)=rec1 g (out++(aP9 g t i).map mA) T (IntKind.i64.wrap ((t:Int)+1))
 |0,i,_,_,_,_=>by omega
 |m+1,i,out,hm,hi,ho=>by
  have k:=gok h.ok;have n1:=k.n1;have n2:=k.n2;have l2:=k.l2;have hlen:=aWh g.Config.N (fo g.Edges (t:Int));show aBf rec1 (lY rec1 m) _ _ _ _ _ _ _ _ _ _ _=_;unfold aBf pZ
  by_cases c:i<g.Config.N.toNat
  ·
   have ci:(i:Int)<g.Config.N:=by omega
   have ih:=fun out'=>aCg rec1 t ht T m (i+1) out' om c;have e1:idx (pt g.Config.N (fo g.Edges (t:Int))) (i:Int)=some (pf g t i):=xM om ci;have e2:idx (pt g.Config.N (fo g.Edges ((t:Int)+1))) (i:Int)=some (pf g ((t:Int)+1) i):=xM om ci;obtain ⟨r1,r2⟩:=bQy k ((t:Int)+1) (x:=(i:Int)) om ci;have e3:idx (tab g.Config.N (szP (pf g t) g.Config.N.toNat)) (i:Int)=some (szP (pf g t) g.Config.N.toNat i):=xM om ci;have e4:idx (tab g.Config.N (szP (pf g ((t:Int)+1)) g.Config.N.toNat)) (pf g ((t:Int)+1) i)=some (szP (pf g ((t:Int)+1)) g.Config.N.toNat (pf g ((t:Int)+1) i)):=xM r1 r2;rw [bt (by rw [hlen];exact oE c),e1,aA,wr1 i om]
   by_cases q:pf g t i=i
   ·
    have z1:((i:Int) !=pf g t i)=false:=by rw [q];simp
    have e5:szP (pf g t) g.Config.N.toNat i=((trl g.Config.N (pf g t) i).length:Int):=by
     have:=bEg (n:=g.Config.N) (pf g t) i;rw [q] at this;exact this
    rw [z1];simp only [beq_self_eq_true];rw [gt' rfl,e3,aA,gt' rfl,e2,aA,gt' rfl,e4,aA,e5,bEg,Bool.false_or]
    by_cases s:(trl g.Config.N (pf g t) i).length=(trl g.Config.N (pf g ((t:Int)+1)) i).length
    ·
     rw [bf (by simp [s]),aGb h.e h.h h.hw,aA,if_pos ⟨h.ok,by omega,ht,by omega,ci⟩]
     cases hs:srch g t i with
     |none=>
      have:aJq g t i=false:=by unfold aJq;rw [hs];simp
      rw [aI9 c,this];show (bif false then _ else _)=_;rw [bf rfl,ih _ om];rfl
     |some e=>
      have:aJq g t i=true:=by unfold aJq;rw [hs,q,s];simp
      rw [aI9 c,this];show (bif true then _ else _)=_;rw [bt rfl,fI (by simp;omega),aA,ih _ (by simp;omega)];simp [mA]
    ·
     have:aJq g t i=false:=by unfold aJq;simp [s]
     rw [bt (by simp;omega),ih _ om,aI9 c,this];rfl
   ·
    have:aJq g t i=false:=by unfold aJq;simp [q]
    have z1:((i:Int) !=pf g t i)=true:=by simp;omega
    rw [z1,gf' (by rfl),aA,gf' (by rfl),aA,gf' (by rfl),aA,bt (by rfl),ih _ om,aI9 c,this];rfl
  · rw [bf (by rw [hlen];exact oD c),bLb c];simp
theorem aCf: ∀(m t:Nat) (out:List cG),g.Config.L.toNat<t+m→t≤g.Config.L.toNat→out.length≤1024*t→iK m g out g.Config.L (t:Int)=some (out++(aN4 g t).map mA)
 |0,t,_,_,_,_=>by omega
 |m+1,t,out,hm,hi,ho=>by
  have hFU:=FU;have k:=gok h.ok;have n1:=k.n1;have n2:=k.n2;have l2:=k.l2;show aBe (iK m) _ _ _ _=_;unfold aBe
  by_cases c:t<g.Config.L.toNat
  · have hs: ∀t,mZ (pt g.Config.N (fo g.Edges t))=some (tab g.Config.N (szP (pf g t) g.Config.N.toNat)):=fun t=>aSw om n2 (pf g t) fun x a b=>bQy k t a b;have:=aCg h (iK m) t om g.Config.L bC 0 out om (Nat.zero_le _) om;rw [show ((0:Nat):Int)=(0:Int) from rfl] at this;rw [bt (by simp;omega),aIw h,aA,wr1 t om,show ((t+1:Nat):Int)=(t:Int)+1 by omega,aIw h,aA,hs,aA,hs,aA,this];rw [wr1 t om];have hv:=bLc g t 0;rw [aCf m (t+1) _ om c (by simp;omega),bI5 c];simp
  · rw [bf (by simp;omega),bLa c];simp
end
theorem aRh{g:aF}(hw:HW g)(hE:g.Edges.length<1000000000)(hH:g.Hashes.length<1000000000):sL g=some (if grB g then (aN4 g 0).map mA else []):=by
 have hFU:=FU;unfold sL;rw [gT hE hH,aA]
 cases hg:grB g with
 |false=>rfl
 |true=>
  have h:GD g:=⟨hg,hw,hE,hH⟩
  have k:=gok hg;have:=k.l2;rw [bf (c:= !true) rfl];have:=aCf h bC 0 [] om (Nat.zero_le _) (by simp);exact this
theorem aSv{g:aF}(hw:HW g)(hE:g.Edges.length<1000000000)(hH:g.Hashes.length<1000000000):mY g=some (grB g&&decide (aN4 g 0=[])):=by
 unfold mY;rw [gT hE hH,aA,aRh hw hE hH,eF,aA]
 cases hg:grB g with
 |false=>rfl
 |true=>
  congr 1
  by_cases c:aN4 g 0=[]
  · simp [c]
  · have:(aN4 g 0).length≠0:=fun q=>c (List.eq_nil_of_length_eq_zero q);simp [c]
theorem bPl{g:aF}(h:GOK g){t v:Int}(v0:0≤v)(vn:v<g.Config.N):aJq g t v=true↔pf g t v=v∧Lon g t v:=by
 unfold aJq Lon;rw [Bool.and_eq_true,Bool.and_eq_true,beq_iff_eq,beq_iff_eq,bMd h v0 vn]
open Go Go.AM Go.Pl Go.Pt
open Go Go.AM Go.Pl Go.Pt
theorem aPf{g:aF}(hb:128<g.Hashes.length):eC g=some false∧grB g=false:=by
 unfold eC grB
 by_cases c:1≤g.Config.N∧g.Config.N≤1024∧1≤g.Config.L∧g.Config.L≤16∧1≤g.Config.R∧g.Config.R≤8
 ·
  have h2:g.Config.L*g.Config.R≤16*8:=Int.mul_le_mul om om om om;have k:(g.Hashes.length:Int)≠g.Config.L*g.Config.R:=by omega
  rw [bf (by simp;omega),aUr ⟨c.2.2.1,c.2.2.2.1,c.2.2.2.2⟩,bt (by simp [k])];have:cfB g=false:=by unfold cfB;rw [decide_eq_false_iff_not];exact fun q=>k q.2.2.2.2.2.2
  rw [this];exact ⟨rfl,rfl⟩
 ·
  have:cfB g=false:=by unfold cfB;rw [decide_eq_false_iff_not];exact fun q=>c ⟨q.1,q.2.1,q.2.2.1,q.2.2.2.1,q.2.2.2.2.1,q.2.2.2.2.2.1⟩
  rw [bt (by simp;omega),this];exact ⟨rfl,rfl⟩
theorem aZw(c:aU){hs:List bM}(hl:hs.length≤8796093022207):aBv c hs=some (if grB ⟨c,hs,[]⟩ then (⟨c,hs,[]⟩,0) else (⟨⟨0,0,0⟩,[],[]⟩,1)):=by
 unfold aBv gH;rw [bDb (by simp;omega),aA,List.nil_append]
 by_cases q:hs.length≤1048576
 · rw [gT (by simp) (by simp;omega),aA];cases grB ⟨c,hs,[]⟩<;>rfl
 · obtain ⟨q1,q2⟩:=aPf (g:=⟨c,hs,[]⟩) (by simp;omega);rw [q1,q2,aA];rfl
def NoL(g:aF):Prop:= ∀k x,0≤k→k<g.Config.L→ ¬Lon g k x
theorem NoL.new(c:aU)(hs:List bM):NoL ⟨c,hs,[]⟩:=fun k x _ _ h=>by
 have:=h.2;unfold srch aIk at this;rw [show List.filter (fun e=>inQ (pf ⟨c,hs,[]⟩ k) x (uv e)) []=[] from rfl,bIe] at this;cases this
theorem NoL.nil{g:aF}(h:GOK g)(n:NoL g):aN4 g 0=[]:=List.eq_nil_iff_forall_not_mem.2 fun q hq=>by
 obtain ⟨a,b,c,d,e⟩:=bLe.1 hq;exact n _ _ a b ((bPl h c d).1 e).2
structure bMm(g g2:aF):Prop where
  gd:GD g2
  c:g2.Config=g.Config
  len:g2.Edges.length≤g.Edges.length+1
  nol:NoL g→NoL g2
theorem bMm.refl{g:aF}(h:GD g):bMm g g:=⟨h,rfl,by omega,id⟩
theorem aGt{u v:Int}{e:aD}(h:iQ u v e=true):(e.U=u∧e.V=v)∨(e.U=v∧e.V=u):=by
 unfold iQ at h;simp only [Bool.or_eq_true,Bool.and_eq_true,beq_iff_eq] at h;omega
theorem bDq{g:aF}(h:GD g){u v:Int}{r:aF×Int}(i:bTp g u v r):bMm g r.1:=by
 rcases i with ⟨h1,rfl⟩|⟨h1,h2,rfl⟩|⟨h1,h2,h3,rfl⟩|⟨h1,h2,h3,l',g2,h4,hg,h5,h6,rfl⟩
 · exact .refl h
 · exact .refl h
 · exact .refl h
 ·
  have kg:=gok hg.ok;have F:=h5.facts kg.gc (Int.le_refl _);obtain ⟨A,B,ea,eb⟩:=h4.en;refine ⟨h6,F.al.c,?_,fun n=>?_⟩
  · have:=aTu F.al.e;have:=h4.len;simp only [] at*;omega
  ·
   refine h5.holds kg.gc (Int.le_refl _) (fun k x a b=>by omega) fun k x k0 hk hl=>?_;rcases bNy (g:=g) (g2:=⟨g.Config,g.Hashes,l'⟩) rfl rfl ea eb (fun k=>h4.fo rfl k) hl with q|q|q
   · exact absurd q (n k x k0 hk)
   ·
    rcases aQg h2 with ⟨a,b,_⟩|⟨a,b,_⟩
    · rw [a] at q;exact .inl q
    · rw [a] at q;exact .inr q
   ·
    rcases aQg h2 with ⟨a,b,_⟩|⟨a,b,_⟩
    · rw [b] at q;exact .inr q
    · rw [b] at q;exact .inl q
theorem bDh{g:aF}(h:GD g){u v:Int}{r:aF×Int}(i:bTo g u v r):bMm g r.1:=by
 rcases i with ⟨h1,rfl⟩|⟨h1,h2,rfl⟩|⟨h1,k,g2,h2,hg,h5,h6,rfl⟩
 · exact .refl h
 · exact .refl h
 ·
  have kg:=gok hg.ok;have kk:=gok h.ok;have F:=h5.facts kg.gc (Int.le_refl _);obtain ⟨e,r1,r2,r3⟩:=aE7 h2;have nd:=kk.gc.ti.tb.nodup
  have ea:en g.Edges=en (g.Edges.take k)++(e.U,e.V)::en (g.Edges.drop (k+1)):=by
   conv=>lhs;rw [r3]
   rw [tZ];rfl
  have eb:en (g.Edges.take k++g.Edges.drop (k+1))=en (g.Edges.take k)++en (g.Edges.drop (k+1)):=tZ _ _
  have hmem: ∀y,y∈g.Edges↔y∈g.Edges.take k++g.Edges.drop (k+1)∨y=e:=fun y=>by
   conv=>lhs;rw [r3]
   simp only [List.mem_append,List.mem_cons];constructor
   ·
    rintro (a|a|a)
    · exact .inl (.inl a)
    · exact .inr a
    · exact .inl (.inr a)
   ·
    rintro ((a|a)|a)
    · exact .inl a
    · exact .inr (.inr a)
    · exact .inr (.inl a)
  have hno:(e.U,e.V)∉en (g.Edges.take k++g.Edges.drop (k+1)):=by
   rw [eb];rw [ea] at nd;have:=List.nodup_append.1 nd;rw [List.mem_append];rintro (a|a)
   · exact this.2.2 _ a _ (List.mem_cons_self ..) rfl
   · exact (List.nodup_cons.1 this.2.1).1 a
  have hf: ∀t q,q∈en (fo (g.Edges.take k++g.Edges.drop (k+1)) t)↔q∈en (fo g.Edges t)∧q≠(e.U,e.V):=fun t q=>by
   rw [jU,jU];constructor
   · rintro ⟨y,hy,rfl⟩;have hy':=fY.1 hy;exact ⟨⟨y,fY.2 ⟨(hmem y).2 (.inl hy'.1),hy'.2⟩,rfl⟩,fun w=>hno (by rw [←w];exact jU.2 ⟨y,hy'.1,rfl⟩)⟩
   · rintro ⟨⟨y,hy,rfl⟩,w⟩;have hy':=fY.1 hy;refine ⟨y,fY.2 ⟨((hmem y).1 hy'.1).resolve_right fun z=>w (by rw [z]),hy'.2⟩,rfl⟩
  refine ⟨h6,F.al.c,?_,fun n=>?_⟩
  · have:=aTu F.al.e;have hk:=(List.getElem?_eq_some_iff.1 r1).1;simp only [List.length_append,List.length_take,List.length_drop] at*;omega
  ·
   refine h5.holds kg.gc (Int.le_refl _) (fun k x a b=>by omega) fun k' x k0 hk hl=>?_;rcases bNk (g:=g) (g2:=⟨g.Config,g.Hashes,g.Edges.take k++g.Edges.drop (k+1)⟩) nd rfl rfl eb ea hf hl with q|q|q
   · exact absurd q (n k' x k0 hk)
   ·
    rcases aGt r2 with ⟨a,b⟩|⟨a,b⟩
    · rw [a] at q;exact .inl q
    · rw [a] at q;exact .inr q
   ·
    rcases aGt r2 with ⟨a,b⟩|⟨a,b⟩
    · rw [b] at q;exact .inr q
    · rw [b] at q;exact .inl q
abbrev WH(hs:List bM)(P:Prop):Prop:=(∀y,y∈hs→((Lit.int .u64 y.A).wf=true)∧((Lit.int .u64 y.B).wf=true))∧P
theorem WH.hw{hs:List bM}{P:Prop}(w:WH hs P): ∀x,x∈hs→HOK x:=fun x hx=>⟨wfu (w.1 x hx).1,wfu (w.1 x hx).2⟩
end Go.Proofs.YtkdohhmacfoolaaGreatDoor
