/- Facts. No condition. -/
import Derived.Test.YtkdohhmacfoolaaGreatDoorOaTiS
set_option linter.unusedVariables false
set_option linter.unusedSimpArgs false
set_option maxRecDepth 20000
set_option maxHeartbeats 1000000
namespace Go.Proofs.YtkdohhmacfoolaaGreatDoor
open Go Go.AM Go.Pl Go.Pt
theorem aO6{a b:List aC}(h:en a=en b):a.length=b.length:=by have:=congrArg List.length h;rwa [zE,zE] at this
theorem bC6{g:aE}(h:GD g):jV g=some (pt g.Config.N (kf g)):=by rw [aHo h.e h.h,h.ok];rfl
def bHr(g:aE)(u v:Int)(r:aE×Int):Prop:=
  (¬vtx g.Config.N u v∧r=(g,1))∨(vtx g.Config.N u v∧u=v∧r=(g,8))∨(vtx g.Config.N u v∧u≠v∧(∃e,e∈g.Edges∧fB u v e=true)∧r=(g,4))∨
    (vtx g.Config.N u v∧u≠v∧(∀e,e∈g.Edges→fB u v e=false)∧ ∃l' g2,uU g.Edges (edg u v) l'∧GD ⟨g.Config,g.Hashes,l'⟩∧xK u v 0 ⟨g.Config,g.Hashes,l'⟩ g2∧GD g2∧r=(g2,0))
theorem aMh{g:aE}(h:GD g)(hl:g.Edges.length+1<1000000000)(u v:Int): ∃r,kY g u v=some r∧bHr g u v r:=by
 have k:=gok h.ok;unfold kY;rw [aHn h.e h.h,aA]
 by_cases c:vtx g.Config.N u v
 ·
  have c0:=c;unfold vtx at c;obtain ⟨r,r1,r2⟩:=aSx k.tr hl u v;rw [decide_eq_true ⟨h.ok,c⟩,bf (c:= !true) rfl,r1,aA];rcases r2 with ⟨h1,rfl⟩|⟨h1,h2,rfl⟩|⟨h1,h2,h3,rfl⟩|⟨h1,h2,h3,l',h4,rfl⟩
  · exact absurd c0 h1
  · exact ⟨_,rfl,.inr (.inl ⟨c0,h2,rfl⟩)⟩
  · exact ⟨_,rfl,.inr (.inr (.inl ⟨c0,h2,h3,rfl⟩))⟩
  · have hg:=bHs h c0 h2 h3 h4 hl;obtain ⟨g2,m1,m2,m3⟩:=aOd hg c.1 c.2.1 c.2.2.1 c.2.2.2;simp only [];rw [bf (by rfl),m1,aA];exact ⟨_,rfl,.inr (.inr (.inr ⟨c0,h2,h3,l',g2,h4,hg,m2,m3,rfl⟩))⟩
 · rw [decide_eq_false (fun q=>c q.2)];exact ⟨_,rfl,.inl ⟨c,rfl⟩⟩
def bHq(g:aE)(u v:Int)(r:aE×Int):Prop:=
  (¬vtx g.Config.N u v∧r=(g,1))∨(vtx g.Config.N u v∧fnd (fB u v) g.Edges 0=none∧r=(g,9))∨
    (vtx g.Config.N u v∧ ∃k g2,fnd (fB u v) g.Edges 0=some k∧GD ⟨g.Config,g.Hashes,g.Edges.take k++g.Edges.drop (k+1)⟩∧xK u v 0 ⟨g.Config,g.Hashes,g.Edges.take k++g.Edges.drop (k+1)⟩ g2∧GD g2∧r=(g2,0))
theorem aMg{g:aE}(h:GD g)(u v:Int): ∃r,kX g u v=some r∧bHq g u v r:=by
 have k:=gok h.ok;unfold kX;rw [aHn h.e h.h,aA]
 by_cases c:vtx g.Config.N u v
 ·
  have c0:=c;unfold vtx at c;obtain ⟨r,r1,r2⟩:=aMf k.tr h.e u v;rw [decide_eq_true ⟨h.ok,c⟩,bf (c:= !true) rfl,r1,aA];rcases r2 with ⟨h1,rfl⟩|⟨h1,h2,rfl⟩|⟨h1,j,h2,rfl⟩
  · exact absurd c0 h1
  · exact ⟨_,rfl,.inr (.inl ⟨c0,h2,rfl⟩)⟩
  · have hg:=bJ0 h h2;obtain ⟨g2,m1,m2,m3⟩:=aOd hg c.1 c.2.1 c.2.2.1 c.2.2.2;simp only [];rw [bf (by rfl),m1,aA];exact ⟨_,rfl,.inr (.inr ⟨c0,j,g2,h2,hg,m2,m3,rfl⟩)⟩
 · rw [decide_eq_false (fun q=>c q.2)];exact ⟨_,rfl,.inl ⟨c,rfl⟩⟩
open Go Go.AM Go.Pl Go.Pt
theorem bGn{n:Int}{f:Int→Int}{x y:Int}(h0:0≤x)(h:x<n):stt (tab n f) x y=some (tab n fun z=>if z=x then y else f z):=by
 rw [aQr (k:=x.toNat) om (by rw [lN];omega)];congr 1;apply List.ext_getElem?;intro k;unfold tab;rw [List.getElem?_set]
 by_cases hk:k<n.toNat
 ·
  rw [List.getElem?_map,List.getElem?_map,List.getElem?_range hk]
  by_cases e:x.toNat=k
  · rw [if_pos e,if_pos (by simp;omega)];simp;omega
  · rw [if_neg e];simp;omega
 · rw [if_neg om,List.getElem?_eq_none (by simp;omega),List.getElem?_eq_none (by simp;omega)]
def szP(f:Int→Int)(i:Nat)(c:Int):Int:=((((List.range i).filter fun (k:Nat)=>f (k:Int)==c).length:Nat):Int)
theorem bDl(f:Int→Int)(i:Nat)(c:Int):szP f (i+1) c=szP f i c+if c=f i then 1 else 0:=by
 unfold szP;rw [List.range_succ,List.filter_append,List.length_append,List.filter_cons]
 by_cases e:c=f i
 · rw [if_pos (by simp [e]),if_pos e];simp
 · rw [if_neg (by simp;exact fun q=>e q.symm),if_neg e];simp
theorem bJ7(f:Int→Int)(i:Nat)(c:Int):0≤szP f i c∧szP f i c≤i:=by
 have:=List.length_filter_le (fun (k:Nat)=>f (k:Int)==c) (List.range i);rw [List.length_range] at this;unfold szP;omega
theorem aWx{n:Int}(f:Int→Int)(v:Int):szP f n.toNat (f v)=((trl n f v).length:Int):=by
 unfold szP trl trF;rw [List.length_map,Nat.sub_zero,List.range_eq_range']
theorem aH9{n:Int}(h0:0≤n)(hn:n≤1024)(f:Int→Int)(hr: ∀x,0≤x→x<n→0≤f x∧f x<n): ∀(m i:Nat),n.toNat<i+m→i≤n.toNat→oB m (tab n (szP f i)) (tab n f) ((tab n f).length:Int) (i:Int)=some (tab n (szP f n.toNat))
 |0,i,_,_=>by omega
 |m+1,i,hm,hi=>by
  show zP (oB m) _ _ _ _=_;have hlen:=lN n f;unfold zP
  by_cases c:i<n.toNat
  ·
   obtain ⟨r1,r2⟩:=hr i om om;have hz:=bJ7 f i (f i);rw [bt (by rw [hlen];exact kJ c),sJ om om,aA,sJ r1 r2,aA,aA,wr0 om om,bGn r1 r2,aA,wr1 i om]
   have e:(tab n fun z=>if z=f i then szP f i (f i)+1 else szP f i z)=tab n (szP f (i+1)):=bGm fun z _ _=>by
    rw [bDl]
    by_cases q:z=f i
    · rw [if_pos q,if_pos q,q]
    · rw [if_neg q,if_neg q];omega
   rw [e];exact aH9 h0 hn f hr m (i+1) om om
  · rw [bf (by rw [hlen];exact lC c),show i=n.toNat by omega]
theorem aNa{n:Int}(h0:0≤n)(hn:n≤1024)(f:Int→Int)(hr: ∀x,0≤x→x<n→0≤f x∧f x<n):kD (tab n f)=some (tab n (szP f n.toNat)):=by
 have hFU:=FU;have hlen:=lN n f;unfold kD;rw [aQ4 (k:=n.toNat) om om om,aA]
 have e:List.replicate n.toNat (0:Int)=tab n (szP f 0):=aPj (by simp) fun k hk=>by
  rw [List.getElem?_replicate,if_pos om];rfl
 rw [e];exact aH9 h0 hn f hr aZ 0 om (Nat.zero_le _)
def aFf(g:aE)(t v:Int):Bool:=(pf g t v==v)&&(((trl g.Config.N (pf g t) v).length==(trl g.Config.N (pf g (t+1)) v).length)&&(srch g t v).isSome)
def aK1(g:aE)(t:Int)(i:Nat):List (Int×Int):=((List.range' i (g.Config.N.toNat-i)).filter fun (k:Nat)=>aFf g t k).map fun (k:Nat)=>(t,(k:Int))
theorem aDy{g:aE}{t:Int}{i:Nat}(h:i<g.Config.N.toNat):aK1 g t i=(if aFf g t i then [(t,(i:Int))] else [])++aK1 g t (i+1):=by
 unfold aK1;rw [show g.Config.N.toNat-i=(g.Config.N.toNat-(i+1))+1 by omega,List.range'_succ,List.filter_cons]
 cases q:aFf g t i with
 |true=>rw [if_pos rfl,if_pos rfl];rfl
 |false=>rw [if_neg (by simp),if_neg (by simp)];rfl
theorem bCm{g:aE}{t:Int}{i:Nat}(h: ¬i<g.Config.N.toNat):aK1 g t i=[]:=by unfold aK1;rw [show g.Config.N.toNat-i=0 by omega];rfl
theorem bCn(g:aE)(t:Int)(i:Nat):(aK1 g t i).length≤g.Config.N.toNat-i:=by
 unfold aK1;rw [List.length_map];exact Nat.le_trans (List.length_filter_le _ _) (by simp)
theorem aSd{g:aE}{t:Int}{q:Int×Int} :q∈aK1 g t 0↔q.1=t∧0≤q.2∧q.2<g.Config.N∧aFf g t q.2=true:=by
 unfold aK1;rw [List.mem_map];constructor
 · rintro ⟨k,hk,rfl⟩;rw [List.mem_filter,List.mem_range'] at hk;obtain ⟨⟨i,h1,h2⟩,h3⟩:=hk;exact ⟨rfl,by simp,by simp;omega,h3⟩
 ·
  rintro ⟨h0,h1,h2,h3⟩;have e:((q.2.toNat:Nat):Int)=q.2:=by omega
  refine ⟨q.2.toNat,?_,by rw [e,←h0]⟩;rw [List.mem_filter,List.mem_range',e];exact ⟨⟨q.2.toNat,by omega,by omega⟩,h3⟩
def aId(g:aE)(t:Nat):List (Int×Int):=(List.range' t (g.Config.L.toNat-t)).flatMap fun (k:Nat)=>aK1 g k 0
theorem aZt{g:aE}{t:Nat}(h:t<g.Config.L.toNat):aId g t=aK1 g t 0++aId g (t+1):=by
 unfold aId;rw [show g.Config.L.toNat-t=(g.Config.L.toNat-(t+1))+1 by omega,List.range'_succ,List.flatMap_cons]
theorem bCl{g:aE}{t:Nat}(h: ¬t<g.Config.L.toNat):aId g t=[]:=by unfold aId;rw [show g.Config.L.toNat-t=0 by omega];rfl
theorem bCp{g:aE}{q:Int×Int} :q∈aId g 0↔0≤q.1∧q.1<g.Config.L∧0≤q.2∧q.2<g.Config.N∧aFf g q.1 q.2=true:=by
 unfold aId;rw [List.mem_flatMap];constructor
 · rintro ⟨k,hk,hq⟩;rw [List.mem_range'] at hk;obtain ⟨i,h1,h2⟩:=hk;obtain ⟨a,b,c,d⟩:=aSd.1 hq;rw [a];exact ⟨by omega,by omega,b,c,d⟩
 ·
  rintro ⟨h1,h2,h3⟩;have e:((q.1.toNat:Nat):Int)=q.1:=by omega
  exact ⟨q.1.toNat,List.mem_range'.2 ⟨q.1.toNat,by omega,by omega⟩,aSd.2 ⟨by omega,by rw [e];exact h3⟩⟩
def mA(q:Int×Int):bL:=⟨q.1,q.2⟩
theorem bHf{g:aE}(h:GOK g)(t:Int){x:Int}(h0:0≤x)(hx:x<g.Config.N):0≤pf g t x∧pf g t x<g.Config.N:=bD3 (aEc h.rg t) h0 hx
section
variable {g:aE}(h:GD g)
include h
theorem aEl(t:Int):nB g t=some (pt g.Config.N (fo g.Edges t)):=by
 have k:=gok h.ok;have n1:=k.n1;have hf:=aL4 g.Edges t;have:=h.e;unfold nB;rw [mL h.e,aA,k.tr];simp only [if_true];rw [aAg om om k.n2 (aEc k.rg _),aA]
theorem yN(rec1:aE→List bL→Int→Int→Option (List bL))(t:Nat)(ht:(t:Int)<g.Config.L)(T:Int): ∀(m i:Nat) (out:List bL),g.Config.N.toNat<i+m→i≤g.Config.N.toNat→out.length≤1024*t+i→
 jM rec1 m g out (t:Int) (pt g.Config.N (fo g.Edges ((t:Int)+1))) (tab g.Config.N (szP (pf g t) g.Config.N.toNat)) (tab g.Config.N (szP (pf g ((t:Int)+1)) g.Config.N.toNat)) T (t:Int) (pt g.Config.N (fo g.Edges (t:Int))) ((pt g.Config.N (fo g.Edges (t:Int))).length:Int) (i:Int)=rec1 g (out++(aK1 g t i).map mA) T (IntKind.i64.wrap ((t:Int)+1))
 |0,i,_,_,_,_=>by omega
 |m+1,i,out,hm,hi,ho=>by
  have k:=gok h.ok;have n1:=k.n1;have n2:=k.n2;have l2:=k.l2;have hlen:=aD8 g.Config.N (fo g.Edges (t:Int));show wI rec1 (jM rec1 m) _ _ _ _ _ _ _ _ _ _ _=_;unfold wI mD
  by_cases c:i<g.Config.N.toNat
  ·
   have ci:(i:Int)<g.Config.N:=by omega
   have ih:=fun out'=>yN rec1 t ht T m (i+1) out' om c;have e1:idx (pt g.Config.N (fo g.Edges (t:Int))) (i:Int)=some (pf g t i):=sJ om ci;have e2:idx (pt g.Config.N (fo g.Edges ((t:Int)+1))) (i:Int)=some (pf g ((t:Int)+1) i):=sJ om ci;obtain ⟨r1,r2⟩:=bHf k ((t:Int)+1) (x:=(i:Int)) om ci;have e3:idx (tab g.Config.N (szP (pf g t) g.Config.N.toNat)) (i:Int)=some (szP (pf g t) g.Config.N.toNat i):=sJ om ci;have e4:idx (tab g.Config.N (szP (pf g ((t:Int)+1)) g.Config.N.toNat)) (pf g ((t:Int)+1) i)=some (szP (pf g ((t:Int)+1)) g.Config.N.toNat (pf g ((t:Int)+1) i)):=sJ r1 r2;rw [bt (by rw [hlen];exact kJ c),e1,aA,wr1 i om]
   by_cases q:pf g t i=i
   ·
    have z1:((i:Int) !=pf g t i)=false:=by rw [q];simp
    have e5:szP (pf g t) g.Config.N.toNat i=((trl g.Config.N (pf g t) i).length:Int):=by
     have:=aWx (n:=g.Config.N) (pf g t) i;rw [q] at this;exact this
    rw [z1];simp only [beq_self_eq_true];rw [gt' rfl,e3,aA,gt' rfl,e2,aA,gt' rfl,e4,aA,e5,aWx,Bool.false_or]
    by_cases s:(trl g.Config.N (pf g t) i).length=(trl g.Config.N (pf g ((t:Int)+1)) i).length
    ·
     rw [bf (by simp [s]),aCa h.e h.h h.hw,aA,if_pos ⟨h.ok,by omega,ht,by omega,ci⟩]
     cases hs:srch g t i with
     |none=>
      have:aFf g t i=false:=by unfold aFf;rw [hs];simp
      rw [aDy c,this];show (bif false then _ else _)=_;rw [bf rfl,ih _ om];rfl
     |some e=>
      have:aFf g t i=true:=by unfold aFf;rw [hs,q,s];simp
      rw [aDy c,this];show (bif true then _ else _)=_;rw [bt rfl,jH (by simp;omega),aA,ih _ (by simp;omega)];simp [mA]
    ·
     have:aFf g t i=false:=by unfold aFf;simp [s]
     rw [bt (by simp;omega),ih _ om,aDy c,this];rfl
   ·
    have:aFf g t i=false:=by unfold aFf;simp [q]
    have z1:((i:Int) !=pf g t i)=true:=by simp;omega
    rw [z1,gf' (by rfl),aA,gf' (by rfl),aA,gf' (by rfl),aA,bt (by rfl),ih _ om,aDy c,this];rfl
  · rw [bf (by rw [hlen];exact lC c),bCm c];simp
theorem yM: ∀(m t:Nat) (out:List bL),g.Config.L.toNat<t+m→t≤g.Config.L.toNat→out.length≤1024*t→fI m g out g.Config.L (t:Int)=some (out++(aId g t).map mA)
 |0,t,_,_,_,_=>by omega
 |m+1,t,out,hm,hi,ho=>by
  have hFU:=FU;have k:=gok h.ok;have n1:=k.n1;have n2:=k.n2;have l2:=k.l2;show wH (fI m) _ _ _ _=_;unfold wH
  by_cases c:t<g.Config.L.toNat
  · have hs: ∀t,kD (pt g.Config.N (fo g.Edges t))=some (tab g.Config.N (szP (pf g t) g.Config.N.toNat)):=fun t=>aNa om n2 (pf g t) fun x a b=>bHf k t a b;have:=yN h (fI m) t om g.Config.L aZ 0 out om (Nat.zero_le _) om;rw [show ((0:Nat):Int)=(0:Int) from rfl] at this;rw [bt (by simp;omega),aEl h,aA,wr1 t om,show ((t+1:Nat):Int)=(t:Int)+1 by omega,aEl h,aA,hs,aA,hs,aA,this];rw [wr1 t om];have hv:=bCn g t 0;rw [yM m (t+1) _ om c (by simp;omega),aZt c];simp
  · rw [bf (by simp;omega),bCl c];simp
end
theorem aM1{g:aE}(hw:HW g)(hE:g.Edges.length<1000000000)(hH:g.Hashes.length<1000000000):oA g=some (if grB g then (aId g 0).map mA else []):=by
 have hFU:=FU;unfold oA;rw [fJ hE hH,aA]
 cases hg:grB g with
 |false=>rfl
 |true=>
  have h:GD g:=⟨hg,hw,hE,hH⟩
  have k:=gok hg;have:=k.l2;rw [bf (c:= !true) rfl];have:=yM h aZ 0 [] om (Nat.zero_le _) (by simp);exact this
theorem aN9{g:aE}(hw:HW g)(hE:g.Edges.length<1000000000)(hH:g.Hashes.length<1000000000):rC g=some (grB g&&decide (aId g 0=[])):=by
 unfold rC;rw [fJ hE hH,aA,aM1 hw hE hH,cR,aA]
 cases hg:grB g with
 |false=>rfl
 |true=>
  congr 1
  by_cases c:aId g 0=[]
  · simp [c]
  · have:(aId g 0).length≠0:=fun q=>c (List.eq_nil_of_length_eq_zero q);simp [c]
theorem bG5{g:aE}(h:GOK g){t v:Int}(v0:0≤v)(vn:v<g.Config.N):aFf g t v=true↔pf g t v=v∧Lon g t v:=by
 unfold aFf Lon;rw [Bool.and_eq_true,Bool.and_eq_true,beq_iff_eq,beq_iff_eq,bDq h v0 vn]
end Go.Proofs.YtkdohhmacfoolaaGreatDoor
