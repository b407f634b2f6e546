/- Facts. No condition. -/
import Derived.Test.YtkdohhmacfoolaaGreatDoorOaAudP
set_option linter.unusedVariables false
set_option linter.unusedSimpArgs false
set_option maxRecDepth 20000
set_option maxHeartbeats 1000000
namespace Go.Proofs.YtkdohhmacfoolaaGreatDoor
open Go Go.AM Go.Pl Go.Pt
def Rg(n:Int)(l:List aC):Prop:= ∀e,e∈l→0≤e.U∧e.U<n∧0≤e.V∧e.V<n
theorem Rg.inR{n:Int}{l:List aC}(h:Rg n l)(hn:0≤n):InR n.toNat (en l):=by
 intro e he;unfold en at he;obtain ⟨x,hx,rfl⟩:=List.mem_map.1 he;have:=h x hx;refine ⟨this.1,?_,this.2.2.1,?_⟩
 · show x.U<_;omega
 · show x.V<_;omega
theorem Rg.inR'{n:Int}{l:List aC}(h:Rg n l): ∀e,e∈en l→0≤e.1∧e.1<n∧0≤e.2∧e.2<n:=by
 intro e he;unfold en at he;obtain ⟨x,hx,rfl⟩:=List.mem_map.1 he;exact h x hx
theorem Rg.mono{n:Int}{l l':List aC}(h:Rg n l)(hs: ∀e,e∈l'→e∈l):Rg n l':=fun e he=>h e (hs e he)
theorem Rg.at{n:Int}{l:List aC}(h:Rg n l){i:Nat}(c:i<l.length):0≤l[i].U∧l[i].U<n∧0≤l[i].V∧l[i].V<n:=h _ (List.getElem_mem c)
theorem bJ8{n:Int}{l:List aC}(h:trL n none l=true):Rg n l:=fun e he=>by
 obtain ⟨a,b,c,_⟩:=jC.1 (aX0 h e he);omega
theorem aLk{l:List aC}{t:Int}{e:aC}(h:e∈fo l t):e∈l:=(List.mem_filter.1 h).1
theorem bD3{n:Int}{l:List aC}(h:Rg n l){x:Int}(h0:0≤x)(hx:x<n):0≤cI (en l) x∧cI (en l) x<n:=yJ h.inR' ⟨h0,hx⟩
def pt(n:Int)(l:List aC):List Int:=tab n (cI (en l))
theorem aD8(n:Int)(l:List aC):(pt n l).length=n.toNat:=lN _ _
theorem vZ{n:Int}{l:List aC}{x:Int}(h0:0≤x)(hx:x<n):idx (pt n l) x=some (cI (en l) x):=sJ h0 hx
theorem aAg{n:Int}{l:List aC}(hl:l.length<1000000000)(h0:0≤n)(hn:n≤1024)(h:Rg n l):lW n l=some (pt n l,0):=by
 rw [aZv hl,if_pos ⟨h0,hn,h⟩];rfl
theorem aJb{n:Int}(h0:0≤n)(hn:n≤1024){l:List aC}(h:Rg n l): ∀(m i:Nat),n.toNat<i+m→i≤n.toNat→qY m (pt n l) (pt n l) ((pt n l).length:Int) (i:Int)=some true
 |0,i,_,_=>by omega
 |m+1,i,hm,hi=>by
  show aBl (qY m) _ _ _ _=_;have hlen:=aD8 n l;unfold aBl
  by_cases c:i<n.toNat
  · rw [bt (by rw [hlen];exact kJ c),vZ om om,aA];unfold eZ;have hr:=bD3 h (x:=(i:Int)) om om;have hle:=aGz (en l) (i:Int);rw [aA,gt' (by rw [hlen];simp;omega),vZ hr.1 hr.2,aA,aFk];rw [bf (by rw [hlen];simp;omega),wr1 i om];exact aJb h0 hn h m (i+1) om om
  · rw [bf (by rw [hlen];exact lC c)]
theorem uG{n:Int}(h0:0≤n)(hn:n≤1024){l:List aC}(h:Rg n l):jU (pt n l)=some true:=by
 have hFU:=FU;unfold jU;exact aJb h0 hn h aZ 0 om (Nat.zero_le _)
def cntF(n i:Nat)(p:Int→Int):Nat:=(List.range' i (n-i)).countP fun (k:Nat)=>decide (p k=k)
theorem cntF_step{n i:Nat}{p:Int→Int}(c:i<n):cntF n i p=(if p i=i then 1 else 0)+cntF n (i+1) p:=by
 unfold cntF;rw [show n-i=(n-(i+1))+1 by omega,List.range'_succ,List.countP_cons];simp only [decide_eq_true_eq];omega
theorem aXi(n:Nat)(p:Int→Int):cntF n 0 p=cnt n p:=by unfold cntF cnt;rw [Nat.sub_zero,List.range_eq_range']
theorem bBa{n i:Nat}(p:Int→Int)(c: ¬i<n):cntF n i p=0:=by unfold cntF;rw [show n-i=0 by omega];rfl
theorem aFj{n:Int}(h0:0≤n)(hn:n≤1024)(f:Int→Int): ∀(m i k:Nat),n.toNat<i+m→i≤n.toNat→k≤i→sZ m (k:Int) (tab n f) ((tab n f).length:Int) (i:Int)=some (((k+cntF n.toNat i f:Nat):Int))
 |0,i,_,_,_,_=>by omega
 |m+1,i,k,hm,hi,hk=>by
  show aD4 (sZ m) _ _ _ _=_;have hlen:=lN n f;unfold aD4 aD5
  by_cases c:i<n.toNat
  ·
   rw [bt (by rw [hlen];exact kJ c),sJ om om,aA,wr1 i om,wr1 k om,cntF_step c]
   by_cases e:f i=i
   · rw [bt (by simp [e]),aFj h0 hn f m (i+1) (k+1) om om om,if_pos e];congr 2;omega
   · rw [bf (by simp;omega),aFj h0 hn f m (i+1) k om om om,if_neg e];congr 2;omega
  · rw [bf (by rw [hlen];exact lC c),bBa f c];rfl
theorem aSh{n:Int}(h0:0≤n)(hn:n≤1024){l:List aC}(h:Rg n l):vW (pt n l)=some ((cl n.toNat (en l):Nat):Int):=by
 have hFU:=FU;unfold vW;rw [uG h0 hn h,aA,bf (c:= !true) rfl];have:=aFj h0 hn (cI (en l)) aZ 0 0 om (Nat.zero_le _) (Nat.le_refl _);rw [aXi,Nat.zero_add] at this;exact this
theorem bJx{n:Nat}(l:List E):cl n l≤n:=by unfold cl cnt;exact Nat.le_trans List.countP_le_length (by simp)
theorem zE(l:List aC):(en l).length=l.length:=by simp [en]
def foB(n:Int)(l:List aC):Bool:=decide (cl n.toNat (en l)+l.length=n.toNat)
theorem zG{n:Int}(h0:0≤n)(hn:n≤1024){l:List aC}(hl:l.length<1000000000)(h:Rg n l):jY n l=some (foB n l):=by
 unfold jY foB;rw [aAg hl h0 hn h,aA];have:=bJx (n:=n.toNat) (en l);simp only [];rw [gt' (by rfl),aSh h0 hn h,aA,wr0 om om];congr 1
 by_cases c:cl n.toNat (en l)+l.length=n.toNat
 · simp [c];omega
 · simp [c];omega
def sm(p:List Int):Nat:=(p.map Int.toNat).sum
theorem aVq: ∀ {p:List Int} {k:Nat} {a b:Nat},p[k]? =some (b:Int)→a<b→sm (p.set k (a:Int))<sm p
 |[],k,a,b,h,_=>by simp at h
 |x::p,0,a,b,h,hab=>by simp at h;subst h;simp [sm];omega
 |x::p,k+1,a,b,h,hab=>by
  have:=aVq (p:=p) (k:=k) (by simpa using h) hab;simp only [List.set_cons_succ,sm,List.map_cons,List.sum_cons] at*;omega
def Iv(n:Int)(l:List aC)(p:List Int):Prop:=p.length=n.toNat∧ ∀k:Nat,k<n.toNat→ ∃y:Nat,p[k]? =some (y:Int)∧y≤k∧bF (en l) k y
theorem Iv.set{n:Int}{l:List aC}{p:List Int}(h:Iv n l p){v a:Nat}(hv:v<n.toNat)(hle:a≤v)(hc:bF (en l) v a):Iv n l (p.set v (a:Int)):=by
 refine ⟨by rw [List.length_set];exact h.1,fun k hk=>?_⟩
 by_cases e:k=v
 · subst e;exact ⟨a,by rw [List.getElem?_set_self (by rw [h.1];exact hk)],hle,hc⟩
 · obtain ⟨y,h1,h2⟩:=h.2 k hk;exact ⟨y,by rw [List.getElem?_set_ne (fun q=>e q.symm)];exact h1,h2⟩
theorem bI9{l:List aC}{i:Nat}(c:i<l.length):(l[i].U,l[i].V)∈en l:=List.mem_map.2 ⟨l[i],List.getElem_mem c,rfl⟩
theorem aQa{n:Int}{l:List aC}(h:Rg n l)(hl:l.length<1000000000): ∀(m i:Nat) (p:List Int) (ag:Bool),Iv n l p→l.length<i+m→i≤l.length→
 ∃p' ag',(∀rec2,iY rec2 m l p ag (i:Int)=rec2 l p' ag')∧Iv n l p'∧sm p'≤sm p∧(ag'=false→p'=p∧ag=false∧ ∀j (hj:j<l.length),i≤j→idx p l[j].U=idx p l[j].V)∧(ag'=true→ag=true∨sm p'<sm p)
 |0,i,p,ag,_,hm,hi=>by omega
 |m+1,i,p,ag,hI,hm,hi=>by
  by_cases c:i<l.length
  ·
   obtain ⟨u0,un,v0,vn⟩:=h.at c;have hmem:=bI9 c;obtain ⟨u,hu⟩:=Int.eq_ofNat_of_zero_le u0;obtain ⟨v,hv⟩:=Int.eq_ofNat_of_zero_le v0;rw [hu,hv] at hmem;obtain ⟨a,a1,a2,a3⟩:=hI.2 u om;obtain ⟨b,b1,b2,b3⟩:=hI.2 v om;have hul:u<p.length:=by rw [hI.1];omega
   have hvl:v<p.length:=by rw [hI.1];omega
   have step: ∀rec2,iY rec2 (m+1) l p ag (i:Int)=if a<b then iY rec2 m l (p.set v (a:Int)) true ((i+1:Nat):Int) else if b<a then iY rec2 m l (p.set u (b:Int)) true ((i+1:Nat):Int) else iY rec2 m l p ag ((i+1:Nat):Int):=by
    intro rec2;show wB rec2 (iY rec2 m) l p ag _=_;unfold wB aFn aFm;rw [bt (kJ c),dH c,aA,hu,fT p u,a1,aA,aA,hv,fT p v,b1,aA,wr1 i om]
    by_cases q:a<b
    · rw [bt (by simp;omega),if_pos q,aA,hv,fT p v,b1,aA,oN hvl,aA,bf (by simp;omega)]
    ·
     rw [bf (by simp;omega),if_neg q]
     by_cases q':b<a
     · rw [bt (by simp;omega),if_pos q',aA,hu,fT p u,a1,aA,oN hul,aA]
     · rw [bf (by simp;omega),if_neg q']
   by_cases q:a<b
   · obtain ⟨p',ag',r1,r2,r3,r4,r5⟩:=aQa h hl m (i+1) (p.set v (a:Int)) true (hI.set om om ((bF.eno hmem).trans a3)) om c;have hs:=aVq b1 q;refine ⟨p',ag',fun rec2=>by rw [step,if_pos q,r1],r2,by omega,fun e=>(by have:=(r4 e).2.1;cases this),fun e=> .inr om⟩
   ·
    by_cases q':b<a
    · obtain ⟨p',ag',r1,r2,r3,r4,r5⟩:=aQa h hl m (i+1) (p.set u (b:Int)) true (hI.set om om ((bF.one hmem).trans b3)) om c;have hs:=aVq a1 q';refine ⟨p',ag',fun rec2=>by rw [step,if_neg q,if_pos q',r1],r2,by omega,fun e=>(by have:=(r4 e).2.1;cases this),fun e=> .inr om⟩
    ·
     obtain ⟨p',ag',r1,r2,r3,r4,r5⟩:=aQa h hl m (i+1) p ag hI om c;refine ⟨p',ag',fun rec2=>by rw [step,if_neg q,if_neg q',r1],r2,r3,fun e=>?_,r5⟩;obtain ⟨k1,k2,k3⟩:=r4 e;refine ⟨k1,k2,fun j hj hij=>?_⟩
     by_cases e':j=i
     · subst e';rw [hu,hv,fT,fT,a1,b1];congr 2;omega
     · exact k3 j hj om
  · refine ⟨p,ag,fun rec2=>?_,hI,Nat.le_refl _,fun e=>⟨rfl,e,fun j hj hij=>by omega⟩,fun e=> .inl e⟩;show wB rec2 (iY rec2 m) l p ag _=_;unfold wB;rw [bf (lC c)]
theorem Iv.done{n:Int}{l:List aC}{p:List Int}(h:Rg n l)(hI:Iv n l p)(he: ∀j (hj:j<l.length),idx p l[j].U=idx p l[j].V):p=pt n l:=by
 refine aPj hI.1 fun k hk=>?_
 have key:=aSj (n:=n) (l:=en l) h.inR' (q:=fun x=>(p[x.toNat]?).getD 0) (fun x h0 hx=>by
  obtain ⟨y,y1,y2,y3⟩:=hI.2 x.toNat om;have e:((x.toNat:Nat):Int)=x:=by omega
  rw [e] at y3;simp only [y1,Option.getD_some];exact ⟨by omega,by omega,y3⟩) (fun e hm=>by
  unfold en at hm;obtain ⟨x,hx,rfl⟩:=List.mem_map.1 hm;obtain ⟨j,hj,rfl⟩:=List.getElem_of_mem hx;have r:=h.at hj;have:=he j hj;rw [vR (k:=l[j].U.toNat) om,vR (k:=l[j].V.toNat) om] at this;simp only [this]) (k:Int) om hk
 obtain ⟨y,y1,_⟩:=hI.2 k om;simp only [Int.toNat_natCast,y1,Option.getD_some] at key;rw [y1,key]
theorem aSf{n:Int}{l:List aC}(h:Rg n l)(hl:l.length<1000000000): ∀(k:Nat) (p:List Int),Iv n l p→sm p+2≤k→lY k l p true=some (pt n l)
 |0,p,_,hk=>by omega
 |k+1,p,hI,hk=>by
  have hFU:=FU;obtain ⟨p',ag',r1,r2,r3,r4,r5⟩:=aQa h hl aZ 0 p false hI om (Nat.zero_le _);show wA (lY k) l p true=_;unfold wA;rw [bt rfl,show (0:Int)=((0:Nat):Int) from rfl,r1]
  cases ag' with
  |true=>
   have:=(r5 rfl).resolve_left (by simp);exact aSf h hl k p' r2 om
  |false=>
   obtain ⟨q1,_,q3⟩:=r4 rfl;subst q1
   cases k with
   |zero=>omega
   |succ k=>
    show wA (lY k) l p' false=_;unfold wA;rw [bf rfl,Iv.done h hI (fun j hj=>q3 j hj (Nat.zero_le _))]
theorem bHj: ∀(p:List Int) (n:Nat),(∀(k:Nat) (y:Int),p[k]? =some y→y.toNat≤n)→sm p≤p.length*n
 |[],n,_=>by simp [sm]
 |x::p,n,h=>by
  have h1:=bHj p n (fun k y hy=>h (k+1) y (by simpa using hy));have h2:=h 0 x rfl;simp only [sm,List.map_cons,List.sum_cons,List.length_cons,Nat.add_mul] at*;omega
theorem aWo{n:Int}(h0:0≤n)(hn:n≤1024)(l:List aC): ∀(m i:Nat),n.toNat<i+m→i≤n.toNat→wC m n l (tab (i:Int) id) (i:Int)=lY aZ l (tab n id) true
 |0,i,_,_=>by omega
 |m+1,i,hm,hi=>by
  show aFl (wC m) n l _ _=_;unfold aFl
  by_cases c:i<n.toNat
  ·
   rw [bt (by simp;omega),jH (by simp [lN];omega),aA,wr1 i om]
   have e:tab (i:Int) id++[(i:Int)]=tab ((i+1:Nat):Int) id:=by
    unfold tab;rw [Int.toNat_natCast,Int.toNat_natCast,List.range_succ,List.map_append];rfl
   rw [e];exact aWo h0 hn l m (i+1) om om
  · rw [bf (by simp;omega),show (i:Int)=n by omega]
theorem aVn{n:Int}(h0:0≤n)(hn:n≤1024){l:List aC}(hl:l.length<1000000000)(h:Rg n l):aAh n l=some (pt n l):=by
 have hFU:=FU;unfold aAh;have:=aWo h0 hn l aZ 0 om (Nat.zero_le _);rw [show (0:Int)=((0:Nat):Int) from rfl];rw [show tab ((0:Nat):Int) id=[] from rfl] at this;rw [this];have hI:Iv n l (tab n id):=⟨lN _ _,fun k hk=>⟨k,by rw [aHl om];rfl,Nat.le_refl _,.refl _⟩⟩
 refine aSf h hl aZ _ hI ?_
 have hs:=bHj (tab n id) 1024 (fun k y hy=>by
  have hk:k<n.toNat:=by rw [←lN n id];exact (List.getElem?_eq_some_iff.1 hy).1
  rw [aHl om] at hy;cases hy;simp;omega)
 rw [lN] at hs;have:n.toNat*1024≤1024*1024:=Nat.mul_le_mul_right _ om;omega
end Go.Proofs.YtkdohhmacfoolaaGreatDoor
