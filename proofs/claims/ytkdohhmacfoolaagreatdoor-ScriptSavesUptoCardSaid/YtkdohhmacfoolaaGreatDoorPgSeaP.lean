/- Facts. No condition. -/
import Derived.Test.YtkdohhmacfoolaaGreatDoorPgXo
set_option linter.unusedVariables false
set_option linter.unusedSimpArgs false
set_option maxRecDepth 20000
set_option maxHeartbeats 1000000
namespace Go.Proofs.YtkdohhmacfoolaaGreatDoor
open Go Go.AM Go.Pl Go.Pt
theorem aK6{n:Int}{l:List aE} :foB n l=true↔eN n.toNat (en l):=by unfold foB eN;rw [decide_eq_true_iff,zG]
theorem GOK.gc{g:aJ}(h:GOK g):GC g:=by
 refine ⟨⟨(aI0.1 h.tr).2.2,fun e he=>?_,aK6.1 h.fr⟩,by have:=h.n1;omega,h.l2⟩;have:=h.ti;unfold tiB at this;rw [List.all_eq_true] at this;have:=this e he
 simpa using this
theorem GC.fo{g:aJ}(h:GC g){k:Int}(hk:k≤g.Config.L):eN g.Config.N.toNat (en (fo g.Edges k)):=
 h.ti.fr.sublist (h.ti.inR h.n0 _) (aLl (by rw [←bZv hk];exact bE5 _ _))
def EB(e:aE):Prop:=0≤e.U∧e.U<e.V∧e.V<1024
theorem GOK.eb{g:aJ}(h:GOK g){e:aE}(he:e∈g.Edges):EB e:=by
 have:=uR.1 (h.gc.ti.tb.ok e he);have:=h.n2;exact ⟨by omega,by omega,by omega⟩
def trF(n i:Nat)(p:Int→Int)(c:Int):List Int:=((List.range' i (n-i)).filter fun (k:Nat)=>p (k:Int)==c).map fun (k:Nat)=>(k:Int)
def trl(n:Int)(p:Int→Int)(v:Int):List Int:=trF n.toNat 0 p (p v)
theorem bQj{n i:Nat}{p:Int→Int}{c:Int}(h:i<n):trF n i p c=(if p i=c then [(i:Int)] else [])++trF n (i+1) p c:=by
 unfold trF;rw [show n-i=(n-(i+1))+1 by omega,List.range'_succ,List.filter_cons]
 by_cases q:p (i:Int)=c
 · rw [if_pos (by simp [q]),if_pos q];rfl
 · rw [if_neg (by simp [q]),if_neg q];rfl
theorem bUw{n i:Nat}{p:Int→Int}{c:Int}(h: ¬i<n):trF n i p c=[]:=by unfold trF;rw [show n-i=0 by omega];rfl
theorem bH7(n i:Nat)(p:Int→Int)(c:Int):(trF n i p c).length≤n-i:=by
 unfold trF;rw [List.length_map];exact Nat.le_trans (List.length_filter_le _ _) (by simp)
theorem aKc{n:Int}{p:Int→Int}{v x:Int} :x∈trl n p v↔0≤x∧x<n∧p x=p v:=by
 unfold trl trF;rw [List.mem_map];constructor
 · rintro ⟨k,hk,rfl⟩;rw [List.mem_filter,List.mem_range',beq_iff_eq] at hk;obtain ⟨⟨i,h1,h2⟩,h3⟩:=hk;exact ⟨by omega,by omega,h3⟩
 ·
  rintro ⟨h1,h2,h3⟩;refine ⟨x.toNat,?_,by omega⟩;have e:((x.toNat:Nat):Int)=x:=by omega
  rw [List.mem_filter,List.mem_range',beq_iff_eq,e];exact ⟨⟨x.toNat,by omega,by omega⟩,h3⟩
theorem aJa{n:Int}(h0:0≤n)(hn:n≤1024)(f:Int→Int){v:Int}(v0:0≤v)(vn:v<n): ∀(m i:Nat) (out:List Int),n.toNat<i+m→i≤n.toNat→out.length≤i→zS m (tab n f) v out (tab n f) ((tab n f).length:Int) (i:Int)=some (out++trF n.toNat i f (f v))
 |0,i,_,_,_,_=>by omega
 |m+1,i,out,hm,hi,ho=>by
  show aHc (zS m) _ _ _ _ _ _=_;have hlen:=aCx n f;unfold aHc aHd
  by_cases c:i<n.toNat
  ·
   rw [bt (by rw [hlen];exact oJ c),aRk om om,aA,aRk v0 vn,aA,wr1 i om,bQj c]
   by_cases e:f i=f v
   · rw [bt (by simp [e]),if_pos e,gG (by simp;omega),aA,aJa h0 hn f v0 vn m (i+1) _ om om (by simp;omega)];simp
   · rw [bf (by simp [e]),if_neg e,aJa h0 hn f v0 vn m (i+1) _ om om om];simp
  · rw [bf (by rw [hlen];exact oI c),bUw c];simp
theorem aHe{n:Int}(h0:0≤n)(hn:n≤1024){l:List aE}(h:Rg n l){v:Int}(v0:0≤v)(vn:v<n):tE (pt n l) v=some (trl n (jB (en l)) v):=by
 have hFU:=FU;unfold tE jT;rw [aN9 h0 hn h,aA,jS,aA];have:(decide (0≤v)&&decide (v<((pt n l).length:Int)))=true:=by rw [bF2];simp;omega
 rw [this,bf (by rfl)];have:=aJa h0 hn (jB (en l)) v0 vn aY 0 [] om (Nat.zero_le _) (by simp);exact this
section
variable {g:aJ}(hE:g.Edges.length<1000000000)(h:GOK g)
include hE h
theorem aJm{t v:Int}(ht:t≤g.Config.L)(v0:0≤v)(vn:v<g.Config.N):rT g t v=some (trl g.Config.N (pf g t) v):=by
 have h3:=h.n1;have hf:=aX5 g.Edges t;unfold rT aEp;rw [tX hE,aA,h.tr];simp only [if_true];rw [aFd om h.n2 om (aPv h.rg _),aA,aK6.2 (h.gc.fo ht),bf (by rfl),aKd om om h.n2 (aPv h.rg _),aA];simp only [];rw [aHe om h.n2 (aPv h.rg _) v0 vn,aA,aA];rfl
end
theorem aKz{g:aJ}(hE:g.Edges.length<1000000000)(hH:g.Hashes.length<1000000000)(t v:Int):uX g t v=some (if grB g=true∧0≤t∧t≤g.Config.L∧0≤v∧v<g.Config.N then trl g.Config.N (pf g t) v else []):=by
 unfold uX;rw [lO hE hH,aA]
 cases hb:grB g with
 |false=>rw [bt (by simp)];simp
 |true=>
  by_cases c:0≤t∧t≤g.Config.L∧0≤v∧v<g.Config.N
  · rw [bf (by simp;omega),aJm hE (gok hb) c.2.1 c.2.2.1 c.2.2.2,aA,if_pos ⟨rfl,c⟩]
  · rw [bt (by simp;omega),if_neg (fun q=>c q.2)]
theorem aXb{g:aJ}(hE:g.Edges.length<1000000000)(hH:g.Hashes.length<1000000000)(t v:Int):nV g t v=some (decide (grB g=true∧0≤t∧t<g.Config.L∧0≤v∧v<g.Config.N)):=by
 unfold nV;rw [lO hE hH,aA];congr 1
 cases hb:grB g with
 |false=>simp
 |true=>by_cases a:0≤t<;>by_cases b:t<g.Config.L<;>by_cases c:0≤v<;>by_cases d:v<g.Config.N<;>simp [a,b,c,d]
def mks(n:Nat)(S:List Int):List Bool:=(List.range n).map fun (k:Nat)=>decide ((k:Int)∈S)
theorem bUc(n:Nat)(S:List Int):(mks n S).length=n:=by simp [mks]
theorem aXy{n:Nat}{S:List Int}{x:Int}(h0:0≤x)(h:x<n):idx (mks n S) x=some (decide (x∈S)):=by
 rw [xK (k:=x.toNat) om];unfold mks;rw [List.getElem?_map,List.getElem?_range om];have e:((x.toNat:Nat):Int)=x:=by omega
 simp [e]
theorem bUd{n:Nat}{S:List Int}{x:Int}(h0:0≤x)(h:x<n):stt (mks n S) x true=some (mks n (S++[x])):=by
 rw [bFe (k:=x.toNat) om (by rw [bUc];omega)];congr 1;apply List.ext_getElem?;intro k;unfold mks;rw [List.getElem?_set]
 by_cases hk:k<n
 ·
  rw [List.getElem?_map,List.getElem?_map,List.getElem?_range hk]
  by_cases e:x.toNat=k
  ·
   rw [if_pos e,if_pos (by simp;omega)];have:(k:Int)=x:=by omega
   simp [this]
  ·
   rw [if_neg e];have:(k:Int)≠x:=by omega
   simp [this]
 · rw [if_neg om,List.getElem?_eq_none (by simp;omega),List.getElem?_eq_none (by simp;omega)]
theorem aVl{n:Int}{S:List Int}(hS: ∀x,x∈S→0≤x∧x<n)(hl:S.length<1000000000): ∀(m i:Nat),S.length<i+m→i≤S.length→aDe m n S (S.length:Int) (i:Int)=some true
 |0,i,_,_=>by omega
 |m+1,i,hm,hi=>by
  show aLj (aDe m) _ _ _ _=_;unfold aLj
  by_cases c:i<S.length
  · have:=hS _ (List.getElem_mem c);rw [bt (oJ c),cN c,aA,bf (by simp;omega),wr1 i om];exact aVl hS hl m (i+1) om c
  · rw [bf (oI c)]
theorem aIk{n:Nat}{S:List Int}{l:List aE}(hr:Rg n l)(hl:l.length<1000000000): ∀(m i:Nat) (out:List aE),l.length<i+m→i≤l.length→out.length≤i→zC m (mks n S) out l (l.length:Int) (i:Int)=some (out++(l.drop i).filter fun e=>decide (e.U∈S) !=decide (e.V∈S))
 |0,i,_,_,_,_=>by omega
 |m+1,i,out,hm,hi,ho=>by
  show aGx (zC m) _ _ _ _ _=_;unfold aGx aGy
  by_cases c:i<l.length
  ·
   obtain ⟨u0,un,v0,vn⟩:=hr.at c;rw [bt (oJ c),cN c,aA,aXy u0 un,aA,aXy v0 vn,aA,wr1 i om,aVq c];have e:(!(decide (l[i].U∈S)==decide (l[i].V∈S)))=(decide (l[i].U∈S) !=decide (l[i].V∈S)):=rfl;rw [e]
   cases q:(decide (l[i].U∈S) !=decide (l[i].V∈S)) with
   |true=>
    rw [bt rfl,gG (by simp;omega),aA,aIk hr hl m (i+1) _ om c (by simp;omega)];simp
   |false=>
    rw [bf rfl,aIk hr hl m (i+1) _ om c om];simp
  · rw [bf (oI c),List.drop_eq_nil_of_le om];simp
theorem aZy{n:Nat}{l:List aE}(hr:Rg n l)(hl:l.length<1000000000){S:List Int}(hS: ∀x,x∈S→0≤x∧x<(n:Int))(hs:S.length<1000000000): ∀(m i:Nat),S.length<i+m→i≤S.length→
 aFz m l (mks n (S.take i)) S (S.length:Int) (i:Int)=some (l.filter (fun e=>decide (e.U∈S) !=decide (e.V∈S)),0)
 |0,i,_,_=>by omega
 |m+1,i,hm,hi=>by
  have hFU:=FU;show aOf (aFz m) _ _ _ _ _=_;unfold aOf
  by_cases c:i<S.length
  · have:=hS _ (List.getElem_mem c);rw [bt (oJ c),cN c,aA,aXy this.1 this.2,aA,bUd this.1 this.2,aA,wr1 i om,←vC c];exact aZy hr hl hS hs m (i+1) om c
  · rw [bf (oI c),List.take_of_length_le om];unfold aEo;have:=aIk (S:=S) hr hl aY 0 [] om (Nat.zero_le _) (by simp);rw [show (0:Int)=((0:Nat):Int) from rfl,this];rfl
theorem bHu{n:Int}(h0:0≤n)(hn:n≤1024){l:List aE}(hT:trB n l=true)(hr:Rg n l)(hl:l.length<1000000000){S:List Int}(hS: ∀x,x∈S→0≤x∧x<n)(hs:S.length<1000000000):
 aIh n l S=some (l.filter (fun e=>decide (e.U∈S) !=decide (e.V∈S)),0):=by
 have hFU:=FU;obtain ⟨k,rfl⟩:=Int.eq_ofNat_of_zero_le h0;unfold aIh aK5;rw [oM hl,aA,hT,bf (c:= !true) rfl];have e1:=aVl hS hs aY 0 om (Nat.zero_le _);rw [show (0:Int)=((0:Nat):Int) from rfl,e1,aA,bf (c:= !true) rfl,aH9 (k:=k) rfl (Int.le_refl _) om,aA]
 have e2:List.replicate k false=mks k (S.take 0):=by
  unfold mks;apply List.ext_getElem?;intro j
  by_cases c:j<k
  · rw [List.getElem?_replicate,if_pos c,List.getElem?_map,List.getElem?_range c];simp
  · rw [List.getElem?_eq_none (by simp;omega),List.getElem?_eq_none (by simp;omega)]
 rw [e2];exact aZy hr hl hS hs aY 0 om (Nat.zero_le _)
theorem bN2{n:Int}{l:List aE}(hr:Rg n l)(p:Int→Int)(v:Int):l.filter (fun e=>decide (e.U∈trl n p v) !=decide (e.V∈trl n p v))=aLi p v l:=by
 unfold aLi;refine List.filter_congr fun e he=>?_;have:=hr e he;unfold inQ uv;congr 1
 · rw [Bool.eq_iff_iff,decide_eq_true_eq,aKc,beq_iff_eq];exact ⟨fun q=>q.2.2,fun q=>⟨this.1,this.2.1,q⟩⟩
 · rw [Bool.eq_iff_iff,decide_eq_true_eq,aKc,beq_iff_eq];exact ⟨fun q=>q.2.2,fun q=>⟨this.2.2.1,this.2.2.2,q⟩⟩
theorem bUx{n:Int}(hn:n≤1024)(p:Int→Int)(v:Int):(trl n p v).length≤1024:=Nat.le_trans (bH7 _ _ _ _) om
theorem bYc{n:Int}{p:Int→Int}{v:Int} : ∀x,x∈trl n p v→0≤x∧x<n:=fun x hx=>by have:=aKc.1 hx;exact ⟨this.1,this.2.1⟩
section
variable {g:aJ}(hE:g.Edges.length<1000000000)(h:GOK g)
include hE h
theorem aT2{t v:Int}(ht:t≤g.Config.L)(v0:0≤v)(vn:v<g.Config.N):wB g t v=some (aLi (pf g t) v g.Edges):=by
 have h3:=h.n1;unfold wB;have hl:=bUx h.n2 (pf g t) v;rw [aJm hE h ht v0 vn,aA,bHu om h.n2 h.tr h.rg hE bYc om,aA,bN2 h.rg]
end
theorem bN1{p:Int→Int}{v:Int}{l:List aE}{e:aE}(h:e∈aLi p v l):e∈l:=(List.mem_filter.1 h).1
theorem bN0(p:Int→Int)(v:Int)(l:List aE):(aLi p v l).length≤l.length:=List.length_filter_le _ _
def ns(l:List Nat):List Int:=l.map fun (n:Nat)=>(n:Int)
def nmE(e:aE):Nat:=nmQ (uv e)
theorem aSr{e:aE}(h:EB e):((nmE e:Nat):Int)=e.U*16777216+e.V:=by
 unfold nmE nmQ uv EB at*;simp only [];omega
theorem bP6{e:aE}(h:EB e):nmE e<17179869184:=by
 have:=aSr h;unfold EB at h;omega
theorem bL1{e:aE}(h:EB e):aJ5 e.U e.V=some (((nmE e:Nat):Int),0):=by
 have h0:=aSr h;obtain ⟨h1,h2,h3⟩:=h;unfold aJ5 zR;rw [aA,jS,aA];have e1:(decide (0≤e.U)&&decide (e.U<16777216))=true:=by simp;omega
 have e2:(decide (0≤e.V)&&decide (e.V<16777216))=true:=by simp;omega
 rw [e1,e2,bf (by rfl),bf (by simp;omega),if_neg om,if_pos om,wu,wu,wu,wu,h0];congr 2;omega
theorem aS0{l:List aE}(hl:l.length<1000000000)(hb: ∀e,e∈l→EB e): ∀(m i:Nat) (out:List Int),l.length<i+m→i≤l.length→out.length≤i→aBa m out l (l.length:Int) (i:Int)=some (out++ns ((l.drop i).map nmE))
 |0,i,_,_,_,_=>by omega
 |m+1,i,out,hm,hi,ho=>by
  show aIi (aBa m) _ _ _ _=_;unfold aIi aIj aPq
  by_cases c:i<l.length
  · rw [bt (oJ c),cN c,aA,bL1 (hb _ (List.getElem_mem c)),aA];simp only [];rw [bf (by rfl),gG (by simp;omega),aA,wr1 i om,aS0 hl hb m (i+1) _ om c (by simp;omega),dZ c];simp only [ns,List.map_cons,List.append_assoc,List.cons_append,List.nil_append]
  · rw [bf (oI c),List.drop_eq_nil_of_le om];simp [ns]
theorem aZz{l:List aE}(hl:l.length<1000000000)(hb: ∀e,e∈l→EB e):aDf l=some (ns (l.map nmE)):=by
 have hFU:=FU;unfold aDf;have:=aS0 hl hb aY 0 [] om (Nat.zero_le _) (by simp);exact this
theorem bYu{a R b:Int}(h0:0≤a)(h1:a≤b)(h2:0≤R)(h3:R≤8)(hb:b≤16):0≤a*R∧a*R≤b*R∧b*R≤128:=by
 have e1:0≤a*R:=Int.mul_nonneg h0 h2;have e2:a*R≤b*R:=Int.mul_le_mul_of_nonneg_right h1 h2;have e3:b*R≤16*8:=Int.mul_le_mul hb h3 h2 om;exact ⟨e1,e2,by omega⟩
theorem aSa{g:aJ}(h:GOK g){t:Int}(h0:0≤t)(ht:t<g.Config.L):0≤t*g.Config.R∧t*g.Config.R+g.Config.R≤(g.Hashes.length:Int)∧(g.Hashes.length:Int)≤128:=by
 have h1:=h.hl;obtain ⟨a1,a2,a3⟩:=bYu (a:=t+1) (b:=g.Config.L) (R:=g.Config.R) om om (by have:=h.r1;omega) h.r2 h.l2;have e:(t+1)*g.Config.R=t*g.Config.R+g.Config.R:=by rw [Int.add_mul,Int.one_mul]
 have e0:0≤t*g.Config.R:=Int.mul_nonneg h0 (by have:=h.r1;omega);omega
theorem aP1{g:aJ}(h:GOK g){t:Int}(h0:0≤t)(ht:t<g.Config.L):rE g t=some (hsh g t):=by
 obtain ⟨b1,b2,b3⟩:=aSa h h0 ht;have r1:=h.r1;unfold rE iP
 rw [wr0 (n:=t*g.Config.R) om om,wr0 (n:=t*g.Config.R+g.Config.R) om om,
  aYr (a:=(t*g.Config.R).toNat) (b:=(t*g.Config.R+g.Config.R).toNat) om om om om,aA,bFx (by simp;omega),aA]
 unfold hsh;rw [List.nil_append];congr 3;omega
theorem bG8{g:aJ}(h:GOK g){t:Int}(h0:0≤t)(ht:t<g.Config.L):(hsh g t).length=g.Config.R.toNat:=by
 obtain ⟨b1,b2,b3⟩:=aSa h h0 ht;have r1:=h.r1;unfold hsh;rw [List.length_take,List.length_drop];omega
end Go.Proofs.YtkdohhmacfoolaaGreatDoor
