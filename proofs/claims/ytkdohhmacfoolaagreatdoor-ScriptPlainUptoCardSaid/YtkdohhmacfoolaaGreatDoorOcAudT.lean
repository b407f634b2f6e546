/- Facts. No condition. -/
import Derived.Test.YtkdohhmacfoolaaGreatDoorOcAudP
set_option linter.unusedVariables false
set_option linter.unusedSimpArgs false
set_option maxRecDepth 20000
set_option maxHeartbeats 1000000
namespace Go.Proofs.YtkdohhmacfoolaaGreatDoor
open Go Go.AM Go.Pl Go.Pt
def Rg(n:Int)(l:List aC):Prop:= ∀e,e∈l→0≤e.U∧e.U<n∧0≤e.V∧e.V<n
theorem Rg.inR{n:Int}{l:List aC}(h:Rg n l)(hn:0≤n):InR n.toNat (en l):=by
 intro e he;unfold en at he;obtain ⟨x,hx,rfl⟩:=List.mem_map.1 he;have:=h x hx;refine ⟨this.1,?_,this.2.2.1,?_⟩
 · show x.U<_;omega
 · show x.V<_;omega
theorem Rg.inR'{n:Int}{l:List aC}(h:Rg n l): ∀e,e∈en l→0≤e.1∧e.1<n∧0≤e.2∧e.2<n:=by
 intro e he;unfold en at he;obtain ⟨x,hx,rfl⟩:=List.mem_map.1 he;exact h x hx
theorem Rg.mono{n:Int}{l l':List aC}(h:Rg n l)(hs: ∀e,e∈l'→e∈l):Rg n l':=fun e he=>h e (hs e he)
theorem Rg.at{n:Int}{l:List aC}(h:Rg n l){i:Nat}(c:i<l.length):0≤l[i].U∧l[i].U<n∧0≤l[i].V∧l[i].V<n:=h _ (List.getElem_mem c)
theorem bNy{n:Int}{l:List aC}(h:trL n none l=true):Rg n l:=fun e he=>by
 obtain ⟨a,b,c,_⟩:=oJ.1 (bA0 h e he);omega
theorem aJl{l:List aC}{t:Int}{e:aC}(h:e∈fo l t):e∈l:=(List.mem_filter.1 h).1
theorem bLt{n:Int}{l:List aC}(h:Rg n l){x:Int}(h0:0≤x)(hx:x<n):0≤dR (en l) x∧dR (en l) x<n:=aAa h.inR' ⟨h0,hx⟩
def pt(n:Int)(l:List aC):List Int:=tab n (dR (en l))
theorem aYf(n:Int)(l:List aC):(pt n l).length=n.toNat:=xG _ _
theorem aSj{n:Int}{l:List aC}{x:Int}(h0:0≤x)(hx:x<n):idx (pt n l) x=some (dR (en l) x):=aM2 h0 hx
theorem aFc{n:Int}{l:List aC}(hl:l.length<1000000000)(h0:0≤n)(hn:n≤1024)(h:Rg n l):qC n l=some (pt n l,0):=by
 rw [bD8 hl,if_pos ⟨h0,hn,h⟩];rfl
theorem aKs{n:Int}(h0:0≤n)(hn:n≤1024){l:List aC}(h:Rg n l): ∀(m i:Nat),n.toNat<i+m→i≤n.toNat→sR m (pt n l) (pt n l) ((pt n l).length:Int) (i:Int)=some true
 |0,i,_,_=>by omega
 |m+1,i,hm,hi=>by
  show aCl (sR m) _ _ _ _=_;have hlen:=aYf n l;unfold aCl
  by_cases c:i<n.toNat
  · rw [bt (by rw [hlen];exact tZ c),aSj om om,aA];unfold gH;have hr:=bLt h (x:=(i:Int)) om om;have hle:=aIb (en l) (i:Int);rw [aA,gt' (by rw [hlen];simp;omega),aSj hr.1 hr.2,aA,aGo];rw [bf (by rw [hlen];simp;omega),wr1 i om];exact aKs h0 hn h m (i+1) om om
  · rw [bf (by rw [hlen];exact tY c)]
theorem aIa{n:Int}(h0:0≤n)(hn:n≤1024){l:List aC}(h:Rg n l):rP (pt n l)=some true:=by
 have hFU:=FU;unfold rP;exact aKs h0 hn h bF 0 om (Nat.zero_le _)
def cntF(n i:Nat)(p:Int→Int):Nat:=(List.range' i (n-i)).countP fun (k:Nat)=>decide (p k=k)
theorem cntF_step{n i:Nat}{p:Int→Int}(c:i<n):cntF n i p=(if p i=i then 1 else 0)+cntF n (i+1) p:=by
 unfold cntF;rw [show n-i=(n-(i+1))+1 by omega,List.range'_succ,List.countP_cons];simp only [decide_eq_true_eq];omega
theorem bAl(n:Nat)(p:Int→Int):cntF n 0 p=cnt n p:=by unfold cntF cnt;rw [Nat.sub_zero,List.range_eq_range']
theorem bEo{n i:Nat}(p:Int→Int)(c: ¬i<n):cntF n i p=0:=by unfold cntF;rw [show n-i=0 by omega];rfl
theorem aGn{n:Int}(h0:0≤n)(hn:n≤1024)(f:Int→Int): ∀(m i k:Nat),n.toNat<i+m→i≤n.toNat→k≤i→vE m (k:Int) (tab n f) ((tab n f).length:Int) (i:Int)=some (((k+cntF n.toNat i f:Nat):Int))
 |0,i,_,_,_,_=>by omega
 |m+1,i,k,hm,hi,hk=>by
  show aEh (vE m) _ _ _ _=_;have hlen:=xG n f;unfold aEh aEi
  by_cases c:i<n.toNat
  ·
   rw [bt (by rw [hlen];exact tZ c),aM2 om om,aA,wr1 i om,wr1 k om,cntF_step c]
   by_cases e:f i=i
   · rw [bt (by simp [e]),aGn h0 hn f m (i+1) (k+1) om om om,if_pos e];congr 2;omega
   · rw [bf (by simp;omega),aGn h0 hn f m (i+1) k om om om,if_neg e];congr 2;omega
  · rw [bf (by rw [hlen];exact tY c),bEo f c];rfl
theorem aUw{n:Int}(h0:0≤n)(hn:n≤1024){l:List aC}(h:Rg n l):yW (pt n l)=some ((cl n.toNat (en l):Nat):Int):=by
 have hFU:=FU;unfold yW;rw [aIa h0 hn h,aA,bf (c:= !true) rfl];have:=aGn h0 hn (dR (en l)) bF 0 0 om (Nat.zero_le _) (Nat.le_refl _);rw [bAl,Nat.zero_add] at this;exact this
theorem bOs{n:Nat}(l:List E):cl n l≤n:=by unfold cl cnt;exact Nat.le_trans List.countP_le_length (by simp)
theorem tT(l:List aC):(en l).length=l.length:=by simp [en]
def foB(n:Int)(l:List aC):Bool:=decide (cl n.toNat (en l)+l.length=n.toNat)
theorem aAp{n:Int}(h0:0≤n)(hn:n≤1024){l:List aC}(hl:l.length<1000000000)(h:Rg n l):lF n l=some (foB n l):=by
 unfold lF foB;rw [aFc hl h0 hn h,aA];have:=bOs (n:=n.toNat) (en l);simp only [];rw [gt' (by rfl),aUw h0 hn h,aA,wr0 om om];congr 1
 by_cases c:cl n.toNat (en l)+l.length=n.toNat
 · simp [c];omega
 · simp [c];omega
def Iv(n:Int)(l:List aC)(p:List Int):Prop:=p.length=n.toNat∧ ∀k:Nat,k<n.toNat→ ∃y:Nat,p[k]? =some (y:Int)∧y≤k∧bO (en l) k y
theorem Iv.set{n:Int}{l:List aC}{p:List Int}(h:Iv n l p){v a:Nat}(hv:v<n.toNat)(hle:a≤v)(hc:bO (en l) v a):Iv n l (p.set v (a:Int)):=by
 refine ⟨by rw [List.length_set];exact h.1,fun k hk=>?_⟩
 by_cases e:k=v
 · subst e;exact ⟨a,by rw [List.getElem?_set_self (by rw [h.1];exact hk)],hle,hc⟩
 · obtain ⟨y,h1,h2⟩:=h.2 k hk;exact ⟨y,by rw [List.getElem?_set_ne (fun q=>e q.symm)];exact h1,h2⟩
theorem Iv.done{n:Int}{l:List aC}{p:List Int}(h:Rg n l)(hI:Iv n l p)(he: ∀j (hj:j<l.length),idx p l[j].U=idx p l[j].V):p=pt n l:=by
 refine aX5 hI.1 fun k hk=>?_
 have key:=aUy (n:=n) (l:=en l) h.inR' (q:=fun x=>(p[x.toNat]?).getD 0) (fun x h0 hx=>by
  obtain ⟨y,y1,y2,y3⟩:=hI.2 x.toNat om;have e:((x.toNat:Nat):Int)=x:=by omega
  rw [e] at y3;simp only [y1,Option.getD_some];exact ⟨by omega,by omega,y3⟩) (fun e hm=>by
  unfold en at hm;obtain ⟨x,hx,rfl⟩:=List.mem_map.1 hm;obtain ⟨j,hj,rfl⟩:=List.getElem_of_mem hx;have r:=h.at hj;have:=he j hj;rw [tX (k:=l[j].U.toNat) om,tX (k:=l[j].V.toNat) om] at this;simp only [this]) (k:Int) om hk
 obtain ⟨y,y1,_⟩:=hI.2 k om;simp only [Int.toNat_natCast,y1,Option.getD_some] at key;rw [y1,key]
theorem Rg.take{n:Int}{l:List aC}(h:Rg n l)(i:Nat):Rg n (l.take i):=h.mono fun e he=>List.mem_of_mem_take he
def hsB(l:List bQ):Bool:=l.all fun h=>decide (h.A<2305843009213693951)&&decide (h.B<2305843009213693951)
def tiB(t:Int)(l:List aC):Bool:=l.all fun e=>decide (e.Tier≤t)
theorem aVk(t:Int)(e:aC)(l:List aC):tiB t (e::l)=(decide (e.Tier≤t)&&tiB t l):=rfl
theorem aMr(h:bQ)(l:List bQ):hsB (h::l)=((decide (h.A<2305843009213693951)&&decide (h.B<2305843009213693951))&&hsB l):=rfl
def cfB(g:aH):Bool:=decide (1≤g.Config.N∧g.Config.N≤1024∧1≤g.Config.L∧g.Config.L≤16∧1≤g.Config.R∧g.Config.R≤8∧(g.Hashes.length:Int)=g.Config.L*g.Config.R)
def grB(g:aH):Bool:=cfB g&&(hsB g.Hashes&&(trB g.Config.N g.Edges&&(tiB g.Config.L g.Edges&&foB g.Config.N (fo g.Edges g.Config.L))))
theorem aK0{n:Int}{l:List aC}(h:trB n l=true):0≤n∧n≤1024∧Rg n l:=by
 unfold trB at h;simp only [Bool.and_eq_true,decide_eq_true_eq] at h;exact ⟨h.1.1,h.1.2,bNy h.2⟩
theorem aKk{n:Int}{l:List aC}(h:Rg n l)(t:Int):Rg n (fo l t):=h.mono fun e he=>aJl he
section
variable {g:aH}(hE:g.Edges.length<1000000000)(hH:g.Hashes.length<1000000000)
include hE
theorem bLv(hT:trB g.Config.N g.Edges=true): ∀(m i:Nat),g.Edges.length<i+m→i+m≤bF→i≤g.Edges.length→nL m g g.Config g.Edges (g.Edges.length:Int) (i:Int)=some (tiB g.Config.L (g.Edges.drop i)&&foB g.Config.N (fo g.Edges g.Config.L))
 |0,i,h,_,hi=>by omega
 |m+1,i,h,hF,hi=>by
  have hFU:=FU;obtain ⟨n0,n1,hr⟩:=aK0 hT;show zD (nL m) g g.Config g.Edges _ _=_;unfold zD
  by_cases c:i<g.Edges.length
  ·
   rw [bt (tZ c),dD c,aA,eC c,wr1 i om]
   by_cases q:g.Edges[i].Tier≤g.Config.L
   · rw [bf (by simp;omega),bLv hT m (i+1) om om c];rw [aVk];simp [q]
   · rw [bt (by simp;omega)];rw [aVk];simp [q]
  · rw [bf (tY c),tC hE,aA,hT,List.drop_eq_nil_of_le om];have:=aRi g.Edges g.Config.L;simp only [if_true];rw [aAp n0 n1 om (aKk hr _),aA];rfl
theorem bLu: ∀(m i:Nat),g.Hashes.length<i+m→i+m≤bF→i≤g.Hashes.length→nK m g g.Config g.Hashes (g.Hashes.length:Int) (i:Int)=some (hsB (g.Hashes.drop i)&&(trB g.Config.N g.Edges&&(tiB g.Config.L g.Edges&&foB g.Config.N (fo g.Edges g.Config.L))))
 |0,i,h,_,hi=>by omega
 |m+1,i,h,hF,hi=>by
  have hFU:=FU;show zC (nK m) g g.Config g.Hashes _ _=_;unfold zC
  by_cases c:i<g.Hashes.length
  ·
   rw [bt (tZ c),dD c,aA,eC c,wr1 i om]
   by_cases q:g.Hashes[i].A<2305843009213693951∧g.Hashes[i].B<2305843009213693951
   · rw [bf (by simp;omega),bLu m (i+1) om om c];rw [aMr];simp [q]
   ·
    rw [bt (by simp;omega)];have:(decide (g.Hashes[i].A<2305843009213693951)&&decide (g.Hashes[i].B<2305843009213693951))=false:=by simp;omega
    rw [aMr,this];rfl
  ·
   rw [bf (tY c),kJ hE,aA,List.drop_eq_nil_of_le om]
   cases hT:trB g.Config.N g.Edges with
   |false=>rfl
   |true=>
    rw [bf (c:= !true) rfl,show (0:Int)=((0:Nat):Int) from rfl,bLv hE hT bF 0 om om (Nat.zero_le _)];rfl
omit hE in
theorem aZ0(h:1≤g.Config.L∧g.Config.L≤16∧1≤g.Config.R∧g.Config.R≤8):IntKind.i64.wrap (g.Config.L*g.Config.R)=g.Config.L*g.Config.R:=by
 have h1:0≤g.Config.L*g.Config.R:=Int.mul_nonneg om om;have h2:g.Config.L*g.Config.R≤16*8:=Int.mul_le_mul om om om om;exact wr0 om om
include hH
theorem iQ:eK g=some (grB g):=by
 have hFU:=FU;have e:=bLu hE bF 0 om om (Nat.zero_le _);rw [List.drop_zero] at e;unfold eK grB
 by_cases c:1≤g.Config.N∧g.Config.N≤1024∧1≤g.Config.L∧g.Config.L≤16∧1≤g.Config.R∧g.Config.R≤8
 ·
  rw [bf (by simp;omega),aZ0 ⟨c.2.2.1,c.2.2.2.1,c.2.2.2.2⟩]
  by_cases k:(g.Hashes.length:Int)=g.Config.L*g.Config.R
  ·
   rw [bf (by simp [k]),show (0:Int)=((0:Nat):Int) from rfl,e];have:cfB g=true:=by unfold cfB;rw [decide_eq_true_eq];exact ⟨c.1,c.2.1,c.2.2.1,c.2.2.2.1,c.2.2.2.2.1,c.2.2.2.2.2,k⟩
   rw [this];rfl
  ·
   rw [bt (by simp [k])];have:cfB g=false:=by unfold cfB;rw [decide_eq_false_iff_not];exact fun q=>k q.2.2.2.2.2.2
   rw [this];rfl
 ·
  have:cfB g=false:=by unfold cfB;rw [decide_eq_false_iff_not];exact fun q=>c ⟨q.1,q.2.1,q.2.2.1,q.2.2.2.1,q.2.2.2.2.1,q.2.2.2.2.2.1⟩
  rw [bt (by simp;omega),this];rfl
end
structure GOK(g:aH):Prop where
  n1:1≤g.Config.N
  n2:g.Config.N≤1024
  l1:1≤g.Config.L
  l2:g.Config.L≤16
  r1:1≤g.Config.R
  r2:g.Config.R≤8
  hl:(g.Hashes.length:Int)=g.Config.L*g.Config.R
  hs:hsB g.Hashes=true
  tr:trB g.Config.N g.Edges=true
  ti:tiB g.Config.L g.Edges=true
  fr:foB g.Config.N (fo g.Edges g.Config.L)=true
  rg:Rg g.Config.N g.Edges
theorem gok{g:aH}(h:grB g=true):GOK g:=by
 unfold grB cfB at h;simp only [Bool.and_eq_true,decide_eq_true_eq] at h;obtain ⟨⟨a,b,c,d,e,f,k⟩,h1,h2,h3,h4⟩:=h;exact ⟨a,b,c,d,e,f,k,h1,h2,h3,h4,(aK0 h2).2.2⟩
open Go Go.AM Go.Pl Go.Pt
theorem aG0(a b:List Int)(hab:a.length=b.length)(hl:a.length<1000000000): ∀(m i:Nat),a.length<i+m→i≤a.length→kA m a b (a.length:Int) (i:Int)=some (decide (a.drop i=b.drop i))
 |0,i,h,hi=>by omega
 |m+1,i,h,hi=>by
  show tA (kA m) a b _ _=_;unfold tA
  by_cases c:i<a.length
  ·
   have c':i<b.length:=by omega
   rw [bt (tZ c),dD c,aA,dD c',aA,wr1 i om,eC c,eC c']
   by_cases q:a[i]=b[i]
   · rw [bf (by simp [q]),aG0 a b hab hl m (i+1) om c];simp [q,-List.getElem_cons_drop]
   · rw [bt (by simp [q])];simp [q,-List.getElem_cons_drop]
  · rw [bf (tY c),List.drop_eq_nil_of_le om,List.drop_eq_nil_of_le om];rfl
theorem aNs(a b:List Int)(hl:a.length<1000000000):kS a b=some (decide (a=b)):=by
 have hFU:=FU;unfold kS
 by_cases h:a.length=b.length
 · rw [bf (by simp [h]),show (0:Int)=((0:Nat):Int) from rfl,aG0 a b h hl bF 0 om (Nat.zero_le _)];rfl
 · rw [bt (by simp;omega)];have: ¬a=b:=fun e=>h (by rw [e]);simp [this]
def kf(g:aH):List aC:=fo g.Edges g.Config.L
theorem bKl{n:Int}(hn:n≤1024)(l:List aC):(pt n l).length<1000000000:=by rw [aYf];omega
section
variable {g:aH}(hE:g.Edges.length<1000000000)(hH:g.Hashes.length<1000000000)
include hE hH
theorem aD4:lC g=some (if grB g then pt g.Config.N (kf g) else []):=by
 unfold lC;rw [iQ hE hH,aA]
 cases h:grB g with
 |false=>rfl
 |true=>
  have k:=gok h;have:=aRi g.Edges g.Config.L;rw [bf (c:= !true) rfl,tC hE,aA,k.tr];simp only [if_true];rw [aFc om (by have:=k.n1;omega) k.n2 (aKk k.rg _),aA];rfl
theorem aWk:aBb g=some (if grB g then pt g.Config.N g.Edges else []):=by
 unfold aBb;rw [iQ hE hH,aA]
 cases h:grB g with
 |false=>rfl
 |true=>
  have k:=gok h;rw [bf (c:= !true) rfl,aFc hE (by have:=k.n1;omega) k.n2 k.rg,aA];rfl
theorem aOl:rY g=some (grB g&&decide (pt g.Config.N (kf g)=pt g.Config.N g.Edges)):=by
 unfold rY;rw [iQ hE hH,aA,aD4 hE hH,aWk hE hH]
 cases h:grB g with
 |false=>rfl
 |true=>
  simp only [if_true];rw [gtt,aA,gtt,aA,gtt,aNs _ _ (bKl (gok h).n2 _),aA]
end
section
variable {g:aH}(hE:g.Edges.length<1000000000)(h:GOK g)
include hE h
end
open Go Go.AM Go.Pl Go.Pt
theorem InR.app{n:Nat}{l l':List E}(h: ∀e,e∈l→e∈l')(hr:InR n l'):InR n (l'++l):=fun e he=>by
 rcases List.mem_append.1 he with m|m
 · exact hr e m
 · exact hr e (h e m)
def bare(l:List aC):List aC:=l.map fun e=>aC.mk e.U e.V 0
end Go.Proofs.YtkdohhmacfoolaaGreatDoor
