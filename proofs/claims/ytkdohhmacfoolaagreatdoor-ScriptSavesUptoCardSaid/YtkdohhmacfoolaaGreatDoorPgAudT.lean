/- Facts. No condition. -/
import Derived.Test.YtkdohhmacfoolaaGreatDoorPgGA2
set_option linter.unusedSimpArgs false
set_option linter.unusedVariables false
namespace Go.Ix
open Go.Pt
structure Srt(L:List Int)(S:Int→Prop):Prop where
  up:L.Pairwise (· < ·)
  mem: ∀x,x∈L↔S x
theorem bAv: ∀ {a b:List Int},a.Nodup→(∀x,x∈a→x∈b)→a.length≤b.length
 |[],_,_,_=>Nat.zero_le _
 |x::a,b,ha,h=>by
  obtain ⟨n1,n2⟩:=List.nodup_cons.1 ha;have hx:=h x (List.mem_cons_self ..);have:=bAv (a:=a) (b:=b.erase x) n2 fun y hy=>(List.mem_erase_of_ne (fun e:y=x=>n1 (by rw [←e];exact hy))).2 (h y (List.mem_cons_of_mem _ hy));rw [List.length_erase_of_mem hx] at this;have:=List.length_pos_of_mem hx;rw [List.length_cons];omega
def aUe(x:Int):List Int→List Int
  |[]=>[x]
  |y::l=>if y<x then y::aUe x l else x::y::l
theorem aXi{x:Int} : ∀ {l:List Int} {k:Nat},k≤l.length→(∀j y,j<k→l[j]? =some y→y<x)→(∀y,l[k]? =some y→ ¬y<x)→aUe x l=l.take k++x::l.drop k
 |[],0,_,_,_=>rfl
 |[],k+1,h,_,_=>by simp at h
 |y::l,0,_,_,h=>by
  unfold aUe;rw [if_neg (h y rfl)];rfl
 |y::l,k+1,hk,h1,h2=>by
  unfold aUe;rw [if_pos (h1 0 y (by omega) rfl),aXi (k:=k) (by simpa using hk) (fun j z hj hz=>h1 (j+1) z (by omega) hz) h2];rfl
theorem aSc{x:Int} : ∀ {l:List Int},(aUe x l).length=l.length+1
 |[]=>rfl
 |y::l=>by
  unfold aUe;split
  · simp [aSc]
  · simp
def bY1(l:List Int):List Int:=l.foldl (fun out x=>aUe x out) []
end Go.Ix
set_option maxRecDepth 20000
set_option maxHeartbeats 1000000
namespace Go.Proofs.YtkdohhmacfoolaaGreatDoor
open Go Go.AM Go.Pl Go.Pt
theorem jS{α:Type}(b:Bool)(d x:α):eJ b d (some x)=some (bif b then x else d):=by cases b<;>rfl
theorem oJ{i m:Nat}(h:i<m):decide (((i:Nat):Int)<((m:Nat):Int))=true:=by simp;omega
theorem oI{i m:Nat}(h: ¬i<m):decide (((i:Nat):Int)<((m:Nat):Int))=false:=by simp;omega
section
variable {α:Type}{d:α}{o:Option α}
theorem gtt:eJ (true==true) d o=o:=gt' rfl
theorem gft:eJ (false==true) d o=some d:=gf' rfl
end
theorem cAy(k:Nat):decide (0<((k+1:Nat):Int))=true:=by simp<;>omega
theorem FU:aY=1000000000000:=rfl
def okE(n:Int)(e:aE):Bool:=decide (0≤e.U∧e.U<e.V∧e.V<n∧0≤e.Tier∧e.Tier≤16)
def aEq(a b:aE):Bool:=decide (a.U<b.U∨a.U=b.U∧a.V<b.V)
def trL(n:Int):Option aE→List aE→Bool
  |_,[]=>true
  |none,e::l=>okE n e&&trL n (some e) l
  |some q,e::l=>okE n e&&(aEq q e&&trL n (some e) l)
def prv(l:List aE):Nat→Option aE
  |0=>none
  |k+1=>l[k]?
theorem aJ4(a b:aE):xL a b=some (aEq a b):=by
 unfold xL aEq;congr 1
 by_cases h1:a.U<b.U<;>by_cases h2:a.U=b.U<;>by_cases h3:a.V<b.V<;>simp [h1,h2,h3]
theorem uR{n:Int}{e:aE} :okE n e=true↔0≤e.U∧e.U<e.V∧e.V<n∧0≤e.Tier∧e.Tier≤16:=by unfold okE;exact decide_eq_true_iff
theorem bBg{l:List aE}{i:Nat}(c:i<l.length):prv l (i+1)=some l[i]:=List.getElem?_eq_getElem c
def stE(n:Int)(p:Option aE)(e:aE):Bool:=okE n e&&(match p with|none=>true|some q=>aEq q e)
theorem aTo(n:Int)(p:Option aE)(e:aE)(l:List aE):trL n p (e::l)=(stE n p e&&trL n (some e) l):=by
 cases p<;>simp [trL,stE,Bool.and_assoc]
theorem aNv{n:Int}(l:List aE): ∀(m i:Nat),l.length<i+m→i+m≤aY→i≤l.length→wM m n l l (l.length:Int) (i:Int)=some (trL n (prv l i) (l.drop i))
 |0,i,h,_,hi=>by omega
 |m+1,i,h,hF,hi=>by
  have hFU:=FU;show aFr (wM m) n l l _ _=_;unfold aFr
  by_cases c:i<l.length
  ·
   have ih:=aNv (n:=n) l m (i+1) om om c;rw [bBg c] at ih;rw [bt (oJ c),cN c,aA,dZ c,aTo];unfold sB;rw [jS,aA,wr1 i om,ih];generalize l[i]=e
   cases ok:okE n e with
   |false=>
    rw [bt]
    · simp [stE,ok]
    ·
     have: ¬(0≤e.U∧e.U<e.V∧e.V<n∧0≤e.Tier∧e.Tier≤16):=fun q=>by rw [uR.2 q] at ok;cases ok
     by_cases h1:e.U<0<;>by_cases h2:e.V≤e.U<;>by_cases h3:n≤e.V<;>simp [h1,h2,h3]<;>omega
   |true=>
    obtain ⟨h1,h2,h3,h4,h5⟩:=uR.1 ok;rw [bf (by simp;omega)]
    cases i with
    |zero=>
     rw [gf' (by simp),aA,gf' (by simp),aA,bf (by simp)];simp [stE,ok,prv]
    |succ k=>
     have ck:k<l.length:=by omega
     have e0:IntKind.i64.wrap (((k+1:Nat):Int)-1)=((k:Nat):Int):=by rw [wr0 om om];omega
     rw [cAy,gtt,e0,cN ck,aA,gtt,aJ4,aA,bBg ck]
     cases hl:aEq l[k] e with
     |false=>rw [bt (by simp)];simp [stE,ok,hl]
     |true=>rw [bf (by simp [hl])];simp [stE,ok,hl]
  · rw [bf (oI c),List.drop_eq_nil_of_le om];cases prv l i<;>rfl
def trB(n:Int)(l:List aE):Bool:=decide (0≤n∧n≤1024)&&trL n none l
theorem oM{n:Int}{l:List aE}(hl:l.length<1000000000):kL n l=some (trB n l):=by
 have hFU:=FU;unfold kL trB
 by_cases c:0≤n∧n≤1024
 · rw [bf (by simp;omega)];have:=aNv (n:=n) l aY 0 om om (Nat.zero_le _);rw [show (0:Int)=((0:Nat):Int) from rfl,this];simp [prv,c]
 · rw [bt (by simp;omega)];simp [c]
theorem bH9{n:Int} : ∀ {l:List aE} {p:Option aE},trL n p l=true→ ∀e,e∈l→okE n e=true
 |[],_,_,_,h=>by cases h
 |a::l,p,h,e,he=>by
  rw [aTo] at h;simp only [Bool.and_eq_true] at h;rcases List.mem_cons.1 he with q|q
  · subst q;have:=h.1;unfold stE at this;simp only [Bool.and_eq_true] at this;exact this.1
  · exact bH9 h.2 e q
def inT(t:Int)(e:aE):Bool:=decide (1≤e.Tier)&&decide (e.Tier≤t)
def fo(l:List aE)(t:Int):List aE:=l.filter (inT t)
theorem aX5(l:List aE)(t:Int):(fo l t).length≤l.length:=List.length_filter_le _ _
theorem aVq{p:aE→Bool}{l:List aE}{i:Nat}(c:i<l.length):(l.drop i).filter p=(if p l[i] then [l[i]] else [])++(l.drop (i+1)).filter p:=by
 rw [dZ c,List.filter_cons];split<;>rfl
theorem aFq{t:Int}(l:List aE)(hl:l.length<1000000000): ∀(m i:Nat) (out:List aE),l.length<i+m→i+m≤aY→i≤l.length→out.length≤i→tV m t out l (l.length:Int) (i:Int)=some (out++(l.drop i).filter (inT t))
 |0,i,_,h,_,hi,_=>by omega
 |m+1,i,out,h,hF,hi,ho=>by
  have hFU:=FU;show aE8 (tV m) t out l _ _=_;unfold aE8
  by_cases c:i<l.length
  ·
   rw [bt (oJ c),cN c,aA,aVq c];unfold aE9;rw [wr1 i om]
   cases hp:inT t l[i] with
   |true=>
    unfold inT at hp;rw [bt hp,gG (by simp;omega),aA,aFq l hl m (i+1) _ om om c (by simp;omega)];simp
   |false=>
    unfold inT at hp;rw [bf hp,aFq l hl m (i+1) _ om om c om];simp
  · rw [bf (oI c),List.drop_eq_nil_of_le om];simp
theorem tX{n t:Int}{l:List aE}(hl:l.length<1000000000):kC n l t=some (if trB n l then fo l t else []):=by
 have hFU:=FU;unfold kC;rw [oM hl,aA]
 cases trB n l with
 |false=>rfl
 |true=>
  rw [show (!true)=false from rfl,bf rfl];have:=aFq (t:=t) l hl aY 0 [] om om (Nat.zero_le _) (by simp);rw [show (0:Int)=((0:Nat):Int) from rfl,this];rfl
open Go Go.AM Go.Pl Go.Pt
def Rg(n:Int)(l:List aE):Prop:= ∀e,e∈l→0≤e.U∧e.U<n∧0≤e.V∧e.V<n
theorem Rg.inR{n:Int}{l:List aE}(h:Rg n l)(hn:0≤n):InR n.toNat (en l):=by
 intro e he;unfold en at he;obtain ⟨x,hx,rfl⟩:=List.mem_map.1 he;have:=h x hx;refine ⟨this.1,?_,this.2.2.1,?_⟩
 · show x.U<_;omega
 · show x.V<_;omega
theorem Rg.inR'{n:Int}{l:List aE}(h:Rg n l): ∀e,e∈en l→0≤e.1∧e.1<n∧0≤e.2∧e.2<n:=by
 intro e he;unfold en at he;obtain ⟨x,hx,rfl⟩:=List.mem_map.1 he;exact h x hx
theorem Rg.mono{n:Int}{l l':List aE}(h:Rg n l)(hs: ∀e,e∈l'→e∈l):Rg n l':=fun e he=>h e (hs e he)
theorem Rg.at{n:Int}{l:List aE}(h:Rg n l){i:Nat}(c:i<l.length):0≤l[i].U∧l[i].U<n∧0≤l[i].V∧l[i].V<n:=h _ (List.getElem_mem c)
theorem bYb{n:Int}{l:List aE}(h:trL n none l=true):Rg n l:=fun e he=>by
 obtain ⟨a,b,c,_⟩:=uR.1 (bH9 h e he);omega
theorem bEr{l:List aE}{t:Int}{e:aE}(h:e∈fo l t):e∈l:=(List.mem_filter.1 h).1
theorem cAx{n:Int}{l:List aE}(h:Rg n l){x:Int}(h0:0≤x)(hx:x<n):0≤jB (en l) x∧jB (en l) x<n:=aEx h.inR' ⟨h0,hx⟩
def pt(n:Int)(l:List aE):List Int:=tab n (jB (en l))
theorem bF2(n:Int)(l:List aE):(pt n l).length=n.toNat:=aCx _ _
theorem aYc{n:Int}{l:List aE}{x:Int}(h0:0≤x)(hx:x<n):idx (pt n l) x=some (jB (en l) x):=aRk h0 hx
theorem aKd{n:Int}{l:List aE}(hl:l.length<1000000000)(h0:0≤n)(hn:n≤1024)(h:Rg n l):vX n l=some (pt n l,0):=by
 rw [bL5 hl,if_pos ⟨h0,hn,h⟩];rfl
theorem aQ4{n:Int}(h0:0≤n)(hn:n≤1024){l:List aE}(h:Rg n l): ∀(m i:Nat),n.toNat<i+m→i≤n.toNat→zT m (pt n l) (pt n l) ((pt n l).length:Int) (i:Int)=some true
 |0,i,_,_=>by omega
 |m+1,i,hm,hi=>by
  show aHf (zT m) _ _ _ _=_;have hlen:=bF2 n l;unfold aHf
  by_cases c:i<n.toNat
  · rw [bt (by rw [hlen];exact oJ c),aYc om om,aA];unfold jT;have hr:=cAx h (x:=(i:Int)) om om;have hle:=aNa (en l) (i:Int);rw [aA,gt' (by rw [hlen];simp;omega),aYc hr.1 hr.2,aA,aLr];rw [bf (by rw [hlen];simp;omega),wr1 i om];exact aQ4 h0 hn h m (i+1) om om
  · rw [bf (by rw [hlen];exact oI c)]
theorem aN9{n:Int}(h0:0≤n)(hn:n≤1024){l:List aE}(h:Rg n l):yI (pt n l)=some true:=by
 have hFU:=FU;unfold yI;exact aQ4 h0 hn h aY 0 om (Nat.zero_le _)
def cntF(n i:Nat)(p:Int→Int):Nat:=(List.range' i (n-i)).countP fun (k:Nat)=>decide (p k=k)
theorem cntF_step{n i:Nat}{p:Int→Int}(c:i<n):cntF n i p=(if p i=i then 1 else 0)+cntF n (i+1) p:=by
 unfold cntF;rw [show n-i=(n-(i+1))+1 by omega,List.range'_succ,List.countP_cons];simp only [decide_eq_true_eq];omega
theorem bHs(n:Nat)(p:Int→Int):cntF n 0 p=cnt n p:=by unfold cntF cnt;rw [Nat.sub_zero,List.range_eq_range']
theorem bMu{n i:Nat}(p:Int→Int)(c: ¬i<n):cntF n i p=0:=by unfold cntF;rw [show n-i=0 by omega];rfl
theorem aLq{n:Int}(h0:0≤n)(hn:n≤1024)(f:Int→Int): ∀(m i k:Nat),n.toNat<i+m→i≤n.toNat→k≤i→aBj m (k:Int) (tab n f) ((tab n f).length:Int) (i:Int)=some (((k+cntF n.toNat i f:Nat):Int))
 |0,i,_,_,_,_=>by omega
 |m+1,i,k,hm,hi,hk=>by
  show aJb (aBj m) _ _ _ _=_;have hlen:=aCx n f;unfold aJb aJc
  by_cases c:i<n.toNat
  ·
   rw [bt (by rw [hlen];exact oJ c),aRk om om,aA,wr1 i om,wr1 k om,cntF_step c]
   by_cases e:f i=i
   · rw [bt (by simp [e]),aLq h0 hn f m (i+1) (k+1) om om om,if_pos e];congr 2;omega
   · rw [bf (by simp;omega),aLq h0 hn f m (i+1) k om om om,if_neg e];congr 2;omega
  · rw [bf (by rw [hlen];exact oI c),bMu f c];rfl
theorem bB5{n:Int}(h0:0≤n)(hn:n≤1024){l:List aE}(h:Rg n l):aDt (pt n l)=some ((cl n.toNat (en l):Nat):Int):=by
 have hFU:=FU;unfold aDt;rw [aN9 h0 hn h,aA,bf (c:= !true) rfl];have:=aLq h0 hn (jB (en l)) aY 0 0 om (Nat.zero_le _) (Nat.le_refl _);rw [bHs,Nat.zero_add] at this;exact this
theorem bZ0{n:Nat}(l:List E):cl n l≤n:=by unfold cl cnt;exact Nat.le_trans List.countP_le_length (by simp)
theorem zG(l:List aE):(en l).length=l.length:=by simp [en]
def foB(n:Int)(l:List aE):Bool:=decide (cl n.toNat (en l)+l.length=n.toNat)
theorem aFd{n:Int}(h0:0≤n)(hn:n≤1024){l:List aE}(hl:l.length<1000000000)(h:Rg n l):qL n l=some (foB n l):=by
 unfold qL foB;rw [aKd hl h0 hn h,aA];have:=bZ0 (n:=n.toNat) (en l);simp only [];rw [gt' (by rfl),bB5 h0 hn h,aA,wr0 om om];congr 1
 by_cases c:cl n.toNat (en l)+l.length=n.toNat
 · simp [c];omega
 · simp [c];omega
def Iv(n:Int)(l:List aE)(p:List Int):Prop:=p.length=n.toNat∧ ∀k:Nat,k<n.toNat→ ∃y:Nat,p[k]? =some (y:Int)∧y≤k∧cO (en l) k y
theorem Iv.done{n:Int}{l:List aE}{p:List Int}(h:Rg n l)(hI:Iv n l p)(he: ∀j (hj:j<l.length),idx p l[j].U=idx p l[j].V):p=pt n l:=by
 refine bDn hI.1 fun k hk=>?_
 have key:=bB7 (n:=n) (l:=en l) h.inR' (q:=fun x=>(p[x.toNat]?).getD 0) (fun x h0 hx=>by
  obtain ⟨y,y1,y2,y3⟩:=hI.2 x.toNat om;have e:((x.toNat:Nat):Int)=x:=by omega
  rw [e] at y3;simp only [y1,Option.getD_some];exact ⟨by omega,by omega,y3⟩) (fun e hm=>by
  unfold en at hm;obtain ⟨x,hx,rfl⟩:=List.mem_map.1 hm;obtain ⟨j,hj,rfl⟩:=List.getElem_of_mem hx;have r:=h.at hj;have:=he j hj;rw [xK (k:=l[j].U.toNat) om,xK (k:=l[j].V.toNat) om] at this;simp only [this]) (k:Int) om hk
 obtain ⟨y,y1,_⟩:=hI.2 k om;simp only [Int.toNat_natCast,y1,Option.getD_some] at key;rw [y1,key]
theorem Rg.take{n:Int}{l:List aE}(h:Rg n l)(i:Nat):Rg n (l.take i):=h.mono fun e he=>List.mem_of_mem_take he
def hsB(l:List cI):Bool:=l.all fun h=>decide (h.A<2305843009213693951)&&decide (h.B<2305843009213693951)
def tiB(t:Int)(l:List aE):Bool:=l.all fun e=>decide (e.Tier≤t)
theorem bC4(t:Int)(e:aE)(l:List aE):tiB t (e::l)=(decide (e.Tier≤t)&&tiB t l):=rfl
theorem aS9(h:cI)(l:List cI):hsB (h::l)=((decide (h.A<2305843009213693951)&&decide (h.B<2305843009213693951))&&hsB l):=rfl
def cfB(g:aJ):Bool:=decide (1≤g.Config.N∧g.Config.N≤1024∧1≤g.Config.L∧g.Config.L≤16∧1≤g.Config.R∧g.Config.R≤8∧(g.Hashes.length:Int)=g.Config.L*g.Config.R)
def grB(g:aJ):Bool:=cfB g&&(hsB g.Hashes&&(trB g.Config.N g.Edges&&(tiB g.Config.L g.Edges&&foB g.Config.N (fo g.Edges g.Config.L))))
theorem aPa{n:Int}{l:List aE}(h:trB n l=true):0≤n∧n≤1024∧Rg n l:=by
 unfold trB at h;simp only [Bool.and_eq_true,decide_eq_true_eq] at h;exact ⟨h.1.1,h.1.2,bYb h.2⟩
theorem aPv{n:Int}{l:List aE}(h:Rg n l)(t:Int):Rg n (fo l t):=h.mono fun e he=>bEr he
section
variable {g:aJ}(hE:g.Edges.length<1000000000)(hH:g.Hashes.length<1000000000)
include hE
theorem bVv(hT:trB g.Config.N g.Edges=true): ∀(m i:Nat),g.Edges.length<i+m→i+m≤aY→i≤g.Edges.length→tL m g g.Config g.Edges (g.Edges.length:Int) (i:Int)=some (tiB g.Config.L (g.Edges.drop i)&&foB g.Config.N (fo g.Edges g.Config.L))
 |0,i,h,_,hi=>by omega
 |m+1,i,h,hF,hi=>by
  have hFU:=FU;obtain ⟨n0,n1,hr⟩:=aPa hT;show aE0 (tL m) g g.Config g.Edges _ _=_;unfold aE0
  by_cases c:i<g.Edges.length
  ·
   rw [bt (oJ c),cN c,aA,dZ c,wr1 i om]
   by_cases q:g.Edges[i].Tier≤g.Config.L
   · rw [bf (by simp;omega),bVv hT m (i+1) om om c];rw [bC4];simp [q]
   · rw [bt (by simp;omega)];rw [bC4];simp [q]
  · rw [bf (oI c),tX hE,aA,hT,List.drop_eq_nil_of_le om];have:=aX5 g.Edges g.Config.L;simp only [if_true];rw [aFd n0 n1 om (aPv hr _),aA];rfl
theorem bVu: ∀(m i:Nat),g.Hashes.length<i+m→i+m≤aY→i≤g.Hashes.length→tK m g g.Config g.Hashes (g.Hashes.length:Int) (i:Int)=some (hsB (g.Hashes.drop i)&&(trB g.Config.N g.Edges&&(tiB g.Config.L g.Edges&&foB g.Config.N (fo g.Edges g.Config.L))))
 |0,i,h,_,hi=>by omega
 |m+1,i,h,hF,hi=>by
  have hFU:=FU;show aDz (tK m) g g.Config g.Hashes _ _=_;unfold aDz
  by_cases c:i<g.Hashes.length
  ·
   rw [bt (oJ c),cN c,aA,dZ c,wr1 i om]
   by_cases q:g.Hashes[i].A<2305843009213693951∧g.Hashes[i].B<2305843009213693951
   · rw [bf (by simp;omega),bVu m (i+1) om om c];rw [aS9];simp [q]
   ·
    rw [bt (by simp;omega)];have:(decide (g.Hashes[i].A<2305843009213693951)&&decide (g.Hashes[i].B<2305843009213693951))=false:=by simp;omega
    rw [aS9,this];rfl
  ·
   rw [bf (oI c),oM hE,aA,List.drop_eq_nil_of_le om]
   cases hT:trB g.Config.N g.Edges with
   |false=>rfl
   |true=>
    rw [bf (c:= !true) rfl,show (0:Int)=((0:Nat):Int) from rfl,bVv hE hT aY 0 om om (Nat.zero_le _)];rfl
omit hE in
theorem bFr(h:1≤g.Config.L∧g.Config.L≤16∧1≤g.Config.R∧g.Config.R≤8):IntKind.i64.wrap (g.Config.L*g.Config.R)=g.Config.L*g.Config.R:=by
 have h1:0≤g.Config.L*g.Config.R:=Int.mul_nonneg om om;have h2:g.Config.L*g.Config.R≤16*8:=Int.mul_le_mul om om om om;exact wr0 om om
include hH
theorem lO:gY g=some (grB g):=by
 have hFU:=FU;have e:=bVu hE aY 0 om om (Nat.zero_le _);rw [List.drop_zero] at e;unfold gY grB
 by_cases c:1≤g.Config.N∧g.Config.N≤1024∧1≤g.Config.L∧g.Config.L≤16∧1≤g.Config.R∧g.Config.R≤8
 ·
  rw [bf (by simp;omega),bFr ⟨c.2.2.1,c.2.2.2.1,c.2.2.2.2⟩]
  by_cases k:(g.Hashes.length:Int)=g.Config.L*g.Config.R
  ·
   rw [bf (by simp [k]),show (0:Int)=((0:Nat):Int) from rfl,e];have:cfB g=true:=by unfold cfB;rw [decide_eq_true_eq];exact ⟨c.1,c.2.1,c.2.2.1,c.2.2.2.1,c.2.2.2.2.1,c.2.2.2.2.2,k⟩
   rw [this];rfl
  ·
   rw [bt (by simp [k])];have:cfB g=false:=by unfold cfB;rw [decide_eq_false_iff_not];exact fun q=>k q.2.2.2.2.2.2
   rw [this];rfl
 ·
  have:cfB g=false:=by unfold cfB;rw [decide_eq_false_iff_not];exact fun q=>c ⟨q.1,q.2.1,q.2.2.1,q.2.2.2.1,q.2.2.2.2.1,q.2.2.2.2.2.1⟩
  rw [bt (by simp;omega),this];rfl
end
structure GOK(g:aJ):Prop where
  n1:1≤g.Config.N
  n2:g.Config.N≤1024
  l1:1≤g.Config.L
  l2:g.Config.L≤16
  r1:1≤g.Config.R
  r2:g.Config.R≤8
  hl:(g.Hashes.length:Int)=g.Config.L*g.Config.R
  hs:hsB g.Hashes=true
  tr:trB g.Config.N g.Edges=true
  ti:tiB g.Config.L g.Edges=true
  fr:foB g.Config.N (fo g.Edges g.Config.L)=true
  rg:Rg g.Config.N g.Edges
theorem gok{g:aJ}(h:grB g=true):GOK g:=by
 unfold grB cfB at h;simp only [Bool.and_eq_true,decide_eq_true_eq] at h;obtain ⟨⟨a,b,c,d,e,f,k⟩,h1,h2,h3,h4⟩:=h;exact ⟨a,b,c,d,e,f,k,h1,h2,h3,h4,(aPa h2).2.2⟩
open Go Go.AM Go.Pl Go.Pt
theorem aL3(a b:List Int)(hab:a.length=b.length)(hl:a.length<1000000000): ∀(m i:Nat),a.length<i+m→i≤a.length→nY m a b (a.length:Int) (i:Int)=some (decide (a.drop i=b.drop i))
 |0,i,h,hi=>by omega
 |m+1,i,h,hi=>by
  show aA3 (nY m) a b _ _=_;unfold aA3
  by_cases c:i<a.length
  ·
   have c':i<b.length:=by omega
   rw [bt (oJ c),cN c,aA,cN c',aA,wr1 i om,dZ c,dZ c']
   by_cases q:a[i]=b[i]
   · rw [bf (by simp [q]),aL3 a b hab hl m (i+1) om c];simp [q,-List.getElem_cons_drop]
   · rw [bt (by simp [q])];simp [q,-List.getElem_cons_drop]
  · rw [bf (oI c),List.drop_eq_nil_of_le om,List.drop_eq_nil_of_le om];rfl
theorem aT8(a b:List Int)(hl:a.length<1000000000):pP a b=some (decide (a=b)):=by
 have hFU:=FU;unfold pP
 by_cases h:a.length=b.length
 · rw [bf (by simp [h]),show (0:Int)=((0:Nat):Int) from rfl,aL3 a b h hl aY 0 om (Nat.zero_le _)];rfl
 · rw [bt (by simp;omega)];have: ¬a=b:=fun e=>h (by rw [e]);simp [this]
def kf(g:aJ):List aE:=fo g.Edges g.Config.L
theorem bUk{n:Int}(hn:n≤1024)(l:List aE):(pt n l).length<1000000000:=by rw [bF2];omega
section
variable {g:aJ}(hE:g.Edges.length<1000000000)(hH:g.Hashes.length<1000000000)
include hE hH
theorem aNx:tY g=some (if grB g then pt g.Config.N (kf g) else []):=by
 unfold tY;rw [lO hE hH,aA]
 cases h:grB g with
 |false=>rfl
 |true=>
  have k:=gok h;have:=aX5 g.Edges g.Config.L;rw [bf (c:= !true) rfl,tX hE,aA,k.tr];simp only [if_true];rw [aKd om (by have:=k.n1;omega) k.n2 (aPv k.rg _),aA];rfl
theorem bD2:aFx g=some (if grB g then pt g.Config.N g.Edges else []):=by
 unfold aFx;rw [lO hE hH,aA]
 cases h:grB g with
 |false=>rfl
 |true=>
  have k:=gok h;rw [bf (c:= !true) rfl,aKd hE (by have:=k.n1;omega) k.n2 k.rg,aA];rfl
theorem aU3:yT g=some (grB g&&decide (pt g.Config.N (kf g)=pt g.Config.N g.Edges)):=by
 unfold yT;rw [lO hE hH,aA,aNx hE hH,bD2 hE hH]
 cases h:grB g with
 |false=>rfl
 |true=>
  simp only [if_true];rw [gtt,aA,gtt,aA,gtt,aT8 _ _ (bUk (gok h).n2 _),aA]
end
section
variable {g:aJ}(hE:g.Edges.length<1000000000)(h:GOK g)
include hE h
end
open Go Go.AM Go.Pl Go.Pt
theorem InR.app{n:Nat}{l l':List E}(h: ∀e,e∈l→e∈l')(hr:InR n l'):InR n (l'++l):=fun e he=>by
 rcases List.mem_append.1 he with m|m
 · exact hr e m
 · exact hr e (h e m)
def bare(l:List aE):List aE:=l.map fun e=>aE.mk e.U e.V 0
end Go.Proofs.YtkdohhmacfoolaaGreatDoor
