/- Facts. No condition. -/
import Derived.Test.YtkdohhmacfoolaaGreatNpGA2
set_option linter.unusedSimpArgs false
set_option linter.unusedVariables false
namespace Go.Ix
open Go.Pt
structure Srt(L:List Int)(S:Int→Prop):Prop where
  up:L.Pairwise (· < ·)
  mem: ∀x,x∈L↔S x
theorem bAf: ∀ {a b:List Int},a.Nodup→(∀x,x∈a→x∈b)→a.length≤b.length
 |[],_,_,_=>Nat.zero_le _
 |x::a,b,ha,h=>by
  obtain ⟨n1,n2⟩:=List.nodup_cons.1 ha;have hx:=h x (List.mem_cons_self ..);have:=bAf (a:=a) (b:=b.erase x) n2 fun y hy=>(List.mem_erase_of_ne (fun e:y=x=>n1 (by rw [←e];exact hy))).2 (h y (List.mem_cons_of_mem _ hy));rw [List.length_erase_of_mem hx] at this;have:=List.length_pos_of_mem hx;rw [List.length_cons];omega
def aU0(x:Int):List Int→List Int
  |[]=>[x]
  |y::l=>if y<x then y::aU0 x l else x::y::l
theorem aX0{x:Int} : ∀ {l:List Int} {k:Nat},k≤l.length→(∀j y,j<k→l[j]? =some y→y<x)→(∀y,l[k]? =some y→ ¬y<x)→aU0 x l=l.take k++x::l.drop k
 |[],0,_,_,_=>rfl
 |[],k+1,h,_,_=>by simp at h
 |y::l,0,_,_,h=>by
  unfold aU0;rw [if_neg (h y rfl)];rfl
 |y::l,k+1,hk,h1,h2=>by
  unfold aU0;rw [if_pos (h1 0 y (by omega) rfl),aX0 (k:=k) (by simpa using hk) (fun j z hj hz=>h1 (j+1) z (by omega) hz) h2];rfl
theorem aSc{x:Int} : ∀ {l:List Int},(aU0 x l).length=l.length+1
 |[]=>rfl
 |y::l=>by
  unfold aU0;split
  · simp [aSc]
  · simp
def bUv(l:List Int):List Int:=l.foldl (fun out x=>aU0 x out) []
end Go.Ix
set_option maxRecDepth 20000
set_option maxHeartbeats 1000000
namespace Go.Proofs.YtkdohhmacfoolaaGreat
open Go Go.AM Go.Pl Go.Pt
theorem mX{α:Type}(b:Bool)(d x:α):fG b d (some x)=some (bif b then x else d):=by cases b<;>rfl
theorem aAi{i m:Nat}(h:i<m):decide (((i:Nat):Int)<((m:Nat):Int))=true:=by simp;omega
theorem aAh{i m:Nat}(h: ¬i<m):decide (((i:Nat):Int)<((m:Nat):Int))=false:=by simp;omega
section
variable {α:Type}{d:α}{o:Option α}
theorem gtt:fG (true==true) d o=o:=gt' rfl
theorem gft:fG (false==true) d o=some d:=gf' rfl
end
theorem bXl(k:Nat):decide (0<((k+1:Nat):Int))=true:=by simp<;>omega
theorem FU:bC=1000000000000:=rfl
def okE(n:Int)(e:aH):Bool:=decide (0≤e.U∧e.U<e.V∧e.V<n∧0≤e.Tier∧e.Tier≤16)
def aFs(a b:aH):Bool:=decide (a.U<b.U∨a.U=b.U∧a.V<b.V)
def trL(n:Int):Option aH→List aH→Bool
  |_,[]=>true
  |none,e::l=>okE n e&&trL n (some e) l
  |some q,e::l=>okE n e&&(aFs q e&&trL n (some e) l)
def prv(l:List aH):Nat→Option aH
  |0=>none
  |k+1=>l[k]?
theorem aJo(a b:aH):zT a b=some (aFs a b):=by
 unfold zT aFs;congr 1
 by_cases h1:a.U<b.U<;>by_cases h2:a.U=b.U<;>by_cases h3:a.V<b.V<;>simp [h1,h2,h3]
theorem xQ{n:Int}{e:aH} :okE n e=true↔0≤e.U∧e.U<e.V∧e.V<n∧0≤e.Tier∧e.Tier≤16:=by unfold okE;exact decide_eq_true_iff
theorem bAw{l:List aH}{i:Nat}(c:i<l.length):prv l (i+1)=some l[i]:=List.getElem?_eq_getElem c
def stE(n:Int)(p:Option aH)(e:aH):Bool:=okE n e&&(match p with|none=>true|some q=>aFs q e)
theorem aTd(n:Int)(p:Option aH)(e:aH)(l:List aH):trL n p (e::l)=(stE n p e&&trL n (some e) l):=by
 cases p<;>simp [trL,stE,Bool.and_assoc]
theorem aNu{n:Int}(l:List aH): ∀(m i:Nat),l.length<i+m→i+m≤bC→i≤l.length→zI m n l l (l.length:Int) (i:Int)=some (trL n (prv l i) (l.drop i))
 |0,i,h,_,hi=>by omega
 |m+1,i,h,hF,hi=>by
  have hFU:=FU;show aGk (zI m) n l l _ _=_;unfold aGk
  by_cases c:i<l.length
  ·
   have ih:=aNu (n:=n) l m (i+1) om om c;rw [bAw c] at ih;rw [bt (aAi c),eQ c,aA,fH c,aTd];unfold vF;rw [mX,aA,wr1 i om,ih];generalize l[i]=e
   cases ok:okE n e with
   |false=>
    rw [bt]
    · simp [stE,ok]
    ·
     have: ¬(0≤e.U∧e.U<e.V∧e.V<n∧0≤e.Tier∧e.Tier≤16):=fun q=>by rw [xQ.2 q] at ok;cases ok
     by_cases h1:e.U<0<;>by_cases h2:e.V≤e.U<;>by_cases h3:n≤e.V<;>simp [h1,h2,h3]<;>omega
   |true=>
    obtain ⟨h1,h2,h3,h4,h5⟩:=xQ.1 ok;rw [bf (by simp;omega)]
    cases i with
    |zero=>
     rw [gf' (by simp),aA,gf' (by simp),aA,bf (by simp)];simp [stE,ok,prv]
    |succ k=>
     have ck:k<l.length:=by omega
     have e0:IntKind.i64.wrap (((k+1:Nat):Int)-1)=((k:Nat):Int):=by rw [wr0 om om];omega
     rw [bXl,gtt,e0,eQ ck,aA,gtt,aJo,aA,bAw ck]
     cases hl:aFs l[k] e with
     |false=>rw [bt (by simp)];simp [stE,ok,hl]
     |true=>rw [bf (by simp [hl])];simp [stE,ok,hl]
  · rw [bf (aAh c),List.drop_eq_nil_of_le om];cases prv l i<;>rfl
def trB(n:Int)(l:List aH):Bool:=decide (0≤n∧n≤1024)&&trL n none l
theorem sH{n:Int}{l:List aH}(hl:l.length<1000000000):oE n l=some (trB n l):=by
 have hFU:=FU;unfold oE trB
 by_cases c:0≤n∧n≤1024
 · rw [bf (by simp;omega)];have:=aNu (n:=n) l bC 0 om om (Nat.zero_le _);rw [show (0:Int)=((0:Nat):Int) from rfl,this];simp [prv,c]
 · rw [bt (by simp;omega)];simp [c]
theorem bHc{n:Int} : ∀ {l:List aH} {p:Option aH},trL n p l=true→ ∀e,e∈l→okE n e=true
 |[],_,_,_,h=>by cases h
 |a::l,p,h,e,he=>by
  rw [aTd] at h;simp only [Bool.and_eq_true] at h;rcases List.mem_cons.1 he with q|q
  · subst q;have:=h.1;unfold stE at this;simp only [Bool.and_eq_true] at this;exact this.1
  · exact bHc h.2 e q
def inT(t:Int)(e:aH):Bool:=decide (1≤e.Tier)&&decide (e.Tier≤t)
def fo(l:List aH)(t:Int):List aH:=l.filter (inT t)
theorem aWo(l:List aH)(t:Int):(fo l t).length≤l.length:=List.length_filter_le _ _
theorem aV9{p:aH→Bool}{l:List aH}{i:Nat}(c:i<l.length):(l.drop i).filter p=(if p l[i] then [l[i]] else [])++(l.drop (i+1)).filter p:=by
 rw [fH c,List.filter_cons];split<;>rfl
theorem aGj{t:Int}(l:List aH)(hl:l.length<1000000000): ∀(m i:Nat) (out:List aH),l.length<i+m→i+m≤bC→i≤l.length→out.length≤i→wP m t out l (l.length:Int) (i:Int)=some (out++(l.drop i).filter (inT t))
 |0,i,_,h,_,hi,_=>by omega
 |m+1,i,out,h,hF,hi,ho=>by
  have hFU:=FU;show aF8 (wP m) t out l _ _=_;unfold aF8
  by_cases c:i<l.length
  ·
   rw [bt (aAi c),eQ c,aA,aV9 c];unfold aF9;rw [wr1 i om]
   cases hp:inT t l[i] with
   |true=>
    unfold inT at hp;rw [bt hp,mL (by simp;omega),aA,aGj l hl m (i+1) _ om om c (by simp;omega)];simp
   |false=>
    unfold inT at hp;rw [bf hp,aGj l hl m (i+1) _ om om c om];simp
  · rw [bf (aAh c),List.drop_eq_nil_of_le om];simp
theorem wQ{n t:Int}{l:List aH}(hl:l.length<1000000000):nY n l t=some (if trB n l then fo l t else []):=by
 have hFU:=FU;unfold nY;rw [sH hl,aA]
 cases trB n l with
 |false=>rfl
 |true=>
  rw [show (!true)=false from rfl,bf rfl];have:=aGj (t:=t) l hl bC 0 [] om om (Nat.zero_le _) (by simp);rw [show (0:Int)=((0:Nat):Int) from rfl,this];rfl
open Go Go.AM Go.Pl Go.Pt
def Rg(n:Int)(l:List aH):Prop:= ∀e,e∈l→0≤e.U∧e.U<n∧0≤e.V∧e.V<n
theorem Rg.inR{n:Int}{l:List aH}(h:Rg n l)(hn:0≤n):InR n.toNat (en l):=by
 intro e he;unfold en at he;obtain ⟨x,hx,rfl⟩:=List.mem_map.1 he;have:=h x hx;refine ⟨this.1,?_,this.2.2.1,?_⟩
 · show x.U<_;omega
 · show x.V<_;omega
theorem Rg.inR'{n:Int}{l:List aH}(h:Rg n l): ∀e,e∈en l→0≤e.1∧e.1<n∧0≤e.2∧e.2<n:=by
 intro e he;unfold en at he;obtain ⟨x,hx,rfl⟩:=List.mem_map.1 he;exact h x hx
theorem Rg.mono{n:Int}{l l':List aH}(h:Rg n l)(hs: ∀e,e∈l'→e∈l):Rg n l':=fun e he=>h e (hs e he)
theorem Rg.at{n:Int}{l:List aH}(h:Rg n l){i:Nat}(c:i<l.length):0≤l[i].U∧l[i].U<n∧0≤l[i].V∧l[i].V<n:=h _ (List.getElem_mem c)
theorem bV2{n:Int}{l:List aH}(h:trL n none l=true):Rg n l:=fun e he=>by
 obtain ⟨a,b,c,_⟩:=xQ.1 (bHc h e he);omega
theorem bEx{l:List aH}{t:Int}{e:aH}(h:e∈fo l t):e∈l:=(List.mem_filter.1 h).1
theorem bXk{n:Int}{l:List aH}(h:Rg n l){x:Int}(h0:0≤x)(hx:x<n):0≤nC (en l) x∧nC (en l) x<n:=aFv h.inR' ⟨h0,hx⟩
def pt(n:Int)(l:List aH):List Int:=tab n (nC (en l))
theorem bF5(n:Int)(l:List aH):(pt n l).length=n.toNat:=aE4 _ _
theorem aXp{n:Int}{l:List aH}{x:Int}(h0:0≤x)(hx:x<n):idx (pt n l) x=some (nC (en l) x):=aRh h0 hx
theorem aKp{n:Int}{l:List aH}(hl:l.length<1000000000)(h0:0≤n)(hn:n≤1024)(h:Rg n l):yV n l=some (pt n l,0):=by
 rw [bKc hl,if_pos ⟨h0,hn,h⟩];rfl
theorem aPz{n:Int}(h0:0≤n)(hn:n≤1024){l:List aH}(h:Rg n l): ∀(m i:Nat),n.toNat<i+m→i≤n.toNat→aBb m (pt n l) (pt n l) ((pt n l).length:Int) (i:Int)=some true
 |0,i,_,_=>by omega
 |m+1,i,hm,hi=>by
  show aI0 (aBb m) _ _ _ _=_;have hlen:=bF5 n l;unfold aI0
  by_cases c:i<n.toNat
  · rw [bt (by rw [hlen];exact aAi c),aXp om om,aA];unfold nN;have hr:=bXk h (x:=(i:Int)) om om;have hle:=aNa (en l) (i:Int);rw [aA,gt' (by rw [hlen];simp;omega),aXp hr.1 hr.2,aA,aLy];rw [bf (by rw [hlen];simp;omega),wr1 i om];exact aPz h0 hn h m (i+1) om om
  · rw [bf (by rw [hlen];exact aAh c)]
theorem aN9{n:Int}(h0:0≤n)(hn:n≤1024){l:List aH}(h:Rg n l):aAc (pt n l)=some true:=by
 have hFU:=FU;unfold aAc;exact aPz h0 hn h bC 0 om (Nat.zero_le _)
def cntF(n i:Nat)(p:Int→Int):Nat:=(List.range' i (n-i)).countP fun (k:Nat)=>decide (p k=k)
theorem cntF_step{n i:Nat}{p:Int→Int}(c:i<n):cntF n i p=(if p i=i then 1 else 0)+cntF n (i+1) p:=by
 unfold cntF;rw [show n-i=(n-(i+1))+1 by omega,List.range'_succ,List.countP_cons];simp only [decide_eq_true_eq];omega
theorem bHx(n:Nat)(p:Int→Int):cntF n 0 p=cnt n p:=by unfold cntF cnt;rw [Nat.sub_zero,List.range_eq_range']
theorem bLp{n i:Nat}(p:Int→Int)(c: ¬i<n):cntF n i p=0:=by unfold cntF;rw [show n-i=0 by omega];rfl
theorem aLx{n:Int}(h0:0≤n)(hn:n≤1024)(f:Int→Int): ∀(m i k:Nat),n.toNat<i+m→i≤n.toNat→k≤i→aCv m (k:Int) (tab n f) ((tab n f).length:Int) (i:Int)=some (((k+cntF n.toNat i f:Nat):Int))
 |0,i,_,_,_,_=>by omega
 |m+1,i,k,hm,hi,hk=>by
  show aJt (aCv m) _ _ _ _=_;have hlen:=aE4 n f;unfold aJt aJu
  by_cases c:i<n.toNat
  ·
   rw [bt (by rw [hlen];exact aAi c),aRh om om,aA,wr1 i om,wr1 k om,cntF_step c]
   by_cases e:f i=i
   · rw [bt (by simp [e]),aLx h0 hn f m (i+1) (k+1) om om om,if_pos e];congr 2;omega
   · rw [bf (by simp;omega),aLx h0 hn f m (i+1) k om om om,if_neg e];congr 2;omega
  · rw [bf (by rw [hlen];exact aAh c),bLp f c];rfl
theorem bAp{n:Int}(h0:0≤n)(hn:n≤1024){l:List aH}(h:Rg n l):aEy (pt n l)=some ((cl n.toNat (en l):Nat):Int):=by
 have hFU:=FU;unfold aEy;rw [aN9 h0 hn h,aA,bf (c:= !true) rfl];have:=aLx h0 hn (nC (en l)) bC 0 0 om (Nat.zero_le _) (Nat.le_refl _);rw [bHx,Nat.zero_add] at this;exact this
theorem bVo{n:Nat}(l:List E):cl n l≤n:=by unfold cl cnt;exact Nat.le_trans List.countP_le_length (by simp)
theorem aAz(l:List aH):(en l).length=l.length:=by simp [en]
def foB(n:Int)(l:List aH):Bool:=decide (cl n.toNat (en l)+l.length=n.toNat)
theorem aGb{n:Int}(h0:0≤n)(hn:n≤1024){l:List aH}(hl:l.length<1000000000)(h:Rg n l):tJ n l=some (foB n l):=by
 unfold tJ foB;rw [aKp hl h0 hn h,aA];have:=bVo (n:=n.toNat) (en l);simp only [];rw [gt' (by rfl),bAp h0 hn h,aA,wr0 om om];congr 1
 by_cases c:cl n.toNat (en l)+l.length=n.toNat
 · simp [c];omega
 · simp [c];omega
def Iv(n:Int)(l:List aH)(p:List Int):Prop:=p.length=n.toNat∧ ∀k:Nat,k<n.toNat→ ∃y:Nat,p[k]? =some (y:Int)∧y≤k∧dW (en l) k y
theorem Iv.done{n:Int}{l:List aH}{p:List Int}(h:Rg n l)(hI:Iv n l p)(he: ∀j (hj:j<l.length),idx p l[j].U=idx p l[j].V):p=pt n l:=by
 refine bD0 hI.1 fun k hk=>?_
 have key:=bAr (n:=n) (l:=en l) h.inR' (q:=fun x=>(p[x.toNat]?).getD 0) (fun x h0 hx=>by
  obtain ⟨y,y1,y2,y3⟩:=hI.2 x.toNat om;have e:((x.toNat:Nat):Int)=x:=by omega
  rw [e] at y3;simp only [y1,Option.getD_some];exact ⟨by omega,by omega,y3⟩) (fun e hm=>by
  unfold en at hm;obtain ⟨x,hx,rfl⟩:=List.mem_map.1 hm;obtain ⟨j,hj,rfl⟩:=List.getElem_of_mem hx;have r:=h.at hj;have:=he j hj;rw [zR (k:=l[j].U.toNat) om,zR (k:=l[j].V.toNat) om] at this;simp only [this]) (k:Int) om hk
 obtain ⟨y,y1,_⟩:=hI.2 k om;simp only [Int.toNat_natCast,y1,Option.getD_some] at key;rw [y1,key]
end Go.Proofs.YtkdohhmacfoolaaGreat
