/- Facts. No condition. -/
import Derived.Test.YtkdohhmacfoolaaGreatDoorObGA2
set_option linter.unusedSimpArgs false
set_option linter.unusedVariables false
namespace Go.Ix
open Go.Pt
structure Srt(L:List Int)(S:Int→Prop):Prop where
  up:L.Pairwise (· < ·)
  mem: ∀x,x∈L↔S x
theorem bEm: ∀ {a b:List Int},a.Pairwise (· < ·)→b.Pairwise (· < ·)→(∀x,x∈a↔x∈b)→a=b
 |[],[],_,_,_=>rfl
 |[],y::b,_,_,h=>absurd ((h y).2 (List.mem_cons_self ..)) (by simp)
 |x::a,[],_,_,h=>absurd ((h x).1 (List.mem_cons_self ..)) (by simp)
 |x::a,y::b,ha,hb,h=>by
  obtain ⟨a1,a2⟩:=List.pairwise_cons.1 ha;obtain ⟨b1,b2⟩:=List.pairwise_cons.1 hb
  have e:x=y:=by
   have h1:=(h x).1 (List.mem_cons_self ..);have h2:=(h y).2 (List.mem_cons_self ..);rcases List.mem_cons.1 h1 with q|q
   · exact q
   ·
    rcases List.mem_cons.1 h2 with w|w
    · exact w.symm
    · have:=b1 x q;have:=a1 y w;omega
  subst e;rw [bEm a2 b2 fun z=>?_];constructor
  ·
   intro q;rcases List.mem_cons.1 ((h z).1 (List.mem_cons_of_mem _ q)) with w|w
   · subst w;exact absurd (a1 z q) (by omega)
   · exact w
  ·
   intro q;rcases List.mem_cons.1 ((h z).2 (List.mem_cons_of_mem _ q)) with w|w
   · subst w;exact absurd (b1 z q) (by omega)
   · exact w
theorem Srt.uniq{a b:List Int}{S S':Int→Prop}(h:Srt a S)(k:Srt b S')(e: ∀x,S x↔S' x):a=b:=
 bEm h.up k.up fun x=>(h.mem x).trans ((e x).trans (k.mem x).symm)
theorem Srt.nodup{a:List Int}{S:Int→Prop}(h:Srt a S):a.Nodup:=h.up.imp fun q=>by omega
theorem aZ0: ∀ {a b:List Int},a.Nodup→(∀x,x∈a→x∈b)→a.length≤b.length
 |[],_,_,_=>Nat.zero_le _
 |x::a,b,ha,h=>by
  obtain ⟨n1,n2⟩:=List.nodup_cons.1 ha;have hx:=h x (List.mem_cons_self ..);have:=aZ0 (a:=a) (b:=b.erase x) n2 fun y hy=>(List.mem_erase_of_ne (fun e:y=x=>n1 (by rw [←e];exact hy))).2 (h y (List.mem_cons_of_mem _ hy));rw [List.length_erase_of_mem hx] at this;have:=List.length_pos_of_mem hx;rw [List.length_cons];omega
def yA(x:Int):List Int→List Int
  |[]=>[x]
  |y::l=>if y<x then y::yA x l else x::y::l
theorem aQz{x z:Int} : ∀ {l:List Int},z∈yA x l↔z=x∨z∈l
 |[]=>by simp [yA]
 |y::l=>by
  unfold yA;split
  ·
   rw [List.mem_cons,aQz,List.mem_cons];constructor
   ·
    rintro (h|h|h)
    · exact .inr (.inl h)
    · exact .inl h
    · exact .inr (.inr h)
   ·
    rintro (h|h|h)
    · exact .inr (.inl h)
    · exact .inl h
    · exact .inr (.inr h)
  · rw [List.mem_cons]
theorem bDr{x:Int} : ∀ {l:List Int},l.Pairwise (· < ·)→x∉l→(yA x l).Pairwise (· < ·)
 |[],_,_=>by simp [yA]
 |y::l,h,hx=>by
  obtain ⟨h1,h2⟩:=List.pairwise_cons.1 h;have hne:x≠y:=fun e=>hx (e▸List.mem_cons_self ..);unfold yA;split
  ·
   rename_i c;refine List.pairwise_cons.2 ⟨fun z hz=>?_,bDr h2 fun q=>hx (List.mem_cons_of_mem _ q)⟩;rcases aQz.1 hz with rfl|hz
   · exact c
   · exact h1 z hz
  ·
   rename_i c;refine List.pairwise_cons.2 ⟨fun z hz=>?_,h⟩;rcases List.mem_cons.1 hz with rfl|hz
   · omega
   · have:=h1 z hz;omega
theorem aVq{x:Int} : ∀ {l:List Int} {k:Nat},k≤l.length→(∀j y,j<k→l[j]? =some y→y<x)→(∀y,l[k]? =some y→ ¬y<x)→yA x l=l.take k++x::l.drop k
 |[],0,_,_,_=>rfl
 |[],k+1,h,_,_=>by simp at h
 |y::l,0,_,_,h=>by
  unfold yA;rw [if_neg (h y rfl)];rfl
 |y::l,k+1,hk,h1,h2=>by
  unfold yA;rw [if_pos (h1 0 y (by omega) rfl),aVq (k:=k) (by simpa using hk) (fun j z hj hz=>h1 (j+1) z (by omega) hz) h2];rfl
theorem aDy{x:Int} : ∀ {l:List Int},(yA x l).length=l.length+1
 |[]=>rfl
 |y::l=>by
  unfold yA;split
  · simp [aDy]
  · simp
def aWo(l:List Int):List Int:=l.foldl (fun out x=>yA x out) []
end Go.Ix
set_option maxRecDepth 20000
set_option maxHeartbeats 1000000
namespace Go.Proofs.YtkdohhmacfoolaaGreatDoor
open Go Go.AM Go.Pl Go.Pt
theorem eF{α:Type}(b:Bool)(d x:α):fX b d (some x)=some (bif b then x else d):=by cases b<;>rfl
theorem oE{i m:Nat}(h:i<m):decide (((i:Nat):Int)<((m:Nat):Int))=true:=by simp;omega
theorem oD{i m:Nat}(h: ¬i<m):decide (((i:Nat):Int)<((m:Nat):Int))=false:=by simp;omega
section
variable {α:Type}{d:α}{o:Option α}
theorem gtt:fX (true==true) d o=o:=gt' rfl
theorem gft:fX (false==true) d o=some d:=gf' rfl
end
theorem bR0(k:Nat):decide (0<((k+1:Nat):Int))=true:=by simp<;>omega
theorem bVo:decide (0<((0:Nat):Int))=false:=by simp
theorem FU:bC=1000000000000:=rfl
def okE(n:Int)(e:aD):Bool:=decide (0≤e.U∧e.U<e.V∧e.V<n∧0≤e.Tier∧e.Tier≤16)
def yD(a b:aD):Bool:=decide (a.U<b.U∨a.U=b.U∧a.V<b.V)
def trL(n:Int):Option aD→List aD→Bool
  |_,[]=>true
  |none,e::l=>okE n e&&trL n (some e) l
  |some q,e::l=>okE n e&&(yD q e&&trL n (some e) l)
def prv(l:List aD):Nat→Option aD
  |0=>none
  |k+1=>l[k]?
theorem aH5(a b:aD):tL a b=some (yD a b):=by
 unfold tL yD;congr 1
 by_cases h1:a.U<b.U<;>by_cases h2:a.U=b.U<;>by_cases h3:a.V<b.V<;>simp [h1,h2,h3]
theorem aWj(a b:aD):yO a b=some (yD a b):=by
 unfold yO yD
 by_cases h2:a.U=b.U
 · rw [bf (by simp [h2])];simp [h2]
 · rw [bt (by simp [h2])];simp [h2]
theorem lR{n:Int}{e:aD} :okE n e=true↔0≤e.U∧e.U<e.V∧e.V<n∧0≤e.Tier∧e.Tier≤16:=by unfold okE;exact decide_eq_true_iff
theorem aLj{l:List aD}{i:Nat}(c:i<l.length):prv l (i+1)=some l[i]:=List.getElem?_eq_getElem c
def stE(n:Int)(p:Option aD)(e:aD):Bool:=okE n e&&(match p with|none=>true|some q=>yD q e)
theorem aMc(n:Int)(p:Option aD)(e:aD)(l:List aD):trL n p (e::l)=(stE n p e&&trL n (some e) l):=by
 cases p<;>simp [trL,stE,Bool.and_assoc]
theorem aM8{n:Int}(l:List aD): ∀(m i:Nat),l.length<i+m→i+m≤bC→i≤l.length→sW m n l l (l.length:Int) (i:Int)=some (trL n (prv l i) (l.drop i))
 |0,i,h,_,hi=>by omega
 |m+1,i,h,hF,hi=>by
  have hFU:=FU;show aDh (sW m) n l l _ _=_;unfold aDh
  by_cases c:i<l.length
  ·
   have ih:=aM8 (n:=n) l m (i+1) om om c;rw [aLj c] at ih;rw [bt (oE c),cE c,aA,cW c,aMc];unfold oA;rw [eF,aA,wr1 i om,ih];generalize l[i]=e
   cases ok:okE n e with
   |false=>
    rw [bt]
    · simp [stE,ok]
    ·
     have: ¬(0≤e.U∧e.U<e.V∧e.V<n∧0≤e.Tier∧e.Tier≤16):=fun q=>by rw [lR.2 q] at ok;cases ok
     by_cases h1:e.U<0<;>by_cases h2:e.V≤e.U<;>by_cases h3:n≤e.V<;>simp [h1,h2,h3]<;>omega
   |true=>
    obtain ⟨h1,h2,h3,h4,h5⟩:=lR.1 ok;rw [bf (by simp;omega)]
    cases i with
    |zero=>
     rw [gf' (by simp),aA,gf' (by simp),aA,bf (by simp)];simp [stE,ok,prv]
    |succ k=>
     have ck:k<l.length:=by omega
     have e0:IntKind.i64.wrap (((k+1:Nat):Int)-1)=((k:Nat):Int):=by rw [wr0 om om];omega
     rw [bR0,gtt,e0,cE ck,aA,gtt,aH5,aA,aLj ck]
     cases hl:yD l[k] e with
     |false=>rw [bt (by simp)];simp [stE,ok,hl]
     |true=>rw [bf (by simp [hl])];simp [stE,ok,hl]
  · rw [bf (oD c),List.drop_eq_nil_of_le om];cases prv l i<;>rfl
def trB(n:Int)(l:List aD):Bool:=decide (0≤n∧n≤1024)&&trL n none l
theorem lO{n:Int}{l:List aD}(hl:l.length<1000000000):iN n l=some (trB n l):=by
 have hFU:=FU;unfold iN trB
 by_cases c:0≤n∧n≤1024
 · rw [bf (by simp;omega)];have:=aM8 (n:=n) l bC 0 om om (Nat.zero_le _);rw [show (0:Int)=((0:Nat):Int) from rfl,this];simp [prv,c]
 · rw [bt (by simp;omega)];simp [c]
theorem aLk{n:Int}(l:List aD): ∀(m i:Nat),l.length<i+m→i+m≤bC→i≤l.length→sH m n l (i:Int)=some (trL n (prv l i) (l.drop i))
 |0,i,h,_,hi=>by omega
 |m+1,i,h,hF,hi=>by
  have hFU:=FU;show aD2 (sH m) n l _=_;unfold aD2
  by_cases c:i<l.length
  ·
   have ih:=aLk (n:=n) l m (i+1) om om c;rw [aLj c] at ih;rw [bt (oE c),cE c,aA,cW c,aMc,wr1 i om,ih];generalize l[i]=e;rw [eF,aA,eF,aA,eF,aA,eF,aA,eF,aA]
   cases ok:okE n e with
   |false=>
    rw [bt]
    · simp [stE,ok]
    ·
     have: ¬(0≤e.U∧e.U<e.V∧e.V<n∧0≤e.Tier∧e.Tier≤16):=fun q=>by rw [lR.2 q] at ok;cases ok
     by_cases h1:e.U<0<;>by_cases h2:e.V≤e.U<;>by_cases h3:n≤e.V<;>by_cases h4:e.Tier<0<;>simp [h1,h2,h3,h4]<;>omega
   |true=>
    obtain ⟨h1,h2,h3,h4,h5⟩:=lR.1 ok;have a1:decide (e.U<0)=false:=by simp;omega
    have a2:decide (e.V≤e.U)=false:=by simp;omega
    have a3:decide (n≤e.V)=false:=by simp;omega
    have a4:decide (e.Tier<0)=false:=by simp;omega
    have a5:decide (16<e.Tier)=false:=by simp;omega
    simp only [a1,a2,a3,a4,a5,Bool.or_false,beq_self_eq_true,cond_true];rw [bf rfl]
    cases i with
    |zero=>
     rw [bVo,gft,aA,aA,gft,aA,bf (c:=(false&& !false)) rfl];simp [stE,ok,prv]
    |succ k=>
     have ck:k<l.length:=by omega
     have e0:IntKind.i64.wrap (((k+1:Nat):Int)-1)=((k:Nat):Int):=by rw [wr0 om om];omega
     rw [bR0,gtt,e0,cE ck,aA,aA,gtt];have e1:(bif true==true then e else aD.mk 0 0 0)=e:=rfl;rw [e1,aWj,aA,aLj ck]
     cases hl:yD l[k] e with
     |false=>rw [bt (by simp)];simp [stE,ok,hl]
     |true=>rw [bf (by simp [hl])];simp [stE,ok,hl]
  · rw [bf (oD c),List.drop_eq_nil_of_le om];cases prv l i<;>rfl
theorem aSt{n:Int}{l:List aD}(hl:l.length<1000000000):vL n l=some (trB n l):=by
 have hFU:=FU;unfold vL trB
 by_cases c:0≤n∧n≤1024
 · rw [bf (by simp;omega)];have:=aLk (n:=n) l bC 0 om om (Nat.zero_le _);rw [show (0:Int)=((0:Nat):Int) from rfl,this];simp [prv,c]
 · rw [bt (by simp;omega)];simp [c]
theorem bEk{n:Int} : ∀ {l:List aD} {p:Option aD},trL n p l=true→ ∀e,e∈l→okE n e=true
 |[],_,_,_,h=>by cases h
 |a::l,p,h,e,he=>by
  rw [aMc] at h;simp only [Bool.and_eq_true] at h;rcases List.mem_cons.1 he with q|q
  · subst q;have:=h.1;unfold stE at this;simp only [Bool.and_eq_true] at this;exact this.1
  · exact bEk h.2 e q
def inT(t:Int)(e:aD):Bool:=decide (1≤e.Tier)&&decide (e.Tier≤t)
def fo(l:List aD)(t:Int):List aD:=l.filter (inT t)
theorem aMy(l:List aD)(t:Int):(fo l t).length≤l.length:=List.length_filter_le _ _
theorem aMx{p:aD→Bool}{l:List aD}{i:Nat}(c:i<l.length):(l.drop i).filter p=(if p l[i] then [l[i]] else [])++(l.drop (i+1)).filter p:=by
 rw [cW c,List.filter_cons];split<;>rfl
theorem aDf{t:Int}(l:List aD)(hl:l.length<1000000000): ∀(m i:Nat) (out:List aD),l.length<i+m→i+m≤bC→i≤l.length→out.length≤i→qL m t out l (l.length:Int) (i:Int)=some (out++(l.drop i).filter (inT t))
 |0,i,_,h,_,hi,_=>by omega
 |m+1,i,out,h,hF,hi,ho=>by
  have hFU:=FU;show aBr (qL m) t out l _ _=_;unfold aBr
  by_cases c:i<l.length
  ·
   rw [bt (oE c),cE c,aA,aMx c];unfold aBs;rw [wr1 i om]
   cases hp:inT t l[i] with
   |true=>
    unfold inT at hp;rw [bt hp,fI (by simp;omega),aA,aDf l hl m (i+1) _ om om c (by simp;omega)];simp
   |false=>
    unfold inT at hp;rw [bf hp,aDf l hl m (i+1) _ om om c om];simp
  · rw [bf (oD c),List.drop_eq_nil_of_le om];simp
theorem mE{n t:Int}{l:List aD}(hl:l.length<1000000000):gU n l t=some (if trB n l then fo l t else []):=by
 have hFU:=FU;unfold gU;rw [lO hl,aA]
 cases trB n l with
 |false=>rfl
 |true=>
  rw [show (!true)=false from rfl,bf rfl];have:=aDf (t:=t) l hl bC 0 [] om om (Nat.zero_le _) (by simp);rw [show (0:Int)=((0:Nat):Int) from rfl,this];rfl
theorem aD1{t:Int}(l:List aD)(hl:l.length<1000000000): ∀(m i:Nat) (out:List aD),l.length<i+m→i+m≤bC→i≤l.length→out.length≤i→pU m l t out (i:Int)=some (out++(l.drop i).filter (inT t))
 |0,i,_,h,_,hi,_=>by omega
 |m+1,i,out,h,hF,hi,ho=>by
  have hFU:=FU;show aBc (pU m) l t out _=_;unfold aBc
  by_cases c:i<l.length
  ·
   rw [bt (oE c),cE c,aA,aMx c,eF,aA];unfold aBd;rw [wr1 i om]
   have e1:((decide (0<l[i].Tier))&&(decide ((bif (decide (0<l[i].Tier)==true) then l[i] else aD.mk 0 0 0).Tier≤t)))=inT t l[i]:=by
    unfold inT
    by_cases q:0<l[i].Tier
    · have q':1≤l[i].Tier:=q;simp [q,q']
    · have q': ¬1≤l[i].Tier:=q;simp [q,q']
   rw [e1]
   cases hp:inT t l[i] with
   |true=>
    rw [bt rfl,aA,fI (by simp;omega),aA,aD1 l hl m (i+1) _ om om c (by simp;omega)];simp
   |false=>
    rw [bf rfl,aD1 l hl m (i+1) _ om om c om];simp
  · rw [bf (oD c),List.drop_eq_nil_of_le om];simp
theorem aRg{t:Int}{l:List aD}(hl:l.length<1000000000):sG l t=some (fo l t):=by
 have hFU:=FU;have:=aD1 (t:=t) l hl bC 0 [] om om (Nat.zero_le _) (by simp);unfold sG;rw [show (0:Int)=((0:Nat):Int) from rfl,this];rfl
open Go Go.AM Go.Pl Go.Pt
def Rg(n:Int)(l:List aD):Prop:= ∀e,e∈l→0≤e.U∧e.U<n∧0≤e.V∧e.V<n
theorem Rg.inR{n:Int}{l:List aD}(h:Rg n l)(hn:0≤n):InR n.toNat (en l):=by
 intro e he;unfold en at he;obtain ⟨x,hx,rfl⟩:=List.mem_map.1 he;have:=h x hx;refine ⟨this.1,?_,this.2.2.1,?_⟩
 · show x.U<_;omega
 · show x.V<_;omega
theorem Rg.inR'{n:Int}{l:List aD}(h:Rg n l): ∀e,e∈en l→0≤e.1∧e.1<n∧0≤e.2∧e.2<n:=by
 intro e he;unfold en at he;obtain ⟨x,hx,rfl⟩:=List.mem_map.1 he;exact h x hx
theorem Rg.mono{n:Int}{l l':List aD}(h:Rg n l)(hs: ∀e,e∈l'→e∈l):Rg n l':=fun e he=>h e (hs e he)
theorem Rg.at{n:Int}{l:List aD}(h:Rg n l){i:Nat}(c:i<l.length):0≤l[i].U∧l[i].U<n∧0≤l[i].V∧l[i].V<n:=h _ (List.getElem_mem c)
theorem bT8{n:Int}{l:List aD}(h:trL n none l=true):Rg n l:=fun e he=>by
 obtain ⟨a,b,c,_⟩:=lR.1 (bEk h e he);omega
theorem aQx{l:List aD}{t:Int}{e:aD}(h:e∈fo l t):e∈l:=(List.mem_filter.1 h).1
theorem bQz{n:Int}{l:List aD}(h:Rg n l){x:Int}(h0:0≤x)(hx:x<n):0≤eT (en l) x∧eT (en l) x<n:=aCe h.inR' ⟨h0,hx⟩
def pt(n:Int)(l:List aD):List Int:=tab n (eT (en l))
theorem aWh(n:Int)(l:List aD):(pt n l).length=n.toNat:=lS _ _
theorem aN8{n:Int}{l:List aD}{x:Int}(h0:0≤x)(hx:x<n):idx (pt n l) x=some (eT (en l) x):=xM h0 hx
theorem aE5{n:Int}{l:List aD}(hl:l.length<1000000000)(h0:0≤n)(hn:n≤1024)(h:Rg n l):pO n l=some (pt n l,0):=by
 rw [bI8 hl,if_pos ⟨h0,hn,h⟩];rfl
theorem aOg{n:Int}(h0:0≤n)(hn:n≤1024){l:List aD}(h:Rg n l): ∀(m i:Nat),n.toNat<i+m→i≤n.toNat→vI m (pt n l) (pt n l) ((pt n l).length:Int) (i:Int)=some true
 |0,i,_,_=>by omega
 |m+1,i,hm,hi=>by
  show aFb (vI m) _ _ _ _=_;have hlen:=aWh n l;unfold aFb
  by_cases c:i<n.toNat
  · rw [bt (by rw [hlen];exact oE c),aN8 om om,aA];unfold iC;have hr:=bQz h (x:=(i:Int)) om om;have hle:=aLg (en l) (i:Int);rw [aA,gt' (by rw [hlen];simp;omega),aN8 hr.1 hr.2,aA,aJt];rw [bf (by rw [hlen];simp;omega),wr1 i om];exact aOg h0 hn h m (i+1) om om
  · rw [bf (by rw [hlen];exact oD c)]
theorem aLf{n:Int}(h0:0≤n)(hn:n≤1024){l:List aD}(h:Rg n l):uC (pt n l)=some true:=by
 have hFU:=FU;unfold uC;exact aOg h0 hn h bC 0 om (Nat.zero_le _)
def cntF(n i:Nat)(p:Int→Int):Nat:=(List.range' i (n-i)).countP fun (k:Nat)=>decide (p k=k)
theorem cntF_step{n i:Nat}{p:Int→Int}(c:i<n):cntF n i p=(if p i=i then 1 else 0)+cntF n (i+1) p:=by
 unfold cntF;rw [show n-i=(n-(i+1))+1 by omega,List.range'_succ,List.countP_cons];simp only [decide_eq_true_eq];omega
theorem bF2(n:Nat)(p:Int→Int):cntF n 0 p=cnt n p:=by unfold cntF cnt;rw [Nat.sub_zero,List.range_eq_range']
theorem bJo{n i:Nat}(p:Int→Int)(c: ¬i<n):cntF n i p=0:=by unfold cntF;rw [show n-i=0 by omega];rfl
theorem aJs{n:Int}(h0:0≤n)(hn:n≤1024)(f:Int→Int): ∀(m i k:Nat),n.toNat<i+m→i≤n.toNat→k≤i→yL m (k:Int) (tab n f) ((tab n f).length:Int) (i:Int)=some (((k+cntF n.toNat i f:Nat):Int))
 |0,i,_,_,_,_=>by omega
 |m+1,i,k,hm,hi,hk=>by
  show aHb (yL m) _ _ _ _=_;have hlen:=lS n f;unfold aHb aHc
  by_cases c:i<n.toNat
  ·
   rw [bt (by rw [hlen];exact oE c),xM om om,aA,wr1 i om,wr1 k om,cntF_step c]
   by_cases e:f i=i
   · rw [bt (by simp [e]),aJs h0 hn f m (i+1) (k+1) om om om,if_pos e];congr 2;omega
   · rw [bf (by simp;omega),aJs h0 hn f m (i+1) k om om om,if_neg e];congr 2;omega
  · rw [bf (by rw [hlen];exact oD c),bJo f c];rfl
theorem aZ3{n:Int}(h0:0≤n)(hn:n≤1024){l:List aD}(h:Rg n l):aB8 (pt n l)=some ((cl n.toNat (en l):Nat):Int):=by
 have hFU:=FU;unfold aB8;rw [aLf h0 hn h,aA,bf (c:= !true) rfl];have:=aJs h0 hn (eT (en l)) bC 0 0 om (Nat.zero_le _) (Nat.le_refl _);rw [bF2,Nat.zero_add] at this;exact this
theorem bU0{n:Nat}(l:List E):cl n l≤n:=by unfold cl cnt;exact Nat.le_trans List.countP_le_length (by simp)
theorem uS(l:List aD):(en l).length=l.length:=by simp [en]
def foB(n:Int)(l:List aD):Bool:=decide (cl n.toNat (en l)+l.length=n.toNat)
theorem aCu{n:Int}(h0:0≤n)(hn:n≤1024){l:List aD}(hl:l.length<1000000000)(h:Rg n l):mQ n l=some (foB n l):=by
 unfold mQ foB;rw [aE5 hl h0 hn h,aA];have:=bU0 (n:=n.toNat) (en l);simp only [];rw [gt' (by rfl),aZ3 h0 hn h,aA,wr0 om om];congr 1
 by_cases c:cl n.toNat (en l)+l.length=n.toNat
 · simp [c];omega
 · simp [c];omega
def sm(p:List Int):Nat:=(p.map Int.toNat).sum
theorem bCt: ∀ {p:List Int} {k:Nat} {a b:Nat},p[k]? =some (b:Int)→a<b→sm (p.set k (a:Int))<sm p
 |[],k,a,b,h,_=>by simp at h
 |x::p,0,a,b,h,hab=>by simp at h;subst h;simp [sm];omega
 |x::p,k+1,a,b,h,hab=>by
  have:=bCt (p:=p) (k:=k) (by simpa using h) hab;simp only [List.set_cons_succ,sm,List.map_cons,List.sum_cons] at*;omega
def Iv(n:Int)(l:List aD)(p:List Int):Prop:=p.length=n.toNat∧ ∀k:Nat,k<n.toNat→ ∃y:Nat,p[k]? =some (y:Int)∧y≤k∧bY (en l) k y
theorem Iv.set{n:Int}{l:List aD}{p:List Int}(h:Iv n l p){v a:Nat}(hv:v<n.toNat)(hle:a≤v)(hc:bY (en l) v a):Iv n l (p.set v (a:Int)):=by
 refine ⟨by rw [List.length_set];exact h.1,fun k hk=>?_⟩
 by_cases e:k=v
 · subst e;exact ⟨a,by rw [List.getElem?_set_self (by rw [h.1];exact hk)],hle,hc⟩
 · obtain ⟨y,h1,h2⟩:=h.2 k hk;exact ⟨y,by rw [List.getElem?_set_ne (fun q=>e q.symm)];exact h1,h2⟩
theorem bS2{l:List aD}{i:Nat}(c:i<l.length):(l[i].U,l[i].V)∈en l:=List.mem_map.2 ⟨l[i],List.getElem_mem c,rfl⟩
theorem aWb{n:Int}{l:List aD}(h:Rg n l)(hl:l.length<1000000000): ∀(m i:Nat) (p:List Int) (ag:Bool),Iv n l p→l.length<i+m→i≤l.length→
 ∃p' ag',(∀rec2,lM rec2 m l p ag (i:Int)=rec2 l p' ag')∧Iv n l p'∧sm p'≤sm p∧(ag'=false→p'=p∧ag=false∧ ∀j (hj:j<l.length),i≤j→idx p l[j].U=idx p l[j].V)∧(ag'=true→ag=true∨sm p'<sm p)
 |0,i,p,ag,_,hm,hi=>by omega
 |m+1,i,p,ag,hI,hm,hi=>by
  by_cases c:i<l.length
  ·
   obtain ⟨u0,un,v0,vn⟩:=h.at c;have hmem:=bS2 c;obtain ⟨u,hu⟩:=Int.eq_ofNat_of_zero_le u0;obtain ⟨v,hv⟩:=Int.eq_ofNat_of_zero_le v0;rw [hu,hv] at hmem;obtain ⟨a,a1,a2,a3⟩:=hI.2 u om;obtain ⟨b,b1,b2,b3⟩:=hI.2 v om;have hul:u<p.length:=by rw [hI.1];omega
   have hvl:v<p.length:=by rw [hI.1];omega
   have step: ∀rec2,lM rec2 (m+1) l p ag (i:Int)=if a<b then lM rec2 m l (p.set v (a:Int)) true ((i+1:Nat):Int) else if b<a then lM rec2 m l (p.set u (b:Int)) true ((i+1:Nat):Int) else lM rec2 m l p ag ((i+1:Nat):Int):=by
    intro rec2;show aBa rec2 (lM rec2 m) l p ag _=_;unfold aBa aJw aJv;rw [bt (oE c),cE c,aA,hu,fP p u,a1,aA,aA,hv,fP p v,b1,aA,wr1 i om]
    by_cases q:a<b
    · rw [bt (by simp;omega),if_pos q,aA,hv,fP p v,b1,aA,jX hvl,aA,bf (by simp;omega)]
    ·
     rw [bf (by simp;omega),if_neg q]
     by_cases q':b<a
     · rw [bt (by simp;omega),if_pos q',aA,hu,fP p u,a1,aA,jX hul,aA]
     · rw [bf (by simp;omega),if_neg q']
   by_cases q:a<b
   · obtain ⟨p',ag',r1,r2,r3,r4,r5⟩:=aWb h hl m (i+1) (p.set v (a:Int)) true (hI.set om om ((bY.eno hmem).trans a3)) om c;have hs:=bCt b1 q;refine ⟨p',ag',fun rec2=>by rw [step,if_pos q,r1],r2,by omega,fun e=>(by have:=(r4 e).2.1;cases this),fun e=> .inr om⟩
   ·
    by_cases q':b<a
    · obtain ⟨p',ag',r1,r2,r3,r4,r5⟩:=aWb h hl m (i+1) (p.set u (b:Int)) true (hI.set om om ((bY.one hmem).trans b3)) om c;have hs:=bCt a1 q';refine ⟨p',ag',fun rec2=>by rw [step,if_neg q,if_pos q',r1],r2,by omega,fun e=>(by have:=(r4 e).2.1;cases this),fun e=> .inr om⟩
    ·
     obtain ⟨p',ag',r1,r2,r3,r4,r5⟩:=aWb h hl m (i+1) p ag hI om c;refine ⟨p',ag',fun rec2=>by rw [step,if_neg q,if_neg q',r1],r2,r3,fun e=>?_,r5⟩;obtain ⟨k1,k2,k3⟩:=r4 e;refine ⟨k1,k2,fun j hj hij=>?_⟩
     by_cases e':j=i
     · subst e';rw [hu,hv,fP,fP,a1,b1];congr 2;omega
     · exact k3 j hj om
  · refine ⟨p,ag,fun rec2=>?_,hI,Nat.le_refl _,fun e=>⟨rfl,e,fun j hj hij=>by omega⟩,fun e=> .inl e⟩;show aBa rec2 (lM rec2 m) l p ag _=_;unfold aBa;rw [bf (oD c)]
theorem Iv.done{n:Int}{l:List aD}{p:List Int}(h:Rg n l)(hI:Iv n l p)(he: ∀j (hj:j<l.length),idx p l[j].U=idx p l[j].V):p=pt n l:=by
 refine aVc hI.1 fun k hk=>?_
 have key:=aZ6 (n:=n) (l:=en l) h.inR' (q:=fun x=>(p[x.toNat]?).getD 0) (fun x h0 hx=>by
  obtain ⟨y,y1,y2,y3⟩:=hI.2 x.toNat om;have e:((x.toNat:Nat):Int)=x:=by omega
  rw [e] at y3;simp only [y1,Option.getD_some];exact ⟨by omega,by omega,y3⟩) (fun e hm=>by
  unfold en at hm;obtain ⟨x,hx,rfl⟩:=List.mem_map.1 hm;obtain ⟨j,hj,rfl⟩:=List.getElem_of_mem hx;have r:=h.at hj;have:=he j hj;rw [tJ (k:=l[j].U.toNat) om,tJ (k:=l[j].V.toNat) om] at this;simp only [this]) (k:Int) om hk
 obtain ⟨y,y1,_⟩:=hI.2 k om;simp only [Int.toNat_natCast,y1,Option.getD_some] at key;rw [y1,key]
theorem aZ1{n:Int}{l:List aD}(h:Rg n l)(hl:l.length<1000000000): ∀(k:Nat) (p:List Int),Iv n l p→sm p+2≤k→pP k l p true=some (pt n l)
 |0,p,_,hk=>by omega
 |k+1,p,hI,hk=>by
  have hFU:=FU;obtain ⟨p',ag',r1,r2,r3,r4,r5⟩:=aWb h hl bC 0 p false hI om (Nat.zero_le _);show aB9 (pP k) l p true=_;unfold aB9;rw [bt rfl,show (0:Int)=((0:Nat):Int) from rfl,r1]
  cases ag' with
  |true=>
   have:=(r5 rfl).resolve_left (by simp);exact aZ1 h hl k p' r2 om
  |false=>
   obtain ⟨q1,_,q3⟩:=r4 rfl;subst q1
   cases k with
   |zero=>omega
   |succ k=>
    show aB9 (pP k) l p' false=_;unfold aB9;rw [bf rfl,Iv.done h hI (fun j hj=>q3 j hj (Nat.zero_le _))]
theorem bR7: ∀(p:List Int) (n:Nat),(∀(k:Nat) (y:Int),p[k]? =some y→y.toNat≤n)→sm p≤p.length*n
 |[],n,_=>by simp [sm]
 |x::p,n,h=>by
  have h1:=bR7 p n (fun k y hy=>h (k+1) y (by simpa using hy));have h2:=h 0 x rfl;simp only [sm,List.map_cons,List.sum_cons,List.length_cons,Nat.add_mul] at*;omega
theorem bDz{n:Int}(h0:0≤n)(hn:n≤1024)(l:List aD): ∀(m i:Nat),n.toNat<i+m→i≤n.toNat→aBb m n l (tab (i:Int) id) (i:Int)=pP bC l (tab n id) true
 |0,i,_,_=>by omega
 |m+1,i,hm,hi=>by
  show aJu (aBb m) n l _ _=_;unfold aJu
  by_cases c:i<n.toNat
  ·
   rw [bt (by simp;omega),fI (by simp [lS];omega),aA,wr1 i om]
   have e:tab (i:Int) id++[(i:Int)]=tab ((i+1:Nat):Int) id:=by
    unfold tab;rw [Int.toNat_natCast,Int.toNat_natCast,List.range_succ,List.map_append];rfl
   rw [e];exact bDz h0 hn l m (i+1) om om
  · rw [bf (by simp;omega),show (i:Int)=n by omega]
theorem bCn{n:Int}(h0:0≤n)(hn:n≤1024){l:List aD}(hl:l.length<1000000000)(h:Rg n l):aE6 n l=some (pt n l):=by
 have hFU:=FU;unfold aE6;have:=bDz h0 hn l bC 0 om (Nat.zero_le _);rw [show (0:Int)=((0:Nat):Int) from rfl];rw [show tab ((0:Nat):Int) id=[] from rfl] at this;rw [this];have hI:Iv n l (tab n id):=⟨lS _ _,fun k hk=>⟨k,by rw [aIh om];rfl,Nat.le_refl _,.refl _⟩⟩
 refine aZ1 h hl bC _ hI ?_
 have hs:=bR7 (tab n id) 1024 (fun k y hy=>by
  have hk:k<n.toNat:=by rw [←lS n id];exact (List.getElem?_eq_some_iff.1 hy).1
  rw [aIh om] at hy;cases hy;simp;omega)
 rw [lS] at hs;have:n.toNat*1024≤1024*1024:=Nat.mul_le_mul_right _ om;omega
end Go.Proofs.YtkdohhmacfoolaaGreatDoor
