/- Facts. No condition. -/
import Derived.Test.YtkdohhmacfoolaaGreatDoorOaGA2
set_option linter.unusedVariables false
set_option linter.unusedSimpArgs false
set_option maxRecDepth 20000
set_option maxHeartbeats 1000000
namespace Go.Proofs.YtkdohhmacfoolaaGreatDoor
open Go Go.AM Go.Pl Go.Pt
theorem cR{α:Type}(b:Bool)(d x:α):dT b d (some x)=some (bif b then x else d):=by cases b<;>rfl
theorem kJ{i m:Nat}(h:i<m):decide (((i:Nat):Int)<((m:Nat):Int))=true:=by simp;omega
theorem lC{i m:Nat}(h: ¬i<m):decide (((i:Nat):Int)<((m:Nat):Int))=false:=by simp;omega
section
variable {α:Type}{d:α}{o:Option α}
theorem gtt:dT (true==true) d o=o:=gt' rfl
theorem gft:dT (false==true) d o=some d:=gf' rfl
end
theorem bHg(k:Nat):decide (0<((k+1:Nat):Int))=true:=by simp<;>omega
theorem bL9:decide (0<((0:Nat):Int))=false:=by simp
theorem FU:aZ=1000000000000:=rfl
def okE(n:Int)(e:aC):Bool:=decide (0≤e.U∧e.U<e.V∧e.V<n∧0≤e.Tier∧e.Tier≤16)
def nG(a b:aC):Bool:=decide (a.U<b.U∨a.U=b.U∧a.V<b.V)
def trL(n:Int):Option aC→List aC→Bool
  |_,[]=>true
  |none,e::l=>okE n e&&trL n (some e) l
  |some q,e::l=>okE n e&&(nG q e&&trL n (some e) l)
def prv(l:List aC):Nat→Option aC
  |0=>none
  |k+1=>l[k]?
theorem aCx(a b:aC):oR a b=some (nG a b):=by
 unfold oR nG;congr 1
 by_cases h1:a.U<b.U<;>by_cases h2:a.U=b.U<;>by_cases h3:a.V<b.V<;>simp [h1,h2,h3]
theorem aH3(a b:aC):pU a b=some (nG a b):=by
 unfold pU nG
 by_cases h2:a.U=b.U
 · rw [bf (by simp [h2])];simp [h2]
 · rw [bt (by simp [h2])];simp [h2]
theorem jC{n:Int}{e:aC} :okE n e=true↔0≤e.U∧e.U<e.V∧e.V<n∧0≤e.Tier∧e.Tier≤16:=by unfold okE;exact decide_eq_true_iff
theorem aH2{l:List aC}{i:Nat}(c:i<l.length):prv l (i+1)=some l[i]:=List.getElem?_eq_getElem c
def stE(n:Int)(p:Option aC)(e:aC):Bool:=okE n e&&(match p with|none=>true|some q=>nG q e)
theorem aHq(n:Int)(p:Option aC)(e:aC)(l:List aC):trL n p (e::l)=(stE n p e&&trL n (some e) l):=by
 cases p<;>simp [trL,stE,Bool.and_assoc]
theorem aHm{n:Int}(l:List aC): ∀(m i:Nat),l.length<i+m→i+m≤aZ→i≤l.length→oG m n l l (l.length:Int) (i:Int)=some (trL n (prv l i) (l.drop i))
 |0,i,h,_,hi=>by omega
 |m+1,i,h,hF,hi=>by
  have hFU:=FU;show aA0 (oG m) n l l _ _=_;unfold aA0
  by_cases c:i<l.length
  ·
   have ih:=aHm (n:=n) l m (i+1) om om c;rw [aH2 c] at ih;rw [bt (kJ c),dH c,aA,gH c,aHq];unfold kW;rw [cR,aA,wr1 i om,ih];generalize l[i]=e
   cases ok:okE n e with
   |false=>
    rw [bt]
    · simp [stE,ok]
    ·
     have: ¬(0≤e.U∧e.U<e.V∧e.V<n∧0≤e.Tier∧e.Tier≤16):=fun q=>by rw [jC.2 q] at ok;cases ok
     by_cases h1:e.U<0<;>by_cases h2:e.V≤e.U<;>by_cases h3:n≤e.V<;>simp [h1,h2,h3]<;>omega
   |true=>
    obtain ⟨h1,h2,h3,h4,h5⟩:=jC.1 ok;rw [bf (by simp;omega)]
    cases i with
    |zero=>
     rw [gf' (by simp),aA,gf' (by simp),aA,bf (by simp)];simp [stE,ok,prv]
    |succ k=>
     have ck:k<l.length:=by omega
     have e0:IntKind.i64.wrap (((k+1:Nat):Int)-1)=((k:Nat):Int):=by rw [wr0 om om];omega
     rw [bHg,gtt,e0,dH ck,aA,gtt,aCx,aA,aH2 ck]
     cases hl:nG l[k] e with
     |false=>rw [bt (by simp)];simp [stE,ok,hl]
     |true=>rw [bf (by simp [hl])];simp [stE,ok,hl]
  · rw [bf (lC c),List.drop_eq_nil_of_le om];cases prv l i<;>rfl
def trB(n:Int)(l:List aC):Bool:=decide (0≤n∧n≤1024)&&trL n none l
theorem kV{n:Int}{l:List aC}(hl:l.length<1000000000):fK n l=some (trB n l):=by
 have hFU:=FU;unfold fK trB
 by_cases c:0≤n∧n≤1024
 · rw [bf (by simp;omega)];have:=aHm (n:=n) l aZ 0 om om (Nat.zero_le _);rw [show (0:Int)=((0:Nat):Int) from rfl,this];simp [prv,c]
 · rw [bt (by simp;omega)];simp [c]
theorem aH4{n:Int}(l:List aC): ∀(m i:Nat),l.length<i+m→i+m≤aZ→i≤l.length→nZ m n l (i:Int)=some (trL n (prv l i) (l.drop i))
 |0,i,h,_,hi=>by omega
 |m+1,i,h,hF,hi=>by
  have hFU:=FU;show zO (nZ m) n l _=_;unfold zO
  by_cases c:i<l.length
  ·
   have ih:=aH4 (n:=n) l m (i+1) om om c;rw [aH2 c] at ih;rw [bt (kJ c),dH c,aA,gH c,aHq,wr1 i om,ih];generalize l[i]=e;rw [cR,aA,cR,aA,cR,aA,cR,aA,cR,aA]
   cases ok:okE n e with
   |false=>
    rw [bt]
    · simp [stE,ok]
    ·
     have: ¬(0≤e.U∧e.U<e.V∧e.V<n∧0≤e.Tier∧e.Tier≤16):=fun q=>by rw [jC.2 q] at ok;cases ok
     by_cases h1:e.U<0<;>by_cases h2:e.V≤e.U<;>by_cases h3:n≤e.V<;>by_cases h4:e.Tier<0<;>simp [h1,h2,h3,h4]<;>omega
   |true=>
    obtain ⟨h1,h2,h3,h4,h5⟩:=jC.1 ok;have a1:decide (e.U<0)=false:=by simp;omega
    have a2:decide (e.V≤e.U)=false:=by simp;omega
    have a3:decide (n≤e.V)=false:=by simp;omega
    have a4:decide (e.Tier<0)=false:=by simp;omega
    have a5:decide (16<e.Tier)=false:=by simp;omega
    simp only [a1,a2,a3,a4,a5,Bool.or_false,beq_self_eq_true,cond_true];rw [bf rfl]
    cases i with
    |zero=>
     rw [bL9,gft,aA,aA,gft,aA,bf (c:=(false&& !false)) rfl];simp [stE,ok,prv]
    |succ k=>
     have ck:k<l.length:=by omega
     have e0:IntKind.i64.wrap (((k+1:Nat):Int)-1)=((k:Nat):Int):=by rw [wr0 om om];omega
     rw [bHg,gtt,e0,dH ck,aA,aA,gtt];have e1:(bif true==true then e else aC.mk 0 0 0)=e:=rfl;rw [e1,aH3,aA,aH2 ck]
     cases hl:nG l[k] e with
     |false=>rw [bt (by simp)];simp [stE,ok,hl]
     |true=>rw [bf (by simp [hl])];simp [stE,ok,hl]
  · rw [bf (lC c),List.drop_eq_nil_of_le om];cases prv l i<;>rfl
theorem aEj{n:Int}{l:List aC}(hl:l.length<1000000000):nA n l=some (trB n l):=by
 have hFU:=FU;unfold nA trB
 by_cases c:0≤n∧n≤1024
 · rw [bf (by simp;omega)];have:=aH4 (n:=n) l aZ 0 om om (Nat.zero_le _);rw [show (0:Int)=((0:Nat):Int) from rfl,this];simp [prv,c]
 · rw [bt (by simp;omega)];simp [c]
theorem aX0{n:Int} : ∀ {l:List aC} {p:Option aC},trL n p l=true→ ∀e,e∈l→okE n e=true
 |[],_,_,_,h=>by cases h
 |a::l,p,h,e,he=>by
  rw [aHq] at h;simp only [Bool.and_eq_true] at h;rcases List.mem_cons.1 he with q|q
  · subst q;have:=h.1;unfold stE at this;simp only [Bool.and_eq_true] at this;exact this.1
  · exact aX0 h.2 e q
def inT(t:Int)(e:aC):Bool:=decide (1≤e.Tier)&&decide (e.Tier≤t)
def fo(l:List aC)(t:Int):List aC:=l.filter (inT t)
theorem aL4(l:List aC)(t:Int):(fo l t).length≤l.length:=List.length_filter_le _ _
theorem aI8{p:aC→Bool}{l:List aC}{i:Nat}(c:i<l.length):(l.drop i).filter p=(if p l[i] then [l[i]] else [])++(l.drop (i+1)).filter p:=by
 rw [gH c,List.filter_cons];split<;>rfl
theorem zZ{t:Int}(l:List aC)(hl:l.length<1000000000): ∀(m i:Nat) (out:List aC),l.length<i+m→i+m≤aZ→i≤l.length→out.length≤i→mJ m t out l (l.length:Int) (i:Int)=some (out++(l.drop i).filter (inT t))
 |0,i,_,h,_,hi,_=>by omega
 |m+1,i,out,h,hF,hi,ho=>by
  have hFU:=FU;show wU (mJ m) t out l _ _=_;unfold wU
  by_cases c:i<l.length
  ·
   rw [bt (kJ c),dH c,aA,aI8 c];unfold wW;rw [wr1 i om]
   cases hp:inT t l[i] with
   |true=>
    unfold inT at hp;rw [bt hp,jH (by simp;omega),aA,zZ l hl m (i+1) _ om om c (by simp;omega)];simp
   |false=>
    unfold inT at hp;rw [bf hp,zZ l hl m (i+1) _ om om c om];simp
  · rw [bf (lC c),List.drop_eq_nil_of_le om];simp
theorem mL{n t:Int}{l:List aC}(hl:l.length<1000000000):fX n l t=some (if trB n l then fo l t else []):=by
 have hFU:=FU;unfold fX;rw [kV hl,aA]
 cases trB n l with
 |false=>rfl
 |true=>
  rw [show (!true)=false from rfl,bf rfl];have:=zZ (t:=t) l hl aZ 0 [] om om (Nat.zero_le _) (by simp);rw [show (0:Int)=((0:Nat):Int) from rfl,this];rfl
theorem zN{t:Int}(l:List aC)(hl:l.length<1000000000): ∀(m i:Nat) (out:List aC),l.length<i+m→i+m≤aZ→i≤l.length→out.length≤i→mB m l t out (i:Int)=some (out++(l.drop i).filter (inT t))
 |0,i,_,h,_,hi,_=>by omega
 |m+1,i,out,h,hF,hi,ho=>by
  have hFU:=FU;show wF (mB m) l t out _=_;unfold wF
  by_cases c:i<l.length
  ·
   rw [bt (kJ c),dH c,aA,aI8 c,cR,aA];unfold wG;rw [wr1 i om]
   have e1:((decide (0<l[i].Tier))&&(decide ((bif (decide (0<l[i].Tier)==true) then l[i] else aC.mk 0 0 0).Tier≤t)))=inT t l[i]:=by
    unfold inT
    by_cases q:0<l[i].Tier
    · have q':1≤l[i].Tier:=q;simp [q,q']
    · have q': ¬1≤l[i].Tier:=q;simp [q,q']
   rw [e1]
   cases hp:inT t l[i] with
   |true=>
    rw [bt rfl,aA,jH (by simp;omega),aA,zN l hl m (i+1) _ om om c (by simp;omega)];simp
   |false=>
    rw [bf rfl,zN l hl m (i+1) _ om om c om];simp
  · rw [bf (lC c),List.drop_eq_nil_of_le om];simp
theorem aLz{t:Int}{l:List aC}(hl:l.length<1000000000):nX l t=some (fo l t):=by
 have hFU:=FU;have:=zN (t:=t) l hl aZ 0 [] om om (Nat.zero_le _) (by simp);unfold nX;rw [show (0:Int)=((0:Nat):Int) from rfl,this];rfl
end Go.Proofs.YtkdohhmacfoolaaGreatDoor
