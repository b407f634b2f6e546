/- Facts. No condition. -/
import Derived.Test.YtkdohhmacfoolaaGreatDoorOcScA
import GoSem.ClaimOpenFrom
set_option linter.unusedVariables false
set_option linter.unusedSimpArgs false
set_option maxRecDepth 20000
set_option maxHeartbeats 1000000
namespace Go.Proofs.YtkdohhmacfoolaaGreatDoor
open Go Go.AM Go.Pl Go.Pt Go.Ix
def dg(i:Nat):ByteArray:=⟨#[UInt8.ofNat (48+i)]⟩
def bL2:ByteArray:=⟨#[118,101,114,116,101,120]⟩
def bHl:ByteArray:=⟨#[101,100,103,101]⟩
def bHm:ByteArray:=⟨#[115,105,122,101]⟩
def aO9:ByteArray:=⟨#[109,101,109,98,101,114,115]⟩
def bOa:List ByteArray:=[⟨#[110,101,119]⟩,dg 9,dg 3,dg 2]
def bHk:List ByteArray:=[⟨#[99,111,117,110,116]⟩]
def bHj:List ByteArray:=[⟨#[97,117,100,105,116]⟩]
def bM5:List ByteArray:=[⟨#[99,111,110,110,101,99,116,101,100]⟩,dg 0,dg 1]
def bA3(i:Nat):List ByteArray:=[bL2,dg i]
def bF5(i:Nat):List (List ByteArray):=[[bHl,dg (2*i+1),dg (2*i)],[bHm,dg (2*i)],[aO9,dg (2*i+1)]]
def zS:aE:=⟨⟨⟨⟨0,0,0⟩,[],[]⟩,[]⟩,⟨[],0⟩,false⟩
def cD(s:aD)(w:aJ)(d a b:Int):Option (aE×ByteArray):=qG ⟨s,w,true⟩ zS ⟨d,a,b,⟨#[]⟩⟩
section
variable (s:aD)(w:aJ)
theorem bD1: ∀i,i<8→dE ⟨s,w,true⟩ (bA3 i)=cD s w 1 (i:Int) 0
 |0,_=>by kernel_rfl|1,_=>by kernel_rfl|2,_=>by kernel_rfl|3,_=>by kernel_rfl|4,_=>by kernel_rfl|5,_=>by kernel_rfl|6,_=>by kernel_rfl|7,_=>by kernel_rfl
 |n+8,h=>by omega
theorem bK9: ∀i,i<4→dE ⟨s,w,true⟩ [bHl,dg (2*i+1),dg (2*i)]=cD s w 3 (2*(i:Int)+1) (2*(i:Int))
 |0,_=>by kernel_rfl|1,_=>by kernel_rfl|2,_=>by kernel_rfl|3,_=>by kernel_rfl
 |n+4,h=>by omega
theorem bKa: ∀i,i<4→dE ⟨s,w,true⟩ [bHm,dg (2*i)]=cD s w 9 (2*(i:Int)) 0
 |0,_=>by kernel_rfl|1,_=>by kernel_rfl|2,_=>by kernel_rfl|3,_=>by kernel_rfl
 |n+4,h=>by omega
theorem aY6: ∀i,i<4→dE ⟨s,w,true⟩ [aO9,dg (2*i+1)]=cD s w 11 (2*(i:Int)+1) 0
 |0,_=>by kernel_rfl|1,_=>by kernel_rfl|2,_=>by kernel_rfl|3,_=>by kernel_rfl
 |n+4,h=>by omega
theorem bG7:dE ⟨s,w,true⟩ bHk=cD s w 10 0 0:=by kernel_rfl
theorem bG6:dE ⟨s,w,true⟩ bHj=cD s w 13 0 0:=by kernel_rfl
theorem bK8:dE ⟨s,w,true⟩ bM5=cD s w 8 0 1:=by kernel_rfl
end
theorem bFt(l:List Int)(h: ∀x,x∈l→0≤x∧x<2305843009213693951): ∀n i,i+2*n≤l.length→ ∃r,hs l n i=some (r,i+2*n)
 |0,i,_=>⟨[],rfl⟩
 |n+1,i,hi=>by
  have one: ∀j,j<l.length→ ∃v,bl (l.drop j) j=some (v,j+1):=fun j hj=>by
   rw [eC hj];have:=h _ (List.getElem_mem hj);unfold bl;rw [if_neg om];exact ⟨_,rfl⟩
  obtain ⟨a,ha⟩:=one i om;obtain ⟨b,hb⟩:=one (i+1) om;obtain ⟨r,hr⟩:=bFt l h n (i+1+1) om;refine ⟨⟨a,b⟩::r,?_⟩;unfold hs;rw [ha,aA,hb,aA,hr];show some _=some _;rw [show i+1+1+2*n=i+2*(n+1) by omega]
theorem bNc(w:aJ):dE ⟨zS.State,w,false⟩ bOa=(sV ⟨zS.State,w,false⟩ zS c93).bind fun x=>some (x.1,x.2):=by kernel_rfl
def tOk:ByteArray:=⟨#[111,107]⟩
theorem aT0:dF (GA.i 36 .i64 0)=some tOk:=by kernel_rfl
theorem bNi{words:List Int}(hw:W64 words)(hl:words.length=12)(hP: ∀x,x∈words→0≤x∧x<2305843009213693951): ∃s w,dE ⟨zS.State,⟨words,0⟩,false⟩ bOa=some (⟨s,w,true⟩,tOk)∧PS 0 0 s:=by
 have hc:aH5 c93:=by unfold aH5 c93;decide
 obtain ⟨r,hr⟩:=bFt words hP 6 0 om;obtain ⟨_,n2⟩:=aUg (c:=c93) (l:=words) om hw 0;obtain ⟨_,n4⟩:=n2 hc;obtain ⟨_,n6⟩:=n4 0 rfl (Nat.zero_le _);have I:=n6 r _ hr;obtain ⟨c1,c2,c3,c4⟩:=aRr words 6 0 hr (Nat.zero_le _);have R:=bKn (c:=c93) hc (r:=r) (by rw [c1];rfl) c3 c4 om;rw [bNc];unfold sV;simp only [];rw [I,aA];simp only [];rw [bf (by rfl),aT0,aA,aA];exact ⟨_,_,rfl,R,fun e he=>by cases he⟩
theorem aMc{s s':aD}{w:aJ}{d a b:Int}{g:GA}{t:ByteArray}(h:fG s ⟨d,a,b,⟨#[]⟩⟩=some (s',g))(ht:dF g=some t):cD s w d a b=some (⟨s',w,true⟩,t):=by
 unfold cD qG xC;simp only [];rw [bf (by rfl),h,aA];simp only [];rw [ht,aA,aA]
theorem aAb{l:List ByteArray}{ls:List (List ByteArray)}{s s':aE}{t:ByteArray}{out:List UInt8}(hs:dE s l=some (s',t))(hne:l.isEmpty=false)(hb:out.length+t.size<1000000):aBo (l::ls) s out=aBo ls s' (out++t.data.toList++[10]):=by
 show (bif l.isEmpty then _ else _)=_;rw [hne,bf (by rfl),hs,aA,bt (decide_eq_true hb)]
theorem aVi: ∀k:Nat,k<5→dF (GA.i 3 .i64 (k:Int))=some (dg k)
 |0,_=>by kernel_rfl|1,_=>by kernel_rfl|2,_=>by kernel_rfl|3,_=>by kernel_rfl|4,_=>by kernel_rfl
 |n+5,h=>by omega
theorem aVj:dF (GA.b 4 true)=some ⟨#[121,101,115]⟩:=by kernel_rfl
theorem bH9: ∀i,i<4→dF (GA.lu 24 [2*((i:Nat):Int),2*((i:Nat):Int)+1])=some (dg (2*i)++(⟨#[32]⟩:ByteArray)++dg (2*i+1))
 |0,_=>by kernel_rfl|1,_=>by kernel_rfl|2,_=>by kernel_rfl|3,_=>by kernel_rfl
 |n+4,h=>by omega
def oV:Nat→List UInt8
  |0=>[]
  |n+1=>oV n++tOk.data.toList++[10]
def oE:Nat→List UInt8
  |0=>[]
  |k+1=>oE k++tOk.data.toList++[10]++(dg 2).data.toList++[10]++(dg (2*k)++(⟨#[32]⟩:ByteArray)++dg (2*k+1)).data.toList++[10]
theorem aYc: ∀n,(oV n).length=3*n
 |0=>rfl
 |n+1=>by
  unfold oV;rw [List.length_append,List.length_append,aYc n];show 3*n+2+1=_;omega
theorem bHb(k:Nat):(dg (2*k)++(⟨#[32]⟩:ByteArray)++dg (2*k+1)).size=3:=by
 rw [ByteArray.size_append,ByteArray.size_append];rfl
theorem aYb: ∀n,(oE n).length=9*n
 |0=>rfl
 |n+1=>by
  have:=bHb n;unfold oE;rw [List.length_append,List.length_append,List.length_append,List.length_append,List.length_append,List.length_append,aYb n];show 9*n+2+1+1+1+(dg (2*n)++(⟨#[32]⟩:ByteArray)++dg (2*n+1)).size+1=_;omega
theorem bLx{s:aD}{w:aJ}(h:PS 0 0 s): ∀n,n≤8→ ∃s',PS n 0 s'∧ ∀(ls:List (List ByteArray)) (out:List UInt8),out.length≤1000→aBo ((List.range n).map bA3++ls) ⟨s,w,true⟩ out=aBo ls ⟨s',w,true⟩ (out++oV n)
 |0,_=>⟨s,h,fun ls out _=>by rw [show oV 0=[] from rfl,List.append_nil];rfl⟩
 |n+1,hn=>by
  obtain ⟨s1,h1,e1⟩:=bLx h n om;obtain ⟨s2,e2,h2⟩:=h1.vertex om;refine ⟨s2,h2,fun ls out ho=>?_⟩;rw [List.range_succ,List.map_append,List.append_assoc,e1 _ _ ho];show aBo (bA3 n::ls) _ _=_;have:=aYc n;rw [aAb ((bD1 s1 w n om).trans (aMc e2 aT0)) rfl (by rw [List.length_append];show _+2<_;omega)]
  conv=>rhs;unfold oV
  simp only [List.append_assoc]
theorem bLw{s:aD}{w:aJ}{K:Nat}(hK:K<5)(h:PS (2*K) 0 s): ∀k,k≤K→ ∃s',PS (2*K) k s'∧ ∀(ls:List (List ByteArray)) (out:List UInt8),out.length≤1000→aBo ((List.range k).flatMap bF5++ls) ⟨s,w,true⟩ out=aBo ls ⟨s',w,true⟩ (out++oE k)
 |0,_=>⟨s,h,fun ls out _=>by rw [show oE 0=[] from rfl,List.append_nil];rfl⟩
 |k+1,hk=>by
  obtain ⟨s1,h1,e1⟩:=bLw hK h k om;obtain ⟨s2,e2,h2⟩:=h1.edges hK om;have e3:=h2.size om (i:=k) om;have e4:=h2.members om (i:=k) om;refine ⟨s2,h2,fun ls out ho=>?_⟩;rw [List.range_succ,List.flatMap_append,List.append_assoc,e1 _ _ ho];show aBo ([bHl,dg (2*k+1),dg (2*k)]::[bHm,dg (2*k)]::[aO9,dg (2*k+1)]::ls) _ _=_;have:=aYb k;have:=bHb k;have z1:tOk.data.toList.length=2:=rfl;have z2:(dg 2).data.toList.length=1:=rfl;have z3:tOk.size=2:=rfl;have z4:(dg 2).size=1:=rfl
  rw [aAb ((bK9 s1 w k om).trans (aMc e2 aT0)) rfl (by simp only [List.length_append];omega),
   aAb ((bKa s2 w k om).trans (aMc e3 (aVi 2 om))) rfl (by simp only [List.length_append,List.length_cons,List.length_nil];omega),
   aAb ((aY6 s2 w k om).trans (aMc e4 (bH9 k om))) rfl (by simp only [List.length_append,List.length_cons,List.length_nil];omega)]
  conv=>rhs;unfold oE
  simp only [List.append_assoc]
def LN(K:Nat):List (List ByteArray):=bOa::((List.range (2*K)).map bA3++((List.range K).flatMap bF5++[bHk,bHj,bM5,[]]))
def oK(K:Nat):List UInt8:=[]++tOk.data.toList++[10]++oV (2*K)++oE K++(dg K).data.toList++[10]++[121,101,115]++[10]++[121,101,115]++[10]
theorem bNq{words:List Int}(hw:W64 words)(hl:words.length=12)(hP: ∀x,x∈words→0≤x∧x<2305843009213693951){K:Nat}(h0:0<K)(hK:K<5):aBo (LN K) ⟨zS.State,⟨words,0⟩,false⟩ []=some (oK K):=by
 obtain ⟨s,w,e,h⟩:=bNi hw hl hP;obtain ⟨s1,h1,e1⟩:=bLx (w:=w) h (2*K) om;obtain ⟨s2,h2,e2⟩:=bLw (w:=w) hK h1 K (Nat.le_refl _);have v:=aYc (2*K);have u:=aYb K;have z1:tOk.data.toList.length=2:=rfl;have z3:tOk.size=2:=rfl;have z4:(dg K).size=1:=rfl;have z5:(dg K).data.toList.length=1:=rfl;have z6:(⟨#[121,101,115]⟩:ByteArray).size=3:=rfl;have z7:(⟨#[121,101,115]⟩:ByteArray).data.toList.length=3:=rfl;unfold LN
 rw [aAb e rfl (by simp only [List.length_nil];omega),e1 _ _ (by simp only [List.length_append,List.length_cons,List.length_nil];omega),e2 _ _ (by simp only [List.length_append,List.length_cons,List.length_nil];omega),
  aAb ((bG7 s2 w).trans (aMc (h2.count hK) (aVi K hK))) rfl (by simp only [List.length_append,List.length_cons,List.length_nil];omega),
  aAb ((bG6 s2 w).trans (aMc h2.audit aVj)) rfl (by simp only [List.length_append,List.length_cons,List.length_nil];omega),
  aAb ((bK8 s2 w).trans (aMc (h2.conn01 om h0) aVj)) rfl (by simp only [List.length_append,List.length_cons,List.length_nil];omega)]
 rfl
def T0:ByteArray:=⟨#[110,101,119,32,57,32,51,32,50,10]⟩
def W0:ByteArray:=⟨#[111,107,10]⟩
def vTx:Nat→ByteArray
  |0=>T0
  |n+1=>vTx n++((⟨#[118,101,114,116,101,120,32]⟩:ByteArray)++dg n++⟨#[10]⟩)
def wTx:Nat→ByteArray
  |0=>W0
  |n+1=>wTx n++⟨#[111,107,10]⟩
def eTx(N:Nat):Nat→ByteArray
  |0=>vTx N
  |k+1=>eTx N k++((⟨#[101,100,103,101,32]⟩:ByteArray)++dg (2*k+1)++⟨#[32]⟩++dg (2*k)++⟨#[10,115,105,122,101,32]⟩++dg (2*k)++⟨#[10,109,101,109,98,101,114,115,32]⟩++dg (2*k+1)++⟨#[10]⟩)
def eWt(N:Nat):Nat→ByteArray
  |0=>wTx N
  |k+1=>eWt N k++((⟨#[111,107,10,50,10]⟩:ByteArray)++dg (2*k)++⟨#[32]⟩++dg (2*k+1)++⟨#[10]⟩)
def TX(K:Nat):ByteArray:=eTx (2*K) K++⟨#[99,111,117,110,116,10,97,117,100,105,116,10,99,111,110,110,101,99,116,101,100,32,48,32,49,10]⟩
def WX(K:Nat):ByteArray:=eWt (2*K) K++(dg K++⟨#[10,121,101,115,10,121,101,115,10]⟩)
theorem bNb: ∀K,K<5→0<K→qY (TX K)=some (LN K,0,0)
 |0,_,h=>absurd h om
 |1,_,_=>by kernel_rfl|2,_,_=>by kernel_rfl|3,_,_=>by kernel_rfl|4,_,_=>by kernel_rfl
 |n+5,h,_=>by omega
theorem bQ7: ∀K,K<5→0<K→(⟨(oK K).toArray⟩:ByteArray)=WX K:=by decide+kernel
theorem bM8: ∀K,K<5→(LN K).length≤1000000:=by decide+kernel
theorem bNr{words:List Int}(hw:W64 words)(hl:words.length=12)(hP: ∀x,x∈words→0≤x∧x<2305843009213693951){K:Nat}(h0:0<K)(hK:K<5):iP (TX K) words=some (WX K):=by
 unfold iP;rw [bNb K hK h0,aA];simp only [];rw [bf (by rfl),bt (decide_eq_true (bM8 K hK)),←bQ7 K hK h0];have:=bNq hw hl hP h0 hK;have this':aBo (LN K) ⟨⟨⟨⟨0,0,0⟩,[],[]⟩,[]⟩,⟨words,0⟩,false⟩ []=some (oK K):=this;rw [this'];rfl
theorem aEr{s t:ByteArray}(h:s.size+t.size≤9223372036854775807):oO s t=some (s++t):=by simp [oO,h]
theorem aU2(i:Nat):(dg i).size=1:=rfl
theorem bLg: ∀i,i<8→gQ (IntKind.u64.wrap ((i:Nat):Int))=some (dg i)
 |0,_=>by kernel_rfl|1,_=>by kernel_rfl|2,_=>by kernel_rfl|3,_=>by kernel_rfl|4,_=>by kernel_rfl|5,_=>by kernel_rfl|6,_=>by kernel_rfl|7,_=>by kernel_rfl
 |n+8,h=>by omega
theorem bOt: ∀i,i<4→gQ (IntKind.u64.wrap (IntKind.i64.wrap (2*((i:Nat):Int))))=some (dg (2*i))∧gQ (IntKind.u64.wrap (IntKind.i64.wrap ((IntKind.i64.wrap (2*((i:Nat):Int)))+1)))=some (dg (2*i+1))
 |0,_=>⟨by kernel_rfl,by kernel_rfl⟩|1,_=>⟨by kernel_rfl,by kernel_rfl⟩|2,_=>⟨by kernel_rfl,by kernel_rfl⟩|3,_=>⟨by kernel_rfl,by kernel_rfl⟩
 |n+4,h=>by omega
theorem aYt: ∀n,(vTx n).size≤10+9*n∧(wTx n).size≤3+3*n
 |0=>by decide
 |n+1=>by
  obtain ⟨a,b⟩:=aYt n;unfold vTx wTx;simp only [ByteArray.size_append,aU2];refine ⟨?_,?_⟩
  · show (vTx n).size+(7+1+1)≤_;omega
  · show (wTx n).size+3≤_;omega
theorem bF9(N:Nat): ∀n,(eTx N n).size≤10+9*N+100*n∧(eWt N n).size≤3+3*N+100*n
 |0=>aYt N
 |n+1=>by
  obtain ⟨a,b⟩:=bF9 N n;unfold eTx eWt;simp only [ByteArray.size_append,aU2];refine ⟨?_,?_⟩
  · show (eTx N n).size+(5+1+1+1+6+1+9+1+1)≤_;omega
  · show (eWt N n).size+(5+1+1+1+1)≤_;omega
theorem bL9{words:List Int}{K:Nat}(hK:K<5)(hr:iP (TX K) words=some (WX K)): ∀(m i:Nat),K<i+m→i≤K→mU m words (K:Int) (eTx (2*K) i) (eWt (2*K) i) (K:Int) (i:Int)=some true
 |0,i,_,_=>by omega
 |m+1,i,hm,hi=>by
  obtain ⟨z1,z2⟩:=bF9 (2*K) i;show xX (mU m) _ _ _ _ _ _=_;unfold xX
  by_cases q:i<K
  ·
   obtain ⟨d1,d2⟩:=bOt i om;have ih:=bL9 hK hr m (i+1) om q;rw [bt (by simpa using q),d1,aA,d2,aA];have S: ∀ {s t:ByteArray},s.size≤1000→t.size≤1000→oO s t=some (s++t):=fun h1 h2=>aEr om;have z: ∀ {s t:ByteArray} {x y:Nat},s.size=x→t.size=y→(s++t).size=x+y:=fun h1 h2=>by rw [ByteArray.size_append,h1,h2]
   have g1:=aU2 (2*i);have g2:=aU2 (2*i+1);have p1:=z (s:=⟨#[101,100,103,101,32]⟩) (x:=5) rfl g2;have p2:=z (t:=⟨#[32]⟩) (y:=1) p1 rfl;have p3:=z p2 g1;have p4:=z (t:=⟨#[10,115,105,122,101,32]⟩) (y:=6) p3 rfl;have p5:=z p4 g1;have p6:=z (t:=⟨#[10,109,101,109,98,101,114,115,32]⟩) (y:=9) p5 rfl;have p7:=z p6 g2;have p8:=z (t:=⟨#[10]⟩) (y:=1) p7 rfl;have r1:=z (s:=⟨#[111,107,10,50,10]⟩) (x:=5) rfl g1;have r2:=z (t:=⟨#[32]⟩) (y:=1) r1 rfl;have r3:=z r2 g2;have r4:=z (t:=⟨#[10]⟩) (y:=1) r3 rfl
   rw [S (by decide) om,aA,S om (by decide),aA,S om om,aA,S om (by decide),aA,S om om,aA,S om (by decide),aA,S om om,aA,S om (by decide),aA,
    S om om,aA,S (by decide) om,aA,S om (by decide),aA,S om om,aA,S om (by decide),aA,S om om,aA,wr1 i om]
   exact ih
  ·
   have hi':i=K:=by omega
   subst hi';have dK:gQ (IntKind.u64.wrap ((i:Nat):Int))=some (dg i):=bLg i om;have t1:oO (eTx (2*i) i) ⟨#[99,111,117,110,116,10,97,117,100,105,116,10,99,111,110,110,101,99,116,101,100,32,48,32,49,10]⟩=some (TX i):=aEr (by show _+26≤_;omega);have t2:oO (dg i) ⟨#[10,121,101,115,10,121,101,115,10]⟩=some (dg i++⟨#[10,121,101,115,10,121,101,115,10]⟩):=aEr (by show 1+9≤_;omega);have t3:oO (eWt (2*i) i) (dg i++⟨#[10,121,101,115,10,121,101,115,10]⟩)=some (WX i):=aEr (by rw [ByteArray.size_append];show _+(1+9)≤_;omega);rw [bf (by simp),t1,aA,dK,aA,t2,aA,t3,aA,hr,aA,decide_eq_true rfl,gt' (by rfl),aAs,aA];rfl
theorem bL8{words:List Int}{K:Nat}(hK:K<5)(hr:iP (TX K) words=some (WX K)): ∀(m i:Nat),2*K<i+m→i≤2*K→mT m words (K:Int) (vTx i) (wTx i) ((2*K:Nat):Int) (i:Int)=some true
 |0,i,_,_=>by omega
 |m+1,i,hm,hi=>by
  have hFU:=FU';obtain ⟨z1,z2⟩:=aYt i;show xW (mT m) _ _ _ _ _ _=_;unfold xW
  by_cases q:i<2*K
  ·
   have ih:=bL8 hK hr m (i+1) om q;have g1:=aU2 i;have p1:((⟨#[118,101,114,116,101,120,32]⟩:ByteArray)++dg i).size=8:=by rw [ByteArray.size_append];rfl
   have p2:((⟨#[118,101,114,116,101,120,32]⟩:ByteArray)++dg i++⟨#[10]⟩).size=9:=by rw [ByteArray.size_append,p1];rfl
   rw [bt (by simp;omega),bLg i om,aA,aEr (by rw [g1];decide),aA,aEr (by rw [p1];decide),aA,aEr om,aA,aEr (by show _+3≤_;omega),aA,wr1 i om];exact ih
  ·
   have hi':i=2*K:=by omega
   subst hi';rw [bf (by simp)];exact bL9 hK hr bF 0 om (Nat.zero_le _)
theorem bL7{words:List Int}(hw:W64 words)(hl:words.length=12){pairs:Int}(h0:0≤pairs)(h1:pairs≤255): ∀(m i:Nat),12<i+m→i≤12→(∀x,x∈words.take i→x<2305843009213693951)→mS m pairs words words (words.length:Int) (i:Int)=some true
 |0,i,_,_,_=>by omega
 |m+1,i,hm,hi,ha=>by
  have hFU:=FU';show xU (mS m) _ _ _ _ _=_;unfold xU
  by_cases q:i<words.length
  ·
   rw [bt (by simpa using q),dD q,aA]
   by_cases c:2305843009213693951≤words[i]
   · rw [bt (by simpa using c),aAs,aA]
   ·
    rw [bf (by simpa using c),wr1 i om];refine bL7 hw hl h0 h1 m (i+1) om om fun x hx=>?_;rw [xR q] at hx;rcases List.mem_append.1 hx with hx|hx
    · exact ha x hx
    · rw [List.mem_singleton.1 hx];omega
  ·
   rw [bf (by simpa using q)];have hP: ∀x,x∈words→0≤x∧x<2305843009213693951:=fun x hx=>⟨(hw x hx).1,ha x (by rw [List.take_of_length_le om];exact hx)⟩
   obtain ⟨K,k0,k1,k2⟩: ∃K:Nat,0<K∧K<5∧1+Int.tmod pairs 4=(K:Int):=by
    rw [Int.tmod_eq_emod_of_nonneg h0];exact ⟨(1+pairs%4).toNat,by omega,by omega,by omega⟩
   have hr:=bNr hw hl hP k0 k1;have w1:IntKind.i64.wrap (Int.tmod pairs 4)=Int.tmod pairs 4:=wr0 om om;have w2:IntKind.i64.wrap (K:Int)=(K:Int):=wr0 om om;have w3:IntKind.i64.wrap (2*(K:Int))=((2*K:Nat):Int):=(wr0 om om).trans om;rw [w1,k2,w2,w3];exact bL8 k1 hr bF 0 om (Nat.zero_le _)
theorem aOc{words:List Int}(hw:W64 words){pairs:Int}(h0:0≤pairs)(h1:pairs≤255):oW pairs words=some true:=by
 have hFU:=FU';unfold oW
 by_cases hl:words.length=12
 · rw [bf (by rw [hl];rfl)];exact bL7 hw hl h0 h1 bF 0 om (Nat.zero_le _) fun x hx=>by cases hx
 · rw [bt (bne_iff_ne.2 om),aAs,aA]
theorem aOd(pairs:Int)(words:List Int){P C:Prop}(w0:(Lit.int .u8 pairs).wf=true)(w:(∀y,y∈words→(Lit.int .u64 y).wf=true)∧P)(_:C):oW pairs words=some true:=by
 have b:0≤pairs∧pairs≤255:=by simpa [Lit.wf,IntKind.min,IntKind.max,IntKind.signed,IntKind.bits] using w0
 exact aOc (cA4 w) b.1 b.2
end Go.Proofs.YtkdohhmacfoolaaGreatDoor
namespace Go.AM
open Go
theorem aT6: ∀(w r:List Char),Char.ofNat 32∉w→wordsSigns (w++Char.ofNat 32::r)=w::wordsSigns r
 |[],r,_=>by show wordsSigns (Char.ofNat 32::r)=_;rw [wordsSigns.eq_2]
 |c::w,r,h=>by
  have hc: ¬c=Char.ofNat 32:=fun e=>h (by simp [e]);have ih:=aT6 w r (fun m=>h (List.mem_cons_of_mem _ m));show wordsSigns (c::(w++Char.ofNat 32::r))=_;rw [wordsSigns.eq_3 _ _ (fun e=>hc e),ih]
def yN:List Char:= "cut".toList
theorem aQk(R:List (List Char)):stripLifts liftWords (yN::R)=([],yN::R):=by kernel_rfl
theorem bMj{s d:List Char}(h:Char.ofNat 32∉s)(hs:isSumSigns s=true):
 behindMainWord (wordsSigns ("harness".toList++Char.ofNat 32::(s++Char.ofNat 32::(yN++Char.ofNat 32::d))))=yN::wordsSigns d:=by
 rw [aT6 _ _ (by decide+kernel),aT6 _ _ h,aT6 _ _ (by decide+kernel)];generalize wordsSigns d=R;have e:(("harness".toList== "harness".toList|| "harness".toList== "ownmain".toList)&&isSumSigns s)=true:=by rw [hs];decide+kernel
 exact if_pos e
variable {P:Program}{R:List (List Char)}(h:behindMainWord (wordsSigns P.initOrder.toList)=yN::R)
include h
theorem aRp:P.headLifts=[]:=by
 unfold Program.headLifts;rw [h,aQk]
 kernel_rfl
theorem aOy:P.liftsFinal=false:=by
 unfold Program.liftsFinal;rw [h,aRp h]
 kernel_rfl
theorem bKc:P.make=some .cut:=by
 unfold Program.make;rw [h]
 kernel_rfl
theorem aUq(h1:P.laysLater=false)(h2:P.bearsReflect=false)(h3:P.doorFits []=true):P.mayEnter=true:=by
 unfold Program.mayEnter;rw [h];simp only [aQk,h1,h2,h3]
 kernel_rfl
end Go.AM
