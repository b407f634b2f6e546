/- Facts. No condition. -/
import Derived.Test.YtkdohhmacfoolaaGreatDoorObIxI
set_option linter.unusedVariables false
set_option linter.unusedSimpArgs false
set_option maxRecDepth 20000
set_option maxHeartbeats 1000000
namespace Go.Proofs.YtkdohhmacfoolaaGreatDoor
open Go Go.AM Go.Pl Go.Pt Go.Ix
def ub:List Int→Int
  |[]=>0
  |x::l=>x+256*ub l
theorem bMg: ∀ {l:List Int},BB l→0≤ub l∧ub l<256^l.length
 |[],_=>by simp [ub]
 |x::l,h=>by
  have h1:=h x (by simp);have h2:=bMg (l:=l) fun y hy=>h y (by simp [hy]);simp only [ub,List.length_cons,Int.pow_succ];omega
theorem aJ7: ∀(k:Nat) {n:Int},0≤n→n<256^k→ub (lb n k)=n
 |0,n,h,h'=>by simp at h';simp [ub,lb];omega
 |k+1,n,h,h'=>by
  simp only [lb,ub];rw [aJ7 k om (by rw [Int.pow_succ] at h';omega)];omega
theorem cCe(m b:Nat)(hb:b<256):m*256 ||| b=m*256+b:=by
 have:=Nat.shiftLeft_add_eq_or_of_lt (i:=8) (b:=b) om m;rw [Nat.shiftLeft_eq,show 2^8=256 from rfl] at this;omega
theorem cBm{n b:Int}(hn:0≤n)(hn':n<72057594037927936)(hb:0≤b∧b<256):bor .u64 (shl .u64 n 8) (IntKind.u64.wrap b)=n*256+b:=by
 obtain ⟨m,rfl⟩:=Int.eq_ofNat_of_zero_le hn;obtain ⟨c,rfl⟩:=Int.eq_ofNat_of_zero_le hb.1
 have h1:shl .u64 (m:Int) 8=((m*256:Nat):Int):=by
  unfold shl;rw [show (2:Int)^(min (8:Int).toNat IntKind.u64.bits)=256 by decide,wu];omega
 rw [h1,wu];unfold bor;rw [show ((c:Int)%18446744073709551616)=((c:Nat):Int) by omega,wu]
 have e1:(BitVec.ofInt IntKind.u64.bits ((m*256:Nat):Int) ||| BitVec.ofInt IntKind.u64.bits ((c:Nat):Int)).toNat=m*256+c:=by
  rw [BitVec.ofInt_natCast,BitVec.ofInt_natCast,BitVec.toNat_or,BitVec.toNat_ofNat,BitVec.toNat_ofNat];rw [show IntKind.u64.bits=64 from rfl,Nat.mod_eq_of_lt om,Nat.mod_eq_of_lt om,cCe m c om]
 rw [e1];omega
def cut(l:List Int)(a k:Nat):List Int:=(l.drop a).take k
theorem xK{l:List Int}{a k:Nat}(h:a+k≤l.length):(cut l a k).length=k:=by simp [cut];omega
theorem aJj{l:List Int}(h:BB l)(a k:Nat):BB (cut l a k):=fun x hx=>h x (List.mem_of_mem_drop (List.mem_of_mem_take hx))
theorem bNh{l:List Int}{a k i:Nat}(h:i<k)(h':a+k≤l.length):(cut l a k)[i]'(by rw [xK h'];exact h)=l[a+i]'(by omega):=by simp [cut]
theorem bQu{l:List Int}(h:BB l)(hl:l.length≤4000000){a k:Nat}(hk:k≤8)(hb:a+k≤l.length): ∀(m j:Nat),j<m→j≤k→
 aBo m (nF l) (a:Int) (ub ((cut l a k).drop j)) ((j:Int)-1)=some (ub (cut l a k))
 |0,j,hm,_=>by omega
 |m+1,j,hm,hj=>by
  show (bif decide (0≤(j:Int)-1) then ((aPh (nF l) (IntKind.i64.wrap ((a:Int)+((j:Int)-1)))).bind fun b2=>aBo m (nF l) (a:Int) (bor .u64 (shl .u64 (ub ((cut l a k).drop j)) 8) (IntKind.u64.wrap b2)) (IntKind.i64.wrap (((j:Int)-1)-1))) else some (ub ((cut l a k).drop j)))=_
  cases j with
  |zero=>rw [bf (by simp),List.drop_zero]
  |succ j=>
   have e1:(a:Int)+(((j+1:Nat):Int)-1)=((a+j:Nat):Int):=by omega
   have e2:(((j+1:Nat):Int)-1)-1=(j:Int)-1:=by omega
   have hlt:a+j<l.length:=by omega
   have w1:IntKind.i64.wrap ((a+j:Nat):Int)=((a+j:Nat):Int):=wr0 om om;have w2:IntKind.i64.wrap ((j:Int)-1)=(j:Int)-1:=wr0 om om;rw [bt (by simp),e1,e2,w1,w2,aWw h hlt,aA]
   have hd:(cut l a k).drop j=l[a+j]::(cut l a k).drop (j+1):=by
    rw [List.drop_eq_getElem_cons (by rw [xK hb];omega),bNh om hb]
   have hbb:BB ((cut l a k).drop (j+1)):=fun x hx=>aJj h a k x (List.mem_of_mem_drop hx);have hu:=bMg hbb;have hlen:((cut l a k).drop (j+1)).length≤7:=by rw [List.length_drop,xK hb];omega
   have hp:(256:Int)^((cut l a k).drop (j+1)).length≤256^7:=by
    have:=Nat.pow_le_pow_right (n:=256) om hlen
    exact_mod_cast this
   have h7:(256:Int)^7=72057594037927936:=by decide
   rw [cBm hu.1 om (h _ (List.getElem_mem hlt))];have e3:ub ((cut l a k).drop (j+1))*256+l[a+j]=ub ((cut l a k).drop j):=by rw [hd,ub];omega
   rw [e3];exact bQu h hl hk hb m j om om
theorem aEu{l:List Int}(h:BB l)(hl:l.length≤4000000){a k:Nat}(hk:k≤8)(hb:a+k≤l.length):eZ (nF l) (a:Int) (k:Int)=some (ub (cut l a k)):=by
 have hFU:=FU';unfold eZ;have w:IntKind.i64.wrap ((k:Int)-1)=(k:Int)-1:=wr0 om om;have:=bQu h hl hk hb bC k om (Nat.le_refl _);rw [show (cut l a k).drop k=[] from List.drop_eq_nil_of_le (by rw [xK hb];exact Nat.le_refl _)] at this;rw [w];exact this
def dH(l:List Int)(a:Nat):bM:=⟨ub (cut l a 8),ub (cut l (a+8) 8)⟩
def dS(l:List Int)(a:Nat):aN:=⟨l.getD a 0==1,ub (cut l (a+1) 8)⟩
def dE(l:List Int)(a:Nat):aD:=⟨ub (cut l a 2),ub (cut l (a+2) 2),l.getD (a+4) 0⟩
def dl{α:Type}(f:Nat→α)(w:Nat):Nat→Nat→List α
  |_,0=>[]
  |a,k+1=>f a::dl f w (a+w) k
theorem aE9{l:List Int}(h:BB l){k:Nat}(hk:l.length=k): ∃n:Nat,ub l=n∧n<256^k:=by
 have:=bMg h;obtain ⟨n,e⟩:=Int.eq_ofNat_of_zero_le this.1;refine ⟨n,e,?_⟩;rw [hk] at this;have h2:((n:Nat):Int)<((256^k:Nat):Int):=by rw [←e];simpa using this.2
 exact_mod_cast h2
theorem getD_get{l:List Int}{i:Nat}(h:i<l.length):l[i]=l.getD i 0:=by simp [List.getD,h]
section
variable {l:List Int}(h:BB l)(hl:l.length≤4000000)
include h hl
theorem aU6(t2:aC): ∀(m K i a:Nat) (s:aC),K≤1000000→K<i+m→i≤K→a+5*(K-i)≤l.length→s.Graph.Edges.length≤1000000+i→
 nX m (nF l) t2 s (a:Int) (K:Int) (i:Int)=some (⟨⟨s.Graph.Config,s.Graph.Hashes,s.Graph.Edges++dl (dE l) 5 a (K-i)⟩,s.Slots⟩,true)
 |0,K,i,a,s,_,hm,hi,_,_=>by omega
 |m+1,K,i,a,s,hb,hm,hi,ha,hs=>by
  show sT (nX m) (nF l) t2 s (a:Int) (K:Int) (i:Int)=_;unfold sT
  by_cases c:i<K
  ·
   have e2:=aEu h hl (a:=a) (k:=2) om om;have e3:=aEu h hl (a:=a+2) (k:=2) om om;have e4:=aWw h (i:=a+4) om;have w2:IntKind.i64.wrap ((a:Int)+2)=((a+2:Nat):Int):=wr0 om om;have w4:IntKind.i64.wrap ((a:Int)+4)=((a+4:Nat):Int):=wr0 om om;have w5:IntKind.i64.wrap ((a:Int)+5)=((a+5:Nat):Int):=wr0 om om;obtain ⟨u,hu,hu'⟩:=aE9 (aJj h a 2) (xK (l:=l) (a:=a) (k:=2) om);obtain ⟨v,hv,hv'⟩:=aE9 (aJj h (a+2) 2) (xK (l:=l) (a:=a+2) (k:=2) om);have hb4:=h _ (List.getElem_mem (show a+4<l.length by omega));have e2':eZ (nF l) (a:Int) 2=some (u:Int):=by rw [←hu];exact e2
   have e3':eZ (nF l) ((a+2:Nat):Int) 2=some (v:Int):=by rw [←hv];exact e3
   rw [bt (by simpa using c),e2',aA,w2,e3',aA,w4,e4,aA,fI (by simp;omega),aA,w5,wr1 i om];rw [wr0 (n:=(u:Int)) om om,wr0 (n:=(v:Int)) om om,wr0 (n:=l[a+4]) om om];rw [aU6 _ m K (i+1) (a+5) _ hb om c om (by simp;omega)];rw [show K-i=(K-(i+1))+1 by omega];simp only [dl,dE,hu,hv,List.append_assoc,List.singleton_append,getD_get (show a+4<l.length by omega)]
  · rw [bf (by simpa using c),show K-i=0 by omega];simp [dl]
theorem aU5(t2:aC){rest:Int}{K:Nat}(hK:IntKind.i64.wrap (Int.tdiv rest 5)=(K:Int))(hK':K≤1000000): ∀(m M i a:Nat) (s:aC),M≤1000000→M<i+m→i≤M→a+9*(M-i)+4+5*K≤l.length→s.Slots.length≤1000000+i→
 nW m (nF l) t2 s rest (a:Int) (M:Int) (i:Int)=some (⟨⟨s.Graph.Config,s.Graph.Hashes,dl (dE l) 5 (a+9*(M-i)+4) K⟩,s.Slots++dl (dS l) 9 a (M-i)⟩,true)
 |0,M,i,a,s,_,hm,hi,_,_=>by omega
 |m+1,M,i,a,s,hM,hm,hi,ha,hs=>by
  have hFU:=FU';show sS (nW m) (nF l) t2 s rest (a:Int) (M:Int) (i:Int)=_;unfold sS
  by_cases c:i<M
  · have e1:=aWw h (i:=a) om;have e2:=aEu h hl (a:=a+1) (k:=8) om om;have w1:IntKind.i64.wrap ((a:Int)+1)=((a+1:Nat):Int):=wr1 a om;have w9:IntKind.i64.wrap ((a:Int)+9)=((a+9:Nat):Int):=wr0 om om;have e2':eZ (nF l) ((a+1:Nat):Int) 8=some (ub (cut l (a+1) 8)):=e2;rw [bt (by simpa using c),e1,aA,w1,e2',aA,fI (by simp;omega),aA,w9,wr1 i om];rw [aU5 _ hK hK' m M (i+1) (a+9) _ hM om c om (by simp;omega)];rw [show M-i=(M-(i+1))+1 by omega,show a+9+9*(M-(i+1))+4=a+9*(M-(i+1)+1)+4 by omega];simp only [dl,dS,List.append_assoc,List.singleton_append,getD_get (show a<l.length by omega)]
  · have w4:IntKind.i64.wrap ((a:Int)+4)=((a+4:Nat):Int):=wr0 om om;have:=aU6 h hl (aC.mk (aF.mk t2.Graph.Config [] []) []) bC K 0 (a+4) (aC.mk (aF.mk s.Graph.Config s.Graph.Hashes []) s.Slots) hK' om (Nat.zero_le _) om (by simp);rw [bf (by simpa using c),w4,hK,show ((0:Int))=((0:Nat):Int) from rfl];refine this.trans ?_;rw [show M-i=0 by omega];simp [dl]
theorem aU4(t2:aC){rest:Int}{K M:Nat}{c:aU}(hc:c.N=(M:Int))(hK:IntKind.i64.wrap (Int.tdiv rest 5)=(K:Int))(hK':K≤1000000)(hM:M≤1000000): ∀(m H i a:Nat) (s:aC),H≤1000000→H<i+m→i≤H→a+16*(H-i)+9*M+4+5*K≤l.length→s.Graph.Hashes.length≤1000000+i→
 nV m (nF l) t2 s c rest (a:Int) (H:Int) (i:Int)=some (⟨⟨s.Graph.Config,s.Graph.Hashes++dl (dH l) 16 a (H-i),dl (dE l) 5 (a+16*(H-i)+9*M+4) K⟩,dl (dS l) 9 (a+16*(H-i)) M⟩,true)
 |0,H,i,a,s,_,hm,hi,_,_=>by omega
 |m+1,H,i,a,s,hH,hm,hi,ha,hs=>by
  have hFU:=FU';show sR (nV m) (nF l) t2 s c rest (a:Int) (H:Int) (i:Int)=_;unfold sR
  by_cases cc:i<H
  · have e1:=aEu h hl (a:=a) (k:=8) om om;have e2:=aEu h hl (a:=a+8) (k:=8) om om;have w8:IntKind.i64.wrap ((a:Int)+8)=((a+8:Nat):Int):=wr0 om om;have w16:IntKind.i64.wrap ((a:Int)+16)=((a+16:Nat):Int):=wr0 om om;have e1':eZ (nF l) (a:Int) 8=some (ub (cut l a 8)):=e1;have e2':eZ (nF l) ((a+8:Nat):Int) 8=some (ub (cut l (a+8) 8)):=e2;rw [bt (by simpa using cc),e1',aA,w8,e2',aA,fI (by simp;omega),aA,w16,wr1 i om];rw [aU4 _ hc hK hK' hM m H (i+1) (a+16) _ hH om cc om (by simp;omega)];rw [show H-i=(H-(i+1))+1 by omega,show a+16+16*(H-(i+1))=a+16*(H-(i+1)+1) by omega];simp only [dl,dH,List.append_assoc,List.singleton_append]
  · have:=aU5 h hl (aC.mk (aF.mk t2.Graph.Config [] []) []) hK hK' bC M 0 a (aC.mk (aF.mk s.Graph.Config s.Graph.Hashes []) []) hM om (Nat.zero_le _) om (by simp);rw [bf (by simpa using cc),hc,show ((0:Int))=((0:Nat):Int) from rfl];refine this.trans ?_;rw [show H-i=0 by omega];simp [dl]
end
structure Pk(l:List Int)(N L R K:Nat):Prop where
  n:ub (cut l 4 2)=N
  ll:ub (cut l 6 2)=L
  r:ub (cut l 8 2)=R
  lim:N≤1024∧L≤16∧R≤8
  len:l.length=10+L*R*16+N*9+4+8+5*K
  k:ub (cut l (10+L*R*16+N*9) 4)=K
def dec(l:List Int)(N L R K:Nat):aC:=⟨⟨⟨N,L,R⟩,dl (dH l) 16 10 (L*R),dl (dE l) 5 (10+16*(L*R)+9*N+4) K⟩,dl (dS l) 9 (10+16*(L*R)) N⟩
def z0:aC:=aC.mk (aF.mk (aU.mk 0 0 0) [] []) []
theorem aWd{l:List Int}(h:BB l)(hl:l.length≤4000000):(∃N L R K,Pk l N L R K∧lA (nF l)=some (dec l N L R K,true))∨
 (¬ ∃N L R K,Pk l N L R K)∧lA (nF l)=some (z0,false):=by
 have hFU:=FU';unfold lA;rw [aMp]
 by_cases h10:l.length<10
 · exact .inr ⟨fun ⟨N,L,R,K,p⟩=>by have:=p.len;omega,by rw [bt (by simp;omega)];rfl⟩
 obtain ⟨N,hN,hN'⟩:=aE9 (aJj h 4 2) (xK (l:=l) (a:=4) (k:=2) om);obtain ⟨L,hL,hL'⟩:=aE9 (aJj h 6 2) (xK (l:=l) (a:=6) (k:=2) om);obtain ⟨R,hR,hR'⟩:=aE9 (aJj h 8 2) (xK (l:=l) (a:=8) (k:=2) om);have g1:eZ (nF l) 4 2=some (N:Int):=by rw [←hN];exact aEu h hl (a:=4) (k:=2) om om
 have g2:eZ (nF l) 6 2=some (L:Int):=by rw [←hL];exact aEu h hl (a:=6) (k:=2) om om
 have g3:eZ (nF l) 8 2=some (R:Int):=by rw [←hR];exact aEu h hl (a:=8) (k:=2) om om
 have wN:IntKind.i64.wrap (N:Int)=N:=wr0 om om;have wL:IntKind.i64.wrap (L:Int)=L:=wr0 om om;have wR:IntKind.i64.wrap (R:Int)=R:=wr0 om om;rw [bf (by simp;omega),g1,aA,g2,aA,g3,aA,wN,wL,wR]
 have un: ∀ {N' L' R' K':Nat},Pk l N' L' R' K'→N'=N∧L'=L∧R'=R:=fun p=>by
  have a:=p.n;have b:=p.ll;have c:=p.r;rw [hN] at a;rw [hL] at b;rw [hR] at c;omega
 by_cases lim:N≤1024∧L≤16∧R≤8
 rotate_left
 ·
  refine .inr ⟨fun ⟨N',L',R',K',p⟩=>?_,?_⟩
  · obtain ⟨rfl,rfl,rfl⟩:=un p;exact lim p.lim
  · rw [bt (by simp;omega)];rfl
 rw [bf (by simp;omega)];have hP:L*R≤128:=Nat.mul_le_mul lim.2.1 lim.2.2;have e1:IntKind.i64.wrap ((L:Int)*(R:Int))=((L*R:Nat):Int):=by rw [←Int.natCast_mul];exact wr0 om om
 rw [e1]
 have un': ∀ {N' L' R' K':Nat},Pk l N' L' R' K'→l.length=10+L*R*16+N*9+4+8+5*K'∧ub (cut l (10+L*R*16+N*9) 4)=K':=fun p=>by
  obtain ⟨rfl,rfl,rfl⟩:=un p;exact ⟨p.len,p.k⟩
 have mk: ∀K:Nat,l.length=10+L*R*16+N*9+4+8+5*K→ub (cut l (10+L*R*16+N*9) 4)=K→Pk l N L R K:=fun K a b=>⟨hN,hL,hR,lim,a,b⟩
 have hdec: ∀K,dec l N L R K=⟨⟨⟨N,L,R⟩,dl (dH l) 16 10 (L*R),dl (dE l) 5 (10+16*(L*R)+9*N+4) K⟩,dl (dS l) 9 (10+16*(L*R)) N⟩:=fun _=>rfl;generalize L*R=P at*
 rw [wr0 (n:=((P:Nat):Int)*16) om om,wr0 (n:=10+((P:Nat):Int)*16) om om,wr0 (n:=(N:Int)*9) om om,wr0 (n:=10+((P:Nat):Int)*16+(N:Int)*9) om om,wr0 (n:=10+((P:Nat):Int)*16+(N:Int)*9+4) om om,
  wr0 (n:=10+((P:Nat):Int)*16+(N:Int)*9+4+8) om om,wr0 (n:=(l.length:Int)-(10+((P:Nat):Int)*16+(N:Int)*9+4)) om om,wr0 (n:=(l.length:Int)-(10+((P:Nat):Int)*16+(N:Int)*9+4)-8) om om,wr0 (n:=10+((P:Nat):Int)*16+(N:Int)*9+4-4) om om]
 by_cases h3:l.length<10+P*16+N*9+4+8
 ·
  refine .inr ⟨fun ⟨N',L',R',K',p⟩=>?_,?_⟩
  · have:=(un' p).1;omega
  · rw [bt (by simp;omega)];rfl
 rw [bf (by simp;omega)];obtain ⟨q,hq⟩: ∃q:Nat,l.length=10+P*16+N*9+4+8+q:=⟨l.length-(10+P*16+N*9+4+8),by omega⟩
 have er:(l.length:Int)-(10+((P:Nat):Int)*16+(N:Int)*9+4)-8=(q:Int):=by omega
 have ef:10+((P:Nat):Int)*16+(N:Int)*9+4-4=((10+P*16+N*9:Nat):Int):=by omega
 rw [er,ef,Int.tmod_eq_emod_of_nonneg om,Int.tdiv_eq_ediv_of_nonneg om];obtain ⟨k,hk,hk'⟩:=aE9 (aJj h (10+P*16+N*9) 4) (xK (l:=l) (a:=10+P*16+N*9) (k:=4) om);have g4:eZ (nF l) ((10+P*16+N*9:Nat):Int) 4=some (k:Int):=by rw [←hk];exact aEu h hl (a:=10+P*16+N*9) (k:=4) om om
 by_cases h5:q%5=0
 rotate_left
 ·
  refine .inr ⟨fun ⟨N',L',R',K',p⟩=>?_,?_⟩
  · have:=(un' p).1;omega
  ·
   have hb:((((q:Int)%5) !=0))=true:=by simp;omega
   rw [hb];show ((some (0:Int)).bind _)=_;rw [aA,bt (by simp)];rfl
 have hb:((((q:Int)%5) !=0))=false:=by simp;omega
 rw [hb];have w5:IntKind.u64.wrap (IntKind.i64.wrap ((q:Int)/5))=((q/5:Nat):Int):=by rw [wr0 om om,uu om om];omega
 have w6:IntKind.i64.wrap (Int.tdiv (q:Int) 5)=((q/5:Nat):Int):=by rw [Int.tdiv_eq_ediv_of_nonneg om,wr0 om om];omega
 rw [show fX (false==false) 0 (eZ (nF l) ((10+P*16+N*9:Nat):Int) 4)=some (k:Int) from g4,aA,w5]
 by_cases h6:k=q/5
 rotate_left
 ·
  refine .inr ⟨fun ⟨N',L',R',K',p⟩=>?_,?_⟩
  · have a:=un' p;rw [hk] at a;omega
  · rw [bt (by simp;omega)];rfl
 refine .inl ⟨N,L,R,k,mk k om hk,?_⟩;rw [bf (by simp;omega),hdec];have:=aU4 h hl (aC.mk (aF.mk (aU.mk 0 0 0) [] []) []) (rest:=(q:Int)) (K:=q/5) (M:=N) (c:=⟨N,L,R⟩) rfl w6 om om bC P 0 10 (aC.mk (aF.mk (aU.mk N L R) [] []) []) om om (Nat.zero_le _) om (by simp);refine this.trans ?_;subst h6;simp only [Nat.sub_zero,List.nil_append]
theorem bCi{l:List Int}(h:BB l)(hl:l.length≤4000000){N L R K:Nat}(p:Pk l N L R K):lA (nF l)=some (dec l N L R K,true):=by
 rcases aWd h hl with ⟨N',L',R',K',p',e⟩|⟨hn,_⟩
 ·
  have a:=p.n;have b:=p.ll;have c:=p.r;rw [p'.n] at a;rw [p'.ll] at b;rw [p'.r] at c;obtain rfl:N'=N:=by omega
  obtain rfl:L'=L:=by omega
  obtain rfl:R'=R:=by omega
  obtain rfl:K'=K:=by have:=p.len;have:=p'.len;omega
  exact e
 · exact absurd ⟨N,L,R,K,p⟩ hn
end Go.Proofs.YtkdohhmacfoolaaGreatDoor
