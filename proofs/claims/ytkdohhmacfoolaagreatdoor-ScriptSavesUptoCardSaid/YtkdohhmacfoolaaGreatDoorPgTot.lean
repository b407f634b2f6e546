/- Facts. No condition. -/
import Derived.Test.YtkdohhmacfoolaaGreatDoorPgIxI
set_option linter.unusedVariables false
set_option linter.unusedSimpArgs false
set_option maxRecDepth 20000
set_option maxHeartbeats 1000000
namespace Go.Proofs.YtkdohhmacfoolaaGreatDoor
open Go Go.AM Go.Pl Go.Pt Go.Ix
def byl(b:ByteArray):List Int:=b.data.toList.map fun x=>(x.toNat:Int)
theorem bWj(b:ByteArray):BB (byl b):=fun x hx=>by
 obtain ⟨y,_,rfl⟩:=List.mem_map.1 hx;have:=y.toNat_lt;omega
theorem bMk(b:ByteArray):fU (byl b)=b:=by
 unfold fU byl;apply ByteArray.ext;apply Array.ext';simp [List.map_map,Function.comp_def]
theorem bRm(b:ByteArray):(byl b).length=b.size:=by
 unfold byl;rw [List.length_map];rfl
def ub:List Int→Int
  |[]=>0
  |x::l=>x+256*ub l
theorem bHb: ∀ {l:List Int},BB l→0≤ub l∧ub l<256^l.length
 |[],_=>by simp [ub]
 |x::l,h=>by
  have h1:=h x (by simp);have h2:=bHb (l:=l) fun y hy=>h y (by simp [hy]);simp only [ub,List.length_cons,Int.pow_succ];omega
theorem aL6: ∀(k:Nat) {n:Int},0≤n→n<256^k→ub (lb n k)=n
 |0,n,h,h'=>by simp at h';simp [ub,lb];omega
 |k+1,n,h,h'=>by
  simp only [lb,ub];rw [aL6 k om (by rw [Int.pow_succ] at h';omega)];omega
theorem cJ0(m b:Nat)(hb:b<256):m*256 ||| b=m*256+b:=by
 have:=Nat.shiftLeft_add_eq_or_of_lt (i:=8) (b:=b) om m;rw [Nat.shiftLeft_eq,show 2^8=256 from rfl] at this;omega
theorem cI7{n b:Int}(hn:0≤n)(hn':n<72057594037927936)(hb:0≤b∧b<256):bor .u64 (shl .u64 n 8) (IntKind.u64.wrap b)=n*256+b:=by
 obtain ⟨m,rfl⟩:=Int.eq_ofNat_of_zero_le hn;obtain ⟨c,rfl⟩:=Int.eq_ofNat_of_zero_le hb.1
 have h1:shl .u64 (m:Int) 8=((m*256:Nat):Int):=by
  unfold shl;rw [show (2:Int)^(min (8:Int).toNat IntKind.u64.bits)=256 by decide,wu];omega
 rw [h1,wu];unfold bor;rw [show ((c:Int)%18446744073709551616)=((c:Nat):Int) by omega,wu]
 have e1:(BitVec.ofInt IntKind.u64.bits ((m*256:Nat):Int) ||| BitVec.ofInt IntKind.u64.bits ((c:Nat):Int)).toNat=m*256+c:=by
  rw [BitVec.ofInt_natCast,BitVec.ofInt_natCast,BitVec.toNat_or,BitVec.toNat_ofNat,BitVec.toNat_ofNat];rw [show IntKind.u64.bits=64 from rfl,Nat.mod_eq_of_lt om,Nat.mod_eq_of_lt om,cJ0 m c om]
 rw [e1];omega
def cut(l:List Int)(a k:Nat):List Int:=(l.drop a).take k
theorem zD{l:List Int}{a k:Nat}(h:a+k≤l.length):(cut l a k).length=k:=by simp [cut];omega
theorem aIl{l:List Int}(h:BB l)(a k:Nat):BB (cut l a k):=fun x hx=>h x (List.mem_of_mem_drop (List.mem_of_mem_take hx))
theorem bRt{l:List Int}{a k i:Nat}(h:i<k)(h':a+k≤l.length):(cut l a k)[i]'(by rw [zD h'];exact h)=l[a+i]'(by omega):=by simp [cut]
theorem bVk{l:List Int}(h:BB l)(hl:l.length≤4000000){a k:Nat}(hk:k≤8)(hb:a+k≤l.length): ∀(m j:Nat),j<m→j≤k→
 aE4 m (fU l) (a:Int) (ub ((cut l a k).drop j)) ((j:Int)-1)=some (ub (cut l a k))
 |0,j,hm,_=>by omega
 |m+1,j,hm,hj=>by
  show (bif decide (0≤(j:Int)-1) then ((aBo (fU l) (IntKind.i64.wrap ((a:Int)+((j:Int)-1)))).bind fun b2=>aE4 m (fU l) (a:Int) (bor .u64 (shl .u64 (ub ((cut l a k).drop j)) 8) (IntKind.u64.wrap b2)) (IntKind.i64.wrap (((j:Int)-1)-1))) else some (ub ((cut l a k).drop j)))=_
  cases j with
  |zero=>rw [bf (by simp),List.drop_zero]
  |succ j=>
   have e1:(a:Int)+(((j+1:Nat):Int)-1)=((a+j:Nat):Int):=by omega
   have e2:(((j+1:Nat):Int)-1)-1=(j:Int)-1:=by omega
   have hlt:a+j<l.length:=by omega
   have w1:IntKind.i64.wrap ((a+j:Nat):Int)=((a+j:Nat):Int):=wr0 om om;have w2:IntKind.i64.wrap ((j:Int)-1)=(j:Int)-1:=wr0 om om;rw [bt (by simp),e1,e2,w1,w2,aLv h hlt,aA]
   have hd:(cut l a k).drop j=l[a+j]::(cut l a k).drop (j+1):=by
    rw [List.drop_eq_getElem_cons (by rw [zD hb];omega),bRt om hb]
   have hbb:BB ((cut l a k).drop (j+1)):=fun x hx=>aIl h a k x (List.mem_of_mem_drop hx);have hu:=bHb hbb;have hlen:((cut l a k).drop (j+1)).length≤7:=by rw [List.length_drop,zD hb];omega
   have hp:(256:Int)^((cut l a k).drop (j+1)).length≤256^7:=by
    have:=Nat.pow_le_pow_right (n:=256) om hlen
    exact_mod_cast this
   have h7:(256:Int)^7=72057594037927936:=by decide
   rw [cI7 hu.1 om (h _ (List.getElem_mem hlt))];have e3:ub ((cut l a k).drop (j+1))*256+l[a+j]=ub ((cut l a k).drop j):=by rw [hd,ub];omega
   rw [e3];exact bVk h hl hk hb m j om om
theorem aH3{l:List Int}(h:BB l)(hl:l.length≤4000000){a k:Nat}(hk:k≤8)(hb:a+k≤l.length):gT (fU l) (a:Int) (k:Int)=some (ub (cut l a k)):=by
 have hFU:=FU';unfold gT;have w:IntKind.i64.wrap ((k:Int)-1)=(k:Int)-1:=wr0 om om;have:=bVk h hl hk hb aY k om (Nat.le_refl _);rw [show (cut l a k).drop k=[] from List.drop_eq_nil_of_le (by rw [zD hb];exact Nat.le_refl _)] at this;rw [w];exact this
def dH(l:List Int)(a:Nat):cI:=⟨ub (cut l a 8),ub (cut l (a+8) 8)⟩
def dS(l:List Int)(a:Nat):aN:=⟨l.getD a 0==1,ub (cut l (a+1) 8)⟩
def dE(l:List Int)(a:Nat):aE:=⟨ub (cut l a 2),ub (cut l (a+2) 2),l.getD (a+4) 0⟩
def dl{α:Type}(f:Nat→α)(w:Nat):Nat→Nat→List α
  |_,0=>[]
  |a,k+1=>f a::dl f w (a+w) k
theorem aOh{α:Type}(f:Nat→α)(w:Nat): ∀(k a:Nat),(dl f w a k).length=k
 |0,_=>rfl
 |k+1,a=>by simp [dl,aOh f w k]
theorem aGh{l:List Int}(h:BB l){k:Nat}(hk:l.length=k): ∃n:Nat,ub l=n∧n<256^k:=by
 have:=bHb h;obtain ⟨n,e⟩:=Int.eq_ofNat_of_zero_le this.1;refine ⟨n,e,?_⟩;rw [hk] at this;have h2:((n:Nat):Int)<((256^k:Nat):Int):=by rw [←e];simpa using this.2
 exact_mod_cast h2
theorem getD_get{l:List Int}{i:Nat}(h:i<l.length):l[i]=l.getD i 0:=by simp [List.getD,h]
section
variable {l:List Int}(h:BB l)(hl:l.length≤4000000)
include h hl
theorem aW1(t2:aC): ∀(m K i a:Nat) (s:aC),K≤1000000→K<i+m→i≤K→a+5*(K-i)≤l.length→s.Graph.Edges.length≤1000000+i→
 rZ m (fU l) t2 s (a:Int) (K:Int) (i:Int)=some (⟨⟨s.Graph.Config,s.Graph.Hashes,s.Graph.Edges++dl (dE l) 5 a (K-i)⟩,s.Slots⟩,true)
 |0,K,i,a,s,_,hm,hi,_,_=>by omega
 |m+1,K,i,a,s,hb,hm,hi,ha,hs=>by
  show wI (rZ m) (fU l) t2 s (a:Int) (K:Int) (i:Int)=_;unfold wI
  by_cases c:i<K
  ·
   have e2:=aH3 h hl (a:=a) (k:=2) om om;have e3:=aH3 h hl (a:=a+2) (k:=2) om om;have e4:=aLv h (i:=a+4) om;have w2:IntKind.i64.wrap ((a:Int)+2)=((a+2:Nat):Int):=wr0 om om;have w4:IntKind.i64.wrap ((a:Int)+4)=((a+4:Nat):Int):=wr0 om om;have w5:IntKind.i64.wrap ((a:Int)+5)=((a+5:Nat):Int):=wr0 om om;obtain ⟨u,hu,hu'⟩:=aGh (aIl h a 2) (zD (l:=l) (a:=a) (k:=2) om);obtain ⟨v,hv,hv'⟩:=aGh (aIl h (a+2) 2) (zD (l:=l) (a:=a+2) (k:=2) om);have hb4:=h _ (List.getElem_mem (show a+4<l.length by omega));have e2':gT (fU l) (a:Int) 2=some (u:Int):=by rw [←hu];exact e2
   have e3':gT (fU l) ((a+2:Nat):Int) 2=some (v:Int):=by rw [←hv];exact e3
   rw [bt (by simpa using c),e2',aA,w2,e3',aA,w4,e4,aA,gG (by simp;omega),aA,w5,wr1 i om];rw [wr0 (n:=(u:Int)) om om,wr0 (n:=(v:Int)) om om,wr0 (n:=l[a+4]) om om];rw [aW1 _ m K (i+1) (a+5) _ hb om c om (by simp;omega)];rw [show K-i=(K-(i+1))+1 by omega];simp only [dl,dE,hu,hv,List.append_assoc,List.singleton_append,getD_get (show a+4<l.length by omega)]
  · rw [bf (by simpa using c),show K-i=0 by omega];simp [dl]
theorem aW0(t2:aC){rest:Int}{K:Nat}(hK:IntKind.i64.wrap (Int.tdiv rest 5)=(K:Int))(hK':K≤1000000): ∀(m M i a:Nat) (s:aC),M≤1000000→M<i+m→i≤M→a+9*(M-i)+4+5*K≤l.length→s.Slots.length≤1000000+i→
 rY m (fU l) t2 s rest (a:Int) (M:Int) (i:Int)=some (⟨⟨s.Graph.Config,s.Graph.Hashes,dl (dE l) 5 (a+9*(M-i)+4) K⟩,s.Slots++dl (dS l) 9 a (M-i)⟩,true)
 |0,M,i,a,s,_,hm,hi,_,_=>by omega
 |m+1,M,i,a,s,hM,hm,hi,ha,hs=>by
  have hFU:=FU';show wH (rY m) (fU l) t2 s rest (a:Int) (M:Int) (i:Int)=_;unfold wH
  by_cases c:i<M
  · have e1:=aLv h (i:=a) om;have e2:=aH3 h hl (a:=a+1) (k:=8) om om;have w1:IntKind.i64.wrap ((a:Int)+1)=((a+1:Nat):Int):=wr1 a om;have w9:IntKind.i64.wrap ((a:Int)+9)=((a+9:Nat):Int):=wr0 om om;have e2':gT (fU l) ((a+1:Nat):Int) 8=some (ub (cut l (a+1) 8)):=e2;rw [bt (by simpa using c),e1,aA,w1,e2',aA,gG (by simp;omega),aA,w9,wr1 i om];rw [aW0 _ hK hK' m M (i+1) (a+9) _ hM om c om (by simp;omega)];rw [show M-i=(M-(i+1))+1 by omega,show a+9+9*(M-(i+1))+4=a+9*(M-(i+1)+1)+4 by omega];simp only [dl,dS,List.append_assoc,List.singleton_append,getD_get (show a<l.length by omega)]
  · have w4:IntKind.i64.wrap ((a:Int)+4)=((a+4:Nat):Int):=wr0 om om;have:=aW1 h hl (aC.mk (aJ.mk t2.Graph.Config [] []) []) aY K 0 (a+4) (aC.mk (aJ.mk s.Graph.Config s.Graph.Hashes []) s.Slots) hK' om (Nat.zero_le _) om (by simp);rw [bf (by simpa using c),w4,hK,show ((0:Int))=((0:Nat):Int) from rfl];refine this.trans ?_;rw [show M-i=0 by omega];simp [dl]
theorem aVz(t2:aC){rest:Int}{K M:Nat}{c:aX}(hc:c.N=(M:Int))(hK:IntKind.i64.wrap (Int.tdiv rest 5)=(K:Int))(hK':K≤1000000)(hM:M≤1000000): ∀(m H i a:Nat) (s:aC),H≤1000000→H<i+m→i≤H→a+16*(H-i)+9*M+4+5*K≤l.length→s.Graph.Hashes.length≤1000000+i→
 rX m (fU l) t2 s c rest (a:Int) (H:Int) (i:Int)=some (⟨⟨s.Graph.Config,s.Graph.Hashes++dl (dH l) 16 a (H-i),dl (dE l) 5 (a+16*(H-i)+9*M+4) K⟩,dl (dS l) 9 (a+16*(H-i)) M⟩,true)
 |0,H,i,a,s,_,hm,hi,_,_=>by omega
 |m+1,H,i,a,s,hH,hm,hi,ha,hs=>by
  have hFU:=FU';show wG (rX m) (fU l) t2 s c rest (a:Int) (H:Int) (i:Int)=_;unfold wG
  by_cases cc:i<H
  · have e1:=aH3 h hl (a:=a) (k:=8) om om;have e2:=aH3 h hl (a:=a+8) (k:=8) om om;have w8:IntKind.i64.wrap ((a:Int)+8)=((a+8:Nat):Int):=wr0 om om;have w16:IntKind.i64.wrap ((a:Int)+16)=((a+16:Nat):Int):=wr0 om om;have e1':gT (fU l) (a:Int) 8=some (ub (cut l a 8)):=e1;have e2':gT (fU l) ((a+8:Nat):Int) 8=some (ub (cut l (a+8) 8)):=e2;rw [bt (by simpa using cc),e1',aA,w8,e2',aA,gG (by simp;omega),aA,w16,wr1 i om];rw [aVz _ hc hK hK' hM m H (i+1) (a+16) _ hH om cc om (by simp;omega)];rw [show H-i=(H-(i+1))+1 by omega,show a+16+16*(H-(i+1))=a+16*(H-(i+1)+1) by omega];simp only [dl,dH,List.append_assoc,List.singleton_append]
  · have:=aW0 h hl (aC.mk (aJ.mk t2.Graph.Config [] []) []) hK hK' aY M 0 a (aC.mk (aJ.mk s.Graph.Config s.Graph.Hashes []) []) hM om (Nat.zero_le _) om (by simp);rw [bf (by simpa using cc),hc,show ((0:Int))=((0:Nat):Int) from rfl];refine this.trans ?_;rw [show H-i=0 by omega];simp [dl]
end
structure Pk(l:List Int)(N L R K:Nat):Prop where
  n:ub (cut l 4 2)=N
  ll:ub (cut l 6 2)=L
  r:ub (cut l 8 2)=R
  lim:N≤1024∧L≤16∧R≤8
  len:l.length=10+L*R*16+N*9+4+8+5*K
  k:ub (cut l (10+L*R*16+N*9) 4)=K
def dec(l:List Int)(N L R K:Nat):aC:=⟨⟨⟨N,L,R⟩,dl (dH l) 16 10 (L*R),dl (dE l) 5 (10+16*(L*R)+9*N+4) K⟩,dl (dS l) 9 (10+16*(L*R)) N⟩
def z0:aC:=aC.mk (aJ.mk (aX.mk 0 0 0) [] []) []
theorem aN8{l:List Int}(h:BB l)(hl:l.length≤4000000):(∃N L R K,Pk l N L R K∧oA (fU l)=some (dec l N L R K,true))∨
 (¬ ∃N L R K,Pk l N L R K)∧oA (fU l)=some (z0,false):=by
 have hFU:=FU';unfold oA;rw [rM]
 by_cases h10:l.length<10
 · exact .inr ⟨fun ⟨N,L,R,K,p⟩=>by have:=p.len;omega,by rw [bt (by simp;omega)];rfl⟩
 obtain ⟨N,hN,hN'⟩:=aGh (aIl h 4 2) (zD (l:=l) (a:=4) (k:=2) om);obtain ⟨L,hL,hL'⟩:=aGh (aIl h 6 2) (zD (l:=l) (a:=6) (k:=2) om);obtain ⟨R,hR,hR'⟩:=aGh (aIl h 8 2) (zD (l:=l) (a:=8) (k:=2) om);have g1:gT (fU l) 4 2=some (N:Int):=by rw [←hN];exact aH3 h hl (a:=4) (k:=2) om om
 have g2:gT (fU l) 6 2=some (L:Int):=by rw [←hL];exact aH3 h hl (a:=6) (k:=2) om om
 have g3:gT (fU l) 8 2=some (R:Int):=by rw [←hR];exact aH3 h hl (a:=8) (k:=2) om om
 have wN:IntKind.i64.wrap (N:Int)=N:=wr0 om om;have wL:IntKind.i64.wrap (L:Int)=L:=wr0 om om;have wR:IntKind.i64.wrap (R:Int)=R:=wr0 om om;rw [bf (by simp;omega),g1,aA,g2,aA,g3,aA,wN,wL,wR]
 have un: ∀ {N' L' R' K':Nat},Pk l N' L' R' K'→N'=N∧L'=L∧R'=R:=fun p=>by
  have a:=p.n;have b:=p.ll;have c:=p.r;rw [hN] at a;rw [hL] at b;rw [hR] at c;omega
 by_cases lim:N≤1024∧L≤16∧R≤8
 rotate_left
 ·
  refine .inr ⟨fun ⟨N',L',R',K',p⟩=>?_,?_⟩
  · obtain ⟨rfl,rfl,rfl⟩:=un p;exact lim p.lim
  · rw [bt (by simp;omega)];rfl
 rw [bf (by simp;omega)];have hP:L*R≤128:=Nat.mul_le_mul lim.2.1 lim.2.2;have e1:IntKind.i64.wrap ((L:Int)*(R:Int))=((L*R:Nat):Int):=by rw [←Int.natCast_mul];exact wr0 om om
 rw [e1]
 have un': ∀ {N' L' R' K':Nat},Pk l N' L' R' K'→l.length=10+L*R*16+N*9+4+8+5*K'∧ub (cut l (10+L*R*16+N*9) 4)=K':=fun p=>by
  obtain ⟨rfl,rfl,rfl⟩:=un p;exact ⟨p.len,p.k⟩
 have mk: ∀K:Nat,l.length=10+L*R*16+N*9+4+8+5*K→ub (cut l (10+L*R*16+N*9) 4)=K→Pk l N L R K:=fun K a b=>⟨hN,hL,hR,lim,a,b⟩
 have hdec: ∀K,dec l N L R K=⟨⟨⟨N,L,R⟩,dl (dH l) 16 10 (L*R),dl (dE l) 5 (10+16*(L*R)+9*N+4) K⟩,dl (dS l) 9 (10+16*(L*R)) N⟩:=fun _=>rfl;generalize L*R=P at*
 rw [wr0 (n:=((P:Nat):Int)*16) om om,wr0 (n:=10+((P:Nat):Int)*16) om om,wr0 (n:=(N:Int)*9) om om,wr0 (n:=10+((P:Nat):Int)*16+(N:Int)*9) om om,wr0 (n:=10+((P:Nat):Int)*16+(N:Int)*9+4) om om,
  wr0 (n:=10+((P:Nat):Int)*16+(N:Int)*9+4+8) om om,wr0 (n:=(l.length:Int)-(10+((P:Nat):Int)*16+(N:Int)*9+4)) om om,wr0 (n:=(l.length:Int)-(10+((P:Nat):Int)*16+(N:Int)*9+4)-8) om om,wr0 (n:=10+((P:Nat):Int)*16+(N:Int)*9+4-4) om om]
 by_cases h3:l.length<10+P*16+N*9+4+8
 ·
  refine .inr ⟨fun ⟨N',L',R',K',p⟩=>?_,?_⟩
  · have:=(un' p).1;omega
  · rw [bt (by simp;omega)];rfl
 rw [bf (by simp;omega)];obtain ⟨q,hq⟩: ∃q:Nat,l.length=10+P*16+N*9+4+8+q:=⟨l.length-(10+P*16+N*9+4+8),by omega⟩
 have er:(l.length:Int)-(10+((P:Nat):Int)*16+(N:Int)*9+4)-8=(q:Int):=by omega
 have ef:10+((P:Nat):Int)*16+(N:Int)*9+4-4=((10+P*16+N*9:Nat):Int):=by omega
 rw [er,ef,Int.tmod_eq_emod_of_nonneg om,Int.tdiv_eq_ediv_of_nonneg om];obtain ⟨k,hk,hk'⟩:=aGh (aIl h (10+P*16+N*9) 4) (zD (l:=l) (a:=10+P*16+N*9) (k:=4) om);have g4:gT (fU l) ((10+P*16+N*9:Nat):Int) 4=some (k:Int):=by rw [←hk];exact aH3 h hl (a:=10+P*16+N*9) (k:=4) om om
 by_cases h5:q%5=0
 rotate_left
 ·
  refine .inr ⟨fun ⟨N',L',R',K',p⟩=>?_,?_⟩
  · have:=(un' p).1;omega
  ·
   have hb:((((q:Int)%5) !=0))=true:=by simp;omega
   rw [hb];show ((some (0:Int)).bind _)=_;rw [aA,bt (by simp)];rfl
 have hb:((((q:Int)%5) !=0))=false:=by simp;omega
 rw [hb];have w5:IntKind.u64.wrap (IntKind.i64.wrap ((q:Int)/5))=((q/5:Nat):Int):=by rw [wr0 om om,uu om om];omega
 have w6:IntKind.i64.wrap (Int.tdiv (q:Int) 5)=((q/5:Nat):Int):=by rw [Int.tdiv_eq_ediv_of_nonneg om,wr0 om om];omega
 rw [show eJ (false==false) 0 (gT (fU l) ((10+P*16+N*9:Nat):Int) 4)=some (k:Int) from g4,aA,w5]
 by_cases h6:k=q/5
 rotate_left
 ·
  refine .inr ⟨fun ⟨N',L',R',K',p⟩=>?_,?_⟩
  · have a:=un' p;rw [hk] at a;omega
  · rw [bt (by simp;omega)];rfl
 refine .inl ⟨N,L,R,k,mk k om hk,?_⟩;rw [bf (by simp;omega),hdec];have:=aVz h hl (aC.mk (aJ.mk (aX.mk 0 0 0) [] []) []) (rest:=(q:Int)) (K:=q/5) (M:=N) (c:=⟨N,L,R⟩) rfl w6 om om aY P 0 10 (aC.mk (aJ.mk (aX.mk N L R) [] []) []) om om (Nat.zero_le _) om (by simp);refine this.trans ?_;subst h6;simp only [Nat.sub_zero,List.nil_append]
theorem bEx{l:List Int}(h:BB l)(hl:l.length≤4000000){N L R K:Nat}(p:Pk l N L R K):oA (fU l)=some (dec l N L R K,true):=by
 rcases aN8 h hl with ⟨N',L',R',K',p',e⟩|⟨hn,_⟩
 ·
  have a:=p.n;have b:=p.ll;have c:=p.r;rw [p'.n] at a;rw [p'.ll] at b;rw [p'.r] at c;obtain rfl:N'=N:=by omega
  obtain rfl:L'=L:=by omega
  obtain rfl:R'=R:=by omega
  obtain rfl:K'=K:=by have:=p.len;have:=p'.len;omega
  exact e
 · exact absurd ⟨N,L,R,K,p⟩ hn
open Go Go.AM Go.Pl Go.Pt Go.Ix
theorem aS1{a m c:List Int}{i k:Nat}(hi:a.length=i)(hk:m.length=k):cut (a++(m++c)) i k=m:=by
 subst hi hk;simp [cut]
theorem aMq{a m m' c:List Int}{i k:Nat}(hi:a.length+m.length=i)(hk:m'.length=k):cut (a++(m++(m'++c))) i k=m':=by
 rw [←List.append_assoc];exact aS1 (by simp [hi]) hk
theorem bG1{α:Type}{g:α→List Int}{w:Nat}(hg: ∀x,(g x).length=w){f:List Int→Nat→α} : ∀(xs:List α) (pre post:List Int) (a:Nat),pre.length=a→(∀x,x∈xs→ ∀p q:List Int,f (p++(g x++q)) p.length=x)→
 dl (f (pre++(xs.flatMap g++post))) w a xs.length=xs
 |[],pre,post,a,ha,hf=>rfl
 |x::xs,pre,post,a,ha,hf=>by
  have e:pre++((x::xs).flatMap g++post)=(pre++g x)++(xs.flatMap g++post):=by simp [List.flatMap_cons]
  simp only [List.length_cons,dl];congr 1
  · rw [List.flatMap_cons,List.append_assoc,←ha];exact hf x (by simp) pre _
  · rw [e];exact bG1 hg xs (pre++g x) post (a+w) (by simp [ha,hg]) fun y hy=>hf y (by simp [hy])
theorem bZ4{x:cI}(hA:0≤x.A∧x.A<18446744073709551616)(hB:0≤x.B∧x.B<18446744073709551616)(p q:List Int):dH (p++(lh x++q)) p.length=x:=by
 unfold dH lh;rw [List.append_assoc,aS1 rfl (iQ _ _),aMq (by rw [iQ]) (iQ _ _),aL6 8 hA.1 hA.2,aL6 8 hB.1 hB.2]
theorem getD_at{a m:List Int}{x:Int}{i:Nat}(hi:a.length=i):(a++(x::m)).getD i 0=x:=by
 subst hi;simp [List.getD]
theorem bZ5{x:aN}(hK:0≤x.Key∧x.Key<18446744073709551616)(p q:List Int):dS (p++(ls x++q)) p.length=x:=by
 unfold dS ls;rw [List.append_assoc,aMq (by rw [iQ]) (iQ _ _),aL6 8 hK.1 hK.2];simp only [lb,List.singleton_append,List.cons_append,List.nil_append];rw [getD_at rfl]
 cases x with
 |mk u k=>cases u<;>rfl
theorem bZ3{x:aE}(hU:0≤x.U∧x.U<65536)(hV:0≤x.V∧x.V<65536)(hT:0≤x.Tier∧x.Tier<256)(p q:List Int):dE (p++(lE x++q)) p.length=x:=by
 unfold dE lE;rw [List.append_assoc,List.append_assoc,aS1 rfl (iQ _ _),aMq (by rw [iQ]) (iQ _ _),aL6 2 hU.1 hU.2,aL6 2 hV.1 hV.2];have e:p++(lb x.U 2++(lb x.V 2++(lb x.Tier 1++q)))=(p++lb x.U 2++lb x.V 2)++(x.Tier%256::q):=by simp [lb]
 rw [e,getD_at (by simp [iQ])]
 cases x with
 |mk u v t=>
  simp only at hT⊢;rw [Int.emod_eq_of_lt hT.1 hT.2]
section
variable {s:aC}(nb:NB s)(hS:(s.Slots.length:Int)=s.Graph.Config.N)(hH:(s.Graph.Hashes.length:Int)=s.Graph.Config.L*s.Graph.Config.R)(lim:s.Graph.Config.N≤1024∧s.Graph.Config.L≤16∧s.Graph.Config.R≤8)
include nb hS hH lim
omit nb hS hH lim in
theorem aK3:(bytesOf s).length=10+s.Graph.Hashes.length*16+s.Slots.length*9+4+8+5*s.Graph.Edges.length:=by
 unfold bytesOf body;simp only [List.length_append,iQ,aXn,aIq aXs,aIq aXu,aIq bO9];omega
theorem bMo:Pk (bytesOf s) s.Graph.Config.N.toNat s.Graph.Config.L.toNat s.Graph.Config.R.toNat s.Graph.Edges.length∧dec (bytesOf s) s.Graph.Config.N.toNat s.Graph.Config.L.toNat s.Graph.Config.R.toNat s.Graph.Edges.length=s:=by
 obtain ⟨c1,c2,c3,c4,c5,c6⟩:=nb.c
 have hLR:s.Graph.Config.L.toNat*s.Graph.Config.R.toNat=s.Graph.Hashes.length:=by
  have:((s.Graph.Config.L.toNat*s.Graph.Config.R.toNat:Nat):Int)=(s.Graph.Hashes.length:Int):=by rw [Int.natCast_mul,Int.toNat_of_nonneg c2,Int.toNat_of_nonneg c3,hH]
  omega
 have hN:s.Graph.Config.N.toNat=s.Slots.length:=by omega
 have ne:=nb.ne
 have eB:bytesOf s=[82,65,70,84]++(lb s.Graph.Config.N 2++(lb s.Graph.Config.L 2++(lb s.Graph.Config.R 2++(s.Graph.Hashes.flatMap lh++(s.Slots.flatMap ls++(lb s.Graph.Edges.length 4++(s.Graph.Edges.flatMap lE++lb ((bLh (body s) 1:Nat):Int) 8))))))):=by
  unfold bytesOf;rw [show body s=lc s.Graph.Config++s.Graph.Hashes.flatMap lh++s.Slots.flatMap ls++lb s.Graph.Edges.length 4++s.Graph.Edges.flatMap lE from rfl];simp only [lc,List.append_assoc]
 have l1:(s.Graph.Hashes.flatMap lh).length=s.Graph.Hashes.length*16:=aIq aXs _;have l2:(s.Slots.flatMap ls).length=s.Slots.length*9:=aIq aXu _;refine ⟨⟨?_,?_,?_,by omega,?_,?_⟩,?_⟩
 · rw [eB,aS1 (i:=4) (by simp) (iQ _ _),aL6 2 c1 om];omega
 · rw [eB,aMq (by simp [iQ]) (iQ _ _),aL6 2 c2 om];omega
 · rw [eB,←List.append_assoc,aMq (by simp [iQ]) (iQ _ _),aL6 2 c3 om];omega
 · rw [hLR,hN,aK3]
 · rw [hLR,hN,eB];simp only [←List.append_assoc];rw [List.append_assoc _ (s.Graph.Edges.flatMap lE),List.append_assoc _ (lb (s.Graph.Edges.length:Int) 4)];rw [aS1 (by simp [iQ,l1,l2];omega) (iQ _ _),aL6 4 om om]
 ·
  unfold dec;rw [hLR,hN]
  have d1:dl (dH (bytesOf s)) 16 10 s.Graph.Hashes.length=s.Graph.Hashes:=by
   rw [eB];simp only [←List.append_assoc];rw [List.append_assoc _ (s.Graph.Edges.flatMap lE),List.append_assoc _ (lb (s.Graph.Edges.length:Int) 4),List.append_assoc _ (s.Slots.flatMap ls),List.append_assoc _ (s.Graph.Hashes.flatMap lh)];exact bG1 aXs _ _ _ 10 (by simp [iQ]) fun x hx=>bZ4 (nb.h x hx).1 (nb.h x hx).2
  have d2:dl (dS (bytesOf s)) 9 (10+16*s.Graph.Hashes.length) s.Slots.length=s.Slots:=by
   rw [eB];simp only [←List.append_assoc];rw [List.append_assoc _ (s.Graph.Edges.flatMap lE),List.append_assoc _ (lb (s.Graph.Edges.length:Int) 4),List.append_assoc _ (s.Slots.flatMap ls)];exact bG1 aXu _ _ _ _ (by simp [iQ,l1];omega) fun x hx=>bZ5 (nb.k x hx)
  have d3:dl (dE (bytesOf s)) 5 (10+16*s.Graph.Hashes.length+9*s.Slots.length+4) s.Graph.Edges.length=s.Graph.Edges:=by
   rw [eB];simp only [←List.append_assoc];rw [List.append_assoc _ (s.Graph.Edges.flatMap lE)];exact bG1 bO9 _ _ _ _ (by simp [iQ,l1,l2];omega) fun x hx=>bZ3 (nb.e x hx).1 (nb.e x hx).2.1 (nb.e x hx).2.2
  rw [d1,d2,d3]
  cases s with
  |mk g sl=>
   cases g with
   |mk c h e=>
    cases c with
    |mk a b d=>
     simp only at hN c1 c2 c3 hS;simp only [Int.toNat_of_nonneg c2,Int.toNat_of_nonneg c3];rw [hS]
theorem aYg(hr:mP s=some true):mO (fU (bytesOf s))=some (s,0):=by
 obtain ⟨p,e⟩:=bMo nb hS hH lim;have hb:BB (bytesOf s):=(aWs s).app (mL _ _)
 have hl:(bytesOf s).length≤4000000:=by
  rw [aK3];have h1:=nb.nh;have h2:=nb.ns;have h3:=nb.ne;omega
 unfold mO;rw [bEx hb hl p,aA,e];show (bif false then _ else _)=_;rw [bf rfl,aNl nb hr,aA];show (bif ((0:Int) !=0)|| !decide (fU (bytesOf s)=fU (bytesOf s)) then _ else _)=_;rw [bf (by simp)]
end
theorem aX2{α:Type}{f:Nat→α}{w:Nat} : ∀ {k a:Nat} {x:α},x∈dl f w a k→ ∃j,j<k∧x=f (a+w*j)
 |0,a,x,h=>by simp [dl] at h
 |k+1,a,x,h=>by
  simp only [dl,List.mem_cons] at h;rcases h with rfl|h
  · exact ⟨0,by omega,rfl⟩
  · obtain ⟨j,hj,e⟩:=aX2 h;exact ⟨j+1,by omega,by rw [e];congr 1;rw [Nat.mul_add];omega⟩
theorem bC9{l:List Int}(h:BB l){a k:Nat}(hk:a+k≤l.length):0≤ub (cut l a k)∧ub (cut l a k)<256^k:=by
 have:=bHb (aIl h a k)
 rwa [zD hk] at this
theorem bWl{l:List Int}(h:BB l){N L R K:Nat}(p:Pk l N L R K)(hl:l.length≤10000):NB (dec l N L R K):=by
 have hP:L*R≤128:=Nat.mul_le_mul p.lim.2.1 p.lim.2.2;have len:=p.len;have lim:=p.lim;have e:L*R*16=16*(L*R):=Nat.mul_comm _ _;refine ⟨?_,fun x hx=>?_,fun x hx=>?_,fun x hx=>?_,?_,?_,?_⟩
 · show 0≤(N:Int)∧0≤(L:Int)∧0≤(R:Int)∧(N:Int)<65536∧(L:Int)<65536∧(R:Int)<65536;omega
 · obtain ⟨j,hj,rfl⟩:=aX2 (show x∈dl (dH l) 16 10 (L*R) from hx);exact ⟨bC9 h (k:=8) om,bC9 h (k:=8) om⟩
 · obtain ⟨j,hj,rfl⟩:=aX2 (show x∈dl (dS l) 9 (10+16*(L*R)) N from hx);exact bC9 h (k:=8) om
 ·
  obtain ⟨j,hj,rfl⟩:=aX2 (show x∈dl (dE l) 5 (10+16*(L*R)+9*N+4) K from hx);have hlt:10+16*(L*R)+9*N+4+5*j+4<l.length:=by omega
  have:=h _ (List.getElem_mem hlt);rw [getD_get hlt] at this;exact ⟨bC9 h (k:=2) om,bC9 h (k:=2) om,this⟩
 · show (dl (dH l) 16 10 (L*R)).length≤1000;rw [aOh];omega
 · show (dl (dS l) 9 (10+16*(L*R)) N).length≤2000;rw [aOh];omega
 · show (dl (dE l) 5 (10+16*(L*R)+9*N+4) K).length≤10000;rw [aOh];omega
theorem bBj{b:ByteArray}(hb:b.size≤4000):mO b=some (z0,12)∨ ∃s,mO b=some (s,0)∧NB s∧SOK s∧s.Slots.length≤443∧s.Graph.Edges.length≤800∧b=fU (bytesOf s):=by
 have hB:=bWj b;have hl:(byl b).length≤4000:=by rw [bRm];exact hb
 unfold mO;rw [←bMk b];generalize byl b=l at hB hl;rcases aN8 hB om with ⟨N,L,R,K,p,e⟩|⟨_,e⟩
 rotate_left
 · left;rw [e,aA];rfl
 rw [e,aA];have nb:=bWl hB p om;have len:=p.len;have e1:(dec l N L R K).Slots.length=N:=aOh _ _ _ _;have e2:(dec l N L R K).Graph.Edges.length=K:=aOh _ _ _ _;have e3:(dec l N L R K).Graph.Hashes.length≤1000:=nb.nh;obtain ⟨q,q1,q2⟩:=aNs (s:=dec l N L R K) om om om
 cases q with
 |false=>
  left;show (bif false then _ else (oL (dec l N L R K)).bind _)=_;unfold oL;rw [bf rfl,q1,aA];rfl
 |true=>
  by_cases c:fU (bytesOf (dec l N L R K))=fU l
  · refine .inr ⟨dec l N L R K,?_,nb,q2.1 rfl,by omega,by omega,c.symm⟩;show (bif false then _ else (oL (dec l N L R K)).bind _)=_;rw [bf rfl,aNl nb q1,aA];show (bif ((0:Int) !=0)|| !decide (fU (bytesOf (dec l N L R K))=fU l) then _ else _)=_;rw [bf (by simp [c])]
  · left;show (bif false then _ else (oL (dec l N L R K)).bind _)=_;rw [bf rfl,aNl nb q1,aA];show (bif ((0:Int) !=0)|| !decide (fU (bytesOf (dec l N L R K))=fU l) then _ else _)=_;rw [bt (by simp [c])];rfl
open Go Go.AM Go.Pl
def Tot{α:Type}(o:Option α)(P:α→Prop):Prop:= ∃x,o=some x∧P x
section
variable {α β:Type}{P:α→Prop}{Q:β→Prop}
theorem tS{x:α}(h:P x):Tot (some x) P:=⟨x,rfl,h⟩
theorem tB{o:Option α}{f:α→Option β}(h:Tot o P)(k: ∀x,P x→Tot (f x) Q):Tot (o.bind f) Q:=by
 obtain ⟨x,rfl,hx⟩:=h;exact k x hx
theorem tC{b:Bool}{x y:Option α}(h:b=true→Tot x P)(k:b=false→Tot y P):Tot (bif b then x else y) P:=by cases b;exact k rfl;exact h rfl
theorem tG{b:Bool}{d:α}{o:Option α}{f:α→Option β}(h:b=true→Tot o (fun _=>True))(k: ∀x,Tot (f x) Q):Tot ((eJ b d o).bind f) Q:=by
 cases b with
 |false=>exact k d
 |true=>obtain ⟨x,e,_⟩:=h rfl;subst e;exact k x
theorem tI{l:List α}{i:Int}{f:α→Option β}(h:0≤i∧i<l.length)(k: ∀x,Tot (f x) Q):Tot ((idx l i).bind f) Q:=by
 have:idx l i=some (l[i.toNat]'(by omega)):=by unfold idx;rw [if_pos h.1,List.getElem?_eq_getElem]
 rw [this];exact k _
theorem tI'{l:List α}{i:Int}(h:0≤i∧i<l.length):Tot (idx l i) (fun _=>True):=
 ⟨l[i.toNat]'(by omega),by unfold idx;rw [if_pos h.1,List.getElem?_eq_getElem],trivial⟩
theorem tT{l:List α}{i:Int}{x:α}{f:List α→Option β}(h:0≤i∧i<l.length)(k: ∀l':List α,l'.length=l.length→Tot (f l') Q):Tot ((stt l i x).bind f) Q:=by
 have:stt l i x=some (l.set i.toNat x):=by unfold stt;rw [if_pos h]
 rw [this];exact k _ (by simp)
end
end Go.Proofs.YtkdohhmacfoolaaGreatDoor
