/- Facts. No condition. -/
import Derived.Test.YtkdohhmacfoolaaGreatNqIxH
set_option linter.unusedVariables false
set_option linter.unusedSimpArgs false
set_option maxRecDepth 20000
set_option maxHeartbeats 1000000
namespace Go.Proofs.YtkdohhmacfoolaaGreat
open Go Go.AM Go.Pl Go.Pt Go.Ix
def BB(l:List Int):Prop:= ∀x,x∈l→0≤x∧x<256
theorem BB.app{a b:List Int}(ha:BB a)(hb:BB b):BB (a++b):=fun x hx=>(List.mem_append.mp hx).elim (ha x) (hb x)
theorem BB.nil:BB []:=fun x hx=>by cases hx
theorem BB.fm{α:Type}{l:List α}{f:α→List Int}(h: ∀x,x∈l→BB (f x)):BB (l.flatMap f):=fun y hy=>by
 obtain ⟨x,hx,hy⟩:=List.mem_flatMap.1 hy;exact h x hx y hy
theorem aP7(a:List Int):(qG a).size=a.length:=by simp [qG,ByteArray.size]
theorem aZ3{l:List Int}(h:BB l){i:Nat}(hi:i<l.length):aTw (qG l) (i:Int)=some l[i]:=by
 unfold aTw;rw [aP7,if_pos om];unfold aSo qG;have:=h l[i] (List.getElem_mem hi);simp [List.getD,hi,UInt8.toNat_ofNat'];omega
def lb(n:Int):Nat→List Int
  |0=>[]
  |k+1=>n%256::lb (n/256) k
theorem mR: ∀(n:Int) (k:Nat),(lb n k).length=k
 |n,0=>rfl
 |n,k+1=>by unfold lb;rw [List.length_cons,mR (n/256) k]
theorem rP: ∀(n:Int) (k:Nat),BB (lb n k)
 |n,0=>BB.nil
 |n,k+1=>fun x hx=>by
  unfold lb at hx;rcases List.mem_cons.1 hx with rfl|hx
  · omega
  · exact rP _ k x hx
theorem cFu{n:Int}(h:0≤n):shr .u64 n 8=n/256:=by
 obtain ⟨a,rfl⟩:=Int.eq_ofNat_of_zero_le h;have:=bGe a 8 (by decide);rw [show ((8:Nat):Int)=8 from rfl] at this;rw [this];omega
theorem u8w(n:Int):IntKind.u8.wrap n=n%256:=IntKind.wrap_u8 n
theorem bUe: ∀(m i k:Nat) (b:List Int) (n:Int),k<i+m→i≤k→k≤1000→0≤n→b.length+k≤4000000+i→aCl m b n (k:Int) (i:Int)=some (b++lb n (k-i))
 |0,i,k,b,n,hm,hi,_,_,_=>by omega
 |m+1,i,k,b,n,hm,hi,hk,hn,hb=>by
  show (bif decide ((i:Int)<(k:Int)) then ((app b [IntKind.u8.wrap n]).bind fun x=>aCl m x (shr .u64 n 8) (k:Int) (IntKind.i64.wrap ((i:Int)+1))) else some b)=_
  by_cases c:i<k
  · rw [bt (by simpa using c),mM (by simp;omega),aA,u8w,cFu hn,wr1 i om,bUe m (i+1) k _ _ om c hk om (by simp;omega)];rw [show k-i=(k-(i+1))+1 by omega,List.append_assoc];rfl
  · rw [bf (by simpa using c),show k-i=0 by omega];simp [lb]
theorem put_eq{b:List Int}{n:Int}(hn:0≤n)(hb:b.length≤1000000){k:Nat}(hk:k≤1000):qE b n (k:Int)=some (b++lb n k):=by
 have hFU:=FU';exact bUe aZ 0 k b n om (Nat.zero_le _) hk hn om
def smN(n:Nat)(x:Int):Nat:=(n%2305843009213693951*(257%2305843009213693951)%2305843009213693951%2305843009213693951+(x.toNat+1)%2305843009213693951)%2305843009213693951
def bM1(l:List Int)(n:Nat):Nat:=l.foldl smN n
theorem bX2{x:Int}(h:0≤x∧x<256):IntKind.u64.wrap (IntKind.u64.wrap x+1)=((x.toNat+1:Nat):Int):=by rw [wu,wu];omega
theorem bUk{l:List Int}(h:BB l)(hl:l.length≤4000000): ∀(m i n:Nat),l.length<i+m→i≤l.length→aFk m (qG l) (n:Int) (i:Int)=some ((bM1 (l.drop i) n:Nat):Int)
 |0,i,n,hm,hi=>by omega
 |m+1,i,n,hm,hi=>by
  show aN1 (aFk m) _ _ _=_;unfold aN1;rw [aP7]
  by_cases c:i<l.length
  · have e:(257:Int)=((257:Nat):Int):=rfl;rw [bt (by simpa using c),e,bHw,aA,aZ3 h c,aA,bX2 (h _ (List.getElem_mem c))];unfold aHe aEa;rw [aA,aA,addN,aA,wr1 i om,bUk h hl m (i+1) _ om c,fC c];rfl
  · rw [bf (by simpa using c),List.drop_eq_nil_of_le om];rfl
theorem bWg{l:List Int}(h:BB l)(hl:l.length≤4000000):aLe (qG l)=some ((bM1 l 1:Nat):Int):=by
 have hFU:=FU';exact bUk h hl aZ 0 1 om (Nat.zero_le _)
def lh(h:dI):List Int:=lb h.A 8++lb h.B 8
def ls(x:aR):List Int:=lb (if x.Used then 1 else 0) 1++lb x.Key 8
def lE(e:aH):List Int:=lb e.U 2++lb e.V 2++lb e.Tier 1
def lc(c:bZ):List Int:=[82,65,70,84]++lb c.N 2++lb c.L 2++lb c.R 2
def body(s:aF):List Int:=lc s.Graph.Config++s.Graph.Hashes.flatMap lh++s.Slots.flatMap ls++lb s.Graph.Edges.length 4++s.Graph.Edges.flatMap lE
def bytesOf(s:aF):List Int:=body s++lb ((bM1 (body s) 1:Nat):Int) 8
theorem aK0{α:Type}{f:α→List Int}{k:Nat}(h: ∀x,(f x).length=k): ∀l:List α,(l.flatMap f).length=l.length*k
 |[]=>by simp
 |x::l=>by rw [List.flatMap_cons,List.length_append,h,aK0 h l,List.length_cons,Nat.succ_mul];omega
theorem aY9(h:dI):(lh h).length=16:=by unfold lh;simp [mR]
theorem aYb(x:aR):(ls x).length=9:=by unfold ls;simp [mR]
theorem bOc(e:aH):(lE e).length=5:=by unfold lE;simp [mR]
theorem aY3(c:bZ):(lc c).length=10:=by unfold lc;simp [mR]
theorem bQl(s:aF):BB (body s):=by
 unfold body lc;have h0:BB [82,65,70,84]:=by intro x hx;simp at hx;omega
 exact ((((((h0.app (rP _ _)).app (rP _ _)).app (rP _ _)).app (BB.fm fun _ _=>(rP _ _).app (rP _ _))).app (BB.fm fun _ _=>(rP _ _).app (rP _ _))).app (rP _ _)).app (BB.fm fun _ _=>((rP _ _).app (rP _ _)).app (rP _ _))
structure NB(s:aF):Prop where
  c:0≤s.Graph.Config.N∧0≤s.Graph.Config.L∧0≤s.Graph.Config.R∧s.Graph.Config.N<65536∧s.Graph.Config.L<65536∧s.Graph.Config.R<65536
  h: ∀x,x∈s.Graph.Hashes→(0≤x.A∧x.A<18446744073709551616)∧0≤x.B∧x.B<18446744073709551616
  k: ∀x,x∈s.Slots→0≤x.Key∧x.Key<18446744073709551616
  e: ∀x,x∈s.Graph.Edges→(0≤x.U∧x.U<65536)∧(0≤x.V∧x.V<65536)∧0≤x.Tier∧x.Tier<256
  nh:s.Graph.Hashes.length≤1000
  ns:s.Slots.length≤2000
  ne:s.Graph.Edges.length≤10000
theorem uu{n:Int}(h:0≤n)(h':n<18446744073709551616):IntKind.u64.wrap n=n:=by rw [wu];omega
section
variable {s:aF}(nb:NB s)
include nb
theorem bIc: ∀(m i:Nat) (b:List Int),s.Graph.Edges.length<i+m→i≤s.Graph.Edges.length→b.length≤100000+5*i→BB b→
 aAn m b s.Graph.Edges (s.Graph.Edges.length:Int) (i:Int)=some (qG ((b++(s.Graph.Edges.drop i).flatMap lE)++lb ((bM1 (b++(s.Graph.Edges.drop i).flatMap lE) 1:Nat):Int) 8),0)
 |0,i,b,hm,hi,_,_=>by omega
 |m+1,i,b,hm,hi,hb,bb=>by
  have hE:=nb.ne;show aKv (aAn m) _ _ _ _=_;unfold aKv
  by_cases c:i<s.Graph.Edges.length
  · have q:=nb.e _ (List.getElem_mem c);rw [bt (by simpa using c),eC c,aA,uu q.1.1 om,uu q.2.1.1 om,uu q.2.2.1 om];have p1:=put_eq (b:=b) q.1.1 om (k:=2) (by decide);have p2:=put_eq (b:=b++lb s.Graph.Edges[i].U 2) q.2.1.1 (by simp [mR];omega) (k:=2) (by decide);have p3:=put_eq (b:=b++lb s.Graph.Edges[i].U 2++lb s.Graph.Edges[i].V 2) q.2.2.1 (by simp [mR];omega) (k:=1) (by decide);rw [show ((2:Nat):Int)=2 from rfl] at p1 p2;rw [show ((1:Nat):Int)=1 from rfl] at p3;rw [p1,aA,p2,aA,p3,aA,wr1 i om,bIc m (i+1) _ om c (by simp [mR];omega) (((bb.app (rP _ _)).app (rP _ _)).app (rP _ _)),fC c,List.flatMap_cons];simp only [lE,List.append_assoc]
  · rw [bf (by simpa using c),List.drop_eq_nil_of_le om,List.flatMap_nil,List.append_nil,bWg bb om,aA];have p1:=put_eq (b:=b) (n:=((bM1 b 1:Nat):Int)) om om (k:=8) (by decide);rw [show ((8:Nat):Int)=8 from rfl] at p1;rw [p1,aA]
theorem aYy: ∀(m i:Nat) (b:List Int),s.Slots.length<i+m→i≤s.Slots.length→b.length≤50000+9*i→BB b→
 rH m s b s.Slots (s.Slots.length:Int) (i:Int)=aAn aZ (b++(s.Slots.drop i).flatMap ls++lb s.Graph.Edges.length 4) s.Graph.Edges (s.Graph.Edges.length:Int) 0
 |0,i,b,hm,hi,_,_=>by omega
 |m+1,i,b,hm,hi,hb,bb=>by
  have hE:=nb.ns;have hE':=nb.ne;show aKu (rH m) _ _ _ _ _=_;unfold aKu
  by_cases c:i<s.Slots.length
  ·
   have q:=nb.k _ (List.getElem_mem c);rw [bt (by simpa using c),eC c,aA]
   have one: ∀u:Int,0≤u→aDj (rH m) s b s.Slots[i] u s.Slots (s.Slots.length:Int) (i:Int)=rH m s (b++lb u 1++lb s.Slots[i].Key 8) s.Slots (s.Slots.length:Int) ((i+1:Nat):Int):=fun u hu=>by
    unfold aDj aKw;have p1:=put_eq (b:=b) hu om (k:=1) (by decide);have p2:=put_eq (b:=b++lb u 1) q.1 (by simp [mR];omega) (k:=8) (by decide);rw [show ((1:Nat):Int)=1 from rfl] at p1;rw [show ((8:Nat):Int)=8 from rfl] at p2;rw [p1,aA,p2,aA,wr1 i om]
   cases u:s.Slots[i].Used with
   |true=>
    rw [bt (by rfl),one 1 (by decide),aYy m (i+1) _ om c (by simp [mR];omega) ((bb.app (rP _ _)).app (rP _ _)),fC c,List.flatMap_cons];simp only [ls,u,if_true,List.append_assoc]
   |false=>
    rw [bf (by rfl),one 0 (by decide),aYy m (i+1) _ om c (by simp [mR];omega) ((bb.app (rP _ _)).app (rP _ _)),fC c,List.flatMap_cons];simp only [ls,u,List.append_assoc];rfl
  · rw [bf (by simpa using c),List.drop_eq_nil_of_le om,List.flatMap_nil,List.append_nil,uu om om];have p1:=put_eq (b:=b) (n:=(s.Graph.Edges.length:Int)) om om (k:=4) (by decide);rw [show ((4:Nat):Int)=4 from rfl] at p1;rw [p1,aA]
theorem bIb: ∀(m i:Nat) (b:List Int),s.Graph.Hashes.length<i+m→i≤s.Graph.Hashes.length→b.length≤1000+16*i→BB b→
 xB m s b s.Graph.Hashes (s.Graph.Hashes.length:Int) (i:Int)=rH aZ s (b++(s.Graph.Hashes.drop i).flatMap lh) s.Slots (s.Slots.length:Int) 0
 |0,i,b,hm,hi,_,_=>by omega
 |m+1,i,b,hm,hi,hb,bb=>by
  have hE:=nb.nh;show aKt (xB m) _ _ _ _ _=_;unfold aKt
  by_cases c:i<s.Graph.Hashes.length
  · have q:=nb.h _ (List.getElem_mem c);rw [bt (by simpa using c),eC c,aA];have p1:=put_eq (b:=b) q.1.1 om (k:=8) (by decide);have p2:=put_eq (b:=b++lb s.Graph.Hashes[i].A 8) q.2.1 (by simp [mR];omega) (k:=8) (by decide);rw [show ((8:Nat):Int)=8 from rfl] at p1 p2;rw [p1,aA,p2,aA,wr1 i om,bIb m (i+1) _ om c (by simp [mR];omega) ((bb.app (rP _ _)).app (rP _ _)),fC c,List.flatMap_cons];simp only [lh,List.append_assoc]
  · rw [bf (by simpa using c),List.drop_eq_nil_of_le om,List.flatMap_nil,List.append_nil]
theorem aOg(hr:pY s=some true):sR s=some (qG (bytesOf s),0):=by
 have hFU:=FU';have h1:=nb.nh;have h2:=nb.ns;have h3:=nb.ne;obtain ⟨c1,c2,c3,c4,c5,c6⟩:=nb.c;unfold sR;rw [hr,aA,bf (by rfl)]
 have key: ∀m,4≤m→sJ m s [82,65,70,84] [s.Graph.Config.N,s.Graph.Config.L,s.Graph.Config.R] (([s.Graph.Config.N,s.Graph.Config.L,s.Graph.Config.R]:List Int).length:Int) 0=xB aZ s (lc s.Graph.Config) s.Graph.Hashes (s.Graph.Hashes.length:Int) 0:=by
  intro m hm;obtain ⟨m,rfl⟩: ∃k,m=k+4:=⟨m-4,by omega⟩
  have p1:=put_eq (b:=[82,65,70,84]) c1 (by simp) (k:=2) (by decide);have p2:=put_eq (b:=[82,65,70,84]++lb s.Graph.Config.N 2) c2 (by simp [mR]) (k:=2) (by decide);have p3:=put_eq (b:=[82,65,70,84]++lb s.Graph.Config.N 2++lb s.Graph.Config.L 2) c3 (by simp [mR]) (k:=2) (by decide);rw [show ((2:Nat):Int)=2 from rfl] at p1 p2 p3
  have st: ∀(k:Nat) (b:List Int) (i:Nat) (x:Int),([s.Graph.Config.N,s.Graph.Config.L,s.Graph.Config.R]:List Int)[i]? =some x→0≤x→x<65536→qE b x 2=some (b++lb x 2)→
   sJ (k+1) s b [s.Graph.Config.N,s.Graph.Config.L,s.Graph.Config.R] (([s.Graph.Config.N,s.Graph.Config.L,s.Graph.Config.R]:List Int).length:Int) (i:Int)=sJ k s (b++lb x 2) [s.Graph.Config.N,s.Graph.Config.L,s.Graph.Config.R] (([s.Graph.Config.N,s.Graph.Config.L,s.Graph.Config.R]:List Int).length:Int) ((i+1:Nat):Int):=by
   intro k b i x hx h0 h1 hp;have hi:=(List.getElem?_eq_some_iff.1 hx).1;show aDi (sJ k) _ _ _ _ _=_;unfold aDi;rw [bt (by simp at hi ⊢; omega),qW,hx,aA,uu h0 om,hp,aA,wr1 i (by simp at hi;omega)]
  have e1:=st (m+3) [82,65,70,84] 0 _ rfl c1 c4 p1;have e2:=st (m+2) _ 1 _ rfl c2 c5 p2;have e3:=st (m+1) _ 2 _ rfl c3 c6 p3
  have e4:sJ (m+1) s (lc s.Graph.Config) [s.Graph.Config.N,s.Graph.Config.L,s.Graph.Config.R] (([s.Graph.Config.N,s.Graph.Config.L,s.Graph.Config.R]:List Int).length:Int) ((3:Nat):Int)=xB aZ s (lc s.Graph.Config) s.Graph.Hashes (s.Graph.Hashes.length:Int) 0:=by
   show aDi (sJ m) _ _ _ _ _=_;unfold aDi;rw [bf (by simp)]
  exact e1.trans (e2.trans (e3.trans e4))
 rw [key aZ om]
 have b0:BB (lc s.Graph.Config):=by
  have h0:BB [82,65,70,84]:=by intro x hx;simp at hx;omega
  exact ((h0.app (rP _ _)).app (rP _ _)).app (rP _ _)
 have b1:BB (lc s.Graph.Config++s.Graph.Hashes.flatMap lh):=b0.app (BB.fm fun _ _=>(rP _ _).app (rP _ _));have b2:BB (lc s.Graph.Config++s.Graph.Hashes.flatMap lh++s.Slots.flatMap ls++lb s.Graph.Edges.length 4):=(b1.app (BB.fm fun _ _=>(rP _ _).app (rP _ _))).app (rP _ _);have l1:=aK0 aY9 s.Graph.Hashes;have l2:=aK0 aYb s.Slots;have e2:=bIb nb aZ 0 (lc s.Graph.Config) om (Nat.zero_le _) (by rw [aY3];omega) b0;have e3:=aYy nb aZ 0 (lc s.Graph.Config++s.Graph.Hashes.flatMap lh) om (Nat.zero_le _) (by rw [List.length_append,aY3,l1];omega) b1;have e4:=bIc nb aZ 0 (lc s.Graph.Config++s.Graph.Hashes.flatMap lh++s.Slots.flatMap ls++lb s.Graph.Edges.length 4) om (Nat.zero_le _) (by rw [List.length_append,List.length_append,List.length_append,aY3,l1,l2,mR];omega) b2;simp only [List.drop_zero] at e2 e3 e4;exact e2.trans (e3.trans e4)
end
end Go.Proofs.YtkdohhmacfoolaaGreat
