/- Facts. No condition. -/
import Derived.Test.YtkdohhmacfoolaaGreatDoorObIxF
set_option linter.unusedVariables false
set_option linter.unusedSimpArgs false
set_option maxRecDepth 20000
set_option maxHeartbeats 1000000
namespace Go.Proofs.YtkdohhmacfoolaaGreatDoor
open Go Go.AM Go.Pl Go.Pt Go.Ix
def KU(m:aJ):Prop:= ∀x,x∈m.Keys→0≤x∧x<18446744073709551616
theorem cnd{β:Type}{c:Bool}{x y o:β}(h:(bif c then x else y)=o):(c=true∧x=o)∨(c=false∧y=o):=by
 cases c with
 |true=>exact .inl ⟨rfl,h⟩
 |false=>exact .inr ⟨rfl,h⟩
theorem aV1{α:Type}{l xs r:List α}(h:app l xs=some r):r=l++xs:=by
 unfold app at h;split at h
 · exact (Option.some.inj h).symm
 · cases h
theorem bEb{α:Type}{l r:List α}{a b:Int}(h:slc l a b=some r): ∀x,x∈r→x∈l:=by
 unfold slc at h;split at h
 · cases h;exact fun x hx=>List.mem_of_mem_drop (List.mem_of_mem_take hx)
 · cases h
theorem aY4{m k:aJ}{d a b f:Int}(h:gM m d a b=some (k,f)): ∀x,x∈k.Keys→x∈m.Keys∨x=a:=by
 have same: ∀ {f':Int},some (m,f')=some (k,f)→ ∀x,x∈k.Keys→x∈m.Keys∨x=a:=fun e x hx=>by
  have:=(Prod.mk.inj (Option.some.inj e)).1;subst this;exact .inl hx
 unfold gM at h;obtain ⟨x2,_,h⟩:=bnd h;rcases cnd h with ⟨_,h⟩|⟨_,h⟩
 ·
  rcases cnd h with ⟨_,h⟩|⟨_,h⟩
  · exact same h
  rcases cnd h with ⟨_,h⟩|⟨_,h⟩
  · exact same h
  obtain ⟨l4,h3,h⟩:=bnd h;obtain ⟨l6,h5,h⟩:=bnd h;cases h;intro x hx;rw [show (aJ.mk m.Most l6 m.Pairs).Keys=l6 from rfl,aV1 h5,aV1 h3,List.nil_append,List.mem_append] at hx;exact hx.imp id fun q=>by simpa using q
 ·
  obtain ⟨x8,_,h⟩:=bnd h;rcases cnd h with ⟨_,h⟩|⟨_,h⟩
  · exact same h
  rcases cnd h with ⟨_,h⟩|⟨_,h⟩
  ·
   obtain ⟨x10,_,h⟩:=bnd h;rcases cnd h with ⟨_,h⟩|⟨_,h⟩
   · exact same h
   obtain ⟨l12,g1,h⟩:=bnd h;obtain ⟨l14,g2,h⟩:=bnd h;obtain ⟨l16,g3,h⟩:=bnd h;obtain ⟨l18,g4,h⟩:=bnd h;cases h;intro x hx;rw [show (aJ.mk m.Most l18 m.Pairs).Keys=l18 from rfl,aV1 g4,aV1 g2,List.nil_append,List.mem_append] at hx;exact .inl (hx.elim (bEb g1 x) (bEb g3 x))
  ·
   obtain ⟨x20,_,h⟩:=bnd h;obtain ⟨x22,_,h⟩:=bnd h;rcases cnd h with ⟨_,h⟩|⟨_,h⟩
   ·
    rcases cnd h with ⟨_,h⟩|⟨_,h⟩
    · exact same h
    obtain ⟨_,_,h⟩:=bnd h;obtain ⟨_,_,h⟩:=bnd h;obtain ⟨_,_,h⟩:=bnd h;obtain ⟨_,_,h⟩:=bnd h;cases h;exact fun x hx=> .inl hx
   ·
    rcases cnd h with ⟨_,h⟩|⟨_,h⟩
    · exact same h
    rcases cnd h with ⟨_,h⟩|⟨_,h⟩
    · exact same h
    obtain ⟨_,_,h⟩:=bnd h;obtain ⟨_,_,h⟩:=bnd h;cases h;exact fun x hx=> .inl hx
theorem KU.change{m k:aJ}{d a b f:Int}(hk:KU m)(ha:0≤a∧a<18446744073709551616)(h:gM m d a b=some (k,f)):KU k:=fun x hx=>
 (aY4 h x hx).elim (hk x) fun e=>e▸ha
section
variable {c:aU}{s:aC}{m:aJ}(R:Rel c s m)(K:KU m)
include R K
end
open Go Go.AM Go.Pl Go.Pt Go.Ix
def pk(s:aC):Int→Int:=eT (en (kf s.Graph))
section
variable (rec2:aC→aJ→Int→List Int→Int→Int→Option Bool)(rec3:aC→aJ→Int→Int→List Int→List Int→Int→Int→List Int→Int→Int→Option Bool)
end
section
variable {c:aU}{s:aC}{mm:aJ}(R:Rel c s mm)(hS:s.Slots.length≤10)
include R hS
end
open Go Go.AM Go.Pl Go.Pt Go.Ix
section
variable {c:aU}{s:aC}{m:aJ}(R:Rel c s m)
include R
variable (hS:s.Slots.length≤10)(K:KU m)
include hS K
end
theorem wfk{x:Int}(h:(Lit.int .u64 x).wf=true):0≤x∧x<18446744073709551616:=cBc (l:=[x]) (P:=True) ⟨fun y hy=>by
 have:y=x:=by simpa using hy
 subst this;exact h,trivial⟩ x (by simp)
open Go Go.AM Go.Pl Go.Pt Go.Ix
section
variable {c:aU}{s:aC}{m:aJ}(R:Rel c s m)
include R
end
section
variable (rec2:aC→aJ→Int→List Int→Int→Int→Option Bool)(rec3:aC→aJ→Int→Int→List Int→List Int→Int→Int→List Int→Int→Int→Option Bool)
end
section
variable {c:aU}{s:aC}{m:aJ}(R:Rel c s m)
include R
variable (hS:s.Slots.length≤10)(K:KU m)
include hS K
end
open Go Go.AM Go.Pl Go.Pt Go.Ix
def BB(l:List Int):Prop:= ∀x,x∈l→0≤x∧x<256
theorem BB.app{a b:List Int}(ha:BB a)(hb:BB b):BB (a++b):=fun x hx=>(List.mem_append.mp hx).elim (ha x) (hb x)
theorem BB.nil:BB []:=fun x hx=>by cases hx
theorem BB.fm{α:Type}{l:List α}{f:α→List Int}(h: ∀x,x∈l→BB (f x)):BB (l.flatMap f):=fun y hy=>by
 obtain ⟨x,hx,hy⟩:=List.mem_flatMap.1 hy;exact h x hx y hy
theorem aMp(a:List Int):(nF a).size=a.length:=by simp [nF,ByteArray.size]
theorem aWw{l:List Int}(h:BB l){i:Nat}(hi:i<l.length):aPh (nF l) (i:Int)=some l[i]:=by
 unfold aPh;rw [aMp,if_pos om];unfold aQ4 nF;have:=h l[i] (List.getElem_mem hi);simp [List.getD,hi,UInt8.toNat_ofNat'];omega
def lb(n:Int):Nat→List Int
  |0=>[]
  |k+1=>n%256::lb (n/256) k
theorem gJ: ∀(n:Int) (k:Nat),(lb n k).length=k
 |n,0=>rfl
 |n,k+1=>by unfold lb;rw [List.length_cons,gJ (n/256) k]
theorem kJ: ∀(n:Int) (k:Nat),BB (lb n k)
 |n,0=>BB.nil
 |n,k+1=>fun x hx=>by
  unfold lb at hx;rcases List.mem_cons.1 hx with rfl|hx
  · omega
  · exact kJ _ k x hx
theorem cCu{n:Int}(h:0≤n):shr .u64 n 8=n/256:=by
 obtain ⟨a,rfl⟩:=Int.eq_ofNat_of_zero_le h;have:=bCr a 8 (by decide);rw [show ((8:Nat):Int)=8 from rfl] at this;rw [this];omega
theorem u8w(n:Int):IntKind.u8.wrap n=n%256:=IntKind.wrap_u8 n
theorem bR1: ∀(m i k:Nat) (b:List Int) (n:Int),k<i+m→i≤k→k≤1000→0≤n→b.length+k≤4000000+i→xG m b n (k:Int) (i:Int)=some (b++lb n (k-i))
 |0,i,k,b,n,hm,hi,_,_,_=>by omega
 |m+1,i,k,b,n,hm,hi,hk,hn,hb=>by
  show (bif decide ((i:Int)<(k:Int)) then ((app b [IntKind.u8.wrap n]).bind fun x=>xG m x (shr .u64 n 8) (k:Int) (IntKind.i64.wrap ((i:Int)+1))) else some b)=_
  by_cases c:i<k
  · rw [bt (by simpa using c),fI (by simp;omega),aA,u8w,cCu hn,wr1 i om,bR1 m (i+1) k _ _ om c hk om (by simp;omega)];rw [show k-i=(k-(i+1))+1 by omega,List.append_assoc];rfl
  · rw [bf (by simpa using c),show k-i=0 by omega];simp [lb]
theorem put_eq{b:List Int}{n:Int}(hn:0≤n)(hb:b.length≤1000000){k:Nat}(hk:k≤1000):jG b n (k:Int)=some (b++lb n k):=by
 have hFU:=FU';exact bR1 bC 0 k b n om (Nat.zero_le _) hk hn om
def smN(n:Nat)(x:Int):Nat:=(n%2305843009213693951*(257%2305843009213693951)%2305843009213693951%2305843009213693951+(x.toNat+1)%2305843009213693951)%2305843009213693951
def bIh(l:List Int)(n:Nat):Nat:=l.foldl smN n
theorem bTy{x:Int}(h:0≤x∧x<256):IntKind.u64.wrap (IntKind.u64.wrap x+1)=((x.toNat+1:Nat):Int):=by rw [wu,wu];omega
theorem bR8{l:List Int}(h:BB l)(hl:l.length≤4000000): ∀(m i n:Nat),l.length<i+m→i≤l.length→aBp m (nF l) (n:Int) (i:Int)=some ((bIh (l.drop i) n:Nat):Int)
 |0,i,n,hm,hi=>by omega
 |m+1,i,n,hm,hi=>by
  show aKb (aBp m) _ _ _=_;unfold aKb;rw [aMp]
  by_cases c:i<l.length
  · have e:(257:Int)=((257:Nat):Int):=rfl;rw [bt (by simpa using c),e,bDy,aA,aWw h c,aA,bTy (h _ (List.getElem_mem c))];unfold aE0 aA3;rw [aA,aA,addN,aA,wr1 i om,bR8 h hl m (i+1) _ om c,cW c];rfl
  · rw [bf (by simpa using c),List.drop_eq_nil_of_le om];rfl
theorem bT3{l:List Int}(h:BB l)(hl:l.length≤4000000):aId (nF l)=some ((bIh l 1:Nat):Int):=by
 have hFU:=FU';exact bR8 h hl bC 0 1 om (Nat.zero_le _)
def lh(h:bM):List Int:=lb h.A 8++lb h.B 8
def ls(x:aN):List Int:=lb (if x.Used then 1 else 0) 1++lb x.Key 8
def lE(e:aD):List Int:=lb e.U 2++lb e.V 2++lb e.Tier 1
def lc(c:aU):List Int:=[82,65,70,84]++lb c.N 2++lb c.L 2++lb c.R 2
def body(s:aC):List Int:=lc s.Graph.Config++s.Graph.Hashes.flatMap lh++s.Slots.flatMap ls++lb s.Graph.Edges.length 4++s.Graph.Edges.flatMap lE
def bytesOf(s:aC):List Int:=body s++lb ((bIh (body s) 1:Nat):Int) 8
theorem aGu{α:Type}{f:α→List Int}{k:Nat}(h: ∀x,(f x).length=k): ∀l:List α,(l.flatMap f).length=l.length*k
 |[]=>by simp
 |x::l=>by rw [List.flatMap_cons,List.length_append,h,aGu h l,List.length_cons,Nat.succ_mul];omega
theorem aVz(h:bM):(lh h).length=16:=by unfold lh;simp [gJ]
theorem aW1(x:aN):(ls x).length=9:=by unfold ls;simp [gJ]
theorem bKy(e:aD):(lE e).length=5:=by unfold lE;simp [gJ]
theorem aVu(c:aU):(lc c).length=10:=by unfold lc;simp [gJ]
theorem bN9(s:aC):BB (body s):=by
 unfold body lc;have h0:BB [82,65,70,84]:=by intro x hx;simp at hx;omega
 exact ((((((h0.app (kJ _ _)).app (kJ _ _)).app (kJ _ _)).app (BB.fm fun _ _=>(kJ _ _).app (kJ _ _))).app (BB.fm fun _ _=>(kJ _ _).app (kJ _ _))).app (kJ _ _)).app (BB.fm fun _ _=>((kJ _ _).app (kJ _ _)).app (kJ _ _))
structure NB(s:aC):Prop where
  c:0≤s.Graph.Config.N∧0≤s.Graph.Config.L∧0≤s.Graph.Config.R∧s.Graph.Config.N<65536∧s.Graph.Config.L<65536∧s.Graph.Config.R<65536
  h: ∀x,x∈s.Graph.Hashes→(0≤x.A∧x.A<18446744073709551616)∧0≤x.B∧x.B<18446744073709551616
  k: ∀x,x∈s.Slots→0≤x.Key∧x.Key<18446744073709551616
  e: ∀x,x∈s.Graph.Edges→(0≤x.U∧x.U<65536)∧(0≤x.V∧x.V<65536)∧0≤x.Tier∧x.Tier<256
  nh:s.Graph.Hashes.length≤1000
  ns:s.Slots.length≤2000
  ne:s.Graph.Edges.length≤10000
theorem uu{n:Int}(h:0≤n)(h':n<18446744073709551616):IntKind.u64.wrap n=n:=by rw [wu];omega
section
variable {s:aC}(nb:NB s)
include nb
theorem bE9: ∀(m i:Nat) (b:List Int),s.Graph.Edges.length<i+m→i≤s.Graph.Edges.length→b.length≤100000+5*i→BB b→
 uF m b s.Graph.Edges (s.Graph.Edges.length:Int) (i:Int)=some (nF ((b++(s.Graph.Edges.drop i).flatMap lE)++lb ((bIh (b++(s.Graph.Edges.drop i).flatMap lE) 1:Nat):Int) 8),0)
 |0,i,b,hm,hi,_,_=>by omega
 |m+1,i,b,hm,hi,hb,bb=>by
  have hE:=nb.ne;show aHu (uF m) _ _ _ _=_;unfold aHu
  by_cases c:i<s.Graph.Edges.length
  · have q:=nb.e _ (List.getElem_mem c);rw [bt (by simpa using c),cE c,aA,uu q.1.1 om,uu q.2.1.1 om,uu q.2.2.1 om];have p1:=put_eq (b:=b) q.1.1 om (k:=2) (by decide);have p2:=put_eq (b:=b++lb s.Graph.Edges[i].U 2) q.2.1.1 (by simp [gJ];omega) (k:=2) (by decide);have p3:=put_eq (b:=b++lb s.Graph.Edges[i].U 2++lb s.Graph.Edges[i].V 2) q.2.2.1 (by simp [gJ];omega) (k:=1) (by decide);rw [show ((2:Nat):Int)=2 from rfl] at p1 p2;rw [show ((1:Nat):Int)=1 from rfl] at p3;rw [p1,aA,p2,aA,p3,aA,wr1 i om,bE9 m (i+1) _ om c (by simp [gJ];omega) (((bb.app (kJ _ _)).app (kJ _ _)).app (kJ _ _)),cW c,List.flatMap_cons];simp only [lE,List.append_assoc]
  · rw [bf (by simpa using c),List.drop_eq_nil_of_le om,List.flatMap_nil,List.append_nil,bT3 bb om,aA];have p1:=put_eq (b:=b) (n:=((bIh b 1:Nat):Int)) om om (k:=8) (by decide);rw [show ((8:Nat):Int)=8 from rfl] at p1;rw [p1,aA]
theorem aWq: ∀(m i:Nat) (b:List Int),s.Slots.length<i+m→i≤s.Slots.length→b.length≤50000+9*i→BB b→
 kB m s b s.Slots (s.Slots.length:Int) (i:Int)=uF bC (b++(s.Slots.drop i).flatMap ls++lb s.Graph.Edges.length 4) s.Graph.Edges (s.Graph.Edges.length:Int) 0
 |0,i,b,hm,hi,_,_=>by omega
 |m+1,i,b,hm,hi,hb,bb=>by
  have hE:=nb.ns;have hE':=nb.ne;show aHt (kB m) _ _ _ _ _=_;unfold aHt
  by_cases c:i<s.Slots.length
  ·
   have q:=nb.k _ (List.getElem_mem c);rw [bt (by simpa using c),cE c,aA]
   have one: ∀u:Int,0≤u→yU (kB m) s b s.Slots[i] u s.Slots (s.Slots.length:Int) (i:Int)=kB m s (b++lb u 1++lb s.Slots[i].Key 8) s.Slots (s.Slots.length:Int) ((i+1:Nat):Int):=fun u hu=>by
    unfold yU aHv;have p1:=put_eq (b:=b) hu om (k:=1) (by decide);have p2:=put_eq (b:=b++lb u 1) q.1 (by simp [gJ];omega) (k:=8) (by decide);rw [show ((1:Nat):Int)=1 from rfl] at p1;rw [show ((8:Nat):Int)=8 from rfl] at p2;rw [p1,aA,p2,aA,wr1 i om]
   cases u:s.Slots[i].Used with
   |true=>
    rw [bt (by rfl),one 1 (by decide),aWq m (i+1) _ om c (by simp [gJ];omega) ((bb.app (kJ _ _)).app (kJ _ _)),cW c,List.flatMap_cons];simp only [ls,u,if_true,List.append_assoc]
   |false=>
    rw [bf (by rfl),one 0 (by decide),aWq m (i+1) _ om c (by simp [gJ];omega) ((bb.app (kJ _ _)).app (kJ _ _)),cW c,List.flatMap_cons];simp only [ls,u,List.append_assoc];rfl
  · rw [bf (by simpa using c),List.drop_eq_nil_of_le om,List.flatMap_nil,List.append_nil,uu om om];have p1:=put_eq (b:=b) (n:=(s.Graph.Edges.length:Int)) om om (k:=4) (by decide);rw [show ((4:Nat):Int)=4 from rfl] at p1;rw [p1,aA]
theorem bE8: ∀(m i:Nat) (b:List Int),s.Graph.Hashes.length<i+m→i≤s.Graph.Hashes.length→b.length≤1000+16*i→BB b→
 qK m s b s.Graph.Hashes (s.Graph.Hashes.length:Int) (i:Int)=kB bC s (b++(s.Graph.Hashes.drop i).flatMap lh) s.Slots (s.Slots.length:Int) 0
 |0,i,b,hm,hi,_,_=>by omega
 |m+1,i,b,hm,hi,hb,bb=>by
  have hE:=nb.nh;show aHs (qK m) _ _ _ _ _=_;unfold aHs
  by_cases c:i<s.Graph.Hashes.length
  · have q:=nb.h _ (List.getElem_mem c);rw [bt (by simpa using c),cE c,aA];have p1:=put_eq (b:=b) q.1.1 om (k:=8) (by decide);have p2:=put_eq (b:=b++lb s.Graph.Hashes[i].A 8) q.2.1 (by simp [gJ];omega) (k:=8) (by decide);rw [show ((8:Nat):Int)=8 from rfl] at p1 p2;rw [p1,aA,p2,aA,wr1 i om,bE8 m (i+1) _ om c (by simp [gJ];omega) ((bb.app (kJ _ _)).app (kJ _ _)),cW c,List.flatMap_cons];simp only [lh,List.append_assoc]
  · rw [bf (by simpa using c),List.drop_eq_nil_of_le om,List.flatMap_nil,List.append_nil]
theorem aWr(hr:lC s=some true):tR s=some (nF (bytesOf s),0):=by
 have hFU:=FU';have h1:=nb.nh;have h2:=nb.ns;have h3:=nb.ne;obtain ⟨c1,c2,c3,c4,c5,c6⟩:=nb.c;unfold tR;rw [hr,aA,bf (by rfl)]
 have key: ∀m,4≤m→lD m s [82,65,70,84] [s.Graph.Config.N,s.Graph.Config.L,s.Graph.Config.R] (([s.Graph.Config.N,s.Graph.Config.L,s.Graph.Config.R]:List Int).length:Int) 0=qK bC s (lc s.Graph.Config) s.Graph.Hashes (s.Graph.Hashes.length:Int) 0:=by
  intro m hm;obtain ⟨m,rfl⟩: ∃k,m=k+4:=⟨m-4,by omega⟩
  have p1:=put_eq (b:=[82,65,70,84]) c1 (by simp) (k:=2) (by decide);have p2:=put_eq (b:=[82,65,70,84]++lb s.Graph.Config.N 2) c2 (by simp [gJ]) (k:=2) (by decide);have p3:=put_eq (b:=[82,65,70,84]++lb s.Graph.Config.N 2++lb s.Graph.Config.L 2) c3 (by simp [gJ]) (k:=2) (by decide);rw [show ((2:Nat):Int)=2 from rfl] at p1 p2 p3
  have st: ∀(k:Nat) (b:List Int) (i:Nat) (x:Int),([s.Graph.Config.N,s.Graph.Config.L,s.Graph.Config.R]:List Int)[i]? =some x→0≤x→x<65536→jG b x 2=some (b++lb x 2)→
   lD (k+1) s b [s.Graph.Config.N,s.Graph.Config.L,s.Graph.Config.R] (([s.Graph.Config.N,s.Graph.Config.L,s.Graph.Config.R]:List Int).length:Int) (i:Int)=lD k s (b++lb x 2) [s.Graph.Config.N,s.Graph.Config.L,s.Graph.Config.R] (([s.Graph.Config.N,s.Graph.Config.L,s.Graph.Config.R]:List Int).length:Int) ((i+1:Nat):Int):=by
   intro k b i x hx h0 h1 hp;have hi:=(List.getElem?_eq_some_iff.1 hx).1;show yT (lD k) _ _ _ _ _=_;unfold yT;rw [bt (by simp at hi ⊢; omega),fP,hx,aA,uu h0 om,hp,aA,wr1 i (by simp at hi;omega)]
  have e1:=st (m+3) [82,65,70,84] 0 _ rfl c1 c4 p1;have e2:=st (m+2) _ 1 _ rfl c2 c5 p2;have e3:=st (m+1) _ 2 _ rfl c3 c6 p3
  have e4:lD (m+1) s (lc s.Graph.Config) [s.Graph.Config.N,s.Graph.Config.L,s.Graph.Config.R] (([s.Graph.Config.N,s.Graph.Config.L,s.Graph.Config.R]:List Int).length:Int) ((3:Nat):Int)=qK bC s (lc s.Graph.Config) s.Graph.Hashes (s.Graph.Hashes.length:Int) 0:=by
   show yT (lD m) _ _ _ _ _=_;unfold yT;rw [bf (by simp)]
  exact e1.trans (e2.trans (e3.trans e4))
 rw [key bC om]
 have b0:BB (lc s.Graph.Config):=by
  have h0:BB [82,65,70,84]:=by intro x hx;simp at hx;omega
  exact ((h0.app (kJ _ _)).app (kJ _ _)).app (kJ _ _)
 have b1:BB (lc s.Graph.Config++s.Graph.Hashes.flatMap lh):=b0.app (BB.fm fun _ _=>(kJ _ _).app (kJ _ _));have b2:BB (lc s.Graph.Config++s.Graph.Hashes.flatMap lh++s.Slots.flatMap ls++lb s.Graph.Edges.length 4):=(b1.app (BB.fm fun _ _=>(kJ _ _).app (kJ _ _))).app (kJ _ _);have l1:=aGu aVz s.Graph.Hashes;have l2:=aGu aW1 s.Slots;have e2:=bE8 nb bC 0 (lc s.Graph.Config) om (Nat.zero_le _) (by rw [aVu];omega) b0;have e3:=aWq nb bC 0 (lc s.Graph.Config++s.Graph.Hashes.flatMap lh) om (Nat.zero_le _) (by rw [List.length_append,aVu,l1];omega) b1;have e4:=bE9 nb bC 0 (lc s.Graph.Config++s.Graph.Hashes.flatMap lh++s.Slots.flatMap ls++lb s.Graph.Edges.length 4) om (Nat.zero_le _) (by rw [List.length_append,List.length_append,List.length_append,aVu,l1,l2,gJ];omega) b2;simp only [List.drop_zero] at e2 e3 e4;exact e2.trans (e3.trans e4)
end
end Go.Proofs.YtkdohhmacfoolaaGreatDoor
