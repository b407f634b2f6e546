/- Facts. No condition. -/
import Derived.Test.YtkdohhmacfoolaaGreatDoorPgIxR
set_option linter.unusedVariables false
set_option linter.unusedSimpArgs false
set_option maxRecDepth 20000
set_option maxHeartbeats 1000000
namespace Go.Proofs.YtkdohhmacfoolaaGreatDoor
open Go Go.AM Go.Pl Go.Pt Go.Ix
def usd(l:List aN)(v:Int):Bool:=((l[v.toNat]?).map (·.Used)).getD false
theorem bEn(s:aC)(l:List Int)(hl:l.length≤1024)(hr: ∀v,v∈l→0≤v∧v<s.Slots.length): ∀(m i:Nat) (out:List Int),l.length<i+m→i≤l.length→out.length≤i→
 uK m s out l (l.length:Int) (i:Int)=(let r:=out++((l.drop i).filter (usd s.Slots)).map (kv s.Slots);(aA9 (fun x=>x.length) r.length (lH r)).bind fun l10=>some l10)
 |0,i,out,hm,hi,_=>by omega
 |m+1,i,out,hm,hi,ho=>by
  show aH4 (uK m) _ _ _ _ _=_;unfold aH4 aCl
  by_cases c:i<l.length
  ·
   obtain ⟨r0,r1⟩:=hr _ (List.getElem_mem c);have hj:l[i].toNat<s.Slots.length:=by omega
   have ei:idx s.Slots l[i]=some s.Slots[l[i].toNat]:=by
    have:=cN hj
    rwa [Int.toNat_of_nonneg r0] at this
   have eu:usd s.Slots l[i]=s.Slots[l[i].toNat].Used:=by unfold usd;rw [List.getElem?_eq_getElem hj];rfl
   have ek:kv s.Slots l[i]=s.Slots[l[i].toNat].Key:=by unfold kv;rw [List.getElem?_eq_getElem hj];rfl
   rw [bt (by simpa using c),cN c,aA,ei,aA,dZ c,List.filter_cons,eu,wr1 i om]
   cases q:s.Slots[l[i].toNat].Used with
   |true=>
    rw [bt rfl,aA,gG (by simp;omega),aA,if_pos rfl,bEn s l hl hr m (i+1) _ om c (by simp;omega),List.map_cons,ek];simp
   |false=>
    rw [bf rfl,if_neg (by simp),bEn s l hl hr m (i+1) _ om c om]
  · rw [bf (by simpa using c),List.drop_eq_nil_of_le om];simp
section
variable {c:aX}{s:aC}{m:aM}(R:Rel c s m)
include R
theorem Rel.near_mem{j:Nat}{v:Int} :v∈aCe s.Graph.Edges (j:Int)↔0≤v∧ ∃e,e∈s.Graph.Edges∧kN (j:Int) v e=true:=by
 unfold aCe;rw [List.mem_filterMap];constructor
 ·
  rintro ⟨e,he,h⟩;obtain ⟨e1,e2,e3,_,_⟩:=R.edge he;unfold kN;split at h
  · rename_i q;cases h;exact ⟨e2,e,he,by simp [q]⟩
  ·
   split at h
   · rename_i q;cases h;exact ⟨e1,e,he,by simp [q]⟩
   · cases h
 ·
  rintro ⟨h0,e,he,h⟩;obtain ⟨e1,e2,e3,_,_⟩:=R.edge he;refine ⟨e,he,?_⟩;rcases aIp h with ⟨a,b⟩|⟨a,b⟩
  · rw [if_pos a.symm,b]
  · rw [if_neg om,if_pos b.symm,a]
theorem Rel.near_usd{j:Nat}{v:Int}(h:v∈aCe s.Graph.Edges (j:Int)):0≤v∧v<s.Slots.length∧Usd s.Slots v:=by
 obtain ⟨h0,e,he,q⟩:=R.near_mem.1 h;obtain ⟨_,_,_,u1,u2⟩:=R.edge he
 have hu:Usd s.Slots v:=by
  rcases aIp q with ⟨a,b⟩|⟨a,b⟩
  · rw [←b];exact u2
  · rw [←a];exact u1
 obtain ⟨k,hk⟩:=hu;have:=(List.getElem?_eq_some_iff.1 hk).1;exact ⟨h0,by omega,k,hk⟩
theorem Rel.near_nodup(v:Int):(aCe s.Graph.Edges v).Nodup:=by
 have pw:=(gok R.gd.ok).gc.ti.tb.pw;unfold en at pw;rw [List.pairwise_map] at pw;unfold aCe;refine List.pairwise_filterMap.2 (pw.imp_of_mem fun {a b} ha hb h x hx y hy e=>?_);obtain ⟨_,_,a3,_,_⟩:=R.edge ha;obtain ⟨_,_,b3,_,_⟩:=R.edge hb;unfold ltE at h;simp only [] at h;subst e;split at hx
 ·
  split at hy
  · cases hx;injection hy with hy;omega
  ·
   split at hy
   · cases hx;injection hy with hy;omega
   · cases hy
 ·
  split at hx
  ·
   split at hy
   · cases hx;injection hy with hy;omega
   ·
    split at hy
    · cases hx;injection hy with hy;omega
    · cases hy
  · cases hx
omit R in
theorem bAe{l:List Int}{n:Nat}(hn:l.Nodup)(hr: ∀v,v∈l→0≤v∧v<(n:Int)):l.length≤n:=by
 have:=bAv (b:=(List.range n).map fun (k:Nat)=>(k:Int)) hn fun v hv=>by
  obtain ⟨h0,h1⟩:=hr v hv;exact List.mem_map.2 ⟨v.toNat,List.mem_range.2 om,by omega⟩
 simpa using this
end
section
variable {c:aX}{s:aC}{m:aM}(R:Rel c s m)(hS:s.Slots.length≤12)(hE:s.Graph.Edges.length<10000)
include R hS hE
omit hE in
theorem ans{d a b:Int}{text:ByteArray}{vA vB:Int}{bA bB:Bool}(h5:5≤d)(h15:d≤13)(fA:Fd s a vA bA)(fB:Fd s b vB bB){rA rB:Bool}(eA:qM d=some rA)(eB:qN d=some rB)(ok:((rA&& !bA)||(rB&& !bB))=false){r:GA}(h:mH s d vA vB=some r):
 kY s ⟨d,a,b,text⟩=some (s,r):=by
 rw [aMs R om (by simp;omega) fA fB eA eB,ok,bf (by rfl),bt (by simp;omega),h,aA]
end
open Go Go.AM Go.Pl Go.Pt Go.Ix
theorem bUm{c:aX}(hc:aPd c){r:List cI}(h2:(r.length:Int)=c.L*c.R)(h3:hsB r=true)(h4: ∀x,x∈r→0≤x.A∧0≤x.B)(h5:r.length≤128):Rel c ⟨⟨c,r,[]⟩,List.replicate c.N.toNat ⟨false,0⟩⟩ ⟨c.N,[],[]⟩:=by
 have ok:=bQx hc h2 h3;refine ⟨ok,⟨ok.g,fun x hx=>h4 x hx,by simp,by show r.length<_;omega⟩,rfl,rfl,?_,List.Perm.refl _⟩;have:uk (List.replicate c.N.toNat (⟨false,0⟩:aN))=[]:=by unfold uk;simp
 show List.Perm [] (uk (List.replicate c.N.toNat ⟨false,0⟩));rw [this]
def vs(n:Int):List Int:=(List.range n.toNat).map fun (k:Nat)=>(k:Int)
theorem bFk(n:Int):(vs n).length=n.toNat:=by simp [vs]
theorem cHt{n:Int}{i:Nat}(h:i<(vs n).length):(vs n)[i]=(i:Int):=by simp [vs]
section
variable {c:aX}{s:aC}{m:aM}(R:Rel c s m)
include R
theorem Rel.n0:0≤s.Graph.Config.N∧s.Graph.Config.N≤1024∧Rg s.Graph.Config.N s.Graph.Edges:=aPa (gok R.gd.ok).tr
theorem Rel.kfr:Rg s.Graph.Config.N (kf s.Graph):=aPv R.n0.2.2 _
end
def bZ1(s:aC)(p:Int→Int):Nat:=(vs s.Graph.Config.N).countP fun v=>v==p v&&usd s.Slots v
section
variable {c:aX}{s:aC}{m:aM}(R:Rel c s m)
include R
theorem bGb:tY s.Graph=some (pt s.Graph.Config.N (kf s.Graph)):=by
 rw [aNx R.gd.e R.gd.h,if_pos R.gd.ok]
variable (hS:s.Slots.length≤12)
include hS
omit R hS in
theorem aVf{n:Int}(f:Int→Int)(hn:n.toNat≤1024)(hl:(s.Slots.length:Int)=n): ∀(m i k:Nat),n.toNat<i+m→i≤n.toNat→k≤i→
 nK m s (k:Int) (tab n f) ((tab n f).length:Int) (i:Int)=some (((k+((vs n).drop i).countP (fun v=>v==f v&&usd s.Slots v):Nat)):Int)
 |0,i,k,hm,hi,_=>by omega
 |m+1,i,k,hm,hi,hk=>by
  show aC0 (nK m) _ _ _ _ _=_;unfold aC0 aC1;rw [aCx]
  by_cases c:i<n.toNat
  ·
   have hv:i<(vs n).length:=by rw [bFk];exact c
   have hs:i<s.Slots.length:=by omega
   have eu:usd s.Slots (i:Int)=s.Slots[i].Used:=by unfold usd;rw [Int.toNat_natCast,List.getElem?_eq_getElem hs];rfl
   rw [bt (oJ c),mD,aRj om,aA,cN hs,jS,aA,wr1 i om,wr1 k om,dZ hv,List.countP_cons,cHt hv,eu];have:=aVf f hn hl m (i+1);rw [aCx] at this
   have e:((((i:Int)==f (i:Int))&&(bif ((i:Int)==f (i:Int))==true then s.Slots[i] else (⟨false,0⟩:aN)).Used))=((i:Int)==f (i:Int)&&s.Slots[i].Used):=by
    cases (i:Int)==f (i:Int)<;>rfl
   rw [e]
   cases q:((i:Int)==f (i:Int)&&s.Slots[i].Used) with
   |true=>
    rw [bt rfl,this _ om c om,if_pos rfl];congr 2;omega
   |false=>
    rw [bf rfl,this _ om c om,if_neg (by simp)];rfl
  · rw [bf (oI c),List.drop_eq_nil_of_le (by rw [bFk];omega)];rfl
end
open Go Go.AM Go.Pl Go.Pt Go.Ix
def ltP(p q:bG):Prop:=p.x0<q.x0∨p.x0=q.x0∧p.x1<q.x1
instance (p q:bG):Decidable (ltP p q):=inferInstanceAs (Decidable (_∨_))
section
variable {cmp:bG→bG→Option Int}(hc: ∀p q,∃c,cmp p q=some c∧(c<0↔ltP p q))
include hc
end
def fps(s:aC):List bG:=(en (kf s.Graph)).map (aDu s.Slots)
section
variable {c:aX}{s:aC}{m:aM}(R:Rel c s m)
include R
omit R in
theorem bG6:(fps s).length=(kf s.Graph).length:=by unfold fps;rw [List.length_map,zG]
theorem bO6:(kf s.Graph).length+cl s.Graph.Config.N.toNat (en (kf s.Graph))=s.Slots.length:=by
 have h:=(gok R.gd.ok).fr;unfold foB at h;have h:=of_decide_eq_true h;have e:=R.ok.len;have e2:(kf s.Graph).length=(fo s.Graph.Edges s.Graph.Config.L).length:=rfl;have e3:cl s.Graph.Config.N.toNat (en (kf s.Graph))=cl s.Graph.Config.N.toNat (en (fo s.Graph.Edges s.Graph.Config.L)):=rfl;omega
end
open Go Go.AM Go.Pl Go.Pt Go.Ix
def KU(m:aM):Prop:= ∀x,x∈m.Keys→0≤x∧x<18446744073709551616
theorem cnd{β:Type}{c:Bool}{x y o:β}(h:(bif c then x else y)=o):(c=true∧x=o)∨(c=false∧y=o):=by
 cases c with
 |true=>exact .inl ⟨rfl,h⟩
 |false=>exact .inr ⟨rfl,h⟩
theorem aWo{α:Type}{l xs r:List α}(h:app l xs=some r):r=l++xs:=by
 unfold app at h;split at h
 · exact (Option.some.inj h).symm
 · cases h
theorem bH2{α:Type}{l r:List α}{a b:Int}(h:slc l a b=some r): ∀x,x∈r→x∈l:=by
 unfold slc at h;split at h
 · cases h;exact fun x hx=>List.mem_of_mem_drop (List.mem_of_mem_take hx)
 · cases h
theorem aZt{m k:aM}{d a b f:Int}(h:gX m d a b=some (k,f)): ∀x,x∈k.Keys→x∈m.Keys∨x=a:=by
 have same: ∀ {f':Int},some (m,f')=some (k,f)→ ∀x,x∈k.Keys→x∈m.Keys∨x=a:=fun e x hx=>by
  have:=(Prod.mk.inj (Option.some.inj e)).1;subst this;exact .inl hx
 unfold gX at h;obtain ⟨x2,_,h⟩:=bnd h;rcases cnd h with ⟨_,h⟩|⟨_,h⟩
 ·
  rcases cnd h with ⟨_,h⟩|⟨_,h⟩
  · exact same h
  rcases cnd h with ⟨_,h⟩|⟨_,h⟩
  · exact same h
  obtain ⟨l4,h3,h⟩:=bnd h;obtain ⟨l6,h5,h⟩:=bnd h;cases h;intro x hx;rw [show (aM.mk m.Most l6 m.Pairs).Keys=l6 from rfl,aWo h5,aWo h3,List.nil_append,List.mem_append] at hx;exact hx.imp id fun q=>by simpa using q
 ·
  obtain ⟨x8,_,h⟩:=bnd h;rcases cnd h with ⟨_,h⟩|⟨_,h⟩
  · exact same h
  rcases cnd h with ⟨_,h⟩|⟨_,h⟩
  ·
   obtain ⟨x10,_,h⟩:=bnd h;rcases cnd h with ⟨_,h⟩|⟨_,h⟩
   · exact same h
   obtain ⟨l12,g1,h⟩:=bnd h;obtain ⟨l14,g2,h⟩:=bnd h;obtain ⟨l16,g3,h⟩:=bnd h;obtain ⟨l18,g4,h⟩:=bnd h;cases h;intro x hx;rw [show (aM.mk m.Most l18 m.Pairs).Keys=l18 from rfl,aWo g4,aWo g2,List.nil_append,List.mem_append] at hx;exact .inl (hx.elim (bH2 g1 x) (bH2 g3 x))
  ·
   obtain ⟨x20,_,h⟩:=bnd h;obtain ⟨x22,_,h⟩:=bnd h;rcases cnd h with ⟨_,h⟩|⟨_,h⟩
   ·
    rcases cnd h with ⟨_,h⟩|⟨_,h⟩
    · exact same h
    obtain ⟨_,_,h⟩:=bnd h;obtain ⟨_,_,h⟩:=bnd h;obtain ⟨_,_,h⟩:=bnd h;obtain ⟨_,_,h⟩:=bnd h;cases h;exact fun x hx=> .inl hx
   ·
    rcases cnd h with ⟨_,h⟩|⟨_,h⟩
    · exact same h
    rcases cnd h with ⟨_,h⟩|⟨_,h⟩
    · exact same h
    obtain ⟨_,_,h⟩:=bnd h;obtain ⟨_,_,h⟩:=bnd h;cases h;exact fun x hx=> .inl hx
theorem KU.change{m k:aM}{d a b f:Int}(hk:KU m)(ha:0≤a∧a<18446744073709551616)(h:gX m d a b=some (k,f)):KU k:=fun x hx=>
 (aZt h x hx).elim (hk x) fun e=>e▸ha
section
variable {c:aX}{s:aC}{m:aM}(R:Rel c s m)(K:KU m)
include R K
end
open Go Go.AM Go.Pl Go.Pt Go.Ix
section
variable (rec2:aC→aM→Int→List Int→Int→Int→Option Bool)(rec3:aC→aM→Int→Int→List Int→List Int→Int→Int→List Int→Int→Int→Option Bool)
end
section
variable {c:aX}{s:aC}{mm:aM}(R:Rel c s mm)(hS:s.Slots.length≤10)
include R hS
end
open Go Go.AM Go.Pl Go.Pt Go.Ix
section
variable {c:aX}{s:aC}{m:aM}(R:Rel c s m)
include R
variable (hS:s.Slots.length≤10)(K:KU m)
include hS K
end
open Go Go.AM Go.Pl Go.Pt Go.Ix
section
variable {c:aX}{s:aC}{m:aM}(R:Rel c s m)
include R
end
section
variable (rec2:aC→aM→Int→List Int→Int→Int→Option Bool)(rec3:aC→aM→Int→Int→List Int→List Int→Int→Int→List Int→Int→Int→Option Bool)
end
section
variable {c:aX}{s:aC}{m:aM}(R:Rel c s m)
include R
variable (hS:s.Slots.length≤10)(K:KU m)
include hS K
end
open Go Go.AM Go.Pl Go.Pt Go.Ix
def BB(l:List Int):Prop:= ∀x,x∈l→0≤x∧x<256
theorem BB.app{a b:List Int}(ha:BB a)(hb:BB b):BB (a++b):=fun x hx=>(List.mem_append.mp hx).elim (ha x) (hb x)
theorem BB.nil:BB []:=fun x hx=>by cases hx
theorem BB.fm{α:Type}{l:List α}{f:α→List Int}(h: ∀x,x∈l→BB (f x)):BB (l.flatMap f):=fun y hy=>by
 obtain ⟨x,hx,hy⟩:=List.mem_flatMap.1 hy;exact h x hx y hy
theorem rM(a:List Int):(fU a).size=a.length:=by simp [fU,ByteArray.size]
theorem aLv{l:List Int}(h:BB l){i:Nat}(hi:i<l.length):aBo (fU l) (i:Int)=some l[i]:=by
 unfold aBo;rw [rM,if_pos om];unfold aLb fU;have:=h l[i] (List.getElem_mem hi);simp [List.getD,hi,UInt8.toNat_ofNat'];omega
def lb(n:Int):Nat→List Int
  |0=>[]
  |k+1=>n%256::lb (n/256) k
theorem iQ: ∀(n:Int) (k:Nat),(lb n k).length=k
 |n,0=>rfl
 |n,k+1=>by unfold lb;rw [List.length_cons,iQ (n/256) k]
theorem mL: ∀(n:Int) (k:Nat),BB (lb n k)
 |n,0=>BB.nil
 |n,k+1=>fun x hx=>by
  unfold lb at hx;rcases List.mem_cons.1 hx with rfl|hx
  · omega
  · exact mL _ k x hx
theorem cJk{n:Int}(h:0≤n):shr .u64 n 8=n/256:=by
 obtain ⟨a,rfl⟩:=Int.eq_ofNat_of_zero_le h;have:=bF7 a 8 (by decide);rw [show ((8:Nat):Int)=8 from rfl] at this;rw [this];omega
theorem u8w(n:Int):IntKind.u8.wrap n=n%256:=IntKind.wrap_u8 n
theorem bVt: ∀(m i k:Nat) (b:List Int) (n:Int),k<i+m→i≤k→k≤1000→0≤n→b.length+k≤4000000+i→aAy m b n (k:Int) (i:Int)=some (b++lb n (k-i))
 |0,i,k,b,n,hm,hi,_,_,_=>by omega
 |m+1,i,k,b,n,hm,hi,hk,hn,hb=>by
  show (bif decide ((i:Int)<(k:Int)) then ((app b [IntKind.u8.wrap n]).bind fun x=>aAy m x (shr .u64 n 8) (k:Int) (IntKind.i64.wrap ((i:Int)+1))) else some b)=_
  by_cases c:i<k
  · rw [bt (by simpa using c),gG (by simp;omega),aA,u8w,cJk hn,wr1 i om,bVt m (i+1) k _ _ om c hk om (by simp;omega)];rw [show k-i=(k-(i+1))+1 by omega,List.append_assoc];rfl
  · rw [bf (by simpa using c),show k-i=0 by omega];simp [lb]
theorem put_eq{b:List Int}{n:Int}(hn:0≤n)(hb:b.length≤1000000){k:Nat}(hk:k≤1000):lQ b n (k:Int)=some (b++lb n k):=by
 have hFU:=FU';exact bVt aY 0 k b n om (Nat.zero_le _) hk hn om
def smN(n:Nat)(x:Int):Nat:=(n%2305843009213693951*(257%2305843009213693951)%2305843009213693951%2305843009213693951+(x.toNat+1)%2305843009213693951)%2305843009213693951
def bLh(l:List Int)(n:Nat):Nat:=l.foldl smN n
theorem bYy{x:Int}(h:0≤x∧x<256):IntKind.u64.wrap (IntKind.u64.wrap x+1)=((x.toNat+1:Nat):Int):=by rw [wu,wu];omega
theorem bVw{l:List Int}(h:BB l)(hl:l.length≤4000000): ∀(m i n:Nat),l.length<i+m→i≤l.length→aE5 m (fU l) (n:Int) (i:Int)=some ((bLh (l.drop i) n:Nat):Int)
 |0,i,n,hm,hi=>by omega
 |m+1,i,n,hm,hi=>by
  show aM7 (aE5 m) _ _ _=_;unfold aM7;rw [rM]
  by_cases c:i<l.length
  · have e:(257:Int)=((257:Nat):Int):=rfl;rw [bt (by simpa using c),e,bGh,aA,aLv h c,aA,bYy (h _ (List.getElem_mem c))];unfold aG6 aCn;rw [aA,aA,addN,aA,wr1 i om,bVw h hl m (i+1) _ om c,dZ c];rfl
  · rw [bf (by simpa using c),List.drop_eq_nil_of_le om];rfl
theorem bY5{l:List Int}(h:BB l)(hl:l.length≤4000000):aKh (fU l)=some ((bLh l 1:Nat):Int):=by
 have hFU:=FU';exact bVw h hl aY 0 1 om (Nat.zero_le _)
def lh(h:cI):List Int:=lb h.A 8++lb h.B 8
def ls(x:aN):List Int:=lb (if x.Used then 1 else 0) 1++lb x.Key 8
def lE(e:aE):List Int:=lb e.U 2++lb e.V 2++lb e.Tier 1
def lc(c:aX):List Int:=[82,65,70,84]++lb c.N 2++lb c.L 2++lb c.R 2
def body(s:aC):List Int:=lc s.Graph.Config++s.Graph.Hashes.flatMap lh++s.Slots.flatMap ls++lb s.Graph.Edges.length 4++s.Graph.Edges.flatMap lE
def bytesOf(s:aC):List Int:=body s++lb ((bLh (body s) 1:Nat):Int) 8
theorem aIq{α:Type}{f:α→List Int}{k:Nat}(h: ∀x,(f x).length=k): ∀l:List α,(l.flatMap f).length=l.length*k
 |[]=>by simp
 |x::l=>by rw [List.flatMap_cons,List.length_append,h,aIq h l,List.length_cons,Nat.succ_mul];omega
theorem aXs(h:cI):(lh h).length=16:=by unfold lh;simp [iQ]
theorem aXu(x:aN):(ls x).length=9:=by unfold ls;simp [iQ]
theorem bO9(e:aE):(lE e).length=5:=by unfold lE;simp [iQ]
theorem aXn(c:aX):(lc c).length=10:=by unfold lc;simp [iQ]
theorem aWs(s:aC):BB (body s):=by
 unfold body lc;have h0:BB [82,65,70,84]:=by intro x hx;simp at hx;omega
 exact ((((((h0.app (mL _ _)).app (mL _ _)).app (mL _ _)).app (BB.fm fun _ _=>(mL _ _).app (mL _ _))).app (BB.fm fun _ _=>(mL _ _).app (mL _ _))).app (mL _ _)).app (BB.fm fun _ _=>((mL _ _).app (mL _ _)).app (mL _ _))
structure NB(s:aC):Prop where
  c:0≤s.Graph.Config.N∧0≤s.Graph.Config.L∧0≤s.Graph.Config.R∧s.Graph.Config.N<65536∧s.Graph.Config.L<65536∧s.Graph.Config.R<65536
  h: ∀x,x∈s.Graph.Hashes→(0≤x.A∧x.A<18446744073709551616)∧0≤x.B∧x.B<18446744073709551616
  k: ∀x,x∈s.Slots→0≤x.Key∧x.Key<18446744073709551616
  e: ∀x,x∈s.Graph.Edges→(0≤x.U∧x.U<65536)∧(0≤x.V∧x.V<65536)∧0≤x.Tier∧x.Tier<256
  nh:s.Graph.Hashes.length≤1000
  ns:s.Slots.length≤2000
  ne:s.Graph.Edges.length≤10000
theorem uu{n:Int}(h:0≤n)(h':n<18446744073709551616):IntKind.u64.wrap n=n:=by rw [wu];omega
section
variable {s:aC}(nb:NB s)
include nb
theorem bH0: ∀(m i:Nat) (b:List Int),s.Graph.Edges.length<i+m→i≤s.Graph.Edges.length→b.length≤100000+5*i→BB b→
 yN m b s.Graph.Edges (s.Graph.Edges.length:Int) (i:Int)=some (fU ((b++(s.Graph.Edges.drop i).flatMap lE)++lb ((bLh (b++(s.Graph.Edges.drop i).flatMap lE) 1:Nat):Int) 8),0)
 |0,i,b,hm,hi,_,_=>by omega
 |m+1,i,b,hm,hi,hb,bb=>by
  have hE:=nb.ne;show aJt (yN m) _ _ _ _=_;unfold aJt
  by_cases c:i<s.Graph.Edges.length
  · have q:=nb.e _ (List.getElem_mem c);rw [bt (by simpa using c),cN c,aA,uu q.1.1 om,uu q.2.1.1 om,uu q.2.2.1 om];have p1:=put_eq (b:=b) q.1.1 om (k:=2) (by decide);have p2:=put_eq (b:=b++lb s.Graph.Edges[i].U 2) q.2.1.1 (by simp [iQ];omega) (k:=2) (by decide);have p3:=put_eq (b:=b++lb s.Graph.Edges[i].U 2++lb s.Graph.Edges[i].V 2) q.2.2.1 (by simp [iQ];omega) (k:=1) (by decide);rw [show ((2:Nat):Int)=2 from rfl] at p1 p2;rw [show ((1:Nat):Int)=1 from rfl] at p3;rw [p1,aA,p2,aA,p3,aA,wr1 i om,bH0 m (i+1) _ om c (by simp [iQ];omega) (((bb.app (mL _ _)).app (mL _ _)).app (mL _ _)),dZ c,List.flatMap_cons];simp only [lE,List.append_assoc]
  · rw [bf (by simpa using c),List.drop_eq_nil_of_le om,List.flatMap_nil,List.append_nil,bY5 bb om,aA];have p1:=put_eq (b:=b) (n:=((bLh b 1:Nat):Int)) om om (k:=8) (by decide);rw [show ((8:Nat):Int)=8 from rfl] at p1;rw [p1,aA]
theorem aYi: ∀(m i:Nat) (b:List Int),s.Slots.length<i+m→i≤s.Slots.length→b.length≤50000+9*i→BB b→
 mQ m s b s.Slots (s.Slots.length:Int) (i:Int)=yN aY (b++(s.Slots.drop i).flatMap ls++lb s.Graph.Edges.length 4) s.Graph.Edges (s.Graph.Edges.length:Int) 0
 |0,i,b,hm,hi,_,_=>by omega
 |m+1,i,b,hm,hi,hb,bb=>by
  have hE:=nb.ns;have hE':=nb.ne;show aJs (mQ m) _ _ _ _ _=_;unfold aJs
  by_cases c:i<s.Slots.length
  ·
   have q:=nb.k _ (List.getElem_mem c);rw [bt (by simpa using c),cN c,aA]
   have one: ∀u:Int,0≤u→aBs (mQ m) s b s.Slots[i] u s.Slots (s.Slots.length:Int) (i:Int)=mQ m s (b++lb u 1++lb s.Slots[i].Key 8) s.Slots (s.Slots.length:Int) ((i+1:Nat):Int):=fun u hu=>by
    unfold aBs aJu;have p1:=put_eq (b:=b) hu om (k:=1) (by decide);have p2:=put_eq (b:=b++lb u 1) q.1 (by simp [iQ];omega) (k:=8) (by decide);rw [show ((1:Nat):Int)=1 from rfl] at p1;rw [show ((8:Nat):Int)=8 from rfl] at p2;rw [p1,aA,p2,aA,wr1 i om]
   cases u:s.Slots[i].Used with
   |true=>
    rw [bt (by rfl),one 1 (by decide),aYi m (i+1) _ om c (by simp [iQ];omega) ((bb.app (mL _ _)).app (mL _ _)),dZ c,List.flatMap_cons];simp only [ls,u,if_true,List.append_assoc]
   |false=>
    rw [bf (by rfl),one 0 (by decide),aYi m (i+1) _ om c (by simp [iQ];omega) ((bb.app (mL _ _)).app (mL _ _)),dZ c,List.flatMap_cons];simp only [ls,u,List.append_assoc];rfl
  · rw [bf (by simpa using c),List.drop_eq_nil_of_le om,List.flatMap_nil,List.append_nil,uu om om];have p1:=put_eq (b:=b) (n:=(s.Graph.Edges.length:Int)) om om (k:=4) (by decide);rw [show ((4:Nat):Int)=4 from rfl] at p1;rw [p1,aA]
theorem bGz: ∀(m i:Nat) (b:List Int),s.Graph.Hashes.length<i+m→i≤s.Graph.Hashes.length→b.length≤1000+16*i→BB b→
 tU m s b s.Graph.Hashes (s.Graph.Hashes.length:Int) (i:Int)=mQ aY s (b++(s.Graph.Hashes.drop i).flatMap lh) s.Slots (s.Slots.length:Int) 0
 |0,i,b,hm,hi,_,_=>by omega
 |m+1,i,b,hm,hi,hb,bb=>by
  have hE:=nb.nh;show aJr (tU m) _ _ _ _ _=_;unfold aJr
  by_cases c:i<s.Graph.Hashes.length
  · have q:=nb.h _ (List.getElem_mem c);rw [bt (by simpa using c),cN c,aA];have p1:=put_eq (b:=b) q.1.1 om (k:=8) (by decide);have p2:=put_eq (b:=b++lb s.Graph.Hashes[i].A 8) q.2.1 (by simp [iQ];omega) (k:=8) (by decide);rw [show ((8:Nat):Int)=8 from rfl] at p1 p2;rw [p1,aA,p2,aA,wr1 i om,bGz m (i+1) _ om c (by simp [iQ];omega) ((bb.app (mL _ _)).app (mL _ _)),dZ c,List.flatMap_cons];simp only [lh,List.append_assoc]
  · rw [bf (by simpa using c),List.drop_eq_nil_of_le om,List.flatMap_nil,List.append_nil]
theorem aNl(hr:mP s=some true):oL s=some (fU (bytesOf s),0):=by
 have hFU:=FU';have h1:=nb.nh;have h2:=nb.ns;have h3:=nb.ne;obtain ⟨c1,c2,c3,c4,c5,c6⟩:=nb.c;unfold oL;rw [hr,aA,bf (by rfl)]
 have key: ∀m,4≤m→oB m s [82,65,70,84] [s.Graph.Config.N,s.Graph.Config.L,s.Graph.Config.R] (([s.Graph.Config.N,s.Graph.Config.L,s.Graph.Config.R]:List Int).length:Int) 0=tU aY s (lc s.Graph.Config) s.Graph.Hashes (s.Graph.Hashes.length:Int) 0:=by
  intro m hm;obtain ⟨m,rfl⟩: ∃k,m=k+4:=⟨m-4,by omega⟩
  have p1:=put_eq (b:=[82,65,70,84]) c1 (by simp) (k:=2) (by decide);have p2:=put_eq (b:=[82,65,70,84]++lb s.Graph.Config.N 2) c2 (by simp [iQ]) (k:=2) (by decide);have p3:=put_eq (b:=[82,65,70,84]++lb s.Graph.Config.N 2++lb s.Graph.Config.L 2) c3 (by simp [iQ]) (k:=2) (by decide);rw [show ((2:Nat):Int)=2 from rfl] at p1 p2 p3
  have st: ∀(k:Nat) (b:List Int) (i:Nat) (x:Int),([s.Graph.Config.N,s.Graph.Config.L,s.Graph.Config.R]:List Int)[i]? =some x→0≤x→x<65536→lQ b x 2=some (b++lb x 2)→
   oB (k+1) s b [s.Graph.Config.N,s.Graph.Config.L,s.Graph.Config.R] (([s.Graph.Config.N,s.Graph.Config.L,s.Graph.Config.R]:List Int).length:Int) (i:Int)=oB k s (b++lb x 2) [s.Graph.Config.N,s.Graph.Config.L,s.Graph.Config.R] (([s.Graph.Config.N,s.Graph.Config.L,s.Graph.Config.R]:List Int).length:Int) ((i+1:Nat):Int):=by
   intro k b i x hx h0 h1 hp;have hi:=(List.getElem?_eq_some_iff.1 hx).1;show aBr (oB k) _ _ _ _ _=_;unfold aBr;rw [bt (by simp at hi ⊢; omega),mD,hx,aA,uu h0 om,hp,aA,wr1 i (by simp at hi;omega)]
  have e1:=st (m+3) [82,65,70,84] 0 _ rfl c1 c4 p1;have e2:=st (m+2) _ 1 _ rfl c2 c5 p2;have e3:=st (m+1) _ 2 _ rfl c3 c6 p3
  have e4:oB (m+1) s (lc s.Graph.Config) [s.Graph.Config.N,s.Graph.Config.L,s.Graph.Config.R] (([s.Graph.Config.N,s.Graph.Config.L,s.Graph.Config.R]:List Int).length:Int) ((3:Nat):Int)=tU aY s (lc s.Graph.Config) s.Graph.Hashes (s.Graph.Hashes.length:Int) 0:=by
   show aBr (oB m) _ _ _ _ _=_;unfold aBr;rw [bf (by simp)]
  exact e1.trans (e2.trans (e3.trans e4))
 rw [key aY om]
 have b0:BB (lc s.Graph.Config):=by
  have h0:BB [82,65,70,84]:=by intro x hx;simp at hx;omega
  exact ((h0.app (mL _ _)).app (mL _ _)).app (mL _ _)
 have b1:BB (lc s.Graph.Config++s.Graph.Hashes.flatMap lh):=b0.app (BB.fm fun _ _=>(mL _ _).app (mL _ _));have b2:BB (lc s.Graph.Config++s.Graph.Hashes.flatMap lh++s.Slots.flatMap ls++lb s.Graph.Edges.length 4):=(b1.app (BB.fm fun _ _=>(mL _ _).app (mL _ _))).app (mL _ _);have l1:=aIq aXs s.Graph.Hashes;have l2:=aIq aXu s.Slots;have e2:=bGz nb aY 0 (lc s.Graph.Config) om (Nat.zero_le _) (by rw [aXn];omega) b0;have e3:=aYi nb aY 0 (lc s.Graph.Config++s.Graph.Hashes.flatMap lh) om (Nat.zero_le _) (by rw [List.length_append,aXn,l1];omega) b1;have e4:=bH0 nb aY 0 (lc s.Graph.Config++s.Graph.Hashes.flatMap lh++s.Slots.flatMap ls++lb s.Graph.Edges.length 4) om (Nat.zero_le _) (by rw [List.length_append,List.length_append,List.length_append,aXn,l1,l2,iQ];omega) b2;simp only [List.drop_zero] at e2 e3 e4;exact e2.trans (e3.trans e4)
end
end Go.Proofs.YtkdohhmacfoolaaGreatDoor
