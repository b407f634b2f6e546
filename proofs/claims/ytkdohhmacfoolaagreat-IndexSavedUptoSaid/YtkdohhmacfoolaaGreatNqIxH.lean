/- Facts. No condition. -/
import Derived.Test.YtkdohhmacfoolaaGreatNqIxR
set_option linter.unusedVariables false
set_option linter.unusedSimpArgs false
set_option maxRecDepth 20000
set_option maxHeartbeats 1000000
namespace Go.Proofs.YtkdohhmacfoolaaGreat
open Go Go.AM Go.Pl Go.Pt Go.Ix
def usd(l:List aR)(v:Int):Bool:=((l[v.toNat]?).map (·.Used)).getD false
theorem bFu(s:aF)(l:List Int)(hl:l.length≤1024)(hr: ∀v,v∈l→0≤v∧v<s.Slots.length): ∀(m i:Nat) (out:List Int),l.length<i+m→i≤l.length→out.length≤i→
 xY m s out l (l.length:Int) (i:Int)=(let r:=out++((l.drop i).filter (usd s.Slots)).map (kv s.Slots);(tM (fun x=>x.length) r.length (oX r)).bind fun l10=>some l10)
 |0,i,out,hm,hi,_=>by omega
 |m+1,i,out,hm,hi,ho=>by
  show aI7 (xY m) _ _ _ _ _=_;unfold aI7 aE8
  by_cases c:i<l.length
  ·
   obtain ⟨r0,r1⟩:=hr _ (List.getElem_mem c);have hj:l[i].toNat<s.Slots.length:=by omega
   have ei:idx s.Slots l[i]=some s.Slots[l[i].toNat]:=by
    have:=eC hj
    rwa [Int.toNat_of_nonneg r0] at this
   have eu:usd s.Slots l[i]=s.Slots[l[i].toNat].Used:=by unfold usd;rw [List.getElem?_eq_getElem hj];rfl
   have ek:kv s.Slots l[i]=s.Slots[l[i].toNat].Key:=by unfold kv;rw [List.getElem?_eq_getElem hj];rfl
   rw [bt (by simpa using c),eC c,aA,ei,aA,fC c,List.filter_cons,eu,wr1 i om]
   cases q:s.Slots[l[i].toNat].Used with
   |true=>
    rw [bt rfl,aA,mM (by simp;omega),aA,if_pos rfl,bFu s l hl hr m (i+1) _ om c (by simp;omega),List.map_cons,ek];simp
   |false=>
    rw [bf rfl,if_neg (by simp),bFu s l hl hr m (i+1) _ om c om]
  · rw [bf (by simpa using c),List.drop_eq_nil_of_le om];simp
section
variable {c:bZ}{s:aF}{m:aT}(R:Rel c s m)
include R
theorem Rel.near_mem{j:Nat}{v:Int} :v∈aE3 s.Graph.Edges (j:Int)↔0≤v∧ ∃e,e∈s.Graph.Edges∧oN (j:Int) v e=true:=by
 unfold aE3;rw [List.mem_filterMap];constructor
 ·
  rintro ⟨e,he,h⟩;obtain ⟨e1,e2,e3,_,_⟩:=R.edge he;unfold oN;split at h
  · rename_i q;cases h;exact ⟨e2,e,he,by simp [q]⟩
  ·
   split at h
   · rename_i q;cases h;exact ⟨e1,e,he,by simp [q]⟩
   · cases h
 ·
  rintro ⟨h0,e,he,h⟩;obtain ⟨e1,e2,e3,_,_⟩:=R.edge he;refine ⟨e,he,?_⟩;rcases aJz h with ⟨a,b⟩|⟨a,b⟩
  · rw [if_pos a.symm,b]
  · rw [if_neg om,if_pos b.symm,a]
theorem Rel.near_usd{j:Nat}{v:Int}(h:v∈aE3 s.Graph.Edges (j:Int)):0≤v∧v<s.Slots.length∧Usd s.Slots v:=by
 obtain ⟨h0,e,he,q⟩:=R.near_mem.1 h;obtain ⟨_,_,_,u1,u2⟩:=R.edge he
 have hu:Usd s.Slots v:=by
  rcases aJz q with ⟨a,b⟩|⟨a,b⟩
  · rw [←b];exact u2
  · rw [←a];exact u1
 obtain ⟨k,hk⟩:=hu;have:=(List.getElem?_eq_some_iff.1 hk).1;exact ⟨h0,by omega,k,hk⟩
theorem Rel.near_nodup(v:Int):(aE3 s.Graph.Edges v).Nodup:=by
 have pw:=(gok R.gd.ok).gc.ti.tb.pw;unfold en at pw;rw [List.pairwise_map] at pw;unfold aE3;refine List.pairwise_filterMap.2 (pw.imp_of_mem fun {a b} ha hb h x hx y hy e=>?_);obtain ⟨_,_,a3,_,_⟩:=R.edge ha;obtain ⟨_,_,b3,_,_⟩:=R.edge hb;unfold ltE at h;simp only [] at h;subst e;split at hx
 ·
  split at hy
  · cases hx;injection hy with hy;omega
  ·
   split at hy
   · cases hx;injection hy with hy;omega
   · cases hy
 ·
  split at hx
  ·
   split at hy
   · cases hx;injection hy with hy;omega
   ·
    split at hy
    · cases hx;injection hy with hy;omega
    · cases hy
  · cases hx
omit R in
theorem bAz{l:List Int}{n:Nat}(hn:l.Nodup)(hr: ∀v,v∈l→0≤v∧v<(n:Int)):l.length≤n:=by
 have:=bBg (b:=(List.range n).map fun (k:Nat)=>(k:Int)) hn fun v hv=>by
  obtain ⟨h0,h1⟩:=hr v hv;exact List.mem_map.2 ⟨v.toNat,List.mem_range.2 om,by omega⟩
 simpa using this
end
section
variable {c:bZ}{s:aF}{m:aT}(R:Rel c s m)(hS:s.Slots.length≤12)(hE:s.Graph.Edges.length<10000)
include R hS hE
omit hE in
theorem ans{d a b:Int}{text:ByteArray}{vA vB:Int}{bA bB:Bool}(h5:5≤d)(h15:d≤13)(fA:Fd s a vA bA)(fB:Fd s b vB bB){rA rB:Bool}(eA:tX d=some rA)(eB:tY d=some rB)(ok:((rA&& !bA)||(rB&& !bB))=false){r:GA}(h:rF s d vA vB=some r):
 jB s ⟨d,a,b,text⟩=some (s,r):=by
 rw [aNh R om (by simp;omega) fA fB eA eB,ok,bf (by rfl),bt (by simp;omega),h,aA]
end
open Go Go.AM Go.Pl Go.Pt Go.Ix
theorem bUa(n:Int)(l:List bK)(hl:l.length<1000000): ∀(m i:Nat),l.length<i+m→i≤l.length→ ∃r,wH m n l (l.length:Int) (i:Int)=some r∧(r= -1∨r=n)
 |0,i,hm,hi=>by omega
 |m+1,i,hm,hi=>by
  show ∃r,aD2 (wH m) _ _ _ _=some r∧_;unfold aD2
  by_cases c:i<l.length
  ·
   rw [bt (by simpa using c),eC c,aA,wr1 i om]
   by_cases q:1000<l[i].Text.size
   · rw [bt (by simp;omega)];exact ⟨_,rfl,.inl rfl⟩
   · rw [bf (by simp;omega)];exact bUa n l hl m (i+1) om c
  · rw [bf (by simpa using c)];exact ⟨_,rfl,.inr rfl⟩
theorem bNx(c:bZ)(l:List bK){most:Nat}(hm:most≤1000): ∃r,rL c l (most:Int)=some r∧(r= -1∨ ∃n:Nat,r=(n:Int)∧n≤l.length∧n≤most∧c.N≤10∧c.L≤4∧c.R≤3):=by
 have hFU:=FU';unfold rL
 by_cases q:(10<c.N∨4<c.L)∨3<c.R
 · rw [bt (by simp;omega)];exact ⟨_,rfl,.inl rfl⟩
 ·
  rw [bf (by simp;omega)]
  have e:(if (most:Int)<(l.length:Int) then (most:Int) else (l.length:Int))=((min most l.length:Nat):Int):=by
   split<;>omega
  rw [e,aFi rfl om,aA];obtain ⟨r,h1,h2⟩:=bUa ((min most l.length:Nat):Int) (l.take (min most l.length)) (by simp;omega) aZ 0 (by simp;omega) (Nat.zero_le _);refine ⟨r,h1,h2.imp id fun h=>⟨_,h,by omega,by omega,by omega,by omega,by omega⟩⟩
theorem bTc{c:bZ}(hc:aQ4 c){r:List dI}(h2:(r.length:Int)=c.L*c.R)(h3:hsB r=true)(h4: ∀x,x∈r→0≤x.A∧0≤x.B)(h5:r.length≤128):Rel c ⟨⟨c,r,[]⟩,List.replicate c.N.toNat ⟨false,0⟩⟩ ⟨c.N,[],[]⟩:=by
 have ok:=bQ5 hc h2 h3;refine ⟨ok,⟨ok.g,fun x hx=>h4 x hx,by simp,by show r.length<_;omega⟩,rfl,rfl,?_,List.Perm.refl _⟩;have:uk (List.replicate c.N.toNat (⟨false,0⟩:aR))=[]:=by unfold uk;simp
 show List.Perm [] (uk (List.replicate c.N.toNat ⟨false,0⟩));rw [this]
theorem start{c:bZ}{words:List Int}(hw:W64 words)(hb:words.length≤1048576)(l:List bK){most:Nat}(hm:most≤1000): ∃r2 s w e,rL c l (most:Int)=some r2∧sP c ⟨words,0⟩=some (s,w,e)∧
 ((decide (r2<0)||(e !=0))=true∨((decide (r2<0)||(e !=0))=false∧ ∃n:Nat,r2=(n:Int)∧n≤l.length∧n≤most∧Rel c s ⟨c.N,[],[]⟩∧s.Slots.length≤10∧s.Graph.Edges=[])):=by
 obtain ⟨r2,f1,f2⟩:=bNx c l hm;obtain ⟨n1,n2⟩:=bB2 (c:=c) (l:=words) om hw 0
 by_cases hc:aQ4 c
 ·
  obtain ⟨_,n4⟩:=n2 hc;obtain ⟨n5,n6⟩:=n4 0 rfl (Nat.zero_le _)
  cases eh:hs words (c.L*c.R).toNat 0 with
  |none=>exact ⟨r2,_,_,_,f1,n5 eh,.inl (by simp)⟩
  |some x=>
   refine ⟨r2,_,_,_,f1,n6 x.1 x.2 eh,?_⟩;rcases f2 with rfl|⟨n,rfl,q1,q2,q3,q4,q5⟩
   · exact .inl (by simp)
   · obtain ⟨k,hk,hk2⟩:=lr hc;obtain ⟨c1,c2,c3,c4⟩:=aXv words _ 0 (show hs words (c.L*c.R).toNat 0=some (x.1,x.2) from eh) (Nat.zero_le _);rw [hk,Int.toNat_natCast] at c1;refine .inr ⟨by simp,n,rfl,q1,q2,bTc hc (by rw [c1,hk]) c3 c4 om,by simp;omega,rfl⟩
 · exact ⟨r2,_,_,_,f1,n1 hc,.inl (by simp)⟩
def vs(n:Int):List Int:=(List.range n.toNat).map fun (k:Nat)=>(k:Int)
theorem bGq(n:Int):(vs n).length=n.toNat:=by simp [vs]
theorem cEe{n:Int}{i:Nat}(h:i<(vs n).length):(vs n)[i]=(i:Int):=by simp [vs]
section
variable {c:bZ}{s:aF}{m:aT}(R:Rel c s m)
include R
theorem Rel.n0:0≤s.Graph.Config.N∧s.Graph.Config.N≤1024∧Rg s.Graph.Config.N s.Graph.Edges:=aQ0 (gok R.gd.ok).tr
theorem Rel.kfr:Rg s.Graph.Config.N (kf s.Graph):=aQm R.n0.2.2 _
end
def bX5(s:aF)(p:Int→Int):Nat:=(vs s.Graph.Config.N).countP fun v=>v==p v&&usd s.Slots v
section
variable {c:bZ}{s:aF}{m:aT}(R:Rel c s m)
include R
theorem bHs:xH s.Graph=some (pt s.Graph.Config.N (kf s.Graph)):=by
 rw [aOs R.gd.e R.gd.h,if_pos R.gd.ok]
variable (hS:s.Slots.length≤12)
include hS
omit R hS in
theorem aVv{n:Int}(f:Int→Int)(hn:n.toNat≤1024)(hl:(s.Slots.length:Int)=n): ∀(m i k:Nat),n.toNat<i+m→i≤n.toNat→k≤i→
 rS m s (k:Int) (tab n f) ((tab n f).length:Int) (i:Int)=some (((k+((vs n).drop i).countP (fun v=>v==f v&&usd s.Slots v):Nat)):Int)
 |0,i,k,hm,hi,_=>by omega
 |m+1,i,k,hm,hi,hk=>by
  show aDr (rS m) _ _ _ _ _=_;unfold aDr aDs;rw [aEi]
  by_cases c:i<n.toNat
  ·
   have hv:i<(vs n).length:=by rw [bGq];exact c
   have hs:i<s.Slots.length:=by omega
   have eu:usd s.Slots (i:Int)=s.Slots[i].Used:=by unfold usd;rw [Int.toNat_natCast,List.getElem?_eq_getElem hs];rfl
   rw [bt (aA1 c),qW,aSe om,aA,eC hs,mZ,aA,wr1 i om,wr1 k om,fC hv,List.countP_cons,cEe hv,eu];have:=aVv f hn hl m (i+1);rw [aEi] at this
   have e:((((i:Int)==f (i:Int))&&(bif ((i:Int)==f (i:Int))==true then s.Slots[i] else (⟨false,0⟩:aR)).Used))=((i:Int)==f (i:Int)&&s.Slots[i].Used):=by
    cases (i:Int)==f (i:Int)<;>rfl
   rw [e]
   cases q:((i:Int)==f (i:Int)&&s.Slots[i].Used) with
   |true=>
    rw [bt rfl,this _ om c om,if_pos rfl];congr 2;omega
   |false=>
    rw [bf rfl,this _ om c om,if_neg (by simp)];rfl
  · rw [bf (aA0 c),List.drop_eq_nil_of_le (by rw [bGq];omega)];rfl
end
open Go Go.AM Go.Pl Go.Pt Go.Ix
def ltP(p q:aC):Prop:=p.x0<q.x0∨p.x0=q.x0∧p.x1<q.x1
instance (p q:aC):Decidable (ltP p q):=inferInstanceAs (Decidable (_∨_))
theorem bH6(x y:Int):oQ x y=some (if x<y then-1 else if y<x then 1 else 0):=by
 have h: ∀z:Int,mY z=some false:=fun z=>by unfold mY;simp
 unfold oQ;rw [h x,aA,h y,aA,bf (by rfl),bf (by rfl)]
 by_cases c:x<y
 · rw [bt (by simpa using c),if_pos c]
 ·
  rw [bf (by simpa using c),if_neg c]
  by_cases d:y<x
  · rw [bt (by simpa using d),if_pos d]
  · rw [bf (by simpa using d),if_neg d]
theorem bN5(a b:Int):aEy [a,b]=some (if a=0 then b else a):=by
 unfold aEy;obtain ⟨F,hF⟩: ∃F,aZ=F+3:=⟨aZ-3,by have:=FU';omega⟩
 rw [hF];show vZ (aAd (F+2)) _ _ _ _=_;unfold vZ;have i0:idx [a,b] 0=some a:=rfl;have i1:idx [a,b] 1=some b:=rfl;rw [bt (by rfl),i0,aA]
 by_cases e:a=0
 ·
  rw [bf (by simp [e]),if_pos e,show IntKind.i64.wrap ((0:Int)+1)=1 from by decide];show vZ (aAd (F+1)) _ _ _ _=_;unfold vZ;rw [bt (by rfl),i1,aA]
  by_cases f:b=0
  · rw [bf (by simp [f]),show IntKind.i64.wrap ((1:Int)+1)=2 from by decide];show vZ (aAd F) _ _ _ _=_;unfold vZ;rw [bf (by rfl),f]
  · rw [bt (by simp [f])]
 · rw [bt (by simp [e]),if_neg e]
theorem bQr(p q:aC): ∃c,qI p q=some c∧(c<0↔ltP p q):=by
 unfold qI;rw [bH6,aA,bH6,aA,bN5,aA];refine ⟨_,rfl,?_⟩;unfold ltP
 by_cases c:p.x0<q.x0
 · rw [if_pos c,if_neg (by decide)];exact ⟨fun _=> .inl c,fun _=>by decide⟩
 ·
  rw [if_neg c]
  by_cases d:q.x0<p.x0
  · rw [if_pos d,if_neg (by decide)];omega
  ·
   rw [if_neg d,if_pos rfl]
   by_cases e:p.x1<q.x1
   · rw [if_pos e];omega
   · rw [if_neg e];split<;>omega
section
variable {cmp:aC→aC→Option Int}(hc: ∀p q,∃c,cmp p q=some c∧(c<0↔ltP p q))
include hc
end
def fps(s:aF):List aC:=(en (kf s.Graph)).map (aFu s.Slots)
section
variable {c:bZ}{s:aF}{m:aT}(R:Rel c s m)
include R
omit R in
theorem bHl:(fps s).length=(kf s.Graph).length:=by unfold fps;rw [List.length_map,aB6]
theorem bOa:(kf s.Graph).length+cl s.Graph.Config.N.toNat (en (kf s.Graph))=s.Slots.length:=by
 have h:=(gok R.gd.ok).fr;unfold foB at h;have h:=of_decide_eq_true h;have e:=R.ok.len;have e2:(kf s.Graph).length=(fo s.Graph.Edges s.Graph.Config.L).length:=rfl;have e3:cl s.Graph.Config.N.toNat (en (kf s.Graph))=cl s.Graph.Config.N.toNat (en (fo s.Graph.Edges s.Graph.Config.L)):=rfl;omega
theorem bAq(hS:s.Slots.length≤1024): ∀(n i:Nat) (out:List aC),(kf s.Graph).length<i+n→i≤(kf s.Graph).length→out.length≤i→
 wG n s out (kf s.Graph) ((kf s.Graph).length:Int) (i:Int)=(let r:=out++((en (kf s.Graph)).drop i).map (aFu s.Slots);(tM (fun x=>x.length) r.length (nC r (fun x0 x1=>qI x0 x1))).bind fun l12=>some l12)
 |0,i,out,hm,hi,_=>by omega
 |n+1,i,out,hm,hi,ho=>by
  have kl:=bOa R;show aF6 (wG n) _ _ _ _ _=_;unfold aF6
  by_cases c:i<(kf s.Graph).length
  ·
   obtain ⟨h1,h2,h3,u1,u2⟩:=R.edge (bG0 (List.getElem_mem c));have k1:=bFw u1;have k2:=bFw u2;have i1:idx s.Slots (kf s.Graph)[i].U=some ⟨true,kv s.Slots (kf s.Graph)[i].U⟩:=by rw [zZ (k:=(kf s.Graph)[i].U.toNat) om];exact k1
   have i2:idx s.Slots (kf s.Graph)[i].V=some ⟨true,kv s.Slots (kf s.Graph)[i].V⟩:=by rw [zZ (k:=(kf s.Graph)[i].V.toNat) om];exact k2
   have ec:i<(en (kf s.Graph)).length:=by rw [aB6];exact c
   have ee:(en (kf s.Graph))[i]=((kf s.Graph)[i].U,(kf s.Graph)[i].V):=List.getElem_map (fun e:aH=>(e.U,e.V))
   have ep:(⟨if kv s.Slots (kf s.Graph)[i].V<kv s.Slots (kf s.Graph)[i].U then kv s.Slots (kf s.Graph)[i].V else kv s.Slots (kf s.Graph)[i].U,if kv s.Slots (kf s.Graph)[i].U<kv s.Slots (kf s.Graph)[i].V then kv s.Slots (kf s.Graph)[i].V else kv s.Slots (kf s.Graph)[i].U⟩:aC)=aFu s.Slots ((kf s.Graph)[i].U,(kf s.Graph)[i].V):=by
    unfold aFu pr2;simp only []
    by_cases q:kv s.Slots (kf s.Graph)[i].V<kv s.Slots (kf s.Graph)[i].U
    · rw [if_pos q,if_pos q,if_neg om]
    ·
     rw [if_neg q,if_neg q]
     by_cases q':kv s.Slots (kf s.Graph)[i].U<kv s.Slots (kf s.Graph)[i].V
     · rw [if_pos q']
     ·
      rw [if_neg q'];have:kv s.Slots (kf s.Graph)[i].U=kv s.Slots (kf s.Graph)[i].V:=by omega
      rw [this]
   rw [bt (aA1 c),eC c,aA,i1,aA,i2,aA];simp only [];rw [ep,mM (by simp;omega),aA,wr1 i om,bAq hS n (i+1) _ om c (by simp;omega),fC ec,List.map_cons,ee];simp
  · rw [bf (aA0 c),List.drop_eq_nil_of_le (by rw [aB6];omega)];simp
end
open Go Go.AM Go.Pl Go.Pt Go.Ix
def KU(m:aT):Prop:= ∀x,x∈m.Keys→0≤x∧x<18446744073709551616
theorem cnd{β:Type}{c:Bool}{x y o:β}(h:(bif c then x else y)=o):(c=true∧x=o)∨(c=false∧y=o):=by
 cases c with
 |true=>exact .inl ⟨rfl,h⟩
 |false=>exact .inr ⟨rfl,h⟩
theorem aXa{α:Type}{l xs r:List α}(h:app l xs=some r):r=l++xs:=by
 unfold app at h;split at h
 · exact (Option.some.inj h).symm
 · cases h
theorem bIe{α:Type}{l r:List α}{a b:Int}(h:slc l a b=some r): ∀x,x∈r→x∈l:=by
 unfold slc at h;split at h
 · cases h;exact fun x hx=>List.mem_of_mem_drop (List.mem_of_mem_take hx)
 · cases h
theorem bA6{m k:aT}{d a b f:Int}(h:mX m d a b=some (k,f)): ∀x,x∈k.Keys→x∈m.Keys∨x=a:=by
 have same: ∀ {f':Int},some (m,f')=some (k,f)→ ∀x,x∈k.Keys→x∈m.Keys∨x=a:=fun e x hx=>by
  have:=(Prod.mk.inj (Option.some.inj e)).1;subst this;exact .inl hx
 unfold mX at h;obtain ⟨x2,_,h⟩:=bnd h;rcases cnd h with ⟨_,h⟩|⟨_,h⟩
 ·
  rcases cnd h with ⟨_,h⟩|⟨_,h⟩
  · exact same h
  rcases cnd h with ⟨_,h⟩|⟨_,h⟩
  · exact same h
  obtain ⟨l4,h3,h⟩:=bnd h;obtain ⟨l6,h5,h⟩:=bnd h;cases h;intro x hx;rw [show (aT.mk m.Most l6 m.Pairs).Keys=l6 from rfl,aXa h5,aXa h3,List.nil_append,List.mem_append] at hx;exact hx.imp id fun q=>by simpa using q
 ·
  obtain ⟨x8,_,h⟩:=bnd h;rcases cnd h with ⟨_,h⟩|⟨_,h⟩
  · exact same h
  rcases cnd h with ⟨_,h⟩|⟨_,h⟩
  ·
   obtain ⟨x10,_,h⟩:=bnd h;rcases cnd h with ⟨_,h⟩|⟨_,h⟩
   · exact same h
   obtain ⟨l12,g1,h⟩:=bnd h;obtain ⟨l14,g2,h⟩:=bnd h;obtain ⟨l16,g3,h⟩:=bnd h;obtain ⟨l18,g4,h⟩:=bnd h;cases h;intro x hx;rw [show (aT.mk m.Most l18 m.Pairs).Keys=l18 from rfl,aXa g4,aXa g2,List.nil_append,List.mem_append] at hx;exact .inl (hx.elim (bIe g1 x) (bIe g3 x))
  ·
   obtain ⟨x20,_,h⟩:=bnd h;obtain ⟨x22,_,h⟩:=bnd h;rcases cnd h with ⟨_,h⟩|⟨_,h⟩
   ·
    rcases cnd h with ⟨_,h⟩|⟨_,h⟩
    · exact same h
    obtain ⟨_,_,h⟩:=bnd h;obtain ⟨_,_,h⟩:=bnd h;obtain ⟨_,_,h⟩:=bnd h;obtain ⟨_,_,h⟩:=bnd h;cases h;exact fun x hx=> .inl hx
   ·
    rcases cnd h with ⟨_,h⟩|⟨_,h⟩
    · exact same h
    rcases cnd h with ⟨_,h⟩|⟨_,h⟩
    · exact same h
    obtain ⟨_,_,h⟩:=bnd h;obtain ⟨_,_,h⟩:=bnd h;cases h;exact fun x hx=> .inl hx
theorem KU.change{m k:aT}{d a b f:Int}(hk:KU m)(ha:0≤a∧a<18446744073709551616)(h:mX m d a b=some (k,f)):KU k:=fun x hx=>
 (bA6 h x hx).elim (hk x) fun e=>e▸ha
section
variable {c:bZ}{s:aF}{m:aT}(R:Rel c s m)(K:KU m)
include R K
end
open Go Go.AM Go.Pl Go.Pt Go.Ix
theorem bGm(b w:Bool):aE9 (GA.b 4 b) w=some (b==w):=rfl
theorem bCi(n w:Int):aCr (GA.i 3 .i64 n) w=some (n==w):=rfl
section
variable (rec2:aF→aT→Int→List Int→Int→Int→Option Bool)(rec3:aF→aT→Int→Int→List Int→List Int→Int→Int→List Int→Int→Int→Option Bool)
end
section
variable {c:bZ}{s:aF}{mm:aT}(R:Rel c s mm)(hS:s.Slots.length≤10)
include R hS
end
open Go Go.AM Go.Pl Go.Pt Go.Ix
theorem aZa(l w:List Int)(hl:l.length<1000000000):sZ (GA.lu 24 l) w=some (decide (l=w)):=by
 unfold sZ;rw [show aNp 24 (GA.lu 24 l)=some (l,true) from rfl,aA];simp only [];rw [gt' (by rfl),aYq l w hl,aA,Bool.true_and]
section
variable {c:bZ}{s:aF}{m:aT}(R:Rel c s m)
include R
variable (hS:s.Slots.length≤10)(K:KU m)
include hS K
end
theorem wfk{x:Int}(h:(Lit.int .u64 x).wf=true):0≤x∧x<18446744073709551616:=cEf (l:=[x]) (P:=True) ⟨fun y hy=>by
 have:y=x:=by simpa using hy
 subst this;exact h,trivial⟩ x (by simp)
open Go Go.AM Go.Pl Go.Pt Go.Ix
section
variable {c:bZ}{s:aF}{m:aT}(R:Rel c s m)
include R
end
section
variable (rec2:aF→aT→Int→List Int→Int→Int→Option Bool)(rec3:aF→aT→Int→Int→List Int→List Int→Int→Int→List Int→Int→Int→Option Bool)
end
section
variable {c:bZ}{s:aF}{m:aT}(R:Rel c s m)
include R
variable (hS:s.Slots.length≤10)(K:KU m)
include hS K
end
end Go.Proofs.YtkdohhmacfoolaaGreat
