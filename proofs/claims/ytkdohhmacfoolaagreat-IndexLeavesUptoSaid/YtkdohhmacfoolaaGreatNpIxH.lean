/- Facts. No condition. -/
import Derived.Test.YtkdohhmacfoolaaGreatNpIxR
set_option linter.unusedVariables false
set_option linter.unusedSimpArgs false
set_option maxRecDepth 20000
set_option maxHeartbeats 1000000
namespace Go.Proofs.YtkdohhmacfoolaaGreat
open Go Go.AM Go.Pl Go.Pt Go.Ix
def usd(l:List aR)(v:Int):Bool:=((l[v.toNat]?).map (·.Used)).getD false
theorem bEp(s:aG)(l:List Int)(hl:l.length≤1024)(hr: ∀v,v∈l→0≤v∧v<s.Slots.length): ∀(m i:Nat) (out:List Int),l.length<i+m→i≤l.length→out.length≤i→
 xM m s out l (l.length:Int) (i:Int)=(let r:=out++((l.drop i).filter (usd s.Slots)).map (kv s.Slots);(sX (fun x=>x.length) r.length (oR r)).bind fun l10=>some l10)
 |0,i,out,hm,hi,_=>by omega
 |m+1,i,out,hm,hi,ho=>by
  show aHo (xM m) _ _ _ _ _=_;unfold aHo aDu
  by_cases c:i<l.length
  ·
   obtain ⟨r0,r1⟩:=hr _ (List.getElem_mem c);have hj:l[i].toNat<s.Slots.length:=by omega
   have ei:idx s.Slots l[i]=some s.Slots[l[i].toNat]:=by
    have:=eQ hj
    rwa [Int.toNat_of_nonneg r0] at this
   have eu:usd s.Slots l[i]=s.Slots[l[i].toNat].Used:=by unfold usd;rw [List.getElem?_eq_getElem hj];rfl
   have ek:kv s.Slots l[i]=s.Slots[l[i].toNat].Key:=by unfold kv;rw [List.getElem?_eq_getElem hj];rfl
   rw [bt (by simpa using c),eQ c,aA,ei,aA,fH c,List.filter_cons,eu,wr1 i om]
   cases q:s.Slots[l[i].toNat].Used with
   |true=>
    rw [bt rfl,aA,mL (by simp;omega),aA,if_pos rfl,bEp s l hl hr m (i+1) _ om c (by simp;omega),List.map_cons,ek];simp
   |false=>
    rw [bf rfl,if_neg (by simp),bEp s l hl hr m (i+1) _ om c om]
  · rw [bf (by simpa using c),List.drop_eq_nil_of_le om];simp
section
variable {c:bY}{s:aG}{m:aT}(R:Rel c s m)
include R
theorem Rel.near_mem{j:Nat}{v:Int} :v∈aDp s.Graph.Edges (j:Int)↔0≤v∧ ∃e,e∈s.Graph.Edges∧oH (j:Int) v e=true:=by
 unfold aDp;rw [List.mem_filterMap];constructor
 ·
  rintro ⟨e,he,h⟩;obtain ⟨e1,e2,e3,_,_⟩:=R.edge he;unfold oH;split at h
  · rename_i q;cases h;exact ⟨e2,e,he,by simp [q]⟩
  ·
   split at h
   · rename_i q;cases h;exact ⟨e1,e,he,by simp [q]⟩
   · cases h
 ·
  rintro ⟨h0,e,he,h⟩;obtain ⟨e1,e2,e3,_,_⟩:=R.edge he;refine ⟨e,he,?_⟩;rcases aJh h with ⟨a,b⟩|⟨a,b⟩
  · rw [if_pos a.symm,b]
  · rw [if_neg om,if_pos b.symm,a]
theorem Rel.near_usd{j:Nat}{v:Int}(h:v∈aDp s.Graph.Edges (j:Int)):0≤v∧v<s.Slots.length∧Usd s.Slots v:=by
 obtain ⟨h0,e,he,q⟩:=R.near_mem.1 h;obtain ⟨_,_,_,u1,u2⟩:=R.edge he
 have hu:Usd s.Slots v:=by
  rcases aJh q with ⟨a,b⟩|⟨a,b⟩
  · rw [←b];exact u2
  · rw [←a];exact u1
 obtain ⟨k,hk⟩:=hu;have:=(List.getElem?_eq_some_iff.1 hk).1;exact ⟨h0,by omega,k,hk⟩
theorem Rel.near_nodup(v:Int):(aDp s.Graph.Edges v).Nodup:=by
 have pw:=(gok R.gd.ok).gc.ti.tb.pw;unfold en at pw;rw [List.pairwise_map] at pw;unfold aDp;refine List.pairwise_filterMap.2 (pw.imp_of_mem fun {a b} ha hb h x hx y hy e=>?_);obtain ⟨_,_,a3,_,_⟩:=R.edge ha;obtain ⟨_,_,b3,_,_⟩:=R.edge hb;unfold ltE at h;simp only [] at h;subst e;split at hx
 ·
  split at hy
  · cases hx;injection hy with hy;omega
  ·
   split at hy
   · cases hx;injection hy with hy;omega
   · cases hy
 ·
  split at hx
  ·
   split at hy
   · cases hx;injection hy with hy;omega
   ·
    split at hy
    · cases hx;injection hy with hy;omega
    · cases hy
  · cases hx
omit R in
theorem aZx{l:List Int}{n:Nat}(hn:l.Nodup)(hr: ∀v,v∈l→0≤v∧v<(n:Int)):l.length≤n:=by
 have:=bAf (b:=(List.range n).map fun (k:Nat)=>(k:Int)) hn fun v hv=>by
  obtain ⟨h0,h1⟩:=hr v hv;exact List.mem_map.2 ⟨v.toNat,List.mem_range.2 om,by omega⟩
 simpa using this
end
section
variable {c:bY}{s:aG}{m:aT}(R:Rel c s m)(hS:s.Slots.length≤12)(hE:s.Graph.Edges.length<10000)
include R hS hE
omit hE in
theorem ans{d a b:Int}{text:ByteArray}{vA vB:Int}{bA bB:Bool}(h5:5≤d)(h15:d≤13)(fA:Fd s a vA bA)(fB:Fd s b vB bB){rA rB:Bool}(eA:tK d=some rA)(eB:tL d=some rB)(ok:((rA&& !bA)||(rB&& !bB))=false){r:GA}(h:sD s d vA vB=some r):
 nF s ⟨d,a,b,text⟩=some (s,r):=by
 rw [aS0 R om (by simp;omega) fA fB eA eB,ok,bf (by rfl),bt (by simp;omega),h,aA]
end
open Go Go.AM Go.Pl Go.Pt Go.Ix
theorem bSr(n:Int)(l:List dC)(hl:l.length<1000000): ∀(m i:Nat),l.length<i+m→i≤l.length→ ∃r,vX m n l (l.length:Int) (i:Int)=some r∧(r= -1∨r=n)
 |0,i,hm,hi=>by omega
 |m+1,i,hm,hi=>by
  show ∃r,aCq (vX m) _ _ _ _=some r∧_;unfold aCq
  by_cases c:i<l.length
  ·
   rw [bt (by simpa using c),eQ c,aA,wr1 i om]
   by_cases q:1000<l[i].Text.size
   · rw [bt (by simp;omega)];exact ⟨_,rfl,.inl rfl⟩
   · rw [bf (by simp;omega)];exact bSr n l hl m (i+1) om c
  · rw [bf (by simpa using c)];exact ⟨_,rfl,.inr rfl⟩
theorem bTv(c:bY)(l:List dC){most:Nat}(hm:most≤1000): ∃r,tN c l (most:Int)=some r∧(r= -1∨ ∃n:Nat,r=(n:Int)∧n≤l.length∧n≤most∧c.N≤10∧c.L≤4∧c.R≤3):=by
 have hFU:=FU';unfold tN
 by_cases q:(10<c.N∨4<c.L)∨3<c.R
 · rw [bt (by simp;omega)];exact ⟨_,rfl,.inl rfl⟩
 ·
  rw [bf (by simp;omega)]
  have e:(if (most:Int)<(l.length:Int) then (most:Int) else (l.length:Int))=((min most l.length:Nat):Int):=by
   split<;>omega
  rw [e,aGh rfl om,aA];obtain ⟨r,h1,h2⟩:=bSr ((min most l.length:Nat):Int) (l.take (min most l.length)) (by simp;omega) bC 0 (by simp;omega) (Nat.zero_le _);refine ⟨r,h1,h2.imp id fun h=>⟨_,h,by omega,by omega,by omega,by omega,by omega⟩⟩
theorem bRv{c:bY}(hc:aP7 c){r:List dI}(h2:(r.length:Int)=c.L*c.R)(h3:hsB r=true)(h4: ∀x,x∈r→0≤x.A∧0≤x.B)(h5:r.length≤128):Rel c ⟨⟨c,r,[]⟩,List.replicate c.N.toNat ⟨false,0⟩⟩ ⟨c.N,[],[]⟩:=by
 have ok:=bOr hc h2 h3;refine ⟨ok,⟨ok.g,fun x hx=>h4 x hx,by simp,by show r.length<_;omega⟩,rfl,rfl,?_,List.Perm.refl _⟩;have:uk (List.replicate c.N.toNat (⟨false,0⟩:aR))=[]:=by unfold uk;simp
 show List.Perm [] (uk (List.replicate c.N.toNat ⟨false,0⟩));rw [this]
theorem start{c:bY}{words:List Int}(hw:W64 words)(hb:words.length≤1048576)(l:List dC){most:Nat}(hm:most≤1000): ∃r2 s w e,tN c l (most:Int)=some r2∧sE c ⟨words,0⟩=some (s,w,e)∧
 ((decide (r2<0)||(e !=0))=true∨((decide (r2<0)||(e !=0))=false∧ ∃n:Nat,r2=(n:Int)∧n≤l.length∧n≤most∧Rel c s ⟨c.N,[],[]⟩∧s.Slots.length≤10∧s.Graph.Edges=[])):=by
 obtain ⟨r2,f1,f2⟩:=bTv c l hm;obtain ⟨n1,n2⟩:=bA0 (c:=c) (l:=words) om hw 0
 by_cases hc:aP7 c
 ·
  obtain ⟨_,n4⟩:=n2 hc;obtain ⟨n5,n6⟩:=n4 0 rfl (Nat.zero_le _)
  cases eh:hs words (c.L*c.R).toNat 0 with
  |none=>exact ⟨r2,_,_,_,f1,n5 eh,.inl (by simp)⟩
  |some x=>
   refine ⟨r2,_,_,_,f1,n6 x.1 x.2 eh,?_⟩;rcases f2 with rfl|⟨n,rfl,q1,q2,q3,q4,q5⟩
   · exact .inl (by simp)
   · obtain ⟨k,hk,hk2⟩:=lr hc;obtain ⟨c1,c2,c3,c4⟩:=aWw words _ 0 (show hs words (c.L*c.R).toNat 0=some (x.1,x.2) from eh) (Nat.zero_le _);rw [hk,Int.toNat_natCast] at c1;refine .inr ⟨by simp,n,rfl,q1,q2,bRv hc (by rw [c1,hk]) c3 c4 om,by simp;omega,rfl⟩
 · exact ⟨r2,_,_,_,f1,n1 hc,.inl (by simp)⟩
def vs(n:Int):List Int:=(List.range n.toNat).map fun (k:Nat)=>(k:Int)
theorem bFl(n:Int):(vs n).length=n.toNat:=by simp [vs]
theorem cCt{n:Int}{i:Nat}(h:i<(vs n).length):(vs n)[i]=(i:Int):=by simp [vs]
section
variable {c:bY}{s:aG}{m:aT}(R:Rel c s m)
include R
theorem Rel.n0:0≤s.Graph.Config.N∧s.Graph.Config.N≤1024∧Rg s.Graph.Config.N s.Graph.Edges:=aP3 (gok R.gd.ok).tr
theorem Rel.kfr:Rg s.Graph.Config.N (kf s.Graph):=aPq R.n0.2.2 _
end
def bVp(s:aG)(p:Int→Int):Nat:=(vs s.Graph.Config.N).countP fun v=>v==p v&&usd s.Slots v
section
variable {c:bY}{s:aG}{m:aT}(R:Rel c s m)
include R
theorem bPx:wT s.Graph=some (pt s.Graph.Config.N (kf s.Graph)):=by
 rw [aNw R.gd.e R.gd.h,if_pos R.gd.ok]
variable (hS:s.Slots.length≤12)
include hS
omit R hS in
theorem aUv{n:Int}(f:Int→Int)(hn:n.toNat≤1024)(hl:(s.Slots.length:Int)=n): ∀(m i k:Nat),n.toNat<i+m→i≤n.toNat→k≤i→
 rI m s (k:Int) (tab n f) ((tab n f).length:Int) (i:Int)=some (((k+((vs n).drop i).countP (fun v=>v==f v&&usd s.Slots v):Nat)):Int)
 |0,i,k,hm,hi,_=>by omega
 |m+1,i,k,hm,hi,hk=>by
  show aDd (rI m) _ _ _ _ _=_;unfold aDd aDe;rw [aE4]
  by_cases c:i<n.toNat
  ·
   have hv:i<(vs n).length:=by rw [bFl];exact c
   have hs:i<s.Slots.length:=by omega
   have eu:usd s.Slots (i:Int)=s.Slots[i].Used:=by unfold usd;rw [Int.toNat_natCast,List.getElem?_eq_getElem hs];rfl
   rw [bt (aAi c),qP,aRg om,aA,eQ hs,mX,aA,wr1 i om,wr1 k om,fH hv,List.countP_cons,cCt hv,eu];have:=aUv f hn hl m (i+1);rw [aE4] at this
   have e:((((i:Int)==f (i:Int))&&(bif ((i:Int)==f (i:Int))==true then s.Slots[i] else (⟨false,0⟩:aR)).Used))=((i:Int)==f (i:Int)&&s.Slots[i].Used):=by
    cases (i:Int)==f (i:Int)<;>rfl
   rw [e]
   cases q:((i:Int)==f (i:Int)&&s.Slots[i].Used) with
   |true=>
    rw [bt rfl,this _ om c om,if_pos rfl];congr 2;omega
   |false=>
    rw [bf rfl,this _ om c om,if_neg (by simp)];rfl
  · rw [bf (aAh c),List.drop_eq_nil_of_le (by rw [bFl];omega)];rfl
end
open Go Go.AM Go.Pl Go.Pt Go.Ix
def ltP(p q:aC):Prop:=p.x0<q.x0∨p.x0=q.x0∧p.x1<q.x1
instance (p q:aC):Decidable (ltP p q):=inferInstanceAs (Decidable (_∨_))
theorem bG2(x y:Int):oK x y=some (if x<y then-1 else if y<x then 1 else 0):=by
 have h: ∀z:Int,mW z=some false:=fun z=>by unfold mW;simp
 unfold oK;rw [h x,aA,h y,aA,bf (by rfl),bf (by rfl)]
 by_cases c:x<y
 · rw [bt (by simpa using c),if_pos c]
 ·
  rw [bf (by simpa using c),if_neg c]
  by_cases d:y<x
  · rw [bt (by simpa using d),if_pos d]
  · rw [bf (by simpa using d),if_neg d]
theorem bLo(a b:Int):aEl [a,b]=some (if a=0 then b else a):=by
 unfold aEl;obtain ⟨F,hF⟩: ∃F,bC=F+3:=⟨bC-3,by have:=FU';omega⟩
 rw [hF];show vQ (aA4 (F+2)) _ _ _ _=_;unfold vQ;have i0:idx [a,b] 0=some a:=rfl;have i1:idx [a,b] 1=some b:=rfl;rw [bt (by rfl),i0,aA]
 by_cases e:a=0
 ·
  rw [bf (by simp [e]),if_pos e,show IntKind.i64.wrap ((0:Int)+1)=1 from by decide];show vQ (aA4 (F+1)) _ _ _ _=_;unfold vQ;rw [bt (by rfl),i1,aA]
  by_cases f:b=0
  · rw [bf (by simp [f]),show IntKind.i64.wrap ((1:Int)+1)=2 from by decide];show vQ (aA4 F) _ _ _ _=_;unfold vQ;rw [bf (by rfl),f]
  · rw [bt (by simp [f])]
 · rw [bt (by simp [e]),if_neg e]
theorem bPc(p q:aC): ∃c,qC p q=some c∧(c<0↔ltP p q):=by
 unfold qC;rw [bG2,aA,bG2,aA,bLo,aA];refine ⟨_,rfl,?_⟩;unfold ltP
 by_cases c:p.x0<q.x0
 · rw [if_pos c,if_neg (by decide)];exact ⟨fun _=> .inl c,fun _=>by decide⟩
 ·
  rw [if_neg c]
  by_cases d:q.x0<p.x0
  · rw [if_pos d,if_neg (by decide)];omega
  ·
   rw [if_neg d,if_pos rfl]
   by_cases e:p.x1<q.x1
   · rw [if_pos e];omega
   · rw [if_neg e];split<;>omega
section
variable {cmp:aC→aC→Option Int}(hc: ∀p q,∃c,cmp p q=some c∧(c<0↔ltP p q))
include hc
end
def fps(s:aG):List aC:=(en (kf s.Graph)).map (aFh s.Slots)
section
variable {c:bY}{s:aG}{m:aT}(R:Rel c s m)
include R
omit R in
theorem bGg:(fps s).length=(kf s.Graph).length:=by unfold fps;rw [List.length_map,aAz]
theorem bMw:(kf s.Graph).length+cl s.Graph.Config.N.toNat (en (kf s.Graph))=s.Slots.length:=by
 have h:=(gok R.gd.ok).fr;unfold foB at h;have h:=of_decide_eq_true h;have e:=R.ok.len;have e2:(kf s.Graph).length=(fo s.Graph.Edges s.Graph.Config.L).length:=rfl;have e3:cl s.Graph.Config.N.toNat (en (kf s.Graph))=cl s.Graph.Config.N.toNat (en (fo s.Graph.Edges s.Graph.Config.L)):=rfl;omega
theorem aZp(hS:s.Slots.length≤1024): ∀(n i:Nat) (out:List aC),(kf s.Graph).length<i+n→i≤(kf s.Graph).length→out.length≤i→
 vW n s out (kf s.Graph) ((kf s.Graph).length:Int) (i:Int)=(let r:=out++((en (kf s.Graph)).drop i).map (aFh s.Slots);(sX (fun x=>x.length) r.length (nA r (fun x0 x1=>qC x0 x1))).bind fun l12=>some l12)
 |0,i,out,hm,hi,_=>by omega
 |n+1,i,out,hm,hi,ho=>by
  have kl:=bMw R;show aEt (vW n) _ _ _ _ _=_;unfold aEt
  by_cases c:i<(kf s.Graph).length
  ·
   obtain ⟨h1,h2,h3,u1,u2⟩:=R.edge (bEx (List.getElem_mem c));have k1:=bEr u1;have k2:=bEr u2;have i1:idx s.Slots (kf s.Graph)[i].U=some ⟨true,kv s.Slots (kf s.Graph)[i].U⟩:=by rw [zR (k:=(kf s.Graph)[i].U.toNat) om];exact k1
   have i2:idx s.Slots (kf s.Graph)[i].V=some ⟨true,kv s.Slots (kf s.Graph)[i].V⟩:=by rw [zR (k:=(kf s.Graph)[i].V.toNat) om];exact k2
   have ec:i<(en (kf s.Graph)).length:=by rw [aAz];exact c
   have ee:(en (kf s.Graph))[i]=((kf s.Graph)[i].U,(kf s.Graph)[i].V):=List.getElem_map (fun e:aH=>(e.U,e.V))
   have ep:(⟨if kv s.Slots (kf s.Graph)[i].V<kv s.Slots (kf s.Graph)[i].U then kv s.Slots (kf s.Graph)[i].V else kv s.Slots (kf s.Graph)[i].U,if kv s.Slots (kf s.Graph)[i].U<kv s.Slots (kf s.Graph)[i].V then kv s.Slots (kf s.Graph)[i].V else kv s.Slots (kf s.Graph)[i].U⟩:aC)=aFh s.Slots ((kf s.Graph)[i].U,(kf s.Graph)[i].V):=by
    unfold aFh pr2;simp only []
    by_cases q:kv s.Slots (kf s.Graph)[i].V<kv s.Slots (kf s.Graph)[i].U
    · rw [if_pos q,if_pos q,if_neg om]
    ·
     rw [if_neg q,if_neg q]
     by_cases q':kv s.Slots (kf s.Graph)[i].U<kv s.Slots (kf s.Graph)[i].V
     · rw [if_pos q']
     ·
      rw [if_neg q'];have:kv s.Slots (kf s.Graph)[i].U=kv s.Slots (kf s.Graph)[i].V:=by omega
      rw [this]
   rw [bt (aAi c),eQ c,aA,i1,aA,i2,aA];simp only [];rw [ep,mL (by simp;omega),aA,wr1 i om,aZp hS n (i+1) _ om c (by simp;omega),fH ec,List.map_cons,ee];simp
  · rw [bf (aAh c),List.drop_eq_nil_of_le (by rw [aAz];omega)];simp
end
open Go Go.AM Go.Pl Go.Pt Go.Ix
def KU(m:aT):Prop:= ∀x,x∈m.Keys→0≤x∧x<18446744073709551616
theorem cnd{β:Type}{c:Bool}{x y o:β}(h:(bif c then x else y)=o):(c=true∧x=o)∨(c=false∧y=o):=by
 cases c with
 |true=>exact .inl ⟨rfl,h⟩
 |false=>exact .inr ⟨rfl,h⟩
theorem aWa{α:Type}{l xs r:List α}(h:app l xs=some r):r=l++xs:=by
 unfold app at h;split at h
 · exact (Option.some.inj h).symm
 · cases h
theorem bH7{α:Type}{l r:List α}{a b:Int}(h:slc l a b=some r): ∀x,x∈r→x∈l:=by
 unfold slc at h;split at h
 · cases h;exact fun x hx=>List.mem_of_mem_drop (List.mem_of_mem_take hx)
 · cases h
theorem aZ6{m k:aT}{d a b f:Int}(h:mV m d a b=some (k,f)): ∀x,x∈k.Keys→x∈m.Keys∨x=a:=by
 have same: ∀ {f':Int},some (m,f')=some (k,f)→ ∀x,x∈k.Keys→x∈m.Keys∨x=a:=fun e x hx=>by
  have:=(Prod.mk.inj (Option.some.inj e)).1;subst this;exact .inl hx
 unfold mV at h;obtain ⟨x2,_,h⟩:=bnd h;rcases cnd h with ⟨_,h⟩|⟨_,h⟩
 ·
  rcases cnd h with ⟨_,h⟩|⟨_,h⟩
  · exact same h
  rcases cnd h with ⟨_,h⟩|⟨_,h⟩
  · exact same h
  obtain ⟨l4,h3,h⟩:=bnd h;obtain ⟨l6,h5,h⟩:=bnd h;cases h;intro x hx;rw [show (aT.mk m.Most l6 m.Pairs).Keys=l6 from rfl,aWa h5,aWa h3,List.nil_append,List.mem_append] at hx;exact hx.imp id fun q=>by simpa using q
 ·
  obtain ⟨x8,_,h⟩:=bnd h;rcases cnd h with ⟨_,h⟩|⟨_,h⟩
  · exact same h
  rcases cnd h with ⟨_,h⟩|⟨_,h⟩
  ·
   obtain ⟨x10,_,h⟩:=bnd h;rcases cnd h with ⟨_,h⟩|⟨_,h⟩
   · exact same h
   obtain ⟨l12,g1,h⟩:=bnd h;obtain ⟨l14,g2,h⟩:=bnd h;obtain ⟨l16,g3,h⟩:=bnd h;obtain ⟨l18,g4,h⟩:=bnd h;cases h;intro x hx;rw [show (aT.mk m.Most l18 m.Pairs).Keys=l18 from rfl,aWa g4,aWa g2,List.nil_append,List.mem_append] at hx;exact .inl (hx.elim (bH7 g1 x) (bH7 g3 x))
  ·
   obtain ⟨x20,_,h⟩:=bnd h;obtain ⟨x22,_,h⟩:=bnd h;rcases cnd h with ⟨_,h⟩|⟨_,h⟩
   ·
    rcases cnd h with ⟨_,h⟩|⟨_,h⟩
    · exact same h
    obtain ⟨_,_,h⟩:=bnd h;obtain ⟨_,_,h⟩:=bnd h;obtain ⟨_,_,h⟩:=bnd h;obtain ⟨_,_,h⟩:=bnd h;cases h;exact fun x hx=> .inl hx
   ·
    rcases cnd h with ⟨_,h⟩|⟨_,h⟩
    · exact same h
    rcases cnd h with ⟨_,h⟩|⟨_,h⟩
    · exact same h
    obtain ⟨_,_,h⟩:=bnd h;obtain ⟨_,_,h⟩:=bnd h;cases h;exact fun x hx=> .inl hx
theorem KU.change{m k:aT}{d a b f:Int}(hk:KU m)(ha:0≤a∧a<18446744073709551616)(h:mV m d a b=some (k,f)):KU k:=fun x hx=>
 (aZ6 h x hx).elim (hk x) fun e=>e▸ha
section
variable {c:bY}{s:aG}{m:aT}(R:Rel c s m)(K:KU m)
include R K
end
open Go Go.AM Go.Pl Go.Pt Go.Ix
section
variable (rec2:aG→aT→Int→List Int→Int→Int→Option Bool)(rec3:aG→aT→Int→Int→List Int→List Int→Int→Int→List Int→Int→Int→Option Bool)
end
section
variable {c:bY}{s:aG}{mm:aT}(R:Rel c s mm)(hS:s.Slots.length≤10)
include R hS
end
open Go Go.AM Go.Pl Go.Pt Go.Ix
section
variable {c:bY}{s:aG}{m:aT}(R:Rel c s m)
include R
variable (hS:s.Slots.length≤10)(K:KU m)
include hS K
end
theorem wfk{x:Int}(h:(Lit.int .u64 x).wf=true):0≤x∧x<18446744073709551616:=cCu (l:=[x]) (P:=True) ⟨fun y hy=>by
 have:y=x:=by simpa using hy
 subst this;exact h,trivial⟩ x (by simp)
open Go Go.AM Go.Pl Go.Pt Go.Ix
section
variable {c:bY}{s:aG}{m:aT}(R:Rel c s m)
include R
end
section
variable (rec2:aG→aT→Int→List Int→Int→Int→Option Bool)(rec3:aG→aT→Int→Int→List Int→List Int→Int→Int→List Int→Int→Int→Option Bool)
end
section
variable {c:bY}{s:aG}{m:aT}(R:Rel c s m)
include R
variable (hS:s.Slots.length≤10)(K:KU m)
include hS K
end
end Go.Proofs.YtkdohhmacfoolaaGreat
