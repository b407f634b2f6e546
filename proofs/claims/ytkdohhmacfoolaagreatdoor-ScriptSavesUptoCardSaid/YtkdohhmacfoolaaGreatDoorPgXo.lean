/- Facts. No condition. -/
import Derived.Test.YtkdohhmacfoolaaGreatDoorPgTir
import Derived.Test.YtkdohhmacfoolaaGreatDoorPgSeaM
set_option linter.unusedVariables false
set_option linter.unusedSimpArgs false
namespace Go.Proofs.YtkdohhmacfoolaaGreatDoor
open Go.Pt
def aTq(h:cI)(x:Nat):Nat:=((h.A.toNat%2305843009213693951)*(x%2305843009213693951)%2305843009213693951+h.B.toNat%2305843009213693951)%2305843009213693951
def aI6(j:Nat):Nat:=if j<61 then 2305843009213693951/2^j else 0
def aEf(h:cI)(j:Nat)(names:List Nat):Nat:=names.foldl (fun w x=>if aTq h x<aI6 j then w ^^^ x else w) 0
def sG(hs:List cI)(V:Nat)(names:List Nat):List Nat:=(List.range (hs.length*V)).map fun k=>aEf (hs.getD (k/V) ⟨0,0⟩) (k%V) names
def nmQ(q:E):Nat:=q.1.toNat*16777216+q.2.toNat
def inQ(p:Int→Int)(v:Int)(q:E):Bool:=(p q.1==p v) !=(p q.2==p v)
def bHv(p:Int→Int)(v:Int)(l:List E):List E:=l.filter (inQ p v)
def bH3(hs:List cI)(V:Nat)(c:List E):Option E:=(sG hs V (c.map nmQ)).findSome? fun w=>c.find? fun q=>nmQ q==w
def uv(e:aE):E:=(e.U,e.V)
def aLi(p:Int→Int)(v:Int)(l:List aE):List aE:=l.filter fun e=>inQ p v (uv e)
def bBu(hs:List cI)(V:Nat)(c:List aE):Option aE:=(sG hs V (c.map fun e=>nmQ (uv e))).findSome? fun w=>c.find? fun e=>nmQ (uv e)==w
theorem bRs(p:Int→Int)(v:Int)(l:List aE):en (aLi p v l)=bHv p v (en l):=by
 unfold en aLi bHv;rw [List.filter_map];rfl
theorem bA6(f:E→Bool): ∀c:List aE,(c.find? fun e=>f (uv e)).map uv=(en c).find? f
 |[]=>rfl
 |e::c=>by
  rw [aRa,List.find?_cons,List.find?_cons];show Option.map uv (match f (uv e) with|true=>some e|false=>c.find? fun e=>f (uv e))=match f (uv e) with|true=>some (e.U,e.V)|false=>(en c).find? f
  cases f (uv e) with
  |true=>rfl
  |false=>exact bA6 f c
theorem bUr(hs:List cI)(V:Nat)(c:List aE):(bBu hs V c).map uv=bH3 hs V (en c):=by
 unfold bBu bH3;have:(en c).map nmQ=c.map fun e=>nmQ (uv e):=by unfold en;rw [List.map_map];rfl
 rw [this];generalize sG hs V (c.map fun e=>nmQ (uv e))=ws
 induction ws with
 |nil=>rfl
 |cons w ws ih=>
  rw [List.findSome?_cons,List.findSome?_cons,←bA6 fun q=>nmQ q==w]
  cases h:c.find? fun e=>nmQ (uv e)==w with
  |none=>exact ih
  |some e=>rfl
theorem bLb{hs:List cI}{V:Nat}{c:List aE}{e:aE}(h:bBu hs V c=some e):e∈c:=by
 unfold bBu at h;obtain ⟨w,_,hw⟩:=List.exists_of_findSome?_eq_some h;exact List.mem_of_find?_eq_some hw
def cId(n:Nat):Nat:=if n=0 then 0 else n.log2+1
def lvl(n:Int):Nat:=2*cId (n-1).toNat+2
def pf(g:aJ)(t:Int):Int→Int:=jB (en (fo g.Edges t))
def hsh(g:aJ)(t:Int):List cI:=(g.Hashes.drop (t*g.Config.R).toNat).take g.Config.R.toNat
def ctq(g:aJ)(t v:Int):List E:=bHv (pf g t) v (en g.Edges)
def srch(g:aJ)(t v:Int):Option aE:=bBu (hsh g t) (lvl g.Config.N) (aLi (pf g t) v g.Edges)
abbrev GT(g:aJ)(t x y:Int):Prop:=CT g.Edges t x y
theorem xP{g:aJ}{t x y:Int} :pf g t x=pf g t y↔GT g t x y:=aD3 _
theorem bUs(g:aJ)(t v:Int):(srch g t v).map uv=bH3 (hsh g t) (lvl g.Config.N) (ctq g t v):=by
 unfold srch;rw [bUr,bRs];rfl
theorem aD5(g:aJ)(t v:Int):(srch g t v).isSome=(bH3 (hsh g t) (lvl g.Config.N) (ctq g t v)).isSome:=by rw [←bUs,Option.isSome_map]
theorem aXf{p:Int→Int}{v:Int}{q:E} :inQ p v q=true↔(p q.1=p v∧ ¬p q.2=p v)∨(¬p q.1=p v∧p q.2=p v):=by
 unfold inQ;rw [bne_iff_ne,ne_eq,Bool.eq_iff_iff,beq_iff_eq,beq_iff_eq]
 by_cases a:p q.1=p v<;>by_cases b:p q.2=p v<;>simp only [a,b,true_iff,false_iff,not_true,not_false_iff,and_true,true_and,and_false,false_and,or_false,or_true,false_or,or_self,iff_self]
theorem aTb{g:aJ}{t v:Int}{e:aE}(h:srch g t v=some e):e∈g.Edges∧((GT g t e.U v∧ ¬GT g t e.V v)∨(¬GT g t e.U v∧GT g t e.V v)):=by
 have:=bLb h;unfold aLi at this;rw [List.mem_filter,aXf] at this;refine ⟨this.1,?_⟩;have h2:=this.2;show _∨_;rw [←xP,←xP];exact h2
def Gr(g:aJ)(t v:Int):Prop:= ∃x,GT g (t+1) v x∧ ¬GT g t v x
def Lon(g:aJ)(t v:Int):Prop:= ¬Gr g t v∧(srch g t v).isSome=true
theorem Gr.cong{g:aJ}{t v w:Int}(h:GT g t v w)(k:Gr g t v):Gr g t w:=by
 obtain ⟨x,h1,h2⟩:=k;exact ⟨x,(aDd h om).symm.trans h1,fun c=>h2 (h.trans c)⟩
theorem bAc{p p':Int→Int}{v w:Int}{q:E}(h: ∀y,p y=p v↔p' y=p' w):inQ p v q=inQ p' w q:=by
 unfold inQ;congr 1
 · rw [Bool.eq_iff_iff,beq_iff_eq,beq_iff_eq];exact h _
 · rw [Bool.eq_iff_iff,beq_iff_eq,beq_iff_eq];exact h _
theorem aZx{g g':aJ}{t t' v w:Int}(he:en g'.Edges=en g.Edges)(h: ∀y,GT g t v y↔GT g' t' w y):ctq g' t' w=ctq g t v:=by
 unfold ctq bHv;rw [he];refine List.filter_congr fun q _=>bAc fun y=>?_;rw [xP,xP];exact ⟨fun c=>((h y).2 c.symm).symm,fun c=>((h y).1 c.symm).symm⟩
theorem Lon.cong{g:aJ}{t v w:Int}(h:GT g t v w)(k:Lon g t v):Lon g t w:=by
 refine ⟨fun c=>k.1 (c.cong h.symm),?_⟩;have:=aZx (g:=g) (g':=g) (t:=t) (t':=t) (v:=v) (w:=w) rfl (fun y=>⟨fun c=>h.symm.trans c,fun c=>h.trans c⟩);rw [aD5,this,←aD5];exact k.2
structure Alk(g g2:aJ):Prop where
  c:g2.Config=g.Config
  h:g2.Hashes=g.Hashes
  e:en g2.Edges=en g.Edges
theorem Alk.refl(g:aJ):Alk g g:=⟨rfl,rfl,rfl⟩
theorem Alk.trans{a b c:aJ}(h:Alk a b)(k:Alk b c):Alk a c:=⟨k.c.trans h.c,k.h.trans h.h,k.e.trans h.e⟩
theorem Alk.hsh{g g2:aJ}(h:Alk g g2)(t:Int):hsh g2 t=hsh g t:=by unfold Go.Proofs.YtkdohhmacfoolaaGreatDoor.hsh;rw [h.c,h.h]
theorem Alk.srch{g g2:aJ}(h:Alk g g2){t v:Int}(hc: ∀y,GT g t v y↔GT g2 t v y):(srch g2 t v).isSome=(srch g t v).isSome:=by
 rw [aD5,aD5,h.hsh,h.c,aZx h.e hc]
def aV6(g:aJ)(t w:Int)(g2:aJ):Prop:=
  ((Gr g t w∨srch g t w=none)∧g2=g)∨(¬Gr g t w∧ ∃e l2,srch g t w=some e∧bV2 g.Edges g.Config.L t e l2∧g2=⟨g.Config,g.Hashes,l2⟩)
abbrev TG(g:aJ):Prop:=Ti g.Config.N g.Config.L g.Edges
structure StF(g:aJ)(t w:Int)(g2:aJ):Prop where
  ti:TG g2
  al:Alk g g2
  low: ∀k,k≤t→fo g2.Edges k=fo g.Edges k
  up: ∀k x y,GT g k x y→GT g2 k x y
  lon: ∀k x,Lon g2 k x→Lon g k x∨(t<k∧GT g2 k x w)
  not: ¬Lon g2 t w
section
variable {g g2:aJ}{t w u v:Int}
theorem aTa{e:aE}(h1: ¬Gr g t w)(h2:srch g t w=some e): ¬GT g (t+1) e.U e.V:=by
 obtain ⟨_,hc⟩:=aTb h2;intro c;rcases hc with ⟨h3,h4⟩|⟨h3,h4⟩
 · exact h1 ⟨e.V,(aDd h3.symm om).trans c,fun k=>h4 k.symm⟩
 · exact h1 ⟨e.U,(aDd h4.symm om).trans c.symm,fun k=>h3 k.symm⟩
theorem aV6.facts(h:TG g)(hn:0≤g.Config.N)(hL:g.Config.L≤16)(h0:0≤t)(ht:t<g.Config.L)(hs:aV6 g t w g2):StF g t w g2:=by
 rcases hs with ⟨h1,rfl⟩|⟨h1,e,l2,h2,h3,rfl⟩
 ·
  refine ⟨h,.refl _,fun _ _=>rfl,fun _ _ _ h=>h,fun _ _ h=> .inl h,fun k=>?_⟩;rcases h1 with q|q
  · exact k.1 q
  · have:=k.2;rw [q] at this;cases this
 ·
  obtain ⟨he,hc⟩:=aTb h2;have S:=bFd h hn h0 ht hL he (aTa h1 h2) h3;have al:Alk g ⟨g.Config,g.Hashes,l2⟩:=⟨rfl,rfl,S.en⟩
  have gw:Gr ⟨g.Config,g.Hashes,l2⟩ t w:=by
   have e0: ∀x y,GT ⟨g.Config,g.Hashes,l2⟩ t x y↔GT g t x y:=fun x y=>by
    show cO (en (fo l2 t)) x y↔_;rw [S.low t (Int.le_refl _)]
   rcases hc with ⟨h3,h4⟩|⟨h3,h4⟩
   · exact ⟨e.V,(S.up _ _ _ (aDd h3.symm om)).trans S.now,fun k=>h4 ((e0 _ _).1 k).symm⟩
   · exact ⟨e.U,(S.up _ _ _ (aDd h4.symm om)).trans S.now.symm,fun k=>h3 ((e0 _ _).1 k).symm⟩
  refine ⟨S.ti,al,S.low,S.up,fun k x hk=>?_,fun k=>k.1 gw⟩
  by_cases same: ∀y,GT g k x y↔GT ⟨g.Config,g.Hashes,l2⟩ k x y
  · refine .inl ⟨fun ⟨y,a,b⟩=>hk.1 ⟨y,S.up _ _ _ a,fun c=>b ((same y).2 c)⟩,?_⟩;rw [←al.srch same];exact hk.2
  ·
   right;obtain ⟨y,hy⟩:=Classical.not_forall.1 same;have h5:GT ⟨g.Config,g.Hashes,l2⟩ k x y:=Classical.byContradiction fun c=>hy ⟨S.up _ _ _,fun d=>absurd d c⟩;have h6: ¬GT g k x y:=fun c=>hy ⟨S.up _ _ _,fun _=>c⟩
   have hkt:t<k:=Classical.byContradiction fun c=>h6 (by
    have:cO (en (fo l2 k)) x y:=h5;rw [S.low k om] at this;exact this)
   have nw:GT ⟨g.Config,g.Hashes,l2⟩ k e.U e.V:=aDd S.now om;refine ⟨hkt,?_⟩;have h7:=((S.just k x y h5).resolve_left h6).1
   have hUw:GT ⟨g.Config,g.Hashes,l2⟩ k e.U w:=by
    rcases hc with ⟨h3,h4⟩|⟨h3,h4⟩
    · exact S.up _ _ _ (aDd h3 om)
    · exact nw.trans (S.up _ _ _ (aDd h4 om))
   rcases h7 with q|q
   · exact (S.up _ _ _ q).trans hUw
   · exact (S.up _ _ _ q).trans (nw.symm.trans hUw)
end
inductive aFv(u v:Int):Int→aJ→aJ→Prop
  |done {t:Int} {g:aJ} : ¬t<g.Config.L→aFv u v t g g
  |step {t:Int} {g g1 g2 g3:aJ} :t<g.Config.L→aV6 g t u g1→aV6 g1 t v g2→aFv u v (t+1) g2 g3→aFv u v t g g3
structure GC(g:aJ):Prop where
  ti:TG g
  n0:0≤g.Config.N
  l2:g.Config.L≤16
theorem StF.gc{g g2:aJ}{t w:Int}(h:GC g)(s:StF g t w g2):GC g2:=⟨s.ti,by rw [s.al.c];exact h.n0,by rw [s.al.c];exact h.l2⟩
section
variable {u v:Int}
structure MeF(t:Int)(g g2:aJ):Prop where
  gc:GC g2
  al:Alk g g2
  low: ∀k,k≤t→fo g2.Edges k=fo g.Edges k
  up: ∀k x y,GT g k x y→GT g2 k x y
theorem aFv.facts{t:Int}{g g2:aJ}(h:aFv u v t g g2):GC g→0≤t→MeF t g g2:=by
 induction h with
 |done h=>exact fun gc _=>⟨gc,.refl _,fun _ _=>rfl,fun _ _ _ h=>h⟩
 |step h1 h2 h3 _ ih=>
  intro gc h0;have a:=h2.facts gc.ti gc.n0 gc.l2 h0 h1;have b:=h3.facts a.ti (a.gc gc).n0 (a.gc gc).l2 h0 (by rw [a.al.c];exact h1);have c:=ih (b.gc (a.gc gc)) om;exact ⟨c.gc,(a.al.trans b.al).trans c.al,fun k hk=>by rw [c.low k om,b.low k hk,a.low k hk],fun k x y h=>c.up _ _ _ (b.up _ _ _ (a.up _ _ _ h))⟩
theorem bOu{g g2:aJ}{k:Int}(h:fo g2.Edges k=fo g.Edges k){x y:Int} :GT g2 k x y↔GT g k x y:=by
 show cO _ _ _↔cO _ _ _;rw [h]
theorem aFv.holds{t:Int}{g g2:aJ}(h:aFv u v t g g2):GC g→0≤t→(∀k x,0≤k→k<t→ ¬Lon g k x)→(∀k x,t≤k→k<g.Config.L→Lon g k x→GT g k x u∨GT g k x v)→ ∀k x,0≤k→k<g2.Config.L→ ¬Lon g2 k x:=by
 induction h with
 |done h=>exact fun gc _ h1 _ k x h2 h3=>h1 k x h2 om
 | @step t g g1 g2 g3 h1 h2 h3 _ ih=>
  intro gc h0 i1 i2;have a:=h2.facts gc.ti gc.n0 gc.l2 h0 h1;have b:=h3.facts a.ti (a.gc gc).n0 (a.gc gc).l2 h0 (by rw [a.al.c];exact h1);have cg:g2.Config=g.Config:=b.al.c.trans a.al.c
  have j1: ∀k x,t≤k→k<g.Config.L→Lon g1 k x→GT g1 k x u∨GT g1 k x v:=fun k x hk hk' hl=>by
   rcases a.lon k x hl with q|q
   ·
    rcases i2 k x hk hk' q with q|q
    · exact .inl (a.up _ _ _ q)
    · exact .inr (a.up _ _ _ q)
   · exact .inl q.2
  have j2: ∀k x,t≤k→k<g.Config.L→Lon g2 k x→GT g2 k x u∨GT g2 k x v:=fun k x hk hk' hl=>by
   rcases b.lon k x hl with q|q
   ·
    rcases j1 k x hk hk' q with q|q
    · exact .inl (b.up _ _ _ q)
    · exact .inr (b.up _ _ _ q)
   · exact .inr q.2
  refine ih (b.gc (a.gc gc)) om (fun k x h4 h5 hl=>?_) (fun k x h4 h5 hl=>j2 k x om (by rw [cg] at h5;exact h5) hl);rcases b.lon k x hl with q|q
  ·
   rcases a.lon k x q with r|r
   ·
    by_cases e:k=t
    ·
     subst e;rcases j2 k x (Int.le_refl _) h1 hl with s|s
     ·
      
      have s1:GT g1 k x u:=(bOu (b.low k (Int.le_refl _))).1 s;exact a.not (q.cong s1)
     · exact b.not (hl.cong s)
    · exact i1 k x h4 om r
   · omega
  · omega
end
open Go.Pt
section
variable {g g2:aJ}{a b:Int}{A B:List E}
theorem bSe(hc:g2.Config=g.Config)(hh:g2.Hashes=g.Hashes)(h1:en g.Edges=A++B)(h2:en g2.Edges=A++(a,b)::B)(hf: ∀k,fo g2.Edges k=fo g.Edges k){k x:Int}(hl:Lon g2 k x):Lon g k x∨GT g2 k x a∨GT g2 k x b:=by
 by_cases ca:GT g2 k x a
 · exact .inr (.inl ca)
 by_cases cb:GT g2 k x b
 · exact .inr (.inr cb)
 left;have e0: ∀t x y,GT g2 t x y↔GT g t x y:=fun t x y=>bOu (hf t);have ep:pf g2 k=pf g k:=by unfold pf;rw [hf]
 refine ⟨fun ⟨y,p,q⟩=>hl.1 ⟨y,(e0 _ _ _).2 p,fun c=>q ((e0 _ _ _).1 c)⟩,?_⟩;have:=hl.2;rw [aD5] at this⊢;have e1:hsh g2 k=hsh g k:=by unfold hsh;rw [hc,hh]
 have e2:ctq g2 k x=ctq g k x:=by
  unfold ctq bHv;rw [h1,h2,ep,List.filter_append,List.filter_append,List.filter_cons_of_neg];rw [aXf,xP,xP];rintro (⟨q,_⟩|⟨_,q⟩)
  · exact ca ((e0 _ _ _).2 q.symm)
  · exact cb ((e0 _ _ _).2 q.symm)
 rw [e1,hc,e2] at this;exact this
theorem bRy(hd:(en g.Edges).Nodup)(hc:g2.Config=g.Config)(hh:g2.Hashes=g.Hashes)(h1:en g2.Edges=A++B)(h2:en g.Edges=A++(a,b)::B)(hf: ∀k q,q∈en (fo g2.Edges k)↔q∈en (fo g.Edges k)∧q≠(a,b)){k x:Int}(hl:Lon g2 k x):Lon g k x∨GT g2 k x a∨GT g2 k x b:=by
 by_cases ca:GT g2 k x a
 · exact .inr (.inl ca)
 by_cases cb:GT g2 k x b
 · exact .inr (.inr cb)
 left;have sub: ∀ {t x y},GT g2 t x y→GT g t x y:=fun h=>h.mono fun q hq=>((hf _ q).1 hq).1
 have key: ∀ {t x y},GT g t x y→GT g2 t x y∨GT g2 t x a∨GT g2 t x b:=fun {t x y} h=>by
  have:cO ((a,b)::en (fo g2.Edges t)) x y:=h.mono fun q hq=>by
   by_cases e:q=(a,b)
   · simp [e]
   · exact List.mem_cons_of_mem _ ((hf _ q).2 ⟨hq,e⟩)
  rcases aOd this with h|⟨h|h,_⟩
  · exact .inl h
  · exact .inr (.inl h)
  · exact .inr (.inr h)
 have e0: ∀y,GT g2 k x y↔GT g k x y:=fun y=>⟨sub,fun h=>(key h).resolve_right fun c=>c.elim ca cb⟩
 refine ⟨fun ⟨y,p,q⟩=>?_,?_⟩
 ·
  rcases key p with r|r|r
  · exact hl.1 ⟨y,r,fun c=>q ((e0 y).1 c)⟩
  · exact hl.1 ⟨a,r,ca⟩
  · exact hl.1 ⟨b,r,cb⟩
 ·
  have:=hl.2;rw [aD5] at this⊢;have e1:hsh g2 k=hsh g k:=by unfold hsh;rw [hc,hh]
  have e2:ctq g2 k x=ctq g k x:=by
   unfold ctq bHv;rw [h1,h2,List.filter_append,List.filter_append,List.filter_cons_of_neg]
   ·
    have fc: ∀q,inQ (pf g2 k) x q=inQ (pf g k) x q:=fun q=>bAc fun y=>by
     rw [xP,xP];exact ⟨fun c=>((e0 y).1 c.symm).symm,fun c=>((e0 y).2 c.symm).symm⟩
    rw [List.filter_congr fun q _=>fc q,List.filter_congr fun q _=>fc q]
   ·
    rw [aXf,xP,xP];rintro (⟨q,_⟩|⟨_,q⟩)
    · exact ca ((e0 _).2 q.symm)
    · exact cb ((e0 _).2 q.symm)
  rw [e1,hc,e2] at this;exact this
end
section
variable {n L K t:Int}{l:List aE}{a b:Int}
end
structure Apt(K:Int)(g h:aJ):Prop where
  c:h.Config=g.Config
  e:en h.Edges=en g.Edges
  f:fo h.Edges K=fo g.Edges K
  s: ∀t,0≤t→t<K→hsh h t=hsh g t
theorem bZv{l:List aE}{k K:Int}(h:k≤K):fo (fo l K) k=fo l k:=by
 unfold fo;rw [List.filter_filter];refine List.filter_congr fun e _=>?_;rw [Bool.eq_iff_iff,Bool.and_eq_true,aK8,aK8];omega
end Go.Proofs.YtkdohhmacfoolaaGreatDoor
set_option maxRecDepth 20000
set_option maxHeartbeats 1000000
namespace Go.Proofs.YtkdohhmacfoolaaGreatDoor
open Go Go.AM Go.Pl Go.Pt
theorem addN(a b:Nat):Int.tmod (IntKind.u64.wrap (Int.tmod (a:Int) 2305843009213693951+Int.tmod (b:Int) 2305843009213693951)) 2305843009213693951=(((a%2305843009213693951+b%2305843009213693951)%2305843009213693951:Nat):Int):=by
 rw [aWb,aWb,←Int.natCast_add,wuN om,aWb]
def HOK(h:cI):Prop:=0≤h.A∧0≤h.B
theorem aUi{h:cI}(hh:HOK h)(x:Nat):zN h (x:Int)=some ((aTq h x:Nat):Int):=by
 obtain ⟨a,b⟩:=h;obtain ⟨h1,h2⟩:=hh;obtain ⟨a,rfl⟩:=Int.eq_ofNat_of_zero_le h1;obtain ⟨b,rfl⟩:=Int.eq_ofNat_of_zero_le h2;unfold zN;rw [bGh,aA];unfold aG6 aCn;rw [aA,aA,aA,addN];unfold aTq;rw [Nat.mod_mod];simp only [Int.toNat_natCast]
theorem aUg(j:Nat):zM (j:Int)=some ((aI6 j:Nat):Int):=by
 unfold zM aI6
 by_cases h:j<61
 · rw [bf (by simp;omega),ck (by simp),aA,if_pos h];have:=bF7 2305843009213693951 j om;exact congrArg some this
 · rw [bt (by simp;omega),if_neg h];rfl
theorem bMg{i j:Nat}(h:i≤j):aI6 j≤aI6 i:=by
 unfold aI6
 by_cases c:j<61
 · rw [if_pos c,if_pos om];exact Nat.div_le_div_left (Nat.pow_le_pow_right (by decide) h) (Nat.pow_pos (by decide))
 · rw [if_neg c];exact Nat.zero_le _
theorem aQ0(V x:Nat)(hV:V≤61): ∀(m i:Nat),V<i+m→i≤V→(∀j,j<i→x<aI6 j)→ ∃d,qQ m (V:Int) (x:Int) (i:Int)=some ((d:Nat):Int)∧d≤V∧ ∀j,j<V→(j<d↔x<aI6 j)
 |0,i,h,h',_=>by omega
 |m+1,i,h,h',hb=>by
  have step:qQ (m+1) (V:Int) (x:Int) (i:Int)=if i<V∧x<aI6 i then qQ m (V:Int) (x:Int) ((i+1:Nat):Int) else some (i:Int):=by
   show aH7 (qQ m) _ _ _=_;unfold aH7;have e:(if (61:Int)<(V:Int) then 61 else (V:Int))=(V:Int):=if_neg om;rw [e,aUg,jS,aA,wr1 i om]
   by_cases c:i<V
   ·
    rw [oJ c]
    by_cases c':x<aI6 i
    · rw [bt (by simp;exact c'),if_pos ⟨c,c'⟩]
    · rw [bf (by simp;omega),if_neg (fun q=>c' q.2)]
   · rw [oI c,bf (by simp),if_neg (fun q=>c q.1)]
  rw [step]
  by_cases c:i<V∧x<aI6 i
  ·
   rw [if_pos c]
   exact aQ0 V x hV m (i+1) om om fun j hj=>by
    by_cases e:j=i
    · subst e;exact c.2
    · exact hb j om
  · rw [if_neg c];refine ⟨i,rfl,h',fun j hj=>⟨hb j,fun hx=>Classical.byContradiction fun q=>c ⟨by omega,Nat.lt_of_lt_of_le hx (bMg om)⟩⟩⟩
theorem aXq{h:cI}(hh:HOK h)(x V:Nat)(hV:V≤61): ∃d,aBf h (x:Int) (V:Int)=some ((d:Nat):Int)∧d≤V∧ ∀j,j<V→(j<d↔aTq h x<aI6 j):=by
 have hFU:=FU;unfold aBf;rw [aUi hh,aA];exact aQ0 V (aTq h x) hV aY 0 om (Nat.zero_le _) (fun j hj=>by omega)
set_option maxRecDepth 100000 in
theorem bAp: ∀n:Nat,n<1025→1≤n→vV (n:Int)=some ((lvl n:Nat):Int)∧2≤lvl n∧lvl n≤22:=by decide+kernel
theorem aSi{n:Int}(h1:1≤n)(h2:n≤1024):vV n=some ((lvl n:Nat):Int)∧2≤lvl n∧lvl n≤22:=by
 obtain ⟨k,rfl⟩:=Int.eq_ofNat_of_zero_le (a:=n) om;exact bAp k om om
end Go.Proofs.YtkdohhmacfoolaaGreatDoor
namespace Go.Pt
def cHu{α:Type}(f:α→Nat):List α→Nat
  |[]=>0
  |a::l=>f a ^^^ cHu f l
section
variable {α:Type}
end
end Go.Pt
namespace Go.Proofs.YtkdohhmacfoolaaGreatDoor
open Go.Pt
end Go.Proofs.YtkdohhmacfoolaaGreatDoor
