/- Facts. No condition. -/
import Derived.Test.YtkdohhmacfoolaaGreatDoorObTir
import Derived.Test.YtkdohhmacfoolaaGreatDoorObSeaM
set_option linter.unusedVariables false
set_option linter.unusedSimpArgs false
namespace Go.Proofs.YtkdohhmacfoolaaGreatDoor
open Go.Pt
def aS0(h:bM)(x:Nat):Nat:=((h.A.toNat%2305843009213693951)*(x%2305843009213693951)%2305843009213693951+h.B.toNat%2305843009213693951)%2305843009213693951
def aGc(j:Nat):Nat:=if j<61 then 2305843009213693951/2^j else 0
def aBz(h:bM)(j:Nat)(names:List Nat):Nat:=names.foldl (fun w x=>if aS0 h x<aGc j then w ^^^ x else w) 0
def oH(hs:List bM)(V:Nat)(names:List Nat):List Nat:=(List.range (hs.length*V)).map fun k=>aBz (hs.getD (k/V) ⟨0,0⟩) (k%V) names
def nmQ(q:E):Nat:=q.1.toNat*16777216+q.2.toNat
def inQ(p:Int→Int)(v:Int)(q:E):Bool:=(p q.1==p v) !=(p q.2==p v)
def bF5(p:Int→Int)(v:Int)(l:List E):List E:=l.filter (inQ p v)
def bEe(hs:List bM)(V:Nat)(c:List E):Option E:=(oH hs V (c.map nmQ)).findSome? fun w=>c.find? fun q=>nmQ q==w
def uv(e:aD):E:=(e.U,e.V)
def aIk(p:Int→Int)(v:Int)(l:List aD):List aD:=l.filter fun e=>inQ p v (uv e)
def aRq(hs:List bM)(V:Nat)(c:List aD):Option aD:=(oH hs V (c.map fun e=>nmQ (uv e))).findSome? fun w=>c.find? fun e=>nmQ (uv e)==w
theorem bNg(p:Int→Int)(v:Int)(l:List aD):en (aIk p v l)=bF5 p v (en l):=by
 unfold en aIk bF5;rw [List.filter_map];rfl
theorem aYe(f:E→Bool): ∀c:List aD,(c.find? fun e=>f (uv e)).map uv=(en c).find? f
 |[]=>rfl
 |e::c=>by
  rw [aKw,List.find?_cons,List.find?_cons];show Option.map uv (match f (uv e) with|true=>some e|false=>c.find? fun e=>f (uv e))=match f (uv e) with|true=>some (e.U,e.V)|false=>(en c).find? f
  cases f (uv e) with
  |true=>rfl
  |false=>exact aYe f c
theorem bQ3(hs:List bM)(V:Nat)(c:List aD):(aRq hs V c).map uv=bEe hs V (en c):=by
 unfold aRq bEe;have:(en c).map nmQ=c.map fun e=>nmQ (uv e):=by unfold en;rw [List.map_map];rfl
 rw [this];generalize oH hs V (c.map fun e=>nmQ (uv e))=ws
 induction ws with
 |nil=>rfl
 |cons w ws ih=>
  rw [List.findSome?_cons,List.findSome?_cons,←aYe fun q=>nmQ q==w]
  cases h:c.find? fun e=>nmQ (uv e)==w with
  |none=>exact ih
  |some e=>rfl
theorem bId{hs:List bM}{V:Nat}{c:List aD}{e:aD}(h:aRq hs V c=some e):e∈c:=by
 unfold aRq at h;obtain ⟨w,_,hw⟩:=List.exists_of_findSome?_eq_some h;exact List.mem_of_find?_eq_some hw
def cBr(n:Nat):Nat:=if n=0 then 0 else n.log2+1
def lvl(n:Int):Nat:=2*cBr (n-1).toNat+2
def pf(g:aF)(t:Int):Int→Int:=eT (en (fo g.Edges t))
def hsh(g:aF)(t:Int):List bM:=(g.Hashes.drop (t*g.Config.R).toNat).take g.Config.R.toNat
def ctq(g:aF)(t v:Int):List E:=bF5 (pf g t) v (en g.Edges)
def srch(g:aF)(t v:Int):Option aD:=aRq (hsh g t) (lvl g.Config.N) (aIk (pf g t) v g.Edges)
abbrev GT(g:aF)(t x y:Int):Prop:=CT g.Edges t x y
theorem tN{g:aF}{t x y:Int} :pf g t x=pf g t y↔GT g t x y:=aAg _
theorem aX4(g:aF)(t v:Int):(srch g t v).map uv=bEe (hsh g t) (lvl g.Config.N) (ctq g t v):=by
 unfold srch;rw [bQ3,bNg];rfl
theorem aAi(g:aF)(t v:Int):(srch g t v).isSome=(bEe (hsh g t) (lvl g.Config.N) (ctq g t v)).isSome:=by rw [←aX4,Option.isSome_map]
theorem aVn{p:Int→Int}{v:Int}{q:E} :inQ p v q=true↔(p q.1=p v∧ ¬p q.2=p v)∨(¬p q.1=p v∧p q.2=p v):=by
 unfold inQ;rw [bne_iff_ne,ne_eq,Bool.eq_iff_iff,beq_iff_eq,beq_iff_eq]
 by_cases a:p q.1=p v<;>by_cases b:p q.2=p v<;>simp only [a,b,true_iff,false_iff,not_true,not_false_iff,and_true,true_and,and_false,false_and,or_false,or_true,false_or,or_self,iff_self]
theorem aHw{g:aF}{t v:Int}{e:aD}(h:srch g t v=some e):e∈g.Edges∧((GT g t e.U v∧ ¬GT g t e.V v)∨(¬GT g t e.U v∧GT g t e.V v)):=by
 have:=bId h;unfold aIk at this;rw [List.mem_filter,aVn] at this;refine ⟨this.1,?_⟩;have h2:=this.2;show _∨_;rw [←tN,←tN];exact h2
def Gr(g:aF)(t v:Int):Prop:= ∃x,GT g (t+1) v x∧ ¬GT g t v x
def Lon(g:aF)(t v:Int):Prop:= ¬Gr g t v∧(srch g t v).isSome=true
theorem Gr.cong{g:aF}{t v w:Int}(h:GT g t v w)(k:Gr g t v):Gr g t w:=by
 obtain ⟨x,h1,h2⟩:=k;exact ⟨x,(wK h om).symm.trans h1,fun c=>h2 (h.trans c)⟩
theorem aYj{p p':Int→Int}{v w:Int}{q:E}(h: ∀y,p y=p v↔p' y=p' w):inQ p v q=inQ p' w q:=by
 unfold inQ;congr 1
 · rw [Bool.eq_iff_iff,beq_iff_eq,beq_iff_eq];exact h _
 · rw [Bool.eq_iff_iff,beq_iff_eq,beq_iff_eq];exact h _
theorem aY7{g g':aF}{t t' v w:Int}(he:en g'.Edges=en g.Edges)(h: ∀y,GT g t v y↔GT g' t' w y):ctq g' t' w=ctq g t v:=by
 unfold ctq bF5;rw [he];refine List.filter_congr fun q _=>aYj fun y=>?_;rw [tN,tN];exact ⟨fun c=>((h y).2 c.symm).symm,fun c=>((h y).1 c.symm).symm⟩
theorem Lon.cong{g:aF}{t v w:Int}(h:GT g t v w)(k:Lon g t v):Lon g t w:=by
 refine ⟨fun c=>k.1 (c.cong h.symm),?_⟩;have:=aY7 (g:=g) (g':=g) (t:=t) (t':=t) (v:=v) (w:=w) rfl (fun y=>⟨fun c=>h.symm.trans c,fun c=>h.trans c⟩);rw [aAi,this,←aAi];exact k.2
structure Alk(g g2:aF):Prop where
  c:g2.Config=g.Config
  h:g2.Hashes=g.Hashes
  e:en g2.Edges=en g.Edges
theorem Alk.refl(g:aF):Alk g g:=⟨rfl,rfl,rfl⟩
theorem Alk.trans{a b c:aF}(h:Alk a b)(k:Alk b c):Alk a c:=⟨k.c.trans h.c,k.h.trans h.h,k.e.trans h.e⟩
theorem Alk.hsh{g g2:aF}(h:Alk g g2)(t:Int):hsh g2 t=hsh g t:=by unfold Go.Proofs.YtkdohhmacfoolaaGreatDoor.hsh;rw [h.c,h.h]
theorem Alk.srch{g g2:aF}(h:Alk g g2){t v:Int}(hc: ∀y,GT g t v y↔GT g2 t v y):(srch g2 t v).isSome=(srch g t v).isSome:=by
 rw [aAi,aAi,h.hsh,h.c,aY7 h.e hc]
def aGg(g:aF)(t w:Int)(g2:aF):Prop:=
  ((Gr g t w∨srch g t w=none)∧g2=g)∨(¬Gr g t w∧ ∃e l2,srch g t w=some e∧aTf g.Edges g.Config.L t e l2∧g2=⟨g.Config,g.Hashes,l2⟩)
theorem aGg.uniq{g:aF}{t w:Int}{a b:aF}(h:aGg g t w a)(k:aGg g t w b):a=b:=by
 rcases h with ⟨h1,rfl⟩|⟨h1,e,l,h2,h3,rfl⟩<;>rcases k with ⟨k1,rfl⟩|⟨k1,f,m,k2,k3,rfl⟩
 · rfl
 ·
  rcases h1 with q|q
  · exact absurd q k1
  · rw [q] at k2;cases k2
 ·
  rcases k1 with q|q
  · exact absurd q h1
  · rw [q] at h2;cases h2
 · rw [h2] at k2;cases k2;rw [h3.uniq k3]
abbrev TG(g:aF):Prop:=Ti g.Config.N g.Config.L g.Edges
structure StF(g:aF)(t w:Int)(g2:aF):Prop where
  ti:TG g2
  al:Alk g g2
  low: ∀k,k≤t→fo g2.Edges k=fo g.Edges k
  up: ∀k x y,GT g k x y→GT g2 k x y
  lon: ∀k x,Lon g2 k x→Lon g k x∨(t<k∧GT g2 k x w)
  not: ¬Lon g2 t w
section
variable {g g2:aF}{t w u v:Int}
theorem aRr{e:aD}(h1: ¬Gr g t w)(h2:srch g t w=some e): ¬GT g (t+1) e.U e.V:=by
 obtain ⟨_,hc⟩:=aHw h2;intro c;rcases hc with ⟨h3,h4⟩|⟨h3,h4⟩
 · exact h1 ⟨e.V,(wK h3.symm om).trans c,fun k=>h4 k.symm⟩
 · exact h1 ⟨e.U,(wK h4.symm om).trans c.symm,fun k=>h3 k.symm⟩
theorem aGg.facts(h:TG g)(hn:0≤g.Config.N)(hL:g.Config.L≤16)(h0:0≤t)(ht:t<g.Config.L)(hs:aGg g t w g2):StF g t w g2:=by
 rcases hs with ⟨h1,rfl⟩|⟨h1,e,l2,h2,h3,rfl⟩
 ·
  refine ⟨h,.refl _,fun _ _=>rfl,fun _ _ _ h=>h,fun _ _ h=> .inl h,fun k=>?_⟩;rcases h1 with q|q
  · exact k.1 q
  · have:=k.2;rw [q] at this;cases this
 ·
  obtain ⟨he,hc⟩:=aHw h2;have S:=bCy h hn h0 ht hL he (aRr h1 h2) h3;have al:Alk g ⟨g.Config,g.Hashes,l2⟩:=⟨rfl,rfl,S.en⟩
  have gw:Gr ⟨g.Config,g.Hashes,l2⟩ t w:=by
   have e0: ∀x y,GT ⟨g.Config,g.Hashes,l2⟩ t x y↔GT g t x y:=fun x y=>by
    show bY (en (fo l2 t)) x y↔_;rw [S.low t (Int.le_refl _)]
   rcases hc with ⟨h3,h4⟩|⟨h3,h4⟩
   · exact ⟨e.V,(S.up _ _ _ (wK h3.symm om)).trans S.now,fun k=>h4 ((e0 _ _).1 k).symm⟩
   · exact ⟨e.U,(S.up _ _ _ (wK h4.symm om)).trans S.now.symm,fun k=>h3 ((e0 _ _).1 k).symm⟩
  refine ⟨S.ti,al,S.low,S.up,fun k x hk=>?_,fun k=>k.1 gw⟩
  by_cases same: ∀y,GT g k x y↔GT ⟨g.Config,g.Hashes,l2⟩ k x y
  · refine .inl ⟨fun ⟨y,a,b⟩=>hk.1 ⟨y,S.up _ _ _ a,fun c=>b ((same y).2 c)⟩,?_⟩;rw [←al.srch same];exact hk.2
  ·
   right;obtain ⟨y,hy⟩:=Classical.not_forall.1 same;have h5:GT ⟨g.Config,g.Hashes,l2⟩ k x y:=Classical.byContradiction fun c=>hy ⟨S.up _ _ _,fun d=>absurd d c⟩;have h6: ¬GT g k x y:=fun c=>hy ⟨S.up _ _ _,fun _=>c⟩
   have hkt:t<k:=Classical.byContradiction fun c=>h6 (by
    have:bY (en (fo l2 k)) x y:=h5;rw [S.low k om] at this;exact this)
   have nw:GT ⟨g.Config,g.Hashes,l2⟩ k e.U e.V:=wK S.now om;refine ⟨hkt,?_⟩;have h7:=((S.just k x y h5).resolve_left h6).1
   have hUw:GT ⟨g.Config,g.Hashes,l2⟩ k e.U w:=by
    rcases hc with ⟨h3,h4⟩|⟨h3,h4⟩
    · exact S.up _ _ _ (wK h3 om)
    · exact nw.trans (S.up _ _ _ (wK h4 om))
   rcases h7 with q|q
   · exact (S.up _ _ _ q).trans hUw
   · exact (S.up _ _ _ q).trans (nw.symm.trans hUw)
end
inductive zS(u v:Int):Int→aF→aF→Prop
  |done {t:Int} {g:aF} : ¬t<g.Config.L→zS u v t g g
  |step {t:Int} {g g1 g2 g3:aF} :t<g.Config.L→aGg g t u g1→aGg g1 t v g2→zS u v (t+1) g2 g3→zS u v t g g3
theorem zS.uniq{u v t:Int}{g a b:aF}(h:zS u v t g a):zS u v t g b→a=b:=by
 induction h with
 |done h=>intro k;cases k with
  |done=>rfl
  |step q=>exact absurd q h
 |step h1 h2 h3 _ ih=>intro k;cases k with
  |done q=>exact absurd h1 q
  |step q1 q2 q3 q4=>rw [h2.uniq q2] at h3;rw [h3.uniq q3] at ih;exact ih q4
structure GC(g:aF):Prop where
  ti:TG g
  n0:0≤g.Config.N
  l2:g.Config.L≤16
theorem StF.gc{g g2:aF}{t w:Int}(h:GC g)(s:StF g t w g2):GC g2:=⟨s.ti,by rw [s.al.c];exact h.n0,by rw [s.al.c];exact h.l2⟩
section
variable {u v:Int}
structure MeF(t:Int)(g g2:aF):Prop where
  gc:GC g2
  al:Alk g g2
  low: ∀k,k≤t→fo g2.Edges k=fo g.Edges k
  up: ∀k x y,GT g k x y→GT g2 k x y
theorem zS.facts{t:Int}{g g2:aF}(h:zS u v t g g2):GC g→0≤t→MeF t g g2:=by
 induction h with
 |done h=>exact fun gc _=>⟨gc,.refl _,fun _ _=>rfl,fun _ _ _ h=>h⟩
 |step h1 h2 h3 _ ih=>
  intro gc h0;have a:=h2.facts gc.ti gc.n0 gc.l2 h0 h1;have b:=h3.facts a.ti (a.gc gc).n0 (a.gc gc).l2 h0 (by rw [a.al.c];exact h1);have c:=ih (b.gc (a.gc gc)) om;exact ⟨c.gc,(a.al.trans b.al).trans c.al,fun k hk=>by rw [c.low k om,b.low k hk,a.low k hk],fun k x y h=>c.up _ _ _ (b.up _ _ _ (a.up _ _ _ h))⟩
theorem bLd{g g2:aF}{k:Int}(h:fo g2.Edges k=fo g.Edges k){x y:Int} :GT g2 k x y↔GT g k x y:=by
 show bY _ _ _↔bY _ _ _;rw [h]
theorem zS.holds{t:Int}{g g2:aF}(h:zS u v t g g2):GC g→0≤t→(∀k x,0≤k→k<t→ ¬Lon g k x)→(∀k x,t≤k→k<g.Config.L→Lon g k x→GT g k x u∨GT g k x v)→ ∀k x,0≤k→k<g2.Config.L→ ¬Lon g2 k x:=by
 induction h with
 |done h=>exact fun gc _ h1 _ k x h2 h3=>h1 k x h2 om
 | @step t g g1 g2 g3 h1 h2 h3 _ ih=>
  intro gc h0 i1 i2;have a:=h2.facts gc.ti gc.n0 gc.l2 h0 h1;have b:=h3.facts a.ti (a.gc gc).n0 (a.gc gc).l2 h0 (by rw [a.al.c];exact h1);have cg:g2.Config=g.Config:=b.al.c.trans a.al.c
  have j1: ∀k x,t≤k→k<g.Config.L→Lon g1 k x→GT g1 k x u∨GT g1 k x v:=fun k x hk hk' hl=>by
   rcases a.lon k x hl with q|q
   ·
    rcases i2 k x hk hk' q with q|q
    · exact .inl (a.up _ _ _ q)
    · exact .inr (a.up _ _ _ q)
   · exact .inl q.2
  have j2: ∀k x,t≤k→k<g.Config.L→Lon g2 k x→GT g2 k x u∨GT g2 k x v:=fun k x hk hk' hl=>by
   rcases b.lon k x hl with q|q
   ·
    rcases j1 k x hk hk' q with q|q
    · exact .inl (b.up _ _ _ q)
    · exact .inr (b.up _ _ _ q)
   · exact .inr q.2
  refine ih (b.gc (a.gc gc)) om (fun k x h4 h5 hl=>?_) (fun k x h4 h5 hl=>j2 k x om (by rw [cg] at h5;exact h5) hl);rcases b.lon k x hl with q|q
  ·
   rcases a.lon k x q with r|r
   ·
    by_cases e:k=t
    ·
     subst e;rcases j2 k x (Int.le_refl _) h1 hl with s|s
     ·
      
      have s1:GT g1 k x u:=(bLd (b.low k (Int.le_refl _))).1 s;exact a.not (q.cong s1)
     · exact b.not (hl.cong s)
    · exact i1 k x h4 om r
   · omega
  · omega
end
open Go.Pt
section
variable {g g2:aF}{a b:Int}{A B:List E}
theorem bNy(hc:g2.Config=g.Config)(hh:g2.Hashes=g.Hashes)(h1:en g.Edges=A++B)(h2:en g2.Edges=A++(a,b)::B)(hf: ∀k,fo g2.Edges k=fo g.Edges k){k x:Int}(hl:Lon g2 k x):Lon g k x∨GT g2 k x a∨GT g2 k x b:=by
 by_cases ca:GT g2 k x a
 · exact .inr (.inl ca)
 by_cases cb:GT g2 k x b
 · exact .inr (.inr cb)
 left;have e0: ∀t x y,GT g2 t x y↔GT g t x y:=fun t x y=>bLd (hf t);have ep:pf g2 k=pf g k:=by unfold pf;rw [hf]
 refine ⟨fun ⟨y,p,q⟩=>hl.1 ⟨y,(e0 _ _ _).2 p,fun c=>q ((e0 _ _ _).1 c)⟩,?_⟩;have:=hl.2;rw [aAi] at this⊢;have e1:hsh g2 k=hsh g k:=by unfold hsh;rw [hc,hh]
 have e2:ctq g2 k x=ctq g k x:=by
  unfold ctq bF5;rw [h1,h2,ep,List.filter_append,List.filter_append,List.filter_cons_of_neg];rw [aVn,tN,tN];rintro (⟨q,_⟩|⟨_,q⟩)
  · exact ca ((e0 _ _ _).2 q.symm)
  · exact cb ((e0 _ _ _).2 q.symm)
 rw [e1,hc,e2] at this;exact this
theorem bNk(hd:(en g.Edges).Nodup)(hc:g2.Config=g.Config)(hh:g2.Hashes=g.Hashes)(h1:en g2.Edges=A++B)(h2:en g.Edges=A++(a,b)::B)(hf: ∀k q,q∈en (fo g2.Edges k)↔q∈en (fo g.Edges k)∧q≠(a,b)){k x:Int}(hl:Lon g2 k x):Lon g k x∨GT g2 k x a∨GT g2 k x b:=by
 by_cases ca:GT g2 k x a
 · exact .inr (.inl ca)
 by_cases cb:GT g2 k x b
 · exact .inr (.inr cb)
 left;have sub: ∀ {t x y},GT g2 t x y→GT g t x y:=fun h=>h.mono fun q hq=>((hf _ q).1 hq).1
 have key: ∀ {t x y},GT g t x y→GT g2 t x y∨GT g2 t x a∨GT g2 t x b:=fun {t x y} h=>by
  have:bY ((a,b)::en (fo g2.Edges t)) x y:=h.mono fun q hq=>by
   by_cases e:q=(a,b)
   · simp [e]
   · exact List.mem_cons_of_mem _ ((hf _ q).2 ⟨hq,e⟩)
  rcases aMt this with h|⟨h|h,_⟩
  · exact .inl h
  · exact .inr (.inl h)
  · exact .inr (.inr h)
 have e0: ∀y,GT g2 k x y↔GT g k x y:=fun y=>⟨sub,fun h=>(key h).resolve_right fun c=>c.elim ca cb⟩
 refine ⟨fun ⟨y,p,q⟩=>?_,?_⟩
 ·
  rcases key p with r|r|r
  · exact hl.1 ⟨y,r,fun c=>q ((e0 y).1 c)⟩
  · exact hl.1 ⟨a,r,ca⟩
  · exact hl.1 ⟨b,r,cb⟩
 ·
  have:=hl.2;rw [aAi] at this⊢;have e1:hsh g2 k=hsh g k:=by unfold hsh;rw [hc,hh]
  have e2:ctq g2 k x=ctq g k x:=by
   unfold ctq bF5;rw [h1,h2,List.filter_append,List.filter_append,List.filter_cons_of_neg]
   ·
    have fc: ∀q,inQ (pf g2 k) x q=inQ (pf g k) x q:=fun q=>aYj fun y=>by
     rw [tN,tN];exact ⟨fun c=>((e0 y).1 c.symm).symm,fun c=>((e0 y).2 c.symm).symm⟩
    rw [List.filter_congr fun q _=>fc q,List.filter_congr fun q _=>fc q]
   ·
    rw [aVn,tN,tN];rintro (⟨q,_⟩|⟨_,q⟩)
    · exact ca ((e0 _).2 q.symm)
    · exact cb ((e0 _).2 q.symm)
  rw [e1,hc,e2] at this;exact this
end
theorem bM9{n:Int} : ∀ {l m:List aD},(en l).Pairwise ltE→(en m).Pairwise ltE→(∀e,e∈l↔e∈m)→l=m
 |[],[],_,_,_=>rfl
 |[],y::m,_,_,h=>by have:=(h y).2 (by simp);cases this
 |x::l,[],_,_,h=>by have:=(h x).1 (by simp);cases this
 |x::l,y::m,h1,h2,h=>by
  rw [aKw,List.pairwise_cons] at h1 h2;have irr: ∀ {q:E},¬ltE q q:=fun h=>by unfold ltE at h;omega
  have g1: ∀e,e∈l→ltE (x.U,x.V) (e.U,e.V):=fun e he=>h1.1 _ (jU.2 ⟨e,he,rfl⟩);have g2: ∀e,e∈m→ltE (y.U,y.V) (e.U,e.V):=fun e he=>h2.1 _ (jU.2 ⟨e,he,rfl⟩)
  have exy:x=y:=by
   rcases List.mem_cons.1 ((h x).1 (by simp)) with c|c
   · exact c
   ·
    rcases List.mem_cons.1 ((h y).2 (by simp)) with d|d
    · exact d.symm
    · exact absurd (aIa (g1 y d) (g2 x c)) irr
  subst exy;rw [bM9 (n:=n) h1.2 h2.2 fun e=>?_];constructor
  ·
   intro he;rcases List.mem_cons.1 ((h e).1 (by simp [he])) with c|c
   · subst c;exact absurd (g1 e he) irr
   · exact c
  ·
   intro he;rcases List.mem_cons.1 ((h e).2 (by simp [he])) with c|c
   · subst c;exact absurd (g2 e he) irr
   · exact c
section
variable {n L K t:Int}{l:List aD}{a b:Int}
theorem aPu(h:Ti n L l)(hn:0≤n)(hK:K≤L)(hc:CT l K a b)(x:aD):bIb l L a b x↔bIb l K a b x:=by
 have sub: ∀q,q∈en (fo l K)→q∈en (fo l L):=fun q hq=>by cases q;exact h.big hq
 constructor
 · rintro ⟨h1,h2⟩;obtain ⟨m1,m2,m3⟩:=fY.1 h1;refine ⟨fY.2 ⟨m1,m2,Classical.byContradiction fun c=>h2 (hc.mono fun q hq=>jJ.2 ⟨sub q hq,fun e=>?_⟩)⟩,fun c=>h2 (c.mono fun q hq=>jJ.2 ⟨sub q (jJ.1 hq).1,(jJ.1 hq).2⟩)⟩;subst e;exact h.not_mem m1 om hq
 ·
  rintro ⟨h1,h2⟩;obtain ⟨m1,m2,m3⟩:=fY.1 h1;refine ⟨fY.2 ⟨m1,m2,by omega⟩,fun c=>?_⟩;have hx:(x.U,x.V)∈en (fo l K):=tK.2 ⟨x,m1,rfl,rfl,m2,m3⟩;have nb:=(h.fr.wo (h.inR hn L) (h.tb.fo_nodup L) (sub _ hx)).2;have up: ∀ {c d:Int},bY (wo (en (fo l K)) (x.U,x.V)) c d→bY (wo (en (fo l L)) (x.U,x.V)) c d:=fun k=>k.mono fun q hq=>jJ.2 ⟨sub q (jJ.1 hq).1,(jJ.1 hq).2⟩;rcases bY.cons_iff.1 ((aPq (h.tb.fo_nodup K) hx a b).1 hc) with k|⟨k1,k2⟩|⟨k1,k2⟩
  · exact h2 k
  · exact nb ((up k1).symm.trans (c.trans (up k2).symm))
  · exact nb ((up k2).trans (c.symm.trans (up k1)))
theorem bEh(h:Ti n L l)(hn:0≤n)(hK:K≤L)(hc:CT l K a b){x:aD} :aC2 l L a b x↔aC2 l K a b x:=by
 constructor
 · exact fun k=>⟨(aPu h hn hK hc x).1 k.sep,fun y hy=>k.max y ((aPu h hn hK hc y).2 hy)⟩
 · exact fun k=>⟨(aPu h hn hK hc x).2 k.sep,fun y hy=>k.max y ((aPu h hn hK hc y).1 hy)⟩
theorem bMb{l m:List aD}(h:fo l K=fo m K){x:aD} :aC2 l K a b x→aC2 m K a b x:=fun k=>⟨⟨h▸k.sep.1,h▸k.sep.2⟩,fun y hy=>k.max y ⟨h.symm▸hy.1,h.symm▸hy.2⟩⟩
end
structure Apt(K:Int)(g h:aF):Prop where
  c:h.Config=g.Config
  e:en h.Edges=en g.Edges
  f:fo h.Edges K=fo g.Edges K
  s: ∀t,0≤t→t<K→hsh h t=hsh g t
theorem bKf{l:List aD}{k K:Int}(h:k≤K):fo (fo l K) k=fo l k:=by
 unfold fo;rw [List.filter_filter];refine List.filter_congr fun e _=>?_;rw [Bool.eq_iff_iff,Bool.and_eq_true,aI8,aI8];omega
theorem Apt.low{K k:Int}{g h:aF}(a:Apt K g h)(hk:k≤K):fo h.Edges k=fo g.Edges k:=by rw [←bKf hk,a.f,bKf hk]
theorem aZn{n L K t:Int}{l l2:List aD}{e:aD}(h:Ti n L l)(hn:0≤n)(h0:0≤t)(htK:t<K)(hK:K≤L)(he:e∈l)(hs:aTf l L t e l2)(x:aD):
 x∈fo l2 K↔x=⟨e.U,e.V,t+1⟩∨(x∈fo l K∧ ¬(x.U=e.U∧x.V=e.V)∧ ¬((e.U,e.V)∉en (fo l K)∧CT l K e.U e.V∧aC2 l K e.U e.V x)):=by
 have hx1: ∃y,y∈l∧y.U=e.U∧y.V=e.V:=⟨e,he,rfl,rfl⟩
 rcases hs with ⟨h1,h2,top,h3,rfl⟩|⟨h1,rfl⟩
 ·
  obtain ⟨htl,ht1,ht2⟩:=fY.1 h3.sep.1
  have hne: ¬(e.U=top.U∧e.V=top.V):=fun q=>by
   have:=h.tb.inj he htl q.1 q.2;subst this;omega
  have hx1: ∃y,y∈l∧y.U=top.U∧y.V=top.V:=⟨top,htl,rfl,rfl⟩
  have hx2: ∃y,y∈setT l top 0∧y.U=e.U∧y.V=e.V:=⟨e,(sE hx1).2 (.inl ⟨he,hne⟩),rfl,rfl⟩
  have hek:(e.U,e.V)∉en (fo l K):=h.not_mem he om;rw [fY,sE hx2,sE hx1,fY];constructor
  ·
   rintro ⟨⟨⟨m1,m2⟩|m1,m3⟩|m1,m4,m5⟩
   · refine .inr ⟨⟨m1,m4,m5⟩,m3,fun ⟨_,q1,q2⟩=>?_⟩;have:=((bEh h hn hK q1).2 q2).uniq h3;subst this;exact m2 ⟨rfl,rfl⟩
   · subst m1;simp at m4
   · exact .inl m1
  ·
   rintro (rfl|⟨⟨m1,m2,m3⟩,m4,m5⟩)
   · exact ⟨.inr rfl,by show 1≤t+1;omega,by show t+1≤K;omega⟩
   · refine ⟨.inl ⟨.inl ⟨m1,fun q=>m5 ⟨hek,?_⟩⟩,m4⟩,m2,m3⟩;have:=h.tb.inj m1 htl q.1 q.2;subst this;have hc:CT l K e.U e.V:=wK (aUm h hn h2 h3) m3;exact ⟨hc,(bEh h hn hK hc).1 h3⟩
 ·
  rw [fY,sE hx1,fY];constructor
  ·
   rintro ⟨⟨m1,m2⟩|m1,m4,m5⟩
   ·
    refine .inr ⟨⟨m1,m4,m5⟩,m2,fun ⟨q0,q1,_⟩=>?_⟩;have he0: ¬(1≤e.Tier∧e.Tier≤K):=fun c=>q0 (tK.2 ⟨e,he,rfl,rfl,c.1,c.2⟩);have hge:=(lR.1 (h.tb.ok e he)).2.2.2.1
    by_cases z:e.Tier=0
    · exact h1 ⟨z,wK q1 hK⟩
    · have hx:(e.U,e.V)∈en (fo l L):=tK.2 ⟨e,he,rfl,rfl,by omega,h.le e he⟩;refine (h.fr.wo (h.inR hn L) (h.tb.fo_nodup L) hx).2 (q1.mono fun q hq=>jJ.2 ⟨by cases q;exact h.big hq,fun c=>?_⟩);subst c;exact q0 hq
   · exact .inl m1
  ·
   rintro (rfl|⟨⟨m1,m2,m3⟩,m4,m5⟩)
   · exact ⟨.inr rfl,by show 1≤t+1;omega,by show t+1≤K;omega⟩
   · exact ⟨.inl ⟨m1,m4⟩,m2,m3⟩
theorem Apt.step{K t w:Int}{g h g2 h2:aF}(a:Apt K g h)(hg:GC g)(hh:GC h)(hK:K≤g.Config.L)(h0:0≤t)(ht:t<g.Config.L)(s:aGg g t w g2)(s':aGg h t w h2):Apt K g2 h2:=by
 have F:=s.facts hg.ti hg.n0 hg.l2 h0 ht;have F':=s'.facts hh.ti hh.n0 hh.l2 h0 (by rw [a.c];exact ht);refine ⟨by rw [F.al.c,F'.al.c,a.c],by rw [F.al.e,F'.al.e,a.e],?_,fun t h1 h2=>by rw [F.al.hsh,F'.al.hsh,a.s t h1 h2]⟩
 by_cases hk:t<K
 ·
  have e1:=a.low (k:=t) om;have e2:=a.low (k:=t+1) om;have hgr:Gr h t w↔Gr g t w:=by unfold Gr GT CT;rw [e1,e2]
  have hsr:(srch h t w).map uv=(srch g t w).map uv:=by
   rw [aX4,aX4,a.s t h0 hk,a.c];unfold ctq pf;rw [e1,a.e]
  rcases s with ⟨h1,rfl⟩|⟨h1,e,l2,k2,k3,rfl⟩
  ·
   rcases s' with ⟨m1,rfl⟩|⟨m1,f,l3,m2,m3,rfl⟩
   · exact a.f
   ·
    exfalso
    rcases h1 with q|q
    · exact m1 (hgr.2 q)
    · rw [m2,q] at hsr;cases hsr
  ·
   rcases s' with ⟨m1,rfl⟩|⟨m1,f,l3,m2,m3,rfl⟩
   ·
    exfalso
    rcases m1 with q|q
    · exact h1 (hgr.1 q)
    · rw [k2,q] at hsr;cases hsr
   ·
    rw [k2,m2] at hsr;have huv:uv f=uv e:=by simpa using hsr
    have eU:f.U=e.U:=congrArg Prod.fst huv;have eV:f.V=e.V:=congrArg Prod.snd huv;have t1:=aZn hg.ti hg.n0 h0 hk hK (aHw k2).1 k3;have t2:=aZn (h:=hh.ti) hh.n0 h0 hk (by rw [a.c];exact hK) (aHw m2).1 m3;refine bM9 (n:=0) ((F'.ti.tb.sub (aQj _ _)).pw) ((F.ti.tb.sub (aQj _ _)).pw) fun x=>?_;show x∈fo l3 K↔x∈fo l2 K;rw [t1,t2,eU,eV,a.f];have ic: ∀y,aC2 h.Edges K e.U e.V y↔aC2 g.Edges K e.U e.V y:=fun y=>⟨bMb a.f,bMb a.f.symm⟩
    have cc:CT h.Edges K e.U e.V↔CT g.Edges K e.U e.V:=by unfold CT;rw [a.f]
    rw [ic,cc]
 · rw [F.low K om,F'.low K om,a.f]
end Go.Proofs.YtkdohhmacfoolaaGreatDoor
set_option maxRecDepth 20000
set_option maxHeartbeats 1000000
namespace Go.Proofs.YtkdohhmacfoolaaGreatDoor
open Go Go.AM Go.Pl Go.Pt
theorem addN(a b:Nat):Int.tmod (IntKind.u64.wrap (Int.tmod (a:Int) 2305843009213693951+Int.tmod (b:Int) 2305843009213693951)) 2305843009213693951=(((a%2305843009213693951+b%2305843009213693951)%2305843009213693951:Nat):Int):=by
 rw [aUj,aUj,←Int.natCast_add,wuN om,aUj]
def HOK(h:bM):Prop:=0≤h.A∧0≤h.B
theorem aSq{h:bM}(hh:HOK h)(x:Nat):vC h (x:Int)=some ((aS0 h x:Nat):Int):=by
 obtain ⟨a,b⟩:=h;obtain ⟨h1,h2⟩:=hh;obtain ⟨a,rfl⟩:=Int.eq_ofNat_of_zero_le h1;obtain ⟨b,rfl⟩:=Int.eq_ofNat_of_zero_le h2;unfold vC;rw [bDy,aA];unfold aE0 aA3;rw [aA,aA,aA,addN];unfold aS0;rw [Nat.mod_mod];simp only [Int.toNat_natCast]
theorem aSo(j:Nat):uZ (j:Int)=some ((aGc j:Nat):Int):=by
 unfold uZ aGc
 by_cases h:j<61
 · rw [bf (by simp;omega),ck (by simp),aA,if_pos h];have:=bCr 2305843009213693951 j om;exact congrArg some this
 · rw [bt (by simp;omega),if_neg h];rfl
theorem bJd{i j:Nat}(h:i≤j):aGc j≤aGc i:=by
 unfold aGc
 by_cases c:j<61
 · rw [if_pos c,if_pos om];exact Nat.div_le_div_left (Nat.pow_le_pow_right (by decide) h) (Nat.pow_pos (by decide))
 · rw [if_neg c];exact Nat.zero_le _
theorem aOc(V x:Nat)(hV:V≤61): ∀(m i:Nat),V<i+m→i≤V→(∀j,j<i→x<aGc j)→ ∃d,mT m (V:Int) (x:Int) (i:Int)=some ((d:Nat):Int)∧d≤V∧ ∀j,j<V→(j<d↔x<aGc j)
 |0,i,h,h',_=>by omega
 |m+1,i,h,h',hb=>by
  have step:mT (m+1) (V:Int) (x:Int) (i:Int)=if i<V∧x<aGc i then mT m (V:Int) (x:Int) ((i+1:Nat):Int) else some (i:Int):=by
   show aF1 (mT m) _ _ _=_;unfold aF1;have e:(if (61:Int)<(V:Int) then 61 else (V:Int))=(V:Int):=if_neg om;rw [e,aSo,eF,aA,wr1 i om]
   by_cases c:i<V
   ·
    rw [oE c]
    by_cases c':x<aGc i
    · rw [bt (by simp;exact c'),if_pos ⟨c,c'⟩]
    · rw [bf (by simp;omega),if_neg (fun q=>c' q.2)]
   · rw [oD c,bf (by simp),if_neg (fun q=>c q.1)]
  rw [step]
  by_cases c:i<V∧x<aGc i
  ·
   rw [if_pos c]
   exact aOc V x hV m (i+1) om om fun j hj=>by
    by_cases e:j=i
    · subst e;exact c.2
    · exact hb j om
  · rw [if_neg c];refine ⟨i,rfl,h',fun j hj=>⟨hb j,fun hx=>Classical.byContradiction fun q=>c ⟨by omega,Nat.lt_of_lt_of_le hx (bJd om)⟩⟩⟩
theorem aVx{h:bM}(hh:HOK h)(x V:Nat)(hV:V≤61): ∃d,yH h (x:Int) (V:Int)=some ((d:Nat):Int)∧d≤V∧ ∀j,j<V→(j<d↔aS0 h x<aGc j):=by
 have hFU:=FU;unfold yH;rw [aSq hh,aA];exact aOc V (aS0 h x) hV bC 0 om (Nat.zero_le _) (fun j hj=>by omega)
set_option maxRecDepth 100000 in
theorem aYw: ∀n:Nat,n<1025→1≤n→sD (n:Int)=some ((lvl n:Nat):Int)∧2≤lvl n∧lvl n≤22:=by decide+kernel
theorem aQt{n:Int}(h1:1≤n)(h2:n≤1024):sD n=some ((lvl n:Nat):Int)∧2≤lvl n∧lvl n≤22:=by
 obtain ⟨k,rfl⟩:=Int.eq_ofNat_of_zero_le (a:=n) om;exact aYw k om om
end Go.Proofs.YtkdohhmacfoolaaGreatDoor
namespace Go.Pt
def cBd{α:Type}(f:α→Nat):List α→Nat
  |[]=>0
  |a::l=>f a ^^^ cBd f l
section
variable {α:Type}
end
end Go.Pt
namespace Go.Proofs.YtkdohhmacfoolaaGreatDoor
open Go.Pt
theorem bIe{hs:List bM}{V:Nat} :aRq hs V []=none:=by
 unfold aRq;rw [List.findSome?_eq_none_iff];intro w _;rfl
end Go.Proofs.YtkdohhmacfoolaaGreatDoor
