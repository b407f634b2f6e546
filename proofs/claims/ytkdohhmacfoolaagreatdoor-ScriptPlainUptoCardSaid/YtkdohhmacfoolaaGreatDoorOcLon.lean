/- Facts. No condition. -/
import Derived.Test.YtkdohhmacfoolaaGreatDoorOcTir
set_option linter.unusedVariables false
set_option linter.unusedSimpArgs false
namespace Go.Proofs.YtkdohhmacfoolaaGreatDoor
open Go.Pt
def aH4(h:bQ)(x:Nat):Nat:=((h.A.toNat%2305843009213693951)*(x%2305843009213693951)%2305843009213693951+h.B.toNat%2305843009213693951)%2305843009213693951
def zP(j:Nat):Nat:=if j<61 then 2305843009213693951/2^j else 0
def tH(h:bQ)(j:Nat)(names:List Nat):Nat:=names.foldl (fun w x=>if aH4 h x<zP j then w ^^^ x else w) 0
def kW(hs:List bQ)(V:Nat)(names:List Nat):List Nat:=(List.range (hs.length*V)).map fun k=>tH (hs.getD (k/V) ⟨0,0⟩) (k%V) names
def nmQ(q:E):Nat:=q.1.toNat*16777216+q.2.toNat
def inQ(p:Int→Int)(v:Int)(q:E):Bool:=(p q.1==p v) !=(p q.2==p v)
def bAo(p:Int→Int)(v:Int)(l:List E):List E:=l.filter (inQ p v)
def aZv(hs:List bQ)(V:Nat)(c:List E):Option E:=(kW hs V (c.map nmQ)).findSome? fun w=>c.find? fun q=>nmQ q==w
def uv(e:aC):E:=(e.U,e.V)
def yK(p:Int→Int)(v:Int)(l:List aC):List aC:=l.filter fun e=>inQ p v (uv e)
def aEx(hs:List bQ)(V:Nat)(c:List aC):Option aC:=(kW hs V (c.map fun e=>nmQ (uv e))).findSome? fun w=>c.find? fun e=>nmQ (uv e)==w
theorem bIj(p:Int→Int)(v:Int)(l:List aC):en (yK p v l)=bAo p v (en l):=by
 unfold en yK bAo;rw [List.filter_map];rfl
theorem aU8(f:E→Bool): ∀c:List aC,(c.find? fun e=>f (uv e)).map uv=(en c).find? f
 |[]=>rfl
 |e::c=>by
  rw [aHq,List.find?_cons,List.find?_cons];show Option.map uv (match f (uv e) with|true=>some e|false=>c.find? fun e=>f (uv e))=match f (uv e) with|true=>some (e.U,e.V)|false=>(en c).find? f
  cases f (uv e) with
  |true=>rfl
  |false=>exact aU8 f c
theorem bKt(hs:List bQ)(V:Nat)(c:List aC):(aEx hs V c).map uv=aZv hs V (en c):=by
 unfold aEx aZv;have:(en c).map nmQ=c.map fun e=>nmQ (uv e):=by unfold en;rw [List.map_map];rfl
 rw [this];generalize kW hs V (c.map fun e=>nmQ (uv e))=ws
 induction ws with
 |nil=>rfl
 |cons w ws ih=>
  rw [List.findSome?_cons,List.findSome?_cons,←aU8 fun q=>nmQ q==w]
  cases h:c.find? fun e=>nmQ (uv e)==w with
  |none=>exact ih
  |some e=>rfl
theorem bDd{hs:List bQ}{V:Nat}{c:List aC}{e:aC}(h:aEx hs V c=some e):e∈c:=by
 unfold aEx at h;obtain ⟨w,_,hw⟩:=List.exists_of_findSome?_eq_some h;exact List.mem_of_find?_eq_some hw
def bWi(n:Nat):Nat:=if n=0 then 0 else n.log2+1
def lvl(n:Int):Nat:=2*bWi (n-1).toNat+2
def pf(g:aH)(t:Int):Int→Int:=dR (en (fo g.Edges t))
def hsh(g:aH)(t:Int):List bQ:=(g.Hashes.drop (t*g.Config.R).toNat).take g.Config.R.toNat
def ctq(g:aH)(t v:Int):List E:=bAo (pf g t) v (en g.Edges)
def srch(g:aH)(t v:Int):Option aC:=aEx (hsh g t) (lvl g.Config.N) (yK (pf g t) v g.Edges)
abbrev GT(g:aH)(t x y:Int):Prop:=CT g.Edges t x y
theorem kH{g:aH}{t x y:Int} :pf g t x=pf g t y↔GT g t x y:=xM _
theorem aSz(g:aH)(t v:Int):(srch g t v).map uv=aZv (hsh g t) (lvl g.Config.N) (ctq g t v):=by
 unfold srch;rw [bKt,bIj];rfl
theorem xQ(g:aH)(t v:Int):(srch g t v).isSome=(aZv (hsh g t) (lvl g.Config.N) (ctq g t v)).isSome:=by rw [←aSz,Option.isSome_map]
theorem aF9{p:Int→Int}{v:Int}{q:E} :inQ p v q=true↔(p q.1=p v∧ ¬p q.2=p v)∨(¬p q.1=p v∧p q.2=p v):=by
 unfold inQ;rw [bne_iff_ne,ne_eq,Bool.eq_iff_iff,beq_iff_eq,beq_iff_eq]
 by_cases a:p q.1=p v<;>by_cases b:p q.2=p v<;>simp only [a,b,true_iff,false_iff,not_true,not_false_iff,and_true,true_and,and_false,false_and,or_false,or_true,false_or,or_self,iff_self]
theorem aEy{g:aH}{t v:Int}{e:aC}(h:srch g t v=some e):e∈g.Edges∧((GT g t e.U v∧ ¬GT g t e.V v)∨(¬GT g t e.U v∧GT g t e.V v)):=by
 have:=bDd h;unfold yK at this;rw [List.mem_filter,aF9] at this;refine ⟨this.1,?_⟩;have h2:=this.2;show _∨_;rw [←kH,←kH];exact h2
def Gr(g:aH)(t v:Int):Prop:= ∃x,GT g (t+1) v x∧ ¬GT g t v x
def Lon(g:aH)(t v:Int):Prop:= ¬Gr g t v∧(srch g t v).isSome=true
theorem Gr.cong{g:aH}{t v w:Int}(h:GT g t v w)(k:Gr g t v):Gr g t w:=by
 obtain ⟨x,h1,h2⟩:=k;exact ⟨x,(tR h om).symm.trans h1,fun c=>h2 (h.trans c)⟩
theorem aUc{p p':Int→Int}{v w:Int}{q:E}(h: ∀y,p y=p v↔p' y=p' w):inQ p v q=inQ p' w q:=by
 unfold inQ;congr 1
 · rw [Bool.eq_iff_iff,beq_iff_eq,beq_iff_eq];exact h _
 · rw [Bool.eq_iff_iff,beq_iff_eq,beq_iff_eq];exact h _
theorem aTz{g g':aH}{t t' v w:Int}(he:en g'.Edges=en g.Edges)(h: ∀y,GT g t v y↔GT g' t' w y):ctq g' t' w=ctq g t v:=by
 unfold ctq bAo;rw [he];refine List.filter_congr fun q _=>aUc fun y=>?_;rw [kH,kH];exact ⟨fun c=>((h y).2 c.symm).symm,fun c=>((h y).1 c.symm).symm⟩
theorem Lon.cong{g:aH}{t v w:Int}(h:GT g t v w)(k:Lon g t v):Lon g t w:=by
 refine ⟨fun c=>k.1 (c.cong h.symm),?_⟩;have:=aTz (g:=g) (g':=g) (t:=t) (t':=t) (v:=v) (w:=w) rfl (fun y=>⟨fun c=>h.symm.trans c,fun c=>h.trans c⟩);rw [xQ,this,←xQ];exact k.2
structure Alk(g g2:aH):Prop where
  c:g2.Config=g.Config
  h:g2.Hashes=g.Hashes
  e:en g2.Edges=en g.Edges
theorem Alk.refl(g:aH):Alk g g:=⟨rfl,rfl,rfl⟩
theorem Alk.trans{a b c:aH}(h:Alk a b)(k:Alk b c):Alk a c:=⟨k.c.trans h.c,k.h.trans h.h,k.e.trans h.e⟩
theorem Alk.hsh{g g2:aH}(h:Alk g g2)(t:Int):hsh g2 t=hsh g t:=by unfold Go.Proofs.YtkdohhmacfoolaaGreatDoor.hsh;rw [h.c,h.h]
theorem Alk.srch{g g2:aH}(h:Alk g g2){t v:Int}(hc: ∀y,GT g t v y↔GT g2 t v y):(srch g2 t v).isSome=(srch g t v).isSome:=by
 rw [xQ,xQ,h.hsh,h.c,aTz h.e hc]
def zU(g:aH)(t w:Int)(g2:aH):Prop:=
  ((Gr g t w∨srch g t w=none)∧g2=g)∨(¬Gr g t w∧ ∃e l2,srch g t w=some e∧aPh g.Edges g.Config.L t e l2∧g2=⟨g.Config,g.Hashes,l2⟩)
theorem zU.uniq{g:aH}{t w:Int}{a b:aH}(h:zU g t w a)(k:zU g t w b):a=b:=by
 rcases h with ⟨h1,rfl⟩|⟨h1,e,l,h2,h3,rfl⟩<;>rcases k with ⟨k1,rfl⟩|⟨k1,f,m,k2,k3,rfl⟩
 · rfl
 ·
  rcases h1 with q|q
  · exact absurd q k1
  · rw [q] at k2;cases k2
 ·
  rcases k1 with q|q
  · exact absurd q h1
  · rw [q] at h2;cases h2
 · rw [h2] at k2;cases k2;rw [h3.uniq k3]
abbrev TG(g:aH):Prop:=Ti g.Config.N g.Config.L g.Edges
structure StF(g:aH)(t w:Int)(g2:aH):Prop where
  ti:TG g2
  al:Alk g g2
  low: ∀k,k≤t→fo g2.Edges k=fo g.Edges k
  up: ∀k x y,GT g k x y→GT g2 k x y
  lon: ∀k x,Lon g2 k x→Lon g k x∨(t<k∧GT g2 k x w)
  not: ¬Lon g2 t w
section
variable {g g2:aH}{t w u v:Int}
theorem aNu{e:aC}(h1: ¬Gr g t w)(h2:srch g t w=some e): ¬GT g (t+1) e.U e.V:=by
 obtain ⟨_,hc⟩:=aEy h2;intro c;rcases hc with ⟨h3,h4⟩|⟨h3,h4⟩
 · exact h1 ⟨e.V,(tR h3.symm om).trans c,fun k=>h4 k.symm⟩
 · exact h1 ⟨e.U,(tR h4.symm om).trans c.symm,fun k=>h3 k.symm⟩
theorem zU.facts(h:TG g)(hn:0≤g.Config.N)(hL:g.Config.L≤16)(h0:0≤t)(ht:t<g.Config.L)(hs:zU g t w g2):StF g t w g2:=by
 rcases hs with ⟨h1,rfl⟩|⟨h1,e,l2,h2,h3,rfl⟩
 ·
  refine ⟨h,.refl _,fun _ _=>rfl,fun _ _ _ h=>h,fun _ _ h=> .inl h,fun k=>?_⟩;rcases h1 with q|q
  · exact k.1 q
  · have:=k.2;rw [q] at this;cases this
 ·
  obtain ⟨he,hc⟩:=aEy h2;have S:=aYn h hn h0 ht hL he (aNu h1 h2) h3;have al:Alk g ⟨g.Config,g.Hashes,l2⟩:=⟨rfl,rfl,S.en⟩
  have gw:Gr ⟨g.Config,g.Hashes,l2⟩ t w:=by
   have e0: ∀x y,GT ⟨g.Config,g.Hashes,l2⟩ t x y↔GT g t x y:=fun x y=>by
    show bO (en (fo l2 t)) x y↔_;rw [S.low t (Int.le_refl _)]
   rcases hc with ⟨h3,h4⟩|⟨h3,h4⟩
   · exact ⟨e.V,(S.up _ _ _ (tR h3.symm om)).trans S.now,fun k=>h4 ((e0 _ _).1 k).symm⟩
   · exact ⟨e.U,(S.up _ _ _ (tR h4.symm om)).trans S.now.symm,fun k=>h3 ((e0 _ _).1 k).symm⟩
  refine ⟨S.ti,al,S.low,S.up,fun k x hk=>?_,fun k=>k.1 gw⟩
  by_cases same: ∀y,GT g k x y↔GT ⟨g.Config,g.Hashes,l2⟩ k x y
  · refine .inl ⟨fun ⟨y,a,b⟩=>hk.1 ⟨y,S.up _ _ _ a,fun c=>b ((same y).2 c)⟩,?_⟩;rw [←al.srch same];exact hk.2
  ·
   right;obtain ⟨y,hy⟩:=Classical.not_forall.1 same;have h5:GT ⟨g.Config,g.Hashes,l2⟩ k x y:=Classical.byContradiction fun c=>hy ⟨S.up _ _ _,fun d=>absurd d c⟩;have h6: ¬GT g k x y:=fun c=>hy ⟨S.up _ _ _,fun _=>c⟩
   have hkt:t<k:=Classical.byContradiction fun c=>h6 (by
    have:bO (en (fo l2 k)) x y:=h5;rw [S.low k om] at this;exact this)
   have nw:GT ⟨g.Config,g.Hashes,l2⟩ k e.U e.V:=tR S.now om;refine ⟨hkt,?_⟩;have h7:=((S.just k x y h5).resolve_left h6).1
   have hUw:GT ⟨g.Config,g.Hashes,l2⟩ k e.U w:=by
    rcases hc with ⟨h3,h4⟩|⟨h3,h4⟩
    · exact S.up _ _ _ (tR h3 om)
    · exact nw.trans (S.up _ _ _ (tR h4 om))
   rcases h7 with q|q
   · exact (S.up _ _ _ q).trans hUw
   · exact (S.up _ _ _ q).trans (nw.symm.trans hUw)
end
inductive tM(u v:Int):Int→aH→aH→Prop
  |done {t:Int} {g:aH} : ¬t<g.Config.L→tM u v t g g
  |step {t:Int} {g g1 g2 g3:aH} :t<g.Config.L→zU g t u g1→zU g1 t v g2→tM u v (t+1) g2 g3→tM u v t g g3
theorem tM.uniq{u v t:Int}{g a b:aH}(h:tM u v t g a):tM u v t g b→a=b:=by
 induction h with
 |done h=>intro k;cases k with
  |done=>rfl
  |step q=>exact absurd q h
 |step h1 h2 h3 _ ih=>intro k;cases k with
  |done q=>exact absurd h1 q
  |step q1 q2 q3 q4=>rw [h2.uniq q2] at h3;rw [h3.uniq q3] at ih;exact ih q4
structure GC(g:aH):Prop where
  ti:TG g
  n0:0≤g.Config.N
  l2:g.Config.L≤16
theorem StF.gc{g g2:aH}{t w:Int}(h:GC g)(s:StF g t w g2):GC g2:=⟨s.ti,by rw [s.al.c];exact h.n0,by rw [s.al.c];exact h.l2⟩
section
variable {u v:Int}
structure MeF(t:Int)(g g2:aH):Prop where
  gc:GC g2
  al:Alk g g2
  low: ∀k,k≤t→fo g2.Edges k=fo g.Edges k
  up: ∀k x y,GT g k x y→GT g2 k x y
theorem tM.facts{t:Int}{g g2:aH}(h:tM u v t g g2):GC g→0≤t→MeF t g g2:=by
 induction h with
 |done h=>exact fun gc _=>⟨gc,.refl _,fun _ _=>rfl,fun _ _ _ h=>h⟩
 |step h1 h2 h3 _ ih=>
  intro gc h0;have a:=h2.facts gc.ti gc.n0 gc.l2 h0 h1;have b:=h3.facts a.ti (a.gc gc).n0 (a.gc gc).l2 h0 (by rw [a.al.c];exact h1);have c:=ih (b.gc (a.gc gc)) om;exact ⟨c.gc,(a.al.trans b.al).trans c.al,fun k hk=>by rw [c.low k om,b.low k hk,a.low k hk],fun k x y h=>c.up _ _ _ (b.up _ _ _ (a.up _ _ _ h))⟩
theorem bGa{g g2:aH}{k:Int}(h:fo g2.Edges k=fo g.Edges k){x y:Int} :GT g2 k x y↔GT g k x y:=by
 show bO _ _ _↔bO _ _ _;rw [h]
theorem tM.holds{t:Int}{g g2:aH}(h:tM u v t g g2):GC g→0≤t→(∀k x,0≤k→k<t→ ¬Lon g k x)→(∀k x,t≤k→k<g.Config.L→Lon g k x→GT g k x u∨GT g k x v)→ ∀k x,0≤k→k<g2.Config.L→ ¬Lon g2 k x:=by
 induction h with
 |done h=>exact fun gc _ h1 _ k x h2 h3=>h1 k x h2 om
 | @step t g g1 g2 g3 h1 h2 h3 _ ih=>
  intro gc h0 i1 i2;have a:=h2.facts gc.ti gc.n0 gc.l2 h0 h1;have b:=h3.facts a.ti (a.gc gc).n0 (a.gc gc).l2 h0 (by rw [a.al.c];exact h1);have cg:g2.Config=g.Config:=b.al.c.trans a.al.c
  have j1: ∀k x,t≤k→k<g.Config.L→Lon g1 k x→GT g1 k x u∨GT g1 k x v:=fun k x hk hk' hl=>by
   rcases a.lon k x hl with q|q
   ·
    rcases i2 k x hk hk' q with q|q
    · exact .inl (a.up _ _ _ q)
    · exact .inr (a.up _ _ _ q)
   · exact .inl q.2
  have j2: ∀k x,t≤k→k<g.Config.L→Lon g2 k x→GT g2 k x u∨GT g2 k x v:=fun k x hk hk' hl=>by
   rcases b.lon k x hl with q|q
   ·
    rcases j1 k x hk hk' q with q|q
    · exact .inl (b.up _ _ _ q)
    · exact .inr (b.up _ _ _ q)
   · exact .inr q.2
  refine ih (b.gc (a.gc gc)) om (fun k x h4 h5 hl=>?_) (fun k x h4 h5 hl=>j2 k x om (by rw [cg] at h5;exact h5) hl);rcases b.lon k x hl with q|q
  ·
   rcases a.lon k x q with r|r
   ·
    by_cases e:k=t
    ·
     subst e;rcases j2 k x (Int.le_refl _) h1 hl with s|s
     ·
      
      have s1:GT g1 k x u:=(bGa (b.low k (Int.le_refl _))).1 s;exact a.not (q.cong s1)
     · exact b.not (hl.cong s)
    · exact i1 k x h4 om r
   · omega
  · omega
end
end Go.Proofs.YtkdohhmacfoolaaGreatDoor
