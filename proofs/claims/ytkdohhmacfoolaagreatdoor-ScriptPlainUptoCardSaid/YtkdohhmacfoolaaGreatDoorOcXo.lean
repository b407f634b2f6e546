/- Facts. No condition. -/
import Derived.Test.YtkdohhmacfoolaaGreatDoorOcLon
import Derived.Test.YtkdohhmacfoolaaGreatDoorOcSeaM
set_option linter.unusedVariables false
set_option linter.unusedSimpArgs false
namespace Go.Proofs.YtkdohhmacfoolaaGreatDoor
open Go.Pt
section
variable {g g2:aH}{a b:Int}{A B:List E}
theorem bJ1(hc:g2.Config=g.Config)(hh:g2.Hashes=g.Hashes)(h1:en g.Edges=A++B)(h2:en g2.Edges=A++(a,b)::B)(hf: ∀k,fo g2.Edges k=fo g.Edges k){k x:Int}(hl:Lon g2 k x):Lon g k x∨GT g2 k x a∨GT g2 k x b:=by
 by_cases ca:GT g2 k x a
 · exact .inr (.inl ca)
 by_cases cb:GT g2 k x b
 · exact .inr (.inr cb)
 left;have e0: ∀t x y,GT g2 t x y↔GT g t x y:=fun t x y=>bGa (hf t);have ep:pf g2 k=pf g k:=by unfold pf;rw [hf]
 refine ⟨fun ⟨y,p,q⟩=>hl.1 ⟨y,(e0 _ _ _).2 p,fun c=>q ((e0 _ _ _).1 c)⟩,?_⟩;have:=hl.2;rw [xQ] at this⊢;have e1:hsh g2 k=hsh g k:=by unfold hsh;rw [hc,hh]
 have e2:ctq g2 k x=ctq g k x:=by
  unfold ctq bAo;rw [h1,h2,ep,List.filter_append,List.filter_append,List.filter_cons_of_neg];rw [aF9,kH,kH];rintro (⟨q,_⟩|⟨_,q⟩)
  · exact ca ((e0 _ _ _).2 q.symm)
  · exact cb ((e0 _ _ _).2 q.symm)
 rw [e1,hc,e2] at this;exact this
theorem bIo(hd:(en g.Edges).Nodup)(hc:g2.Config=g.Config)(hh:g2.Hashes=g.Hashes)(h1:en g2.Edges=A++B)(h2:en g.Edges=A++(a,b)::B)(hf: ∀k q,q∈en (fo g2.Edges k)↔q∈en (fo g.Edges k)∧q≠(a,b)){k x:Int}(hl:Lon g2 k x):Lon g k x∨GT g2 k x a∨GT g2 k x b:=by
 by_cases ca:GT g2 k x a
 · exact .inr (.inl ca)
 by_cases cb:GT g2 k x b
 · exact .inr (.inr cb)
 left;have sub: ∀ {t x y},GT g2 t x y→GT g t x y:=fun h=>h.mono fun q hq=>((hf _ q).1 hq).1
 have key: ∀ {t x y},GT g t x y→GT g2 t x y∨GT g2 t x a∨GT g2 t x b:=fun {t x y} h=>by
  have:bO ((a,b)::en (fo g2.Edges t)) x y:=h.mono fun q hq=>by
   by_cases e:q=(a,b)
   · simp [e]
   · exact List.mem_cons_of_mem _ ((hf _ q).2 ⟨hq,e⟩)
  rcases aJc this with h|⟨h|h,_⟩
  · exact .inl h
  · exact .inr (.inl h)
  · exact .inr (.inr h)
 have e0: ∀y,GT g2 k x y↔GT g k x y:=fun y=>⟨sub,fun h=>(key h).resolve_right fun c=>c.elim ca cb⟩
 refine ⟨fun ⟨y,p,q⟩=>?_,?_⟩
 ·
  rcases key p with r|r|r
  · exact hl.1 ⟨y,r,fun c=>q ((e0 y).1 c)⟩
  · exact hl.1 ⟨a,r,ca⟩
  · exact hl.1 ⟨b,r,cb⟩
 ·
  have:=hl.2;rw [xQ] at this⊢;have e1:hsh g2 k=hsh g k:=by unfold hsh;rw [hc,hh]
  have e2:ctq g2 k x=ctq g k x:=by
   unfold ctq bAo;rw [h1,h2,List.filter_append,List.filter_append,List.filter_cons_of_neg]
   ·
    have fc: ∀q,inQ (pf g2 k) x q=inQ (pf g k) x q:=fun q=>aUc fun y=>by
     rw [kH,kH];exact ⟨fun c=>((e0 y).1 c.symm).symm,fun c=>((e0 y).2 c.symm).symm⟩
    rw [List.filter_congr fun q _=>fc q,List.filter_congr fun q _=>fc q]
   ·
    rw [aF9,kH,kH];rintro (⟨q,_⟩|⟨_,q⟩)
    · exact ca ((e0 _).2 q.symm)
    · exact cb ((e0 _).2 q.symm)
  rw [e1,hc,e2] at this;exact this
end
theorem bH8{n:Int} : ∀ {l m:List aC},(en l).Pairwise ltE→(en m).Pairwise ltE→(∀e,e∈l↔e∈m)→l=m
 |[],[],_,_,_=>rfl
 |[],y::m,_,_,h=>by have:=(h y).2 (by simp);cases this
 |x::l,[],_,_,h=>by have:=(h x).1 (by simp);cases this
 |x::l,y::m,h1,h2,h=>by
  rw [aHq,List.pairwise_cons] at h1 h2;have irr: ∀ {q:E},¬ltE q q:=fun h=>by unfold ltE at h;omega
  have g1: ∀e,e∈l→ltE (x.U,x.V) (e.U,e.V):=fun e he=>h1.1 _ (fX.2 ⟨e,he,rfl⟩);have g2: ∀e,e∈m→ltE (y.U,y.V) (e.U,e.V):=fun e he=>h2.1 _ (fX.2 ⟨e,he,rfl⟩)
  have exy:x=y:=by
   rcases List.mem_cons.1 ((h x).1 (by simp)) with c|c
   · exact c
   ·
    rcases List.mem_cons.1 ((h y).2 (by simp)) with d|d
    · exact d.symm
    · exact absurd (aFb (g1 y d) (g2 x c)) irr
  subst exy;rw [bH8 (n:=n) h1.2 h2.2 fun e=>?_];constructor
  ·
   intro he;rcases List.mem_cons.1 ((h e).1 (by simp [he])) with c|c
   · subst c;exact absurd (g1 e he) irr
   · exact c
  ·
   intro he;rcases List.mem_cons.1 ((h e).2 (by simp [he])) with c|c
   · subst c;exact absurd (g2 e he) irr
   · exact c
section
variable {n L K t:Int}{l:List aC}{a b:Int}
theorem aLy(h:Ti n L l)(hn:0≤n)(hK:K≤L)(hc:CT l K a b)(x:aC):bDa l L a b x↔bDa l K a b x:=by
 have sub: ∀q,q∈en (fo l K)→q∈en (fo l L):=fun q hq=>by cases q;exact h.big hq
 constructor
 · rintro ⟨h1,h2⟩;obtain ⟨m1,m2,m3⟩:=eE.1 h1;refine ⟨eE.2 ⟨m1,m2,Classical.byContradiction fun c=>h2 (hc.mono fun q hq=>iX.2 ⟨sub q hq,fun e=>?_⟩)⟩,fun c=>h2 (c.mono fun q hq=>iX.2 ⟨sub q (iX.1 hq).1,(iX.1 hq).2⟩)⟩;subst e;exact h.not_mem m1 om hq
 ·
  rintro ⟨h1,h2⟩;obtain ⟨m1,m2,m3⟩:=eE.1 h1;refine ⟨eE.2 ⟨m1,m2,by omega⟩,fun c=>?_⟩;have hx:(x.U,x.V)∈en (fo l K):=qZ.2 ⟨x,m1,rfl,rfl,m2,m3⟩;have nb:=(h.fr.wo (h.inR hn L) (h.tb.fo_nodup L) (sub _ hx)).2;have up: ∀ {c d:Int},bO (wo (en (fo l K)) (x.U,x.V)) c d→bO (wo (en (fo l L)) (x.U,x.V)) c d:=fun k=>k.mono fun q hq=>iX.2 ⟨sub q (iX.1 hq).1,(iX.1 hq).2⟩;rcases bO.cons_iff.1 ((aLt (h.tb.fo_nodup K) hx a b).1 hc) with k|⟨k1,k2⟩|⟨k1,k2⟩
  · exact h2 k
  · exact nb ((up k1).symm.trans (c.trans (up k2).symm))
  · exact nb ((up k2).trans (c.symm.trans (up k1)))
theorem aZx(h:Ti n L l)(hn:0≤n)(hK:K≤L)(hc:CT l K a b){x:aC} :zT l L a b x↔zT l K a b x:=by
 constructor
 · exact fun k=>⟨(aLy h hn hK hc x).1 k.sep,fun y hy=>k.max y ((aLy h hn hK hc y).2 hy)⟩
 · exact fun k=>⟨(aLy h hn hK hc x).2 k.sep,fun y hy=>k.max y ((aLy h hn hK hc y).1 hy)⟩
theorem bHc{l m:List aC}(h:fo l K=fo m K){x:aC} :zT l K a b x→zT m K a b x:=fun k=>⟨⟨h▸k.sep.1,h▸k.sep.2⟩,fun y hy=>k.max y ⟨h.symm▸hy.1,h.symm▸hy.2⟩⟩
end
structure Apt(K:Int)(g h:aH):Prop where
  c:h.Config=g.Config
  e:en h.Edges=en g.Edges
  f:fo h.Edges K=fo g.Edges K
  s: ∀t,0≤t→t<K→hsh h t=hsh g t
theorem bFh{l:List aC}{k K:Int}(h:k≤K):fo (fo l K) k=fo l k:=by
 unfold fo;rw [List.filter_filter];refine List.filter_congr fun e _=>?_;rw [Bool.eq_iff_iff,Bool.and_eq_true,aFa,aFa];omega
theorem Apt.low{K k:Int}{g h:aH}(a:Apt K g h)(hk:k≤K):fo h.Edges k=fo g.Edges k:=by rw [←bFh hk,a.f,bFh hk]
theorem aVc{n L K t:Int}{l l2:List aC}{e:aC}(h:Ti n L l)(hn:0≤n)(h0:0≤t)(htK:t<K)(hK:K≤L)(he:e∈l)(hs:aPh l L t e l2)(x:aC):
 x∈fo l2 K↔x=⟨e.U,e.V,t+1⟩∨(x∈fo l K∧ ¬(x.U=e.U∧x.V=e.V)∧ ¬((e.U,e.V)∉en (fo l K)∧CT l K e.U e.V∧zT l K e.U e.V x)):=by
 have hx1: ∃y,y∈l∧y.U=e.U∧y.V=e.V:=⟨e,he,rfl,rfl⟩
 rcases hs with ⟨h1,h2,top,h3,rfl⟩|⟨h1,rfl⟩
 ·
  obtain ⟨htl,ht1,ht2⟩:=eE.1 h3.sep.1
  have hne: ¬(e.U=top.U∧e.V=top.V):=fun q=>by
   have:=h.tb.inj he htl q.1 q.2;subst this;omega
  have hx1: ∃y,y∈l∧y.U=top.U∧y.V=top.V:=⟨top,htl,rfl,rfl⟩
  have hx2: ∃y,y∈setT l top 0∧y.U=e.U∧y.V=e.V:=⟨e,(nF hx1).2 (.inl ⟨he,hne⟩),rfl,rfl⟩
  have hek:(e.U,e.V)∉en (fo l K):=h.not_mem he om;rw [eE,nF hx2,nF hx1,eE];constructor
  ·
   rintro ⟨⟨⟨m1,m2⟩|m1,m3⟩|m1,m4,m5⟩
   · refine .inr ⟨⟨m1,m4,m5⟩,m3,fun ⟨_,q1,q2⟩=>?_⟩;have:=((aZx h hn hK q1).2 q2).uniq h3;subst this;exact m2 ⟨rfl,rfl⟩
   · subst m1;simp at m4
   · exact .inl m1
  ·
   rintro (rfl|⟨⟨m1,m2,m3⟩,m4,m5⟩)
   · exact ⟨.inr rfl,by show 1≤t+1;omega,by show t+1≤K;omega⟩
   · refine ⟨.inl ⟨.inl ⟨m1,fun q=>m5 ⟨hek,?_⟩⟩,m4⟩,m2,m3⟩;have:=h.tb.inj m1 htl q.1 q.2;subst this;have hc:CT l K e.U e.V:=tR (aQp h hn h2 h3) m3;exact ⟨hc,(aZx h hn hK hc).1 h3⟩
 ·
  rw [eE,nF hx1,eE];constructor
  ·
   rintro ⟨⟨m1,m2⟩|m1,m4,m5⟩
   ·
    refine .inr ⟨⟨m1,m4,m5⟩,m2,fun ⟨q0,q1,_⟩=>?_⟩;have he0: ¬(1≤e.Tier∧e.Tier≤K):=fun c=>q0 (qZ.2 ⟨e,he,rfl,rfl,c.1,c.2⟩);have hge:=(oJ.1 (h.tb.ok e he)).2.2.2.1
    by_cases z:e.Tier=0
    · exact h1 ⟨z,tR q1 hK⟩
    · have hx:(e.U,e.V)∈en (fo l L):=qZ.2 ⟨e,he,rfl,rfl,by omega,h.le e he⟩;refine (h.fr.wo (h.inR hn L) (h.tb.fo_nodup L) hx).2 (q1.mono fun q hq=>iX.2 ⟨by cases q;exact h.big hq,fun c=>?_⟩);subst c;exact q0 hq
   · exact .inl m1
  ·
   rintro (rfl|⟨⟨m1,m2,m3⟩,m4,m5⟩)
   · exact ⟨.inr rfl,by show 1≤t+1;omega,by show t+1≤K;omega⟩
   · exact ⟨.inl ⟨m1,m4⟩,m2,m3⟩
theorem Apt.step{K t w:Int}{g h g2 h2:aH}(a:Apt K g h)(hg:GC g)(hh:GC h)(hK:K≤g.Config.L)(h0:0≤t)(ht:t<g.Config.L)(s:zU g t w g2)(s':zU h t w h2):Apt K g2 h2:=by
 have F:=s.facts hg.ti hg.n0 hg.l2 h0 ht;have F':=s'.facts hh.ti hh.n0 hh.l2 h0 (by rw [a.c];exact ht);refine ⟨by rw [F.al.c,F'.al.c,a.c],by rw [F.al.e,F'.al.e,a.e],?_,fun t h1 h2=>by rw [F.al.hsh,F'.al.hsh,a.s t h1 h2]⟩
 by_cases hk:t<K
 ·
  have e1:=a.low (k:=t) om;have e2:=a.low (k:=t+1) om;have hgr:Gr h t w↔Gr g t w:=by unfold Gr GT CT;rw [e1,e2]
  have hsr:(srch h t w).map uv=(srch g t w).map uv:=by
   rw [aSz,aSz,a.s t h0 hk,a.c];unfold ctq pf;rw [e1,a.e]
  rcases s with ⟨h1,rfl⟩|⟨h1,e,l2,k2,k3,rfl⟩
  ·
   rcases s' with ⟨m1,rfl⟩|⟨m1,f,l3,m2,m3,rfl⟩
   · exact a.f
   ·
    exfalso
    rcases h1 with q|q
    · exact m1 (hgr.2 q)
    · rw [m2,q] at hsr;cases hsr
  ·
   rcases s' with ⟨m1,rfl⟩|⟨m1,f,l3,m2,m3,rfl⟩
   ·
    exfalso
    rcases m1 with q|q
    · exact h1 (hgr.1 q)
    · rw [k2,q] at hsr;cases hsr
   ·
    rw [k2,m2] at hsr;have huv:uv f=uv e:=by simpa using hsr
    have eU:f.U=e.U:=congrArg Prod.fst huv;have eV:f.V=e.V:=congrArg Prod.snd huv;have t1:=aVc hg.ti hg.n0 h0 hk hK (aEy k2).1 k3;have t2:=aVc (h:=hh.ti) hh.n0 h0 hk (by rw [a.c];exact hK) (aEy m2).1 m3;refine bH8 (n:=0) ((F'.ti.tb.sub (aMo _ _)).pw) ((F.ti.tb.sub (aMo _ _)).pw) fun x=>?_;show x∈fo l3 K↔x∈fo l2 K;rw [t1,t2,eU,eV,a.f];have ic: ∀y,zT h.Edges K e.U e.V y↔zT g.Edges K e.U e.V y:=fun y=>⟨bHc a.f,bHc a.f.symm⟩
    have cc:CT h.Edges K e.U e.V↔CT g.Edges K e.U e.V:=by unfold CT;rw [a.f]
    rw [ic,cc]
 · rw [F.low K om,F'.low K om,a.f]
end Go.Proofs.YtkdohhmacfoolaaGreatDoor
set_option maxRecDepth 20000
set_option maxHeartbeats 1000000
namespace Go.Proofs.YtkdohhmacfoolaaGreatDoor
open Go Go.AM Go.Pl Go.Pt
theorem addN(a b:Nat):Int.tmod (IntKind.u64.wrap (Int.tmod (a:Int) 2305843009213693951+Int.tmod (b:Int) 2305843009213693951)) 2305843009213693951=(((a%2305843009213693951+b%2305843009213693951)%2305843009213693951:Nat):Int):=by
 rw [aQm,aQm,←Int.natCast_add,wuN om,aQm]
def HOK(h:bQ):Prop:=0≤h.A∧0≤h.B
theorem aOx{h:bQ}(hh:HOK h)(x:Nat):sO h (x:Int)=some ((aH4 h x:Nat):Int):=by
 obtain ⟨a,b⟩:=h;obtain ⟨h1,h2⟩:=hh;obtain ⟨a,rfl⟩:=Int.eq_ofNat_of_zero_le h1;obtain ⟨b,rfl⟩:=Int.eq_ofNat_of_zero_le h2;unfold sO;rw [bKi,aA];unfold aI6 aA7;rw [aA,aA,aA,addN];unfold aH4;rw [Nat.mod_mod];simp only [Int.toNat_natCast]
theorem aOv(j:Nat):sM (j:Int)=some ((zP j:Nat):Int):=by
 unfold sM zP
 by_cases h:j<61
 · rw [bf (by simp;omega),ck (by simp),aA,if_pos h];have:=bDc 2305843009213693951 j om;exact congrArg some this
 · rw [bt (by simp;omega),if_neg h];rfl
theorem bEd{i j:Nat}(h:i≤j):zP j≤zP i:=by
 unfold zP
 by_cases c:j<61
 · rw [if_pos c,if_pos om];exact Nat.div_le_div_left (Nat.pow_le_pow_right (by decide) h) (Nat.pow_pos (by decide))
 · rw [if_neg c];exact Nat.zero_le _
theorem aKo(V x:Nat)(hV:V≤61): ∀(m i:Nat),V<i+m→i≤V→(∀j,j<i→x<zP j)→ ∃d,lH m (V:Int) (x:Int) (i:Int)=some ((d:Nat):Int)∧d≤V∧ ∀j,j<V→(j<d↔x<zP j)
 |0,i,h,h',_=>by omega
 |m+1,i,h,h',hb=>by
  have step:lH (m+1) (V:Int) (x:Int) (i:Int)=if i<V∧x<zP i then lH m (V:Int) (x:Int) ((i+1:Nat):Int) else some (i:Int):=by
   show aCd (lH m) _ _ _=_;unfold aCd;have e:(if (61:Int)<(V:Int) then 61 else (V:Int))=(V:Int):=if_neg om;rw [e,aOv,gF,aA,wr1 i om]
   by_cases c:i<V
   ·
    rw [tZ c]
    by_cases c':x<zP i
    · rw [bt (by simp;exact c'),if_pos ⟨c,c'⟩]
    · rw [bf (by simp;omega),if_neg (fun q=>c' q.2)]
   · rw [tY c,bf (by simp),if_neg (fun q=>c q.1)]
  rw [step]
  by_cases c:i<V∧x<zP i
  ·
   rw [if_pos c]
   exact aKo V x hV m (i+1) om om fun j hj=>by
    by_cases e:j=i
    · subst e;exact c.2
    · exact hb j om
  · rw [if_neg c];refine ⟨i,rfl,h',fun j hj=>⟨hb j,fun hx=>Classical.byContradiction fun q=>c ⟨by omega,Nat.lt_of_lt_of_le hx (bEd om)⟩⟩⟩
theorem aS4{h:bQ}(hh:HOK h)(x V:Nat)(hV:V≤61): ∃d,uY h (x:Int) (V:Int)=some ((d:Nat):Int)∧d≤V∧ ∀j,j<V→(j<d↔aH4 h x<zP j):=by
 have hFU:=FU;unfold uY;rw [aOx hh,aA];exact aKo V (aH4 h x) hV bF 0 om (Nat.zero_le _) (fun j hj=>by omega)
set_option maxRecDepth 100000 in
theorem aUo: ∀n:Nat,n<1025→1≤n→pZ (n:Int)=some ((lvl n:Nat):Int)∧2≤lvl n∧lvl n≤22:=by decide+kernel
theorem aN1{n:Int}(h1:1≤n)(h2:n≤1024):pZ n=some ((lvl n:Nat):Int)∧2≤lvl n∧lvl n≤22:=by
 obtain ⟨k,rfl⟩:=Int.eq_ofNat_of_zero_le (a:=n) om;exact aUo k om om
end Go.Proofs.YtkdohhmacfoolaaGreatDoor
namespace Go.Pt
def aJ1{α:Type}(f:α→Nat):List α→Nat
  |[]=>0
  |a::l=>f a ^^^ aJ1 f l
section
variable {α:Type}
theorem aQt(f:α→Nat): ∀(l:List α) (w:Nat),l.foldl (fun w x=>w ^^^ f x) w=w ^^^ aJ1 f l
 |[],w=>by simp [aJ1]
 |a::l,w=>by rw [List.foldl_cons,aQt f l];simp [aJ1,Nat.xor_assoc]
theorem aYx{f g:α→Nat}{l:List α}(h: ∀x,x∈l→f x=g x):aJ1 f l=aJ1 g l:=by
 induction l with
 |nil=>rfl
 |cons a l ih=>simp only [aJ1];rw [h a (by simp),ih fun x hx=>h x (by simp [hx])]
end
end Go.Pt
namespace Go.Proofs.YtkdohhmacfoolaaGreatDoor
open Go.Pt
theorem bHn(h:bQ)(j:Nat)(names:List Nat):tH h j names=aJ1 (fun x=>if aH4 h x<zP j then x else 0) names:=by
 have: ∀w:Nat,names.foldl (fun w x=>if aH4 h x<zP j then w ^^^ x else w) w=names.foldl (fun w x=>w ^^^ (if aH4 h x<zP j then x else 0)) w:=by
  induction names with
  |nil=>intro w;rfl
  |cons a l ih=>
   intro w;rw [List.foldl_cons,List.foldl_cons,ih];congr 1;split<;>simp
 unfold tH;rw [this,aQt];simp
theorem bL1(h:bQ)(x:Nat):aH4 h x<2305843009213693951:=Nat.mod_lt _ (by decide)
theorem bEe:zP 0=2305843009213693951:=rfl
theorem aYv(h:bQ)(names:List Nat):tH h 0 names=aJ1 (fun x=>x) names:=by
 rw [bHn];exact aYx fun x _=>if_pos (by rw [bEe];exact bL1 h x)
theorem aVt{h:bQ}{hs:List bQ}{V:Nat}(hV:0<V)(names:List Nat): ∃r,kW (h::hs) V names=aJ1 (fun x=>x) names::r:=by
 obtain ⟨k,hk⟩: ∃k,(h::hs).length*V=k+1:=⟨(h::hs).length*V-1,by
  have:0<(h::hs).length*V:=Nat.mul_pos (by simp) hV;omega⟩
 unfold kW;have e0:tH ((h::hs).getD 0 ⟨0,0⟩) 0 names=aJ1 (fun x=>x) names:=aYv h names;rw [hk,List.range_succ_eq_map,List.map_cons,Nat.zero_div,Nat.zero_mod,e0];exact ⟨_,rfl⟩
theorem aSy(f:aC→Nat){ws:List Nat}{e:aC}{r:List Nat}(h:ws=f e::r):(ws.findSome? fun w=>[e].find? fun e=>f e==w)=some e:=by
 subst h;rw [List.findSome?_cons,List.find?_cons];simp
theorem bDe{hs:List bQ}{V:Nat}(hh:hs≠[])(hV:0<V)(e:aC):aEx hs V [e]=some e:=by
 cases hs with
 |nil=>exact absurd rfl hh
 |cons h hs=>
  unfold aEx;generalize hf:(fun e=>nmQ (uv e))=f;obtain ⟨r,hr⟩:=aVt (h:=h) (hs:=hs) hV ([e].map f);have h2:aJ1 (fun x=>x) ([e].map f)=f e:=by simp [aJ1]
  rw [h2] at hr;have:=aSy f hr;rw [←hf] at this⊢;exact this
theorem aQh{hs:List bQ}{V:Nat} :aEx hs V []=none:=by
 unfold aEx;rw [List.findSome?_eq_none_iff];intro w _;rfl
end Go.Proofs.YtkdohhmacfoolaaGreatDoor
