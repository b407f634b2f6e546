/- Facts. No condition. -/
import Derived.Test.YtkdohhmacfoolaaGreatDoorPgAudT
set_option linter.unusedVariables false
set_option linter.unusedSimpArgs false
namespace Go.Pt
variable {l:List E}{n:Nat}
def wo(l:List E)(x:E):List E:=l.filter fun e=>decide (e≠x)
theorem tD{x e:E} :e∈wo l x↔e∈l∧e≠x:=by unfold wo;rw [List.mem_filter];simp
theorem aO1(h:l.Nodup)(x:E):(wo l x).Nodup:=h.filter _
theorem bYk(x:E):(wo l x).Sublist l:=List.filter_sublist
theorem bB9{l l':List E}(h:l.Nodup)(h':l'.Nodup)(hm: ∀e,e∈l↔e∈l'):l.Perm l':=(List.perm_ext_iff_of_nodup h h').2 hm
theorem aY6(h:l.Nodup){x:E}(hx:x∈l):l.Perm (x::wo l x):=by
 refine bB9 h (List.nodup_cons.2 ⟨fun k=>(tD.1 k).2 rfl,aO1 h x⟩) fun e=>?_;rw [List.mem_cons,tD]
 by_cases q:e=x
 · subst q;simp [hx]
 · simp [q]
theorem eN.ext{l l':List E}(hf:eN n l)(h:l.Nodup)(h':l'.Nodup)(hm: ∀e,e∈l↔e∈l'):eN n l':=hf.perm (bB9 h h' hm)
theorem eN.wo(hr:InR n l)(hd:l.Nodup)(hf:eN n l){x:E}(hx:x∈l):eN n (wo l x)∧ ¬cO (wo l x) x.1 x.2:=
 (eN.cons (hr.perm (aY6 hd hx))).1 (hf.perm (aY6 hd hx))
theorem aWy(hd:l.Nodup){x:E}(hx:x∈l)(a b:Int):cO l a b↔cO (x::wo l x) a b:=sQ (fun _=>(aY6 hd hx).mem_iff) a b
theorem InR.wo(hr:InR n l)(x:E):InR n (wo l x):=fun e he=>hr e (tD.1 he).1
theorem bXs(hr:InR n l)(hd:l.Nodup)(hf:eN n l){x y:E}{a b:Int}(h1:cO (wo l x) a b)(h2:cO (wo l y) a b):cO (wo (wo l x) y) a b:=by
 by_cases hy:y∈Go.Pt.wo l x
 ·
  have hyl:=(tD.1 hy).1;have nb:=(hf.wo hr hd hyl).2;have m: ∀ {c d:Int},cO (Go.Pt.wo (Go.Pt.wo l x) y) c d→cO (Go.Pt.wo l y) c d:=fun h=>h.mono fun e he=>tD.2 ⟨(tD.1 (tD.1 he).1).1,(tD.1 he).2⟩;rcases cO.cons_iff.1 ((aWy (aO1 hd x) hy a b).1 h1) with h|⟨k1,k2⟩|⟨k1,k2⟩
  · exact h
  · exact absurd ((m k1).symm.trans (h2.trans (m k2).symm)) nb
  · exact absurd ((m k2).trans (h2.symm.trans (m k1))) nb
 · exact h1.mono fun e he=>tD.2 ⟨he,fun q=>by subst q;exact hy he⟩
theorem bO5{a b:Int} : ∀(r l:List E),InR n l→l.Nodup→eN n l→(∀x,x∈r→cO (wo l x) a b)→cO l a b→cO (l.filter fun e=>decide (e∉r)) a b
 |[],l,_,_,_,_,h=>h.mono fun e he=>by simp [he]
 |x::r,l,hr,hd,hf,hx,h=>by
  have h1:=hx x (by simp);have hf':eN n (wo l x):=hf.sublist hr (bYk x);have ih:=bO5 r (wo l x) (hr.wo x) (aO1 hd x) hf' (fun y hy=>bXs hr hd hf h1 (hx y (by simp [hy]))) h1;refine ih.mono fun e he=>?_;rw [List.mem_filter] at he⊢;have:=tD.1 he.1;refine ⟨this.1,?_⟩;have h2:=he.2;simp only [decide_eq_true_eq] at h2⊢;simp only [List.mem_cons,not_or];exact ⟨this.2,h2⟩
theorem keep{a b:Int}(P:E→Bool)(hr:InR n l)(hd:l.Nodup)(hf:eN n l)(hP: ∀x,x∈l→P x=false→cO (wo l x) a b)(h:cO l a b):cO (l.filter P) a b:=by
 refine (bO5 (l.filter fun e=> !P e) l hr hd hf (fun x hx=>?_) h).mono fun e he=>?_
 · rw [List.mem_filter] at hx;exact hP x hx.1 (by simpa using hx.2)
 ·
  rw [List.mem_filter] at he⊢;refine ⟨he.1,?_⟩;have:=he.2;simp only [decide_eq_true_eq,List.mem_filter,not_and] at this;have:=this he.1
  simpa using this
theorem bY2{a b:Int}(hr:InR n l)(hd:l.Nodup)(hf:eN n l)(h:cO l a b)(hab:a≠b): ∃x,x∈l∧ ¬cO (wo l x) a b:=by
 refine Classical.byContradiction fun c=>hab ?_;have:=keep (fun _=>false) hr hd hf (fun x hx _=>Classical.byContradiction fun k=>c ⟨x,hx,k⟩) h;rw [List.filter_eq_nil_iff.2 (by simp)] at this;exact this.nil
def ltE(a b:E):Prop:=a.1<b.1∨a.1=b.1∧a.2<b.2
theorem aOp{a b c:E}(h:ltE a b)(k:ltE b c):ltE a c:=by unfold ltE at *; omega
theorem bPr(h:l.Pairwise ltE):l.Nodup:=h.imp fun {a b} h e=>by subst e;unfold ltE at h;omega
end Go.Pt
namespace Go.Proofs.YtkdohhmacfoolaaGreatDoor
open Go.Pt
structure Tb(n:Int)(l:List aE):Prop where
  pw:(en l).Pairwise ltE
  ok: ∀e,e∈l→okE n e=true
theorem aD0{a b:aE} :aEq a b=true↔ltE (a.U,a.V) (b.U,b.V):=by unfold aEq ltE;exact decide_eq_true_iff
theorem aRa(e:aE)(l:List aE):en (e::l)=(e.U,e.V)::en l:=rfl
theorem oW{l:List aE}{q:E} :q∈en l↔ ∃e,e∈l∧(e.U,e.V)=q:=by unfold en;rw [List.mem_map]
theorem bH8{n:Int} : ∀ {l:List aE} {p:Option aE},trL n p l=true↔(∀e,e∈l→okE n e=true)∧(en l).Pairwise ltE∧ ∀q,p=some q→ ∀e,e∈l→ltE (q.U,q.V) (e.U,e.V)
 |[],p=>by simp [trL,en]
 |a::l,p=>by
  rw [aTo,Bool.and_eq_true,bH8 (l:=l),aRa,List.pairwise_cons];unfold stE;rw [Bool.and_eq_true];constructor
  ·
   rintro ⟨⟨h1,h2⟩,h3,h4,h5⟩;refine ⟨fun e he=>?_,⟨fun q hq=>?_,h4⟩,?_⟩
   ·
    rcases List.mem_cons.1 he with r|r
    · subst r;exact h1
    · exact h3 e r
   · obtain ⟨x,hx,rfl⟩:=oW.1 hq;exact h5 a rfl x hx
   ·
    rintro q rfl e he;have hq:ltE (q.U,q.V) (a.U,a.V):=aD0.1 h2;rcases List.mem_cons.1 he with r|r
    · subst r;exact hq
    · exact aOp hq (h5 a rfl e r)
  ·
   rintro ⟨h1,⟨h2,h3⟩,h4⟩;refine ⟨⟨h1 a (by simp),?_⟩,fun e he=>h1 e (by simp [he]),h3,?_⟩
   ·
    cases p with
    |none=>rfl
    |some q=>exact aD0.2 (h4 q rfl a (by simp))
   · rintro q hq e he;cases hq;exact h2 _ (oW.2 ⟨e,he,rfl⟩)
theorem aI0{n:Int}{l:List aE} :trB n l=true↔0≤n∧n≤1024∧Tb n l:=by
 unfold trB;rw [Bool.and_eq_true,decide_eq_true_eq,bH8];constructor
 · rintro ⟨⟨a,b⟩,c,d,_⟩;exact ⟨a,b,d,c⟩
 · rintro ⟨a,b,d,c⟩;exact ⟨⟨a,b⟩,c,d,fun q h=>by cases h⟩
section
variable {n:Int}{l:List aE}
theorem Tb.rg(h:Tb n l):Rg n l:=fun e he=>by
 have:=uR.1 (h.ok e he);omega
theorem Tb.nodup(h:Tb n l):(en l).Nodup:=bPr h.pw
theorem Tb.inj(h:Tb n l){e f:aE}(he:e∈l)(hf:f∈l)(hu:e.U=f.U)(hv:e.V=f.V):e=f:=by
 have hp:l.Pairwise fun a b=>ltE (a.U,a.V) (b.U,b.V):=by have:=h.pw;unfold en at this;rwa [List.pairwise_map] at this
 clear h
 induction l with
 |nil=>cases he
 |cons a l ih=>
  rw [List.pairwise_cons] at hp;rcases List.mem_cons.1 he with r|r<;>rcases List.mem_cons.1 hf with s|s
  · rw [r,s]
  · subst r;have:=hp.1 f s;unfold ltE at this;simp only at this;omega
  · subst s;have:=hp.1 e r;unfold ltE at this;simp only at this;omega
  · exact ih r s hp.2
theorem aLl{l l':List aE}(h:l'.Sublist l):(en l').Sublist (en l):=h.map _
theorem Tb.sub{l':List aE}(h:Tb n l)(hs:l'.Sublist l):Tb n l':=⟨h.pw.sublist (aLl hs),fun e he=>h.ok e (hs.subset he)⟩
theorem bE5(l:List aE)(k:Int):(fo l k).Sublist l:=List.filter_sublist
theorem Tb.fo_nodup(h:Tb n l)(k:Int):(en (fo l k)).Nodup:=(h.sub (bE5 l k)).nodup
end
theorem aK8{t:Int}{e:aE} :inT t e=true↔1≤e.Tier∧e.Tier≤t:=by unfold inT;simp
theorem qS{l:List aE}{k:Int}{e:aE} :e∈fo l k↔e∈l∧1≤e.Tier∧e.Tier≤k:=by unfold fo;rw [List.mem_filter,aK8]
theorem aC4{l:List aE}{k a b:Int} :(a,b)∈en (fo l k)↔ ∃e,e∈l∧e.U=a∧e.V=b∧1≤e.Tier∧e.Tier≤k:=by
 rw [oW];constructor
 · rintro ⟨e,he,h⟩;obtain ⟨h1,h2,h3⟩:=qS.1 he;cases h;exact ⟨e,h1,rfl,rfl,h2,h3⟩
 · rintro ⟨e,h1,rfl,rfl,h2,h3⟩;exact ⟨e,qS.2 ⟨h1,h2,h3⟩,rfl⟩
def setT(l:List aE)(x:aE)(s:Int):List aE:=l.map fun e=>if e.U=x.U∧e.V=x.V then ⟨e.U,e.V,s⟩ else e
section
variable {n:Int}{l:List aE}{x:aE}{s:Int}
theorem aRb(l:List aE)(x:aE)(s:Int):en (setT l x s)=en l:=by
 unfold en setT;rw [List.map_map];apply List.map_congr_left;intro e _;simp only [Function.comp];split<;>rfl
theorem bQ3(l:List aE)(x:aE)(s:Int):(setT l x s).length=l.length:=by simp [setT]
theorem Tb.setT(h:Tb n l)(h0:0≤s)(h1:s≤16):Tb n (setT l x s):=by
 refine ⟨by rw [aRb];exact h.pw,fun e he=>?_⟩;unfold Go.Proofs.YtkdohhmacfoolaaGreatDoor.setT at he;obtain ⟨y,hy,rfl⟩:=List.mem_map.1 he;have:=uR.1 (h.ok y hy);split
 · exact uR.2 ⟨this.1,this.2.1,this.2.2.1,h0,h1⟩
 · exact h.ok y hy
theorem aG5{e:aE}(hx: ∃y,y∈l∧y.U=x.U∧y.V=x.V):e∈setT l x s↔(e∈l∧ ¬(e.U=x.U∧e.V=x.V))∨e=⟨x.U,x.V,s⟩:=by
 unfold setT;rw [List.mem_map];constructor
 ·
  rintro ⟨y,hy,rfl⟩;split
  · rename_i c;right;rw [c.1,c.2]
  · rename_i c;exact .inl ⟨hy,c⟩
 ·
  rintro (⟨h1,h2⟩|rfl)
  · exact ⟨e,h1,if_neg h2⟩
  · obtain ⟨y,hy,h1,h2⟩:=hx;refine ⟨y,hy,?_⟩;rw [if_pos ⟨h1,h2⟩,h1,h2]
theorem aJ2{k a b:Int}(hx: ∃y,y∈l∧y.U=x.U∧y.V=x.V):(a,b)∈en (fo (setT l x s) k)↔((a,b)∈en (fo l k)∧ ¬(a=x.U∧b=x.V))∨((a=x.U∧b=x.V)∧1≤s∧s≤k):=by
 rw [aC4,aC4];constructor
 ·
  rintro ⟨e,he,rfl,rfl,h1,h2⟩;rcases (aG5 hx).1 he with ⟨h3,h4⟩|rfl
  · exact .inl ⟨⟨e,h3,rfl,rfl,h1,h2⟩,h4⟩
  · exact .inr ⟨⟨rfl,rfl⟩,h1,h2⟩
 ·
  rintro (⟨⟨e,he,rfl,rfl,h1,h2⟩,h3⟩|⟨⟨rfl,rfl⟩,h1,h2⟩)
  · exact ⟨e,(aG5 hx).2 (.inl ⟨he,h3⟩),rfl,rfl,h1,h2⟩
  · exact ⟨_,(aG5 hx).2 (.inr rfl),rfl,rfl,h1,h2⟩
theorem aRc{k:Int}(hs: ¬(1≤s∧s≤k)): ∀ {l:List aE},(∀e,e∈l→e.U=x.U→e.V=x.V→ ¬(1≤e.Tier∧e.Tier≤k))→fo (setT l x s) k=fo l k
 |[],_=>rfl
 |e::l,h=>by
  have ih:=aRc hs (l:=l) (fun e he=>h e (by simp [he]));have h1:=h e (by simp);unfold fo setT at ih⊢;rw [List.map_cons,List.filter_cons,List.filter_cons,ih];split
  ·
   rename_i c;have a1:inT k ⟨e.U,e.V,s⟩=false:=by rw [Bool.eq_false_iff];intro q;exact hs (aK8.1 q)
   have a2:inT k e=false:=by rw [Bool.eq_false_iff];intro q;exact h1 c.1 c.2 (aK8.1 q)
   rw [a1,a2];rfl
  · rfl
end
abbrev CT(l:List aE)(t x y:Int):Prop:=cO (en (fo l t)) x y
def aO9(y x:aE):Prop:=x.Tier<y.Tier∨y.Tier=x.Tier∧ltE (x.U,x.V) (y.U,y.V)
def bUp(l:List aE)(L a b:Int)(x:aE):Prop:=x∈fo l L∧ ¬cO (wo (en (fo l L)) (x.U,x.V)) a b
structure bFq(l:List aE)(L a b:Int)(top:aE):Prop where
  sep:bUp l L a b top
  max: ∀y,bUp l L a b y→ ¬aO9 y top
def bV2(l:List aE)(L t:Int)(e:aE)(l2:List aE):Prop:=
  (e.Tier=0∧CT l L e.U e.V∧ ∃top,bFq l L e.U e.V top∧l2=setT (setT l top 0) e (t+1))∨(¬(e.Tier=0∧CT l L e.U e.V)∧l2=setT l e (t+1))
theorem aDd{l:List aE}{t t' x y:Int}(h:CT l t x y)(ht:t≤t'):CT l t' x y:=cO.mono (fun e he=>by
 cases e with|mk a b=>
 obtain ⟨e,h1,h2,h3,h4,h5⟩:=aC4.1 he;exact aC4.2 ⟨e,h1,h2,h3,h4,by omega⟩) h
structure Ti(n L:Int)(l:List aE):Prop where
  tb:Tb n l
  le: ∀e,e∈l→e.Tier≤L
  fr:eN n.toNat (en (fo l L))
structure Stp(n L t:Int)(e:aE)(l l2:List aE):Prop where
  ti:Ti n L l2
  en:en l2=en l
  low: ∀k,k≤t→fo l2 k=fo l k
  up: ∀k x y,CT l k x y→CT l2 k x y
  now:CT l2 (t+1) e.U e.V
  just: ∀k x y,CT l2 k x y→CT l k x y∨((CT l k x e.U∨CT l k x e.V)∧(CT l k e.U y∨CT l k e.V y))
theorem aOd{l:List E}{e:E}{x y:Int}(h:cO (e::l) x y):cO l x y∨((cO l x e.1∨cO l x e.2)∧(cO l e.1 y∨cO l e.2 y)):=by
 rcases cO.cons_iff.1 h with h|⟨h,k⟩|⟨h,k⟩
 · exact .inl h
 · exact .inr ⟨.inl h,.inr k⟩
 · exact .inr ⟨.inr h,.inl k⟩
section
variable {n L t:Int}{e:aE}{l l2:List aE}
theorem Ti.inR(h:Ti n L l)(hn:0≤n)(k:Int):InR n.toNat (en (fo l k)):=Rg.inR ((h.tb.sub (bE5 l k)).rg) hn
theorem Ti.big(h:Ti n L l){k:Int}{a b:Int}(hm:(a,b)∈en (fo l k)):(a,b)∈en (fo l L):=by
 obtain ⟨e,h1,h2,h3,h4,h5⟩:=aC4.1 hm;exact aC4.2 ⟨e,h1,h2,h3,h4,h.le e h1⟩
theorem Ti.not_mem(h:Ti n L l)(he:e∈l){k:Int}(hk: ¬(1≤e.Tier∧e.Tier≤k)):(e.U,e.V)∉en (fo l k):=fun q=>by
 obtain ⟨f,h1,h2,h3,h4⟩:=aC4.1 q;have:=h.tb.inj h1 he h2 h3;subst this;exact hk h4
theorem aYn(h: ∀e,e∈l→e.Tier≤L){x:aE}{s:Int}(hs:s≤L): ∀e,e∈setT l x s→e.Tier≤L:=fun e he=>by
 unfold setT at he;obtain ⟨y,hy,rfl⟩:=List.mem_map.1 he;split
 · exact hs
 · exact h y hy
theorem bLn(h:Ti n L l)(hn:0≤n)(hc:CT l L e.U e.V){top:aE}(hT:bFq l L e.U e.V top):CT l top.Tier e.U e.V:=by
 classical
 have:=keep (fun q=>decide (q∈en (fo l top.Tier))) (h.inR hn L) (h.tb.fo_nodup L) h.fr (fun x hx hP=>by
  cases x with|mk a b=>
  refine Classical.byContradiction fun c=>?_;obtain ⟨y,h1,rfl,rfl,h4,h5⟩:=aC4.1 hx;have hs:bUp l L e.U e.V y:=⟨qS.2 ⟨h1,h4,h5⟩,c⟩
  have hm:=hT.max y hs;have:y.Tier≤top.Tier:=by unfold aO9 at hm;omega
  simp only [decide_eq_false_iff_not] at hP;exact hP (aC4.2 ⟨y,h1,rfl,rfl,h4,this⟩)) hc
 exact this.mono fun q hq=>by
  rw [List.mem_filter] at hq
  simpa using hq.2
theorem cB3(h:Ti n L l)(hn:0≤n)(h0:0≤t)(htL:t<L)(hL:L≤16)(he:e∈l)(hno: ¬CT l (t+1) e.U e.V)(h1:e.Tier=0)(hc:CT l L e.U e.V){top:aE}(hT:bFq l L e.U e.V top):
 Stp n L t e l (setT (setT l top 0) e (t+1)):=by
 obtain ⟨htl,ht1,ht2⟩:=qS.1 hT.sep.1;have hab:=bLn h hn hc hT;have hgt:t+1<top.Tier:=Classical.byContradiction fun c=>hno (aDd hab om)
 have hne: ¬(e.U=top.U∧e.V=top.V):=fun q=>by
  have:=h.tb.inj he htl q.1 q.2;subst this;omega
 have hx1: ∃y,y∈l∧y.U=top.U∧y.V=top.V:=⟨top,htl,rfl,rfl⟩
 have hx2: ∃y,y∈setT l top 0∧y.U=e.U∧y.V=e.V:=⟨e,(aG5 hx1).2 (.inl ⟨he,hne⟩),rfl,rfl⟩
 have hek: ∀k,(e.U,e.V)∉en (fo l k):=fun k=>h.not_mem he om
 have hm: ∀k a b,(a,b)∈en (fo (setT (setT l top 0) e (t+1)) k)↔((a,b)∈en (fo l k)∧ ¬(a=top.U∧b=top.V))∨((a=e.U∧b=e.V)∧t+1≤k):=by
  intro k a b;rw [aJ2 hx2,aJ2 hx1];constructor
  ·
   rintro (⟨h1|h1,h2⟩|h1)
   · exact .inl h1
   · omega
   · exact .inr ⟨h1.1,h1.2.2⟩
  ·
   rintro (h1|h1)
   · refine .inl ⟨.inl h1,?_⟩;rintro ⟨rfl,rfl⟩;exact hek k h1.1
   · exact .inr ⟨h1.1,by omega,h1.2⟩
 have hlow: ∀k,k≤t→fo (setT (setT l top 0) e (t+1)) k=fo l k:=fun k hk=>by
  rw [aRc om,aRc om]
  · intro y hy a b;have:=h.tb.inj hy htl a b;subst this;omega
  ·
   intro y hy a b c;rcases (aG5 hx1).1 hy with ⟨q,_⟩|q
   · have:=h.tb.inj q he a b;subst this;omega
   · subst q;simp at c
 have hmid: ∀k,t+1≤k→k<top.Tier→ ∀x y,cO (en (fo (setT (setT l top 0) e (t+1)) k)) x y↔cO ((e.U,e.V)::en (fo l k)) x y:=fun k hk hk'=>sQ fun q=>by
  cases q with|mk a b=>
  rw [hm,List.mem_cons];have hk2:(top.U,top.V)∉en (fo l k):=h.not_mem htl om;constructor
  ·
   rintro (h1|⟨⟨rfl,rfl⟩,_⟩)
   · exact .inr h1.1
   · exact .inl rfl
  ·
   rintro (h1|h1)
   · cases h1;exact .inr ⟨⟨rfl,rfl⟩,hk⟩
   · exact .inl ⟨h1,fun c=>hk2 (by rw [←c.1,←c.2];exact h1)⟩
 have hnt: ∀k,¬cO (wo (en (fo l k)) (top.U,top.V)) e.U e.V:=fun k c=>hT.sep.2 (c.mono fun q hq=>by
  cases q with|mk a b=>
  exact tD.2 ⟨h.big (tD.1 hq).1,(tD.1 hq).2⟩)
 have hmemT: ∀k,top.Tier≤k→(top.U,top.V)∈en (fo l k):=fun k hk=>aC4.2 ⟨top,htl,rfl,rfl,ht1,hk⟩
 have hmemE: ∀k,t+1≤k→ ∀q,q∈en (fo (setT (setT l top 0) e (t+1)) k)↔q∈(e.U,e.V)::wo (en (fo l k)) (top.U,top.V):=fun k hk q=>by
  cases q with|mk a b=>
  rw [hm,List.mem_cons,tD];constructor
  ·
   rintro (h1|⟨⟨rfl,rfl⟩,_⟩)
   · exact .inr ⟨h1.1,fun c=>h1.2 (by cases c;exact ⟨rfl,rfl⟩)⟩
   · exact .inl rfl
  ·
   rintro (h1|h1)
   · cases h1;exact .inr ⟨⟨rfl,rfl⟩,hk⟩
   · exact .inl ⟨h1.1,fun c=>h1.2 (by rw [c.1,c.2])⟩
 have hhigh: ∀k,top.Tier≤k→ ∀x y,cO (en (fo (setT (setT l top 0) e (t+1)) k)) x y↔CT l k x y:=fun k hk x y=>by
  rw [sQ (hmemE k om) x y];refine Iff.trans ?_ (aWy (h.tb.fo_nodup k) (hmemT k hk) x y).symm;exact bLi ((aWy (h.tb.fo_nodup k) (hmemT k hk) _ _).1 (aDd hab hk)) (hnt k) x y
 have htb:Tb n (setT (setT l top 0) e (t+1)):=(h.tb.setT om om).setT om om;refine ⟨⟨htb,aYn (aYn h.le om) om,?_⟩,by rw [aRb,aRb],hlow,fun k x y hk=>?_,?_,fun k x y hk=>?_⟩
 ·
  have hw:=h.fr.wo (h.inR hn L) (h.tb.fo_nodup L) (hmemT L om);have hee:(e.U,e.V)∉wo (en (fo l L)) (top.U,top.V):=fun q=>hek L (tD.1 q).1
  have hr:InR n.toNat ((e.U,e.V)::wo (en (fo l L)) (top.U,top.V)):=fun q hq=>by
   rcases List.mem_cons.1 hq with c|c
   · subst c;exact Rg.inR h.tb.rg hn _ (oW.2 ⟨e,he,rfl⟩)
   · exact h.inR hn L q (tD.1 c).1
  have hF:eN n.toNat ((e.U,e.V)::wo (en (fo l L)) (top.U,top.V)):=(eN.cons hr).2 ⟨hw.1,hnt L⟩;exact hF.ext (List.nodup_cons.2 ⟨hee,aO1 (h.tb.fo_nodup L) _⟩) (htb.fo_nodup L) fun q=>(hmemE L om q).symm
 ·
  by_cases c:k≤t
  · unfold CT;rw [hlow k c];exact hk
  ·
   by_cases c':k<top.Tier
   · exact (hmid k om c' x y).2 (cO.mono (fun q hq=>List.mem_cons_of_mem _ hq) hk)
   · exact (hhigh k om x y).2 hk
 · exact (hmid (t+1) om hgt _ _).2 (.one (by simp))
 ·
  by_cases c:k≤t
  · left;unfold CT at hk;rw [hlow k c] at hk;exact hk
  ·
   by_cases c':k<top.Tier
   · exact aOd ((hmid k om c' x y).1 hk)
   · exact .inl ((hhigh k om x y).1 hk)
theorem cB4(h:Ti n L l)(hn:0≤n)(h0:0≤t)(htL:t<L)(hL:L≤16)(he:e∈l)(hno: ¬CT l (t+1) e.U e.V)(h1: ¬(e.Tier=0∧CT l L e.U e.V)):
 Stp n L t e l (setT l e (t+1)):=by
 have hx1: ∃y,y∈l∧y.U=e.U∧y.V=e.V:=⟨e,he,rfl,rfl⟩
 have hge:=(uR.1 (h.tb.ok e he)).2.2.2.1;have hti:e.Tier=0∨t+1<e.Tier:=Classical.byContradiction fun c=>hno (.one (aC4.2 ⟨e,he,rfl,rfl,by omega,by omega⟩))
 have hm: ∀k,t+1≤k→ ∀q,q∈en (fo (setT l e (t+1)) k)↔q∈(e.U,e.V)::en (fo l k):=fun k hk q=>by
  cases q with|mk a b=>
  rw [aJ2 hx1,List.mem_cons];constructor
  ·
   rintro (h1|⟨⟨rfl,rfl⟩,_⟩)
   · exact .inr h1.1
   · exact .inl rfl
  ·
   rintro (h1|h1)
   · cases h1;exact .inr ⟨⟨rfl,rfl⟩,by omega,hk⟩
   ·
    by_cases c:a=e.U∧b=e.V
    · exact .inr ⟨c,by omega,hk⟩
    · exact .inl ⟨h1,c⟩
 have hlow: ∀k,k≤t→fo (setT l e (t+1)) k=fo l k:=fun k hk=>by
  rw [aRc om];intro y hy a b;have:=h.tb.inj hy he a b;subst this;omega
 have htb:Tb n (setT l e (t+1)):=h.tb.setT om om;refine ⟨⟨htb,aYn h.le om,?_⟩,by rw [aRb],hlow,fun k x y hk=>?_,?_,fun k x y hk=>?_⟩
 ·
  by_cases c:e.Tier=0
  ·
   have hc: ¬CT l L e.U e.V:=fun q=>h1 ⟨c,q⟩;have hek:(e.U,e.V)∉en (fo l L):=h.not_mem he om
   have hr:InR n.toNat ((e.U,e.V)::en (fo l L)):=fun q hq=>by
    rcases List.mem_cons.1 hq with c|c
    · subst c;exact Rg.inR h.tb.rg hn _ (oW.2 ⟨e,he,rfl⟩)
    · exact h.inR hn L q c
   exact ((eN.cons hr).2 ⟨h.fr,hc⟩).ext (List.nodup_cons.2 ⟨hek,h.tb.fo_nodup L⟩) (htb.fo_nodup L) fun q=>(hm L om q).symm
  ·
   have hek:(e.U,e.V)∈en (fo l L):=aC4.2 ⟨e,he,rfl,rfl,by omega,h.le e he⟩;refine h.fr.ext (h.tb.fo_nodup L) (htb.fo_nodup L) fun q=>?_;rw [hm L om,List.mem_cons];constructor
   · exact .inr
   ·
    rintro (c|c)
    · subst c;exact hek
    · exact c
 ·
  by_cases c:k≤t
  · unfold CT;rw [hlow k c];exact hk
  · exact (sQ (hm k om) x y).2 (cO.mono (fun q hq=>List.mem_cons_of_mem _ hq) hk)
 · exact (sQ (hm (t+1) om) _ _).2 (.one (by simp))
 ·
  by_cases c:k≤t
  · left;unfold CT at hk;rw [hlow k c] at hk;exact hk
  · exact aOd ((sQ (hm k om) x y).1 hk)
theorem bFd(h:Ti n L l)(hn:0≤n)(h0:0≤t)(htL:t<L)(hL:L≤16)(he:e∈l)(hno: ¬CT l (t+1) e.U e.V)(hs:bV2 l L t e l2):Stp n L t e l l2:=by
 rcases hs with ⟨h1,h2,top,h3,rfl⟩|⟨h1,rfl⟩
 · exact cB3 h hn h0 htL hL he hno h1 h2 h3
 · exact cB4 h hn h0 htL hL he hno h1
end
end Go.Proofs.YtkdohhmacfoolaaGreatDoor
