/- Facts. No condition. -/
import Derived.Test.YtkdohhmacfoolaaGreatDoorOcIxW
set_option linter.unusedVariables false
set_option linter.unusedSimpArgs false
set_option maxRecDepth 20000
set_option maxHeartbeats 1000000
namespace Go.Proofs.YtkdohhmacfoolaaGreatDoor
open Go Go.AM Go.Pl Go.Pt Go.Ix
def pk(s:aD):Int→Int:=dR (en (kf s.Graph))
section
variable (rec2:aD→aW→Int→List Int→Int→Int→Option Bool)(rec3:aD→aW→Int→Int→List Int→List Int→Int→Int→List Int→Int→Int→Option Bool)
end
section
variable {c:aY}{s:aD}{mm:aW}(R:Rel c s mm)(hS:s.Slots.length≤10)
include R hS
end
end Go.Proofs.YtkdohhmacfoolaaGreatDoor
set_option linter.unusedSectionVars false
namespace Go.Proofs.YtkdohhmacfoolaaGreatDoor
open Go Go.AM Go.Pl Go.Pt Go.Ix
def bA6(l:List aC)(x:Int):Prop:= ∀e,e∈l→e.U≠x∧e.V≠x
theorem bA6.conn{l:List aC}{x:Int}(h:bA6 l x)(k:Int){a b:Int}(c:bO (en (fo l k)) a b):a=x→b=x:=by
 induction c with
 |refl=>exact id
 |fwd e _ _=>
  intro ha;obtain ⟨f,hf,he⟩:=fX.1 e;injection he with h1 h2
  have:=h f (aJl hf);omega
 |bwd e _ _=>
  intro ha;obtain ⟨f,hf,he⟩:=fX.1 e;injection he with h1 h2
  have:=h f (aJl hf);omega
theorem aQa{l:List aC}{a b:Int}(h: ∀e,e∈l→(e.U=a∨e.U=b∨e.V=a∨e.V=b)→(e.U=a∧e.V=b)∨(e.U=b∧e.V=a))(k:Int){x y:Int}(c:bO (en (fo l k)) x y):(x=a∨x=b)→(y=a∨y=b):=by
 induction c with
 |refl=>exact id
 |fwd e _ ih=>
  intro hx;obtain ⟨f,hf,he⟩:=fX.1 e;injection he with h1 h2
  have:=h f (aJl hf);exact ih om
 |bwd e _ ih=>
  intro hx;obtain ⟨f,hf,he⟩:=fX.1 e;injection he with h1 h2
  have:=h f (aJl hf);exact ih om
theorem bWg(l:List aC):fo l 0=[]:=List.eq_nil_iff_forall_not_mem.2 fun e he=>by have:=eE.1 he;omega
section
variable {c:aY}{hs:List bQ}{l l':List aC}{u v:Int}(hg:GD ⟨c,hs,l'⟩)(hne:u≠v)(ha:aB8 l (edg u v) l')(hu:bA6 l u)(hv:bA6 l v)
include hg hne ha hu hv
theorem bD6{w:Int}(hw:w=u∨w=v):zU ⟨c,hs,l'⟩ 0 w ⟨c,hs,setT l' (edg u v) 1⟩:=by
 have k:=gok hg.ok;have L1:1≤c.L:=k.l1;have hfo: ∀k,fo l' k=fo l k:=fun k=>ha.fo rfl k;have hfree:bA6 l w:=by rcases hw with rfl|rfl<;>assumption
 have alone: ∀t y,GT ⟨c,hs,l'⟩ t w y→y=w:=fun t y h=>by
  have h':bO (en (fo l' t)) w y:=h;rw [hfo] at h';exact hfree.conn t h' rfl
 have euv:=aC7 hne
 have hcut:yK (pf ⟨c,hs,l'⟩ 0) w l'=[edg u v]:=by
  obtain ⟨q,q1,q2,_⟩:=ha
  have no: ∀e,e∈l→inQ (pf ⟨c,hs,l'⟩ 0) w (uv e)=false:=fun e he=>by
   rw [Bool.eq_false_iff];intro hq;rw [aF9,kH,kH] at hq;have:=hfree e he;rcases hq with ⟨a,_⟩|⟨_,a⟩
   · exact this.1 (alone _ _ a.symm)
   · exact this.2 (alone _ _ a.symm)
  have yes:inQ (pf ⟨c,hs,l'⟩ 0) w (uv (edg u v))=true:=by
   rw [aF9,kH,kH];show (GT _ _ (edg u v).U w∧ ¬GT _ _ (edg u v).V w)∨(¬GT _ _ (edg u v).U w∧GT _ _ (edg u v).V w)
   by_cases hU:(edg u v).U=w
   · left;rw [hU];refine ⟨.refl _,fun q=>?_⟩;have:=alone _ _ q.symm;omega
   ·
    right;have hV:(edg u v).V=w:=by omega
    rw [hV];refine ⟨fun q=>?_,.refl _⟩;have:=alone _ _ q.symm;omega
  have key: ∀p:Int→Int,(∀e,e∈l→inQ p w (uv e)=false)→inQ p w (uv (edg u v))=true→yK p w l'=[edg u v]:=fun p h1 h2=>by
   unfold yK;rw [q2,List.filter_append,List.filter_cons,if_pos h2,List.filter_eq_nil_iff.2 (fun e he=>by rw [h1 e (List.mem_of_mem_take he)];simp),List.filter_eq_nil_iff.2 (fun e he=>by rw [h1 e (List.mem_of_mem_drop he)];simp)];rfl
  exact key _ no yes
 have hh:hsh ⟨c,hs,l'⟩ 0≠[]:=fun q=>by
  have h1:=aRs k (t:=0) (Int.le_refl _) (show (0:Int)<c.L by omega);rw [q] at h1;have r1:1≤c.R:=k.r1;have:(0:Nat)=c.R.toNat:=h1;omega
 have hsr:srch ⟨c,hs,l'⟩ 0 w=some (edg u v):=by
  show aEx (hsh ⟨c,hs,l'⟩ 0) (lvl c.N) (yK (pf ⟨c,hs,l'⟩ 0) w l')=_;rw [hcut];exact bDe hh (by unfold lvl;omega) _
 refine .inr ⟨fun ⟨x,x1,x2⟩=>x2 (by rw [alone _ _ x1];exact .refl _),edg u v,_,hsr,.inr ⟨fun ⟨_,q⟩=>?_,rfl⟩,rfl⟩;have q':bO (en (fo l' c.L)) (edg u v).U (edg u v).V:=q;rw [hfo] at q';rcases euv with ⟨a,b,_⟩|⟨a,b,_⟩
 · rw [a,b] at q';exact hne (hu.conn _ q' rfl).symm
 · rw [a,b] at q';exact hne (hv.conn _ q' rfl)
theorem aNb(e:aC):e∈setT l' (edg u v) 1↔e∈l∨e=⟨(edg u v).U,(edg u v).V,1⟩:=by
 have euv:=aC7 hne;rw [nF ⟨edg u v,(ha.mem _).2 (.inr rfl),rfl,rfl⟩,ha.mem];constructor
 ·
  rintro (⟨a|a,b⟩|a)
  · exact .inl a
  · exact absurd (by rw [a];exact ⟨rfl,rfl⟩) b
  · exact .inr a
 ·
  rintro (a|a)
  · refine .inl ⟨.inl a,fun q=>?_⟩;have:=hu e a;have:=hv e a;omega
  · exact .inr a
theorem aUt{t:Int}(ht:1≤t):GT ⟨c,hs,setT l' (edg u v) 1⟩ t u v:=by
 have euv:=aC7 hne;have hm:(⟨(edg u v).U,(edg u v).V,1⟩:aC)∈fo (setT l' (edg u v) 1) t:=eE.2 ⟨(aNb hg hne ha hu hv _).2 (.inr rfl),Int.le_refl _,ht⟩;have h:bO (en (fo (setT l' (edg u v) 1) t)) (edg u v).U (edg u v).V:=bO.one (fX.2 ⟨_,hm,rfl⟩);show bO (en (fo (setT l' (edg u v) 1) t)) u v;rcases euv with ⟨a,b,_⟩|⟨a,b,_⟩
 · rw [a,b] at h;exact h
 · rw [a,b] at h;exact h.symm
theorem bNl{w:Int}(hw:w=u∨w=v):zU ⟨c,hs,setT l' (edg u v) 1⟩ 0 w ⟨c,hs,setT l' (edg u v) 1⟩:=by
 have hc:=aUt (c:=c) (hs:=hs) hg hne ha hu hv (t:=0+1) om;refine .inl ⟨.inl ?_,rfl⟩
 have nil: ∀ {x y:Int},GT ⟨c,hs,setT l' (edg u v) 1⟩ 0 x y→x=y:=fun h=>by
  have h':bO (en (fo (setT l' (edg u v) 1) 0)) _ _:=h;rw [bWg] at h';exact h'.nil
 rcases hw with rfl|rfl
 · exact ⟨v,hc,fun q=>hne (nil q)⟩
 · exact ⟨u,hc.symm,fun q=>hne (nil q).symm⟩
theorem aQ8{t w:Int}(ht:1≤t)(hw:w=u∨w=v):zU ⟨c,hs,setT l' (edg u v) 1⟩ t w ⟨c,hs,setT l' (edg u v) 1⟩:=by
 have euv:=aC7 hne;have hc:=aUt (c:=c) (hs:=hs) hg hne ha hu hv ht;have hm:=aNb (c:=c) (hs:=hs) hg hne ha hu hv
 have pc: ∀ {x y:Int},GT ⟨c,hs,setT l' (edg u v) 1⟩ t x y→(x=u∨x=v)→(y=u∨y=v):=fun h=>aQa (fun e he hx=>by
  rcases (hm e).1 he with q|q
  · have:=hu e q;have:=hv e q;omega
  · rw [q] at hx ⊢; simp only [] at hx ⊢; omega) t h
 refine .inl ⟨.inr ?_,rfl⟩
 have hcut:yK (pf ⟨c,hs,setT l' (edg u v) 1⟩ t) w (setT l' (edg u v) 1)=[]:=by
  unfold yK;refine List.filter_eq_nil_iff.2 fun e he hq=>?_;rw [aF9,kH,kH] at hq;rcases (hm e).1 he with q|q
  ·
   have h1:=hu e q;have h2:=hv e q;rcases hq with ⟨a,_⟩|⟨_,a⟩
   · have:=pc a.symm hw;unfold uv at this;simp only [] at this;omega
   · have:=pc a.symm hw;unfold uv at this;simp only [] at this;omega
  ·
   have all: ∀x,(x=u∨x=v)→GT ⟨c,hs,setT l' (edg u v) 1⟩ t x w:=fun x hx=>by
    rcases hx with rfl|rfl<;>rcases hw with rfl|rfl
    · exact .refl _
    · exact hc
    · exact hc.symm
    · exact .refl _
   have e1:=all (uv e).1 (by rw [q];show (edg u v).U=u∨(edg u v).U=v;omega);have e2:=all (uv e).2 (by rw [q];show (edg u v).V=u∨(edg u v).V=v;omega);rcases hq with ⟨_,b⟩|⟨b,_⟩
   · exact b e2
   · exact b e1
 show aEx (hsh ⟨c,hs,setT l' (edg u v) 1⟩ t) (lvl c.N) (yK (pf ⟨c,hs,setT l' (edg u v) 1⟩ t) w (setT l' (edg u v) 1))=none;rw [hcut,aQh]
theorem aUu: ∀(m:Nat) (t:Int),c.L<t+m→1≤t→tM u v t ⟨c,hs,setT l' (edg u v) 1⟩ ⟨c,hs,setT l' (edg u v) 1⟩
 |0,t,h,ht=> .done (by show ¬t<c.L;omega)
 |m+1,t,h,ht=>by
  by_cases q:t<c.L
  · exact .step q (aQ8 hg hne ha hu hv ht (.inl rfl)) (aQ8 hg hne ha hu hv ht (.inr rfl)) (aUu m (t+1) om om)
  · exact .done q
theorem bD5:tM u v 0 ⟨c,hs,l'⟩ ⟨c,hs,setT l' (edg u v) 1⟩:=by
 have k:=gok hg.ok;have L1:1≤c.L:=k.l1;exact .step (by show 0<c.L;omega) (bD6 hg hne ha hu hv (.inl rfl)) (bNl hg hne ha hu hv (.inr rfl)) (aUu hg hne ha hu hv c.L.toNat (0+1) om om)
end
open Go Go.AM Go.Pl Go.Pt Go.Ix
def ks(n:Nat):List Int:=(List.range n).map fun (i:Nat)=>(i:Int)
def pp(k:Nat):List aI:=(List.range k).map fun (i:Nat)=>⟨2*(i:Int),2*(i:Int)+1⟩
theorem bGb{n:Nat}{x:Int} :x∈ks n↔0≤x∧x<n:=by
 unfold ks;rw [List.mem_map];constructor
 · rintro ⟨i,hi,rfl⟩;have:=List.mem_range.1 hi;omega
 · rintro ⟨h0,h1⟩;exact ⟨x.toNat,List.mem_range.2 om,by omega⟩
theorem bGd{k:Nat}{p:aI} :p∈pp k↔ ∃i:Nat,i<k∧p=⟨2*(i:Int),2*(i:Int)+1⟩:=by
 unfold pp;rw [List.mem_map];constructor
 · rintro ⟨i,hi,rfl⟩;exact ⟨i,List.mem_range.1 hi,rfl⟩
 · rintro ⟨i,hi,rfl⟩;exact ⟨i,List.mem_range.2 hi,rfl⟩
def c93:aY:=⟨9,3,2⟩
structure PS(n k:Nat)(s:aD):Prop where
  r:Rel c93 s ⟨9,ks n,pp k⟩
  t: ∀e,e∈s.Graph.Edges→e.Tier=1
section
variable {n k:Nat}{s:aD}(h:PS n k s)
include h
theorem PS.s9:s.Slots.length=9:=by
 have a:=h.r.ok.len;rw [h.r.cf] at a;have:c93.N=9:=rfl;omega
theorem PS.el:s.Graph.Edges.length=k:=by
 have a:=h.r.pairs.length_eq;rw [List.length_map,tT] at a;have:(pp k).length=k:=by simp [pp]
 simp only at a;omega
theorem PS.key{x:Int}(h0:0≤x)(h1:x<n): ∃j,At s.Slots j x:=(h.r.mem x).1 (bGb.2 ⟨h0,h1⟩)
theorem PS.edge{e:aC}(he:e∈s.Graph.Edges): ∃t:Nat,t<k∧((kv s.Slots e.U=2*(t:Int)∧kv s.Slots e.V=2*(t:Int)+1)∨(kv s.Slots e.U=2*(t:Int)+1∧kv s.Slots e.V=2*(t:Int))):=by
 have q:aDh s.Slots (e.U,e.V)∈pp k:=(h.r.pairs.mem_iff).2 (List.mem_map.2 ⟨(e.U,e.V),fX.2 ⟨e,he,rfl⟩,rfl⟩);obtain ⟨t,ht,q⟩:=bGd.1 q;refine ⟨t,ht,?_⟩;unfold aDh pr2 at q;simp only [] at q;split at q
 · injection q with a b;exact .inr ⟨b,a⟩
 · injection q with a b;exact .inl ⟨a,b⟩
theorem PS.kf:kf s.Graph=s.Graph.Edges:=by
 unfold Go.Proofs.YtkdohhmacfoolaaGreatDoor.kf fo;refine List.filter_eq_self.2 fun e he=>?_;have a:=h.t e he;have:s.Graph.Config.L=3:=by rw [h.r.cf];rfl
 unfold inT;rw [a,this];rfl
theorem PS.conn{i:Nat}(hi:i<k){a b:Nat}(ha:At s.Slots a (2*(i:Int)))(hb:At s.Slots b (2*(i:Int)+1))(y:Int):bO (en s.Graph.Edges) (a:Int) y↔y=(a:Int)∨y=(b:Int):=by
 have ej: ∀e,e∈s.Graph.Edges→(e.U=(a:Int)∨e.U=(b:Int)∨e.V=(a:Int)∨e.V=(b:Int))→(e.U=(a:Int)∧e.V=(b:Int))∨(e.U=(b:Int)∧e.V=(a:Int)):=fun e he q=>by
  obtain ⟨u0,v0,_,u1,v1⟩:=h.r.edge he;obtain ⟨t,ht,w⟩:=h.edge he;have ka:=aDd ha;have kb:=aDd hb;have hU:=aGi u1;have hV:=aGi v1;have inj: ∀ {x y:Nat} {z:Int},At s.Slots x z→At s.Slots y z→x=y:=fun p q=>h.r.ok.v.inj _ _ _ p q;have et:t=i:=by rcases q with q|q|q|q<;>rw [q] at w<;>omega
  subst et;rcases w with ⟨w1,w2⟩|⟨w1,w2⟩
  · left;rw [w1] at hU;rw [w2] at hV;have:=inj hU ha;have:=inj hV hb;omega
  · right;rw [w1] at hU;rw [w2] at hV;have:=inj hU hb;have:=inj hV ha;omega
 constructor
 ·
  intro c
  have c':bO (en (fo s.Graph.Edges 3)) (a:Int) y:=by
   have:=h.kf;unfold Go.Proofs.YtkdohhmacfoolaaGreatDoor.kf at this;rw [show s.Graph.Config.L=3 by rw [h.r.cf];rfl] at this;rw [this];exact c
  exact aQa ej 3 c' (.inl rfl)
 ·
  have hp:pr2 (2*(i:Int)) (2*(i:Int)+1)∈pp k:=bGd.2 ⟨i,hi,by unfold pr2;rw [if_neg om]⟩;obtain ⟨e,he,hf⟩:=(h.r.has ha hb).1 hp;rintro (rfl|rfl)
  · exact .refl _
  ·
   have:=bO.one (fX.2 ⟨e,he,rfl⟩);rcases aHr hf with ⟨q1,q2⟩|⟨q1,q2⟩
   · rw [q1,q2] at this;exact this
   · rw [q1,q2] at this;exact this.symm
theorem PS.mems{i:Nat}(hi:i<k){a b:Nat}(ha:At s.Slots a (2*(i:Int)))(hb:At s.Slots b (2*(i:Int)+1)):mems s (dR (en s.Graph.Edges)) (a:Int)=[2*(i:Int),2*(i:Int)+1]∧mems s (dR (en s.Graph.Edges)) (b:Int)=[2*(i:Int),2*(i:Int)+1]:=by
 have P:=isP (en s.Graph.Edges);have hc:=h.conn hi ha hb;have S:=aE7 h.r (dR (en s.Graph.Edges)) (a:Int)
 have e1:Go.Proofs.YtkdohhmacfoolaaGreatDoor.mems s (dR (en s.Graph.Edges)) (a:Int)=[2*(i:Int),2*(i:Int)+1]:=by
  refine S.uniq (S':=fun y=>y=2*(i:Int)∨y=2*(i:Int)+1) ⟨by simp;omega,fun x=>by simp⟩ fun x=>?_;constructor
  ·
   rintro ⟨j,hj,e⟩;rcases (hc _).1 ((P.iff _ _).1 e.symm) with q|q
   ·
    have:j=a:=by omega
    subst this;unfold At at hj ha;rw [hj] at ha;injection ha with ha;injection ha with _ ha;exact .inl ha
   ·
    have:j=b:=by omega
    subst this;unfold At at hj hb;rw [hj] at hb;injection hb with hb;injection hb with _ hb;exact .inr hb
  ·
   rintro (rfl|rfl)
   · exact ⟨a,ha,rfl⟩
   · exact ⟨b,hb,((P.iff _ _).2 ((hc _).2 (.inr rfl))).symm⟩
 refine ⟨e1,?_⟩;rw [←e1];exact aGm ((P.iff _ _).2 ((hc _).2 (.inr rfl))).symm
end
theorem ch1: ∀n,n<8→fQ ⟨9,ks n,pp 0⟩ 1 (n:Int) 0=some (⟨9,ks (n+1),pp 0⟩,0):=by decide+kernel
theorem ch3: ∀K,K<5→ ∀k,k<K→fQ ⟨9,ks (2*K),pp k⟩ 3 (2*(k:Int)+1) (2*(k:Int))=some (⟨9,ks (2*K),pp (k+1)⟩,0):=by decide+kernel
theorem PS.vertex{n:Nat}{s:aD}(h:PS n 0 s)(hn:n<8): ∃s',fG s ⟨1,(n:Int),0,⟨#[]⟩⟩=some (s',GA.i 36 .i64 0)∧PS (n+1) 0 s':=by
 have h9:=h.s9;have he:=h.el;obtain ⟨s',f,m',I,M,R',fz,e1,e2,f0⟩:=step1 h.r om om (n:Int) 0 ⟨#[]⟩;rw [ch1 n hn] at M;injection M with M
 injection M with M1 M2
 subst M1 M2;refine ⟨s',I,R',fun e he'=>?_⟩;have a:=R'.pairs.length_eq;rw [List.length_map,tT] at a;have:(pp 0).length=0:=rfl;have:s'.Graph.Edges=[]:=List.eq_nil_of_length_eq_zero (by simp only at a;omega);rw [this] at he';cases he'
theorem PS.edges{K k:Nat}{s:aD}(h:PS (2*K) k s)(hK:K<5)(hk:k<K): ∃s',fG s ⟨3,2*(k:Int)+1,2*(k:Int),⟨#[]⟩⟩=some (s',GA.i 36 .i64 0)∧PS (2*K) (k+1) s':=by
 have h9:=h.s9;have he:=h.el;have R:=h.r;obtain ⟨s',f,m',I,M,R',fz,e1,e2,f0⟩:=bLy h.r om om (2*(k:Int)+1) (2*(k:Int)) ⟨#[]⟩;rw [ch3 K hK k hk] at M;injection M with M
 injection M with M1 M2
 subst M1 M2;refine ⟨s',I,R',?_⟩;obtain ⟨i,hi⟩:=h.key (x:=2*(k:Int)+1) om om;obtain ⟨j,hj⟩:=h.key (x:=2*(k:Int)) om om;have D:=aPu R om (d:=3) (text:=⟨#[]⟩) (by rfl) (aPz R om hi) (aPz R om hj) rfl rfl;rw [bf (by rfl),bf (by rfl)] at D;unfold iJ at D;simp only [] at D;rw [bf (by rfl),bf (by rfl),bt (by rfl)] at D;obtain ⟨r,t1,t2⟩:=aF0 R.gd om (i:Int) (j:Int);rw [t1,aA] at D
 have no: ∀ {f:Int},f≠0→r=(s.Graph,f)→False:=fun {f} hf hr=>by
  subst hr;rw [I] at D;unfold fI at D;simp only [aA] at D;rw [bt (bne_iff_ne.2 hf)] at D;injection D with D
  injection D with D1 D2
  injection D2 with _ _ D2
  exact hf D2.symm
 have fr: ∀ {x:Nat} {y:Int},At s.Slots x y→2*(k:Int)≤y→bA6 s.Graph.Edges (x:Int):=fun {x y} hx hy e he=>by
  obtain ⟨t,ht,w⟩:=h.edge he;refine ⟨fun q=>?_,fun q=>?_⟩<;>rw [q,aDd hx] at w<;>omega
 have fi:=fr hi om;have fj:=fr hj om;rcases t2 with ⟨_,q⟩|⟨_,_,q⟩|⟨_,_,_,q⟩|⟨_,ne,_,l',g2,a1,a2,a3,a4,q⟩
 · exact (no (by decide) q).elim
 · exact (no (by decide) q).elim
 · exact (no (by decide) q).elim
 ·
  subst q;have mm:=bD5 (c:=s.Graph.Config) (hs:=s.Graph.Hashes) a2 ne a1 fi fj;have eg:g2=⟨s.Graph.Config,s.Graph.Hashes,setT l' (edg (i:Int) (j:Int)) 1⟩:=a3.uniq mm;subst eg;have hm1:=aNb (c:=s.Graph.Config) (hs:=s.Graph.Hashes) a2 ne a1 fi fj;rw [I] at D;unfold fI at D;simp only [aA] at D;rw [bf (by rfl)] at D;injection D with D
  injection D with D1 D2
  subst D1;intro e he;rcases (hm1 e).1 he with b|b
  · exact h.t e b
  · rw [b]
section
variable {n k:Nat}{s:aD}(h:PS n k s)(hk:2*k≤n)
include h hk
theorem PS.size{i:Nat}(hi:i<k):fG s ⟨9,2*(i:Int),0,⟨#[]⟩⟩=some (s,GA.i 3 .i64 2):=by
 have h9:=h.s9;obtain ⟨a,ha⟩:=h.key (x:=2*(i:Int)) om om;obtain ⟨b,hb⟩:=h.key (x:=2*(i:Int)+1) om om;rw [size_eq h.r om ha,h.kf,(h.mems hi ha hb).1];rfl
theorem PS.members{i:Nat}(hi:i<k):fG s ⟨11,2*(i:Int)+1,0,⟨#[]⟩⟩=some (s,GA.lu 24 [2*(i:Int),2*(i:Int)+1]):=by
 have h9:=h.s9;obtain ⟨a,ha⟩:=h.key (x:=2*(i:Int)) om om;obtain ⟨b,hb⟩:=h.key (x:=2*(i:Int)+1) om om;rw [aY7 h.r om hb,h.kf,(h.mems hi ha hb).2]
theorem PS.conn01(hi:0<k):fG s ⟨8,0,1,⟨#[]⟩⟩=some (s,GA.b 4 true):=by
 have h9:=h.s9;obtain ⟨a,ha⟩:=h.key (x:=2*((0:Nat):Int)) om om;obtain ⟨b,hb⟩:=h.key (x:=2*((0:Nat):Int)+1) om om;have e:=bIh h.r om ha hb ⟨#[]⟩;rw [h.kf,decide_eq_true (((isP _).iff _ _).2 ((h.conn hi ha hb _).2 (.inr rfl)))] at e;exact e
omit hk in
theorem PS.audit:fG s ⟨13,0,0,⟨#[]⟩⟩=some (s,GA.b 4 true):=by
 have h9:=h.s9;rw [bEc h.r om,h.kf,decide_eq_true rfl]
end
theorem bMl: ∀k,k<5→(ks (2*k)).countP (fun x=>x%2==0)=k:=by decide+kernel
theorem PS.count{k:Nat}{s:aD}(h:PS (2*k) k s)(hk:k<5):fG s ⟨10,0,0,⟨#[]⟩⟩=some (s,GA.i 3 .i64 (k:Int)):=by
 have h9:=h.s9;have f:=bMr h.r (l:=s.Graph.Edges) fun e he=>he
 have c:(ks (2*k)).countP (aUp s (dR (en s.Graph.Edges)))=k:=by
  refine (List.countP_congr fun x hx=>?_).trans (bMl k hk);obtain ⟨x0,x1⟩:=bGb.1 hx;obtain ⟨i,hi,hx⟩: ∃i:Nat,i<k∧(x=2*(i:Int)∨x=2*(i:Int)+1):=⟨x.toNat/2,by omega,by omega⟩
  obtain ⟨a,ha⟩:=h.key (x:=2*(i:Int)) om om;obtain ⟨b,hb⟩:=h.key (x:=2*(i:Int)+1) om om;have m:=h.mems hi ha hb;unfold aUp;rcases hx with rfl|rfl
  · rw [h.r.slt ha,m.1];simp
  · rw [h.r.slt hb,m.2];simp;omega
 have f':(ks (2*k)).countP (aUp s (dR (en s.Graph.Edges)))=bEp s (dR (en s.Graph.Edges)):=f;rw [bEr h.r om,h.kf,←f',c]
open Go Go.AM
theorem aAs:oI=some true:=by decide+kernel
end Go.Proofs.YtkdohhmacfoolaaGreatDoor
