/- Facts. No condition. -/
import Derived.Test.YtkdohhmacfoolaaGreatDoorOaAudQ
set_option linter.unusedVariables false
set_option linter.unusedSimpArgs false
set_option maxRecDepth 20000
set_option maxHeartbeats 1000000
namespace Go.Proofs.YtkdohhmacfoolaaGreatDoor
open Go Go.AM Go.Pl Go.Pt
theorem Rg.take{n:Int}{l:List aC}(h:Rg n l)(i:Nat):Rg n (l.take i):=h.mono fun e he=>List.mem_of_mem_take he
def hsB(l:List bS):Bool:=l.all fun h=>decide (h.A<2305843009213693951)&&decide (h.B<2305843009213693951)
def tiB(t:Int)(l:List aC):Bool:=l.all fun e=>decide (e.Tier≤t)
theorem aT0(t:Int)(e:aC)(l:List aC):tiB t (e::l)=(decide (e.Tier≤t)&&tiB t l):=rfl
theorem aS0(h:bS)(l:List bS):hsB (h::l)=((decide (h.A<2305843009213693951)&&decide (h.B<2305843009213693951))&&hsB l):=rfl
def cfB(g:aE):Bool:=decide (1≤g.Config.N∧g.Config.N≤1024∧1≤g.Config.L∧g.Config.L≤16∧1≤g.Config.R∧g.Config.R≤8∧(g.Hashes.length:Int)=g.Config.L*g.Config.R)
def grB(g:aE):Bool:=cfB g&&(hsB g.Hashes&&(trB g.Config.N g.Edges&&(tiB g.Config.L g.Edges&&foB g.Config.N (fo g.Edges g.Config.L))))
theorem aOt{n:Int}{l:List aC}(h:trB n l=true):0≤n∧n≤1024∧Rg n l:=by
 unfold trB at h;simp only [Bool.and_eq_true,decide_eq_true_eq] at h;exact ⟨h.1.1,h.1.2,bJ8 h.2⟩
theorem aEc{n:Int}{l:List aC}(h:Rg n l)(t:Int):Rg n (fo l t):=h.mono fun e he=>aLk he
section
variable {g:aE}(hE:g.Edges.length<1000000000)(hH:g.Hashes.length<1000000000)
include hE
theorem bHi(hT:trB g.Config.N g.Edges=true): ∀(m i:Nat),g.Edges.length<i+m→i+m≤aZ→i≤g.Edges.length→mG m g g.Config g.Edges (g.Edges.length:Int) (i:Int)=some (tiB g.Config.L (g.Edges.drop i)&&foB g.Config.N (fo g.Edges g.Config.L))
 |0,i,h,_,hi=>by omega
 |m+1,i,h,hF,hi=>by
  have hFU:=FU;obtain ⟨n0,n1,hr⟩:=aOt hT;show wM (mG m) g g.Config g.Edges _ _=_;unfold wM
  by_cases c:i<g.Edges.length
  ·
   rw [bt (kJ c),dH c,aA,gH c,wr1 i om]
   by_cases q:g.Edges[i].Tier≤g.Config.L
   · rw [bf (by simp;omega),bHi hT m (i+1) om om c];rw [aT0];simp [q]
   · rw [bt (by simp;omega)];rw [aT0];simp [q]
  · rw [bf (lC c),mL hE,aA,hT,List.drop_eq_nil_of_le om];have:=aL4 g.Edges g.Config.L;simp only [if_true];rw [zG n0 n1 om (aEc hr _),aA];rfl
theorem bHh: ∀(m i:Nat),g.Hashes.length<i+m→i+m≤aZ→i≤g.Hashes.length→mF m g g.Config g.Hashes (g.Hashes.length:Int) (i:Int)=some (hsB (g.Hashes.drop i)&&(trB g.Config.N g.Edges&&(tiB g.Config.L g.Edges&&foB g.Config.N (fo g.Edges g.Config.L))))
 |0,i,h,_,hi=>by omega
 |m+1,i,h,hF,hi=>by
  have hFU:=FU;show wL (mF m) g g.Config g.Hashes _ _=_;unfold wL
  by_cases c:i<g.Hashes.length
  ·
   rw [bt (kJ c),dH c,aA,gH c,wr1 i om]
   by_cases q:g.Hashes[i].A<2305843009213693951∧g.Hashes[i].B<2305843009213693951
   · rw [bf (by simp;omega),bHh m (i+1) om om c];rw [aS0];simp [q]
   ·
    rw [bt (by simp;omega)];have:(decide (g.Hashes[i].A<2305843009213693951)&&decide (g.Hashes[i].B<2305843009213693951))=false:=by simp;omega
    rw [aS0,this];rfl
  ·
   rw [bf (lC c),kV hE,aA,List.drop_eq_nil_of_le om]
   cases hT:trB g.Config.N g.Edges with
   |false=>rfl
   |true=>
    rw [bf (c:= !true) rfl,show (0:Int)=((0:Nat):Int) from rfl,bHi hE hT aZ 0 om om (Nat.zero_le _)];rfl
omit hE in
theorem aW1(h:1≤g.Config.L∧g.Config.L≤16∧1≤g.Config.R∧g.Config.R≤8):IntKind.i64.wrap (g.Config.L*g.Config.R)=g.Config.L*g.Config.R:=by
 have h1:0≤g.Config.L*g.Config.R:=Int.mul_nonneg om om;have h2:g.Config.L*g.Config.R≤16*8:=Int.mul_le_mul om om om om;exact wr0 om om
include hH
theorem fJ:dC g=some (grB g):=by
 have hFU:=FU;have e:=bHh hE aZ 0 om om (Nat.zero_le _);rw [List.drop_zero] at e;unfold dC grB
 by_cases c:1≤g.Config.N∧g.Config.N≤1024∧1≤g.Config.L∧g.Config.L≤16∧1≤g.Config.R∧g.Config.R≤8
 ·
  rw [bf (by simp;omega),aW1 ⟨c.2.2.1,c.2.2.2.1,c.2.2.2.2⟩]
  by_cases k:(g.Hashes.length:Int)=g.Config.L*g.Config.R
  ·
   rw [bf (by simp [k]),show (0:Int)=((0:Nat):Int) from rfl,e];have:cfB g=true:=by unfold cfB;rw [decide_eq_true_eq];exact ⟨c.1,c.2.1,c.2.2.1,c.2.2.2.1,c.2.2.2.2.1,c.2.2.2.2.2,k⟩
   rw [this];rfl
  ·
   rw [bt (by simp [k])];have:cfB g=false:=by unfold cfB;rw [decide_eq_false_iff_not];exact fun q=>k q.2.2.2.2.2.2
   rw [this];rfl
 ·
  have:cfB g=false:=by unfold cfB;rw [decide_eq_false_iff_not];exact fun q=>c ⟨q.1,q.2.1,q.2.2.1,q.2.2.2.1,q.2.2.2.2.1,q.2.2.2.2.2.1⟩
  rw [bt (by simp;omega),this];rfl
end
structure GOK(g:aE):Prop where
  n1:1≤g.Config.N
  n2:g.Config.N≤1024
  l1:1≤g.Config.L
  l2:g.Config.L≤16
  r1:1≤g.Config.R
  r2:g.Config.R≤8
  hl:(g.Hashes.length:Int)=g.Config.L*g.Config.R
  hs:hsB g.Hashes=true
  tr:trB g.Config.N g.Edges=true
  ti:tiB g.Config.L g.Edges=true
  fr:foB g.Config.N (fo g.Edges g.Config.L)=true
  rg:Rg g.Config.N g.Edges
theorem gok{g:aE}(h:grB g=true):GOK g:=by
 unfold grB cfB at h;simp only [Bool.and_eq_true,decide_eq_true_eq] at h;obtain ⟨⟨a,b,c,d,e,f,k⟩,h1,h2,h3,h4⟩:=h;exact ⟨a,b,c,d,e,f,k,h1,h2,h3,h4,(aOt h2).2.2⟩
open Go Go.AM Go.Pl Go.Pt
theorem aEs(a b:List Int)(hab:a.length=b.length)(hl:a.length<1000000000): ∀(m i:Nat),a.length<i+m→i≤a.length→iU m a b (a.length:Int) (i:Int)=some (decide (a.drop i=b.drop i))
 |0,i,h,hi=>by omega
 |m+1,i,h,hi=>by
  show rI (iU m) a b _ _=_;unfold rI
  by_cases c:i<a.length
  ·
   have c':i<b.length:=by omega
   rw [bt (kJ c),dH c,aA,dH c',aA,wr1 i om,gH c,gH c']
   by_cases q:a[i]=b[i]
   · rw [bf (by simp [q]),aEs a b hab hl m (i+1) om c];simp [q,-List.getElem_cons_drop]
   · rw [bt (by simp [q])];simp [q,-List.getElem_cons_drop]
  · rw [bf (lC c),List.drop_eq_nil_of_le om,List.drop_eq_nil_of_le om];rfl
theorem aM7(a b:List Int)(hl:a.length<1000000000):jO a b=some (decide (a=b)):=by
 have hFU:=FU;unfold jO
 by_cases h:a.length=b.length
 · rw [bf (by simp [h]),show (0:Int)=((0:Nat):Int) from rfl,aEs a b h hl aZ 0 om (Nat.zero_le _)];rfl
 · rw [bt (by simp;omega)];have: ¬a=b:=fun e=>h (by rw [e]);simp [this]
def kf(g:aE):List aC:=fo g.Edges g.Config.L
theorem bGf{n:Int}(hn:n≤1024)(l:List aC):(pt n l).length<1000000000:=by rw [aD8];omega
def btw(p:Int→Int)(l:List aC):List aC:=l.filter fun e=>p e.U !=p e.V
section
variable {g:aE}(hE:g.Edges.length<1000000000)(hH:g.Hashes.length<1000000000)
include hE hH
theorem aHo:jV g=some (if grB g then pt g.Config.N (kf g) else []):=by
 unfold jV;rw [fJ hE hH,aA]
 cases h:grB g with
 |false=>rfl
 |true=>
  have k:=gok h;have:=aL4 g.Edges g.Config.L;rw [bf (c:= !true) rfl,mL hE,aA,k.tr];simp only [if_true];rw [aAg om (by have:=k.n1;omega) k.n2 (aEc k.rg _),aA];rfl
theorem aTy:aA6 g=some (if grB g then pt g.Config.N g.Edges else []):=by
 unfold aA6;rw [fJ hE hH,aA]
 cases h:grB g with
 |false=>rfl
 |true=>
  have k:=gok h;rw [bf (c:= !true) rfl,aAg hE (by have:=k.n1;omega) k.n2 k.rg,aA];rfl
theorem aMw:mR g=some (grB g&&decide (pt g.Config.N (kf g)=pt g.Config.N g.Edges)):=by
 unfold mR;rw [fJ hE hH,aA,aHo hE hH,aTy hE hH]
 cases h:grB g with
 |false=>rfl
 |true=>
  simp only [if_true];rw [gtt,aA,gtt,aA,gtt,aM7 _ _ (bGf (gok h).n2 _),aA]
end
section
variable {g:aE}(hE:g.Edges.length<1000000000)(h:GOK g)
include hE h
end
open Go Go.AM Go.Pl Go.Pt
theorem aO0{n:Nat}{l:List E} : ∀(a:List E),InR n (a++l)→cl n (a++l)≤cl n l
 |[],_=>Nat.le_refl _
 |e::a,h=>by
  have h1:=aGg (l:=a++l) h;have h2:=aO0 a (InR.tail h);have:cl n (e::a++l)=cl n (e::(a++l)):=rfl;rw [this];split at h1<;>omega
theorem aNz{n:Nat}{l:List E} : ∀(a:List E),InR n (a++l)→cl n (a++l)=cl n l→ ∀e,e∈a→bF l e.1 e.2
 |[],_,_,e,he=>by cases he
 |x::a,h,hq,e,he=>by
  have h1:=aGg (l:=a++l) h;have h2:=aO0 a (InR.tail h);have h3:cl n (x::(a++l))=cl n l:=hq;have h4:cl n (a++l)=cl n l:=by split at h1<;>omega
  have ih:=aNz a (InR.tail h) h4;rcases List.mem_cons.1 he with q|q
  ·
   subst q;have hc:cI (a++l) e.1=cI (a++l) e.2:=Classical.byContradiction fun c=>by rw [if_neg c] at h1;omega
   refine ((jL _).1 hc).bind fun c d hm=>?_;rcases List.mem_append.1 hm with m|m
   · exact ih _ m
   · exact .one m
  · exact ih e q
theorem bAv{l l':List E}(h: ∀e,e∈l→e∈l')(x y:Int):bF (l'++l) x y↔bF l' x y:=kI (fun e=>by simp;exact h e) x y
theorem InR.app{n:Nat}{l l':List E}(h: ∀e,e∈l→e∈l')(hr:InR n l'):InR n (l'++l):=fun e he=>by
 rcases List.mem_append.1 he with m|m
 · exact hr e m
 · exact hr e (h e m)
theorem aXh{n:Nat}{l l':List E}(h: ∀e,e∈l→e∈l')(hr:InR n l')(hq:cl n l'=cl n l): ∀e,e∈l'→bF l e.1 e.2:=
 aNz l' (InR.app h hr) (by rw [aGf (bAv h)];exact hq)
theorem bBp{l l':List aC}(h: ∀e,e∈l→e∈l'): ∀e,e∈en l→e∈en l':=fun e he=>by
 unfold en at*;obtain ⟨x,hx,rfl⟩:=List.mem_map.1 he;exact List.mem_map.2 ⟨x,h x hx,rfl⟩
theorem bEc(p:Int→Int)(l:List aC):(btw p l).length=(en l).countP fun e=>p e.1 !=p e.2:=by
 unfold btw en;rw [List.countP_map,List.countP_eq_length_filter];rfl
theorem aWc{p:Int→Int}{l:List aC} :(btw p l).length=0↔ ∀e,e∈en l→p e.1=p e.2:=by
 rw [bEc,List.countP_eq_zero];constructor
 · intro h e he;have:=h e he;simpa using this
 · intro h e he;have:=h e he;simp [this]
theorem aXr{n:Int}(h0:0≤n){l l':List aC}(h: ∀e,e∈l→e∈l')(hr:Rg n l'):(pt n l=pt n l'↔cl n.toNat (en l)=cl n.toNat (en l'))∧(pt n l=pt n l'↔(btw (cI (en l)) l').length=0):=by
 have hs:=bBp h;have hi:=hr.inR h0
 have a1:pt n l=pt n l'→ ∀e,e∈en l'→cI (en l) e.1=cI (en l) e.2:=by
  intro q e he;have r:=hi e he;have q1:=vZ (n:=n) (l:=l) (x:=e.1) r.1 om;have q2:=vZ (n:=n) (l:=l) (x:=e.2) r.2.2.1 om;have q3:=vZ (n:=n) (l:=l') (x:=e.1) r.1 om;have q4:=vZ (n:=n) (l:=l') (x:=e.2) r.2.2.1 om;rw [q,q3] at q1;rw [q,q4] at q2;have e1:=Option.some.inj q1;have e2:=Option.some.inj q2;have e3:cI (en l') e.1=cI (en l') e.2:=(jL _).2 (.one he);omega
 have a2:(∀e,e∈en l'→cI (en l) e.1=cI (en l) e.2)→ ∀x y,bF (en l) x y↔bF (en l') x y:=fun q x y=>⟨fun k=>k.mono hs,fun k=>k.bind fun a b hm=>(jL _).1 (q (a,b) hm)⟩
 have a3:(∀x y,bF (en l) x y↔bF (en l') x y)→pt n l=pt n l':=fun q=>by unfold pt;rw [aJc q]
 refine ⟨⟨fun q=>aGf (a2 (a1 q)),fun q=>a3 (a2 fun e he=>(jL _).2 (aXh hs hi q.symm e he))⟩,⟨fun q=>aWc.2 (a1 q),fun q=>a3 (a2 (aWc.1 q))⟩⟩
theorem aEf{n:Int}(h0:0≤n)(hn:n≤1024){l l':List aC}(hr:Rg n l)(h: ∀x y,bF (en l) x y→bF (en l') x y): ∀(m i:Nat),n.toNat<i+m→i≤n.toNat→lX m (pt n l') (pt n l) ((pt n l).length:Int) (i:Int)=some true
 |0,i,_,_=>by omega
 |m+1,i,hm,hi=>by
  show vX (lX m) _ _ _ _=_;have hlen:=aD8 n l;unfold vX
  by_cases c:i<n.toNat
  · have r:=bD3 hr (x:=(i:Int)) om om;have e:cI (en l') (i:Int)=cI (en l') (cI (en l) i):=(jL _).2 (h _ _ (vY _ _));rw [bt (by rw [hlen];exact kJ c),vZ om om,aA,vZ om om,aA,vZ r.1 r.2,aA,bf (by simp [e]),wr1 i om];exact aEf h0 hn hr h m (i+1) om om
  · rw [bf (by rw [hlen];exact lC c)]
theorem aLt{n:Int}(h0:0≤n)(hn:n≤1024){l l':List aC}(hr:Rg n l)(hr':Rg n l')(h: ∀x y,bF (en l) x y→bF (en l') x y):kR (pt n l) (pt n l')=some true:=by
 have hFU:=FU;unfold kR;rw [uG h0 hn hr,aA,uG h0 hn hr',gt' (by rfl),aA,bf (by rw [aD8,aD8];simp),show (0:Int)=((0:Nat):Int) from rfl];exact aEf h0 hn hr h aZ 0 om (Nat.zero_le _)
def bare(l:List aC):List aC:=l.map fun e=>aC.mk e.U e.V 0
end Go.Proofs.YtkdohhmacfoolaaGreatDoor
