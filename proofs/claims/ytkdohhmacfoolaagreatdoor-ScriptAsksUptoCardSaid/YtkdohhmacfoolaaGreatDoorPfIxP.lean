/- Facts. No condition. -/
import Derived.Test.YtkdohhmacfoolaaGreatDoorPfIxC
set_option linter.unusedVariables false
set_option linter.unusedSimpArgs false
set_option maxRecDepth 20000
set_option maxHeartbeats 1000000
namespace Go.Proofs.YtkdohhmacfoolaaGreatDoor
open Go Go.AM Go.Pl Go.Pt Go.Ix
def bl:List Int→Nat→Option (Int×Nat)
  |[],_=>none
  |x::t,i=>if x%2305843009213693952=2305843009213693951 then bl t (i+1) else some (x%2305843009213693952,i+1)
theorem aMu: ∀(t:List Int) (i:Nat) {v:Int} {p:Nat},bl t i=some (v,p)→i<p∧p≤i+t.length∧0≤v∧v<2305843009213693951
 |[],_,_,_,h=>by cases h
 |x::t,i,v,p,h=>by
  unfold bl at h;split at h
  · obtain ⟨a,b,c⟩:=aMu t (i+1) h;simp only [List.length_cons];exact ⟨by omega,by omega,c⟩
  · rename_i hx;cases h;simp only [List.length_cons];exact ⟨by omega,by omega,by omega,by omega⟩
def W64(l:List Int):Prop:= ∀x,x∈l→0≤x∧x<18446744073709551616
theorem bYg{x:Int}(h:0≤x∧x<18446744073709551616):yQ .u64 x 2305843009213693951=x%2305843009213693952:=by
 obtain ⟨a,rfl⟩: ∃a:Nat,x=(a:Int):=⟨x.toNat,by omega⟩
 have:=bGm a 2305843009213693951 om (by decide);rw [show ((2305843009213693951:Nat):Int)=2305843009213693951 from rfl] at this;rw [this];have e:=Nat.and_two_pow_sub_one_eq_mod a 61;rw [show (2^61-1:Nat)=2305843009213693951 from rfl,show (2^61:Nat)=2305843009213693952 from rfl] at e;rw [e];omega
section
variable {l:List Int}(hl:l.length<10000000)(hw:W64 l)
include hl hw
theorem aQ6(w:bI)(hL:w.List=l)(z:bI): ∀(m i:Nat),l.length<i+m→i≤l.length→zB m w z (i:Int)=some (match bl (l.drop i) i with|none=>(0,w,5)|some (v,p)=>(v,⟨l,(p:Int)⟩,0))
 |0,i,hm,hi=>by omega
 |m+1,i,hm,hi=>by
  show aH9 (zB m) w z (i:Int)=_;unfold aH9;rw [hL]
  by_cases c:i<l.length
  ·
   rw [bt (by simpa using c),cC c,aA,bYg (hw _ (List.getElem_mem c)),dK c,wr1 i om];unfold bl
   by_cases q:l[i]%2305843009213693952=2305843009213693951
   · rw [bf (by simp;omega),if_pos q];exact aQ6 w hL z m (i+1) om c
   · rw [bt (by simp;omega),if_neg q]
  · rw [bf (by simpa using c),List.drop_eq_nil_of_le om];rfl
theorem aN2{i:Nat}(hi:i≤l.length):xQ ⟨l,(i:Int)⟩=some (match bl (l.drop i) i with|none=>(0,⟨l,(i:Int)⟩,5)|some (v,p)=>(v,⟨l,(p:Int)⟩,0)):=by
 have hFU:=FU';unfold xQ sT;rw [aA,bf (by simp;omega)];exact aQ6 hl hw _ rfl _ aW i om hi
end
def hs(l:List Int):Nat→Nat→Option (List bW×Nat)
  |0,i=>some ([],i)
  |n+1,i=>(bl (l.drop i) i).bind fun a=>(bl (l.drop a.2) a.2).bind fun b=>(hs l n b.2).map fun r=>(⟨a.1,b.1⟩::r.1,r.2)
theorem aXp(l:List Int): ∀n i {r:List bW} {q:Nat},hs l n i=some (r,q)→i≤l.length→r.length=n∧q≤l.length∧hsB r=true∧ ∀x,x∈r→0≤x.A∧0≤x.B
 |0,i,r,q,h,hi=>by cases h;exact ⟨rfl,hi,rfl,fun x hx=>by cases hx⟩
 |n+1,i,r,q,h,hi=>by
  unfold hs at h
  cases ea:bl (l.drop i) i with
  |none=>rw [ea] at h;cases h
  |some a=>
   rw [ea] at h;simp only [Option.bind_some] at h;obtain ⟨a1,a2,a3,a4⟩:=aMu _ _ (show bl (l.drop i) i=some (a.1,a.2) from ea);simp only [List.length_drop] at a2
   cases eb:bl (l.drop a.2) a.2 with
   |none=>rw [eb] at h;cases h
   |some b=>
    rw [eb] at h;simp only [Option.bind_some] at h;obtain ⟨b1,b2,b3,b4⟩:=aMu _ _ (show bl (l.drop a.2) a.2=some (b.1,b.2) from eb);simp only [List.length_drop] at b2
    cases eh:hs l n b.2 with
    |none=>rw [eh] at h;cases h
    |some x=>
     rw [eh] at h;cases h;obtain ⟨c1,c2,c3,c4⟩:=aXp l n b.2 (show hs l n b.2=some (x.1,x.2) from eh) om;refine ⟨by simp [c1],c2,?_,?_⟩
     · rw [aSo,c3];simp [a4,b4]
     ·
      intro y hy;rcases List.mem_cons.1 hy with rfl|hy
      · exact ⟨a3,b3⟩
      · exact c4 y hy
section
variable {l:List Int}(hl:l.length<10000000)(hw:W64 l)
include hl hw
theorem aN3(w z:bI)(N:Nat)(hN:N≤128): ∀(k m j i:Nat) (done:List bW),j+k=N→k<m→done.length=j→i≤l.length→
 rO m w z (done++List.replicate k ⟨0,0⟩) ⟨l,(i:Int)⟩ (N:Int) (j:Int)=some (match hs l k i with|none=>([],w,5)|some (r,q)=>(done++r,⟨l,(q:Int)⟩,0))
 |k,0,j,i,done,_,hm,_,_=>by omega
 |0,m+1,j,i,done,hj,hm,hd,hi=>by
  show vH (rO m) w z _ _ _ _=_;unfold vH;rw [bf (by simp;omega)];rfl
 |k+1,m+1,j,i,done,hj,hm,hd,hi=>by
  show vH (rO m) w z _ _ _ _=_;unfold vH;rw [bt (by simp;omega),aN2 hl hw hi,aA];unfold hs
  cases ea:bl (l.drop i) i with
  |none=>simp only [Option.bind_none];rw [bt (by rfl)]
  |some a=>
   obtain ⟨a1,a2,a3,a4⟩:=aMu _ _ (show bl (l.drop i) i=some (a.1,a.2) from ea);simp only [List.length_drop] at a2;simp only [Option.bind_some];rw [bf (by rfl),aN2 hl hw om,aA]
   cases eb:bl (l.drop a.2) a.2 with
   |none=>simp only [Option.bind_none];rw [bt (by rfl)]
   |some b=>
    obtain ⟨b1,b2,b3,b4⟩:=aMu _ _ (show bl (l.drop a.2) a.2=some (b.1,b.2) from eb);simp only [List.length_drop] at b2;simp only [Option.bind_some];have hj':j<(done++List.replicate (k+1) (⟨0,0⟩:bW)).length:=by simp;omega
    have es:(done++List.replicate (k+1) (⟨0,0⟩:bW)).set j ⟨a.1,b.1⟩=(done++[⟨a.1,b.1⟩])++List.replicate k ⟨0,0⟩:=by
     rw [List.replicate_succ,List.set_append_right _ _ om,hd,Nat.sub_self];simp
    rw [bf (by rfl),cC hj',aA,uT hj',aA,wr1 j om,es,aN3 w z N hN k m (j+1) b.2 _ om om (by simp [hd]) om]
    cases hs l k b.2 with
    |none=>rfl
    |some x=>simp
theorem aUh{n:Nat}(hn:n≤128){i:Nat}(hi:i≤l.length):uE ⟨l,(i:Int)⟩ (n:Int)=some (match hs l n i with|none=>([],⟨l,(i:Int)⟩,5)|some (r,q)=>(r,⟨l,(q:Int)⟩,0)):=by
 have hFU:=FU';unfold uE sT;rw [aA,bf (by simp;omega),aHi rfl (Int.le_refl _) om,aA];have:=aN3 hl hw ⟨l,(i:Int)⟩ ⟨[],0⟩ n hn n aW 0 i [] om om rfl hi;simp only [List.nil_append] at this;rw [List.length_replicate];exact this
end
theorem aQd(s:List aI)(hs:s.length<1000000): ∀(m i:Nat),s.length<i+m→i≤s.length→zH m ((s.take i).map fun x=>⟨x.Used,x.Key⟩) s (s.length:Int) (i:Int)=some (s.map fun x=>⟨x.Used,x.Key⟩)
 |0,i,hm,hi=>by omega
 |m+1,i,hm,hi=>by
  show aHf (zH m) _ _ _ _=_;unfold aHf
  by_cases c:i<s.length
  · rw [bt (by simpa using c),cC c,aA,gH (by simp;omega),aA,wr1 i om];have:=aQd s hs m (i+1) om c;rw [uW c,List.map_append] at this;exact this
  · rw [bf (by simpa using c),show i=s.length by omega,List.take_length]
def rf(s:List aI):List bE:=s.map fun x=>⟨x.Used,x.Key⟩
theorem aXy{s:List aI}(hs:s.length<1000000):aEw s=some (rf s):=by
 have hFU:=FU';exact aQd s hs aW 0 om (Nat.zero_le _)
theorem bQy(x y:bE):((x.Used==y.Used)&&((x.Key==y.Key)&&true))=decide (x=y):=by
 cases x with|mk a b=>cases y with|mk c d=>
 by_cases h1:a=c<;>by_cases h2:b=d<;>simp [h1,h2]
theorem aQk(a b:List bE)(hab:a.length=b.length)(hl:a.length<1000000000): ∀(m i:Nat),a.length<i+m→i≤a.length→zX m a b (i:Int)=some (decide (a.drop i=b.drop i))
 |0,i,hm,hi=>by omega
 |m+1,i,hm,hi=>by
  show aHv (zX m) _ _ _=_;unfold aHv
  by_cases c:i<a.length
  ·
   have c':i<b.length:=by omega
   rw [bt (by simpa using c),cC c,aA,cC c',aA,bQy,wr1 i om,dK c,dK c']
   by_cases q:a[i]=b[i]
   · rw [bf (by simp [q]),aQk a b hab hl m (i+1) om c];simp [q,-List.getElem_cons_drop]
   · rw [bt (by simp [q])];simp [q,-List.getElem_cons_drop]
  · rw [bf (by simpa using c),List.drop_eq_nil_of_le om,List.drop_eq_nil_of_le om];rfl
theorem aYs(a b:List bE)(hl:a.length<1000000000):aBu a b=some (decide (a=b)):=by
 have hFU:=FU';unfold aBu
 by_cases c:a.length=b.length
 ·
  rw [bf (by simp [c])];have:=aQk a b c hl aW 0 om (Nat.zero_le _)
  simpa using this
 · rw [bt (by simp;omega)];have:a≠b:=fun h=>c (by rw [h]);simp [this]
structure SM(s:aD):Prop where
  e:s.Graph.Edges.length<1000000
  h:s.Graph.Hashes.length<1000000
  v:s.Slots.length<1000000
theorem bRo{n:Nat}(h1:1≤n)(h2:n≤1024):VOK (List.replicate n ⟨false,0⟩):=by
 refine ⟨by simpa using h1,by simpa using h2,fun s hs _=>?_,fun i j k hi hj=>?_⟩
 · rw [(List.mem_replicate.1 hs).2]
 · unfold At at hi;have:=List.mem_of_getElem? hi;have:=(List.mem_replicate.1 this).2;cases this
theorem bGw{c:bC}(h1:1≤c.N∧c.N≤1024∧1≤c.L∧c.L≤16∧1≤c.R∧c.R≤8){r:List bW}(h2:(r.length:Int)=c.L*c.R)(h3:hsB r=true):grB ⟨c,r,[]⟩=true:=by
 unfold grB cfB;simp only [Bool.and_eq_true,decide_eq_true_eq];exact ⟨⟨h1.1,h1.2.1,h1.2.2.1,h1.2.2.2.1,h1.2.2.2.2.1,h1.2.2.2.2.2,h2⟩,h3,aIc.2 ⟨by omega,h1.2.1,⟨List.Pairwise.nil,fun e he=>by cases he⟩⟩,rfl,aKi.2 (eR.nil _)⟩
theorem bRn{c:bC}(h1:1≤c.N∧c.N≤1024∧1≤c.L∧c.L≤16∧1≤c.R∧c.R≤8){r:List bW}(h2:(r.length:Int)=c.L*c.R)(h3:hsB r=true):SOK ⟨⟨c,r,[]⟩,List.replicate c.N.toNat ⟨false,0⟩⟩:=
 ⟨bGw h1 h2 h3,bRo om om,by simp;omega,fun e he=>by cases he⟩
def aPo(c:bC):Prop:=1≤c.N∧c.N≤1024∧1≤c.L∧c.L≤16∧1≤c.R∧c.R≤8
theorem lr{c:bC}(h:aPo c): ∃n:Nat,c.L*c.R=(n:Int)∧n≤128:=by
 obtain ⟨_,_,h1,h2,h3,h4⟩:=h;have a:0≤c.L*c.R:=Int.mul_nonneg om om;have b:c.L*c.R≤16*8:=Int.mul_le_mul h2 h4 om om;exact ⟨(c.L*c.R).toNat,by omega,by omega⟩
def zst:aD:=⟨⟨⟨0,0,0⟩,[],[]⟩,[]⟩
theorem bAx{c:bC}{l:List Int}(hl:l.length<10000000)(hw:W64 l)(at_:Int):
 (¬aPo c→qP c ⟨l,at_⟩=some (zst,⟨l,at_⟩,1))∧
 (aPo c→(¬(0≤at_∧at_≤l.length)→qP c ⟨l,at_⟩=some (zst,⟨l,at_⟩,1)∧aL8 ⟨l,at_⟩ (c.L*c.R)=some ([],⟨l,at_⟩,1))∧
  ∀i:Nat,at_=(i:Int)→i≤l.length→(hs l (c.L*c.R).toNat i=none→qP c ⟨l,at_⟩=some (zst,⟨l,at_⟩,5))∧
   ∀r q,hs l (c.L*c.R).toNat i=some (r,q)→qP c ⟨l,at_⟩=some (⟨⟨c,r,[]⟩,List.replicate c.N.toNat ⟨false,0⟩⟩,⟨l,(q:Int)⟩,0)):=by
 unfold qP;refine ⟨fun h=>?_,fun h=>?_⟩
 · rw [bt (by unfold aPo at h;simp;omega)];rfl
 ·
  obtain ⟨n,hn,hn2⟩:=lr h;have hb:(((((decide (c.N<1)||decide (1024<c.N))||decide (c.L<1))||decide (16<c.L))||decide (c.R<1))||decide (8<c.R))=false:=by unfold aPo at h;simp;omega
  rw [bf hb,hn,wr0 om om];refine ⟨fun ha=>?_,fun i hi hil=>?_⟩
  ·
   constructor
   · unfold uE sT;rw [aA,bt (by simp;omega)];simp only [aA];rw [bt (by rfl)];rfl
   · unfold aL8 aHt;rw [aA,bt (by simp;omega)]
  ·
   subst hi;rw [aUh hl hw hn2 hil,aA,Int.toNat_natCast];refine ⟨fun e=>?_,fun r q e=>?_⟩
   · rw [e];simp only [];rw [bt (by rfl)];rfl
   ·
    obtain ⟨c1,c2,c3,c4⟩:=aXp l n i e hil;have g:=bGw h (by rw [c1,hn]) c3;rw [e];simp only [];rw [bf (by rfl),bCw c om,g,if_pos rfl,aA];simp only [];unfold aIe rD;have h':=h;unfold aPo at h';have hs':(decide (1≤c.N)&&decide (c.N≤1024))=true:=by simp;omega
    rw [bf (by rfl),hs',aA,bf (by rfl),aHi (k:=c.N.toNat) om (Int.le_refl _) om,aA,aA];simp only [];rw [bf (by rfl)]
theorem cMz{l:List Int}{P:Prop}(w:(∀y,y∈l→(Lit.int .u64 y).wf=true)∧P):W64 l:=fun x hx=>by
 have:=w.1 x hx;simp [Lit.wf,IntKind.min,IntKind.max,IntKind.signed,IntKind.bits] at this;omega
open Go Go.AM Go.Pl Go.Pt Go.Ix
theorem aQm(l:List Int)(k:Int)(hl:l.length<1000000): ∀(m i:Nat),l.length<i+m→i≤l.length→
 ∃v,aCu m l k (i:Int)=some v∧((k∉l.drop i∧v= -1)∨ ∃j:Nat,v=(j:Int)∧l[j]? =some k)
 |0,i,hm,hi=>by omega
 |m+1,i,hm,hi=>by
  show ∃v,aHy (aCu m) l k (i:Int)=some v∧_;unfold aHy
  by_cases c:i<l.length
  ·
   rw [bt (by simpa using c),cC c,aA,dK c,wr1 i om]
   by_cases q:l[i]=k
   · rw [bt (by simp [q])];exact ⟨_,rfl,.inr ⟨i,rfl,by rw [List.getElem?_eq_getElem c,q]⟩⟩
   ·
    rw [bf (by simp [q])];obtain ⟨v,h1,h2⟩:=aQm l k hl m (i+1) om c;refine ⟨v,h1,?_⟩;rcases h2 with ⟨h2,h3⟩|h2
    · exact .inl ⟨fun h=>(List.mem_cons.1 h).elim (fun e=>q e.symm) h2,h3⟩
    · exact .inr h2
  · rw [bf (by simpa using c),List.drop_eq_nil_of_le om];exact ⟨_,rfl,.inl ⟨by simp,rfl⟩⟩
theorem uQ{l:List Int}(k:Int)(hl:l.length<1000000): ∃v,aJx l k=some v∧((k∉l∧v= -1)∨ ∃j:Nat,v=(j:Int)∧l[j]? =some k):=by
 have hFU:=FU';exact aQm l k hl aW 0 om (Nat.zero_le _)
def pr2(a b:Int):bG:=if b<a then ⟨b,a⟩ else ⟨a,b⟩
theorem aYw(a b:Int):aJz a b=some (pr2 a b):=by
 unfold aJz pr2
 by_cases c:b<a
 · rw [bt (by simpa using c),if_pos c];try rfl
 · rw [bf (by simpa using c),if_neg c];try rfl
theorem bBy(a b:Int):pr2 a b=pr2 b a:=by
 unfold pr2
 by_cases c:b<a
 · rw [if_pos c,if_neg om]
 ·
  by_cases d:a<b
  · rw [if_neg c,if_pos d]
  ·
   have:a=b:=by omega
   rw [this]
theorem bVd{a b c d:Int}(h:pr2 a b=pr2 c d):(a=c∧b=d)∨(a=d∧b=c):=by
 unfold pr2 at h;split at h<;>split at h<;>(injection h with h1 h2;omega)
theorem bEa(p q:bG):bE9 p q=decide (p=q):=by
 cases p with|mk a b=>cases q with|mk c d=>
 unfold bE9
 by_cases h1:a=c<;>by_cases h2:b=d<;>simp [h1,h2]
theorem aWd(l:List bG)(k:bG)(hl:l.length<1000000): ∀(m i:Nat),l.length<i+m→i≤l.length→
 ∃v,aHx m l k (i:Int)=some v∧((k∉l.drop i∧v= -1)∨ ∃j:Nat,v=(j:Int)∧l[j]? =some k)
 |0,i,hm,hi=>by omega
 |m+1,i,hm,hi=>by
  show ∃v,aM3 (aHx m) l k (i:Int)=some v∧_;unfold aM3
  by_cases c:i<l.length
  ·
   rw [bt (by simpa using c),cC c,aA,dK c,wr1 i om,bEa]
   by_cases q:l[i]=k
   · rw [bt (by simp [q])];exact ⟨_,rfl,.inr ⟨i,rfl,by rw [List.getElem?_eq_getElem c,q]⟩⟩
   ·
    rw [bf (by simp [q])];obtain ⟨v,h1,h2⟩:=aWd l k hl m (i+1) om c;refine ⟨v,h1,?_⟩;rcases h2 with ⟨h2,h3⟩|h2
    · exact .inl ⟨fun h=>(List.mem_cons.1 h).elim (fun e=>q e.symm) h2,h3⟩
    · exact .inr h2
  · rw [bf (by simpa using c),List.drop_eq_nil_of_le om];exact ⟨_,rfl,.inl ⟨by simp,rfl⟩⟩
theorem bFs{l:List bG}(k:bG)(hl:l.length<1000000): ∃v,aP9 l k=some v∧((k∉l∧v= -1)∨ ∃j:Nat,v=(j:Int)∧l[j]? =some k):=by
 have hFU:=FU';exact aWd l k hl aW 0 om (Nat.zero_le _)
def touch(a:Int)(p:bG):Bool:=p.x0==a||p.x1==a
def bYp(a:Int)(p:bG):Int:=IntKind.u64.wrap (IntKind.u64.wrap (p.x0+p.x1)-a)
def aW4(l:List bG)(a:Int):List Int:=bYt ((l.filter (touch a)).map (bYp a))
theorem aW1: ∀(l out:List Int),(l.foldl (fun out x=>aUp x out) out).length=l.length+out.length
 |[],out=>by simp
 |x::l,out=>by rw [List.foldl_cons,aW1 l,aSr,List.length_cons];omega
theorem bQl(l:List Int):(bYt l).length=l.length:=by unfold bYt;rw [aW1];simp
theorem bLq(l:List bG)(a:Int):(aW4 l a).length=(l.filter (touch a)).length:=by unfold aW4;rw [bQl,List.length_map]
theorem aIh(rec1:Int→aN→List Int→Int→Option (List Int))(a:Int)(mm:aN)(out:List Int)(ho:out.length<1000000)(i other:Int): ∀(m k:Nat),out.length<k+m→k≤out.length→(∀j y,j<k→out[j]? =some y→y<other)→
 aCw rec1 m a mm out i other (k:Int)=rec1 a mm (aUp other out) (IntKind.i64.wrap (i+1))
 |0,k,hm,hk,_=>by omega
 |m+1,k,hm,hk,hp=>by
  show aI0 rec1 (aCw rec1 m) _ _ _ _ _ _=_;unfold aI0 aCv
  by_cases c:k<out.length
  ·
   rw [gt' (by simpa using c),cC c,aA]
   by_cases q:out[k]<other
   ·
    rw [bt (by simp;omega),wr1 k om]
    exact aIh rec1 a mm out ho i other m (k+1) om c fun j y hj hy=>by
     rcases Nat.lt_or_ge j k with w|w
     · exact hp j y w hy
     ·
      have:j=k:=by omega
      subst this;rw [List.getElem?_eq_getElem c] at hy;cases hy;exact q
   · rw [bf (by simp;omega),aE8 rfl hk,aA,gH (by simp;omega),aA,gH (by simp;omega),aA,vY rfl hk,aA,gH (by simp;omega),aA];rw [aXt hk hp fun y hy=>by rw [List.getElem?_eq_getElem c] at hy;cases hy;exact q];simp
  · rw [gf' (by simpa using c),aA,bf (by simp;omega),aE8 rfl hk,aA,gH (by simp;omega),aA,gH (by simp;omega),aA,vY rfl hk,aA,gH (by simp;omega),aA];rw [aXt hk hp fun y hy=>by rw [List.getElem?_eq_none om] at hy;cases hy];simp
theorem aJy(a:Int)(mm:aN)(hl:mm.Pairs.length<100000): ∀(m i:Nat) (out:List Int),mm.Pairs.length<i+m→i≤mm.Pairs.length→out.length≤i→
 zZ m a mm out (i:Int)=some ((((mm.Pairs.drop i).filter (touch a)).map (bYp a)).foldl (fun out x=>aUp x out) out)
 |0,i,out,hm,hi,_=>by omega
 |m+1,i,out,hm,hi,ho=>by
  have hFU:=FU';show aHz (zZ m) _ _ _ _=_;unfold aHz
  by_cases c:i<mm.Pairs.length
  ·
   rw [bt (by simpa using c),cC c,aA,dK c,List.filter_cons]
   cases q:touch a mm.Pairs[i] with
   |true=>
    have e:(mm.Pairs[i].x0 !=a&&mm.Pairs[i].x1 !=a)=false:=by unfold touch at q;simp at q;simp;omega
    rw [bf e,if_pos rfl];have:=aIh (zZ m) a mm out om (i:Int) (bYp a mm.Pairs[i]) aW 0 om (Nat.zero_le _) (fun j y hj=>by omega);rw [wr1 i om,aJy a mm hl m (i+1) _ om c (by rw [aSr];omega)] at this;exact this
   |false=>
    have e:(mm.Pairs[i].x0 !=a&&mm.Pairs[i].x1 !=a)=true:=by unfold touch at q;simp at q;simp;omega
    rw [bt e,if_neg (by simp)];unfold aCv;rw [wr1 i om];exact aJy a mm hl m (i+1) out om c om
  · rw [bf (by simpa using c),List.drop_eq_nil_of_le om];rfl
theorem aYv{m:aN}(hl:m.Pairs.length<100000)(a:Int):aQn m a=some (aW4 m.Pairs a):=by
 have hFU:=FU';exact aJy a m hl aW 0 [] om (Nat.zero_le _) (Nat.le_refl _)
def aCk(l:List aE)(v:Int):List Int:=l.filterMap fun e=>if v=e.U then some e.V else if v=e.V then some e.U else none
theorem aFc(l:List aE)(hl:l.length<100000)(v:Int): ∀(m i:Nat) (out:List Int),l.length<i+m→i≤l.length→out.length≤i→aA8 m v out l (l.length:Int) (i:Int)=some (out++aCk (l.drop i) v)
 |0,i,out,hm,hi,_=>by omega
 |m+1,i,out,hm,hi,ho=>by
  show aIa (aA8 m) _ _ _ _ _=_;unfold aIa aD4
  by_cases c:i<l.length
  ·
   rw [bt (by simpa using c),cC c,aA,dK c,wr1 i om];unfold aCk;rw [List.filterMap_cons]
   by_cases q:v=l[i].U
   · rw [bt (by simpa using q),gH (by simp;omega),aA,if_pos q,aFc l hl v m (i+1) _ om c (by simp;omega)];simp [aCk]
   ·
    by_cases q2:v=l[i].V
    · rw [bf (by simpa using q),bt (by simpa using q2),gH (by simp;omega),aA,if_neg q,if_pos q2,aFc l hl v m (i+1) _ om c (by simp;omega)];simp [aCk]
    · rw [bf (by simpa using q),bf (by simpa using q2),if_neg q,if_neg q2,aFc l hl v m (i+1) _ om c om];simp [aCk]
  · rw [bf (by simpa using c),List.drop_eq_nil_of_le om];simp [aCk]
theorem aHd{s:aD}(hg:grB s.Graph=true)(hl:s.Graph.Edges.length<100000){v:Int}(h0:0≤v)(h1:v<s.Graph.Config.N):xU s v=some (aCk s.Graph.Edges v):=by
 have hFU:=FU';have k:=gok hg;unfold xU aFd iL;rw [oP om,aA,k.tr,gt' (by rfl),aA,bf (by simp;omega)];have:=aFc s.Graph.Edges hl v aW 0 [] om (Nat.zero_le _) (Nat.le_refl _);rw [show (0:Int)=((0:Nat):Int) from rfl,this];rfl
end Go.Proofs.YtkdohhmacfoolaaGreatDoor
