/- Facts. No condition. -/
import Derived.Test.YtkdohhmacfoolaaGreatDoorPgIxC
set_option linter.unusedVariables false
set_option linter.unusedSimpArgs false
set_option maxRecDepth 20000
set_option maxHeartbeats 1000000
namespace Go.Proofs.YtkdohhmacfoolaaGreatDoor
open Go Go.AM Go.Pl Go.Pt Go.Ix
def bl:List Int→Nat→Option (Int×Nat)
  |[],_=>none
  |x::t,i=>if x%2305843009213693952=2305843009213693951 then bl t (i+1) else some (x%2305843009213693952,i+1)
theorem aMk: ∀(t:List Int) (i:Nat) {v:Int} {p:Nat},bl t i=some (v,p)→i<p∧p≤i+t.length∧0≤v∧v<2305843009213693951
 |[],_,_,_,h=>by cases h
 |x::t,i,v,p,h=>by
  unfold bl at h;split at h
  · obtain ⟨a,b,c⟩:=aMk t (i+1) h;simp only [List.length_cons];exact ⟨by omega,by omega,c⟩
  · rename_i hx;cases h;simp only [List.length_cons];exact ⟨by omega,by omega,by omega,by omega⟩
def W64(l:List Int):Prop:= ∀x,x∈l→0≤x∧x<18446744073709551616
theorem bXo{x:Int}(h:0≤x∧x<18446744073709551616):yU .u64 x 2305843009213693951=x%2305843009213693952:=by
 obtain ⟨a,rfl⟩: ∃a:Nat,x=(a:Int):=⟨x.toNat,by omega⟩
 have:=bFz a 2305843009213693951 om (by decide);rw [show ((2305843009213693951:Nat):Int)=2305843009213693951 from rfl] at this;rw [this];have e:=Nat.and_two_pow_sub_one_eq_mod a 61;rw [show (2^61-1:Nat)=2305843009213693951 from rfl,show (2^61:Nat)=2305843009213693952 from rfl] at e;rw [e];omega
section
variable {l:List Int}(hl:l.length<10000000)(hw:W64 l)
include hl hw
theorem aPt(w:bC)(hL:w.List=l)(z:bC): ∀(m i:Nat),l.length<i+m→i≤l.length→zF m w z (i:Int)=some (match bl (l.drop i) i with|none=>(0,w,5)|some (v,p)=>(v,⟨l,(p:Int)⟩,0))
 |0,i,hm,hi=>by omega
 |m+1,i,hm,hi=>by
  show aH1 (zF m) w z (i:Int)=_;unfold aH1;rw [hL]
  by_cases c:i<l.length
  ·
   rw [bt (by simpa using c),cN c,aA,bXo (hw _ (List.getElem_mem c)),dZ c,wr1 i om];unfold bl
   by_cases q:l[i]%2305843009213693952=2305843009213693951
   · rw [bf (by simp;omega),if_pos q];exact aPt w hL z m (i+1) om c
   · rw [bt (by simp;omega),if_neg q]
  · rw [bf (by simpa using c),List.drop_eq_nil_of_le om];rfl
theorem aMt{i:Nat}(hi:i≤l.length):xY ⟨l,(i:Int)⟩=some (match bl (l.drop i) i with|none=>(0,⟨l,(i:Int)⟩,5)|some (v,p)=>(v,⟨l,(p:Int)⟩,0)):=by
 have hFU:=FU';unfold xY sS;rw [aA,bf (by simp;omega)];exact aPt hl hw _ rfl _ aY i om hi
end
def hs(l:List Int):Nat→Nat→Option (List cI×Nat)
  |0,i=>some ([],i)
  |n+1,i=>(bl (l.drop i) i).bind fun a=>(bl (l.drop a.2) a.2).bind fun b=>(hs l n b.2).map fun r=>(⟨a.1,b.1⟩::r.1,r.2)
theorem aXe(l:List Int): ∀n i {r:List cI} {q:Nat},hs l n i=some (r,q)→i≤l.length→r.length=n∧q≤l.length∧hsB r=true∧ ∀x,x∈r→0≤x.A∧0≤x.B
 |0,i,r,q,h,hi=>by cases h;exact ⟨rfl,hi,rfl,fun x hx=>by cases hx⟩
 |n+1,i,r,q,h,hi=>by
  unfold hs at h
  cases ea:bl (l.drop i) i with
  |none=>rw [ea] at h;cases h
  |some a=>
   rw [ea] at h;simp only [Option.bind_some] at h;obtain ⟨a1,a2,a3,a4⟩:=aMk _ _ (show bl (l.drop i) i=some (a.1,a.2) from ea);simp only [List.length_drop] at a2
   cases eb:bl (l.drop a.2) a.2 with
   |none=>rw [eb] at h;cases h
   |some b=>
    rw [eb] at h;simp only [Option.bind_some] at h;obtain ⟨b1,b2,b3,b4⟩:=aMk _ _ (show bl (l.drop a.2) a.2=some (b.1,b.2) from eb);simp only [List.length_drop] at b2
    cases eh:hs l n b.2 with
    |none=>rw [eh] at h;cases h
    |some x=>
     rw [eh] at h;cases h;obtain ⟨c1,c2,c3,c4⟩:=aXe l n b.2 (show hs l n b.2=some (x.1,x.2) from eh) om;refine ⟨by simp [c1],c2,?_,?_⟩
     · rw [aS9,c3];simp [a4,b4]
     ·
      intro y hy;rcases List.mem_cons.1 hy with rfl|hy
      · exact ⟨a3,b3⟩
      · exact c4 y hy
section
variable {l:List Int}(hl:l.length<10000000)(hw:W64 l)
include hl hw
theorem aMu(w z:bC)(N:Nat)(hN:N≤128): ∀(k m j i:Nat) (done:List cI),j+k=N→k<m→done.length=j→i≤l.length→
 rN m w z (done++List.replicate k ⟨0,0⟩) ⟨l,(i:Int)⟩ (N:Int) (j:Int)=some (match hs l k i with|none=>([],w,5)|some (r,q)=>(done++r,⟨l,(q:Int)⟩,0))
 |k,0,j,i,done,_,hm,_,_=>by omega
 |0,m+1,j,i,done,hj,hm,hd,hi=>by
  show vN (rN m) w z _ _ _ _=_;unfold vN;rw [bf (by simp;omega)];rfl
 |k+1,m+1,j,i,done,hj,hm,hd,hi=>by
  show vN (rN m) w z _ _ _ _=_;unfold vN;rw [bt (by simp;omega),aMt hl hw hi,aA];unfold hs
  cases ea:bl (l.drop i) i with
  |none=>simp only [Option.bind_none];rw [bt (by rfl)]
  |some a=>
   obtain ⟨a1,a2,a3,a4⟩:=aMk _ _ (show bl (l.drop i) i=some (a.1,a.2) from ea);simp only [List.length_drop] at a2;simp only [Option.bind_some];rw [bf (by rfl),aMt hl hw om,aA]
   cases eb:bl (l.drop a.2) a.2 with
   |none=>simp only [Option.bind_none];rw [bt (by rfl)]
   |some b=>
    obtain ⟨b1,b2,b3,b4⟩:=aMk _ _ (show bl (l.drop a.2) a.2=some (b.1,b.2) from eb);simp only [List.length_drop] at b2;simp only [Option.bind_some];have hj':j<(done++List.replicate (k+1) (⟨0,0⟩:cI)).length:=by simp;omega
    have es:(done++List.replicate (k+1) (⟨0,0⟩:cI)).set j ⟨a.1,b.1⟩=(done++[⟨a.1,b.1⟩])++List.replicate k ⟨0,0⟩:=by
     rw [List.replicate_succ,List.set_append_right _ _ om,hd,Nat.sub_self];simp
    rw [bf (by rfl),cN hj',aA,uZ hj',aA,wr1 j om,es,aMu w z N hN k m (j+1) b.2 _ om om (by simp [hd]) om]
    cases hs l k b.2 with
    |none=>rfl
    |some x=>simp
theorem aU6{n:Nat}(hn:n≤128){i:Nat}(hi:i≤l.length):uH ⟨l,(i:Int)⟩ (n:Int)=some (match hs l n i with|none=>([],⟨l,(i:Int)⟩,5)|some (r,q)=>(r,⟨l,(q:Int)⟩,0)):=by
 have hFU:=FU';unfold uH sS;rw [aA,bf (by simp;omega),aH9 rfl (Int.le_refl _) om,aA];have:=aMu hl hw ⟨l,(i:Int)⟩ ⟨[],0⟩ n hn n aY 0 i [] om om rfl hi;simp only [List.nil_append] at this;rw [List.length_replicate];exact this
end
def rf(s:List aN):List qJ:=s.map fun x=>⟨x.Used,x.Key⟩
structure SM(s:aC):Prop where
  e:s.Graph.Edges.length<1000000
  h:s.Graph.Hashes.length<1000000
  v:s.Slots.length<1000000
theorem bQy{n:Nat}(h1:1≤n)(h2:n≤1024):VOK (List.replicate n ⟨false,0⟩):=by
 refine ⟨by simpa using h1,by simpa using h2,fun s hs _=>?_,fun i j k hi hj=>?_⟩
 · rw [(List.mem_replicate.1 hs).2]
 · unfold At at hi;have:=List.mem_of_getElem? hi;have:=(List.mem_replicate.1 this).2;cases this
theorem bG7{c:aX}(h1:1≤c.N∧c.N≤1024∧1≤c.L∧c.L≤16∧1≤c.R∧c.R≤8){r:List cI}(h2:(r.length:Int)=c.L*c.R)(h3:hsB r=true):grB ⟨c,r,[]⟩=true:=by
 unfold grB cfB;simp only [Bool.and_eq_true,decide_eq_true_eq];exact ⟨⟨h1.1,h1.2.1,h1.2.2.1,h1.2.2.2.1,h1.2.2.2.2.1,h1.2.2.2.2.2,h2⟩,h3,aI0.2 ⟨by omega,h1.2.1,⟨List.Pairwise.nil,fun e he=>by cases he⟩⟩,rfl,aK6.2 (eN.nil _)⟩
theorem bQx{c:aX}(h1:1≤c.N∧c.N≤1024∧1≤c.L∧c.L≤16∧1≤c.R∧c.R≤8){r:List cI}(h2:(r.length:Int)=c.L*c.R)(h3:hsB r=true):SOK ⟨⟨c,r,[]⟩,List.replicate c.N.toNat ⟨false,0⟩⟩:=
 ⟨bG7 h1 h2 h3,bQy om om,by simp;omega,fun e he=>by cases he⟩
def aPd(c:aX):Prop:=1≤c.N∧c.N≤1024∧1≤c.L∧c.L≤16∧1≤c.R∧c.R≤8
theorem lr{c:aX}(h:aPd c): ∃n:Nat,c.L*c.R=(n:Int)∧n≤128:=by
 obtain ⟨_,_,h1,h2,h3,h4⟩:=h;have a:0≤c.L*c.R:=Int.mul_nonneg om om;have b:c.L*c.R≤16*8:=Int.mul_le_mul h2 h4 om om;exact ⟨(c.L*c.R).toNat,by omega,by omega⟩
def zst:aC:=⟨⟨⟨0,0,0⟩,[],[]⟩,[]⟩
theorem bAh{c:aX}{l:List Int}(hl:l.length<10000000)(hw:W64 l)(at_:Int):
 (¬aPd c→qO c ⟨l,at_⟩=some (zst,⟨l,at_⟩,1))∧
 (aPd c→(¬(0≤at_∧at_≤l.length)→qO c ⟨l,at_⟩=some (zst,⟨l,at_⟩,1)∧aKy ⟨l,at_⟩ (c.L*c.R)=some ([],⟨l,at_⟩,1))∧
  ∀i:Nat,at_=(i:Int)→i≤l.length→(hs l (c.L*c.R).toNat i=none→qO c ⟨l,at_⟩=some (zst,⟨l,at_⟩,5))∧
   ∀r q,hs l (c.L*c.R).toNat i=some (r,q)→qO c ⟨l,at_⟩=some (⟨⟨c,r,[]⟩,List.replicate c.N.toNat ⟨false,0⟩⟩,⟨l,(q:Int)⟩,0)):=by
 unfold qO;refine ⟨fun h=>?_,fun h=>?_⟩
 · rw [bt (by unfold aPd at h;simp;omega)];rfl
 ·
  obtain ⟨n,hn,hn2⟩:=lr h;have hb:(((((decide (c.N<1)||decide (1024<c.N))||decide (c.L<1))||decide (16<c.L))||decide (c.R<1))||decide (8<c.R))=false:=by unfold aPd at h;simp;omega
  rw [bf hb,hn,wr0 om om];refine ⟨fun ha=>?_,fun i hi hil=>?_⟩
  ·
   constructor
   · unfold uH sS;rw [aA,bt (by simp;omega)];simp only [aA];rw [bt (by rfl)];rfl
   · unfold aKy aHk;rw [aA,bt (by simp;omega)]
  ·
   subst hi;rw [aU6 hl hw hn2 hil,aA,Int.toNat_natCast];refine ⟨fun e=>?_,fun r q e=>?_⟩
   · rw [e];simp only [];rw [bt (by rfl)];rfl
   ·
    obtain ⟨c1,c2,c3,c4⟩:=aXe l n i e hil;have g:=bG7 h (by rw [c1,hn]) c3;rw [e];simp only [];rw [bf (by rfl),bC7 c om,g,if_pos rfl,aA];simp only [];unfold aI2 rC;have h':=h;unfold aPd at h';have hs':(decide (1≤c.N)&&decide (c.N≤1024))=true:=by simp;omega
    rw [bf (by rfl),hs',aA,bf (by rfl),aH9 (k:=c.N.toNat) om (Int.le_refl _) om,aA,aA];simp only [];rw [bf (by rfl)]
theorem cM2{l:List Int}{P:Prop}(w:(∀y,y∈l→(Lit.int .u64 y).wf=true)∧P):W64 l:=fun x hx=>by
 have:=w.1 x hx;simp [Lit.wf,IntKind.min,IntKind.max,IntKind.signed,IntKind.bits] at this;omega
open Go Go.AM Go.Pl Go.Pt Go.Ix
theorem aQ5(l:List Int)(k:Int)(hl:l.length<1000000): ∀(m i:Nat),l.length<i+m→i≤l.length→
 ∃v,aCp m l k (i:Int)=some v∧((k∉l.drop i∧v= -1)∨ ∃j:Nat,v=(j:Int)∧l[j]? =some k)
 |0,i,hm,hi=>by omega
 |m+1,i,hm,hi=>by
  show ∃v,aHm (aCp m) l k (i:Int)=some v∧_;unfold aHm
  by_cases c:i<l.length
  ·
   rw [bt (by simpa using c),cN c,aA,dZ c,wr1 i om]
   by_cases q:l[i]=k
   · rw [bt (by simp [q])];exact ⟨_,rfl,.inr ⟨i,rfl,by rw [List.getElem?_eq_getElem c,q]⟩⟩
   ·
    rw [bf (by simp [q])];obtain ⟨v,h1,h2⟩:=aQ5 l k hl m (i+1) om c;refine ⟨v,h1,?_⟩;rcases h2 with ⟨h2,h3⟩|h2
    · exact .inl ⟨fun h=>(List.mem_cons.1 h).elim (fun e=>q e.symm) h2,h3⟩
    · exact .inr h2
  · rw [bf (by simpa using c),List.drop_eq_nil_of_le om];exact ⟨_,rfl,.inl ⟨by simp,rfl⟩⟩
theorem uW{l:List Int}(k:Int)(hl:l.length<1000000): ∃v,aJj l k=some v∧((k∉l∧v= -1)∨ ∃j:Nat,v=(j:Int)∧l[j]? =some k):=by
 have hFU:=FU';exact aQ5 l k hl aY 0 om (Nat.zero_le _)
def pr2(a b:Int):bG:=if b<a then ⟨b,a⟩ else ⟨a,b⟩
theorem aYf(a b:Int):aJl a b=some (pr2 a b):=by
 unfold aJl pr2
 by_cases c:b<a
 · rw [bt (by simpa using c),if_pos c];try rfl
 · rw [bf (by simpa using c),if_neg c];try rfl
theorem bBf(a b:Int):pr2 a b=pr2 b a:=by
 unfold pr2
 by_cases c:b<a
 · rw [if_pos c,if_neg om]
 ·
  by_cases d:a<b
  · rw [if_neg c,if_pos d]
  ·
   have:a=b:=by omega
   rw [this]
theorem bUj{a b c d:Int}(h:pr2 a b=pr2 c d):(a=c∧b=d)∨(a=d∧b=c):=by
 unfold pr2 at h;split at h<;>split at h<;>(injection h with h1 h2;omega)
theorem bDm(p q:bG):bDl p q=decide (p=q):=by
 cases p with|mk a b=>cases q with|mk c d=>
 unfold bDl
 by_cases h1:a=c<;>by_cases h2:b=d<;>simp [h1,h2]
theorem aW3(l:List bG)(k:bG)(hl:l.length<1000000): ∀(m i:Nat),l.length<i+m→i≤l.length→
 ∃v,aHl m l k (i:Int)=some v∧((k∉l.drop i∧v= -1)∨ ∃j:Nat,v=(j:Int)∧l[j]? =some k)
 |0,i,hm,hi=>by omega
 |m+1,i,hm,hi=>by
  show ∃v,aLs (aHl m) l k (i:Int)=some v∧_;unfold aLs
  by_cases c:i<l.length
  ·
   rw [bt (by simpa using c),cN c,aA,dZ c,wr1 i om,bDm]
   by_cases q:l[i]=k
   · rw [bt (by simp [q])];exact ⟨_,rfl,.inr ⟨i,rfl,by rw [List.getElem?_eq_getElem c,q]⟩⟩
   ·
    rw [bf (by simp [q])];obtain ⟨v,h1,h2⟩:=aW3 l k hl m (i+1) om c;refine ⟨v,h1,?_⟩;rcases h2 with ⟨h2,h3⟩|h2
    · exact .inl ⟨fun h=>(List.mem_cons.1 h).elim (fun e=>q e.symm) h2,h3⟩
    · exact .inr h2
  · rw [bf (by simpa using c),List.drop_eq_nil_of_le om];exact ⟨_,rfl,.inl ⟨by simp,rfl⟩⟩
theorem bF4{l:List bG}(k:bG)(hl:l.length<1000000): ∃v,aOy l k=some v∧((k∉l∧v= -1)∨ ∃j:Nat,v=(j:Int)∧l[j]? =some k):=by
 have hFU:=FU';exact aW3 l k hl aY 0 om (Nat.zero_le _)
def touch(a:Int)(p:bG):Bool:=p.x0==a||p.x1==a
def bXx(a:Int)(p:bG):Int:=IntKind.u64.wrap (IntKind.u64.wrap (p.x0+p.x1)-a)
def aVu(l:List bG)(a:Int):List Int:=bY1 ((l.filter (touch a)).map (bXx a))
theorem aVr: ∀(l out:List Int),(l.foldl (fun out x=>aUe x out) out).length=l.length+out.length
 |[],out=>by simp
 |x::l,out=>by rw [List.foldl_cons,aVr l,aSc,List.length_cons];omega
theorem bPt(l:List Int):(bY1 l).length=l.length:=by unfold bY1;rw [aVr];simp
theorem bL2(l:List bG)(a:Int):(aVu l a).length=(l.filter (touch a)).length:=by unfold aVu;rw [bPt,List.length_map]
theorem aI5(rec1:Int→aM→List Int→Int→Option (List Int))(a:Int)(mm:aM)(out:List Int)(ho:out.length<1000000)(i other:Int): ∀(m k:Nat),out.length<k+m→k≤out.length→(∀j y,j<k→out[j]? =some y→y<other)→
 aCr rec1 m a mm out i other (k:Int)=rec1 a mm (aUe other out) (IntKind.i64.wrap (i+1))
 |0,k,hm,hk,_=>by omega
 |m+1,k,hm,hk,hp=>by
  show aHo rec1 (aCr rec1 m) _ _ _ _ _ _=_;unfold aHo aCq
  by_cases c:k<out.length
  ·
   rw [gt' (by simpa using c),cN c,aA]
   by_cases q:out[k]<other
   ·
    rw [bt (by simp;omega),wr1 k om]
    exact aI5 rec1 a mm out ho i other m (k+1) om c fun j y hj hy=>by
     rcases Nat.lt_or_ge j k with w|w
     · exact hp j y w hy
     ·
      have:j=k:=by omega
      subst this;rw [List.getElem?_eq_getElem c] at hy;cases hy;exact q
   · rw [bf (by simp;omega),aCb rfl hk,aA,gG (by simp;omega),aA,gG (by simp;omega),aA,wF rfl hk,aA,gG (by simp;omega),aA];rw [aXi hk hp fun y hy=>by rw [List.getElem?_eq_getElem c] at hy;cases hy;exact q];simp
  · rw [gf' (by simpa using c),aA,bf (by simp;omega),aCb rfl hk,aA,gG (by simp;omega),aA,gG (by simp;omega),aA,wF rfl hk,aA,gG (by simp;omega),aA];rw [aXi hk hp fun y hy=>by rw [List.getElem?_eq_none om] at hy;cases hy];simp
theorem aJk(a:Int)(mm:aM)(hl:mm.Pairs.length<100000): ∀(m i:Nat) (out:List Int),mm.Pairs.length<i+m→i≤mm.Pairs.length→out.length≤i→
 zY m a mm out (i:Int)=some ((((mm.Pairs.drop i).filter (touch a)).map (bXx a)).foldl (fun out x=>aUe x out) out)
 |0,i,out,hm,hi,_=>by omega
 |m+1,i,out,hm,hi,ho=>by
  have hFU:=FU';show aHn (zY m) _ _ _ _=_;unfold aHn
  by_cases c:i<mm.Pairs.length
  ·
   rw [bt (by simpa using c),cN c,aA,dZ c,List.filter_cons]
   cases q:touch a mm.Pairs[i] with
   |true=>
    have e:(mm.Pairs[i].x0 !=a&&mm.Pairs[i].x1 !=a)=false:=by unfold touch at q;simp at q;simp;omega
    rw [bf e,if_pos rfl];have:=aI5 (zY m) a mm out om (i:Int) (bXx a mm.Pairs[i]) aY 0 om (Nat.zero_le _) (fun j y hj=>by omega);rw [wr1 i om,aJk a mm hl m (i+1) _ om c (by rw [aSc];omega)] at this;exact this
   |false=>
    have e:(mm.Pairs[i].x0 !=a&&mm.Pairs[i].x1 !=a)=true:=by unfold touch at q;simp at q;simp;omega
    rw [bt e,if_neg (by simp)];unfold aCq;rw [wr1 i om];exact aJk a mm hl m (i+1) out om c om
  · rw [bf (by simpa using c),List.drop_eq_nil_of_le om];rfl
theorem aYe{m:aM}(hl:m.Pairs.length<100000)(a:Int):aQ6 m a=some (aVu m.Pairs a):=by
 have hFU:=FU';exact aJk a m hl aY 0 [] om (Nat.zero_le _) (Nat.le_refl _)
def aCe(l:List aE)(v:Int):List Int:=l.filterMap fun e=>if v=e.U then some e.V else if v=e.V then some e.U else none
theorem aF5(l:List aE)(hl:l.length<100000)(v:Int): ∀(m i:Nat) (out:List Int),l.length<i+m→i≤l.length→out.length≤i→aA6 m v out l (l.length:Int) (i:Int)=some (out++aCe (l.drop i) v)
 |0,i,out,hm,hi,_=>by omega
 |m+1,i,out,hm,hi,ho=>by
  show aHy (aA6 m) _ _ _ _ _=_;unfold aHy aCy
  by_cases c:i<l.length
  ·
   rw [bt (by simpa using c),cN c,aA,dZ c,wr1 i om];unfold aCe;rw [List.filterMap_cons]
   by_cases q:v=l[i].U
   · rw [bt (by simpa using q),gG (by simp;omega),aA,if_pos q,aF5 l hl v m (i+1) _ om c (by simp;omega)];simp [aCe]
   ·
    by_cases q2:v=l[i].V
    · rw [bf (by simpa using q),bt (by simpa using q2),gG (by simp;omega),aA,if_neg q,if_pos q2,aF5 l hl v m (i+1) _ om c (by simp;omega)];simp [aCe]
    · rw [bf (by simpa using q),bf (by simpa using q2),if_neg q,if_neg q2,aF5 l hl v m (i+1) _ om c om];simp [aCe]
  · rw [bf (by simpa using c),List.drop_eq_nil_of_le om];simp [aCe]
theorem aH5{s:aC}(hg:grB s.Graph=true)(hl:s.Graph.Edges.length<100000){v:Int}(h0:0≤v)(h1:v<s.Graph.Config.N):yC s v=some (aCe s.Graph.Edges v):=by
 have hFU:=FU';have k:=gok hg;unfold yC aF6 iL;rw [oM om,aA,k.tr,gt' (by rfl),aA,bf (by simp;omega)];have:=aF5 s.Graph.Edges hl v aY 0 [] om (Nat.zero_le _) (Nat.le_refl _);rw [show (0:Int)=((0:Nat):Int) from rfl,this];rfl
end Go.Proofs.YtkdohhmacfoolaaGreatDoor
