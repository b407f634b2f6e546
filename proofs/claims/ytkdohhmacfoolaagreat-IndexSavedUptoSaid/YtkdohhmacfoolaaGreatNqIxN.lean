/- Facts. No condition. -/
import Derived.Test.YtkdohhmacfoolaaGreatNqIxC
set_option linter.unusedVariables false
set_option linter.unusedSimpArgs false
set_option maxRecDepth 20000
set_option maxHeartbeats 1000000
namespace Go.Proofs.YtkdohhmacfoolaaGreat
open Go Go.AM Go.Pl Go.Pt Go.Ix
theorem aS2:aBc=some true:=by decide+kernel
def bl:List Int→Nat→Option (Int×Nat)
  |[],_=>none
  |x::t,i=>if x%2305843009213693952=2305843009213693951 then bl t (i+1) else some (x%2305843009213693952,i+1)
theorem aNc: ∀(t:List Int) (i:Nat) {v:Int} {p:Nat},bl t i=some (v,p)→i<p∧p≤i+t.length∧0≤v∧v<2305843009213693951
 |[],_,_,_,h=>by cases h
 |x::t,i,v,p,h=>by
  unfold bl at h;split at h
  · obtain ⟨a,b,c⟩:=aNc t (i+1) h;simp only [List.length_cons];exact ⟨by omega,by omega,c⟩
  · rename_i hx;cases h;simp only [List.length_cons];exact ⟨by omega,by omega,by omega,by omega⟩
def W64(l:List Int):Prop:= ∀x,x∈l→0≤x∧x<18446744073709551616
theorem bW0{x:Int}(h:0≤x∧x<18446744073709551616):yS .u64 x 2305843009213693951=x%2305843009213693952:=by
 obtain ⟨a,rfl⟩: ∃a:Nat,x=(a:Int):=⟨x.toNat,by omega⟩
 have:=bH4 a 2305843009213693951 om (by decide);rw [show ((2305843009213693951:Nat):Int)=2305843009213693951 from rfl] at this;rw [this];have e:=Nat.and_two_pow_sub_one_eq_mod a 61;rw [show (2^61-1:Nat)=2305843009213693951 from rfl,show (2^61:Nat)=2305843009213693952 from rfl] at e;rw [e];omega
section
variable {l:List Int}(hl:l.length<10000000)(hw:W64 l)
include hl hw
theorem aQk(w:cM)(hL:w.List=l)(z:cM): ∀(m i:Nat),l.length<i+m→i≤l.length→aB5 m w z (i:Int)=some (match bl (l.drop i) i with|none=>(0,w,5)|some (v,p)=>(v,⟨l,(p:Int)⟩,0))
 |0,i,hm,hi=>by omega
 |m+1,i,hm,hi=>by
  show aI3 (aB5 m) w z (i:Int)=_;unfold aI3;rw [hL]
  by_cases c:i<l.length
  ·
   rw [bt (by simpa using c),eC c,aA,bW0 (hw _ (List.getElem_mem c)),fC c,wr1 i om];unfold bl
   by_cases q:l[i]%2305843009213693952=2305843009213693951
   · rw [bf (by simp;omega),if_pos q];exact aQk w hL z m (i+1) om c
   · rw [bt (by simp;omega),if_neg q]
  · rw [bf (by simpa using c),List.drop_eq_nil_of_le om];rfl
theorem aNi{i:Nat}(hi:i≤l.length):aAf ⟨l,(i:Int)⟩=some (match bl (l.drop i) i with|none=>(0,⟨l,(i:Int)⟩,5)|some (v,p)=>(v,⟨l,(p:Int)⟩,0)):=by
 have hFU:=FU';unfold aAf wC;rw [aA,bf (by simp;omega)];exact aQk hl hw _ rfl _ aZ i om hi
end
def hs(l:List Int):Nat→Nat→Option (List dI×Nat)
  |0,i=>some ([],i)
  |n+1,i=>(bl (l.drop i) i).bind fun a=>(bl (l.drop a.2) a.2).bind fun b=>(hs l n b.2).map fun r=>(⟨a.1,b.1⟩::r.1,r.2)
theorem aXv(l:List Int): ∀n i {r:List dI} {q:Nat},hs l n i=some (r,q)→i≤l.length→r.length=n∧q≤l.length∧hsB r=true∧ ∀x,x∈r→0≤x.A∧0≤x.B
 |0,i,r,q,h,hi=>by cases h;exact ⟨rfl,hi,rfl,fun x hx=>by cases hx⟩
 |n+1,i,r,q,h,hi=>by
  unfold hs at h
  cases ea:bl (l.drop i) i with
  |none=>rw [ea] at h;cases h
  |some a=>
   rw [ea] at h;simp only [Option.bind_some] at h;obtain ⟨a1,a2,a3,a4⟩:=aNc _ _ (show bl (l.drop i) i=some (a.1,a.2) from ea);simp only [List.length_drop] at a2
   cases eb:bl (l.drop a.2) a.2 with
   |none=>rw [eb] at h;cases h
   |some b=>
    rw [eb] at h;simp only [Option.bind_some] at h;obtain ⟨b1,b2,b3,b4⟩:=aNc _ _ (show bl (l.drop a.2) a.2=some (b.1,b.2) from eb);simp only [List.length_drop] at b2
    cases eh:hs l n b.2 with
    |none=>rw [eh] at h;cases h
    |some x=>
     rw [eh] at h;cases h;obtain ⟨c1,c2,c3,c4⟩:=aXv l n b.2 (show hs l n b.2=some (x.1,x.2) from eh) om;refine ⟨by simp [c1],c2,?_,?_⟩
     · rw [aT7,c3];simp [a4,b4]
     ·
      intro y hy;rcases List.mem_cons.1 hy with rfl|hy
      · exact ⟨a3,b3⟩
      · exact c4 y hy
section
variable {l:List Int}(hl:l.length<10000000)(hw:W64 l)
include hl hw
theorem aNj(w z:cM)(N:Nat)(hN:N≤128): ∀(k m j i:Nat) (done:List dI),j+k=N→k<m→done.length=j→i≤l.length→
 vD m w z (done++List.replicate k ⟨0,0⟩) ⟨l,(i:Int)⟩ (N:Int) (j:Int)=some (match hs l k i with|none=>([],w,5)|some (r,q)=>(done++r,⟨l,(q:Int)⟩,0))
 |k,0,j,i,done,_,hm,_,_=>by omega
 |0,m+1,j,i,done,hj,hm,hd,hi=>by
  show yV (vD m) w z _ _ _ _=_;unfold yV;rw [bf (by simp;omega)];rfl
 |k+1,m+1,j,i,done,hj,hm,hd,hi=>by
  show yV (vD m) w z _ _ _ _=_;unfold yV;rw [bt (by simp;omega),aNi hl hw hi,aA];unfold hs
  cases ea:bl (l.drop i) i with
  |none=>simp only [Option.bind_none];rw [bt (by rfl)]
  |some a=>
   obtain ⟨a1,a2,a3,a4⟩:=aNc _ _ (show bl (l.drop i) i=some (a.1,a.2) from ea);simp only [List.length_drop] at a2;simp only [Option.bind_some];rw [bf (by rfl),aNi hl hw om,aA]
   cases eb:bl (l.drop a.2) a.2 with
   |none=>simp only [Option.bind_none];rw [bt (by rfl)]
   |some b=>
    obtain ⟨b1,b2,b3,b4⟩:=aNc _ _ (show bl (l.drop a.2) a.2=some (b.1,b.2) from eb);simp only [List.length_drop] at b2;simp only [Option.bind_some];have hj':j<(done++List.replicate (k+1) (⟨0,0⟩:dI)).length:=by simp;omega
    have es:(done++List.replicate (k+1) (⟨0,0⟩:dI)).set j ⟨a.1,b.1⟩=(done++[⟨a.1,b.1⟩])++List.replicate k ⟨0,0⟩:=by
     rw [List.replicate_succ,List.set_append_right _ _ om,hd,Nat.sub_self];simp
    rw [bf (by rfl),eC hj',aA,yK hj',aA,wr1 j om,es,aNj w z N hN k m (j+1) b.2 _ om om (by simp [hd]) om]
    cases hs l k b.2 with
    |none=>rfl
    |some x=>simp
theorem aUq{n:Nat}(hn:n≤128){i:Nat}(hi:i≤l.length):xU ⟨l,(i:Int)⟩ (n:Int)=some (match hs l n i with|none=>([],⟨l,(i:Int)⟩,5)|some (r,q)=>(r,⟨l,(q:Int)⟩,0)):=by
 have hFU:=FU';unfold xU wC;rw [aA,bf (by simp;omega),aSb rfl (Int.le_refl _) om,aA];have:=aNj hl hw ⟨l,(i:Int)⟩ ⟨[],0⟩ n hn n aZ 0 i [] om om rfl hi;simp only [List.nil_append] at this;rw [List.length_replicate];exact this
end
theorem aQr(s:List aR)(hs:s.length<1000000): ∀(m i:Nat),s.length<i+m→i≤s.length→aBb m ((s.take i).map fun x=>⟨x.Used,x.Key⟩) s (s.length:Int) (i:Int)=some (s.map fun x=>⟨x.Used,x.Key⟩)
 |0,i,hm,hi=>by omega
 |m+1,i,hm,hi=>by
  show aI9 (aBb m) _ _ _ _=_;unfold aI9
  by_cases c:i<s.length
  · rw [bt (by simpa using c),eC c,aA,mM (by simp;omega),aA,wr1 i om];have:=aQr s hs m (i+1) om c;rw [aEr c,List.map_append] at this;exact this
  · rw [bf (by simpa using c),show i=s.length by omega,List.take_length]
def rf(s:List aR):List bS:=s.map fun x=>⟨x.Used,x.Key⟩
theorem aNv{s:List aR}(hs:s.length<1000000):aG5 s=some (rf s):=by
 have hFU:=FU';exact aQr s hs aZ 0 om (Nat.zero_le _)
theorem bPu(x y:bS):((x.Used==y.Used)&&((x.Key==y.Key)&&true))=decide (x=y):=by
 cases x with|mk a b=>cases y with|mk c d=>
 by_cases h1:a=c<;>by_cases h2:b=d<;>simp [h1,h2]
theorem aQy(a b:List bS)(hab:a.length=b.length)(hl:a.length<1000000000): ∀(m i:Nat),a.length<i+m→i≤a.length→aBl m a b (i:Int)=some (decide (a.drop i=b.drop i))
 |0,i,hm,hi=>by omega
 |m+1,i,hm,hi=>by
  show aIs (aBl m) _ _ _=_;unfold aIs
  by_cases c:i<a.length
  ·
   have c':i<b.length:=by omega
   rw [bt (by simpa using c),eC c,aA,eC c',aA,bPu,wr1 i om,fC c,fC c']
   by_cases q:a[i]=b[i]
   · rw [bf (by simp [q]),aQy a b hab hl m (i+1) om c];simp [q,-List.getElem_cons_drop]
   · rw [bt (by simp [q])];simp [q,-List.getElem_cons_drop]
  · rw [bf (by simpa using c),List.drop_eq_nil_of_le om,List.drop_eq_nil_of_le om];rfl
theorem aYr(a b:List bS)(hl:a.length<1000000000):aDa a b=some (decide (a=b)):=by
 have hFU:=FU';unfold aDa
 by_cases c:a.length=b.length
 ·
  rw [bf (by simp [c])];have:=aQy a b c hl aZ 0 om (Nat.zero_le _)
  simpa using this
 · rw [bt (by simp;omega)];have:a≠b:=fun h=>c (by rw [h]);simp [this]
theorem bPl: ∀ {s t:List aR},rf s=rf t→s=t
 |[],[],_=>rfl
 |[],y::t,h=>by cases h
 |x::s,[],h=>by cases h
 |x::s,y::t,h=>by
  have h':(⟨x.Used,x.Key⟩:bS)::rf s=⟨y.Used,y.Key⟩::rf t:=h;injection h' with h1 h2
  injection h1 with h3 h4
  cases x with|mk a b=>cases y with|mk c d=>
  simp only at h3 h4;rw [h3,h4,bPl h2]
structure SM(s:aF):Prop where
  e:s.Graph.Edges.length<1000000
  h:s.Graph.Hashes.length<1000000
  v:s.Slots.length<1000000
theorem aY2{a b:aF}(ha:SM a)(hb:SM b):sB a b=some (decide (a=b)):=by
 have h1:=ha.e;have h2:=ha.h;have h3:=ha.v;unfold sB aF7 aGb;rw [aNv ha.v,aA,aA,aNv hb.v,aA,aA,aYt _ _ (by show a.Graph.Edges.length<_;omega) (by show a.Graph.Hashes.length<_;omega),aA,aYr _ _ (by simp [rf];omega),aA,aA];cases a with|mk a1 a2=>cases b with|mk b1 b2=>
 congr 1
 by_cases c1:a1=b1<;>by_cases c2:a2=b2
 · simp [c1,c2]
 · have:rf a2≠rf b2:=fun h=>c2 (bPl h);simp [c1,c2,this]
 · simp [c1,c2]
 · simp [c1,c2]
theorem bQ6{n:Nat}(h1:1≤n)(h2:n≤1024):VOK (List.replicate n ⟨false,0⟩):=by
 refine ⟨by simpa using h1,by simpa using h2,fun s hs _=>?_,fun i j k hi hj=>?_⟩
 · rw [(List.mem_replicate.1 hs).2]
 · unfold At at hi;have:=List.mem_of_getElem? hi;have:=(List.mem_replicate.1 this).2;cases this
theorem bHn{c:bZ}(h1:1≤c.N∧c.N≤1024∧1≤c.L∧c.L≤16∧1≤c.R∧c.R≤8){r:List dI}(h2:(r.length:Int)=c.L*c.R)(h3:hsB r=true):grB ⟨c,r,[]⟩=true:=by
 unfold grB cfB;simp only [Bool.and_eq_true,decide_eq_true_eq];exact ⟨⟨h1.1,h1.2.1,h1.2.2.1,h1.2.2.2.1,h1.2.2.2.2.1,h1.2.2.2.2.2,h2⟩,h3,aJ7.2 ⟨by omega,h1.2.1,⟨List.Pairwise.nil,fun e he=>by cases he⟩⟩,rfl,aL7.2 (iL.nil _)⟩
theorem bQ5{c:bZ}(h1:1≤c.N∧c.N≤1024∧1≤c.L∧c.L≤16∧1≤c.R∧c.R≤8){r:List dI}(h2:(r.length:Int)=c.L*c.R)(h3:hsB r=true):SOK ⟨⟨c,r,[]⟩,List.replicate c.N.toNat ⟨false,0⟩⟩:=
 ⟨bHn h1 h2 h3,bQ6 om om,by simp;omega,fun e he=>by cases he⟩
def aQ4(c:bZ):Prop:=1≤c.N∧c.N≤1024∧1≤c.L∧c.L≤16∧1≤c.R∧c.R≤8
theorem lr{c:bZ}(h:aQ4 c): ∃n:Nat,c.L*c.R=(n:Int)∧n≤128:=by
 obtain ⟨_,_,h1,h2,h3,h4⟩:=h;have a:0≤c.L*c.R:=Int.mul_nonneg om om;have b:c.L*c.R≤16*8:=Int.mul_le_mul h2 h4 om om;exact ⟨(c.L*c.R).toNat,by omega,by omega⟩
def zst:aF:=⟨⟨⟨0,0,0⟩,[],[]⟩,[]⟩
theorem bB2{c:bZ}{l:List Int}(hl:l.length<10000000)(hw:W64 l)(at_:Int):
 (¬aQ4 c→sP c ⟨l,at_⟩=some (zst,⟨l,at_⟩,1))∧
 (aQ4 c→(¬(0≤at_∧at_≤l.length)→sP c ⟨l,at_⟩=some (zst,⟨l,at_⟩,1)∧aLs ⟨l,at_⟩ (c.L*c.R)=some ([],⟨l,at_⟩,1))∧
  ∀i:Nat,at_=(i:Int)→i≤l.length→(hs l (c.L*c.R).toNat i=none→sP c ⟨l,at_⟩=some (zst,⟨l,at_⟩,5))∧
   ∀r q,hs l (c.L*c.R).toNat i=some (r,q)→sP c ⟨l,at_⟩=some (⟨⟨c,r,[]⟩,List.replicate c.N.toNat ⟨false,0⟩⟩,⟨l,(q:Int)⟩,0)):=by
 unfold sP;refine ⟨fun h=>?_,fun h=>?_⟩
 · rw [bt (by unfold aQ4 at h;simp;omega)];rfl
 ·
  obtain ⟨n,hn,hn2⟩:=lr h;have hb:(((((decide (c.N<1)||decide (1024<c.N))||decide (c.L<1))||decide (16<c.L))||decide (c.R<1))||decide (8<c.R))=false:=by unfold aQ4 at h;simp;omega
  rw [bf hb,hn,wr0 om om];refine ⟨fun ha=>?_,fun i hi hil=>?_⟩
  ·
   constructor
   · unfold xU wC;rw [aA,bt (by simp;omega)];simp only [aA];rw [bt (by rfl)];rfl
   · unfold aLs aIp;rw [aA,bt (by simp;omega)]
  ·
   subst hi;rw [aUq hl hw hn2 hil,aA,Int.toNat_natCast];refine ⟨fun e=>?_,fun r q e=>?_⟩
   · rw [e];simp only [];rw [bt (by rfl)];rfl
   ·
    obtain ⟨c1,c2,c3,c4⟩:=aXv l n i e hil;have g:=bHn h (by rw [c1,hn]) c3;rw [e];simp only [];rw [bf (by rfl),bCm c om,g,if_pos rfl,aA];simp only [];unfold aJa uK;have h':=h;unfold aQ4 at h';have hs':(decide (1≤c.N)&&decide (c.N≤1024))=true:=by simp;omega
    rw [bf (by rfl),hs',aA,bf (by rfl),aSb (k:=c.N.toNat) om (Int.le_refl _) om,aA,aA];simp only [];rw [bf (by rfl)]
theorem cEf{l:List Int}{P:Prop}(w:(∀y,y∈l→(Lit.int .u64 y).wf=true)∧P):W64 l:=fun x hx=>by
 have:=w.1 x hx;simp [Lit.wf,IntKind.min,IntKind.max,IntKind.signed,IntKind.bits] at this;omega
end Go.Proofs.YtkdohhmacfoolaaGreat
