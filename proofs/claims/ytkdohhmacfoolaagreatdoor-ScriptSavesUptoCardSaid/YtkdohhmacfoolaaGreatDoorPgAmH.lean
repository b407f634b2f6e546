/- Facts. No condition. -/
import Derived.Test.YtkdohhmacfoolaaGreatDoorPgScS
import GoSem.ClaimOpenFrom
set_option linter.unusedVariables false
set_option linter.unusedSimpArgs false
set_option maxRecDepth 20000
set_option maxHeartbeats 1000000
namespace Go.Proofs.YtkdohhmacfoolaaGreatDoor
open Go Go.AM Go.Pl Go.Pt Go.Ix
structure SI(E:Nat)(s:aG):Prop where
  on:s.On=true→Rc E s.State
  off:s.On=false→s.State=zst
  w:W64 s.Words.List
  l:s.Words.List.length≤60
theorem Rc.up{E E':Nat}{s:aC}(h:Rc E s)(hE:E≤E'):Rc E' s:=⟨h.ok,h.nb,by have:=h.e;omega⟩
theorem SI.up{E E':Nat}{s:aG}(h:SI E s)(hE:E≤E'):SI E' s:=⟨fun o=>(h.on o).up hE,h.off,h.w,h.l⟩
theorem aKl(s:aG){f:Int}(h:0<f∧f≤100):Tot (aJw s f) fun x=>x.1=s∧Ne x.2:=by
 unfold aJw;exact tB (bC3 h) fun r hr=>tS ⟨rfl,hr⟩
theorem bVp:Ne tOK:=aSq (by decide)
def Bg(s:aG)(x:aG×ByteArray):Prop:=(x.1=s∧Ne x.2)∨(x.2=tOK∧x.1.On=true∧Rc 0 x.1.State∧x.1.Words.List=s.Words.List)
theorem bYw{E:Nat}{s:aG}(h:SI E s)(t:aG)(c:aX):Tot (oZ s t c) (Bg s):=by
 have er: ∀f:Int,0<f∧f≤100→Tot (aJw s f) (Bg s):=fun f hf=>(aKl s hf).imp fun x hx=> .inl hx;obtain ⟨st,⟨l,a⟩,on⟩:=s;have hw:=h.w;have hl:=h.l;simp only at hw hl;obtain ⟨n1,n2⟩:=bAh (c:=c) (l:=l) om hw a
 have E1: ∀(e:Int) (z:aC) (w:bC),e≠0→qO c ⟨l,a⟩=some (z,w,e)→oZ ⟨st,⟨l,a⟩,on⟩ t c=aJw ⟨st,⟨l,a⟩,on⟩ e:=fun e z w h0 he=>by
  unfold oZ;simp only [];rw [he,aA];simp only [];rw [bt (by simpa using h0)];rfl
 by_cases hc:aPd c
 ·
  obtain ⟨n3,n4⟩:=n2 hc
  by_cases ha:0≤a∧a≤l.length
  ·
   obtain ⟨i,rfl⟩: ∃i:Nat,a=(i:Int):=⟨a.toNat,by omega⟩
   obtain ⟨n5,n6⟩:=n4 i rfl om
   cases eh:hs l (c.L*c.R).toNat i with
   |none=>
    rw [E1 5 _ _ (by decide) (n5 eh)];exact er 5 (by decide)
   |some p=>
    obtain ⟨r,q⟩:=p;have I:=n6 r q eh;obtain ⟨c1,c2,c3,c4⟩:=aXe l _ i eh om;obtain ⟨k,hk,hk2⟩:=lr hc;have R:=bUm (c:=c) hc (r:=r) (by rw [c1,hk];simp) c3 c4 (by rw [c1,hk];simpa using hk2);have nb:=bP5 R (by show 0<10000;omega) (fun x hx=>by cases hx);unfold oZ;simp only [];rw [I,aA];simp only [];rw [bf (by rfl),aTi,aA];exact tS (.inr ⟨rfl,rfl,⟨R.ok,nb,Nat.le_refl _⟩,rfl⟩)
  · rw [E1 1 _ _ (by decide) (n3 ha).1];exact er 1 (by decide)
 · rw [E1 1 _ _ (by decide) (n1 hc)];exact er 1 (by decide)
theorem bMf{E:Nat}{s:aG}(h:SI E s)(t:aG)(d:Int){a:List Int}(ha:a.length=3): ∀(m i:Nat),3<i+m→i≤3→Tot (tH m d a s t a (a.length:Int) (i:Int)) (Bg s)
 |0,i,h1,h2=>by omega
 |m+1,i,h1,h2=>by
  show Tot (aDw (tH m) _ _ _ _ _ _ _) _;have er: ∀f:Int,0<f∧f≤100→Tot (aJw s f) (Bg s):=fun f hf=>(aKl s hf).imp fun x hx=> .inl hx;unfold aDw
  by_cases q:i<a.length
  · rw [bt (oJ q),wr1 i om];exact tI (aFf q) fun x=>tC (fun _=>er 6 (by decide)) fun _=>bMf h t d ha m (i+1) om om
  ·
   rw [bf (oI q)];refine tI om fun x=>tI om fun y=>tI om fun z=>tC (fun _=>tB (bPm _ _ _) fun p hp=>tC (fun c=>?_) fun _=>bYw h t _) fun _=>bYw h t _;have c:p.2≠0:=by simpa using c
   exact er p.2 om
theorem bRk{E:Nat}{s:aG}(h:SI E s)(d:Int){a:List Int}(ha:a.length=3):Tot (rS s d a) (Bg s):=by
 have hFU:=FU';exact bMf h _ d ha aY 0 om om
theorem bN9{s:aG}(h:s.On=false)(c:dG):fS s c=aJw s 3:=by
 unfold fS;rw [h,bt (by rfl)];rfl
theorem aR8{s:aG}(h:s.On=true){c:dG}{s':aC}{g:GA}{r:ByteArray}(h1:kY s.State c=some (s',g))(h2:bY g=some r):fS s c=some (⟨s',s.Words,true⟩,r):=by
 unfold fS;rw [h,bf (by rfl),h1,aA];simp only [];rw [h2,aA]
theorem bGg{s:aG}(h:s.On=true):(⟨s.State,s.Words,true⟩:aG)=s:=by
 cases s with|mk a b c=>simp only at h;subst h;rfl
structure Lt(E:Nat)(s s':aG)(r:ByteArray):Prop where
  si:SI (max (E+1) 800) s'
  ne:Ne r
  same:s'=s∨r=tOK
  on:s.On=true→s'.On=true
theorem bNa{E:Nat}(hE:E<2000){s:aG}(h:SI E s){c:dG}(hA:U64 c.A)(hT:c.Text.size≤1000)(hd:1≤c.Do∧c.Do≤15):
 ∃s' r,fS s c=some (s',r)∧Lt E s s' r∧(5≤c.Do→c.Do≤14→s'=s):=by
 cases o:s.On with
 |false=>
  obtain ⟨⟨s',r⟩,e,h1,h2⟩:=aKl s (f:=3) (by decide);simp only at h1 h2;subst h1;exact ⟨s',r,(bN9 o c).trans e,⟨h.up om,h2,.inl rfl,fun k=>k⟩,fun _ _=>rfl⟩
 |true=>
  obtain ⟨s',g,e,R,D⟩:=(h.on o).does om hA om;have si:SI (max (E+1) 800) ⟨s',s.Words,true⟩:=⟨fun _=>R,fun k=>(by cases k),h.w,h.l⟩
  have stay: ∀g',s'=s.State→Tot (bY g') (fun r=>Ne r)→g'=g→ ∃s' r,fS s c=some (s',r)∧Lt E s s' r∧(5≤c.Do→c.Do≤14→s'=s):=fun g' h1 h2 h3=>by
   obtain ⟨r,e2,hr⟩:=h2;subst h1;subst h3;exact ⟨_,r,aR8 o e e2,⟨si,hr,.inl (bGg o),fun _=>rfl⟩,fun _ _=>bGg o⟩
  cases D with
  |no q=>omega
  |err f hf=>exact stay _ rfl (bC3 hf) rfl
  |ok _ hk=>exact ⟨_,tOK,aR8 o e aTi,⟨si,bVp,.inr rfl,fun _=>rfl⟩,fun h5 h14=>by omega⟩
  |ans g hk ha=>exact stay _ rfl (bQg ha) rfl
theorem aSj{E:Nat}(hE:E<2000){s:aG}(h:SI E s){l:List ByteArray}(L:Ln l):
 ∃s' r,bP s l=some (s',r)∧Lt E s s' r∧ ∀x t v,l=x::t→tF x=some v→v>5→x≠wR→s'=s:=by
 cases L with
 |err f hf e=>
  obtain ⟨⟨s',r⟩,e2,h1,h2⟩:=aKl s hf;simp only at h1 h2;subst h1;exact ⟨s',r,(e s').trans e2,⟨h.up om,h2,.inl rfl,fun k=>k⟩,fun _ _ _ _ _ _ _=>rfl⟩
 |beg x t d args hl hx ha e=>
  obtain ⟨⟨s',r⟩,e2,h1⟩:=bRk h d ha
  have nv: ∀x' t' v,l=x'::t'→tF x'=some v→v>5→x'≠wR→s'=s:=fun x' t' v hl' hv h5 _=>by
   subst hl;injection hl' with h1 h2
   subst h1;have z0:tF wN=some 0:=by kernel_rfl
   have z1:tF wP=some 1:=by kernel_rfl
   rcases hx with rfl|rfl
   · rw [z0] at hv;injection hv;omega
   · rw [z1] at hv;injection hv;omega
  refine ⟨s',r,(e s).trans e2,?_,nv⟩;rcases h1 with ⟨h1,h2⟩|⟨h1,h2,h3,h4⟩
  · simp only at h1 h2;subst h1;exact ⟨h.up om,h2,.inl rfl,fun k=>k⟩
  · simp only at h1 h2 h3 h4;subst h1;exact ⟨⟨fun _=>h3.up om,fun k=>(by rw [h2] at k;cases k),by rw [h4];exact h.w,by rw [h4];exact h.l⟩,bVp,.inr rfl,fun _=>h2⟩
 |cmd x t k v c hl W hv hd hA hT e=>
  obtain ⟨s',r,e2,lt,ask⟩:=bNa hE h hA hT hd;refine ⟨s',r,(e s).trans e2,lt,fun x' t' v' hl' hv' h5 hR=>?_⟩;subst hl;injection hl' with h1 h2
  subst h1;rw [hv] at hv';injection hv' with hv'
  subst hv'
  have: ∀d,Wd x d k v→5≤d∧d≤14:=fun d W=>by
   cases W with
   |ask _ _ _ h6 _ _ _ _ _=>exact h6
   |res _ h6=>exact absurd h6 hR
   |beg _ _ _ _ _=>omega
   |chg _ _ _ _ _ _ _ _=>omega
   |no _ _=>omega
  exact ask (this _ W).1 (this _ W).2
theorem alike{s s' t:aG}{l:List ByteArray}{r:ByteArray}(L:Ln l)(hN: ∀x u,l=x::u→x≠wN∧x≠wP)(ho:s.On=true)(ht:t.On=true)(hs:t.State=s.State)(e:bP s l=some (s',r)):
 bP t l=some (⟨s'.State,t.Words,true⟩,r):=by
 cases L with
 |err f hf el=>
  rw [el] at e⊢;unfold aJw at e⊢
  cases er:bY (GA.i 36 .i64 f) with
  |none=>rw [er] at e;cases e
  |some z=>
   rw [er,aA] at e;rw [aA];injection e with e
   injection e with e1 e2
   subst e1;subst e2;rw [←hs,bGg ht]
 |beg x u d args hl hx ha el=>
  obtain ⟨h1,h2⟩:=hN x u hl;rcases hx with hx|hx
  · exact absurd hx h1
  · exact absurd hx h2
 |cmd x u k v c hl W hv hd hA hT el=>
  rw [el] at e⊢;unfold fS at e⊢;rw [ho,bf (by rfl)] at e;rw [ht,bf (by rfl),hs]
  cases e1:kY s.State c with
  |none=>rw [e1] at e;cases e
  |some p=>
   obtain ⟨p1,p2⟩:=p;rw [e1,aA] at e;rw [aA];simp only [] at e⊢
   cases e2:bY p2 with
   |none=>rw [e2] at e;cases e
   |some z=>
    rw [e2,aA] at e;rw [aA];injection e with e
    injection e with e3 e4
    subst e3;subst e4;rfl
def OKl(y:List ByteArray):Prop:=y.length≤6∧ ∀z,z∈y→z.size≤1000
theorem OKl.ln{y:List ByteArray}(h:OKl y):Ln y:=bXk h.1 h.2
theorem bNk{M:Nat}{n:Int}{ls:List (List ByteArray)}{k:Nat}{y:List ByteArray}(hy:y.length≤6){P:Int→Prop}(hm:P (-1))(ih:OKl y→Tot (mI M n ls (ls.length:Int) (IntKind.i64.wrap ((k:Int)+1))) P):
 ∀(m i:Nat),y.length<i+m→i≤y.length→(∀z,z∈y.take i→z.size≤1000)→Tot (aBe (mI M) m n y ls (ls.length:Int) (k:Int) y (y.length:Int) (i:Int)) P
 |0,i,h,h',_=>by omega
 |m+1,i,h,h',hz=>by
  show Tot (aIw (mI M) (aBe (mI M) m) _ _ _ _ _ _ _ _) _;unfold aIw
  by_cases q:i<y.length
  ·
   rw [bt (oJ q),cN q,aA,wr1 i om];refine tG (fun _=>tI' ⟨by omega,by omega⟩) fun x=>tC (fun _=>tS hm) fun c=>?_
   have c1: ¬1000<y[i].size:=fun h=>by
    have:decide (1000<(y[i].size:Int))=true:=by simp;omega
    rw [this] at c;cases c
   refine bNk hy hm ih m (i+1) om q fun z hz'=>?_;rw [vC q] at hz';rcases List.mem_append.1 hz' with hz'|hz'
   · exact hz z hz'
   · rw [List.mem_singleton.1 hz'];omega
  · rw [bf (oI q)];exact ih ⟨hy,fun z hz'=>hz z (by rw [List.take_of_length_le om];exact hz')⟩
theorem bNj{n:Int}{ls:List (List ByteArray)}(hl:ls.length≤1000): ∀(m k:Nat),ls.length<k+m→k≤ls.length→(∀y,y∈ls.take k→OKl y)→Tot (mI m n ls (ls.length:Int) (k:Int)) fun r=>r= -1∨(r=n∧ ∀y,y∈ls→OKl y)
 |0,k,h,h',_=>by omega
 |m+1,k,h,h',hz=>by
  have hFU:=FU';show Tot (aIv (mI m) _ _ _ _) _;unfold aIv
  by_cases q:k<ls.length
  ·
   rw [bt (oJ q),cN q,aA];refine tC (fun _=>tS (.inl rfl)) fun c=>?_
   have c:ls[k].length≤6:=by
    rw [decide_eq_false_iff_not] at c;omega
   refine bNk (P:=fun r=>r= -1∨(r=n∧ ∀y,y∈ls→OKl y)) c (.inl rfl) (fun ok=>?_) aY 0 om (Nat.zero_le _) fun z hz'=>by cases hz'
   rw [wr1 k om];refine bNj hl m (k+1) om q fun y hy=>?_;rw [vC q] at hy;rcases List.mem_append.1 hy with hy|hy
   · exact hz y hy
   · rw [List.mem_singleton.1 hy];exact ok
  · rw [bf (oI q)];exact tS (.inr ⟨rfl,fun y hy=>hz y (by rw [List.take_of_length_le om];exact hy)⟩)
theorem bG5(l:List (List ByteArray)){most:Nat}(hm:most≤1000): ∃r,sV l (most:Int)=some r∧(r= -1∨ ∃n:Nat,r=(n:Int)∧n≤most∧n≤l.length∧ ∀y,y∈l.take n→OKl y):=by
 have hFU:=FU';unfold sV
 have e: ∃n:Nat,n≤most∧n≤l.length∧(if (most:Int)<(l.length:Int) then (most:Int) else (l.length:Int))=(n:Int):=by
  split
  · exact ⟨most,Nat.le_refl _,by omega,rfl⟩
  · exact ⟨l.length,by omega,Nat.le_refl _,rfl⟩
 obtain ⟨n,h1,h2,e⟩:=e;rw [e,aCb rfl h2,aA];have hl:(l.take n).length=n:=by rw [List.length_take];omega
 obtain ⟨r,er,hr⟩:=bNj (n:=(n:Int)) (ls:=l.take n) om aY 0 om (Nat.zero_le _) fun y hy=>by cases hy
 refine ⟨r,er,hr.imp id fun h=>⟨n,h.1,h1,h2,h.2⟩⟩
def s0(words:List Int):aG:=⟨⟨⟨⟨0,0,0⟩,[],[]⟩,[]⟩,⟨words,0⟩,false⟩
theorem SI0{words:List Int}(hw:W64 words)(hl:words.length≤60):SI 800 (s0 words):=⟨fun h=>(by cases h),fun _=>rfl,hw,hl⟩
open Go Go.AM Go.Pl Go.Pt Go.Ix
def wSv:List ByteArray:=[⟨#[115,97,118,101]⟩]
def wN1:List ByteArray:=[⟨#[110,101,119]⟩,⟨#[49]⟩,⟨#[49]⟩,⟨#[49]⟩]
def e3:ByteArray:=⟨#[101,114,114,111,114,32,51]⟩
theorem bPz(st:aC)(w:bC):bP ⟨st,w,false⟩ wSv=some (⟨st,w,false⟩,e3):=by kernel_rfl
theorem bL8(s:aG):bP s wSv=fS s ⟨14,0,0,⟨#[]⟩⟩:=by
 have h:bP s wSv=(fS s ⟨14,0,0,⟨#[]⟩⟩).bind fun x=>some (x.1,x.2):=by kernel_rfl
 rw [h];exact bWt _
theorem aVc{E:Nat}{s:aC}(h:Rc E s):BB (bytesOf s)∧(bytesOf s).length≤100000:=by
 have e1:=aK3 (s:=s);have e2:=h.nb.nh;have e3:=h.nb.ns;have e4:=h.nb.ne;exact ⟨(aWs s).app (mL _ _),by omega⟩
theorem bUo{E:Nat}{s:aG}(o:s.On=true)(h:Rc E s.State):bP s wSv=some (s,fU ((bytesOf s.State).flatMap hx2)):=by
 have hb:=aVc h;rw [bL8,aR8 o (h.saved 0 0 _) (bFi hb.1 hb.2),bGg o]
theorem bF5{E E':Nat}{t:aG}{u:aC}(o:t.On=true)(h:Rc E t.State)(k:Rc E' u):bP t [wR,fU ((bytesOf u).flatMap hx2)]=some (⟨u,t.Words,true⟩,tOK):=by
 have hb:=aVc k;have hc:lT wR=some (15,1):=by kernel_rfl
 have i1:idx [wR,fU ((bytesOf u).flatMap hx2)] 1=some (fU ((bytesOf u).flatMap hx2)):=cN (l:=[wR,fU ((bytesOf u).flatMap hx2)]) (k:=1) (by simp);rw [bGd hc (by simp),bf (by rfl),bt (by rfl),i1,aA,bQo _ hb.1 hb.2,aA];simp only [];rw [bf (by rfl)];exact aR8 o (h.back k 0 0) aTi
theorem bUg:(bP (s0 [1,2]) wN1).map (fun x=>(x.2,x.1.On))=some (tOK,true):=by kernel_rfl
theorem bXv:OKl wN1:=by
 refine ⟨by decide,fun z hz=>?_⟩;simp only [wN1,List.mem_cons,List.not_mem_nil,or_false] at hz;rcases hz with rfl|rfl|rfl|rfl<;>decide
theorem bXr: ∃t,bP (s0 [1,2]) wN1=some (t,tOK)∧t.On=true∧SI 801 t:=by
 have h:=bUg;obtain ⟨s',r,e,lt,_⟩:=aSj om (SI0 (words:=[1,2]) (fun x hx=>by simp at hx;rcases hx with rfl|rfl<;>omega) (by decide)) bXv.ln;rw [e] at h;injection h with h
 injection h with h1 h2
 simp only at h1 h2;subst h1;exact ⟨s',e,h2,lt.si⟩
theorem aT1{ls:List (List ByteArray)}(hl:ls.length≤10)(ok: ∀y,y∈ls→OKl y): ∀(m i:Nat) (s t:aG),ls.length<i+m→i≤ls.length→SI (900+i) s→s.On=true→t.On=true→t.State=s.State→lN m s t ls (ls.length:Int) (i:Int)=some true
 |0,i,s,t,h,h',_,_,_,_=>by omega
 |m+1,i,s,t,h,h',hs,so,to,st=>by
  show aD8 (lN m) _ _ _ _ _=_;unfold aD8
  by_cases q:i<ls.length
  ·
   have L:=(ok _ (List.getElem_mem q)).ln;obtain ⟨s',r,e,lt,_⟩:=aSj om hs L
   have skip:mT (lN m) s t ls (ls.length:Int) (i:Int)=some true:=by
    unfold mT;rw [wr1 i om];exact aT1 hl ok m (i+1) s t om q (hs.up om) so to st
   have next:mT (lN m) s' ⟨s'.State,t.Words,true⟩ ls (ls.length:Int) (i:Int)=some true:=by
    unfold mT;rw [wr1 i om];exact aT1 hl ok m (i+1) s' _ om q (lt.si.up om) (lt.on so) rfl rfl
   rw [bt (oJ q),cN q,aA];generalize ls[i]=y at e L
   cases y with
   |nil=>
    have a:=alike L (fun x u h=>by cases h) so to st e;rw [gf' (by rfl),aA,gf' (by rfl),aA,bf (by rfl),e,aA];simp only [];rw [a,aA];simp only [decide_true];rw [bf (by rfl)];exact next
   |cons x u=>
    have i0:idx (x::u) 0=some x:=cN (l:=x::u) (k:=0) (by simp);have hp:decide (0<((x::u).length:Int))=true:=by simp
    rw [hp,gt' (by rfl),i0,aA]
    by_cases c1:x=⟨#[110,101,119]⟩
    · rw [decide_eq_true c1,gf' (by rfl),aA,bt (by rfl)];exact skip
    ·
     rw [decide_eq_false c1,gt' (by rfl),aA]
     by_cases c2:x=⟨#[112,108,97,110]⟩
     · rw [decide_eq_true c2,bt (by rfl)];exact skip
     · have a:=alike L (fun x' u' h=>by injection h with h1 h2;subst h1;exact ⟨c1,c2⟩) so to st e;rw [decide_eq_false c2,bf (by rfl),e,aA];simp only [];rw [a,aA];simp only [decide_true];rw [bf (by rfl)];exact next
  · rw [bf (oI q),aFg,aA]
theorem bBp{b:List (List ByteArray)}{k:Nat}(hk:k≤10)(hk2:k≤b.length)(okb: ∀y,y∈b.take k→OKl y){ls:List (List ByteArray)}(hl:ls.length≤15)(ok: ∀y,y∈ls→OKl y): ∀(m i:Nat) (s:aG),ls.length<i+m→i≤ls.length→SI (800+i) s→sO m b (k:Int) s ls (ls.length:Int) (i:Int)=some true
 |0,i,s,h,h',_=>by omega
 |m+1,i,s,h,h',hs=>by
  have hFU:=FU';show aD7 (sO m) _ _ _ _ _ _=_;unfold aD7
  by_cases q:i<ls.length
  · obtain ⟨s',r,e,lt,_⟩:=aSj om hs (ok _ (List.getElem_mem q)).ln;rw [bt (oJ q),cN q,aA,e,aA,wr1 i om];exact bBp hk hk2 okb hl ok m (i+1) s' om q (lt.si.up om)
  ·
   rw [bf (oI q)]
   cases o:s.On with
   |false=>
    have sv:bP s [⟨#[115,97,118,101]⟩]=some (s,e3):=by
     cases s with|mk a w c=>simp only at o;subst o;exact bPz a w
    rw [sv,aA];simp only [];rw [bt (by rfl),gt' (by rfl),aFg,aA];rfl
   |true=>
    have R:=hs.on o;obtain ⟨t,en,to,ht⟩:=bXr;have sv:bP s [⟨#[115,97,118,101]⟩]=_:=bUo o R;have en:bP (aG.mk (aC.mk (aJ.mk (aX.mk 0 0 0) [] []) []) (bC.mk [1,2] 0) false) [⟨#[110,101,119]⟩,⟨#[49]⟩,⟨#[49]⟩,⟨#[49]⟩]=some (t,tOK):=en;have er:bP t [⟨#[114,101,115,116,111,114,101]⟩,fU ((bytesOf s.State).flatMap hx2)]=_:=bF5 to (ht.on to) R;have k1:(!decide (tOK=⟨#[111,107]⟩))=false:=by decide
    rw [sv,aA];simp only [];rw [bf (by rfl),en,aA];simp only [];rw [bf k1,er,aA];simp only [];rw [bf k1,aCb rfl hk2,aA];have hb:(b.take k).length=k:=by rw [List.length_take];omega
    exact aT1 om okb aY 0 s _ om (Nat.zero_le _) (hs.up om) o rfl rfl
theorem bQ0(a b:List (List ByteArray)){words:List Int}(hw:W64 words):vJ a b words=some true:=by
 have hFU:=FU';obtain ⟨r,er,hr⟩:=bG5 a (most:=15) om;have er:sV a 15=some r:=er;obtain ⟨r',er',hr'⟩:=bG5 b (most:=10) om;have er':sV b 10=some r':=er';unfold vJ;rw [er,aA,er',aA]
 by_cases c:r<0∨r'<0∨60<words.length
 · rw [bt (by simp;omega),aFg,aA]
 ·
  rcases hr with hr|⟨n,rfl,h1,h2,h3⟩
  · omega
  ·
   rcases hr' with hr'|⟨k,rfl,k1,k2,k3⟩
   · omega
   ·
    have hl:(a.take n).length=n:=by rw [List.length_take];omega
    rw [bf (by simp;omega),aCb rfl h2,aA];exact bBp k1 k2 k3 om h3 aY 0 _ om (Nat.zero_le _) (SI0 hw om)
theorem aTv(a b:List (List ByteArray))(words:List Int){A A' P B B' C:Prop}(_:A)(_:A')(w:(∀y,y∈words→(Lit.int .u64 y).wf=true)∧P)(_:B)(_:B')(_:C):vJ a b words=some true:=bQ0 a b (cM2 w)
end Go.Proofs.YtkdohhmacfoolaaGreatDoor
namespace Go.AM
open Go
theorem aZ3: ∀(w r:List Char),Char.ofNat 32∉w→wordsSigns (w++Char.ofNat 32::r)=w::wordsSigns r
 |[],r,_=>by show wordsSigns (Char.ofNat 32::r)=_;rw [wordsSigns.eq_2]
 |c::w,r,h=>by
  have hc: ¬c=Char.ofNat 32:=fun e=>h (by simp [e]);have ih:=aZ3 w r (fun m=>h (List.mem_cons_of_mem _ m));show wordsSigns (c::(w++Char.ofNat 32::r))=_;rw [wordsSigns.eq_3 _ _ (fun e=>hc e),ih]
def aDg:List Char:= "cut".toList
theorem aW9(R:List (List Char)):stripLifts liftWords (aDg::R)=([],aDg::R):=by kernel_rfl
theorem bWi{s d:List Char}(h:Char.ofNat 32∉s)(hs:isSumSigns s=true):
 behindMainWord (wordsSigns ("harness".toList++Char.ofNat 32::(s++Char.ofNat 32::(aDg++Char.ofNat 32::d))))=aDg::wordsSigns d:=by
 rw [aZ3 _ _ (by decide+kernel),aZ3 _ _ h,aZ3 _ _ (by decide+kernel)];generalize wordsSigns d=R;have e:(("harness".toList== "harness".toList|| "harness".toList== "ownmain".toList)&&isSumSigns s)=true:=by rw [hs];decide+kernel
 exact if_pos e
variable {P:Program}{R:List (List Char)}(h:behindMainWord (wordsSigns P.initOrder.toList)=aDg::R)
include h
theorem aXc:P.headLifts=[]:=by
 unfold Program.headLifts;rw [h,aW9]
 kernel_rfl
theorem aUj:P.liftsFinal=false:=by
 unfold Program.liftsFinal;rw [h,aXc h]
 kernel_rfl
theorem bU8:P.make=some .cut:=by
 unfold Program.make;rw [h]
 kernel_rfl
theorem bAs(h1:P.laysLater=false)(h2:P.bearsReflect=false)(h3:P.doorFits []=true):P.mayEnter=true:=by
 unfold Program.mayEnter;rw [h];simp only [aW9,h1,h2,h3]
 kernel_rfl
end Go.AM
