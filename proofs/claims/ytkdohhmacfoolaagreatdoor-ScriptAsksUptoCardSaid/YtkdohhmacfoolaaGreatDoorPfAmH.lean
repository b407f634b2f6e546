/- Facts. No condition. -/
import Derived.Test.YtkdohhmacfoolaaGreatDoorPfScS
import GoSem.ClaimOpenFrom
set_option linter.unusedVariables false
set_option linter.unusedSimpArgs false
set_option maxRecDepth 20000
set_option maxHeartbeats 1000000
namespace Go.Proofs.YtkdohhmacfoolaaGreatDoor
open Go Go.AM Go.Pl Go.Pt Go.Ix
structure SI(E:Nat)(s:aM):Prop where
  on:s.On=true→Rc E s.State
  off:s.On=false→s.State=zst
  w:W64 s.Words.List
  l:s.Words.List.length≤60
theorem Rc.up{E E':Nat}{s:aD}(h:Rc E s)(hE:E≤E'):Rc E' s:=⟨h.ok,h.nb,by have:=h.e;omega⟩
theorem SI.up{E E':Nat}{s:aM}(h:SI E s)(hE:E≤E'):SI E' s:=⟨fun o=>(h.on o).up hE,h.off,h.w,h.l⟩
theorem aKw(s:aM){f:Int}(h:0<f∧f≤100):Tot (aLg s f) fun x=>x.1=s∧Ne x.2:=by
 unfold aLg;exact tB (bCr h) fun r hr=>tS ⟨rfl,hr⟩
theorem bWk:Ne tOK:=aT3 (by decide)
def Bg(s:aM)(x:aM×ByteArray):Prop:=(x.1=s∧Ne x.2)∨(x.2=tOK∧x.1.On=true∧Rc 0 x.1.State∧x.1.Words.List=s.Words.List)
theorem bZm{E:Nat}{s:aM}(h:SI E s)(t:aM)(c:bC):Tot (pO s t c) (Bg s):=by
 have er: ∀f:Int,0<f∧f≤100→Tot (aLg s f) (Bg s):=fun f hf=>(aKw s hf).imp fun x hx=> .inl hx;obtain ⟨st,⟨l,a⟩,on⟩:=s;have hw:=h.w;have hl:=h.l;simp only at hw hl;obtain ⟨n1,n2⟩:=bAx (c:=c) (l:=l) om hw a
 have E1: ∀(e:Int) (z:aD) (w:bI),e≠0→qP c ⟨l,a⟩=some (z,w,e)→pO ⟨st,⟨l,a⟩,on⟩ t c=aLg ⟨st,⟨l,a⟩,on⟩ e:=fun e z w h0 he=>by
  unfold pO;simp only [];rw [he,aA];simp only [];rw [bt (by simpa using h0)];rfl
 by_cases hc:aPo c
 ·
  obtain ⟨n3,n4⟩:=n2 hc
  by_cases ha:0≤a∧a≤l.length
  ·
   obtain ⟨i,rfl⟩: ∃i:Nat,a=(i:Int):=⟨a.toNat,by omega⟩
   obtain ⟨n5,n6⟩:=n4 i rfl om
   cases eh:hs l (c.L*c.R).toNat i with
   |none=>
    rw [E1 5 _ _ (by decide) (n5 eh)];exact er 5 (by decide)
   |some p=>
    obtain ⟨r,q⟩:=p;have I:=n6 r q eh;obtain ⟨c1,c2,c3,c4⟩:=aXp l _ i eh om;obtain ⟨k,hk,hk2⟩:=lr hc;have R:=bVg (c:=c) hc (r:=r) (by rw [c1,hk];simp) c3 c4 (by rw [c1,hk];simpa using hk2);have nb:=bPx R (by show 0<10000;omega) (fun x hx=>by cases hx);unfold pO;simp only [];rw [I,aA];simp only [];rw [bf (by rfl),bCs,aA];exact tS (.inr ⟨rfl,rfl,⟨R.ok,nb,Nat.le_refl _⟩,rfl⟩)
  · rw [E1 1 _ _ (by decide) (n3 ha).1];exact er 1 (by decide)
 · rw [E1 1 _ _ (by decide) (n1 hc)];exact er 1 (by decide)
theorem bN5{E:Nat}{s:aM}(h:SI E s)(t:aM)(d:Int){a:List Int}(ha:a.length=3): ∀(m i:Nat),3<i+m→i≤3→Tot (tD m d a s t a (a.length:Int) (i:Int)) (Bg s)
 |0,i,h1,h2=>by omega
 |m+1,i,h1,h2=>by
  show Tot (aE0 (tD m) _ _ _ _ _ _ _) _;have er: ∀f:Int,0<f∧f≤100→Tot (aLg s f) (Bg s):=fun f hf=>(aKw s hf).imp fun x hx=> .inl hx;unfold aE0
  by_cases q:i<a.length
  · rw [bt (oM q),wr1 i om];exact tI (aFn q) fun x=>tC (fun _=>er 6 (by decide)) fun _=>bN5 h t d ha m (i+1) om om
  ·
   rw [bf (oL q)];refine tI om fun x=>tI om fun y=>tI om fun z=>tC (fun _=>tB (bQe _ _ _) fun p hp=>tC (fun c=>?_) fun _=>bZm h t _) fun _=>bZm h t _;have c:p.2≠0:=by simpa using c
   exact er p.2 om
theorem bSb{E:Nat}{s:aM}(h:SI E s)(d:Int){a:List Int}(ha:a.length=3):Tot (rU s d a) (Bg s):=by
 have hFU:=FU';exact bN5 h _ d ha aW 0 om om
theorem bNz{s:aM}(h:s.On=false)(c:dL):iP s c=aLg s 3:=by
 unfold iP;rw [h,bt (by rfl)];rfl
theorem bGq{s:aM}(h:s.On=true){c:dL}{s':aD}{g:GA}{r:ByteArray}(h1:mT s.State c=some (s',g))(h2:cU g=some r):iP s c=some (⟨s',s.Words,true⟩,r):=by
 unfold iP;rw [h,bf (by rfl),h1,aA];simp only [];rw [h2,aA]
theorem bWj{s:aM}(h:s.On=true):(⟨s.State,s.Words,true⟩:aM)=s:=by
 cases s with|mk a b c=>simp only at h;subst h;rfl
structure Lt(E:Nat)(s s':aM)(r:ByteArray):Prop where
  si:SI (max (E+1) 800) s'
  ne:Ne r
  same:s'=s∨r=tOK
  on:s.On=true→s'.On=true
theorem bO0{E:Nat}(hE:E<2000){s:aM}(h:SI E s){c:dL}(hA:U64 c.A)(hT:c.Text.size≤1000)(hd:1≤c.Do∧c.Do≤15):
 ∃s' r,iP s c=some (s',r)∧Lt E s s' r∧(5≤c.Do→c.Do≤14→s'=s):=by
 cases o:s.On with
 |false=>
  obtain ⟨⟨s',r⟩,e,h1,h2⟩:=aKw s (f:=3) (by decide);simp only at h1 h2;subst h1;exact ⟨s',r,(bNz o c).trans e,⟨h.up om,h2,.inl rfl,fun k=>k⟩,fun _ _=>rfl⟩
 |true=>
  obtain ⟨s',g,e,R,D⟩:=(h.on o).does om hA om;have si:SI (max (E+1) 800) ⟨s',s.Words,true⟩:=⟨fun _=>R,fun k=>(by cases k),h.w,h.l⟩
  have stay: ∀g',s'=s.State→Tot (cU g') (fun r=>Ne r)→g'=g→ ∃s' r,iP s c=some (s',r)∧Lt E s s' r∧(5≤c.Do→c.Do≤14→s'=s):=fun g' h1 h2 h3=>by
   obtain ⟨r,e2,hr⟩:=h2;subst h1;subst h3;exact ⟨_,r,bGq o e e2,⟨si,hr,.inl (bWj o),fun _=>rfl⟩,fun _ _=>bWj o⟩
  cases D with
  |no q=>omega
  |err f hf=>exact stay _ rfl (bCr hf) rfl
  |ok _ hk=>exact ⟨_,tOK,bGq o e bCs,⟨si,bWk,.inr rfl,fun _=>rfl⟩,fun h5 h14=>by omega⟩
  |ans g hk ha=>exact stay _ rfl (bR7 ha) rfl
theorem bPj{E:Nat}(hE:E<2000){s:aM}(h:SI E s){l:List ByteArray}(L:Ln l):
 ∃s' r,eJ s l=some (s',r)∧Lt E s s' r∧ ∀x t v,l=x::t→mM x=some v→v>5→x≠wR→s'=s:=by
 cases L with
 |err f hf e=>
  obtain ⟨⟨s',r⟩,e2,h1,h2⟩:=aKw s hf;simp only at h1 h2;subst h1;exact ⟨s',r,(e s').trans e2,⟨h.up om,h2,.inl rfl,fun k=>k⟩,fun _ _ _ _ _ _ _=>rfl⟩
 |beg x t d args hl hx ha e=>
  obtain ⟨⟨s',r⟩,e2,h1⟩:=bSb h d ha
  have nv: ∀x' t' v,l=x'::t'→mM x'=some v→v>5→x'≠wR→s'=s:=fun x' t' v hl' hv h5 _=>by
   subst hl;injection hl' with h1 h2
   subst h1;have z0:mM wN=some 0:=by kernel_rfl
   have z1:mM wP=some 1:=by kernel_rfl
   rcases hx with rfl|rfl
   · rw [z0] at hv;injection hv;omega
   · rw [z1] at hv;injection hv;omega
  refine ⟨s',r,(e s).trans e2,?_,nv⟩;rcases h1 with ⟨h1,h2⟩|⟨h1,h2,h3,h4⟩
  · simp only at h1 h2;subst h1;exact ⟨h.up om,h2,.inl rfl,fun k=>k⟩
  · simp only at h1 h2 h3 h4;subst h1;exact ⟨⟨fun _=>h3.up om,fun k=>(by rw [h2] at k;cases k),by rw [h4];exact h.w,by rw [h4];exact h.l⟩,bWk,.inr rfl,fun _=>h2⟩
 |cmd x t k v c hl W hv hd hA hT e=>
  obtain ⟨s',r,e2,lt,ask⟩:=bO0 hE h hA hT hd;refine ⟨s',r,(e s).trans e2,lt,fun x' t' v' hl' hv' h5 hR=>?_⟩;subst hl;injection hl' with h1 h2
  subst h1;rw [hv] at hv';injection hv' with hv'
  subst hv'
  have: ∀d,Wd x d k v→5≤d∧d≤14:=fun d W=>by
   cases W with
   |ask _ _ _ h6 _ _ _ _ _=>exact h6
   |res _ h6=>exact absurd h6 hR
   |beg _ _ _ _ _=>omega
   |chg _ _ _ _ _ _ _ _=>omega
   |no _ _=>omega
  exact ask (this _ W).1 (this _ W).2
theorem bLx{E:Nat}(hE:E<2000){s:aM}(h:SI E s):xW s s=some true:=by
 have sm:SM s.State:=by
  cases o:s.On with
  |true=>exact (h.on o).sm
  |false=>rw [h.off o];exact ⟨by decide,by decide,by decide⟩
 have h1:=sm.e;have h2:=sm.h;have h3:=sm.v;unfold xW aDq aF4;rw [aXy sm.v,aA,aA,aA,aYu _ _ (by show s.State.Graph.Edges.length<_;omega) (by show s.State.Graph.Hashes.length<_;omega),aA,aYs _ _ (by simp [rf];omega),aA,aA];simp
def OKl(y:List ByteArray):Prop:=y.length≤6∧ ∀z,z∈y→z.size≤1000
theorem OKl.ln{y:List ByteArray}(h:OKl y):Ln y:=bYc h.1 h.2
theorem bOb{M:Nat}{n:Int}{ls:List (List ByteArray)}{k:Nat}{y:List ByteArray}(hy:y.length≤6){P:Int→Prop}(hm:P (-1))(ih:OKl y→Tot (mI M n ls (ls.length:Int) (IntKind.i64.wrap ((k:Int)+1))) P):
 ∀(m i:Nat),y.length<i+m→i≤y.length→(∀z,z∈y.take i→z.size≤1000)→Tot (aBk (mI M) m n y ls (ls.length:Int) (k:Int) y (y.length:Int) (i:Int)) P
 |0,i,h,h',_=>by omega
 |m+1,i,h,h',hz=>by
  show Tot (aJ8 (mI M) (aBk (mI M) m) _ _ _ _ _ _ _ _) _;unfold aJ8
  by_cases q:i<y.length
  ·
   rw [bt (oM q),cC q,aA,wr1 i om];refine tG (fun _=>tI' ⟨by omega,by omega⟩) fun x=>tC (fun _=>tS hm) fun c=>?_
   have c1: ¬1000<y[i].size:=fun h=>by
    have:decide (1000<(y[i].size:Int))=true:=by simp;omega
    rw [this] at c;cases c
   refine bOb hy hm ih m (i+1) om q fun z hz'=>?_;rw [uW q] at hz';rcases List.mem_append.1 hz' with hz'|hz'
   · exact hz z hz'
   · rw [List.mem_singleton.1 hz'];omega
  · rw [bf (oL q)];exact ih ⟨hy,fun z hz'=>hz z (by rw [List.take_of_length_le om];exact hz')⟩
theorem bOa{n:Int}{ls:List (List ByteArray)}(hl:ls.length≤1000): ∀(m k:Nat),ls.length<k+m→k≤ls.length→(∀y,y∈ls.take k→OKl y)→Tot (mI m n ls (ls.length:Int) (k:Int)) fun r=>r= -1∨(r=n∧ ∀y,y∈ls→OKl y)
 |0,k,h,h',_=>by omega
 |m+1,k,h,h',hz=>by
  have hFU:=FU';show Tot (aJ7 (mI m) _ _ _ _) _;unfold aJ7
  by_cases q:k<ls.length
  ·
   rw [bt (oM q),cC q,aA];refine tC (fun _=>tS (.inl rfl)) fun c=>?_
   have c:ls[k].length≤6:=by
    rw [decide_eq_false_iff_not] at c;omega
   refine bOb (P:=fun r=>r= -1∨(r=n∧ ∀y,y∈ls→OKl y)) c (.inl rfl) (fun ok=>?_) aW 0 om (Nat.zero_le _) fun z hz'=>by cases hz'
   rw [wr1 k om];refine bOa hl m (k+1) om q fun y hy=>?_;rw [uW q] at hy;rcases List.mem_append.1 hy with hy|hy
   · exact hz y hy
   · rw [List.mem_singleton.1 hy];exact ok
  · rw [bf (oL q)];exact tS (.inr ⟨rfl,fun y hy=>hz y (by rw [List.take_of_length_le om];exact hy)⟩)
theorem bSs(l:List (List ByteArray)){most:Nat}(hm:most≤1000): ∃r,aAp l (most:Int)=some r∧(r= -1∨ ∃n:Nat,r=(n:Int)∧n≤most∧n≤l.length∧ ∀y,y∈l.take n→OKl y):=by
 have hFU:=FU';unfold aAp
 have e: ∃n:Nat,n≤most∧n≤l.length∧(if (most:Int)<(l.length:Int) then (most:Int) else (l.length:Int))=(n:Int):=by
  split
  · exact ⟨most,Nat.le_refl _,by omega,rfl⟩
  · exact ⟨l.length,by omega,Nat.le_refl _,rfl⟩
 obtain ⟨n,h1,h2,e⟩:=e;rw [e,aE8 rfl h2,aA];have hl:(l.take n).length=n:=by rw [List.length_take];omega
 obtain ⟨r,er,hr⟩:=bOa (n:=(n:Int)) (ls:=l.take n) om aW 0 om (Nat.zero_le _) fun y hy=>by cases hy
 refine ⟨r,er,hr.imp id fun h=>⟨n,h.1,h1,h2,h.2⟩⟩
def s0(words:List Int):aM:=⟨⟨⟨⟨0,0,0⟩,[],[]⟩,[]⟩,⟨words,0⟩,false⟩
theorem SI0{words:List Int}(hw:W64 words)(hl:words.length≤60):SI 800 (s0 words):=⟨fun h=>(by cases h),fun _=>rfl,hw,hl⟩
theorem bN4{ls:List (List ByteArray)}(hl:ls.length≤30)(ok: ∀y,y∈ls→OKl y): ∀(m i:Nat) (s:aM),ls.length<i+m→i≤ls.length→SI (800+i) s→rM m s ls (ls.length:Int) (i:Int)=some true
 |0,i,s,h,h',_=>by omega
 |m+1,i,s,h,h',hs=>by
  show aFh (rM m) _ _ _ _=_;unfold aFh
  by_cases q:i<ls.length
  ·
   obtain ⟨s',r,e,lt,ask⟩:=bPj om hs (ok _ (List.getElem_mem q)).ln
   have next: ∀s',SI (max (800+i+1) 800) s'→aB4 (rM m) s' ls (ls.length:Int) (i:Int)=some true:=fun s' h=>by
    unfold aB4;rw [wr1 i om];exact bN4 hl ok m (i+1) s' om q (h.up om)
   rw [bt (oM q),cC q,aA];generalize ls[i]=y at e ask
   cases y with
   |nil=>
    rw [gf' (by rfl),aA,gf' (by rfl),aA,gf' (by rfl),aA,bf (by rfl),e,aA];exact next s' lt.si
   |cons x t=>
    have i0:idx (x::t) 0=some x:=cC (l:=x::t) (k:=0) (by simp);have hp:decide (0<((x::t).length:Int))=true:=by simp
    obtain ⟨d,k,v,_,hv,_⟩:=bRg x;rw [hp,gt' (by rfl),i0,aA,gt' (by rfl),hv,aA,Bool.true_and]
    by_cases c:5<v
    ·
     rw [decide_eq_true c,gt' (by rfl),aA,Bool.true_and]
     by_cases cR:x=⟨#[114,101,115,116,111,114,101]⟩
     · rw [decide_eq_true cR,bf (by rfl),e,aA];exact next s' lt.si
     · have hs':s'=s:=ask x t v rfl hv c cR;subst hs';rw [decide_eq_false cR,bt (by rfl),e,aA];simp only [];rw [e,aA];simp only [];simp only [decide_true];rw [gt' (by rfl),bLx om hs,aA,gt' (by rfl),aA,bf (by rfl)];exact next s' lt.si
    · rw [decide_eq_false c,gf' (by rfl),aA,bf (by rfl),e,aA];exact next s' lt.si
  · rw [bf (oL q),aL4,aA]
theorem bS7(lines:List (List ByteArray)){words:List Int}(hw:W64 words):yL lines words=some true:=by
 have hFU:=FU';obtain ⟨r,er,hr⟩:=bSs lines (most:=30) om;have er:aAp lines 30=some r:=er;unfold yL;rw [er,aA]
 by_cases c:r<0∨60<words.length
 · rw [bt (by simp;omega),aL4,aA]
 ·
  rcases hr with hr|⟨n,rfl,h1,h2,h3⟩
  · omega
  ·
   have hl:(lines.take n).length=n:=by rw [List.length_take];omega
   rw [bf (by simp;omega),aE8 rfl h2,aA];exact bN4 om h3 aW 0 _ om (Nat.zero_le _) (SI0 hw om)
theorem aWq(lines:List (List ByteArray))(words:List Int){A P B C:Prop}(_:A)(w:(∀y,y∈words→(Lit.int .u64 y).wf=true)∧P)(_:B)(_:C):yL lines words=some true:=bS7 lines (cMz w)
end Go.Proofs.YtkdohhmacfoolaaGreatDoor
namespace Go.AM
open Go
theorem aZj: ∀(w r:List Char),Char.ofNat 32∉w→wordsSigns (w++Char.ofNat 32::r)=w::wordsSigns r
 |[],r,_=>by show wordsSigns (Char.ofNat 32::r)=_;rw [wordsSigns.eq_2]
 |c::w,r,h=>by
  have hc: ¬c=Char.ofNat 32:=fun e=>h (by simp [e]);have ih:=aZj w r (fun m=>h (List.mem_cons_of_mem _ m));show wordsSigns (c::(w++Char.ofNat 32::r))=_;rw [wordsSigns.eq_3 _ _ (fun e=>hc e),ih]
def aDj:List Char:= "cut".toList
theorem aWj(R:List (List Char)):stripLifts liftWords (aDj::R)=([],aDj::R):=by kernel_rfl
theorem bXd{s d:List Char}(h:Char.ofNat 32∉s)(hs:isSumSigns s=true):
 behindMainWord (wordsSigns ("harness".toList++Char.ofNat 32::(s++Char.ofNat 32::(aDj++Char.ofNat 32::d))))=aDj::wordsSigns d:=by
 rw [aZj _ _ (by decide+kernel),aZj _ _ h,aZj _ _ (by decide+kernel)];generalize wordsSigns d=R;have e:(("harness".toList== "harness".toList|| "harness".toList== "ownmain".toList)&&isSumSigns s)=true:=by rw [hs];decide+kernel
 exact if_pos e
variable {P:Program}{R:List (List Char)}(h:behindMainWord (wordsSigns P.initOrder.toList)=aDj::R)
include h
theorem aXn:P.headLifts=[]:=by
 unfold Program.headLifts;rw [h,aWj]
 kernel_rfl
theorem aUu:P.liftsFinal=false:=by
 unfold Program.liftsFinal;rw [h,aXn h]
 kernel_rfl
theorem bV2:P.make=some .cut:=by
 unfold Program.make;rw [h]
 kernel_rfl
theorem bBb(h1:P.laysLater=false)(h2:P.bearsReflect=false)(h3:P.doorFits []=true):P.mayEnter=true:=by
 unfold Program.mayEnter;rw [h];simp only [aWj,h1,h2,h3]
 kernel_rfl
end Go.AM
