/- Facts. No condition. -/
import Derived.Test.YtkdohhmacfoolaaGreatDoorPeScS
import GoSem.ClaimOpenFrom
set_option linter.unusedVariables false
set_option linter.unusedSimpArgs false
set_option maxRecDepth 20000
set_option maxHeartbeats 1000000
namespace Go.Proofs.YtkdohhmacfoolaaGreatDoor
open Go Go.AM Go.Pl Go.Pt Go.Ix
structure SI(E:Nat)(s:aN):Prop where
  on:s.On=true→Rc E s.State
  off:s.On=false→s.State=zst
  w:W64 s.Words.List
  l:s.Words.List.length≤60
theorem Rc.up{E E':Nat}{s:aD}(h:Rc E s)(hE:E≤E'):Rc E' s:=⟨h.ok,h.nb,by have:=h.e;omega⟩
theorem SI.up{E E':Nat}{s:aN}(h:SI E s)(hE:E≤E'):SI E' s:=⟨fun o=>(h.on o).up hE,h.off,h.w,h.l⟩
theorem aKu(s:aN){f:Int}(h:0<f∧f≤100):Tot (aLe s f) fun x=>x.1=s∧Ne x.2:=by
 unfold aLe;exact tB (bCo h) fun r hr=>tS ⟨rfl,hr⟩
theorem bWf:Ne tOK:=aT1 (by decide)
def Bg(s:aN)(x:aN×ByteArray):Prop:=(x.1=s∧Ne x.2)∨(x.2=tOK∧x.1.On=true∧Rc 0 x.1.State∧x.1.Words.List=s.Words.List)
theorem bZi{E:Nat}{s:aN}(h:SI E s)(t:aN)(c:bC):Tot (pF s t c) (Bg s):=by
 have er: ∀f:Int,0<f∧f≤100→Tot (aLe s f) (Bg s):=fun f hf=>(aKu s hf).imp fun x hx=> .inl hx;obtain ⟨st,⟨l,a⟩,on⟩:=s;have hw:=h.w;have hl:=h.l;simp only at hw hl;obtain ⟨n1,n2⟩:=bAu (c:=c) (l:=l) om hw a
 have E1: ∀(e:Int) (z:aD) (w:bI),e≠0→qN c ⟨l,a⟩=some (z,w,e)→pF ⟨st,⟨l,a⟩,on⟩ t c=aLe ⟨st,⟨l,a⟩,on⟩ e:=fun e z w h0 he=>by
  unfold pF;simp only [];rw [he,aA];simp only [];rw [bt (by simpa using h0)];rfl
 by_cases hc:aPl c
 ·
  obtain ⟨n3,n4⟩:=n2 hc
  by_cases ha:0≤a∧a≤l.length
  ·
   obtain ⟨i,rfl⟩: ∃i:Nat,a=(i:Int):=⟨a.toNat,by omega⟩
   obtain ⟨n5,n6⟩:=n4 i rfl om
   cases eh:hs l (c.L*c.R).toNat i with
   |none=>
    rw [E1 5 _ _ (by decide) (n5 eh)];exact er 5 (by decide)
   |some p=>
    obtain ⟨r,q⟩:=p;have I:=n6 r q eh;obtain ⟨c1,c2,c3,c4⟩:=aXm l _ i eh om;obtain ⟨k,hk,hk2⟩:=lr hc;have R:=bVb (c:=c) hc (r:=r) (by rw [c1,hk];simp) c3 c4 (by rw [c1,hk];simpa using hk2);have nb:=bPu R (by show 0<10000;omega) (fun x hx=>by cases hx);unfold pF;simp only [];rw [I,aA];simp only [];rw [bf (by rfl),bCp,aA];exact tS (.inr ⟨rfl,rfl,⟨R.ok,nb,Nat.le_refl _⟩,rfl⟩)
  · rw [E1 1 _ _ (by decide) (n3 ha).1];exact er 1 (by decide)
 · rw [E1 1 _ _ (by decide) (n1 hc)];exact er 1 (by decide)
theorem bN2{E:Nat}{s:aN}(h:SI E s)(t:aN)(d:Int){a:List Int}(ha:a.length=3): ∀(m i:Nat),3<i+m→i≤3→Tot (tD m d a s t a (a.length:Int) (i:Int)) (Bg s)
 |0,i,h1,h2=>by omega
 |m+1,i,h1,h2=>by
  show Tot (aDy (tD m) _ _ _ _ _ _ _) _;have er: ∀f:Int,0<f∧f≤100→Tot (aLe s f) (Bg s):=fun f hf=>(aKu s hf).imp fun x hx=> .inl hx;unfold aDy
  by_cases q:i<a.length
  · rw [bt (oK q),wr1 i om];exact tI (aFk q) fun x=>tC (fun _=>er 6 (by decide)) fun _=>bN2 h t d ha m (i+1) om om
  ·
   rw [bf (oJ q)];refine tI om fun x=>tI om fun y=>tI om fun z=>tC (fun _=>tB (bQb _ _ _) fun p hp=>tC (fun c=>?_) fun _=>bZi h t _) fun _=>bZi h t _;have c:p.2≠0:=by simpa using c
   exact er p.2 om
theorem bS6{E:Nat}{s:aN}(h:SI E s)(d:Int){a:List Int}(ha:a.length=3):Tot (rS s d a) (Bg s):=by
 have hFU:=FU';exact bN2 h _ d ha aW 0 om om
theorem bNw{s:aN}(h:s.On=false)(c:dK):iO s c=aLe s 3:=by
 unfold iO;rw [h,bt (by rfl)];rfl
theorem bGn{s:aN}(h:s.On=true){c:dK}{s':aD}{g:GA}{r:ByteArray}(h1:mR s.State c=some (s',g))(h2:cR g=some r):iO s c=some (⟨s',s.Words,true⟩,r):=by
 unfold iO;rw [h,bf (by rfl),h1,aA];simp only [];rw [h2,aA]
theorem bWe{s:aN}(h:s.On=true):(⟨s.State,s.Words,true⟩:aN)=s:=by
 cases s with|mk a b c=>simp only at h;subst h;rfl
structure Lt(E:Nat)(s s':aN)(r:ByteArray):Prop where
  si:SI (max (E+1) 800) s'
  ne:Ne r
  same:s'=s∨r=tOK
  on:s.On=true→s'.On=true
theorem bNx{E:Nat}(hE:E<2000){s:aN}(h:SI E s){c:dK}(hA:U64 c.A)(hT:c.Text.size≤1000)(hd:1≤c.Do∧c.Do≤15):
 ∃s' r,iO s c=some (s',r)∧Lt E s s' r∧(5≤c.Do→c.Do≤14→s'=s):=by
 cases o:s.On with
 |false=>
  obtain ⟨⟨s',r⟩,e,h1,h2⟩:=aKu s (f:=3) (by decide);simp only at h1 h2;subst h1;exact ⟨s',r,(bNw o c).trans e,⟨h.up om,h2,.inl rfl,fun k=>k⟩,fun _ _=>rfl⟩
 |true=>
  obtain ⟨s',g,e,R,D⟩:=(h.on o).does om hA om;have si:SI (max (E+1) 800) ⟨s',s.Words,true⟩:=⟨fun _=>R,fun k=>(by cases k),h.w,h.l⟩
  have stay: ∀g',s'=s.State→Tot (cR g') (fun r=>Ne r)→g'=g→ ∃s' r,iO s c=some (s',r)∧Lt E s s' r∧(5≤c.Do→c.Do≤14→s'=s):=fun g' h1 h2 h3=>by
   obtain ⟨r,e2,hr⟩:=h2;subst h1;subst h3;exact ⟨_,r,bGn o e e2,⟨si,hr,.inl (bWe o),fun _=>rfl⟩,fun _ _=>bWe o⟩
  cases D with
  |no q=>omega
  |err f hf=>exact stay _ rfl (bCo hf) rfl
  |ok _ hk=>exact ⟨_,tOK,bGn o e bCp,⟨si,bWf,.inr rfl,fun _=>rfl⟩,fun h5 h14=>by omega⟩
  |ans g hk ha=>exact stay _ rfl (bR4 ha) rfl
theorem bPg{E:Nat}(hE:E<2000){s:aN}(h:SI E s){l:List ByteArray}(L:Ln l):
 ∃s' r,fG s l=some (s',r)∧Lt E s s' r∧ ∀x t v,l=x::t→sZ x=some v→v>5→x≠wR→s'=s:=by
 cases L with
 |err f hf e=>
  obtain ⟨⟨s',r⟩,e2,h1,h2⟩:=aKu s hf;simp only at h1 h2;subst h1;exact ⟨s',r,(e s').trans e2,⟨h.up om,h2,.inl rfl,fun k=>k⟩,fun _ _ _ _ _ _ _=>rfl⟩
 |beg x t d args hl hx ha e=>
  obtain ⟨⟨s',r⟩,e2,h1⟩:=bS6 h d ha
  have nv: ∀x' t' v,l=x'::t'→sZ x'=some v→v>5→x'≠wR→s'=s:=fun x' t' v hl' hv h5 _=>by
   subst hl;injection hl' with h1 h2
   subst h1;have z0:sZ wN=some 0:=by kernel_rfl
   have z1:sZ wP=some 1:=by kernel_rfl
   rcases hx with rfl|rfl
   · rw [z0] at hv;injection hv;omega
   · rw [z1] at hv;injection hv;omega
  refine ⟨s',r,(e s).trans e2,?_,nv⟩;rcases h1 with ⟨h1,h2⟩|⟨h1,h2,h3,h4⟩
  · simp only at h1 h2;subst h1;exact ⟨h.up om,h2,.inl rfl,fun k=>k⟩
  · simp only at h1 h2 h3 h4;subst h1;exact ⟨⟨fun _=>h3.up om,fun k=>(by rw [h2] at k;cases k),by rw [h4];exact h.w,by rw [h4];exact h.l⟩,bWf,.inr rfl,fun _=>h2⟩
 |cmd x t k v c hl W hv hd hA hT e=>
  obtain ⟨s',r,e2,lt,ask⟩:=bNx hE h hA hT hd;refine ⟨s',r,(e s).trans e2,lt,fun x' t' v' hl' hv' h5 hR=>?_⟩;subst hl;injection hl' with h1 h2
  subst h1;rw [hv] at hv';injection hv' with hv'
  subst hv'
  have: ∀d,Wd x d k v→5≤d∧d≤14:=fun d W=>by
   cases W with
   |ask _ _ _ h6 _ _ _ _ _=>exact h6
   |res _ h6=>exact absurd h6 hR
   |beg _ _ _ _ _=>omega
   |chg _ _ _ _ _ _ _ _=>omega
   |no _ _=>omega
  exact ask (this _ W).1 (this _ W).2
theorem bLv{E:Nat}(hE:E<2000){s:aN}(h:SI E s):aBh s s=some true:=by
 have sm:SM s.State:=by
  cases o:s.On with
  |true=>exact (h.on o).sm
  |false=>rw [h.off o];exact ⟨by decide,by decide,by decide⟩
 have h1:=sm.e;have h2:=sm.h;have h3:=sm.v;unfold aBh aDo aF2;rw [aXv sm.v,aA,aA,aA,aYr _ _ (by show s.State.Graph.Edges.length<_;omega) (by show s.State.Graph.Hashes.length<_;omega),aA,aYp _ _ (by simp [rf];omega),aA,aA];simp
def OKl(y:List ByteArray):Prop:=y.length≤6∧ ∀z,z∈y→z.size≤1000
theorem OKl.ln{y:List ByteArray}(h:OKl y):Ln y:=bY7 h.1 h.2
theorem bO8{M:Nat}{n:Int}{ls:List (List ByteArray)}{k:Nat}{y:List ByteArray}(hy:y.length≤6){P:Int→Prop}(hm:P (-1))(ih:OKl y→Tot (mH M n ls (ls.length:Int) (IntKind.i64.wrap ((k:Int)+1))) P):
 ∀(m i:Nat),y.length<i+m→i≤y.length→(∀z,z∈y.take i→z.size≤1000)→Tot (aBg (mH M) m n y ls (ls.length:Int) (k:Int) y (y.length:Int) (i:Int)) P
 |0,i,h,h',_=>by omega
 |m+1,i,h,h',hz=>by
  show Tot (aJ6 (mH M) (aBg (mH M) m) _ _ _ _ _ _ _ _) _;unfold aJ6
  by_cases q:i<y.length
  ·
   rw [bt (oK q),cG q,aA,wr1 i om];refine tG (fun _=>tI' ⟨by omega,by omega⟩) fun x=>tC (fun _=>tS hm) fun c=>?_
   have c1: ¬1000<y[i].size:=fun h=>by
    have:decide (1000<(y[i].size:Int))=true:=by simp;omega
    rw [this] at c;cases c
   refine bO8 hy hm ih m (i+1) om q fun z hz'=>?_;rw [uW q] at hz';rcases List.mem_append.1 hz' with hz'|hz'
   · exact hz z hz'
   · rw [List.mem_singleton.1 hz'];omega
  · rw [bf (oJ q)];exact ih ⟨hy,fun z hz'=>hz z (by rw [List.take_of_length_le om];exact hz')⟩
theorem bO7{n:Int}{ls:List (List ByteArray)}(hl:ls.length≤1000): ∀(m k:Nat),ls.length<k+m→k≤ls.length→(∀y,y∈ls.take k→OKl y)→Tot (mH m n ls (ls.length:Int) (k:Int)) fun r=>r= -1∨(r=n∧ ∀y,y∈ls→OKl y)
 |0,k,h,h',_=>by omega
 |m+1,k,h,h',hz=>by
  have hFU:=FU';show Tot (aJ5 (mH m) _ _ _ _) _;unfold aJ5
  by_cases q:k<ls.length
  ·
   rw [bt (oK q),cG q,aA];refine tC (fun _=>tS (.inl rfl)) fun c=>?_
   have c:ls[k].length≤6:=by
    rw [decide_eq_false_iff_not] at c;omega
   refine bO8 (P:=fun r=>r= -1∨(r=n∧ ∀y,y∈ls→OKl y)) c (.inl rfl) (fun ok=>?_) aW 0 om (Nat.zero_le _) fun z hz'=>by cases hz'
   rw [wr1 k om];refine bO7 hl m (k+1) om q fun y hy=>?_;rw [uW q] at hy;rcases List.mem_append.1 hy with hy|hy
   · exact hz y hy
   · rw [List.mem_singleton.1 hy];exact ok
  · rw [bf (oJ q)];exact tS (.inr ⟨rfl,fun y hy=>hz y (by rw [List.take_of_length_le om];exact hy)⟩)
theorem bSn(l:List (List ByteArray)){most:Nat}(hm:most≤1000): ∃r,aAm l (most:Int)=some r∧(r= -1∨ ∃n:Nat,r=(n:Int)∧n≤most∧n≤l.length∧ ∀y,y∈l.take n→OKl y):=by
 have hFU:=FU';unfold aAm
 have e: ∃n:Nat,n≤most∧n≤l.length∧(if (most:Int)<(l.length:Int) then (most:Int) else (l.length:Int))=(n:Int):=by
  split
  · exact ⟨most,Nat.le_refl _,by omega,rfl⟩
  · exact ⟨l.length,by omega,Nat.le_refl _,rfl⟩
 obtain ⟨n,h1,h2,e⟩:=e;rw [e,aE6 rfl h2,aA];have hl:(l.take n).length=n:=by rw [List.length_take];omega
 obtain ⟨r,er,hr⟩:=bO7 (n:=(n:Int)) (ls:=l.take n) om aW 0 om (Nat.zero_le _) fun y hy=>by cases hy
 refine ⟨r,er,hr.imp id fun h=>⟨n,h.1,h1,h2,h.2⟩⟩
def s0(words:List Int):aN:=⟨⟨⟨⟨0,0,0⟩,[],[]⟩,[]⟩,⟨words,0⟩,false⟩
theorem SI0{words:List Int}(hw:W64 words)(hl:words.length≤60):SI 800 (s0 words):=⟨fun h=>(by cases h),fun _=>rfl,hw,hl⟩
theorem bB5{ls:List (List ByteArray)}(hl:ls.length≤30)(ok: ∀y,y∈ls→OKl y): ∀(m i:Nat) (s:aN),ls.length<i+m→i≤ls.length→SI (800+i) s→rC m s ls (ls.length:Int) (i:Int)=some true
 |0,i,s,h,h',_=>by omega
 |m+1,i,s,h,h',hs=>by
  show aC1 (rC m) _ _ _ _=_;unfold aC1
  by_cases q:i<ls.length
  ·
   obtain ⟨s',r,e,lt,_⟩:=bPg om hs (ok _ (List.getElem_mem q)).ln;rw [bt (oK q),cG q,aA,e,aA,wr1 i om];have hn:decide (r=⟨#[]⟩)=false:=decide_eq_false lt.ne;have ih:=bB5 hl ok m (i+1) s' om q (lt.si.up om);simp only [];rw [hn]
   by_cases c:r=⟨#[111,107]⟩
   · rw [decide_eq_true c,gf' (by rfl),aA,bf (by rfl)];exact ih
   · have:s'=s:=lt.same.resolve_right c;subst this;rw [decide_eq_false c,gt' (by rfl),bLv om hs,aA,bf (by rfl)];exact ih
  · rw [bf (oJ q),aL2,aA]
theorem bLm(lines:List (List ByteArray)){words:List Int}(hw:W64 words):sO lines words=some true:=by
 have hFU:=FU';obtain ⟨r,er,hr⟩:=bSn lines (most:=30) om;have er:aAm lines 30=some r:=er;unfold sO;rw [er,aA]
 by_cases c:r<0∨60<words.length
 · rw [bt (by simp;omega),aL2,aA]
 ·
  rcases hr with hr|⟨n,rfl,h1,h2,h3⟩
  · omega
  ·
   have hl:(lines.take n).length=n:=by rw [List.length_take];omega
   rw [bf (by simp;omega),aE6 rfl h2,aA];exact bB5 om h3 aW 0 _ om (Nat.zero_le _) (SI0 hw om)
theorem aRz(lines:List (List ByteArray))(words:List Int){A P B C:Prop}(_:A)(w:(∀y,y∈words→(Lit.int .u64 y).wf=true)∧P)(_:B)(_:C):sO lines words=some true:=bLm lines (cMv w)
end Go.Proofs.YtkdohhmacfoolaaGreatDoor
namespace Go.AM
open Go
theorem aZg: ∀(w r:List Char),Char.ofNat 32∉w→wordsSigns (w++Char.ofNat 32::r)=w::wordsSigns r
 |[],r,_=>by show wordsSigns (Char.ofNat 32::r)=_;rw [wordsSigns.eq_2]
 |c::w,r,h=>by
  have hc: ¬c=Char.ofNat 32:=fun e=>h (by simp [e]);have ih:=aZg w r (fun m=>h (List.mem_cons_of_mem _ m));show wordsSigns (c::(w++Char.ofNat 32::r))=_;rw [wordsSigns.eq_3 _ _ (fun e=>hc e),ih]
def aDh:List Char:= "cut".toList
theorem aWh(R:List (List Char)):stripLifts liftWords (aDh::R)=([],aDh::R):=by kernel_rfl
theorem bX8{s d:List Char}(h:Char.ofNat 32∉s)(hs:isSumSigns s=true):
 behindMainWord (wordsSigns ("harness".toList++Char.ofNat 32::(s++Char.ofNat 32::(aDh++Char.ofNat 32::d))))=aDh::wordsSigns d:=by
 rw [aZg _ _ (by decide+kernel),aZg _ _ h,aZg _ _ (by decide+kernel)];generalize wordsSigns d=R;have e:(("harness".toList== "harness".toList|| "harness".toList== "ownmain".toList)&&isSumSigns s)=true:=by rw [hs];decide+kernel
 exact if_pos e
variable {P:Program}{R:List (List Char)}(h:behindMainWord (wordsSigns P.initOrder.toList)=aDh::R)
include h
theorem aXk:P.headLifts=[]:=by
 unfold Program.headLifts;rw [h,aWh]
 kernel_rfl
theorem aUs:P.liftsFinal=false:=by
 unfold Program.liftsFinal;rw [h,aXk h]
 kernel_rfl
theorem bUx:P.make=some .cut:=by
 unfold Program.make;rw [h]
 kernel_rfl
theorem bB9(h1:P.laysLater=false)(h2:P.bearsReflect=false)(h3:P.doorFits []=true):P.mayEnter=true:=by
 unfold Program.mayEnter;rw [h];simp only [aWh,h1,h2,h3]
 kernel_rfl
end Go.AM
