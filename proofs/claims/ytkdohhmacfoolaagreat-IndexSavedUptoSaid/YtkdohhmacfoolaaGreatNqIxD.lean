/- Facts. No condition. -/
import Derived.Test.YtkdohhmacfoolaaGreatNqIxM
import Derived.Test.YtkdohhmacfoolaaGreatNqSoT
set_option linter.unusedVariables false
set_option linter.unusedSimpArgs false
set_option maxRecDepth 20000
set_option maxHeartbeats 1000000
namespace Go.Proofs.YtkdohhmacfoolaaGreat
open Go Go.AM Go.Pl Go.Pt Go.Ix
inductive aZh:GA→Prop
  |b (x:Bool):aZh (GA.b 4 x)
  |i (n:Nat):n≤2000→aZh (GA.i 3 .i64 (n:Int))
  |lu (l:List Int):l.length≤1024→aZh (GA.lu 24 l)
  |lp (l:List aC):l.length≤1024→aZh (GA.lp 40 l)
  |s (t:ByteArray):aZh (GA.s 9 t)
section
variable {c:bZ}{s:aF}{m:aT}(R:Rel c s m)
include R
omit R in
theorem bB3{l:List Int}(hl:l.length≤1024)(hr: ∀v,v∈l→0≤v∧v<s.Slots.length):Tot (tO s l) fun r=>r.length≤1024:=by
 have hFU:=FU';unfold tO;have:=bFu s l hl hr aZ 0 [] om (Nat.zero_le _) (Nat.le_refl _);rw [show ((0:Nat):Int)=0 from rfl] at this;rw [this,List.drop_zero,List.nil_append];have hf:=List.length_filter_le (usd s.Slots) l;simp only [];obtain ⟨r,e,hr'⟩:=bPv (l:=(l.filter (usd s.Slots)).map (kv s.Slots)) (by rw [List.length_map];omega);rw [e];refine ⟨r,?_,by simp only [];rw [hr',List.length_map];omega⟩;simp [tM,hr']
theorem bB4(p:Int→Int)(u:Int):Tot (tO s (trl s.Graph.Config.N p u)) fun r=>r.length≤1024:=by
 have e:=R.ok.len;have n2:=R.ok.v.n2;refine bB3 ?_ fun v hv=>?_
 · have:=bIh s.Graph.Config.N.toNat 0 p (p u);unfold trl;omega
 · have:=aLa.1 hv;omega
theorem bLq:Tot (zC s) fun r=>r.length≤1024:=by
 have hFU:=FU';have kl:=bOa R;have n2:=R.ok.v.n2;unfold zC
 have tf:oB s.Graph.Config.N s.Graph.Edges s.Graph.Config.L=some (kf s.Graph):=by
  rw [xG R.gd.e,if_pos (gok R.gd.ok).tr];rfl
 have:=bAq R n2 aZ 0 [] om (Nat.zero_le _) (Nat.le_refl _);rw [tf,aA,show (0:Int)=((0:Nat):Int) from rfl,this,List.drop_zero,List.nil_append];simp only [];have e:(en (kf s.Graph)).map (aFu s.Slots)=fps s:=rfl;rw [e]
 obtain ⟨r,e,hr'⟩:=bLw (l:=fps s) (by rw [bHl];omega) (cmp:=fun x0 x1=>qI x0 x1) fun x y=>by
  obtain ⟨c,h,_⟩:=bQr x y;exact ⟨c,h,trivial⟩
 rw [e];refine ⟨r,?_,by simp only [];rw [hr',bHl];omega⟩;simp [tM,hr']
theorem bP7(hE:s.Graph.Edges.length<10000)(K:KU m):NB s:=by
 have g:=gok R.gd.ok;have g1:=g.n1;have g2:=g.n2;have g3:=g.l1;have g4:=g.l2;have g5:=g.r1;have g6:=g.r2;have n2:=R.ok.v.n2;refine ⟨⟨by omega,by omega,by omega,by omega,by omega,by omega⟩,fun x hx=>?_,fun x hx=>?_,fun x hx=>?_,?_,by omega,by omega⟩
 · have h1:=g.hs;unfold hsB at h1;rw [List.all_eq_true] at h1;have h2:=h1 x hx;simp only [Bool.and_eq_true,decide_eq_true_eq] at h2;have h3:HOK x:=R.gd.hw x hx;obtain ⟨h4,h5⟩:=h3;omega
 ·
  cases u:x.Used with
  |false=>rw [R.ok.v.z x hx u];omega
  |true=>
   obtain ⟨j,hj,e⟩:=List.mem_iff_getElem.1 hx;refine K _ ((R.mem _).2 ⟨j,?_⟩);unfold At;rw [List.getElem?_eq_getElem hj,e];cases x with|mk a b=>simp only at u;subst u;rfl
 · have h1:=yA.1 ((aJ7.1 g.tr).2.2.ok x hx);omega
 · have h1:=g.hl;have h2:s.Graph.Config.L*s.Graph.Config.R≤16*8:=Int.mul_le_mul g4 g6 om om;omega
theorem bQf(hE:s.Graph.Edges.length<10000)(nb:NB s){d a b:Int}{vA vB:Int}{bA bB:Bool}(h5:5≤d)(h14:d≤14)(fA:Fd s a vA bA)(fB:Fd s b vB bB){rA rB:Bool}(eA:tX d=some rA)(eB:tY d=some rB)(ok:((rA&& !bA)||(rB&& !bB))=false):Tot (rF s d vA vB) aZh:=by
 have hFU:=FU';have n2:=R.ok.v.n2;have el:=R.ok.len
 have inA:rA=true→0≤vA∧vA<s.Graph.Config.N:=fun h=>by
  subst h;rcases fA.c with ⟨rfl,j,rfl,hj⟩|⟨rfl,_,_⟩
  · exact R.lt hj
  · simp at ok
 have inB:rB=true→0≤vB∧vB<s.Graph.Config.N:=fun h=>by
  subst h;rcases fB.c with ⟨rfl,j,rfl,hj⟩|⟨rfl,_,_⟩
  · exact R.lt hj
  · simp at ok
 clear fA fB ok;have n0:=R.n0;unfold rF;rw [bHs R,aA];have cases10:d=5∨d=6∨d=7∨d=8∨d=9∨d=10∨d=11∨d=12∨d=13∨d=14:=by omega
 rcases cases10 with rfl|rfl|rfl|rfl|rfl|rfl|rfl|rfl|rfl|rfl
 ·
  cases eA;cases eB;rw [bt (by rfl),aD6 om,aA]
  cases fnd (oN vA vB) s.Graph.Edges 0 with
  |none=>exact tS (.b _)
  |some k=>exact tS (.b _)
 ·
  cases eA;obtain ⟨i0,i1⟩:=inA rfl;obtain ⟨i,rfl⟩: ∃i:Nat,vA=(i:Int):=⟨vA.toNat,by omega⟩
  unfold vE;rw [bf (by rfl),bt (by rfl),aI8 R.gd.ok om i0 i1,aA,aA];have hl:=bAz (R.near_nodup (i:Int)) fun v hv=>⟨(R.near_usd hv).1,(R.near_usd hv).2.1⟩
  exact tS (.i _ om)
 ·
  cases eA;obtain ⟨i0,i1⟩:=inA rfl;obtain ⟨i,rfl⟩: ∃i:Nat,vA=(i:Int):=⟨vA.toNat,by omega⟩
  have hl:=bAz (R.near_nodup (i:Int)) fun v hv=>⟨(R.near_usd hv).1,(R.near_usd hv).2.1⟩
  rw [bf (by rfl),bf (by rfl),bt (by rfl),aI8 R.gd.ok om i0 i1,aA];exact tB (bB3 om fun v hv=>⟨(R.near_usd hv).1,(R.near_usd hv).2.1⟩) fun r hr=>tS (.lu _ hr)
 · cases eA;cases eB;have li:=inA rfl;have lj:=inB rfl;rw [bf (by rfl),bf (by rfl),bf (by rfl),bt (by rfl),aYn li.1 li.2,aA,aYn lj.1 lj.2,aA];exact tS (.b _)
 · cases eA;have li:=inA rfl;rw [bf (by rfl),bf (by rfl),bf (by rfl),bf (by rfl),bt (by rfl),aIj R.n0.1 R.n0.2.1 R.kfr li.1 li.2,aA];exact tB (bB4 R _ _) fun r hr=>tS (.i _ om)
 · have:=aVv (n:=s.Graph.Config.N) (nE (en (kf s.Graph))) om R.ok.len aZ 0 0 om (Nat.zero_le _) (Nat.le_refl _);rw [show ((0:Nat):Int)=0 from rfl,List.drop_zero,Nat.zero_add] at this;rw [bf (by rfl),bf (by rfl),bf (by rfl),bf (by rfl),bf (by rfl),bt (by rfl)];unfold aB9;have e:rS aZ s 0 (pt s.Graph.Config.N (kf s.Graph)) ((pt s.Graph.Config.N (kf s.Graph)).length:Int) 0=some ((bX5 s (nE (en (kf s.Graph))):Nat):Int):=this;rw [e,aA];refine tS (.i _ ?_);unfold bX5;have:=List.countP_le_length (p:=fun v=>v==nE (en (kf s.Graph)) v&&usd s.Slots v) (l:=vs s.Graph.Config.N);rw [bGq] at this;omega
 · cases eA;have li:=inA rfl;rw [bf (by rfl),bf (by rfl),bf (by rfl),bf (by rfl),bf (by rfl),bf (by rfl),bt (by rfl),aIj R.n0.1 R.n0.2.1 R.kfr li.1 li.2,aA];exact tB (bB4 R _ _) fun r hr=>tS (.lu _ hr)
 · rw [bf (by rfl),bf (by rfl),bf (by rfl),bf (by rfl),bf (by rfl),bf (by rfl),bf (by rfl),bt (by rfl)];exact tB (bLq R) fun r hr=>tS (.lp _ hr)
 · rw [bf (by rfl),bf (by rfl),bf (by rfl),bf (by rfl),bf (by rfl),bf (by rfl),bf (by rfl),bf (by rfl),bt (by rfl),aUo R.gd.e R.gd.h,aA];exact tS (.b _)
 · rw [bf (by rfl),bf (by rfl),bf (by rfl),bf (by rfl),bf (by rfl),bf (by rfl),bf (by rfl),bf (by rfl),bf (by rfl),aOg nb (aZ7 R n2),aA];exact tS (.s _)
end
structure Rc(E:Nat)(s:aF):Prop where
  ok:SOK s
  nb:NB s
  e:s.Graph.Edges.length≤E
def mOf(s:aF):aT:=⟨s.Graph.Config.N,uk s.Slots,(en s.Graph.Edges).map (aFu s.Slots)⟩
section
variable {s:aF}{E:Nat}(h:Rc E s)(hE:E<9000)
include h
theorem Rc.rel:Rel s.Graph.Config s (mOf s):=
 ⟨h.ok,⟨h.ok.g,fun x hx=>⟨(h.nb.h x hx).1.1,(h.nb.h x hx).2.1⟩,by have:=h.nb.ne;omega,by have:=h.nb.nh;omega⟩,rfl,rfl,List.Perm.refl _,List.Perm.refl _⟩
theorem Rc.ku:KU (mOf s):=fun x hx=>by
 obtain ⟨j,hj⟩:=(h.rel.mem x).1 hx;exact h.nb.k _ (List.mem_of_getElem? hj)
theorem Rc.sm:SM s:=by
 have:=h.nb.nh;have:=h.nb.ns;have:=h.nb.ne;exact ⟨by omega,by omega,by omega⟩
theorem Rc.same:sB s s=some true:=by rw [aY2 h.sm h.sm];simp
theorem Rc.right:pY s=some true:=aZ7 h.rel h.ok.v.n2
inductive Does(s:aF)(d:Int):aF→GA→Prop
  |no:(d<1∨15<d)→Does s d s (GA.i 36 .i64 1)
  |err (f:Int):0<f→Does s d s (GA.i 36 .i64 f)
  |ok (s':aF):(1≤d∧d≤4∨d=15)→Does s d s' (GA.i 36 .i64 0)
  |ans (r:GA):5≤d∧d≤14→aZh r→Does s d s r
theorem Rc.restore(a b:Int){t:ByteArray}(hT:t.size≤4000):jB s ⟨15,a,b,t⟩=some (s,GA.i 36 .i64 12)∨ ∃s',jB s ⟨15,a,b,t⟩=some (s',GA.i 36 .i64 0)∧Rc 800 s':=by
 have R:=h.rel;have n2:=h.ok.v.n2;obtain ⟨vA,bA,fA⟩:=fd R n2 a;obtain ⟨vB,bB,fB⟩:=fd R n2 b;have I:=aNh R n2 (d:=15) (text:=t) (by rfl) fA fB (rA:=false) (rB:=false) rfl rfl;rw [bf (by rfl),bf (by rfl)] at I;unfold nZ at I;simp only [] at I;rw [bf (by rfl),bf (by rfl),bf (by rfl),bf (by rfl),bt (by rfl)] at I;rcases bC4 hT with e|⟨s',e,nb,ok,_,he,_⟩
 · rw [e,aA,aA] at I;simp only [] at I;rw [bt (by rfl)] at I;exact .inl I
 · rw [e,aA,aA] at I;simp only [] at I;rw [bf (by rfl)] at I;exact .inr ⟨s',I,ok,nb,by omega⟩
theorem Rc.back{E':Nat}{u:aF}(k:Rc E' u)(a b:Int):jB s ⟨15,a,b,qG (bytesOf u)⟩=some (u,GA.i 36 .i64 0):=by
 have R:=h.rel;have n2:=h.ok.v.n2;obtain ⟨vA,bA,fA⟩:=fd R n2 a;obtain ⟨vB,bB,fB⟩:=fd R n2 b;have I:=aNh R n2 (d:=15) (text:=qG (bytesOf u)) (by rfl) fA fB (rA:=false) (rB:=false) rfl rfl;rw [bf (by rfl),bf (by rfl)] at I;unfold nZ at I;simp only [] at I;have g:=gok k.ok.g;have g2:=g.n2;have g4:=g.l2;have g6:=g.r2;rw [bf (by rfl),bf (by rfl),bf (by rfl),bf (by rfl),bt (by rfl),aYw k.nb k.ok.len g.hl ⟨by omega,by omega,by omega⟩ k.right,aA,aA] at I;simp only [] at I;rw [bf (by rfl)] at I;exact I
theorem Rc.saved(a b:Int)(t:ByteArray):jB s ⟨14,a,b,t⟩=some (s,GA.s 9 (qG (bytesOf s))):=by
 have R:=h.rel;have n2:=h.ok.v.n2;obtain ⟨vA,bA,fA⟩:=fd R n2 a;obtain ⟨vB,bB,fB⟩:=fd R n2 b;rw [aNh R n2 (d:=14) (by rfl) fA fB (rA:=false) (rB:=false) rfl rfl,bf (by rfl),bt (by rfl)];unfold rF;rw [bHs R,aA,bf (by rfl),bf (by rfl),bf (by rfl),bf (by rfl),bf (by rfl),bf (by rfl),bf (by rfl),bf (by rfl),bf (by rfl),aOg h.nb h.right,aA,aA]
include hE
theorem Rc.does{x:bK}(hA:0≤x.A∧x.A<18446744073709551616)(hT:x.Text.size≤4000): ∃s' r,jB s x=some (s',r)∧Rc (max (E+1) 800) s'∧Does s x.Do s' r:=by
 obtain ⟨d,a,b,t⟩:=x;simp only at hA hT⊢;have R:=h.rel;have n2:=h.ok.v.n2;have hEd:=h.e;have up:Rc (max (E+1) 800) s:=⟨h.ok,h.nb,by omega⟩
 by_cases q1:d<1∨15<d
 ·
  have e:(decide (d<1)||decide (15<d))=true:=by simpa using q1
  refine ⟨s,GA.i 36 .i64 1,?_,up,.no q1⟩;unfold jB;simp only [];rw [e,gf' (by rfl),aA,bt (by rfl)]
 have hd:(decide (d<1)||decide (15<d))=false:=by simpa using q1
 by_cases q2:d≤4
 ·
  obtain ⟨s',f,k,I,M,R',fz,e1,e2,f0⟩:=step R n2 om (d:=d) om q2 a b t;have K':=KU.change h.ku hA M;refine ⟨s',_,I,⟨R'.ok,bP7 R' om K',by omega⟩,?_⟩
  by_cases fz':f=0
  · subst fz';exact .ok s' (.inl ⟨by omega,q2⟩)
  · rw [(fz fz').1];exact .err f om
 obtain ⟨vA,bA,fA⟩:=fd R n2 a;obtain ⟨vB,bB,fB⟩:=fd R n2 b
 by_cases q3:d=15
 ·
  subst q3;rcases h.restore a b hT with I|⟨s',I,k⟩
  · exact ⟨_,_,I,up,.err 12 om⟩
  · exact ⟨_,_,I,⟨k.ok,k.nb,by have:=k.e;omega⟩,.ok s' (.inr rfl)⟩
 obtain ⟨rA,eA⟩: ∃rA,tX d=some rA:=⟨_,rfl⟩
 obtain ⟨rB,eB⟩: ∃rB,tY d=some rB:=⟨_,rfl⟩
 have I:=aNh R n2 (text:=t) hd fA fB eA eB
 cases w:((rA&& !bA)||(rB&& !bB)) with
 |true=>
  rw [w,bt (by rfl)] at I;exact ⟨_,_,I,up,.err 7 om⟩
 |false=>
  rw [w,bf (by rfl),bt (by simp;omega)] at I;obtain ⟨r,e,hr⟩:=bQf R om h.nb om om fA fB eA eB w;rw [e,aA] at I;exact ⟨_,_,I,up,.ans r ⟨by omega,by omega⟩ hr⟩
end
theorem bQe{r:GA}(h:aZh r):oF r=some (-1):=by cases h<;>rfl
theorem aL6(f:Int):oF (GA.i 36 .i64 f)=some f:=rfl
theorem aT3(n:Int)(l:List bK)(hl:l.length<1000000): ∀(m i:Nat) (r:Int),l.length<i+m→i≤l.length→wH m n l (l.length:Int) (i:Int)=some r→r= -1∨(r=n∧ ∀(j:Nat) (h:j<l.length),i≤j→l[j].Text.size≤1000)
 |0,i,r,hm,hi,_=>by omega
 |m+1,i,r,hm,hi,h=>by
  replace h:aD2 (wH m) n l (l.length:Int) (i:Int)=some r:=h;unfold aD2 at h
  by_cases c:i<l.length
  ·
   rw [bt (by simpa using c),eC c,aA,wr1 i om] at h
   by_cases q:1000<l[i].Text.size
   · rw [bt (by simp;omega)] at h;cases h;exact .inl rfl
   ·
    rw [bf (by simp;omega)] at h;refine (aT3 n l hl m (i+1) r om c h).imp id fun ⟨h1,h2⟩=>⟨h1,fun j hj hij=>?_⟩
    by_cases e:i=j
    · subst e;omega
    · exact h2 j hj om
  · rw [bf (by simpa using c)] at h;cases h;exact .inr ⟨rfl,fun j hj hij=>by omega⟩
theorem bAo(c:bZ)(l:List bK){most n:Nat}(hm:most≤1000)(h:rL c l (most:Int)=some (n:Int)): ∀x,x∈l.take n→x.Text.size≤1000:=by
 have hFU:=FU';unfold rL at h
 by_cases q:(10<c.N∨4<c.L)∨3<c.R
 · rw [bt (by simp;omega)] at h;injection h with h;omega
 ·
  have e:(if (most:Int)<(l.length:Int) then (most:Int) else (l.length:Int))=((min most l.length:Nat):Int):=by
   split<;>omega
  rw [bf (by simp;omega),e,aFi rfl om,aA] at h;rcases aT3 _ _ (by simp;omega) aZ 0 _ (by simp;omega) (Nat.zero_le _) h with h1|⟨h1,h2⟩
  · omega
  ·
   have:n=min most l.length:=by omega
   subst this;intro x hx;obtain ⟨j,hj,rfl⟩:=List.mem_iff_getElem.1 hx;exact h2 j hj (Nat.zero_le _)
theorem bW8{c:bZ}{s:aF}(R:Rel c s ⟨c.N,[],[]⟩)(h2:s.Graph.Edges=[])(E:Nat):Rc E s:=
 ⟨R.ok,bP7 R (by rw [h2];simp) (fun x hx=>by cases hx),by rw [h2];simp⟩
theorem bC8(L:List bK)(hL:L.length≤1000)(hA: ∀x,x∈L→0≤x.A∧x.A<18446744073709551616)(hT: ∀x,x∈L→x.Text.size≤4000): ∀(m i:Nat) (s:aF),Rc (900+i) s→L.length<i+m→i≤L.length→uZ m s s L (L.length:Int) (i:Int)=some true
 |0,i,s,_,hm,hi=>by omega
 |m+1,i,s,h,hm,hi=>by
  show aGn (uZ m) _ _ _ _ _=_;unfold aGn
  by_cases c:i<L.length
  ·
   obtain ⟨s',r,I,h',w⟩:=h.does om (hA _ (List.getElem_mem c)) (hT _ (List.getElem_mem c));have next:=bC8 L hL hA hT m (i+1) s' ⟨h'.ok,h'.nb,by have:=h'.e;omega⟩ om c
   have hs:=h'.same;rw [bt (by simpa using c),eC c,aA,I,aA];simp only [];rw [aA];simp only [];rw [hs,aA,wr1 i om,gt' (by rfl)]
   cases w with
   |no q=>simpa [aL6,dX,aNp,aHb,aDq,GA.ty,next] using next
   |err f q=>simpa [aL6,dX,aNp,aHb,aDq,GA.ty,next] using next
   |ok _ q=>simpa [aL6,dX,aNp,aHb,aDq,GA.ty,next] using next
   |ans _ q k=>
    rw [bQe k,aA,aA,bf (by rfl)]
    cases k with
    |b x=>simpa [dX,aNp,aHb,aDq,aS9,GA.ty,bGm,next] using next
    |i n hn=>simpa [dX,aNp,aHb,aMf,aDq,GA.ty,bCi,next] using next
    |lu l hl=>
     have e:sZ (GA.lu 24 l) l=some true:=by rw [aZa _ _ om];simp
     simpa [dX,aNp,bHm,aHb,aDq,GA.ty,e,next] using next
    |lp l hl=>simpa [dX,aNp,aHb,aDq,GA.ty,next] using next
    |s t=>simpa [dX,aNp,aHb,aDq,GA.ty,next] using next
  · rw [bf (by simpa using c),aS2,aA]
theorem bC7(M:List bK)(k:Nat)(text:ByteArray)(hk:k≤M.length)(hk':k≤1000)(hA': ∀x,x∈M.take k→0≤x.A∧x.A<18446744073709551616)(hT': ∀x,x∈M.take k→x.Text.size≤4000)(ht:text.size≤4000)(L:List bK)(hL:L.length≤50)(hA: ∀x,x∈L→0≤x.A∧x.A<18446744073709551616)(hT: ∀x,x∈L→x.Text.size≤4000): ∀(m i:Nat) (s:aF),Rc (800+i) s→L.length<i+m→i≤L.length→yR m M text (k:Int) s L (L.length:Int) (i:Int)=some true
 |0,i,s,_,hm,hi=>by omega
 |m+1,i,s,h,hm,hi=>by
  have hFU:=FU';show aGm (yR m) _ _ _ _ _ _ _=_;unfold aGm
  by_cases c:i<L.length
  · obtain ⟨s',r,I,h',w⟩:=h.does om (hA _ (List.getElem_mem c)) (hT _ (List.getElem_mem c));rw [bt (by simpa using c),eC c,aA,I,aA,wr1 i om];exact bC7 M k text hk hk' hA' hT' ht L hL hA hT m (i+1) s' ⟨h'.ok,h'.nb,by have:=h'.e;omega⟩ om c
  ·
   rw [bf (by simpa using c)]
   have fin: ∀(bad:aF) (E:Nat),Rc E bad→((jB s (bK.mk 14 0 0 ⟨#[]⟩)).bind fun ⟨r32,r33⟩=>
    ((bAr 9 r33).bind fun ⟨r38,r39⟩=>
    ((jB bad (bK.mk 15 0 0 r38)).bind fun ⟨r41,r42⟩=>
    ((dX ((!r39)==false) 0 (oF r42)).bind fun r44=>
    ((dX (((!r39)||(r44 !=0))==false) false (sB r41 s)).bind fun r46=>
    (bif (((!r39)||(r44 !=0))||(!r46)) then
     some false
    else
     ((slc M 0 (k:Int)).bind fun l48=>
     uZ aZ s r41 l48 (l48.length:Int) 0)))))))=some true:=fun bad E hb=>by
    rw [h.saved,aA];simp only [];have e:bAr 9 (GA.s 9 (qG (bytesOf s)))=some (qG (bytesOf s),true):=rfl;rw [e,aA];simp only [];rw [hb.back h,aA];simp only [];rw [gt' (by rfl),aL6,aA,gt' (by rfl),h.same,aA,bf (by rfl),aFi rfl hk,aA];exact bC8 (M.take k) (by simp;omega) hA' hT' aZ 0 s ⟨h.ok,h.nb,by have:=h.e;omega⟩ (by simp;omega) (Nat.zero_le _)
   rcases h.restore 0 0 ht with I|⟨bad,I,hb⟩
   · rw [I,aA];simp only [];rw [aL6,aA,gt' (by rfl),aA,gt' (by rfl),h.same,aA,gt' (by rfl),aA,gf' (by rfl),aA,bf (by rfl)];exact fin s _ h
   · rw [I,aA];simp only [];rw [aL6,aA,gf' (by rfl),aA,gf' (by rfl),aA,gt' (by rfl),aA,gt' (by rfl),hb.right,aA,bf (by rfl)];exact fin bad _ hb
theorem aWz(c:bZ)(words:List Int)(l m:List bK)(text:ByteArray)(hw:W64 words)(hb:words.length≤1048576)(hA: ∀x,x∈l→0≤x.A∧x.A<18446744073709551616)(hA': ∀x,x∈m→0≤x.A∧x.A<18446744073709551616):aAs c words l m text=some true:=by
 have hFU:=FU';obtain ⟨r2,s,w,e,f1,f2,f3⟩:=start hw hb l (c:=c) (most:=20) om;obtain ⟨r4,g1,g2⟩:=bNx c m (most:=20) om;have f1':rL c l 20=some r2:=f1;have g1':rL c m 20=some r4:=g1;unfold aAs;rw [f1',aA,g1',aA,f2,aA];simp only []
 by_cases ht:1000<text.size
 · rw [bt (by simp;omega),aS2,aA]
 rcases f3 with f3|⟨f3,n,rfl,n1,n2,R,h1,h2⟩
 ·
  rw [bt (by
   simp only [Bool.or_eq_true] at f3⊢;rcases f3 with f3|f3
   · exact .inl (.inl (.inl f3))
   · exact .inl (.inr f3)),aS2,aA]
 rcases g2 with rfl|⟨k,rfl,k1,k2,_⟩
 · rw [bt (by simp),aS2,aA]
 ·
  rw [bf (by
   simp only [Bool.or_eq_false_iff] at f3⊢;exact ⟨⟨⟨f3.1,by simp⟩,f3.2⟩,by simp;omega⟩),aFi rfl n1,aA]
  exact bC7 m k text k1 om (fun x hx=>hA' x (List.mem_of_mem_take hx)) (fun x hx=>by have:=bAo c m om g1 x hx;omega) om (l.take n) (by simp;omega) (fun x hx=>hA x (List.mem_of_mem_take hx)) (fun x hx=>by have:=bAo c l om f1 x hx;omega) aZ 0 s (bW8 R h2 _) (by simp;omega) (Nat.zero_le _)
theorem aX0(c:bZ)(words:List Int)(l m:List bK)(text:ByteArray){A P B B' C C' D:Prop}(_:A)(w:(∀y,y∈words→(Lit.int .u64 y).wf=true)∧P)
 (a:(∀y,y∈l→((Lit.int .i64 y.Do).wf=true)∧((Lit.int .u64 y.A).wf=true)∧((Lit.int .u64 y.B).wf=true)∧(y.Text.size≤maxLen))∧B)
 (a':(∀y,y∈m→((Lit.int .i64 y.Do).wf=true)∧((Lit.int .u64 y.A).wf=true)∧((Lit.int .u64 y.B).wf=true)∧(y.Text.size≤maxLen))∧B') (_:D) (b:words.length≤1048576) (_:C) (_:C'):aAs c words l m text=some true:=
 aWz c words l m text (cEf w) b (fun x hx=>wfk (a.1 x hx).2.1) fun x hx=>wfk (a'.1 x hx).2.1
end Go.Proofs.YtkdohhmacfoolaaGreat
