/- Facts. No condition. -/
import Derived.Test.YtkdohhmacfoolaaGreatNpIxM
import Derived.Test.YtkdohhmacfoolaaGreatNpSoT
set_option linter.unusedVariables false
set_option linter.unusedSimpArgs false
set_option maxRecDepth 20000
set_option maxHeartbeats 1000000
namespace Go.Proofs.YtkdohhmacfoolaaGreat
open Go Go.AM Go.Pl Go.Pt Go.Ix
inductive aYh:GA→Prop
  |b (x:Bool):aYh (GA.b 4 x)
  |i (n:Nat):n≤2000→aYh (GA.i 3 .i64 (n:Int))
  |lu (l:List Int):l.length≤1024→aYh (GA.lu 24 l)
  |lp (l:List aC):l.length≤1024→aYh (GA.lp 40 l)
  |s (t:ByteArray):aYh (GA.s 9 t)
section
variable {c:bY}{s:aG}{m:aT}(R:Rel c s m)
include R
omit R in
theorem bA1{l:List Int}(hl:l.length≤1024)(hr: ∀v,v∈l→0≤v∧v<s.Slots.length):Tot (sZ s l) fun r=>r.length≤1024:=by
 have hFU:=FU';unfold sZ;have:=bEp s l hl hr bC 0 [] om (Nat.zero_le _) (Nat.le_refl _);rw [show ((0:Nat):Int)=0 from rfl] at this;rw [this,List.drop_zero,List.nil_append];have hf:=List.length_filter_le (usd s.Slots) l;simp only [];obtain ⟨r,e,hr'⟩:=bOg (l:=(l.filter (usd s.Slots)).map (kv s.Slots)) (by rw [List.length_map];omega);rw [e];refine ⟨r,?_,by simp only [];rw [hr',List.length_map];omega⟩;simp [sX,hr']
theorem bA2(p:Int→Int)(u:Int):Tot (sZ s (trl s.Graph.Config.N p u)) fun r=>r.length≤1024:=by
 have e:=R.ok.len;have n2:=R.ok.v.n2;refine bA1 ?_ fun v hv=>?_
 · have:=bHa s.Graph.Config.N.toNat 0 p (p u);unfold trl;omega
 · have:=aKo.1 hv;omega
theorem bKb:Tot (yT s) fun r=>r.length≤1024:=by
 have hFU:=FU';have kl:=bMw R;have n2:=R.ok.v.n2;unfold yT
 have tf:nY s.Graph.Config.N s.Graph.Edges s.Graph.Config.L=some (kf s.Graph):=by
  rw [wQ R.gd.e,if_pos (gok R.gd.ok).tr];rfl
 have:=aZp R n2 bC 0 [] om (Nat.zero_le _) (Nat.le_refl _);rw [tf,aA,show (0:Int)=((0:Nat):Int) from rfl,this,List.drop_zero,List.nil_append];simp only [];have e:(en (kf s.Graph)).map (aFh s.Slots)=fps s:=rfl;rw [e]
 obtain ⟨r,e,hr'⟩:=bKh (l:=fps s) (by rw [bGg];omega) (cmp:=fun x0 x1=>qC x0 x1) fun x y=>by
  obtain ⟨c,h,_⟩:=bPc x y;exact ⟨c,h,trivial⟩
 rw [e];refine ⟨r,?_,by simp only [];rw [hr',bGg];omega⟩;simp [sX,hr']
theorem bNr(hE:s.Graph.Edges.length<10000)(K:KU m):NB s:=by
 have g:=gok R.gd.ok;have g1:=g.n1;have g2:=g.n2;have g3:=g.l1;have g4:=g.l2;have g5:=g.r1;have g6:=g.r2;have n2:=R.ok.v.n2;refine ⟨⟨by omega,by omega,by omega,by omega,by omega,by omega⟩,fun x hx=>?_,fun x hx=>?_,fun x hx=>?_,?_,by omega,by omega⟩
 · have h1:=g.hs;unfold hsB at h1;rw [List.all_eq_true] at h1;have h2:=h1 x hx;simp only [Bool.and_eq_true,decide_eq_true_eq] at h2;have h3:HOK x:=R.gd.hw x hx;obtain ⟨h4,h5⟩:=h3;omega
 ·
  cases u:x.Used with
  |false=>rw [R.ok.v.z x hx u];omega
  |true=>
   obtain ⟨j,hj,e⟩:=List.mem_iff_getElem.1 hx;refine K _ ((R.mem _).2 ⟨j,?_⟩);unfold At;rw [List.getElem?_eq_getElem hj,e];cases x with|mk a b=>simp only at u;subst u;rfl
 · have h1:=xQ.1 ((aIn.1 g.tr).2.2.ok x hx);omega
 · have h1:=g.hl;have h2:s.Graph.Config.L*s.Graph.Config.R≤16*8:=Int.mul_le_mul g4 g6 om om;omega
theorem bP1(hE:s.Graph.Edges.length<10000)(nb:NB s){d a b:Int}{vA vB:Int}{bA bB:Bool}(h5:5≤d)(h14:d≤14)(fA:Fd s a vA bA)(fB:Fd s b vB bB){rA rB:Bool}(eA:tK d=some rA)(eB:tL d=some rB)(ok:((rA&& !bA)||(rB&& !bB))=false):Tot (sD s d vA vB) aYh:=by
 have hFU:=FU';have n2:=R.ok.v.n2;have el:=R.ok.len
 have inA:rA=true→0≤vA∧vA<s.Graph.Config.N:=fun h=>by
  subst h;rcases fA.c with ⟨rfl,j,rfl,hj⟩|⟨rfl,_,_⟩
  · exact R.lt hj
  · simp at ok
 have inB:rB=true→0≤vB∧vB<s.Graph.Config.N:=fun h=>by
  subst h;rcases fB.c with ⟨rfl,j,rfl,hj⟩|⟨rfl,_,_⟩
  · exact R.lt hj
  · simp at ok
 clear fA fB ok;have n0:=R.n0;unfold sD;rw [bPx R,aA];have cases10:d=5∨d=6∨d=7∨d=8∨d=9∨d=10∨d=11∨d=12∨d=13∨d=14:=by omega
 rcases cases10 with rfl|rfl|rfl|rfl|rfl|rfl|rfl|rfl|rfl|rfl
 ·
  cases eA;cases eB;rw [bt (by rfl),aCu om,aA]
  cases fnd (oH vA vB) s.Graph.Edges 0 with
  |none=>exact tS (.b _)
  |some k=>exact tS (.b _)
 ·
  cases eA;obtain ⟨i0,i1⟩:=inA rfl;obtain ⟨i,rfl⟩: ∃i:Nat,vA=(i:Int):=⟨vA.toNat,by omega⟩
  unfold uP;rw [bf (by rfl),bt (by rfl),aHp R.gd.ok om i0 i1,aA,aA];have hl:=aZx (R.near_nodup (i:Int)) fun v hv=>⟨(R.near_usd hv).1,(R.near_usd hv).2.1⟩
  exact tS (.i _ om)
 ·
  cases eA;obtain ⟨i0,i1⟩:=inA rfl;obtain ⟨i,rfl⟩: ∃i:Nat,vA=(i:Int):=⟨vA.toNat,by omega⟩
  have hl:=aZx (R.near_nodup (i:Int)) fun v hv=>⟨(R.near_usd hv).1,(R.near_usd hv).2.1⟩
  rw [bf (by rfl),bf (by rfl),bt (by rfl),aHp R.gd.ok om i0 i1,aA];exact tB (bA1 om fun v hv=>⟨(R.near_usd hv).1,(R.near_usd hv).2.1⟩) fun r hr=>tS (.lu _ hr)
 · cases eA;cases eB;have li:=inA rfl;have lj:=inB rfl;rw [bf (by rfl),bf (by rfl),bf (by rfl),bt (by rfl),aXp li.1 li.2,aA,aXp lj.1 lj.2,aA];exact tS (.b _)
 · cases eA;have li:=inA rfl;rw [bf (by rfl),bf (by rfl),bf (by rfl),bf (by rfl),bt (by rfl),aHz R.n0.1 R.n0.2.1 R.kfr li.1 li.2,aA];exact tB (bA2 R _ _) fun r hr=>tS (.i _ om)
 · have:=aUv (n:=s.Graph.Config.N) (nC (en (kf s.Graph))) om R.ok.len bC 0 0 om (Nat.zero_le _) (Nat.le_refl _);rw [show ((0:Nat):Int)=0 from rfl,List.drop_zero,Nat.zero_add] at this;rw [bf (by rfl),bf (by rfl),bf (by rfl),bf (by rfl),bf (by rfl),bt (by rfl)];unfold aB2;have e:rI bC s 0 (pt s.Graph.Config.N (kf s.Graph)) ((pt s.Graph.Config.N (kf s.Graph)).length:Int) 0=some ((bVp s (nC (en (kf s.Graph))):Nat):Int):=this;rw [e,aA];refine tS (.i _ ?_);unfold bVp;have:=List.countP_le_length (p:=fun v=>v==nC (en (kf s.Graph)) v&&usd s.Slots v) (l:=vs s.Graph.Config.N);rw [bFl] at this;omega
 · cases eA;have li:=inA rfl;rw [bf (by rfl),bf (by rfl),bf (by rfl),bf (by rfl),bf (by rfl),bf (by rfl),bt (by rfl),aHz R.n0.1 R.n0.2.1 R.kfr li.1 li.2,aA];exact tB (bA2 R _ _) fun r hr=>tS (.lu _ hr)
 · rw [bf (by rfl),bf (by rfl),bf (by rfl),bf (by rfl),bf (by rfl),bf (by rfl),bf (by rfl),bt (by rfl)];exact tB (bKb R) fun r hr=>tS (.lp _ hr)
 · rw [bf (by rfl),bf (by rfl),bf (by rfl),bf (by rfl),bf (by rfl),bf (by rfl),bf (by rfl),bf (by rfl),bt (by rfl),aTr R.gd.e R.gd.h,aA];exact tS (.b _)
 · rw [bf (by rfl),bf (by rfl),bf (by rfl),bf (by rfl),bf (by rfl),bf (by rfl),bf (by rfl),bf (by rfl),bf (by rfl),aY0 nb (aY8 R n2),aA];exact tS (.s _)
end
structure Rc(E:Nat)(s:aG):Prop where
  ok:SOK s
  nb:NB s
  e:s.Graph.Edges.length≤E
def mOf(s:aG):aT:=⟨s.Graph.Config.N,uk s.Slots,(en s.Graph.Edges).map (aFh s.Slots)⟩
section
variable {s:aG}{E:Nat}(h:Rc E s)(hE:E<9000)
include h
theorem Rc.rel:Rel s.Graph.Config s (mOf s):=
 ⟨h.ok,⟨h.ok.g,fun x hx=>⟨(h.nb.h x hx).1.1,(h.nb.h x hx).2.1⟩,by have:=h.nb.ne;omega,by have:=h.nb.nh;omega⟩,rfl,rfl,List.Perm.refl _,List.Perm.refl _⟩
theorem Rc.ku:KU (mOf s):=fun x hx=>by
 obtain ⟨j,hj⟩:=(h.rel.mem x).1 hx;exact h.nb.k _ (List.mem_of_getElem? hj)
theorem Rc.sm:SM s:=by
 have:=h.nb.nh;have:=h.nb.ns;have:=h.nb.ne;exact ⟨by omega,by omega,by omega⟩
theorem Rc.same:aAb s s=some true:=by rw [aX5 h.sm h.sm];simp
theorem Rc.right:qW s=some true:=aY8 h.rel h.ok.v.n2
inductive Does(s:aG)(d:Int):aG→GA→Prop
  |no:(d<1∨15<d)→Does s d s (GA.i 36 .i64 1)
  |err (f:Int):0<f→Does s d s (GA.i 36 .i64 f)
  |ok (s':aG):(1≤d∧d≤4∨d=15)→Does s d s' (GA.i 36 .i64 0)
  |ans (r:GA):5≤d∧d≤14→aYh r→Does s d s r
theorem Rc.restore(a b:Int){t:ByteArray}(hT:t.size≤4000):nF s ⟨15,a,b,t⟩=some (s,GA.i 36 .i64 12)∨ ∃s',nF s ⟨15,a,b,t⟩=some (s',GA.i 36 .i64 0)∧Rc 800 s':=by
 have R:=h.rel;have n2:=h.ok.v.n2;obtain ⟨vA,bA,fA⟩:=fd R n2 a;obtain ⟨vB,bB,fB⟩:=fd R n2 b;have I:=aS0 R n2 (d:=15) (text:=t) (by rfl) fA fB (rA:=false) (rB:=false) rfl rfl;rw [bf (by rfl),bf (by rfl)] at I;unfold oT at I;simp only [] at I;rw [bf (by rfl),bf (by rfl),bf (by rfl),bf (by rfl),bt (by rfl)] at I;rcases bB3 hT with e|⟨s',e,nb,ok,_,he,_⟩
 · rw [e,aA,aA] at I;simp only [] at I;rw [bt (by rfl)] at I;exact .inl I
 · rw [e,aA,aA] at I;simp only [] at I;rw [bf (by rfl)] at I;exact .inr ⟨s',I,ok,nb,by omega⟩
include hE
theorem Rc.does{x:dC}(hA:0≤x.A∧x.A<18446744073709551616)(hT:x.Text.size≤4000): ∃s' r,nF s x=some (s',r)∧Rc (max (E+1) 800) s'∧Does s x.Do s' r:=by
 obtain ⟨d,a,b,t⟩:=x;simp only at hA hT⊢;have R:=h.rel;have n2:=h.ok.v.n2;have hEd:=h.e;have up:Rc (max (E+1) 800) s:=⟨h.ok,h.nb,by omega⟩
 by_cases q1:d<1∨15<d
 ·
  have e:(decide (d<1)||decide (15<d))=true:=by simpa using q1
  refine ⟨s,GA.i 36 .i64 1,?_,up,.no q1⟩;unfold nF;simp only [];rw [e,gf' (by rfl),aA,bt (by rfl)]
 have hd:(decide (d<1)||decide (15<d))=false:=by simpa using q1
 by_cases q2:d≤4
 ·
  obtain ⟨s',f,k,I,M,R',fz,e1,e2,f0⟩:=step R n2 om (d:=d) om q2 a b t;have K':=KU.change h.ku hA M;refine ⟨s',_,I,⟨R'.ok,bNr R' om K',by omega⟩,?_⟩
  by_cases fz':f=0
  · subst fz';exact .ok s' (.inl ⟨by omega,q2⟩)
  · rw [(fz fz').1];exact .err f om
 obtain ⟨vA,bA,fA⟩:=fd R n2 a;obtain ⟨vB,bB,fB⟩:=fd R n2 b
 by_cases q3:d=15
 ·
  subst q3;rcases h.restore a b hT with I|⟨s',I,k⟩
  · exact ⟨_,_,I,up,.err 12 om⟩
  · exact ⟨_,_,I,⟨k.ok,k.nb,by have:=k.e;omega⟩,.ok s' (.inr rfl)⟩
 obtain ⟨rA,eA⟩: ∃rA,tK d=some rA:=⟨_,rfl⟩
 obtain ⟨rB,eB⟩: ∃rB,tL d=some rB:=⟨_,rfl⟩
 have I:=aS0 R n2 (text:=t) hd fA fB eA eB
 cases w:((rA&& !bA)||(rB&& !bB)) with
 |true=>
  rw [w,bt (by rfl)] at I;exact ⟨_,_,I,up,.err 7 om⟩
 |false=>
  rw [w,bf (by rfl),bt (by simp;omega)] at I;obtain ⟨r,e,hr⟩:=bP1 R om h.nb om om fA fB eA eB w;rw [e,aA] at I;exact ⟨_,_,I,up,.ans r ⟨by omega,by omega⟩ hr⟩
end
theorem bP0{r:GA}(h:aYh r):xP r=some (-1):=by cases h<;>rfl
theorem aWn(f:Int):xP (GA.i 36 .i64 f)=some f:=rfl
theorem aVb(L:List dC)(hL:L.length≤1000)(hA: ∀x,x∈L→0≤x.A∧x.A<18446744073709551616)(hT: ∀x,x∈L→x.Text.size≤4000): ∀(m i:Nat) (s:aG),Rc (800+i) s→L.length<i+m→i≤L.length→vN m s L (L.length:Int) (i:Int)=some true
 |0,i,s,_,hm,hi=>by omega
 |m+1,i,s,h,hm,hi=>by
  show aEe (vN m) _ _ _ _=_;unfold aEe
  by_cases c:i<L.length
  ·
   obtain ⟨s',r,I,h',w⟩:=h.does om (hA _ (List.getElem_mem c)) (hT _ (List.getElem_mem c));have next:=aVb L hL hA hT m (i+1) s' ⟨h'.ok,h'.nb,by have:=h'.e;omega⟩ om c
   have hs:=h.same;have hr:=h'.right;rw [bt (by simpa using c),eQ c,aA,I,aA];simp only [];generalize L[i].Do=d at w;rw [wr1 i om]
   cases w with
   |no q=>
    rw [aWn,aA,gt' (by simp),hs,aA,gt' (by simp),aA,gt' (by simp),hr,aA,bf (by simp),next]
   |err f q=>
    have e:decide (0<f)=true:=by simpa using q
    have e0:(f==0)=false:=by simp;omega
    rw [aWn,aA,e,gt' (by simp),hs,aA,gt' (by simp),aA,gt' (by simp [e0]),hr,aA,bf (by simp [e0]),next]
   |ok _ q=>
    have e:(decide (4<d)&&decide (d<15))=false:=by simp;omega
    rw [aWn,aA];have e1:(decide ((0:Int)<0)||(decide (4<d)&&decide (d<15)))=false:=by rw [e];rfl
    have e2:((((0:Int)==0)&&decide (4<d))&&decide (d<15))=false:=by
     rw [show ((0:Int)==0)=true from rfl,Bool.true_and];exact e
    rw [e1,gf' (by rfl),aA,gt' (by rfl),aA,e2,gt' (by rfl),hr,aA,bf (by rfl),next]
   |ans _ q k=>
    have e:(decide (4<d)&&decide (d<15))=true:=by simp;omega
    rw [bP0 k,aA,e,gt' (by rfl),hs,aA,gt' (by rfl),aA,gt' (by rfl),hr,aA,bf (by rfl),next]
  · rw [bf (by simpa using c),bFz,aA]
theorem aS4(n:Int)(l:List dC)(hl:l.length<1000000): ∀(m i:Nat) (r:Int),l.length<i+m→i≤l.length→vX m n l (l.length:Int) (i:Int)=some r→r= -1∨(r=n∧ ∀(j:Nat) (h:j<l.length),i≤j→l[j].Text.size≤1000)
 |0,i,r,hm,hi,_=>by omega
 |m+1,i,r,hm,hi,h=>by
  replace h:aCq (vX m) n l (l.length:Int) (i:Int)=some r:=h;unfold aCq at h
  by_cases c:i<l.length
  ·
   rw [bt (by simpa using c),eQ c,aA,wr1 i om] at h
   by_cases q:1000<l[i].Text.size
   · rw [bt (by simp;omega)] at h;cases h;exact .inl rfl
   ·
    rw [bf (by simp;omega)] at h;refine (aS4 n l hl m (i+1) r om c h).imp id fun ⟨h1,h2⟩=>⟨h1,fun j hj hij=>?_⟩
    by_cases e:i=j
    · subst e;omega
    · exact h2 j hj om
  · rw [bf (by simpa using c)] at h;cases h;exact .inr ⟨rfl,fun j hj hij=>by omega⟩
theorem bMg(c:bY)(l:List dC){most n:Nat}(hm:most≤1000)(h:tN c l (most:Int)=some (n:Int)): ∀x,x∈l.take n→x.Text.size≤1000:=by
 have hFU:=FU';unfold tN at h
 by_cases q:(10<c.N∨4<c.L)∨3<c.R
 · rw [bt (by simp;omega)] at h;injection h with h;omega
 ·
  have e:(if (most:Int)<(l.length:Int) then (most:Int) else (l.length:Int))=((min most l.length:Nat):Int):=by
   split<;>omega
  rw [bf (by simp;omega),e,aGh rfl om,aA] at h;rcases aS4 _ _ (by simp;omega) bC 0 _ (by simp;omega) (Nat.zero_le _) h with h1|⟨h1,h2⟩
  · omega
  ·
   have:n=min most l.length:=by omega
   subst this;intro x hx;obtain ⟨j,hj,rfl⟩:=List.mem_iff_getElem.1 hx;exact h2 j hj (Nat.zero_le _)
theorem bUs{c:bY}{s:aG}(R:Rel c s ⟨c.N,[],[]⟩)(h2:s.Graph.Edges=[])(E:Nat):Rc E s:=
 ⟨R.ok,bNr R (by rw [h2];simp) (fun x hx=>by cases hx),by rw [h2];simp⟩
theorem aTi(c:bY)(words:List Int)(l:List dC)(hw:W64 words)(hb:words.length≤1048576)(hA: ∀x,x∈l→0≤x.A∧x.A<18446744073709551616):yJ c words l=some true:=by
 have hFU:=FU';obtain ⟨r2,s,w,e,f1,f2,f3⟩:=start hw hb l (c:=c) (most:=40) om;have f1':tN c l 40=some r2:=f1;unfold yJ;rw [f1',aA,f2,aA];simp only [];rcases f3 with f3|⟨f3,n,rfl,n1,n2,R,h1,h2⟩
 · rw [bt f3,bFz,aA]
 · rw [bf f3,aGh rfl n1,aA];exact aVb (l.take n) (by simp;omega) (fun x hx=>hA x (List.mem_of_mem_take hx)) (fun x hx=>by have:=bMg c l om f1 x hx;omega) bC 0 s (bUs R h2 _) (by simp;omega) (Nat.zero_le _)
theorem aTj(c:bY)(words:List Int)(l:List dC){A P B C:Prop}(_:A)(w:(∀y,y∈words→(Lit.int .u64 y).wf=true)∧P)
 (a:(∀y,y∈l→((Lit.int .i64 y.Do).wf=true)∧((Lit.int .u64 y.A).wf=true)∧((Lit.int .u64 y.B).wf=true)∧(y.Text.size≤maxLen))∧B) (b:words.length≤1048576) (_:C):yJ c words l=some true:=
 aTi c words l (cCu w) b fun x hx=>wfk (a.1 x hx).2.1
end Go.Proofs.YtkdohhmacfoolaaGreat
