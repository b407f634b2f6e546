/- Facts. No condition. -/
import Derived.Test.YtkdohhmacfoolaaGreatDoorPfSoR
set_option linter.unusedVariables false
set_option linter.unusedSimpArgs false
set_option maxRecDepth 20000
set_option maxHeartbeats 1000000
namespace Go.Proofs.YtkdohhmacfoolaaGreatDoor
open Go Go.AM Go.Pl Go.Pt Go.Ix Go.Sort
inductive aZl:GA→Prop
  |b (x:Bool):aZl (GA.b 4 x)
  |i (n:Nat):n≤2000→aZl (GA.i 3 .i64 (n:Int))
  |lu (l:List Int):l.length≤1024∧AR l→aZl (GA.lu 24 l)
  |lp (l:List bG):(l.length≤1024∧ ∀p,p∈l→(0≤p.x0∧p.x0<18446744073709551616)∧0≤p.x1∧p.x1<18446744073709551616)→aZl (GA.lp 157 l)
  |s (l:List Int):BB l∧1≤l.length∧l.length≤100000→aZl (GA.s 9 (jS l))
section
variable {c:bC}{s:aD}{m:aN}(R:Rel c s m)
include R
omit R in
theorem bP0(nb:NB s)(v:Int):0≤kv s.Slots v∧kv s.Slots v<18446744073709551616:=by
 unfold kv
 cases h:s.Slots[v.toNat]? with
 |none=>simp
 |some x=>exact nb.k x (List.mem_of_getElem? h)
omit R in
theorem bAy(nb:NB s){l:List Int}(hl:l.length≤1024)(hr: ∀v,v∈l→0≤v∧v<s.Slots.length):Tot (qH s l) fun r=>r.length≤1024∧AR r:=by
 have hFU:=FU';unfold qH;have:=bFa s l hl hr aW 0 [] om (Nat.zero_le _) (Nat.le_refl _);rw [show ((0:Nat):Int)=0 from rfl] at this;rw [this,List.drop_zero,List.nil_append];have hf:=List.length_filter_le (usd s.Slots) l;simp only []
 obtain ⟨r,e,hr',ha⟩:=bQz (l:=(l.filter (usd s.Slots)).map (kv s.Slots)) (by rw [List.length_map];omega) (fun x hx=>by
  obtain ⟨v,_,rfl⟩:=List.mem_map.1 hx;exact bP0 nb v)
 rw [e];refine ⟨r,?_,by rw [hr',List.length_map];omega,ha⟩;simp [aAb,hr']
theorem bAz(nb:NB s)(p:Int→Int)(u:Int):Tot (qH s (trl s.Graph.Config.N p u)) fun r=>r.length≤1024∧AR r:=by
 have e:=R.ok.len;have n2:=R.ok.v.n2;refine bAy nb ?_ fun v hv=>?_
 · have:=bHv s.Graph.Config.N.toNat 0 p (p u);unfold trl;omega
 · have:=aKn.1 hv;omega
theorem bAo(hS:s.Slots.length≤1024): ∀(n i:Nat) (out:List bG),(kf s.Graph).length<i+n→i≤(kf s.Graph).length→out.length≤i→
 sV n s out (kf s.Graph) ((kf s.Graph).length:Int) (i:Int)=(let r:=out++((en (kf s.Graph)).drop i).map (aDy s.Slots);(aAb (fun x=>x.length) r.length (aC2 r)).bind fun l12=>some l12)
 |0,i,out,hm,hi,_=>by omega
 |n+1,i,out,hm,hi,ho=>by
  have kl:=bOy R;show aDp (sV n) _ _ _ _ _=_;unfold aDp
  by_cases c:i<(kf s.Graph).length
  ·
   obtain ⟨h1,h2,h3,u1,u2⟩:=R.edge (bFg (List.getElem_mem c));have k1:=bFb u1;have k2:=bFb u2;have i1:idx s.Slots (kf s.Graph)[i].U=some ⟨true,kv s.Slots (kf s.Graph)[i].U⟩:=by rw [wZ (k:=(kf s.Graph)[i].U.toNat) om];exact k1
   have i2:idx s.Slots (kf s.Graph)[i].V=some ⟨true,kv s.Slots (kf s.Graph)[i].V⟩:=by rw [wZ (k:=(kf s.Graph)[i].V.toNat) om];exact k2
   have ec:i<(en (kf s.Graph)).length:=by rw [zC];exact c
   have ee:(en (kf s.Graph))[i]=((kf s.Graph)[i].U,(kf s.Graph)[i].V):=List.getElem_map (fun e:aE=>(e.U,e.V))
   have ep:(⟨if kv s.Slots (kf s.Graph)[i].V<kv s.Slots (kf s.Graph)[i].U then kv s.Slots (kf s.Graph)[i].V else kv s.Slots (kf s.Graph)[i].U,if kv s.Slots (kf s.Graph)[i].U<kv s.Slots (kf s.Graph)[i].V then kv s.Slots (kf s.Graph)[i].V else kv s.Slots (kf s.Graph)[i].U⟩:bG)=aDy s.Slots ((kf s.Graph)[i].U,(kf s.Graph)[i].V):=by
    unfold aDy pr2;simp only []
    by_cases q:kv s.Slots (kf s.Graph)[i].V<kv s.Slots (kf s.Graph)[i].U
    · rw [if_pos q,if_pos q,if_neg om]
    ·
     rw [if_neg q,if_neg q]
     by_cases q':kv s.Slots (kf s.Graph)[i].U<kv s.Slots (kf s.Graph)[i].V
     · rw [if_pos q']
     ·
      rw [if_neg q'];have:kv s.Slots (kf s.Graph)[i].U=kv s.Slots (kf s.Graph)[i].V:=by omega
      rw [this]
   rw [bt (oM c),cC c,aA,i1,aA,i2,aA];simp only [];rw [ep,gH (by simp;omega),aA,wr1 i om,bAo hS n (i+1) _ om c (by simp;omega),dK ec,List.map_cons,ee];simp
  · rw [bf (oL c),List.drop_eq_nil_of_le (by rw [zC];omega)];simp
theorem bLs(nb:NB s):Tot (vN s) fun r=>r.length≤1024∧ ∀p,p∈r→(0≤p.x0∧p.x0<18446744073709551616)∧0≤p.x1∧p.x1<18446744073709551616:=by
 have hFU:=FU';have kl:=bOy R;have n2:=R.ok.v.n2;unfold vN
 have tf:kG s.Graph.Config.N s.Graph.Edges s.Graph.Config.L=some (kf s.Graph):=by
  rw [tR R.gd.e,if_pos (gok R.gd.ok).tr];rfl
 have:=bAo R n2 aW 0 [] om (Nat.zero_le _) (Nat.le_refl _);rw [tf,aA,show (0:Int)=((0:Nat):Int) from rfl,this,List.drop_zero,List.nil_append];simp only [];have e:(en (kf s.Graph)).map (aDy s.Slots)=fps s:=rfl;rw [e];have hn:(fps s).length<4611686018427387904:=by rw [bGu];omega
 unfold aC2;rw [decide_eq_true hn,bt rfl];have el:((fps s).mergeSort fun a b=> !(ltOf aLr b a)).length=(fps s).length:=List.length_mergeSort ..
 have em: ∀p,p∈((fps s).mergeSort fun a b=> !(ltOf aLr b a))→(0≤p.x0∧p.x0<18446744073709551616)∧0≤p.x1∧p.x1<18446744073709551616:=fun p hp=>by
  obtain ⟨q,_,rfl⟩:=List.mem_map.1 (List.mem_mergeSort.1 hp);have a:=bP0 nb q.1;have b:=bP0 nb q.2;unfold aDy pr2;split
  · exact ⟨b,a⟩
  · exact ⟨a,b⟩
 generalize ((fps s).mergeSort fun a b=> !(ltOf aLr b a))=r at el em;refine ⟨r,by simp [aAb,el],?_,em⟩;rw [el,bGu];omega
theorem bPx(hE:s.Graph.Edges.length<10000)(K:KU m):NB s:=by
 have g:=gok R.gd.ok;have g1:=g.n1;have g2:=g.n2;have g3:=g.l1;have g4:=g.l2;have g5:=g.r1;have g6:=g.r2;have n2:=R.ok.v.n2;refine ⟨⟨by omega,by omega,by omega,by omega,by omega,by omega⟩,fun x hx=>?_,fun x hx=>?_,fun x hx=>?_,?_,by omega,by omega⟩
 · have h1:=g.hs;unfold hsB at h1;rw [List.all_eq_true] at h1;have h2:=h1 x hx;simp only [Bool.and_eq_true,decide_eq_true_eq] at h2;have h3:HOK x:=R.gd.hw x hx;obtain ⟨h4,h5⟩:=h3;omega
 ·
  cases u:x.Used with
  |false=>rw [R.ok.v.z x hx u];omega
  |true=>
   obtain ⟨j,hj,e⟩:=List.mem_iff_getElem.1 hx;refine K _ ((R.mem _).2 ⟨j,?_⟩);unfold At;rw [List.getElem?_eq_getElem hj,e];cases x with|mk a b=>simp only at u;subst u;rfl
 · have h1:=uN.1 ((aIc.1 g.tr).2.2.ok x hx);omega
 · have h1:=g.hl;have h2:s.Graph.Config.L*s.Graph.Config.R≤16*8:=Int.mul_le_mul g4 g6 om om;omega
theorem bRy(hE:s.Graph.Edges.length<10000)(nb:NB s){d a b:Int}{vA vB:Int}{bA bB:Bool}(h5:5≤d)(h14:d≤14)(fA:Fd s a vA bA)(fB:Fd s b vB bB){rA rB:Bool}(eA:qN d=some rA)(eB:qO d=some rB)(ok:((rA&& !bA)||(rB&& !bB))=false):Tot (oJ s d vA vB) aZl:=by
 have hFU:=FU';have n2:=R.ok.v.n2;have el:=R.ok.len
 have inA:rA=true→0≤vA∧vA<s.Graph.Config.N:=fun h=>by
  subst h;rcases fA.c with ⟨rfl,j,rfl,hj⟩|⟨rfl,_,_⟩
  · exact R.lt hj
  · simp at ok
 have inB:rB=true→0≤vB∧vB<s.Graph.Config.N:=fun h=>by
  subst h;rcases fB.c with ⟨rfl,j,rfl,hj⟩|⟨rfl,_,_⟩
  · exact R.lt hj
  · simp at ok
 clear fA fB ok;have n0:=R.n0;unfold oJ;rw [bT8 R,aA];have cases10:d=5∨d=6∨d=7∨d=8∨d=9∨d=10∨d=11∨d=12∨d=13∨d=14:=by omega
 rcases cases10 with rfl|rfl|rfl|rfl|rfl|rfl|rfl|rfl|rfl|rfl
 ·
  cases eA;cases eB;rw [bt (by rfl),aBo om,aA]
  cases fnd (kP vA vB) s.Graph.Edges 0 with
  |none=>exact tS (.b _)
  |some k=>exact tS (.b _)
 ·
  cases eA;obtain ⟨i0,i1⟩:=inA rfl;obtain ⟨i,rfl⟩: ∃i:Nat,vA=(i:Int):=⟨vA.toNat,by omega⟩
  unfold rP;rw [bf (by rfl),bt (by rfl),aHd R.gd.ok om i0 i1,aA,aA];have hl:=bAu (R.near_nodup (i:Int)) fun v hv=>⟨(R.near_usd hv).1,(R.near_usd hv).2.1⟩
  exact tS (.i _ om)
 ·
  cases eA;obtain ⟨i0,i1⟩:=inA rfl;obtain ⟨i,rfl⟩: ∃i:Nat,vA=(i:Int):=⟨vA.toNat,by omega⟩
  have hl:=bAu (R.near_nodup (i:Int)) fun v hv=>⟨(R.near_usd hv).1,(R.near_usd hv).2.1⟩
  rw [bf (by rfl),bf (by rfl),bt (by rfl),aHd R.gd.ok om i0 i1,aA];exact tB (bAy nb om fun v hv=>⟨(R.near_usd hv).1,(R.near_usd hv).2.1⟩) fun r hr=>tS (.lu _ hr)
 · cases eA;cases eB;have li:=inA rfl;have lj:=inB rfl;rw [bf (by rfl),bf (by rfl),bf (by rfl),bt (by rfl),aYp li.1 li.2,aA,aYp lj.1 lj.2,aA];exact tS (.b _)
 · cases eA;have li:=inA rfl;rw [bf (by rfl),bf (by rfl),bf (by rfl),bf (by rfl),bt (by rfl),aHn R.n0.1 R.n0.2.1 R.kfr li.1 li.2,aA];exact tB (bAz R nb _ _) fun r hr=>tS (.i _ om)
 · have:=aVp (n:=s.Graph.Config.N) (jD (en (kf s.Graph))) om R.ok.len aW 0 0 om (Nat.zero_le _) (Nat.le_refl _);rw [show ((0:Nat):Int)=0 from rfl,List.drop_zero,Nat.zero_add] at this;rw [bf (by rfl),bf (by rfl),bf (by rfl),bf (by rfl),bf (by rfl),bt (by rfl)];unfold zF;have e:nL aW s 0 (pt s.Graph.Config.N (kf s.Graph)) ((pt s.Graph.Config.N (kf s.Graph)).length:Int) 0=some ((bZr s (jD (en (kf s.Graph))):Nat):Int):=this;rw [e,aA];refine tS (.i _ ?_);unfold bZr;have:=List.countP_le_length (p:=fun v=>v==jD (en (kf s.Graph)) v&&usd s.Slots v) (l:=vs s.Graph.Config.N);rw [bG6] at this;omega
 · cases eA;have li:=inA rfl;rw [bf (by rfl),bf (by rfl),bf (by rfl),bf (by rfl),bf (by rfl),bf (by rfl),bt (by rfl),aHn R.n0.1 R.n0.2.1 R.kfr li.1 li.2,aA];exact tB (bAz R nb _ _) fun r hr=>tS (.lu _ hr)
 · rw [bf (by rfl),bf (by rfl),bf (by rfl),bf (by rfl),bf (by rfl),bf (by rfl),bf (by rfl),bt (by rfl)];exact tB (bLs R nb) fun r hr=>tS (.lp _ hr)
 · rw [bf (by rfl),bf (by rfl),bf (by rfl),bf (by rfl),bf (by rfl),bf (by rfl),bf (by rfl),bf (by rfl),bt (by rfl),aUe R.gd.e R.gd.h,aA];exact tS (.b _)
 · rw [bf (by rfl),bf (by rfl),bf (by rfl),bf (by rfl),bf (by rfl),bf (by rfl),bf (by rfl),bf (by rfl),bf (by rfl),aRu nb (aZ9 R n2),aA];have e1:=aOk (s:=s);have e2:=nb.nh;have e3:=nb.ns;have e4:=nb.ne;exact tS (.s _ ⟨(bGn s).app (mX _ _),by omega,by omega⟩)
end
def Par{α:Type}(o:Option α)(P:α→Prop):Prop:= ∀x,o=some x→P x
theorem pS{α:Type}{P:α→Prop}{x:α}(h:P x):Par (some x) P:=fun y e=>by cases e;exact h
theorem pB{α β:Type}{Q:β→Prop}{o:Option α}{f:α→Option β}(k: ∀x,Par (f x) Q):Par (o.bind f) Q:=fun y e=>by
 cases o with
 |none=>cases e
 |some x=>exact k x y e
theorem pC{α:Type}{P:α→Prop}{b:Bool}{x y:Option α}(h:Par x P)(k:Par y P):Par (bif b then x else y) P:=by cases b;exact k;exact h
theorem bNg{m:aN}{d a b:Int} :Par (gX m d a b) fun x=>x.2≤100:=by
 unfold gX;refine pB fun _=>pC (pC (pS (by simp)) (pC (pS (by simp)) (pB fun _=>pB fun _=>pS (by simp)))) (pB fun _=>pC (pS (by simp)) (pC (pB fun _=>pC (pS (by simp)) (pB fun _=>pB fun _=>pB fun _=>pB fun _=>pS (by simp))) (pB fun _=>pB fun _=>pC (pC (pS (by simp)) (pB fun _=>pB fun _=>pB fun _=>pB fun _=>pS (by simp))) (pC (pS (by simp)) (pC (pS (by simp)) (pB fun _=>pB fun _=>pS (by simp)))))))
structure Rc(E:Nat)(s:aD):Prop where
  ok:SOK s
  nb:NB s
  e:s.Graph.Edges.length≤E
def mOf(s:aD):aN:=⟨s.Graph.Config.N,uk s.Slots,(en s.Graph.Edges).map (aDy s.Slots)⟩
section
variable {s:aD}{E:Nat}(h:Rc E s)(hE:E<9000)
include h
theorem Rc.rel:Rel s.Graph.Config s (mOf s):=
 ⟨h.ok,⟨h.ok.g,fun x hx=>⟨(h.nb.h x hx).1.1,(h.nb.h x hx).2.1⟩,by have:=h.nb.ne;omega,by have:=h.nb.nh;omega⟩,rfl,rfl,List.Perm.refl _,List.Perm.refl _⟩
theorem Rc.ku:KU (mOf s):=fun x hx=>by
 obtain ⟨j,hj⟩:=(h.rel.mem x).1 hx;exact h.nb.k _ (List.mem_of_getElem? hj)
theorem Rc.sm:SM s:=by
 have:=h.nb.nh;have:=h.nb.ns;have:=h.nb.ne;exact ⟨by omega,by omega,by omega⟩
theorem Rc.right:mP s=some true:=aZ9 h.rel h.ok.v.n2
inductive Does(s:aD)(d:Int):aD→GA→Prop
  |no:(d<1∨15<d)→Does s d s (GA.i 36 .i64 1)
  |err (f:Int):0<f∧f≤100→Does s d s (GA.i 36 .i64 f)
  |ok (s':aD):(1≤d∧d≤4∨d=15)→Does s d s' (GA.i 36 .i64 0)
  |ans (r:GA):5≤d∧d≤14→aZl r→Does s d s r
theorem Rc.restore(a b:Int){t:ByteArray}(hT:t.size≤4000):mT s ⟨15,a,b,t⟩=some (s,GA.i 36 .i64 12)∨ ∃s',mT s ⟨15,a,b,t⟩=some (s',GA.i 36 .i64 0)∧Rc 800 s':=by
 have R:=h.rel;have n2:=h.ok.v.n2;obtain ⟨vA,bA,fA⟩:=fd R n2 a;obtain ⟨vB,bB,fB⟩:=fd R n2 b;have I:=aQ5 R n2 (d:=15) (text:=t) (by rfl) fA fB (rA:=false) (rB:=false) rfl rfl;rw [bf (by rfl),bf (by rfl)] at I;unfold kE at I;simp only [] at I;rw [bf (by rfl),bf (by rfl),bf (by rfl),bf (by rfl),bt (by rfl)] at I;rcases bC8 hT with e|⟨s',e,nb,ok,_,he,_⟩
 · rw [e,aA,aA] at I;simp only [] at I;rw [bt (by rfl)] at I;exact .inl I
 · rw [e,aA,aA] at I;simp only [] at I;rw [bf (by rfl)] at I;exact .inr ⟨s',I,ok,nb,by omega⟩
theorem Rc.back{E':Nat}{u:aD}(k:Rc E' u)(a b:Int):mT s ⟨15,a,b,jS (bytesOf u)⟩=some (u,GA.i 36 .i64 0):=by
 have R:=h.rel;have n2:=h.ok.v.n2;obtain ⟨vA,bA,fA⟩:=fd R n2 a;obtain ⟨vB,bB,fB⟩:=fd R n2 b;have I:=aQ5 R n2 (d:=15) (text:=jS (bytesOf u)) (by rfl) fA fB (rA:=false) (rB:=false) rfl rfl;rw [bf (by rfl),bf (by rfl)] at I;unfold kE at I;simp only [] at I;have g:=gok k.ok.g;have g2:=g.n2;have g4:=g.l2;have g6:=g.r2;rw [bf (by rfl),bf (by rfl),bf (by rfl),bf (by rfl),bt (by rfl),aYx k.nb k.ok.len g.hl ⟨by omega,by omega,by omega⟩ k.right,aA,aA] at I;simp only [] at I;rw [bf (by rfl)] at I;exact I
include hE
theorem Rc.does{x:dL}(hA:0≤x.A∧x.A<18446744073709551616)(hT:x.Text.size≤4000): ∃s' r,mT s x=some (s',r)∧Rc (max (E+1) 800) s'∧Does s x.Do s' r:=by
 obtain ⟨d,a,b,t⟩:=x;simp only at hA hT⊢;have R:=h.rel;have n2:=h.ok.v.n2;have hEd:=h.e;have up:Rc (max (E+1) 800) s:=⟨h.ok,h.nb,by omega⟩
 by_cases q1:d<1∨15<d
 ·
  have e:(decide (d<1)||decide (15<d))=true:=by simpa using q1
  refine ⟨s,GA.i 36 .i64 1,?_,up,.no q1⟩;unfold mT;simp only [];rw [e,gf' (by rfl),aA,bt (by rfl)]
 have hd:(decide (d<1)||decide (15<d))=false:=by simpa using q1
 by_cases q2:d≤4
 ·
  obtain ⟨s',f,k,I,M,R',fz,e1,e2,f0⟩:=step R n2 om (d:=d) om q2 a b t;have K':=KU.change h.ku hA M;have fl:=bNg _ M;simp only at fl;refine ⟨s',_,I,⟨R'.ok,bPx R' om K',by omega⟩,?_⟩
  by_cases fz':f=0
  · subst fz';exact .ok s' (.inl ⟨by omega,q2⟩)
  · rw [(fz fz').1];exact .err f om
 obtain ⟨vA,bA,fA⟩:=fd R n2 a;obtain ⟨vB,bB,fB⟩:=fd R n2 b
 by_cases q3:d=15
 ·
  subst q3;rcases h.restore a b hT with I|⟨s',I,k⟩
  · exact ⟨_,_,I,up,.err 12 om⟩
  · exact ⟨_,_,I,⟨k.ok,k.nb,by have:=k.e;omega⟩,.ok s' (.inr rfl)⟩
 obtain ⟨rA,eA⟩: ∃rA,qN d=some rA:=⟨_,rfl⟩
 obtain ⟨rB,eB⟩: ∃rB,qO d=some rB:=⟨_,rfl⟩
 have I:=aQ5 R n2 (text:=t) hd fA fB eA eB
 cases w:((rA&& !bA)||(rB&& !bB)) with
 |true=>
  rw [w,bt (by rfl)] at I;exact ⟨_,_,I,up,.err 7 om⟩
 |false=>
  rw [w,bf (by rfl),bt (by simp;omega)] at I;obtain ⟨r,e,hr⟩:=bRy R om h.nb om om fA fB eA eB w;rw [e,aA] at I;exact ⟨_,_,I,up,.ans r ⟨by omega,by omega⟩ hr⟩
end
open Go Go.AM Go.Pl Go.Pt Go.Ix
section
variable {α β γ:Type}{P:α→Prop}{Q:β→Prop}
theorem Tot.imp{R:α→Prop}{o:Option α}(h:Tot o P)(k: ∀x,P x→R x):Tot o R:=by
 obtain ⟨x,e,hx⟩:=h;exact ⟨x,e,k x hx⟩
end
theorem aFn{l:List Int}{i:Nat}(h:i<l.length):0≤(i:Int)∧(i:Int)<l.length:=by omega
theorem aU1: ∀(m:Nat) (a:List Int),a.length<m→a.length≤3000→Tot (vQ m a) fun r=>r.length≤a.length
 |0,a,h,_=>by omega
 |m+1,a,h,ha=>by
  show Tot (aFp (vQ m) a) _;unfold aFp;refine tG (fun h0=>?_) fun x=>tC (fun h1=>?_) fun _=>?_
  · simp only [beq_iff_eq,decide_eq_true_eq] at h0;refine tI' ?_;rw [wr0 om om];omega
  ·
   simp only [Bool.and_eq_true,decide_eq_true_eq] at h1;have e:IntKind.i64.wrap ((a.length:Int)-1)=((a.length-1:Nat):Int):=by rw [wr0 om om];omega
   rw [aE8 e om,aA];have hl:(a.take (a.length-1)).length=a.length-1:=by rw [List.length_take];omega
   exact (aU1 m _ om om).imp fun r hr=>by omega
  · unfold qY bLz;rw [if_pos rfl,aE8 rfl (Nat.le_refl _),aA,aA];exact tS (by rw [List.length_take];omega)
theorem aD7(n:Int):Tot (aB7 n) fun r=>r.length≤2:=by
 have hFU:=FU';unfold aB7 uM;exact tB (aU1 aW _ (by simp;omega) (by simp)) fun r hr=>tS (by simpa using hr)
theorem aAw{a:List Int}(ha:a.length≤3000):Tot (mY a) fun _=>True:=by
 unfold mY;refine tG (fun h0=>?_) fun x=>tS trivial;simp only [beq_iff_eq,Bool.and_eq_true,decide_eq_true_eq,beq_eq_false_iff_ne] at h0;refine tI' ?_;rw [wr0 om om];omega
theorem aVl{a:List Int}(ha:a.length≤3000):Tot (uL a) fun r=>r.1.length≤64:=by
 have hFU:=FU';unfold uL uM;refine tB (aU1 aW _ om ha) fun r hr=>tC (fun _=>tS (by simp)) fun h=>tS ?_;rw [decide_eq_false_iff_not] at h;show r.length≤64;omega
section
variable {a b:List Int}(ha:a.length≤1000)(hb:b.length≤1000)
include ha hb
theorem bPr{m:Nat}{x:Int}{i:Nat}(hi:i<a.length)(ih: ∀p:List Int,p.length=a.length+b.length→Tot (rR m b p a (a.length:Int) ((i+1:Nat):Int)) fun r=>r.1.length≤64):
 ∀(n j:Nat) (p:List Int) (c:Int),b.length<j+n→j≤b.length→p.length=a.length+b.length→Tot (aGk (rR m) n b p (i:Int) x c a (a.length:Int) (i:Int) b (b.length:Int) (j:Int)) fun r=>r.1.length≤64
 |0,j,p,c,h,h',_=>by omega
 |n+1,j,p,c,h,h',hp=>by
  show Tot (aP4 (rR m) (aGk (rR m) n) _ _ _ _ _ _ _ _ _ _ _) _;unfold aP4
  by_cases q:j<b.length
  ·
   have e:IntKind.i64.wrap ((i:Int)+(j:Int))=((i+j:Nat):Int):=by rw [wr0 om om];omega
   rw [bt (oM q),e,wr1 j om];exact tI (aFn q) fun y=>tI (aFn om) fun y=>tI (aFn om) fun y=>tT (aFn om) fun p' hp'=>bPr hi ih n (j+1) p' _ om q om
  ·
   have e:IntKind.i64.wrap ((i:Int)+(b.length:Int))=((i+b.length:Nat):Int):=by rw [wr0 om om];omega
   rw [bf (oL q),e,wr1 i om];exact tI (aFn om) fun y=>tT (aFn om) fun p' hp'=>ih p' om
theorem bPq: ∀(m i:Nat) (p:List Int),a.length<i+m→i≤a.length→p.length=a.length+b.length→Tot (rR m b p a (a.length:Int) (i:Int)) fun r=>r.1.length≤64
 |0,i,p,h,h',_=>by omega
 |m+1,i,p,h,h',hp=>by
  have hFU:=FU';show Tot (aP3 (rR m) _ _ _ _ _) _;unfold aP3
  by_cases q:i<a.length
  · rw [bt (oM q)];refine tI (aFn q) fun x=>?_;exact bPr ha hb q (fun p hp=>bPq m (i+1) p om q hp) aW 0 p 0 om (Nat.zero_le _) hp
  · rw [bf (oL q)];exact tB (aVl om) fun r hr=>tS hr
theorem aYc:Tot (aDs a b) fun r=>r.1.length≤64:=by
 have hFU:=FU';unfold aDs;refine tB (aAw om) fun r _=>tG (fun _=>aAw om) fun r'=>tC (fun _=>tS (by simp)) fun _=>?_;have e:IntKind.i64.wrap ((a.length:Int)+(b.length:Int))=((a.length+b.length:Nat):Int):=by rw [wr0 om om];omega
 rw [e,aHi rfl (Int.le_refl _) om,aA];exact bPq ha hb aW 0 _ om (Nat.zero_le _) (by simp)
omit ha hb in
theorem bMw: ∀(m i:Nat) (s:List Int) (c:Int),s.length<i+m→i≤s.length→s.length≤2000→Tot (rQ m a b s c (s.length:Int) (i:Int)) fun r=>r.1.length≤64
 |0,i,s,c,h,h',_=>by omega
 |m+1,i,s,c,h,h',hs=>by
  show Tot (aP0 (rQ m) _ _ _ _ _ _) _;unfold aP0
  by_cases q:i<s.length
  ·
   have j3: ∀t,Tot (aGi (rQ m) a b s (i:Int) t (s.length:Int) (i:Int)) fun r=>r.1.length≤64:=fun t=>by
    unfold aGi aP1;rw [wr1 i om];exact tI (aFn q) fun x=>tT (aFn q) fun s' hs'=>by rw [←hs'];exact bMw m (i+1) s' _ om om om
   have j2: ∀t,Tot (aGh (rQ m) a b s (i:Int) t (s.length:Int) (i:Int)) fun r=>r.1.length≤64:=fun t=>by
    unfold aGh;refine tC (fun h=>?_) fun _=>j3 _;rw [decide_eq_true_eq] at h;exact tI ⟨by omega,h⟩ fun x=>j3 _
   rw [bt (oM q)];refine tC (fun h=>?_) fun _=>j2 _;rw [decide_eq_true_eq] at h;exact tI ⟨by omega,h⟩ fun x=>j2 _
  · rw [bf (oL q)];exact tB (aVl om) fun r hr=>tS hr
theorem bRr:Tot (aJj a b) fun r=>r.1.length≤64:=by
 have hFU:=FU';unfold aJj;refine tB (aAw om) fun r _=>tG (fun _=>aAw om) fun r'=>tC (fun _=>tS (by simp)) fun _=>?_
 have e: ∃k:Nat,k≤1001∧IntKind.i64.wrap ((if (a.length:Int)<(b.length:Int) then (b.length:Int) else (a.length:Int))+1)=(k:Int):=by
  split
  · exact ⟨b.length+1,by omega,by rw [wr1 _ om]⟩
  · exact ⟨a.length+1,by omega,by rw [wr1 _ om]⟩
 obtain ⟨k,hk,e⟩:=e;rw [e,aHi rfl (Int.le_refl _) om,aA];exact bMw aW 0 _ _ (by simp;omega) (Nat.zero_le _) (by simp;omega)
omit hb in
theorem bNj(hl:a.length=b.length): ∀(m i:Nat),i<m→i≤a.length→Tot (aGj m a b ((i:Int)-1)) fun _=>True
 |0,i,h,_=>by omega
 |m+1,i,h,hi=>by
  show Tot (aP2 (aGj m) _ _ _) _;unfold aP2
  have cc: ∀x y,Tot (mW x y) fun _=>True:=fun x y=>by
   unfold mW oV;rw [aA,aA];refine tC (fun _=>tC (fun _=>tS trivial) fun _=>tS trivial) fun _=>tC (fun _=>tS trivial) fun _=>tC (fun _=>tS trivial) fun _=>tC (fun _=>tS trivial) fun _=>tS trivial
  refine tC (fun h0=>?_) fun _=>tS trivial;rw [decide_eq_true_eq] at h0;have e:IntKind.i64.wrap ((i:Int)-1-1)=((i-1:Nat):Int)-1:=by rw [wr0 om om];omega
  rw [e];exact tI ⟨h0,by omega⟩ fun x=>tI ⟨h0,by omega⟩ fun y=>tC (fun _=>tI ⟨h0,by omega⟩ fun x=>tI ⟨h0,by omega⟩ fun y=>tB (cc _ _) fun _ _=>tS trivial) fun _=>bNj hl m (i-1) om om
theorem bSh:Tot (aJk a b) fun _=>True:=by
 have hFU:=FU';unfold aJk;refine tB (aAw om) fun r _=>tG (fun _=>aAw om) fun r'=>tC (fun _=>tS trivial) fun _=>tC (fun _=>?_) fun h=>?_
 · unfold wU vG;rw [aA,aA];exact tB (P:=fun _=>True) (tC (fun _=>tC (fun _=>tS trivial) fun _=>tS trivial) fun _=>tC (fun _=>tS trivial) fun _=>tC (fun _=>tS trivial) fun _=>tC (fun _=>tS trivial) fun _=>tS trivial) fun _ _=>tS trivial
 ·
  have hl:a.length=b.length:=by
   have:(a.length:Int)=(b.length:Int):=by simpa using h
   omega
  rw [wr0 om om];exact bNj ha hl aW a.length om (Nat.le_refl _)
omit hb in
theorem bQh{n:Int}(hn:n≤1024): ∀(m i:Nat) (p:List Int),1030<i+m→p.length≤64→i≤1025→Tot (aGl m a p n (i:Int)) fun r=>r.1.length≤64
 |0,i,p,h,hp,hi=>by omega
 |m+1,i,p,h,hp,hi=>by
  show Tot (aP5 (aGl m) _ _ _ _) _;unfold aP5;refine tC (fun h0=>?_) fun _=>tS hp;rw [decide_eq_true_eq] at h0;rw [wr1 i om];exact tB (aYc om ha) fun r hr=>tC (fun _=>tS (by simp)) fun _=>bQh hn m (i+1) r.1 om hr om
omit hb in
theorem aYo(n:Int):Tot (aDt a n) fun r=>r.1.length≤64:=by
 have hFU:=FU';unfold aDt;refine tB (aAw om) fun r _=>tC (fun _=>tS (by simp)) fun h=>tB (aD7 1) fun p hp=>?_;simp only [Bool.or_eq_false_iff,decide_eq_false_iff_not] at h;exact bQh ha om aW 0 p om om om
end
theorem bBx(a:Int){n:Int}(hn:n≤8): ∀(m i:Nat) (p:Int),10<i+m→i≤9→Tot (zT m a p n (i:Int)) fun _=>True
 |0,i,p,h,hi=>by omega
 |m+1,i,p,h,hi=>by
  show Tot (aHr (zT m) _ _ _ _) _;unfold aHr;refine tC (fun h0=>?_) fun _=>tS trivial;rw [decide_eq_true_eq] at h0;rw [wr1 i om];exact bBx a hn m (i+1) _ om om
theorem aP8(a:Int){n:Int}(hn:n≤8):Tot (yC a n) fun _=>True:=by
 have hFU:=FU';exact bBx a hn aW 0 1 om om
theorem bG7(n m:Int){l r:Int}(hr:r≤8):Tot (zV n m l r) fun x=>x.1.length≤64:=by
 unfold zV nW qI;rw [aA];refine tG (fun _=>tS trivial) fun _=>tC (fun _=>tS (by simp)) fun _=>tB (aP8 8 hr) fun x _=>tB (aD7 x) fun p hp=>tB (aP8 7 hr) fun y _=>tB (aD7 y) fun q hq=>tB (bRr om om) fun e he=>tC (fun _=>tS (by simp)) fun _=>?_;exact tB (aYo om l) fun w hw=>tC (fun _=>tS (by simp)) fun _=>tB (aD7 _) fun z hz=>tB (aYc om om) fun v hv=>tS hv
theorem bMf(l:Int){r:Int}(hr:r≤8):Tot (aBs l r) fun x=>x.1.length≤64:=by
 unfold aBs qI;rw [aA];exact tC (fun _=>tS (by simp)) fun _=>tB (aP8 8 hr) fun x _=>tB (aD7 _) fun p hp=>tB (aYo om l) fun w hw=>tS hw
theorem bE8(n m k l:Int){r:Int}(hr:r≤8):Tot (zS n m k l r) fun _=>True:=by
 unfold zS nW aAv qI;rw [aA];refine tG (fun _=>tS trivial) fun _=>tG (fun _=>tS trivial) fun _=>tC (fun _=>tS trivial) fun _=>tB (bG7 n m hr) fun x hx=>tC (fun _=>tS trivial) fun _=>tB (bMf l hr) fun y hy=>tC (fun _=>tS trivial) fun _=>tB (aD7 2) fun z hz=>?_;exact tB (aYo om k) fun u hu=>tC (fun _=>tS trivial) fun _=>tB (aYc om om) fun v hv=>tG (fun _=>bSh om om) fun _=>tS trivial
theorem bHh(n m k:Int)(z:bC){M:Nat}{l:Int}(ih:Tot (mL M n m k z (IntKind.i64.wrap (l+1))) fun x=>x.2=0∨x.2=1∨x.2=6): ∀(m' i:Nat),10<i+m'→i≤9→Tot (aBr (mL M) m' n m k z l (i:Int)) fun x=>x.2=0∨x.2=1∨x.2=6
 |0,i,h,hi=>by omega
 |m'+1,i,h,hi=>by
  show Tot (aJt (mL M) (aBr (mL M) m') _ _ _ _ _ _) _;unfold aJt;refine tC (fun h0=>?_) fun _=>ih;rw [decide_eq_true_eq] at h0;rw [wr1 i om];exact tB (bE8 n m k l h0) fun b _=>tC (fun _=>tS (.inl rfl)) fun _=>bHh n m k z ih m' (i+1) om om
theorem bHg(n m k:Int)(z:bC): ∀(m' i:Nat),20<i+m'→i≤17→Tot (mL m' n m k z (i:Int)) fun x=>x.2=0∨x.2=1∨x.2=6
 |0,i,h,hi=>by omega
 |m'+1,i,h,hi=>by
  have hFU:=FU';show Tot (aJs (mL m') _ _ _ _ _) _;unfold aJs;refine tC (fun h0=>?_) fun _=>tS (.inr (.inr rfl));rw [decide_eq_true_eq] at h0;exact bHh n m k z (by rw [wr1 i om];exact bHg n m k z m' (i+1) om om) aW 1 om om
theorem bQe(n m k:Int):Tot (aDz n m k) fun x=>x.2=0∨x.2=1∨x.2=6:=by
 have hFU:=FU';unfold aDz nW aAv;rw [aA];exact tG (fun _=>tS trivial) fun _=>tC (fun _=>tS (.inr (.inl rfl))) fun _=>bHg n m k _ aW 1 om om
end Go.Proofs.YtkdohhmacfoolaaGreatDoor
