/- Facts. No condition. -/
import Derived.Test.YtkdohhmacfoolaaGreatDoorPgSoR
set_option linter.unusedVariables false
set_option linter.unusedSimpArgs false
set_option maxRecDepth 20000
set_option maxHeartbeats 1000000
namespace Go.Proofs.YtkdohhmacfoolaaGreatDoor
open Go Go.AM Go.Pl Go.Pt Go.Ix Go.Sort
inductive aZ5:GA→Prop
  |b (x:Bool):aZ5 (GA.b 4 x)
  |i (n:Nat):n≤2000→aZ5 (GA.i 3 .i64 (n:Int))
  |lu (l:List Int):l.length≤1024∧AR l→aZ5 (GA.lu 24 l)
  |lp (l:List bG):(l.length≤1024∧ ∀p,p∈l→(0≤p.x0∧p.x0<18446744073709551616)∧0≤p.x1∧p.x1<18446744073709551616)→aZ5 (GA.lp 157 l)
  |s (l:List Int):BB l∧1≤l.length∧l.length≤100000→aZ5 (GA.s 9 (fU l))
section
variable {c:aX}{s:aC}{m:aM}(R:Rel c s m)
include R
omit R in
theorem bO8(nb:NB s)(v:Int):0≤kv s.Slots v∧kv s.Slots v<18446744073709551616:=by
 unfold kv
 cases h:s.Slots[v.toNat]? with
 |none=>simp
 |some x=>exact nb.k x (List.mem_of_getElem? h)
omit R in
theorem bAi(nb:NB s){l:List Int}(hl:l.length≤1024)(hr: ∀v,v∈l→0≤v∧v<s.Slots.length):Tot (qF s l) fun r=>r.length≤1024∧AR r:=by
 have hFU:=FU';unfold qF;have:=bEn s l hl hr aY 0 [] om (Nat.zero_le _) (Nat.le_refl _);rw [show ((0:Nat):Int)=0 from rfl] at this;rw [this,List.drop_zero,List.nil_append];have hf:=List.length_filter_le (usd s.Slots) l;simp only []
 obtain ⟨r,e,hr',ha⟩:=bQ8 (l:=(l.filter (usd s.Slots)).map (kv s.Slots)) (by rw [List.length_map];omega) (fun x hx=>by
  obtain ⟨v,_,rfl⟩:=List.mem_map.1 hx;exact bO8 nb v)
 rw [e];refine ⟨r,?_,by rw [hr',List.length_map];omega,ha⟩;simp [aA9,hr']
theorem bAj(nb:NB s)(p:Int→Int)(u:Int):Tot (qF s (trl s.Graph.Config.N p u)) fun r=>r.length≤1024∧AR r:=by
 have e:=R.ok.len;have n2:=R.ok.v.n2;refine bAi nb ?_ fun v hv=>?_
 · have:=bH7 s.Graph.Config.N.toNat 0 p (p u);unfold trl;omega
 · have:=aKc.1 hv;omega
theorem bA7(hS:s.Slots.length≤1024): ∀(n i:Nat) (out:List bG),(kf s.Graph).length<i+n→i≤(kf s.Graph).length→out.length≤i→
 sU n s out (kf s.Graph) ((kf s.Graph).length:Int) (i:Int)=(let r:=out++((en (kf s.Graph)).drop i).map (aDu s.Slots);(aA9 (fun x=>x.length) r.length (aBt r)).bind fun l12=>some l12)
 |0,i,out,hm,hi,_=>by omega
 |n+1,i,out,hm,hi,ho=>by
  have kl:=bO6 R;show aDn (sU n) _ _ _ _ _=_;unfold aDn
  by_cases c:i<(kf s.Graph).length
  ·
   obtain ⟨h1,h2,h3,u1,u2⟩:=R.edge (bEr (List.getElem_mem c));have k1:=bEo u1;have k2:=bEo u2;have i1:idx s.Slots (kf s.Graph)[i].U=some ⟨true,kv s.Slots (kf s.Graph)[i].U⟩:=by rw [xK (k:=(kf s.Graph)[i].U.toNat) om];exact k1
   have i2:idx s.Slots (kf s.Graph)[i].V=some ⟨true,kv s.Slots (kf s.Graph)[i].V⟩:=by rw [xK (k:=(kf s.Graph)[i].V.toNat) om];exact k2
   have ec:i<(en (kf s.Graph)).length:=by rw [zG];exact c
   have ee:(en (kf s.Graph))[i]=((kf s.Graph)[i].U,(kf s.Graph)[i].V):=List.getElem_map (fun e:aE=>(e.U,e.V))
   have ep:(⟨if kv s.Slots (kf s.Graph)[i].V<kv s.Slots (kf s.Graph)[i].U then kv s.Slots (kf s.Graph)[i].V else kv s.Slots (kf s.Graph)[i].U,if kv s.Slots (kf s.Graph)[i].U<kv s.Slots (kf s.Graph)[i].V then kv s.Slots (kf s.Graph)[i].V else kv s.Slots (kf s.Graph)[i].U⟩:bG)=aDu s.Slots ((kf s.Graph)[i].U,(kf s.Graph)[i].V):=by
    unfold aDu pr2;simp only []
    by_cases q:kv s.Slots (kf s.Graph)[i].V<kv s.Slots (kf s.Graph)[i].U
    · rw [if_pos q,if_pos q,if_neg om]
    ·
     rw [if_neg q,if_neg q]
     by_cases q':kv s.Slots (kf s.Graph)[i].U<kv s.Slots (kf s.Graph)[i].V
     · rw [if_pos q']
     ·
      rw [if_neg q'];have:kv s.Slots (kf s.Graph)[i].U=kv s.Slots (kf s.Graph)[i].V:=by omega
      rw [this]
   rw [bt (oJ c),cN c,aA,i1,aA,i2,aA];simp only [];rw [ep,gG (by simp;omega),aA,wr1 i om,bA7 hS n (i+1) _ om c (by simp;omega),dZ ec,List.map_cons,ee];simp
  · rw [bf (oI c),List.drop_eq_nil_of_le (by rw [zG];omega)];simp
theorem bL4(nb:NB s):Tot (vU s) fun r=>r.length≤1024∧ ∀p,p∈r→(0≤p.x0∧p.x0<18446744073709551616)∧0≤p.x1∧p.x1<18446744073709551616:=by
 have hFU:=FU';have kl:=bO6 R;have n2:=R.ok.v.n2;unfold vU
 have tf:kC s.Graph.Config.N s.Graph.Edges s.Graph.Config.L=some (kf s.Graph):=by
  rw [tX R.gd.e,if_pos (gok R.gd.ok).tr];rfl
 have:=bA7 R n2 aY 0 [] om (Nat.zero_le _) (Nat.le_refl _);rw [tf,aA,show (0:Int)=((0:Nat):Int) from rfl,this,List.drop_zero,List.nil_append];simp only [];have e:(en (kf s.Graph)).map (aDu s.Slots)=fps s:=rfl;rw [e];have hn:(fps s).length<4611686018427387904:=by rw [bG6];omega
 unfold aBt;rw [decide_eq_true hn,bt rfl];have el:((fps s).mergeSort fun a b=> !(ltOf aLg b a)).length=(fps s).length:=List.length_mergeSort ..
 have em: ∀p,p∈((fps s).mergeSort fun a b=> !(ltOf aLg b a))→(0≤p.x0∧p.x0<18446744073709551616)∧0≤p.x1∧p.x1<18446744073709551616:=fun p hp=>by
  obtain ⟨q,_,rfl⟩:=List.mem_map.1 (List.mem_mergeSort.1 hp);have a:=bO8 nb q.1;have b:=bO8 nb q.2;unfold aDu pr2;split
  · exact ⟨b,a⟩
  · exact ⟨a,b⟩
 generalize ((fps s).mergeSort fun a b=> !(ltOf aLg b a))=r at el em;refine ⟨r,by simp [aA9,el],?_,em⟩;rw [el,bG6];omega
theorem bP5(hE:s.Graph.Edges.length<10000)(K:KU m):NB s:=by
 have g:=gok R.gd.ok;have g1:=g.n1;have g2:=g.n2;have g3:=g.l1;have g4:=g.l2;have g5:=g.r1;have g6:=g.r2;have n2:=R.ok.v.n2;refine ⟨⟨by omega,by omega,by omega,by omega,by omega,by omega⟩,fun x hx=>?_,fun x hx=>?_,fun x hx=>?_,?_,by omega,by omega⟩
 · have h1:=g.hs;unfold hsB at h1;rw [List.all_eq_true] at h1;have h2:=h1 x hx;simp only [Bool.and_eq_true,decide_eq_true_eq] at h2;have h3:HOK x:=R.gd.hw x hx;obtain ⟨h4,h5⟩:=h3;omega
 ·
  cases u:x.Used with
  |false=>rw [R.ok.v.z x hx u];omega
  |true=>
   obtain ⟨j,hj,e⟩:=List.mem_iff_getElem.1 hx;refine K _ ((R.mem _).2 ⟨j,?_⟩);unfold At;rw [List.getElem?_eq_getElem hj,e];cases x with|mk a b=>simp only at u;subst u;rfl
 · have h1:=uR.1 ((aI0.1 g.tr).2.2.ok x hx);omega
 · have h1:=g.hl;have h2:s.Graph.Config.L*s.Graph.Config.R≤16*8:=Int.mul_le_mul g4 g6 om om;omega
theorem bR8(hE:s.Graph.Edges.length<10000)(nb:NB s){d a b:Int}{vA vB:Int}{bA bB:Bool}(h5:5≤d)(h14:d≤14)(fA:Fd s a vA bA)(fB:Fd s b vB bB){rA rB:Bool}(eA:qM d=some rA)(eB:qN d=some rB)(ok:((rA&& !bA)||(rB&& !bB))=false):Tot (mH s d vA vB) aZ5:=by
 have hFU:=FU';have n2:=R.ok.v.n2;have el:=R.ok.len
 have inA:rA=true→0≤vA∧vA<s.Graph.Config.N:=fun h=>by
  subst h;rcases fA.c with ⟨rfl,j,rfl,hj⟩|⟨rfl,_,_⟩
  · exact R.lt hj
  · simp at ok
 have inB:rB=true→0≤vB∧vB<s.Graph.Config.N:=fun h=>by
  subst h;rcases fB.c with ⟨rfl,j,rfl,hj⟩|⟨rfl,_,_⟩
  · exact R.lt hj
  · simp at ok
 clear fA fB ok;have n0:=R.n0;unfold mH;rw [bGb R,aA];have cases10:d=5∨d=6∨d=7∨d=8∨d=9∨d=10∨d=11∨d=12∨d=13∨d=14:=by omega
 rcases cases10 with rfl|rfl|rfl|rfl|rfl|rfl|rfl|rfl|rfl|rfl
 ·
  cases eA;cases eB;rw [bt (by rfl),aBi om,aA]
  cases fnd (kN vA vB) s.Graph.Edges 0 with
  |none=>exact tS (.b _)
  |some k=>exact tS (.b _)
 ·
  cases eA;obtain ⟨i0,i1⟩:=inA rfl;obtain ⟨i,rfl⟩: ∃i:Nat,vA=(i:Int):=⟨vA.toNat,by omega⟩
  unfold rO;rw [bf (by rfl),bt (by rfl),aH5 R.gd.ok om i0 i1,aA,aA];have hl:=bAe (R.near_nodup (i:Int)) fun v hv=>⟨(R.near_usd hv).1,(R.near_usd hv).2.1⟩
  exact tS (.i _ om)
 ·
  cases eA;obtain ⟨i0,i1⟩:=inA rfl;obtain ⟨i,rfl⟩: ∃i:Nat,vA=(i:Int):=⟨vA.toNat,by omega⟩
  have hl:=bAe (R.near_nodup (i:Int)) fun v hv=>⟨(R.near_usd hv).1,(R.near_usd hv).2.1⟩
  rw [bf (by rfl),bf (by rfl),bt (by rfl),aH5 R.gd.ok om i0 i1,aA];exact tB (bAi nb om fun v hv=>⟨(R.near_usd hv).1,(R.near_usd hv).2.1⟩) fun r hr=>tS (.lu _ hr)
 · cases eA;cases eB;have li:=inA rfl;have lj:=inB rfl;rw [bf (by rfl),bf (by rfl),bf (by rfl),bt (by rfl),aYc li.1 li.2,aA,aYc lj.1 lj.2,aA];exact tS (.b _)
 · cases eA;have li:=inA rfl;rw [bf (by rfl),bf (by rfl),bf (by rfl),bf (by rfl),bt (by rfl),aHe R.n0.1 R.n0.2.1 R.kfr li.1 li.2,aA];exact tB (bAj R nb _ _) fun r hr=>tS (.i _ om)
 · have:=aVf (n:=s.Graph.Config.N) (jB (en (kf s.Graph))) om R.ok.len aY 0 0 om (Nat.zero_le _) (Nat.le_refl _);rw [show ((0:Nat):Int)=0 from rfl,List.drop_zero,Nat.zero_add] at this;rw [bf (by rfl),bf (by rfl),bf (by rfl),bf (by rfl),bf (by rfl),bt (by rfl)];unfold zJ;have e:nK aY s 0 (pt s.Graph.Config.N (kf s.Graph)) ((pt s.Graph.Config.N (kf s.Graph)).length:Int) 0=some ((bZ1 s (jB (en (kf s.Graph))):Nat):Int):=this;rw [e,aA];refine tS (.i _ ?_);unfold bZ1;have:=List.countP_le_length (p:=fun v=>v==jB (en (kf s.Graph)) v&&usd s.Slots v) (l:=vs s.Graph.Config.N);rw [bFk] at this;omega
 · cases eA;have li:=inA rfl;rw [bf (by rfl),bf (by rfl),bf (by rfl),bf (by rfl),bf (by rfl),bf (by rfl),bt (by rfl),aHe R.n0.1 R.n0.2.1 R.kfr li.1 li.2,aA];exact tB (bAj R nb _ _) fun r hr=>tS (.lu _ hr)
 · rw [bf (by rfl),bf (by rfl),bf (by rfl),bf (by rfl),bf (by rfl),bf (by rfl),bf (by rfl),bt (by rfl)];exact tB (bL4 R nb) fun r hr=>tS (.lp _ hr)
 · rw [bf (by rfl),bf (by rfl),bf (by rfl),bf (by rfl),bf (by rfl),bf (by rfl),bf (by rfl),bf (by rfl),bt (by rfl),aU3 R.gd.e R.gd.h,aA];exact tS (.b _)
 · rw [bf (by rfl),bf (by rfl),bf (by rfl),bf (by rfl),bf (by rfl),bf (by rfl),bf (by rfl),bf (by rfl),bf (by rfl),aNl nb (aYt R n2),aA];have e1:=aK3 (s:=s);have e2:=nb.nh;have e3:=nb.ns;have e4:=nb.ne;exact tS (.s _ ⟨(aWs s).app (mL _ _),by omega,by omega⟩)
end
def Par{α:Type}(o:Option α)(P:α→Prop):Prop:= ∀x,o=some x→P x
theorem pS{α:Type}{P:α→Prop}{x:α}(h:P x):Par (some x) P:=fun y e=>by cases e;exact h
theorem pB{α β:Type}{Q:β→Prop}{o:Option α}{f:α→Option β}(k: ∀x,Par (f x) Q):Par (o.bind f) Q:=fun y e=>by
 cases o with
 |none=>cases e
 |some x=>exact k x y e
theorem pC{α:Type}{P:α→Prop}{b:Bool}{x y:Option α}(h:Par x P)(k:Par y P):Par (bif b then x else y) P:=by cases b;exact k;exact h
theorem bMq{m:aM}{d a b:Int} :Par (gX m d a b) fun x=>x.2≤100:=by
 unfold gX;refine pB fun _=>pC (pC (pS (by simp)) (pC (pS (by simp)) (pB fun _=>pB fun _=>pS (by simp)))) (pB fun _=>pC (pS (by simp)) (pC (pB fun _=>pC (pS (by simp)) (pB fun _=>pB fun _=>pB fun _=>pB fun _=>pS (by simp))) (pB fun _=>pB fun _=>pC (pC (pS (by simp)) (pB fun _=>pB fun _=>pB fun _=>pB fun _=>pS (by simp))) (pC (pS (by simp)) (pC (pS (by simp)) (pB fun _=>pB fun _=>pS (by simp)))))))
structure Rc(E:Nat)(s:aC):Prop where
  ok:SOK s
  nb:NB s
  e:s.Graph.Edges.length≤E
def mOf(s:aC):aM:=⟨s.Graph.Config.N,uk s.Slots,(en s.Graph.Edges).map (aDu s.Slots)⟩
section
variable {s:aC}{E:Nat}(h:Rc E s)(hE:E<9000)
include h
theorem Rc.rel:Rel s.Graph.Config s (mOf s):=
 ⟨h.ok,⟨h.ok.g,fun x hx=>⟨(h.nb.h x hx).1.1,(h.nb.h x hx).2.1⟩,by have:=h.nb.ne;omega,by have:=h.nb.nh;omega⟩,rfl,rfl,List.Perm.refl _,List.Perm.refl _⟩
theorem Rc.ku:KU (mOf s):=fun x hx=>by
 obtain ⟨j,hj⟩:=(h.rel.mem x).1 hx;exact h.nb.k _ (List.mem_of_getElem? hj)
theorem Rc.right:mP s=some true:=aYt h.rel h.ok.v.n2
inductive Does(s:aC)(d:Int):aC→GA→Prop
  |no:(d<1∨15<d)→Does s d s (GA.i 36 .i64 1)
  |err (f:Int):0<f∧f≤100→Does s d s (GA.i 36 .i64 f)
  |ok (s':aC):(1≤d∧d≤4∨d=15)→Does s d s' (GA.i 36 .i64 0)
  |ans (r:GA):5≤d∧d≤14→aZ5 r→Does s d s r
theorem Rc.restore(a b:Int){t:ByteArray}(hT:t.size≤4000):kY s ⟨15,a,b,t⟩=some (s,GA.i 36 .i64 12)∨ ∃s',kY s ⟨15,a,b,t⟩=some (s',GA.i 36 .i64 0)∧Rc 800 s':=by
 have R:=h.rel;have n2:=h.ok.v.n2;obtain ⟨vA,bA,fA⟩:=fd R n2 a;obtain ⟨vB,bB,fB⟩:=fd R n2 b;have I:=aMs R n2 (d:=15) (text:=t) (by rfl) fA fB (rA:=false) (rB:=false) rfl rfl;rw [bf (by rfl),bf (by rfl)] at I;unfold kA at I;simp only [] at I;rw [bf (by rfl),bf (by rfl),bf (by rfl),bf (by rfl),bt (by rfl)] at I;rcases bBj hT with e|⟨s',e,nb,ok,_,he,_⟩
 · rw [e,aA,aA] at I;simp only [] at I;rw [bt (by rfl)] at I;exact .inl I
 · rw [e,aA,aA] at I;simp only [] at I;rw [bf (by rfl)] at I;exact .inr ⟨s',I,ok,nb,by omega⟩
theorem Rc.back{E':Nat}{u:aC}(k:Rc E' u)(a b:Int):kY s ⟨15,a,b,fU (bytesOf u)⟩=some (u,GA.i 36 .i64 0):=by
 have R:=h.rel;have n2:=h.ok.v.n2;obtain ⟨vA,bA,fA⟩:=fd R n2 a;obtain ⟨vB,bB,fB⟩:=fd R n2 b;have I:=aMs R n2 (d:=15) (text:=fU (bytesOf u)) (by rfl) fA fB (rA:=false) (rB:=false) rfl rfl;rw [bf (by rfl),bf (by rfl)] at I;unfold kA at I;simp only [] at I;have g:=gok k.ok.g;have g2:=g.n2;have g4:=g.l2;have g6:=g.r2;rw [bf (by rfl),bf (by rfl),bf (by rfl),bf (by rfl),bt (by rfl),aYg k.nb k.ok.len g.hl ⟨by omega,by omega,by omega⟩ k.right,aA,aA] at I;simp only [] at I;rw [bf (by rfl)] at I;exact I
theorem Rc.saved(a b:Int)(t:ByteArray):kY s ⟨14,a,b,t⟩=some (s,GA.s 9 (fU (bytesOf s))):=by
 have R:=h.rel;have n2:=h.ok.v.n2;obtain ⟨vA,bA,fA⟩:=fd R n2 a;obtain ⟨vB,bB,fB⟩:=fd R n2 b;rw [aMs R n2 (d:=14) (by rfl) fA fB (rA:=false) (rB:=false) rfl rfl,bf (by rfl),bt (by rfl)];unfold mH;rw [bGb R,aA,bf (by rfl),bf (by rfl),bf (by rfl),bf (by rfl),bf (by rfl),bf (by rfl),bf (by rfl),bf (by rfl),bf (by rfl),aNl h.nb h.right,aA,aA]
include hE
theorem Rc.does{x:dG}(hA:0≤x.A∧x.A<18446744073709551616)(hT:x.Text.size≤4000): ∃s' r,kY s x=some (s',r)∧Rc (max (E+1) 800) s'∧Does s x.Do s' r:=by
 obtain ⟨d,a,b,t⟩:=x;simp only at hA hT⊢;have R:=h.rel;have n2:=h.ok.v.n2;have hEd:=h.e;have up:Rc (max (E+1) 800) s:=⟨h.ok,h.nb,by omega⟩
 by_cases q1:d<1∨15<d
 ·
  have e:(decide (d<1)||decide (15<d))=true:=by simpa using q1
  refine ⟨s,GA.i 36 .i64 1,?_,up,.no q1⟩;unfold kY;simp only [];rw [e,gf' (by rfl),aA,bt (by rfl)]
 have hd:(decide (d<1)||decide (15<d))=false:=by simpa using q1
 by_cases q2:d≤4
 ·
  obtain ⟨s',f,k,I,M,R',fz,e1,e2,f0⟩:=step R n2 om (d:=d) om q2 a b t;have K':=KU.change h.ku hA M;have fl:=bMq _ M;simp only at fl;refine ⟨s',_,I,⟨R'.ok,bP5 R' om K',by omega⟩,?_⟩
  by_cases fz':f=0
  · subst fz';exact .ok s' (.inl ⟨by omega,q2⟩)
  · rw [(fz fz').1];exact .err f om
 obtain ⟨vA,bA,fA⟩:=fd R n2 a;obtain ⟨vB,bB,fB⟩:=fd R n2 b
 by_cases q3:d=15
 ·
  subst q3;rcases h.restore a b hT with I|⟨s',I,k⟩
  · exact ⟨_,_,I,up,.err 12 om⟩
  · exact ⟨_,_,I,⟨k.ok,k.nb,by have:=k.e;omega⟩,.ok s' (.inr rfl)⟩
 obtain ⟨rA,eA⟩: ∃rA,qM d=some rA:=⟨_,rfl⟩
 obtain ⟨rB,eB⟩: ∃rB,qN d=some rB:=⟨_,rfl⟩
 have I:=aMs R n2 (text:=t) hd fA fB eA eB
 cases w:((rA&& !bA)||(rB&& !bB)) with
 |true=>
  rw [w,bt (by rfl)] at I;exact ⟨_,_,I,up,.err 7 om⟩
 |false=>
  rw [w,bf (by rfl),bt (by simp;omega)] at I;obtain ⟨r,e,hr⟩:=bR8 R om h.nb om om fA fB eA eB w;rw [e,aA] at I;exact ⟨_,_,I,up,.ans r ⟨by omega,by omega⟩ hr⟩
end
open Go Go.AM Go.Pl Go.Pt Go.Ix
section
variable {α β γ:Type}{P:α→Prop}{Q:β→Prop}
theorem Tot.imp{R:α→Prop}{o:Option α}(h:Tot o P)(k: ∀x,P x→R x):Tot o R:=by
 obtain ⟨x,e,hx⟩:=h;exact ⟨x,e,k x hx⟩
end
theorem aFf{l:List Int}{i:Nat}(h:i<l.length):0≤(i:Int)∧(i:Int)<l.length:=by omega
theorem aTp: ∀(m:Nat) (a:List Int),a.length<m→a.length≤3000→Tot (vW m a) fun r=>r.length≤a.length
 |0,a,h,_=>by omega
 |m+1,a,h,ha=>by
  show Tot (aFi (vW m) a) _;unfold aFi;refine tG (fun h0=>?_) fun x=>tC (fun h1=>?_) fun _=>?_
  · simp only [beq_iff_eq,decide_eq_true_eq] at h0;refine tI' ?_;rw [wr0 om om];omega
  ·
   simp only [Bool.and_eq_true,decide_eq_true_eq] at h1;have e:IntKind.i64.wrap ((a.length:Int)-1)=((a.length-1:Nat):Int):=by rw [wr0 om om];omega
   rw [aCb e om,aA];have hl:(a.take (a.length-1)).length=a.length-1:=by rw [List.length_take];omega
   exact (aTp m _ om om).imp fun r hr=>by omega
  · unfold qX bLa;rw [if_pos rfl,aCb rfl (Nat.le_refl _),aA,aA];exact tS (by rw [List.length_take];omega)
theorem aD1(n:Int):Tot (aB1 n) fun r=>r.length≤2:=by
 have hFU:=FU';unfold aB1 uQ;exact tB (aTp aY _ (by simp;omega) (by simp)) fun r hr=>tS (by simpa using hr)
theorem aAs{a:List Int}(ha:a.length≤3000):Tot (mX a) fun _=>True:=by
 unfold mX;refine tG (fun h0=>?_) fun x=>tS trivial;simp only [beq_iff_eq,Bool.and_eq_true,decide_eq_true_eq,beq_eq_false_iff_ne] at h0;refine tI' ?_;rw [wr0 om om];omega
theorem aVa{a:List Int}(ha:a.length≤3000):Tot (uP a) fun r=>r.1.length≤64:=by
 have hFU:=FU';unfold uP uQ;refine tB (aTp aY _ om ha) fun r hr=>tC (fun _=>tS (by simp)) fun h=>tS ?_;rw [decide_eq_false_iff_not] at h;show r.length≤64;omega
section
variable {a b:List Int}(ha:a.length≤1000)(hb:b.length≤1000)
include ha hb
theorem bOz{m:Nat}{x:Int}{i:Nat}(hi:i<a.length)(ih: ∀p:List Int,p.length=a.length+b.length→Tot (rQ m b p a (a.length:Int) ((i+1:Nat):Int)) fun r=>r.1.length≤64):
 ∀(n j:Nat) (p:List Int) (c:Int),b.length<j+n→j≤b.length→p.length=a.length+b.length→Tot (aGb (rQ m) n b p (i:Int) x c a (a.length:Int) (i:Int) b (b.length:Int) (j:Int)) fun r=>r.1.length≤64
 |0,j,p,c,h,h',_=>by omega
 |n+1,j,p,c,h,h',hp=>by
  show Tot (aOu (rQ m) (aGb (rQ m) n) _ _ _ _ _ _ _ _ _ _ _) _;unfold aOu
  by_cases q:j<b.length
  ·
   have e:IntKind.i64.wrap ((i:Int)+(j:Int))=((i+j:Nat):Int):=by rw [wr0 om om];omega
   rw [bt (oJ q),e,wr1 j om];exact tI (aFf q) fun y=>tI (aFf om) fun y=>tI (aFf om) fun y=>tT (aFf om) fun p' hp'=>bOz hi ih n (j+1) p' _ om q om
  ·
   have e:IntKind.i64.wrap ((i:Int)+(b.length:Int))=((i+b.length:Nat):Int):=by rw [wr0 om om];omega
   rw [bf (oI q),e,wr1 i om];exact tI (aFf om) fun y=>tT (aFf om) fun p' hp'=>ih p' om
theorem bOy: ∀(m i:Nat) (p:List Int),a.length<i+m→i≤a.length→p.length=a.length+b.length→Tot (rQ m b p a (a.length:Int) (i:Int)) fun r=>r.1.length≤64
 |0,i,p,h,h',_=>by omega
 |m+1,i,p,h,h',hp=>by
  have hFU:=FU';show Tot (aOt (rQ m) _ _ _ _ _) _;unfold aOt
  by_cases q:i<a.length
  · rw [bt (oJ q)];refine tI (aFf q) fun x=>?_;exact bOz ha hb q (fun p hp=>bOy m (i+1) p om q hp) aY 0 p 0 om (Nat.zero_le _) hp
  · rw [bf (oI q)];exact tB (aVa om) fun r hr=>tS hr
theorem aXz:Tot (aDp a b) fun r=>r.1.length≤64:=by
 have hFU:=FU';unfold aDp;refine tB (aAs om) fun r _=>tG (fun _=>aAs om) fun r'=>tC (fun _=>tS (by simp)) fun _=>?_;have e:IntKind.i64.wrap ((a.length:Int)+(b.length:Int))=((a.length+b.length:Nat):Int):=by rw [wr0 om om];omega
 rw [e,aH9 rfl (Int.le_refl _) om,aA];exact bOy ha hb aY 0 _ om (Nat.zero_le _) (by simp)
omit ha hb in
theorem bM7: ∀(m i:Nat) (s:List Int) (c:Int),s.length<i+m→i≤s.length→s.length≤2000→Tot (rP m a b s c (s.length:Int) (i:Int)) fun r=>r.1.length≤64
 |0,i,s,c,h,h',_=>by omega
 |m+1,i,s,c,h,h',hs=>by
  show Tot (aOq (rP m) _ _ _ _ _ _) _;unfold aOq
  by_cases q:i<s.length
  ·
   have j3: ∀t,Tot (aG9 (rP m) a b s (i:Int) t (s.length:Int) (i:Int)) fun r=>r.1.length≤64:=fun t=>by
    unfold aG9 aOr;rw [wr1 i om];exact tI (aFf q) fun x=>tT (aFf q) fun s' hs'=>by rw [←hs'];exact bM7 m (i+1) s' _ om om om
   have j2: ∀t,Tot (aG8 (rP m) a b s (i:Int) t (s.length:Int) (i:Int)) fun r=>r.1.length≤64:=fun t=>by
    unfold aG8;refine tC (fun h=>?_) fun _=>j3 _;rw [decide_eq_true_eq] at h;exact tI ⟨by omega,h⟩ fun x=>j3 _
   rw [bt (oJ q)];refine tC (fun h=>?_) fun _=>j2 _;rw [decide_eq_true_eq] at h;exact tI ⟨by omega,h⟩ fun x=>j2 _
  · rw [bf (oI q)];exact tB (aVa om) fun r hr=>tS hr
theorem bR1:Tot (aJ6 a b) fun r=>r.1.length≤64:=by
 have hFU:=FU';unfold aJ6;refine tB (aAs om) fun r _=>tG (fun _=>aAs om) fun r'=>tC (fun _=>tS (by simp)) fun _=>?_
 have e: ∃k:Nat,k≤1001∧IntKind.i64.wrap ((if (a.length:Int)<(b.length:Int) then (b.length:Int) else (a.length:Int))+1)=(k:Int):=by
  split
  · exact ⟨b.length+1,by omega,by rw [wr1 _ om]⟩
  · exact ⟨a.length+1,by omega,by rw [wr1 _ om]⟩
 obtain ⟨k,hk,e⟩:=e;rw [e,aH9 rfl (Int.le_refl _) om,aA];exact bM7 aY 0 _ _ (by simp;omega) (Nat.zero_le _) (by simp;omega)
omit hb in
theorem bMt(hl:a.length=b.length): ∀(m i:Nat),i<m→i≤a.length→Tot (aGa m a b ((i:Int)-1)) fun _=>True
 |0,i,h,_=>by omega
 |m+1,i,h,hi=>by
  show Tot (aOs (aGa m) _ _ _) _;unfold aOs
  have cc: ∀x y,Tot (mW x y) fun _=>True:=fun x y=>by
   unfold mW oS;rw [aA,aA];refine tC (fun _=>tC (fun _=>tS trivial) fun _=>tS trivial) fun _=>tC (fun _=>tS trivial) fun _=>tC (fun _=>tS trivial) fun _=>tC (fun _=>tS trivial) fun _=>tS trivial
  refine tC (fun h0=>?_) fun _=>tS trivial;rw [decide_eq_true_eq] at h0;have e:IntKind.i64.wrap ((i:Int)-1-1)=((i-1:Nat):Int)-1:=by rw [wr0 om om];omega
  rw [e];exact tI ⟨h0,by omega⟩ fun x=>tI ⟨h0,by omega⟩ fun y=>tC (fun _=>tI ⟨h0,by omega⟩ fun x=>tI ⟨h0,by omega⟩ fun y=>tB (cc _ _) fun _ _=>tS trivial) fun _=>bMt hl m (i-1) om om
theorem bRp:Tot (aJ7 a b) fun _=>True:=by
 have hFU:=FU';unfold aJ7;refine tB (aAs om) fun r _=>tG (fun _=>aAs om) fun r'=>tC (fun _=>tS trivial) fun _=>tC (fun _=>?_) fun h=>?_
 · unfold xC vM;rw [aA,aA];exact tB (P:=fun _=>True) (tC (fun _=>tC (fun _=>tS trivial) fun _=>tS trivial) fun _=>tC (fun _=>tS trivial) fun _=>tC (fun _=>tS trivial) fun _=>tC (fun _=>tS trivial) fun _=>tS trivial) fun _ _=>tS trivial
 ·
  have hl:a.length=b.length:=by
   have:(a.length:Int)=(b.length:Int):=by simpa using h
   omega
  rw [wr0 om om];exact bMt ha hl aY a.length om (Nat.le_refl _)
omit hb in
theorem bPp{n:Int}(hn:n≤1024): ∀(m i:Nat) (p:List Int),1030<i+m→p.length≤64→i≤1025→Tot (aGc m a p n (i:Int)) fun r=>r.1.length≤64
 |0,i,p,h,hp,hi=>by omega
 |m+1,i,p,h,hp,hi=>by
  show Tot (aOv (aGc m) _ _ _ _) _;unfold aOv;refine tC (fun h0=>?_) fun _=>tS hp;rw [decide_eq_true_eq] at h0;rw [wr1 i om];exact tB (aXz om ha) fun r hr=>tC (fun _=>tS (by simp)) fun _=>bPp hn m (i+1) r.1 om hr om
omit hb in
theorem aYb(n:Int):Tot (aDq a n) fun r=>r.1.length≤64:=by
 have hFU:=FU';unfold aDq;refine tB (aAs om) fun r _=>tC (fun _=>tS (by simp)) fun h=>tB (aD1 1) fun p hp=>?_;simp only [Bool.or_eq_false_iff,decide_eq_false_iff_not] at h;exact bPp ha om aY 0 p om om om
end
theorem bBe(a:Int){n:Int}(hn:n≤8): ∀(m i:Nat) (p:Int),10<i+m→i≤9→Tot (zW m a p n (i:Int)) fun _=>True
 |0,i,p,h,hi=>by omega
 |m+1,i,p,h,hi=>by
  show Tot (aHi (zW m) _ _ _ _) _;unfold aHi;refine tC (fun h0=>?_) fun _=>tS trivial;rw [decide_eq_true_eq] at h0;rw [wr1 i om];exact bBe a hn m (i+1) _ om om
theorem aOx(a:Int){n:Int}(hn:n≤8):Tot (yK a n) fun _=>True:=by
 have hFU:=FU';exact bBe a hn aY 0 1 om om
theorem bFl(n m:Int){l r:Int}(hr:r≤8):Tot (zX n m l r) fun x=>x.1.length≤64:=by
 unfold zX nT qG;rw [aA];refine tG (fun _=>tS trivial) fun _=>tC (fun _=>tS (by simp)) fun _=>tB (aOx 8 hr) fun x _=>tB (aD1 x) fun p hp=>tB (aOx 7 hr) fun y _=>tB (aD1 y) fun q hq=>tB (bR1 om om) fun e he=>tC (fun _=>tS (by simp)) fun _=>?_;exact tB (aYb om l) fun w hw=>tC (fun _=>tS (by simp)) fun _=>tB (aD1 _) fun z hz=>tB (aXz om om) fun v hv=>tS hv
theorem bLq(l:Int){r:Int}(hr:r≤8):Tot (aBm l r) fun x=>x.1.length≤64:=by
 unfold aBm qG;rw [aA];exact tC (fun _=>tS (by simp)) fun _=>tB (aOx 8 hr) fun x _=>tB (aD1 _) fun p hp=>tB (aYb om l) fun w hw=>tS hw
theorem bDk(n m k l:Int){r:Int}(hr:r≤8):Tot (zV n m k l r) fun _=>True:=by
 unfold zV nT aAr qG;rw [aA];refine tG (fun _=>tS trivial) fun _=>tG (fun _=>tS trivial) fun _=>tC (fun _=>tS trivial) fun _=>tB (bFl n m hr) fun x hx=>tC (fun _=>tS trivial) fun _=>tB (bLq l hr) fun y hy=>tC (fun _=>tS trivial) fun _=>tB (aD1 2) fun z hz=>?_;exact tB (aYb om k) fun u hu=>tC (fun _=>tS trivial) fun _=>tB (aXz om om) fun v hv=>tG (fun _=>bRp om om) fun _=>tS trivial
theorem bGu(n m k:Int)(z:aX){M:Nat}{l:Int}(ih:Tot (mM M n m k z (IntKind.i64.wrap (l+1))) fun x=>x.2=0∨x.2=1∨x.2=6): ∀(m' i:Nat),10<i+m'→i≤9→Tot (aBl (mM M) m' n m k z l (i:Int)) fun x=>x.2=0∨x.2=1∨x.2=6
 |0,i,h,hi=>by omega
 |m'+1,i,h,hi=>by
  show Tot (aJf (mM M) (aBl (mM M) m') _ _ _ _ _ _) _;unfold aJf;refine tC (fun h0=>?_) fun _=>ih;rw [decide_eq_true_eq] at h0;rw [wr1 i om];exact tB (bDk n m k l h0) fun b _=>tC (fun _=>tS (.inl rfl)) fun _=>bGu n m k z ih m' (i+1) om om
theorem bGt(n m k:Int)(z:aX): ∀(m' i:Nat),20<i+m'→i≤17→Tot (mM m' n m k z (i:Int)) fun x=>x.2=0∨x.2=1∨x.2=6
 |0,i,h,hi=>by omega
 |m'+1,i,h,hi=>by
  have hFU:=FU';show Tot (aJe (mM m') _ _ _ _ _) _;unfold aJe;refine tC (fun h0=>?_) fun _=>tS (.inr (.inr rfl));rw [decide_eq_true_eq] at h0;exact bGu n m k z (by rw [wr1 i om];exact bGt n m k z m' (i+1) om om) aY 1 om om
theorem bPm(n m k:Int):Tot (aDv n m k) fun x=>x.2=0∨x.2=1∨x.2=6:=by
 have hFU:=FU';unfold aDv nT aAr;rw [aA];exact tG (fun _=>tS trivial) fun _=>tC (fun _=>tS (.inr (.inl rfl))) fun _=>bGt n m k _ aY 1 om om
end Go.Proofs.YtkdohhmacfoolaaGreatDoor
