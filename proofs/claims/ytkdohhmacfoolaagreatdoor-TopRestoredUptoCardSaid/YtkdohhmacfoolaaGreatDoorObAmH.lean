/- Facts. No condition. -/
import Derived.Test.YtkdohhmacfoolaaGreatDoorObIxL
import GoSem.ClaimOpenFrom
set_option linter.unusedVariables false
set_option linter.unusedSimpArgs false
set_option maxRecDepth 20000
set_option maxHeartbeats 1000000
namespace Go.Proofs.YtkdohhmacfoolaaGreatDoor
open Go Go.AM Go.Pl Go.Pt Go.Ix
theorem aQe{a m c:List Int}{i k:Nat}(hi:a.length=i)(hk:m.length=k):cut (a++(m++c)) i k=m:=by
 subst hi hk;simp [cut]
theorem aKr{a m m' c:List Int}{i k:Nat}(hi:a.length+m.length=i)(hk:m'.length=k):cut (a++(m++(m'++c))) i k=m':=by
 rw [←List.append_assoc];exact aQe (by simp [hi]) hk
theorem bDi{α:Type}{g:α→List Int}{w:Nat}(hg: ∀x,(g x).length=w){f:List Int→Nat→α} : ∀(xs:List α) (pre post:List Int) (a:Nat),pre.length=a→(∀x,x∈xs→ ∀p q:List Int,f (p++(g x++q)) p.length=x)→
 dl (f (pre++(xs.flatMap g++post))) w a xs.length=xs
 |[],pre,post,a,ha,hf=>rfl
 |x::xs,pre,post,a,ha,hf=>by
  have e:pre++((x::xs).flatMap g++post)=(pre++g x)++(xs.flatMap g++post):=by simp [List.flatMap_cons]
  simp only [List.length_cons,dl];congr 1
  · rw [List.flatMap_cons,List.append_assoc,←ha];exact hf x (by simp) pre _
  · rw [e];exact bDi hg xs (pre++g x) post (a+w) (by simp [ha,hg]) fun y hy=>hf y (by simp [hy])
theorem bU3{x:bM}(hA:0≤x.A∧x.A<18446744073709551616)(hB:0≤x.B∧x.B<18446744073709551616)(p q:List Int):dH (p++(lh x++q)) p.length=x:=by
 unfold dH lh;rw [List.append_assoc,aQe rfl (gJ _ _),aKr (by rw [gJ]) (gJ _ _),aJ7 8 hA.1 hA.2,aJ7 8 hB.1 hB.2]
theorem getD_at{a m:List Int}{x:Int}{i:Nat}(hi:a.length=i):(a++(x::m)).getD i 0=x:=by
 subst hi;simp [List.getD]
theorem bU4{x:aN}(hK:0≤x.Key∧x.Key<18446744073709551616)(p q:List Int):dS (p++(ls x++q)) p.length=x:=by
 unfold dS ls;rw [List.append_assoc,aKr (by rw [gJ]) (gJ _ _),aJ7 8 hK.1 hK.2];simp only [lb,List.singleton_append,List.cons_append,List.nil_append];rw [getD_at rfl]
 cases x with
 |mk u k=>cases u<;>rfl
theorem bU2{x:aD}(hU:0≤x.U∧x.U<65536)(hV:0≤x.V∧x.V<65536)(hT:0≤x.Tier∧x.Tier<256)(p q:List Int):dE (p++(lE x++q)) p.length=x:=by
 unfold dE lE;rw [List.append_assoc,List.append_assoc,aQe rfl (gJ _ _),aKr (by rw [gJ]) (gJ _ _),aJ7 2 hU.1 hU.2,aJ7 2 hV.1 hV.2];have e:p++(lb x.U 2++(lb x.V 2++(lb x.Tier 1++q)))=(p++lb x.U 2++lb x.V 2)++(x.Tier%256::q):=by simp [lb]
 rw [e,getD_at (by simp [gJ])]
 cases x with
 |mk u v t=>
  simp only at hT⊢;rw [Int.emod_eq_of_lt hT.1 hT.2]
section
variable {s:aC}(nb:NB s)(hS:(s.Slots.length:Int)=s.Graph.Config.N)(hH:(s.Graph.Hashes.length:Int)=s.Graph.Config.L*s.Graph.Config.R)(lim:s.Graph.Config.N≤1024∧s.Graph.Config.L≤16∧s.Graph.Config.R≤8)
include nb hS hH lim
omit nb hS hH lim in
theorem aTl:(bytesOf s).length=10+s.Graph.Hashes.length*16+s.Slots.length*9+4+8+5*s.Graph.Edges.length:=by
 unfold bytesOf body;simp only [List.length_append,gJ,aVu,aGu aVz,aGu aW1,aGu bKy];omega
theorem bJk:Pk (bytesOf s) s.Graph.Config.N.toNat s.Graph.Config.L.toNat s.Graph.Config.R.toNat s.Graph.Edges.length∧dec (bytesOf s) s.Graph.Config.N.toNat s.Graph.Config.L.toNat s.Graph.Config.R.toNat s.Graph.Edges.length=s:=by
 obtain ⟨c1,c2,c3,c4,c5,c6⟩:=nb.c
 have hLR:s.Graph.Config.L.toNat*s.Graph.Config.R.toNat=s.Graph.Hashes.length:=by
  have:((s.Graph.Config.L.toNat*s.Graph.Config.R.toNat:Nat):Int)=(s.Graph.Hashes.length:Int):=by rw [Int.natCast_mul,Int.toNat_of_nonneg c2,Int.toNat_of_nonneg c3,hH]
  omega
 have hN:s.Graph.Config.N.toNat=s.Slots.length:=by omega
 have ne:=nb.ne
 have eB:bytesOf s=[82,65,70,84]++(lb s.Graph.Config.N 2++(lb s.Graph.Config.L 2++(lb s.Graph.Config.R 2++(s.Graph.Hashes.flatMap lh++(s.Slots.flatMap ls++(lb s.Graph.Edges.length 4++(s.Graph.Edges.flatMap lE++lb ((bIh (body s) 1:Nat):Int) 8))))))):=by
  unfold bytesOf;rw [show body s=lc s.Graph.Config++s.Graph.Hashes.flatMap lh++s.Slots.flatMap ls++lb s.Graph.Edges.length 4++s.Graph.Edges.flatMap lE from rfl];simp only [lc,List.append_assoc]
 have l1:(s.Graph.Hashes.flatMap lh).length=s.Graph.Hashes.length*16:=aGu aVz _;have l2:(s.Slots.flatMap ls).length=s.Slots.length*9:=aGu aW1 _;refine ⟨⟨?_,?_,?_,by omega,?_,?_⟩,?_⟩
 · rw [eB,aQe (i:=4) (by simp) (gJ _ _),aJ7 2 c1 om];omega
 · rw [eB,aKr (by simp [gJ]) (gJ _ _),aJ7 2 c2 om];omega
 · rw [eB,←List.append_assoc,aKr (by simp [gJ]) (gJ _ _),aJ7 2 c3 om];omega
 · rw [hLR,hN,aTl]
 · rw [hLR,hN,eB];simp only [←List.append_assoc];rw [List.append_assoc _ (s.Graph.Edges.flatMap lE),List.append_assoc _ (lb (s.Graph.Edges.length:Int) 4)];rw [aQe (by simp [gJ,l1,l2];omega) (gJ _ _),aJ7 4 om om]
 ·
  unfold dec;rw [hLR,hN]
  have d1:dl (dH (bytesOf s)) 16 10 s.Graph.Hashes.length=s.Graph.Hashes:=by
   rw [eB];simp only [←List.append_assoc];rw [List.append_assoc _ (s.Graph.Edges.flatMap lE),List.append_assoc _ (lb (s.Graph.Edges.length:Int) 4),List.append_assoc _ (s.Slots.flatMap ls),List.append_assoc _ (s.Graph.Hashes.flatMap lh)];exact bDi aVz _ _ _ 10 (by simp [gJ]) fun x hx=>bU3 (nb.h x hx).1 (nb.h x hx).2
  have d2:dl (dS (bytesOf s)) 9 (10+16*s.Graph.Hashes.length) s.Slots.length=s.Slots:=by
   rw [eB];simp only [←List.append_assoc];rw [List.append_assoc _ (s.Graph.Edges.flatMap lE),List.append_assoc _ (lb (s.Graph.Edges.length:Int) 4),List.append_assoc _ (s.Slots.flatMap ls)];exact bDi aW1 _ _ _ _ (by simp [gJ,l1];omega) fun x hx=>bU4 (nb.k x hx)
  have d3:dl (dE (bytesOf s)) 5 (10+16*s.Graph.Hashes.length+9*s.Slots.length+4) s.Graph.Edges.length=s.Graph.Edges:=by
   rw [eB];simp only [←List.append_assoc];rw [List.append_assoc _ (s.Graph.Edges.flatMap lE)];exact bDi bKy _ _ _ _ (by simp [gJ,l1,l2];omega) fun x hx=>bU2 (nb.e x hx).1 (nb.e x hx).2.1 (nb.e x hx).2.2
  rw [d1,d2,d3]
  cases s with
  |mk g sl=>
   cases g with
   |mk c h e=>
    cases c with
    |mk a b d=>
     simp only at hN c1 c2 c3 hS;simp only [Int.toNat_of_nonneg c2,Int.toNat_of_nonneg c3];rw [hS]
theorem aWn(hr:lC s=some true):nZ (nF (bytesOf s))=some (s,0):=by
 obtain ⟨p,e⟩:=bJk nb hS hH lim;have hb:BB (bytesOf s):=(bN9 s).app (kJ _ _)
 have hl:(bytesOf s).length≤4000000:=by
  rw [aTl];have h1:=nb.nh;have h2:=nb.ns;have h3:=nb.ne;omega
 unfold nZ;rw [bCi hb hl p,aA,e];show (bif false then _ else _)=_;rw [bf rfl,aWr nb hr,aA];show (bif ((0:Int) !=0)|| !decide (nF (bytesOf s)=nF (bytesOf s)) then _ else _)=_;rw [bf (by simp)]
end
open Go Go.AM Go.Pl Go.Pt Go.Ix
theorem bAx{s:aC}(gd:GD s.Graph)(hE:s.Graph.Edges.length+1<1000000000)(n:NoL s.Graph){d a b u v:Int}{t:ByteArray}{x:aC×Int}(hd:d≠15)(h:iH s ⟨d,a,b,t⟩ u v=some x):NoL x.1.Graph:=by
 unfold iH gS at h;simp only [] at h
 by_cases d1:d=1
 · subst d1;rw [bt (by rfl)] at h;obtain ⟨r,_,h⟩:=bnd h;cases h;exact n
 rw [bf (by simpa using d1)] at h
 by_cases d2:d=2
 ·
  subst d2;rw [bt (by rfl)] at h;obtain ⟨r,_,h⟩:=bnd h
  cases q:decide (0<r) with
  |true=>rw [q] at h;cases h;exact n
  |false=>
   rw [q] at h;obtain ⟨r',_,h⟩:=bnd h;cases h;exact n
 rw [bf (by simpa using d2)] at h
 by_cases d3:d=3
 · subst d3;rw [bt (by rfl)] at h;obtain ⟨r,h1,h⟩:=bnd h;obtain ⟨r',e,i⟩:=aHz gd hE u v;rw [e] at h1;cases h1;cases h;exact (bDq gd i).nol n
 rw [bf (by simpa using d3)] at h
 by_cases d4:d=4
 ·
  subst d4;rw [bt (by rfl)] at h
  cases q:(u==v) with
  |true=>rw [q] at h;cases h;exact n
  |false=>
   rw [q] at h;obtain ⟨r,h1,h⟩:=bnd h;obtain ⟨r',e,i⟩:=aHy gd u v;rw [e] at h1;cases h1;cases h;exact (bDh gd i).nol n
 rw [bf (by simpa using d4),bf (by simpa using hd)] at h;cases h;exact n
theorem bS1{c:aU}{s:aC}{m:aJ}(R:Rel c s m)(hS:s.Slots.length≤1024)(hE:s.Graph.Edges.length+1<1000000000)(n:NoL s.Graph){d a b:Int}{t:ByteArray}(hd:d≠15){x:aC×GA}(h:eG s ⟨d,a,b,t⟩=some x):NoL x.1.Graph:=by
 by_cases q1:d<1∨15<d
 ·
  have e:(decide (d<1)||decide (15<d))=true:=by simpa using q1
  unfold eG at h;simp only [] at h;rw [e,gf' (by rfl),aA,bt (by rfl)] at h;cases h;exact n
 have hd':(decide (d<1)||decide (15<d))=false:=by simpa using q1
 obtain ⟨vA,bA,fA⟩:=fd R hS a;obtain ⟨vB,bB,fB⟩:=fd R hS b;obtain ⟨rA,eA⟩: ∃rA,rD d=some rA:=⟨_,rfl⟩
 obtain ⟨rB,eB⟩: ∃rB,rE d=some rB:=⟨_,rfl⟩
 rw [aAy R hS (text:=t) hd' fA fB eA eB] at h
 cases w:((rA&& !bA)||(rB&& !bB)) with
 |true=>rw [w,bt rfl] at h;cases h;exact n
 |false=>
  rw [w,bf rfl] at h
  cases q:(decide (4<d)&&(d !=15)) with
  |true=>
   rw [q,bt rfl] at h;obtain ⟨r,_,h⟩:=bnd h;cases h;exact n
  |false=>
   rw [q,bf rfl] at h;obtain ⟨r,h1,h⟩:=bnd h;have:=bAx R.gd hE n hd h1
   cases z:(r.2 !=0) with
   |true=>rw [z,bt rfl] at h;cases h;exact n
   |false=>rw [z,bf rfl] at h;cases h;exact this
theorem asks{c:aU}{s:aC}{m:aJ}(R:Rel c s m)(hS:s.Slots.length≤12)(hE:s.Graph.Edges.length<10000)(nb:NB s){d:Int}(h5:5≤d)(h14:d≤14)(a b:Int)(t:ByteArray): ∃r,eG s ⟨d,a,b,t⟩=some (s,r):=by
 obtain ⟨vA,bA,fA⟩:=fd R om a;obtain ⟨vB,bB,fB⟩:=fd R om b;have cA:=fA.c;have cB:=fB.c;have keyOf: ∀ {k:Int} {j:Nat},At s.Slots j k→k∈m.Keys:=fun h=>(R.mem _).2 ⟨_,h⟩;have cases10:d=5∨d=6∨d=7∨d=8∨d=9∨d=10∨d=11∨d=12∨d=13∨d=14:=by omega
 rcases cases10 with rfl|rfl|rfl|rfl|rfl|rfl|rfl|rfl|rfl|rfl
 ·
  rcases cA with ⟨rfl,i,rfl,ha⟩|⟨rfl,rfl,ha⟩
  ·
   rcases cB with ⟨rfl,j,rfl,hb⟩|⟨rfl,rfl,hb⟩
   · exact ⟨_,has_eq R hS hE (keyOf ha) (keyOf hb) t⟩
   · rw [aAy R om (d:=5) (by rfl) fA fB (rA:=true) (rB:=true) rfl rfl,bt (by rfl)];exact ⟨_,rfl⟩
  · rw [aAy R om (d:=5) (by rfl) fA fB (rA:=true) (rB:=true) rfl rfl,bt (by rfl)];exact ⟨_,rfl⟩
 ·
  rcases cA with ⟨rfl,i,rfl,ha⟩|⟨rfl,rfl,ha⟩
  · exact ⟨_,bFe R hS hE (keyOf ha) b t⟩
  · rw [aAy R om (d:=6) (by rfl) fA fB (rA:=true) (rB:=false) rfl rfl,bt (by rfl)];exact ⟨_,rfl⟩
 ·
  rcases cA with ⟨rfl,i,rfl,ha⟩|⟨rfl,rfl,ha⟩
  · exact ⟨_,bPu R hS hE ha b t⟩
  · rw [aAy R om (d:=7) (by rfl) fA fB (rA:=true) (rB:=false) rfl rfl,bt (by rfl)];exact ⟨_,rfl⟩
 ·
  rcases cA with ⟨rfl,i,rfl,ha⟩|⟨rfl,rfl,ha⟩
  ·
   rcases cB with ⟨rfl,j,rfl,hb⟩|⟨rfl,rfl,hb⟩
   · exact ⟨_,bNe R hS ha hb t⟩
   · rw [aAy R om (d:=8) (by rfl) fA fB (rA:=true) (rB:=true) rfl rfl,bt (by rfl)];exact ⟨_,rfl⟩
  · rw [aAy R om (d:=8) (by rfl) fA fB (rA:=true) (rB:=true) rfl rfl,bt (by rfl)];exact ⟨_,rfl⟩
 ·
  rcases cA with ⟨rfl,i,rfl,ha⟩|⟨rfl,rfl,ha⟩
  · exact ⟨_,size_eq R hS ha b t⟩
  · rw [aAy R om (d:=9) (by rfl) fA fB (rA:=true) (rB:=false) rfl rfl,bt (by rfl)];exact ⟨_,rfl⟩
 · exact ⟨_,bJq R hS a b t⟩
 ·
  rcases cA with ⟨rfl,i,rfl,ha⟩|⟨rfl,rfl,ha⟩
  · exact ⟨_,bCd R hS ha b t⟩
  · rw [aAy R om (d:=11) (by rfl) fA fB (rA:=true) (rB:=false) rfl rfl,bt (by rfl)];exact ⟨_,rfl⟩
 · exact ⟨_,bHx R hS a b t⟩
 · exact ⟨_,bJb R hS a b t⟩
 · refine ⟨GA.s 9 (nF (bytesOf s)),?_⟩;rw [aAy R om (d:=14) (by rfl) fA fB (rA:=false) (rB:=false) rfl rfl,bf (by rfl),bt (by rfl)];unfold eK;rw [aEz R,aA,bf (by rfl),bf (by rfl),bf (by rfl),bf (by rfl),bf (by rfl),bf (by rfl),bf (by rfl),bf (by rfl),bf (by rfl),aWr nb (aX1 R om),aA,aA]
structure Rk(c:aU)(E:Nat)(s:aC)(m:aJ):Prop where
  r:Rel c s m
  k:KU m
  n:NoL s.Graph
  e:s.Graph.Edges.length≤E
theorem bE7{c:aU}{s:aC}{m:aJ}{E:Nat}(h:Rk c E s m)(hE:E<9000):NB s:=by
 have R:=h.r;have g:=gok R.gd.ok;have g1:=g.n1;have g2:=g.n2;have g3:=g.l1;have g4:=g.l2;have g5:=g.r1;have g6:=g.r2;have n2:=R.ok.v.n2;have he:=h.e;refine ⟨⟨by omega,by omega,by omega,by omega,by omega,by omega⟩,fun x hx=>?_,fun x hx=>?_,fun x hx=>?_,?_,by omega,by omega⟩
 · have h1:=g.hs;unfold hsB at h1;rw [List.all_eq_true] at h1;have h2:=h1 x hx;simp only [Bool.and_eq_true,decide_eq_true_eq] at h2;have h3:HOK x:=R.gd.hw x hx;obtain ⟨h4,h5⟩:=h3;omega
 ·
  cases u:x.Used with
  |false=>rw [R.ok.v.z x hx u];omega
  |true=>
   obtain ⟨j,hj,e⟩:=List.mem_iff_getElem.1 hx;refine h.k _ ((R.mem _).2 ⟨j,?_⟩);unfold At;rw [List.getElem?_eq_getElem hj,e];cases x with|mk a b=>simp only at u;subst u;rfl
 · have h1:=lR.1 ((aG0.1 g.tr).2.2.ok x hx);omega
 · have h1:=g.hl;have h2:s.Graph.Config.L*s.Graph.Config.R≤16*8:=Int.mul_le_mul g4 g6 om om;omega
theorem Rk.go{c:aU}{s:aC}{m:aJ}{E:Nat}(h:Rk c E s m)(hS:s.Slots.length≤12)(hE:E<8000){x:bD}(hd:x.Do≠15)(hA:0≤x.A∧x.A<18446744073709551616): ∃s' r m',eG s x=some (s',r)∧Rk c (E+1) s' m'∧s'.Slots.length=s.Slots.length:=by
 obtain ⟨d,a,b,t⟩:=x;simp only at hd hA;have R:=h.r;have he:=h.e;have nol:=fun {x:aC×GA} (hx:eG s ⟨d,a,b,t⟩=some x)=>bS1 R om om h.n hd hx;have up:Rk c (E+1) s m:=⟨h.r,h.k,h.n,by omega⟩
 by_cases q1:d<1∨15<d
 ·
  have e:(decide (d<1)||decide (15<d))=true:=by simpa using q1
  refine ⟨s,GA.i 36 .i64 1,m,?_,up,rfl⟩;unfold eG;simp only [];rw [e,gf' (by rfl),aA,bt (by rfl)]
 by_cases q2:d≤4
 · obtain ⟨s',f,k,I,M,R',fz,e1,e2,f0⟩:=step R om om (d:=d) om q2 a b t;refine ⟨s',_,k,I,⟨R',KU.change h.k hA M,nol I,by omega⟩,?_⟩;have l1:=R'.ok.len;have l2:=R.ok.len;rw [R'.cf] at l1;rw [R.cf] at l2;omega
 · obtain ⟨r,I⟩:=asks R hS om (bE7 h om) (d:=d) om om a b t;exact ⟨s,r,m,I,up,rfl⟩
open Go Go.AM
theorem yW:hY=some true:=by decide+kernel
theorem aZg(l:List bM)(hl:l.length<1000000): ∀(m i:Nat),l.length<i+m→i≤l.length→vJ m l l (i:Int)=some true
 |0,i,_,_=>by omega
 |m+1,i,hm,hi=>by
  show aFg (vJ m) _ _ _=_;unfold aFg
  by_cases c:i<l.length
  · rw [bt (by simpa using c),cE c,aA,aA,bf (by simp),wr1 i om];exact aZg l hl m (i+1) om c
  · rw [bf (by simpa using c)]
theorem bSz(l:List bM)(hl:l.length<1000000):yN l l=some true:=by
 have hFU:=FU';unfold yN;rw [bf (by simp)];exact aZg l hl bC 0 om (Nat.zero_le _)
section
variable {c:aU}{s:aC}{m:aJ}{E:Nat}(h:Rk c E s m)(hS:s.Slots.length≤12)(hE:E<7000)
include h hE
theorem aZc:mY s.Graph=some true:=by
 have he:=h.e;have hh:=(bE7 h om).nh;rw [aSv h.r.gd.hw om om,h.r.gd.ok,decide_eq_true (h.n.nil (gok h.r.gd.ok))];rfl
end
theorem bE5(L:List bD)(hL:L.length≤1000)(hA: ∀x,x∈L→0≤x.A∧x.A<18446744073709551616){c:aU} : ∀(n i:Nat) (s:aC) (m:aJ),Rk c (3000+i) s m→s.Slots.length≤12→L.length<i+n→i≤L.length→oQ n s s L (L.length:Int) (i:Int)=some true
 |0,i,s,m,_,_,hm,hi=>by omega
 |n+1,i,s,m,h,hS,hm,hi=>by
  have nb:=bE7 h om;have he:=h.e;have hh:=nb.nh;show aAn (oQ n) _ _ _ _ _=_;unfold aAn
  by_cases q:i<L.length
  ·
   rw [bt (by simpa using q),cE q,aA]
   by_cases d:L[i].Do=15
   · rw [bt (by simpa using d),yW,aA]
   · obtain ⟨s',r,m',I,h',l'⟩:=h.go hS om d (hA _ (List.getElem_mem q));have he':=h'.e;rw [bf (by simpa using d),I,aA];simp only [];rw [aA];simp only [];rw [aWk _ _ om,aA,decide_eq_true rfl,gt' (by rfl),aZc h' om,aA,bf (by rfl),wr1 i om];exact bE5 L hL hA n (i+1) s' m' h' om om q
  · rw [bf (by simpa using q),bSz _ om,aA,gt' (by rfl),aSu om om,aA,h.r.gd.ok,gt' (by rfl),yW,aA];rfl
theorem bE4(M:List bD)(k:Nat)(hk:k≤M.length)(hk':k≤1000)(hA': ∀x,x∈M.take k→0≤x.A∧x.A<18446744073709551616)(L:List bD)(hL:L.length≤50)(hA: ∀x,x∈L→0≤x.A∧x.A<18446744073709551616){c:aU} : ∀(n i:Nat) (s:aC) (m:aJ),Rk c i s m→s.Slots.length≤12→L.length<i+n→i≤L.length→oP n M (k:Int) s L (L.length:Int) (i:Int)=some true
 |0,i,s,m,_,_,hm,hi=>by omega
 |n+1,i,s,m,h,hS,hm,hi=>by
  have hFU:=FU';have nb:=bE7 h om;show aAm (oP n) _ _ _ _ _ _=_;unfold aAm
  by_cases q:i<L.length
  ·
   rw [bt (by simpa using q),cE q,aA]
   by_cases d:L[i].Do=15
   · rw [bt (by simpa using d),yW,aA]
   · obtain ⟨s',r,m',I,h',l'⟩:=h.go hS om d (hA _ (List.getElem_mem q));rw [bf (by simpa using d),I,aA];simp only [];rw [wr1 i om];exact bE4 M k hk hk' hA' L hL hA n (i+1) s' m' h' om om q
  · have R:=h.r;have g:=gok R.gd.ok;have g2:=g.n2;have g4:=g.l2;have g6:=g.r2;have hr:=aX1 R om;rw [bf (by simpa using q),aWr nb hr,aA];simp only [];rw [aWn nb R.ok.len g.hl ⟨by omega,by omega,by omega⟩ hr,aA];simp only [];rw [gt' (by rfl),aZc h om,aA,bf (by rfl),aBn rfl hk,aA];exact bE5 (M.take k) (by simp;omega) hA' bC 0 s m ⟨h.r,h.k,h.n,by have:=h.e;omega⟩ hS (by simp;omega) (Nat.zero_le _)
theorem aS4(c:aU)(words:List Int)(l m:List bD)(hw:W64 words)(hb:words.length≤1048576)(hA: ∀x,x∈l→0≤x.A∧x.A<18446744073709551616)(hA': ∀x,x∈m→0≤x.A∧x.A<18446744073709551616):rU c words l m=some true:=by
 have hFU:=FU';obtain ⟨r2,s,w,e,f1,f2,f3⟩:=start hw hb l (c:=c) (most:=20) om;obtain ⟨r4,g1,g2⟩:=bKa c m (most:=10) om;have f1':mS c l 20=some r2:=f1;have g1':mS c m 10=some r4:=g1;unfold rU;rw [f1',aA,g1',aA,f2,aA];simp only [];rcases f3 with f3|⟨f3,n,rfl,n1,n2,R,h1,h2⟩
 ·
  rw [bt (by
   simp only [Bool.or_eq_true] at f3⊢;rcases f3 with f3|f3
   · exact .inl (.inl f3)
   · exact .inr f3),yW,aA]
 rcases g2 with rfl|⟨k,rfl,k1,k2,_⟩
 · rw [bt (by simp),yW,aA]
 ·
  rw [bf (by
   simp only [Bool.or_eq_false_iff] at f3⊢;exact ⟨⟨f3.1,by simp⟩,f3.2⟩),aBn rfl n1,aA]
  have nl:NoL s.Graph:=by
   have:s.Graph=⟨s.Graph.Config,s.Graph.Hashes,[]⟩:=by
    cases hg:s.Graph with|mk a b d=>rw [hg] at h2;simp only at h2;subst h2;rfl
   rw [this];exact NoL.new _ _
  exact bE4 m k k1 om (fun x hx=>hA' x (List.mem_of_mem_take hx)) (l.take n) (by simp;omega) (fun x hx=>hA x (List.mem_of_mem_take hx)) bC 0 s _ ⟨R,fun x hx=>(by cases hx),nl,by rw [h2];simp⟩ om (by simp;omega) (Nat.zero_le _)
theorem aS5(c:aU)(words:List Int)(l m:List bD){A P B B' C C':Prop}(_:A)(w:(∀y,y∈words→(Lit.int .u64 y).wf=true)∧P)
 (a:(∀y,y∈l→((Lit.int .i64 y.Do).wf=true)∧((Lit.int .u64 y.A).wf=true)∧((Lit.int .u64 y.B).wf=true)∧(y.Text.size≤maxLen))∧B)
 (a':(∀y,y∈m→((Lit.int .i64 y.Do).wf=true)∧((Lit.int .u64 y.A).wf=true)∧((Lit.int .u64 y.B).wf=true)∧(y.Text.size≤maxLen))∧B') (b:words.length≤1048576) (_:C) (_:C'):rU c words l m=some true:=
 aS4 c words l m (cBc w) b (fun x hx=>wfk (a.1 x hx).2.1) fun x hx=>wfk (a'.1 x hx).2.1
end Go.Proofs.YtkdohhmacfoolaaGreatDoor
namespace Go.AM
open Go
theorem aXc: ∀(w r:List Char),Char.ofNat 32∉w→wordsSigns (w++Char.ofNat 32::r)=w::wordsSigns r
 |[],r,_=>by show wordsSigns (Char.ofNat 32::r)=_;rw [wordsSigns.eq_2]
 |c::w,r,h=>by
  have hc: ¬c=Char.ofNat 32:=fun e=>h (by simp [e]);have ih:=aXc w r (fun m=>h (List.mem_cons_of_mem _ m));show wordsSigns (c::(w++Char.ofNat 32::r))=_;rw [wordsSigns.eq_3 _ _ (fun e=>hc e),ih]
def aAx:List Char:= "cut".toList
theorem aUh(R:List (List Char)):stripLifts liftWords (aAx::R)=([],aAx::R):=by kernel_rfl
theorem bRs{s d:List Char}(h:Char.ofNat 32∉s)(hs:isSumSigns s=true):
 behindMainWord (wordsSigns ("harness".toList++Char.ofNat 32::(s++Char.ofNat 32::(aAx++Char.ofNat 32::d))))=aAx::wordsSigns d:=by
 rw [aXc _ _ (by decide+kernel),aXc _ _ h,aXc _ _ (by decide+kernel)];generalize wordsSigns d=R;have e:(("harness".toList== "harness".toList|| "harness".toList== "ownmain".toList)&&isSumSigns s)=true:=by rw [hs];decide+kernel
 exact if_pos e
variable {P:Program}{R:List (List Char)}(h:behindMainWord (wordsSigns P.initOrder.toList)=aAx::R)
include h
theorem aVk:P.headLifts=[]:=by
 unfold Program.headLifts;rw [h,aUh]
 kernel_rfl
theorem aSr:P.liftsFinal=false:=by
 unfold Program.liftsFinal;rw [h,aVk h]
 kernel_rfl
theorem bPn:P.make=some .cut:=by
 unfold Program.make;rw [h]
 kernel_rfl
theorem aYx(h1:P.laysLater=false)(h2:P.bearsReflect=false)(h3:P.doorFits []=true):P.mayEnter=true:=by
 unfold Program.mayEnter;rw [h];simp only [aUh,h1,h2,h3]
 kernel_rfl
end Go.AM
