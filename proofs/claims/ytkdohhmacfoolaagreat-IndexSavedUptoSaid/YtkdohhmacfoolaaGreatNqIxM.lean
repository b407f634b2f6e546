/- Facts. No condition. -/
import Derived.Test.YtkdohhmacfoolaaGreatNqIxL
set_option linter.unusedVariables false
set_option linter.unusedSimpArgs false
set_option maxRecDepth 20000
set_option maxHeartbeats 1000000
namespace Go.Proofs.YtkdohhmacfoolaaGreat
open Go Go.AM Go.Pl Go.Pt Go.Ix
theorem aSy{a m c:List Int}{i k:Nat}(hi:a.length=i)(hk:m.length=k):cut (a++(m++c)) i k=m:=by
 subst hi hk;simp [cut]
theorem aNf{a m m' c:List Int}{i k:Nat}(hi:a.length+m.length=i)(hk:m'.length=k):cut (a++(m++(m'++c))) i k=m':=by
 rw [←List.append_assoc];exact aSy (by simp [hi]) hk
theorem bH8{α:Type}{g:α→List Int}{w:Nat}(hg: ∀x,(g x).length=w){f:List Int→Nat→α} : ∀(xs:List α) (pre post:List Int) (a:Nat),pre.length=a→(∀x,x∈xs→ ∀p q:List Int,f (p++(g x++q)) p.length=x)→
 dl (f (pre++(xs.flatMap g++post))) w a xs.length=xs
 |[],pre,post,a,ha,hf=>rfl
 |x::xs,pre,post,a,ha,hf=>by
  have e:pre++((x::xs).flatMap g++post)=(pre++g x)++(xs.flatMap g++post):=by simp [List.flatMap_cons]
  simp only [List.length_cons,dl];congr 1
  · rw [List.flatMap_cons,List.append_assoc,←ha];exact hf x (by simp) pre _
  · rw [e];exact bH8 hg xs (pre++g x) post (a+w) (by simp [ha,hg]) fun y hy=>hf y (by simp [hy])
theorem bX7{x:dI}(hA:0≤x.A∧x.A<18446744073709551616)(hB:0≤x.B∧x.B<18446744073709551616)(p q:List Int):dH (p++(lh x++q)) p.length=x:=by
 unfold dH lh;rw [List.append_assoc,aSy rfl (mR _ _),aNf (by rw [mR]) (mR _ _),aM3 8 hA.1 hA.2,aM3 8 hB.1 hB.2]
theorem getD_at{a m:List Int}{x:Int}{i:Nat}(hi:a.length=i):(a++(x::m)).getD i 0=x:=by
 subst hi;simp [List.getD]
theorem bX8{x:aR}(hK:0≤x.Key∧x.Key<18446744073709551616)(p q:List Int):dS (p++(ls x++q)) p.length=x:=by
 unfold dS ls;rw [List.append_assoc,aNf (by rw [mR]) (mR _ _),aM3 8 hK.1 hK.2];simp only [lb,List.singleton_append,List.cons_append,List.nil_append];rw [getD_at rfl]
 cases x with
 |mk u k=>cases u<;>rfl
theorem bX6{x:aH}(hU:0≤x.U∧x.U<65536)(hV:0≤x.V∧x.V<65536)(hT:0≤x.Tier∧x.Tier<256)(p q:List Int):dE (p++(lE x++q)) p.length=x:=by
 unfold dE lE;rw [List.append_assoc,List.append_assoc,aSy rfl (mR _ _),aNf (by rw [mR]) (mR _ _),aM3 2 hU.1 hU.2,aM3 2 hV.1 hV.2];have e:p++(lb x.U 2++(lb x.V 2++(lb x.Tier 1++q)))=(p++lb x.U 2++lb x.V 2)++(x.Tier%256::q):=by simp [lb]
 rw [e,getD_at (by simp [mR])]
 cases x with
 |mk u v t=>
  simp only at hT⊢;rw [Int.emod_eq_of_lt hT.1 hT.2]
section
variable {s:aF}(nb:NB s)(hS:(s.Slots.length:Int)=s.Graph.Config.N)(hH:(s.Graph.Hashes.length:Int)=s.Graph.Config.L*s.Graph.Config.R)(lim:s.Graph.Config.N≤1024∧s.Graph.Config.L≤16∧s.Graph.Config.R≤8)
include nb hS hH lim
omit nb hS hH lim in
theorem aVs:(bytesOf s).length=10+s.Graph.Hashes.length*16+s.Slots.length*9+4+8+5*s.Graph.Edges.length:=by
 unfold bytesOf body;simp only [List.length_append,mR,aY3,aK0 aY9,aK0 aYb,aK0 bOc];omega
theorem bN1:Pk (bytesOf s) s.Graph.Config.N.toNat s.Graph.Config.L.toNat s.Graph.Config.R.toNat s.Graph.Edges.length∧dec (bytesOf s) s.Graph.Config.N.toNat s.Graph.Config.L.toNat s.Graph.Config.R.toNat s.Graph.Edges.length=s:=by
 obtain ⟨c1,c2,c3,c4,c5,c6⟩:=nb.c
 have hLR:s.Graph.Config.L.toNat*s.Graph.Config.R.toNat=s.Graph.Hashes.length:=by
  have:((s.Graph.Config.L.toNat*s.Graph.Config.R.toNat:Nat):Int)=(s.Graph.Hashes.length:Int):=by rw [Int.natCast_mul,Int.toNat_of_nonneg c2,Int.toNat_of_nonneg c3,hH]
  omega
 have hN:s.Graph.Config.N.toNat=s.Slots.length:=by omega
 have ne:=nb.ne
 have eB:bytesOf s=[82,65,70,84]++(lb s.Graph.Config.N 2++(lb s.Graph.Config.L 2++(lb s.Graph.Config.R 2++(s.Graph.Hashes.flatMap lh++(s.Slots.flatMap ls++(lb s.Graph.Edges.length 4++(s.Graph.Edges.flatMap lE++lb ((bM1 (body s) 1:Nat):Int) 8))))))):=by
  unfold bytesOf;rw [show body s=lc s.Graph.Config++s.Graph.Hashes.flatMap lh++s.Slots.flatMap ls++lb s.Graph.Edges.length 4++s.Graph.Edges.flatMap lE from rfl];simp only [lc,List.append_assoc]
 have l1:(s.Graph.Hashes.flatMap lh).length=s.Graph.Hashes.length*16:=aK0 aY9 _;have l2:(s.Slots.flatMap ls).length=s.Slots.length*9:=aK0 aYb _;refine ⟨⟨?_,?_,?_,by omega,?_,?_⟩,?_⟩
 · rw [eB,aSy (i:=4) (by simp) (mR _ _),aM3 2 c1 om];omega
 · rw [eB,aNf (by simp [mR]) (mR _ _),aM3 2 c2 om];omega
 · rw [eB,←List.append_assoc,aNf (by simp [mR]) (mR _ _),aM3 2 c3 om];omega
 · rw [hLR,hN,aVs]
 · rw [hLR,hN,eB];simp only [←List.append_assoc];rw [List.append_assoc _ (s.Graph.Edges.flatMap lE),List.append_assoc _ (lb (s.Graph.Edges.length:Int) 4)];rw [aSy (by simp [mR,l1,l2];omega) (mR _ _),aM3 4 om om]
 ·
  unfold dec;rw [hLR,hN]
  have d1:dl (dH (bytesOf s)) 16 10 s.Graph.Hashes.length=s.Graph.Hashes:=by
   rw [eB];simp only [←List.append_assoc];rw [List.append_assoc _ (s.Graph.Edges.flatMap lE),List.append_assoc _ (lb (s.Graph.Edges.length:Int) 4),List.append_assoc _ (s.Slots.flatMap ls),List.append_assoc _ (s.Graph.Hashes.flatMap lh)];exact bH8 aY9 _ _ _ 10 (by simp [mR]) fun x hx=>bX7 (nb.h x hx).1 (nb.h x hx).2
  have d2:dl (dS (bytesOf s)) 9 (10+16*s.Graph.Hashes.length) s.Slots.length=s.Slots:=by
   rw [eB];simp only [←List.append_assoc];rw [List.append_assoc _ (s.Graph.Edges.flatMap lE),List.append_assoc _ (lb (s.Graph.Edges.length:Int) 4),List.append_assoc _ (s.Slots.flatMap ls)];exact bH8 aYb _ _ _ _ (by simp [mR,l1];omega) fun x hx=>bX8 (nb.k x hx)
  have d3:dl (dE (bytesOf s)) 5 (10+16*s.Graph.Hashes.length+9*s.Slots.length+4) s.Graph.Edges.length=s.Graph.Edges:=by
   rw [eB];simp only [←List.append_assoc];rw [List.append_assoc _ (s.Graph.Edges.flatMap lE)];exact bH8 bOc _ _ _ _ (by simp [mR,l1,l2];omega) fun x hx=>bX6 (nb.e x hx).1 (nb.e x hx).2.1 (nb.e x hx).2.2
  rw [d1,d2,d3]
  cases s with
  |mk g sl=>
   cases g with
   |mk c h e=>
    cases c with
    |mk a b d=>
     simp only at hN c1 c2 c3 hS;simp only [Int.toNat_of_nonneg c2,Int.toNat_of_nonneg c3];rw [hS]
theorem aYw(hr:pY s=some true):rG (qG (bytesOf s))=some (s,0):=by
 obtain ⟨p,e⟩:=bN1 nb hS hH lim;have hb:BB (bytesOf s):=(bQl s).app (rP _ _)
 have hl:(bytesOf s).length≤4000000:=by
  rw [aVs];have h1:=nb.nh;have h2:=nb.ns;have h3:=nb.ne;omega
 unfold rG;rw [bG6 hb hl p,aA,e];show (bif false then _ else _)=_;rw [bf rfl,aOg nb hr,aA];show (bif ((0:Int) !=0)|| !decide (qG (bytesOf s)=qG (bytesOf s)) then _ else _)=_;rw [bf (by simp)]
end
theorem aXm{α:Type}{f:Nat→α}{w:Nat} : ∀ {k a:Nat} {x:α},x∈dl f w a k→ ∃j,j<k∧x=f (a+w*j)
 |0,a,x,h=>by simp [dl] at h
 |k+1,a,x,h=>by
  simp only [dl,List.mem_cons] at h;rcases h with rfl|h
  · exact ⟨0,by omega,rfl⟩
  · obtain ⟨j,hj,e⟩:=aXm h;exact ⟨j+1,by omega,by rw [e];congr 1;rw [Nat.mul_add];omega⟩
theorem bCq{l:List Int}(h:BB l){a k:Nat}(hk:a+k≤l.length):0≤ub (cut l a k)∧ub (cut l a k)<256^k:=by
 have:=bIo (aJw h a k)
 rwa [aB2 hk] at this
theorem bV7{l:List Int}(h:BB l){N L R K:Nat}(p:Pk l N L R K)(hl:l.length≤10000):NB (dec l N L R K):=by
 have hP:L*R≤128:=Nat.mul_le_mul p.lim.2.1 p.lim.2.2;have len:=p.len;have lim:=p.lim;have e:L*R*16=16*(L*R):=Nat.mul_comm _ _;refine ⟨?_,fun x hx=>?_,fun x hx=>?_,fun x hx=>?_,?_,?_,?_⟩
 · show 0≤(N:Int)∧0≤(L:Int)∧0≤(R:Int)∧(N:Int)<65536∧(L:Int)<65536∧(R:Int)<65536;omega
 · obtain ⟨j,hj,rfl⟩:=aXm (show x∈dl (dH l) 16 10 (L*R) from hx);exact ⟨bCq h (k:=8) om,bCq h (k:=8) om⟩
 · obtain ⟨j,hj,rfl⟩:=aXm (show x∈dl (dS l) 9 (10+16*(L*R)) N from hx);exact bCq h (k:=8) om
 ·
  obtain ⟨j,hj,rfl⟩:=aXm (show x∈dl (dE l) 5 (10+16*(L*R)+9*N+4) K from hx);have hlt:10+16*(L*R)+9*N+4+5*j+4<l.length:=by omega
  have:=h _ (List.getElem_mem hlt);rw [getD_get hlt] at this;exact ⟨bCq h (k:=2) om,bCq h (k:=2) om,this⟩
 · show (dl (dH l) 16 10 (L*R)).length≤1000;rw [aPg];omega
 · show (dl (dS l) 9 (10+16*(L*R)) N).length≤2000;rw [aPg];omega
 · show (dl (dE l) 5 (10+16*(L*R)+9*N+4) K).length≤10000;rw [aPg];omega
theorem bC4{b:ByteArray}(hb:b.size≤4000):rG b=some (z0,12)∨ ∃s,rG b=some (s,0)∧NB s∧SOK s∧s.Slots.length≤443∧s.Graph.Edges.length≤800∧b=qG (bytesOf s):=by
 have hB:=bV3 b;have hl:(byl b).length≤4000:=by rw [bQn];exact hb
 unfold rG;rw [←bMx b];generalize byl b=l at hB hl;rcases aO3 hB om with ⟨N,L,R,K,p,e⟩|⟨_,e⟩
 rotate_left
 · left;rw [e,aA];rfl
 rw [e,aA];have nb:=bV7 hB p om;have len:=p.len;have e1:(dec l N L R K).Slots.length=N:=aPg _ _ _ _;have e2:(dec l N L R K).Graph.Edges.length=K:=aPg _ _ _ _;have e3:(dec l N L R K).Graph.Hashes.length≤1000:=nb.nh;obtain ⟨q,q1,q2⟩:=aOo (s:=dec l N L R K) om om om
 cases q with
 |false=>
  left;show (bif false then _ else (sR (dec l N L R K)).bind _)=_;unfold sR;rw [bf rfl,q1,aA];rfl
 |true=>
  by_cases c:qG (bytesOf (dec l N L R K))=qG l
  · refine .inr ⟨dec l N L R K,?_,nb,q2.1 rfl,by omega,by omega,c.symm⟩;show (bif false then _ else (sR (dec l N L R K)).bind _)=_;rw [bf rfl,aOg nb q1,aA];show (bif ((0:Int) !=0)|| !decide (qG (bytesOf (dec l N L R K))=qG l) then _ else _)=_;rw [bf (by simp [c])]
  · left;show (bif false then _ else (sR (dec l N L R K)).bind _)=_;rw [bf rfl,aOg nb q1,aA];show (bif ((0:Int) !=0)|| !decide (qG (bytesOf (dec l N L R K))=qG l) then _ else _)=_;rw [bt (by simp [c])];rfl
end Go.Proofs.YtkdohhmacfoolaaGreat
