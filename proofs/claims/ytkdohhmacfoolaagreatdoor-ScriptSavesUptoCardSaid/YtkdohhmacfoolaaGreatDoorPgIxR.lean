/- Facts. No condition. -/
import Derived.Test.YtkdohhmacfoolaaGreatDoorPgIxP
set_option linter.unusedVariables false
set_option linter.unusedSimpArgs false
set_option maxRecDepth 20000
set_option maxHeartbeats 1000000
namespace Go.Proofs.YtkdohhmacfoolaaGreatDoor
open Go Go.AM Go.Pl Go.Pt Go.Ix
def uk(l:List aN):List Int:=(l.filter (·.Used)).map (·.Key)
theorem aYx(a b:List aN)(x:aN):uk (a++x::b)=uk a++((if x.Used=true then [x.Key] else [])++uk b):=by
 unfold uk;rw [List.filter_append,List.filter_cons,List.map_append];split<;>simp
theorem bXp{l:List aN}{k:Int} :k∈uk l↔ ∃j,At l j k:=by
 unfold uk At;rw [List.mem_map];constructor
 ·
  rintro ⟨s,hs,rfl⟩;obtain ⟨h1,h2⟩:=List.mem_filter.1 hs;obtain ⟨j,hj⟩:=List.getElem?_of_mem h1;refine ⟨j,hj.trans ?_⟩
  cases s with
  |mk u k=>cases h2;rfl
 · rintro ⟨j,hj⟩;exact ⟨_,List.mem_filter.2 ⟨List.mem_of_getElem? hj,rfl⟩,rfl⟩
theorem parts{l:List aN}{j:Nat}{s:aN}(h:l[j]? =some s)(x:aN):l=l.take j++s::l.drop (j+1)∧l.set j x=l.take j++x::l.drop (j+1):=by
 obtain ⟨hj,rfl⟩:=List.getElem?_eq_some_iff.1 h;refine ⟨?_,?_⟩
 · conv=>lhs;rw [←List.take_append_drop j l,dZ hj]
 · rw [List.set_eq_take_append_cons_drop,if_pos hj]
theorem bW3{l:List aN}{j:Nat}{s:aN}(h:l[j]? =some s)(hs:s.Used=false)(k:Int):(uk (l.set j ⟨true,k⟩)).Perm (k::uk l):=by
 obtain ⟨p1,p2⟩:=parts h ⟨true,k⟩
 have e1:uk l=uk (l.take j)++([]++uk (l.drop (j+1))):=by
  conv=>lhs;rw [p1]
  rw [aYx,hs];rfl
 rw [e1,p2,aYx,if_pos rfl];exact List.perm_middle
theorem bYi{l:List aN}{j:Nat}{k:Int}(h:At l j k):(uk l).Perm (k::uk (l.set j ⟨false,0⟩)):=by
 obtain ⟨p1,p2⟩:=parts h ⟨false,0⟩
 have e1:uk l=uk (l.take j)++([k]++uk (l.drop (j+1))):=by
  conv=>lhs;rw [p1]
  rw [aYx];rfl
 rw [e1,p2,aYx,if_neg (by simp)];exact List.perm_middle
theorem bW2(l:List aN):(uk l).length≤l.length:=by unfold uk;rw [List.length_map];exact List.length_filter_le _ _
theorem bYh{l:List aN}(h: ∀s,s∈l→s.Used=true):(uk l).length=l.length:=by
 unfold uk;rw [List.length_map,List.filter_eq_self.2 h]
theorem at_set{l:List aN}{j i:Nat}{x:aN}{k:Int}(h:At (l.set j x) i k):(i=j∧x=⟨true,k⟩)∨(i≠j∧At l i k):=by
 unfold At at*
 by_cases c:j=i
 ·
  subst c;rw [List.getElem?_set] at h;simp only [if_true] at h;split at h
  · cases h;exact .inl ⟨rfl,rfl⟩
  · cases h
 · rw [List.getElem?_set_ne c] at h;exact .inr ⟨fun e=>c e.symm,h⟩
theorem aR6{l:List aN}{j i:Nat}{x:aN}{k:Int}(h:At l i k)(hn:i≠j):At (l.set j x) i k:=by
 unfold At at*;rw [List.getElem?_set_ne (fun e=>hn e.symm)];exact h
theorem VOK.on{l:List aN}(h:VOK l){j:Nat}{key:Int}(hn: ∀i,¬At l i key):VOK (l.set j ⟨true,key⟩):=by
 refine ⟨by rw [List.length_set];exact h.n1,by rw [List.length_set];exact h.n2,fun s hs hu=>?_,fun i i' k a b=>?_⟩
 ·
  rcases List.mem_or_eq_of_mem_set hs with q|rfl
  · exact h.z s q hu
  · cases hu
 ·
  rcases at_set a with ⟨a1,a2⟩|⟨a1,a2⟩<;>rcases at_set b with ⟨b1,b2⟩|⟨b1,b2⟩
  · omega
  · cases a2;exact absurd b2 (hn _)
  · cases b2;exact absurd a2 (hn _)
  · exact h.inj _ _ _ a2 b2
theorem VOK.off{l:List aN}(h:VOK l){j:Nat} :VOK (l.set j ⟨false,0⟩):=by
 refine ⟨by rw [List.length_set];exact h.n1,by rw [List.length_set];exact h.n2,fun s hs hu=>?_,fun i i' k a b=>?_⟩
 ·
  rcases List.mem_or_eq_of_mem_set hs with q|rfl
  · exact h.z s q hu
  · rfl
 ·
  rcases at_set a with ⟨a1,a2⟩|⟨a1,a2⟩
  · cases a2
  rcases at_set b with ⟨b1,b2⟩|⟨b1,b2⟩
  · cases b2
  exact h.inj _ _ _ a2 b2
def kv(l:List aN)(v:Int):Int:=((l[v.toNat]?).map (·.Key)).getD 0
def aDu(l:List aN)(e:Int×Int):bG:=pr2 (kv l e.1) (kv l e.2)
theorem aPz{l:List aN}{j:Nat}{k:Int}(h:At l j k):kv l (j:Int)=k:=by unfold kv;rw [Int.toNat_natCast,h];rfl
theorem bEo{l:List aN}{v:Int}(h:Usd l v):At l v.toNat (kv l v):=by
 obtain ⟨k,hk⟩:=h;have:kv l v=k:=by unfold kv;rw [hk];rfl
 rw [this];exact hk
theorem aOl{l:List aN}(h:VOK l){x:Int}(h0:0≤x)(hu:Usd l x){j:Nat}(ha:At l j (kv l x)):x=(j:Int):=by
 have:=h.inj _ _ _ (bEo hu) ha;omega
theorem aXm{l:List aN}{j:Nat}{x:aN}{v:Int}(h:v.toNat≠j):kv (l.set j x) v=kv l v:=by
 unfold kv;rw [List.getElem?_set_ne (fun e=>h e.symm)]
structure Rel(c:aX)(s:aC)(m:aM):Prop where
  ok:SOK s
  gd:GD s.Graph
  cf:s.Graph.Config=c
  most:m.Most=c.N
  keys:m.Keys.Perm (uk s.Slots)
  pairs:m.Pairs.Perm ((en s.Graph.Edges).map (aDu s.Slots))
section
variable {c:aX}{s:aC}{m:aM}(R:Rel c s m)
include R
theorem Rel.mem(k:Int):k∈m.Keys↔ ∃j,At s.Slots j k:=R.keys.mem_iff.trans bXp
theorem Rel.lt{j:Nat}{k:Int}(h:At s.Slots j k):0≤(j:Int)∧(j:Int)<s.Graph.Config.N:=by
 have:=(List.getElem?_eq_some_iff.1 h).1;have:=R.ok.len;omega
theorem Rel.edge{e:aE}(h:e∈s.Graph.Edges):0≤e.U∧0≤e.V∧e.U<e.V∧Usd s.Slots e.U∧Usd s.Slots e.V:=by
 have a:=(gok R.gd.ok).rg e h;have b:=uR.1 ((gok R.gd.ok).gc.ti.tb.ok e h);have u:=R.ok.us e h;exact ⟨a.1,a.2.2.1,b.2.1,u.1,u.2⟩
theorem Rel.ends{e:aE}(he:e∈s.Graph.Edges){i j:Nat}{a b:Int}(ha:At s.Slots i a)(hb:At s.Slots j b):aDu s.Slots (e.U,e.V)=pr2 a b↔kN (i:Int) (j:Int) e=true:=by
 obtain ⟨e1,e2,e3,e4,e5⟩:=R.edge he;have v:=R.ok.v;unfold kN;simp only [Bool.or_eq_true,Bool.and_eq_true,beq_iff_eq];constructor
 ·
  intro h;rcases bUj h with ⟨h1,h2⟩|⟨h1,h2⟩
  · exact .inl ⟨aOl v e1 e4 (by rw [h1];exact ha),aOl v e2 e5 (by rw [h2];exact hb)⟩
  · exact .inr ⟨aOl v e1 e4 (by rw [h1];exact hb),aOl v e2 e5 (by rw [h2];exact ha)⟩
 ·
  unfold aDu;rintro (⟨h1,h2⟩|⟨h1,h2⟩)
  · simp only [];rw [h1,h2,aPz ha,aPz hb]
  · simp only [];rw [h1,h2,aPz ha,aPz hb,bBf]
theorem Rel.has{i j:Nat}{a b:Int}(ha:At s.Slots i a)(hb:At s.Slots j b):pr2 a b∈m.Pairs↔ ∃e,e∈s.Graph.Edges∧kN (i:Int) (j:Int) e=true:=by
 rw [R.pairs.mem_iff,List.mem_map];constructor
 · rintro ⟨q,hq,e⟩;obtain ⟨x,hx,rfl⟩:=oW.1 hq;exact ⟨x,hx,(R.ends hx ha hb).1 e⟩
 · rintro ⟨x,hx,e⟩;exact ⟨_,oW.2 ⟨x,hx,rfl⟩,(R.ends hx ha hb).2 e⟩
theorem Rel.near_len{i:Nat}{a:Int}(ha:At s.Slots i a):(aCe s.Graph.Edges (i:Int)).length=(aVu m.Pairs a).length:=by
 rw [bL2,(R.pairs.filter _).length_eq,List.filter_map,List.length_map];unfold aCe en;rw [List.filter_map,List.length_map,List.length_filterMap_eq_countP,List.countP_eq_length_filter];congr 1;refine List.filter_congr fun e he=>?_;obtain ⟨e1,e2,e3,e4,e5⟩:=R.edge he;have v:=R.ok.v;have q1:kv s.Slots e.U=a↔(i:Int)=e.U:=⟨fun h=>(aOl v e1 e4 (by rw [h];exact ha)).symm,fun h=>by rw [←h,aPz ha]⟩
 have q2:kv s.Slots e.V=a↔(i:Int)=e.V:=⟨fun h=>(aOl v e2 e5 (by rw [h];exact ha)).symm,fun h=>by rw [←h,aPz ha]⟩
 have t:touch a (aDu s.Slots (e.U,e.V))=(decide ((i:Int)=e.U)||decide ((i:Int)=e.V)):=by
  unfold touch aDu pr2;simp only [];split
  · by_cases c1:(i:Int)=e.U<;>by_cases c2:(i:Int)=e.V<;>simp [c1,c2,q1,q2]
  · by_cases c1:(i:Int)=e.U<;>by_cases c2:(i:Int)=e.V<;>simp [c1,c2,q1,q2]
 simp only [Function.comp];rw [t]
 by_cases c1:(i:Int)=e.U
 · simp [c1]
 ·
  by_cases c2:(i:Int)=e.V
  · rw [if_neg c1,if_pos c2,decide_eq_true c2];simp
  · rw [if_neg c1,if_neg c2,decide_eq_false c1,decide_eq_false c2];rfl
theorem Rel.on{j:Nat}{x:aN}{key:Int}(hj:s.Slots[j]? =some x)(hx:x.Used=false)(hn: ∀i,¬At s.Slots i key):Rel c ⟨s.Graph,s.Slots.set j ⟨true,key⟩⟩ ⟨m.Most,m.Keys++[key],m.Pairs⟩:=by
 have ne: ∀v,Usd s.Slots v→v.toNat≠j:=fun v ⟨k,hk⟩ e=>by
  unfold At at hk;rw [e,hj] at hk;cases hk;cases hx
 refine ⟨⟨R.ok.g,R.ok.v.on hn,by rw [List.length_set];exact R.ok.len,fun e he=>?_⟩,R.gd,R.cf,R.most,?_,?_⟩
 · obtain ⟨⟨k1,h1⟩,⟨k2,h2⟩⟩:=R.ok.us e he;exact ⟨⟨k1,aR6 h1 (ne _ ⟨k1,h1⟩)⟩,⟨k2,aR6 h2 (ne _ ⟨k2,h2⟩)⟩⟩
 · exact (List.perm_append_singleton key m.Keys).trans ((R.keys.cons key).trans (bW3 hj hx key).symm)
 ·
  show m.Pairs.Perm ((en s.Graph.Edges).map (aDu (s.Slots.set j ⟨true,key⟩)));rw [List.map_congr_left (g:=aDu s.Slots) fun q hq=>?_]
  · exact R.pairs
  · obtain ⟨e,he,rfl⟩:=oW.1 hq;obtain ⟨_,_,_,u1,u2⟩:=R.edge he;unfold aDu;rw [aXm (ne _ u1),aXm (ne _ u2)]
theorem Rel.off{j:Nat}{key:Int}(hj:At s.Slots j key)(hz:aCe s.Graph.Edges (j:Int)=[]){ks:List Int}(hk:m.Keys.Perm (key::ks)):Rel c ⟨s.Graph,s.Slots.set j ⟨false,0⟩⟩ ⟨m.Most,ks,m.Pairs⟩:=by
 have ne: ∀e,e∈s.Graph.Edges→e.U.toNat≠j∧e.V.toNat≠j:=fun e he=>by
  obtain ⟨e1,e2,e3,_,_⟩:=R.edge he;have:=List.filterMap_eq_nil_iff.1 hz e he;split at this
  · cases this
  ·
   split at this
   · cases this
   · exact ⟨by omega,by omega⟩
 refine ⟨⟨R.ok.g,R.ok.v.off,by rw [List.length_set];exact R.ok.len,fun e he=>?_⟩,R.gd,R.cf,R.most,?_,?_⟩
 · obtain ⟨⟨k1,h1⟩,⟨k2,h2⟩⟩:=R.ok.us e he;exact ⟨⟨k1,aR6 h1 (ne e he).1⟩,⟨k2,aR6 h2 (ne e he).2⟩⟩
 · exact (hk.symm.trans (R.keys.trans (bYi hj))).cons_inv
 ·
  show m.Pairs.Perm ((en s.Graph.Edges).map (aDu (s.Slots.set j ⟨false,0⟩)));rw [List.map_congr_left (g:=aDu s.Slots) fun q hq=>?_]
  · exact R.pairs
  · obtain ⟨e,he,rfl⟩:=oW.1 hq;unfold aDu;rw [aXm (ne e he).1,aXm (ne e he).2]
theorem Rel.ins{i j:Nat}{a b:Int}(ha:At s.Slots i a)(hb:At s.Slots j b)(hne:(i:Int)≠(j:Int)){l':List aE}{g2:aJ}(h4:aKn s.Graph.Edges (edg (i:Int) (j:Int)) l')(hg:GD ⟨s.Graph.Config,s.Graph.Hashes,l'⟩)
 (h5:aFv (i:Int) (j:Int) 0 ⟨s.Graph.Config,s.Graph.Hashes,l'⟩ g2) (h6:GD g2):Rel c ⟨g2,s.Slots⟩ ⟨m.Most,m.Keys,m.Pairs++[pr2 a b]⟩:=by
 have F:=h5.facts (gok hg.ok).gc (Int.le_refl _);obtain ⟨A,B,ea,eb⟩:=h4.en;have e2:en g2.Edges=A++((edg (i:Int) (j:Int)).U,(edg (i:Int) (j:Int)).V)::B:=F.al.e.trans eb
 have pk:aDu s.Slots ((edg (i:Int) (j:Int)).U,(edg (i:Int) (j:Int)).V)=pr2 a b:=by
  unfold aDu;rcases aS3 hne with ⟨x,y,_⟩|⟨x,y,_⟩<;>simp only [x,y]<;>rw [aPz ha,aPz hb]
  exact bBf _ _
 refine ⟨⟨h6.ok,R.ok.v,?_,fun e he=>?_⟩,h6,?_,R.most,R.keys,?_⟩
 · rw [F.al.c];exact R.ok.len
 ·
  have:(e.U,e.V)∈en g2.Edges:=oW.2 ⟨e,he,rfl⟩;rw [e2] at this
  have h':(e.U,e.V)=((edg (i:Int) (j:Int)).U,(edg (i:Int) (j:Int)).V)∨(e.U,e.V)∈en s.Graph.Edges:=by
   rw [ea];simp only [List.mem_append,List.mem_cons] at this⊢;rcases this with q|q|q
   · exact .inr (.inl q)
   · exact .inl q
   · exact .inr (.inr q)
  rcases h' with q|q
  ·
   injection q with q1 q2
   have u1:Usd s.Slots (i:Int):=⟨a,by rw [Int.toNat_natCast];exact ha⟩
   have u2:Usd s.Slots (j:Int):=⟨b,by rw [Int.toNat_natCast];exact hb⟩
   rw [q1,q2];rcases aS3 hne with ⟨x,y,_⟩|⟨x,y,_⟩<;>rw [x,y]
   · exact ⟨u1,u2⟩
   · exact ⟨u2,u1⟩
  ·
   obtain ⟨x,hx,q⟩:=oW.1 q;injection q with q1 q2
   rw [←q1,←q2];exact R.ok.us x hx
 · rw [F.al.c];exact R.cf
 · show (m.Pairs++[pr2 a b]).Perm ((en g2.Edges).map (aDu s.Slots));refine (List.perm_append_singleton _ _).trans ((R.pairs.cons _).trans ?_);rw [e2,ea,List.map_append,List.map_append,List.map_cons,pk];exact List.perm_middle.symm
theorem Rel.del{i j:Nat}{a b:Int}(ha:At s.Slots i a)(hb:At s.Slots j b){k:Nat}{g2:aJ}(h2:fnd (kN (i:Int) (j:Int)) s.Graph.Edges 0=some k)(hg:GD ⟨s.Graph.Config,s.Graph.Hashes,s.Graph.Edges.take k++s.Graph.Edges.drop (k+1)⟩)
 (h5:aFv (i:Int) (j:Int) 0 ⟨s.Graph.Config,s.Graph.Hashes,s.Graph.Edges.take k++s.Graph.Edges.drop (k+1)⟩ g2) (h6:GD g2) {ps:List bG} (hp:m.Pairs.Perm (pr2 a b::ps)):Rel c ⟨g2,s.Slots⟩ ⟨m.Most,m.Keys,ps⟩:=by
 have F:=h5.facts (gok hg.ok).gc (Int.le_refl _);obtain ⟨e,r1,r2,r3⟩:=aKf h2;have he:e∈s.Graph.Edges:=List.mem_of_getElem? r1
 have ea:en s.Graph.Edges=en (s.Graph.Edges.take k)++(e.U,e.V)::en (s.Graph.Edges.drop (k+1)):=by
  conv=>lhs;rw [r3]
  rw [yA];rfl
 have e2:en g2.Edges=en (s.Graph.Edges.take k)++en (s.Graph.Edges.drop (k+1)):=F.al.e.trans (yA _ _);have pk:=(R.ends he ha hb).2 r2;refine ⟨⟨h6.ok,R.ok.v,?_,fun x hx=>?_⟩,h6,?_,R.most,R.keys,?_⟩
 · rw [F.al.c];exact R.ok.len
 ·
  have:(x.U,x.V)∈en g2.Edges:=oW.2 ⟨x,hx,rfl⟩;rw [e2] at this
  have h':(x.U,x.V)∈en s.Graph.Edges:=by
   rw [ea];simp only [List.mem_append,List.mem_cons] at this⊢;rcases this with q|q
   · exact .inl q
   · exact .inr (.inr q)
  obtain ⟨y,hy,q⟩:=oW.1 h';injection q with q1 q2
  rw [←q1,←q2];exact R.ok.us y hy
 · rw [F.al.c];exact R.cf
 ·
  show ps.Perm ((en g2.Edges).map (aDu s.Slots))
  have h3:(pr2 a b::ps).Perm (pr2 a b::(en g2.Edges).map (aDu s.Slots)):=by
   refine hp.symm.trans (R.pairs.trans ?_);rw [ea,e2,List.map_append,List.map_append,List.map_cons,pk];exact List.perm_middle
  exact h3.cons_inv
end
open Go Go.AM Go.Pl Go.Pt Go.Ix
theorem aYt{c:aX}{s:aC}{m:aM}(R:Rel c s m)(hS:s.Slots.length≤1024):mP s=some true:=by
 obtain ⟨b,b1,b2⟩:=aNs R.gd.e R.gd.h hS;rw [b1,b2.2 R.ok]
structure Fd(s:aC)(k v:Int)(b:Bool):Prop where
  h:uB s.Slots k=some (v,b)
  c:(b=true∧ ∃j:Nat,v=(j:Int)∧At s.Slots j k)∨(b=false∧v=0∧ ∀j,¬At s.Slots j k)
theorem fd{c:aX}{s:aC}{m:aM}(R:Rel c s m)(hS:s.Slots.length≤1024)(k:Int): ∃v b,Fd s k v b:=by
 obtain ⟨v,b,h1,h2⟩:=aYz hS R.ok.v k;exact ⟨v,b,h1,h2⟩
section
variable {c:aX}{s:aC}{m:aM}(R:Rel c s m)(hS:s.Slots.length≤1024)(hE:s.Graph.Edges.length<10000)
include R hS hE
theorem Rel.small:m.Keys.length<1000000∧m.Pairs.length<100000:=by
 have a:=R.keys.length_eq;have b:=R.pairs.length_eq;rw [List.length_map,zG] at b;have:=bW2 s.Slots;exact ⟨by omega,by omega⟩
omit hE in
theorem aMs{d a b:Int}{text:ByteArray}{vA vB:Int}{bA bB rA rB:Bool}(hd:(decide (d<1)||decide (15<d))=false)(fA:Fd s a vA bA)(fB:Fd s b vB bB)(eA:qM d=some rA)(eB:qN d=some rB):
 kY s ⟨d,a,b,text⟩=(bif (rA&& !bA)||(rB&& !bB) then some (s,GA.i 36 .i64 7) else bif decide (4<d)&&(d !=15) then (mH s d vA vB).bind fun r=>some (s,r) else
  (kA s ⟨d,a,b,text⟩ vA vB).bind fun x=>bif x.2 !=0 then some (s,GA.i 36 .i64 x.2) else some (x.1,GA.i 36 .i64 0)):=by
 unfold kY;simp only [];rw [hd,gt' (by rfl),aYt R hS,aA,bf (by rfl),fA.h,aA];simp only [];rw [fB.h,aA];simp only [];rw [eA,aA]
 cases q:(rA&& !bA) with
 |true=>rw [gf' (by rfl),aA,bt (by rfl),bt (by rfl)]
 |false=>rw [gt' (by rfl),eB,aA]
def Step(c:aX)(s:aC)(m:aM)(d a b:Int)(text:ByteArray):Prop:=
  ∃s' f k,kY s ⟨d,a,b,text⟩=some (s',GA.i 36 .i64 f)∧gX m d a b=some (k,f)∧Rel c s' k∧(f≠0→s'=s∧k=m)∧s'.Slots.length=s.Slots.length∧s'.Graph.Edges.length≤s.Graph.Edges.length+1∧0≤f
theorem step1(a b:Int)(text:ByteArray):Step c s m 1 a b text:=by
 obtain ⟨sm1,sm2⟩:=R.small hS hE;obtain ⟨vA,bA,fA⟩:=fd R hS a;obtain ⟨vB,bB,fB⟩:=fd R hS b;unfold Step;rw [aMs R hS (d:=1) (by rfl) fA fB rfl rfl];unfold gX;rw [bf (by rfl),bf (by rfl)];unfold kA;rw [bt (by rfl)];obtain ⟨r2,f1,f2⟩:=uW a sm1;rw [f1,aA,bt (by rfl)];obtain ⟨l',v,e,h1,h2⟩:=bCc hS R.ok.v a;simp only [];rw [h1,aA];simp only [kH];have hmem:=R.mem a;rcases h2 with ⟨q1,rfl,rfl⟩|⟨q1,q2,rfl,rfl⟩|⟨q1,j,⟨x,hj,hx⟩,rfl,rfl⟩
 ·
  rw [aA];simp only [];rw [bt (by rfl)];rcases f2 with ⟨f2,rfl⟩|⟨j,rfl,f2⟩
  · exact absurd (hmem.2 q1) f2
  · rw [bt (by simp)];exact ⟨_,_,_,rfl,rfl,R,fun _=>⟨rfl,rfl⟩,rfl,by omega,by simp⟩
 ·
  rw [aA];simp only [];rw [bt (by rfl)];rcases f2 with ⟨f2,rfl⟩|⟨j,rfl,f2⟩
  · have e1:=R.keys.length_eq;rw [bYh q2] at e1;have e2:=R.ok.len;have e3:=R.most;rw [R.cf] at e2;rw [bf (by rfl),bt (by simp;omega)];exact ⟨_,_,_,rfl,rfl,R,fun _=>⟨rfl,rfl⟩,rfl,by omega,by simp⟩
  · exact absurd (hmem.1 (List.mem_of_getElem? f2)) fun ⟨j,h⟩=>q1 j h
 ·
  rw [aA];simp only [];rw [bf (by rfl)];rcases f2 with ⟨f2,rfl⟩|⟨j,rfl,f2⟩
  · have e1:=R.keys.length_eq;have e4:=(bW3 hj hx a).length_eq;have e5:=bW2 (s.Slots.set j ⟨true,a⟩);rw [List.length_cons] at e4;rw [List.length_set] at e5;have e2:=R.ok.len;have e3:=R.most;rw [R.cf] at e2;rw [bf (by rfl),bf (by simp;omega),gG (by simp;omega),aA,gG (by simp;omega),aA,List.nil_append];exact ⟨_,_,_,rfl,rfl,R.on hj hx q1,fun h=>absurd rfl h,by simp,by simp,by simp⟩
  · exact absurd (hmem.1 (List.mem_of_getElem? f2)) fun ⟨j,h⟩=>q1 j h
theorem step2(a b:Int)(text:ByteArray):Step c s m 2 a b text:=by
 obtain ⟨sm1,sm2⟩:=R.small hS hE;obtain ⟨vA,bA,fA⟩:=fd R hS a;obtain ⟨vB,bB,fB⟩:=fd R hS b;have cA:=fA.c;have hmem:=R.mem a;obtain ⟨r2,f1,f2⟩:=uW a sm1;have I:=aMs R hS (d:=2) (text:=text) (by rfl) fA fB rfl rfl;rcases cA with ⟨rfl,i,rfl,ha⟩|⟨rfl,rfl,ha⟩
 ·
  rw [bf (by rfl),bf (by rfl)] at I;rcases f2 with ⟨f2,rfl⟩|⟨j,rfl,f2⟩
  · exact absurd (hmem.2 ⟨i,ha⟩) f2
  obtain ⟨i0,i1⟩:=R.lt ha;have nl:=R.near_len ha
  have M:gX m 2 a b=(bif decide (0<((aVu m.Pairs a).length:Int)) then some (m,11) else ((slc m.Keys 0 (j:Int)).bind fun l12=>(app [] l12).bind fun l14=>(slc m.Keys (IntKind.i64.wrap ((j:Int)+1)) (m.Keys.length:Int)).bind fun l16=>(app l14 l16).bind fun l18=>some (⟨m.Most,l18,m.Pairs⟩,0))):=by
   unfold gX;rw [f1,aA,bf (by rfl),gf' (by simp),aA,bf (by simp),bt (by rfl),aYe sm2,aA]
  unfold kA rO at I;simp only [] at I;rw [bf (by rfl),bt (by rfl),aH5 R.gd.ok om i0 i1,aA,aA,nl] at I
  by_cases z:0<(aVu m.Pairs a).length
  · rw [bt (by simpa using z),aA,bt (by rfl)] at I;rw [bt (by simpa using z)] at M;exact ⟨_,_,_,I,M,R,fun _=>⟨rfl,rfl⟩,rfl,by omega,by simp⟩
  ·
   rw [bf (by simpa using z)] at I M;obtain ⟨l',e,h1,h2⟩:=aTs hS R.ok.v a;rw [h1,aA] at I;simp only [kH] at I;rcases h2 with ⟨h2,_⟩|⟨i',h2,rfl,rfl⟩
   · exact absurd ha (h2 i)
   ·
    have:=R.ok.v.inj _ _ _ h2 ha;subst this;have hj:=(List.getElem?_eq_some_iff.1 f2).1;have ez:aCe s.Graph.Edges (i':Int)=[]:=List.eq_nil_of_length_eq_zero om;rw [aA,bf (by rfl)] at I;rw [aCb rfl om,aA,gG (by simp;omega),aA,wr1 j om,wF rfl om,aA,gG (by simp;omega),aA,List.nil_append] at M;refine ⟨_,_,_,I,M,R.off ha ez ?_,fun h=>absurd rfl h,by simp,by simp,by simp⟩;obtain ⟨_,e⟩:=List.getElem?_eq_some_iff.1 f2
    have:m.Keys=m.Keys.take j++a::m.Keys.drop (j+1):=by
     conv=>lhs;rw [←List.take_append_drop j m.Keys,dZ hj,e]
    conv=>lhs;rw [this]
    exact List.perm_middle
 ·
  rw [bt (by rfl)] at I;rcases f2 with ⟨f2,rfl⟩|⟨j,rfl,f2⟩
  · refine ⟨_,_,_,I,?_,R,fun _=>⟨rfl,rfl⟩,rfl,by omega,by simp⟩;unfold gX;rw [f1,aA,bf (by rfl),gf' (by rfl),aA,bt (by rfl)]
  · exact absurd (hmem.1 (List.mem_of_getElem? f2)) fun ⟨j,h⟩=>ha j h
theorem both{d a b:Int}(hd:d=3∨d=4){i j:Nat}(ha:At s.Slots i a)(hb:At s.Slots j b): ∃r22,aOy m.Pairs (pr2 a b)=some r22∧((pr2 a b∉m.Pairs∧r22= -1)∨ ∃k:Nat,r22=(k:Int)∧m.Pairs[k]? =some (pr2 a b))∧
 gX m d a b=(bif d==4 then (bif decide (r22<0) then some (m,9) else ((slc m.Pairs 0 r22).bind fun l24=>(app [] l24).bind fun l26=>(slc m.Pairs (IntKind.i64.wrap (r22+1)) (m.Pairs.length:Int)).bind fun l28=>(app l26 l28).bind fun l30=>some (⟨m.Most,m.Keys,l30⟩,0))) else
  (bif a==b then some (m,8) else (bif decide (0≤r22) then some (m,4) else ((app [] m.Pairs).bind fun l32=>(app l32 [pr2 a b]).bind fun l34=>some (⟨m.Most,m.Keys,l34⟩,0))))):=by
 obtain ⟨sm1,sm2⟩:=R.small hS hE;obtain ⟨r22,p1,p2⟩:=bF4 (pr2 a b) (l:=m.Pairs) om;refine ⟨r22,p1,p2,?_⟩;obtain ⟨r2,f1,f2⟩:=uW a sm1;obtain ⟨r8,g1,g2⟩:=uW b sm1
 have ra:0≤r2:=by
  rcases f2 with ⟨f2,_⟩|⟨_,rfl,_⟩
  · exact absurd ((R.mem a).2 ⟨i,ha⟩) f2
  · omega
 have rb:0≤r8:=by
  rcases g2 with ⟨g2,_⟩|⟨_,rfl,_⟩
  · exact absurd ((R.mem b).2 ⟨j,hb⟩) g2
  · omega
 have d1:(d==1)=false:=by simp;omega
 have d2:(d==2)=false:=by simp;omega
 clear f2 g2 p2;have n1:decide (r2<0)=false:=decide_eq_false om;have n2:decide (r8<0)=false:=decide_eq_false om;have n3:decide (2<d)=true:=decide_eq_true om;unfold gX;rw [f1,aA,bf d1,n1,n3,gt' (by rfl),g1,aA,n2,bf (by rfl),bf d2,aYf,aA,p1,aA]
theorem lone{d a b:Int}(hd:d=3∨d=4)(h:a∉m.Keys∨b∉m.Keys):gX m d a b=some (m,7):=by
 obtain ⟨sm1,sm2⟩:=R.small hS hE;obtain ⟨r2,f1,f2⟩:=uW a sm1;obtain ⟨r8,g1,g2⟩:=uW b sm1;have d1:(d==1)=false:=by clear f2 g2 h;simp;omega
 unfold gX;rw [f1,aA,bf d1];rcases f2 with ⟨f2,rfl⟩|⟨k,rfl,f2⟩
 · rw [gf' (by simp),aA,bt (by simp)]
 ·
  rw [gt' (by clear g2 h;simp;omega),g1,aA];rcases g2 with ⟨g2,rfl⟩|⟨k',rfl,g2⟩
  · rw [bt (by clear h;simp;omega)]
  · exact (h.elim (fun q=>q (List.mem_of_getElem? f2)) fun q=>q (List.mem_of_getElem? g2)).elim
theorem cB1(a b:Int)(text:ByteArray):Step c s m 3 a b text:=by
 obtain ⟨sm1,sm2⟩:=R.small hS hE;obtain ⟨vA,bA,fA⟩:=fd R hS a;obtain ⟨vB,bB,fB⟩:=fd R hS b;have cA:=fA.c;have cB:=fB.c;have I:=aMs R hS (d:=3) (text:=text) (by rfl) fA fB rfl rfl;rcases cA with ⟨rfl,i,rfl,ha⟩|⟨rfl,rfl,ha⟩
 ·
  rcases cB with ⟨rfl,j,rfl,hb⟩|⟨rfl,rfl,hb⟩
  ·
   rw [bf (by rfl),bf (by rfl)] at I;unfold kA at I;simp only [] at I;rw [bf (by rfl),bf (by rfl),bt (by rfl)] at I;obtain ⟨r,t1,t2⟩:=aTk R.gd om (i:Int) (j:Int);obtain ⟨r22,p1,p2,M⟩:=both R hS hE (d:=3) (.inl rfl) ha hb;rw [bf (by rfl)] at M;rw [t1,aA] at I;simp only [kH] at I;have li:=R.lt ha;have lj:=R.lt hb;have hh:=R.has ha hb;rcases t2 with ⟨h1,rfl⟩|⟨h1,h2,rfl⟩|⟨h1,h2,h3,rfl⟩|⟨h1,h2,h3,l',g2,h4,hg,h5,h6,rfl⟩
   · exact absurd ⟨li.1,li.2,lj.1,lj.2⟩ h1
   ·
    have e:i=j:=by omega
    subst e
    have e:a=b:=by
     unfold At at ha hb;rw [ha] at hb;cases hb;rfl
    rw [aA,bt (by rfl)] at I;rw [bt (by simpa using e)] at M;exact ⟨_,_,_,I,M,R,fun _=>⟨rfl,rfl⟩,rfl,by omega,by simp⟩
   ·
    have e:a≠b:=fun e=>h2 (by subst e;have:=R.ok.v.inj _ _ _ ha hb;omega);rw [aA,bt (by rfl)] at I;rcases p2 with ⟨p2,rfl⟩|⟨k,rfl,p2⟩
    · exact absurd (hh.2 h3) p2
    · rw [bf (by simpa using e),bt (by simp)] at M;exact ⟨_,_,_,I,M,R,fun _=>⟨rfl,rfl⟩,rfl,by omega,by simp⟩
   ·
    have e:a≠b:=fun e=>h2 (by subst e;have:=R.ok.v.inj _ _ _ ha hb;omega);rw [aA,bf (by rfl)] at I;rcases p2 with ⟨p2,rfl⟩|⟨k,rfl,p2⟩
    · rw [bf (by simpa using e),bf (by rfl),gG (by simp;omega),aA,gG (by simp;omega),aA,List.nil_append] at M;have F:=(bSd R.gd (.inr (.inr (.inr ⟨h1,h2,h3,l',g2,h4,hg,h5,h6,rfl⟩)))).len;exact ⟨_,_,_,I,M,R.ins ha hb h2 h4 hg h5 h6,fun h=>absurd rfl h,rfl,F,by simp⟩
    · obtain ⟨e,e1,e2⟩:=hh.1 (List.mem_of_getElem? p2);rw [h3 e e1] at e2;cases e2
  · rw [bt (by rfl)] at I;exact ⟨_,_,_,I,lone R hS hE (.inl rfl) (.inr fun q=>by obtain ⟨j,h⟩:=(R.mem b).1 q;exact hb j h),R,fun _=>⟨rfl,rfl⟩,rfl,by omega,by simp⟩
 · rw [bt (by rfl)] at I;exact ⟨_,_,_,I,lone R hS hE (.inl rfl) (.inl fun q=>by obtain ⟨j,h⟩:=(R.mem a).1 q;exact ha j h),R,fun _=>⟨rfl,rfl⟩,rfl,by omega,by simp⟩
theorem cB2(a b:Int)(text:ByteArray):Step c s m 4 a b text:=by
 obtain ⟨sm1,sm2⟩:=R.small hS hE;obtain ⟨vA,bA,fA⟩:=fd R hS a;obtain ⟨vB,bB,fB⟩:=fd R hS b;have cA:=fA.c;have cB:=fB.c;have I:=aMs R hS (d:=4) (text:=text) (by rfl) fA fB rfl rfl;rcases cA with ⟨rfl,i,rfl,ha⟩|⟨rfl,rfl,ha⟩
 ·
  rcases cB with ⟨rfl,j,rfl,hb⟩|⟨rfl,rfl,hb⟩
  ·
   rw [bf (by rfl),bf (by rfl)] at I;unfold kA at I;simp only [] at I;rw [bf (by rfl),bf (by rfl),bf (by rfl),bt (by rfl)] at I;obtain ⟨r22,p1,p2,M⟩:=both R hS hE (d:=4) (.inr rfl) ha hb;rw [bt (by rfl)] at M;have li:=R.lt ha;have lj:=R.lt hb;have hh:=R.has ha hb
   by_cases eq:i=j
   ·
    subst eq;rw [bt (by simp),aA,bt (by rfl)] at I;rcases p2 with ⟨p2,rfl⟩|⟨k,rfl,p2⟩
    · rw [bt (by rfl)] at M;exact ⟨_,_,_,I,M,R,fun _=>⟨rfl,rfl⟩,rfl,by omega,by simp⟩
    · obtain ⟨e,e1,e2⟩:=hh.1 (List.mem_of_getElem? p2);have e3:=(R.edge e1).2.2.1;have:=aIp e2;omega
   ·
    rw [bf (by simp;omega)] at I;obtain ⟨r,t1,t2⟩:=aTj R.gd (i:Int) (j:Int);rw [t1,aA] at I;simp only [kH] at I;rcases t2 with ⟨h1,rfl⟩|⟨h1,h2,rfl⟩|⟨h1,k,g2,h2,hg,h5,h6,rfl⟩
    · exact absurd ⟨li.1,li.2,lj.1,lj.2⟩ h1
    ·
     rw [aA,bt (by rfl)] at I;rcases p2 with ⟨p2,rfl⟩|⟨k,rfl,p2⟩
     · rw [bt (by rfl)] at M;exact ⟨_,_,_,I,M,R,fun _=>⟨rfl,rfl⟩,rfl,by omega,by simp⟩
     · obtain ⟨e,e1,e2⟩:=hh.1 (List.mem_of_getElem? p2);rw [bNq h2 e e1] at e2;cases e2
    ·
     rw [aA,bf (by rfl)] at I;rcases p2 with ⟨p2,rfl⟩|⟨k',rfl,p2⟩
     · obtain ⟨e,r1,r2,r3⟩:=aKf h2;exact absurd (hh.2 ⟨e,List.mem_of_getElem? r1,r2⟩) p2
     ·
      have hj:=(List.getElem?_eq_some_iff.1 p2).1;rw [bf (by simp),aCb rfl om,aA,gG (by simp;omega),aA,wr1 k' om,wF rfl om,aA,gG (by simp;omega),aA,List.nil_append] at M;have F:=(bRx R.gd (.inr (.inr ⟨h1,k,g2,h2,hg,h5,h6,rfl⟩))).len;refine ⟨_,_,_,I,M,R.del ha hb h2 hg h5 h6 ?_,fun h=>absurd rfl h,rfl,F,by simp⟩;obtain ⟨_,e⟩:=List.getElem?_eq_some_iff.1 p2
      have:m.Pairs=m.Pairs.take k'++pr2 a b::m.Pairs.drop (k'+1):=by
       conv=>lhs;rw [←List.take_append_drop k' m.Pairs,dZ hj,e]
      conv=>lhs;rw [this]
      exact List.perm_middle
  · rw [bt (by rfl)] at I;exact ⟨_,_,_,I,lone R hS hE (.inr rfl) (.inr fun q=>by obtain ⟨j,h⟩:=(R.mem b).1 q;exact hb j h),R,fun _=>⟨rfl,rfl⟩,rfl,by omega,by simp⟩
 · rw [bt (by rfl)] at I;exact ⟨_,_,_,I,lone R hS hE (.inr rfl) (.inl fun q=>by obtain ⟨j,h⟩:=(R.mem a).1 q;exact ha j h),R,fun _=>⟨rfl,rfl⟩,rfl,by omega,by simp⟩
theorem step{d:Int}(h1:1≤d)(h4:d≤4)(a b:Int)(text:ByteArray):Step c s m d a b text:=by
 have:d=1∨d=2∨d=3∨d=4:=by omega
 rcases this with rfl|rfl|rfl|rfl
 · exact step1 R hS hE a b text
 · exact step2 R hS hE a b text
 · exact cB1 R hS hE a b text
 · exact cB2 R hS hE a b text
end
end Go.Proofs.YtkdohhmacfoolaaGreatDoor
