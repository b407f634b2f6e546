/- Facts. No condition. -/
import Derived.Test.YtkdohhmacfoolaaGreatDoorOcIxP
set_option linter.unusedVariables false
set_option linter.unusedSimpArgs false
set_option maxRecDepth 20000
set_option maxHeartbeats 1000000
namespace Go.Proofs.YtkdohhmacfoolaaGreatDoor
open Go Go.AM Go.Pl Go.Pt Go.Ix
def uk(l:List aM):List Int:=(l.filter (·.Used)).map (·.Key)
theorem aT1(a b:List aM)(x:aM):uk (a++x::b)=uk a++((if x.Used=true then [x.Key] else [])++uk b):=by
 unfold uk;rw [List.filter_append,List.filter_cons,List.map_append];split<;>simp
theorem bNg{l:List aM}{k:Int} :k∈uk l↔ ∃j,At l j k:=by
 unfold uk At;rw [List.mem_map];constructor
 ·
  rintro ⟨s,hs,rfl⟩;obtain ⟨h1,h2⟩:=List.mem_filter.1 hs;obtain ⟨j,hj⟩:=List.getElem?_of_mem h1;refine ⟨j,hj.trans ?_⟩
  cases s with
  |mk u k=>cases h2;rfl
 · rintro ⟨j,hj⟩;exact ⟨_,List.mem_filter.2 ⟨List.mem_of_getElem? hj,rfl⟩,rfl⟩
theorem parts{l:List aM}{j:Nat}{s:aM}(h:l[j]? =some s)(x:aM):l=l.take j++s::l.drop (j+1)∧l.set j x=l.take j++x::l.drop (j+1):=by
 obtain ⟨hj,rfl⟩:=List.getElem?_eq_some_iff.1 h;refine ⟨?_,?_⟩
 · conv=>lhs;rw [←List.take_append_drop j l,eC hj]
 · rw [List.set_eq_take_append_cons_drop,if_pos hj]
theorem bM3{l:List aM}{j:Nat}{s:aM}(h:l[j]? =some s)(hs:s.Used=false)(k:Int):(uk (l.set j ⟨true,k⟩)).Perm (k::uk l):=by
 obtain ⟨p1,p2⟩:=parts h ⟨true,k⟩
 have e1:uk l=uk (l.take j)++([]++uk (l.drop (j+1))):=by
  conv=>lhs;rw [p1]
  rw [aT1,hs];rfl
 rw [e1,p2,aT1,if_pos rfl];exact List.perm_middle
theorem bO9{l:List aM}{j:Nat}{k:Int}(h:At l j k):(uk l).Perm (k::uk (l.set j ⟨false,0⟩)):=by
 obtain ⟨p1,p2⟩:=parts h ⟨false,0⟩
 have e1:uk l=uk (l.take j)++([k]++uk (l.drop (j+1))):=by
  conv=>lhs;rw [p1]
  rw [aT1];rfl
 rw [e1,p2,aT1,if_neg (by simp)];exact List.perm_middle
theorem bM2(l:List aM):(uk l).length≤l.length:=by unfold uk;rw [List.length_map];exact List.length_filter_le _ _
theorem bO8{l:List aM}(h: ∀s,s∈l→s.Used=true):(uk l).length=l.length:=by
 unfold uk;rw [List.length_map,List.filter_eq_self.2 h]
theorem at_set{l:List aM}{j i:Nat}{x:aM}{k:Int}(h:At (l.set j x) i k):(i=j∧x=⟨true,k⟩)∨(i≠j∧At l i k):=by
 unfold At at*
 by_cases c:j=i
 ·
  subst c;rw [List.getElem?_set] at h;simp only [if_true] at h;split at h
  · cases h;exact .inl ⟨rfl,rfl⟩
  · cases h
 · rw [List.getElem?_set_ne c] at h;exact .inr ⟨fun e=>c e.symm,h⟩
theorem aLr{l:List aM}{j i:Nat}{x:aM}{k:Int}(h:At l i k)(hn:i≠j):At (l.set j x) i k:=by
 unfold At at*;rw [List.getElem?_set_ne (fun e=>hn e.symm)];exact h
theorem VOK.on{l:List aM}(h:VOK l){j:Nat}{key:Int}(hn: ∀i,¬At l i key):VOK (l.set j ⟨true,key⟩):=by
 refine ⟨by rw [List.length_set];exact h.n1,by rw [List.length_set];exact h.n2,fun s hs hu=>?_,fun i i' k a b=>?_⟩
 ·
  rcases List.mem_or_eq_of_mem_set hs with q|rfl
  · exact h.z s q hu
  · cases hu
 ·
  rcases at_set a with ⟨a1,a2⟩|⟨a1,a2⟩<;>rcases at_set b with ⟨b1,b2⟩|⟨b1,b2⟩
  · omega
  · cases a2;exact absurd b2 (hn _)
  · cases b2;exact absurd a2 (hn _)
  · exact h.inj _ _ _ a2 b2
theorem VOK.off{l:List aM}(h:VOK l){j:Nat} :VOK (l.set j ⟨false,0⟩):=by
 refine ⟨by rw [List.length_set];exact h.n1,by rw [List.length_set];exact h.n2,fun s hs hu=>?_,fun i i' k a b=>?_⟩
 ·
  rcases List.mem_or_eq_of_mem_set hs with q|rfl
  · exact h.z s q hu
  · rfl
 ·
  rcases at_set a with ⟨a1,a2⟩|⟨a1,a2⟩
  · cases a2
  rcases at_set b with ⟨b1,b2⟩|⟨b1,b2⟩
  · cases b2
  exact h.inj _ _ _ a2 b2
def kv(l:List aM)(v:Int):Int:=((l[v.toNat]?).map (·.Key)).getD 0
def aDh(l:List aM)(e:Int×Int):aI:=pr2 (kv l e.1) (kv l e.2)
theorem aDd{l:List aM}{j:Nat}{k:Int}(h:At l j k):kv l (j:Int)=k:=by unfold kv;rw [Int.toNat_natCast,h];rfl
theorem aGi{l:List aM}{v:Int}(h:Usd l v):At l v.toNat (kv l v):=by
 obtain ⟨k,hk⟩:=h;have:kv l v=k:=by unfold kv;rw [hk];rfl
 rw [this];exact hk
theorem aJh{l:List aM}(h:VOK l){x:Int}(h0:0≤x)(hu:Usd l x){j:Nat}(ha:At l j (kv l x)):x=(j:Int):=by
 have:=h.inj _ _ _ (aGi hu) ha;omega
theorem aS2{l:List aM}{j:Nat}{x:aM}{v:Int}(h:v.toNat≠j):kv (l.set j x) v=kv l v:=by
 unfold kv;rw [List.getElem?_set_ne (fun e=>h e.symm)]
structure Rel(c:aY)(s:aD)(m:aW):Prop where
  ok:SOK s
  gd:GD s.Graph
  cf:s.Graph.Config=c
  most:m.Most=c.N
  keys:m.Keys.Perm (uk s.Slots)
  pairs:m.Pairs.Perm ((en s.Graph.Edges).map (aDh s.Slots))
section
variable {c:aY}{s:aD}{m:aW}(R:Rel c s m)
include R
theorem Rel.mem(k:Int):k∈m.Keys↔ ∃j,At s.Slots j k:=R.keys.mem_iff.trans bNg
theorem Rel.lt{j:Nat}{k:Int}(h:At s.Slots j k):0≤(j:Int)∧(j:Int)<s.Graph.Config.N:=by
 have:=(List.getElem?_eq_some_iff.1 h).1;have:=R.ok.len;omega
theorem Rel.edge{e:aC}(h:e∈s.Graph.Edges):0≤e.U∧0≤e.V∧e.U<e.V∧Usd s.Slots e.U∧Usd s.Slots e.V:=by
 have a:=(gok R.gd.ok).rg e h;have b:=oJ.1 ((gok R.gd.ok).gc.ti.tb.ok e h);have u:=R.ok.us e h;exact ⟨a.1,a.2.2.1,b.2.1,u.1,u.2⟩
theorem Rel.ends{e:aC}(he:e∈s.Graph.Edges){i j:Nat}{a b:Int}(ha:At s.Slots i a)(hb:At s.Slots j b):aDh s.Slots (e.U,e.V)=pr2 a b↔iO (i:Int) (j:Int) e=true:=by
 obtain ⟨e1,e2,e3,e4,e5⟩:=R.edge he;have v:=R.ok.v;unfold iO;simp only [Bool.or_eq_true,Bool.and_eq_true,beq_iff_eq];constructor
 ·
  intro h;rcases bKk h with ⟨h1,h2⟩|⟨h1,h2⟩
  · exact .inl ⟨aJh v e1 e4 (by rw [h1];exact ha),aJh v e2 e5 (by rw [h2];exact hb)⟩
  · exact .inr ⟨aJh v e1 e4 (by rw [h1];exact hb),aJh v e2 e5 (by rw [h2];exact ha)⟩
 ·
  unfold aDh;rintro (⟨h1,h2⟩|⟨h1,h2⟩)
  · simp only [];rw [h1,h2,aDd ha,aDd hb]
  · simp only [];rw [h1,h2,aDd ha,aDd hb,aV1]
theorem Rel.has{i j:Nat}{a b:Int}(ha:At s.Slots i a)(hb:At s.Slots j b):pr2 a b∈m.Pairs↔ ∃e,e∈s.Graph.Edges∧iO (i:Int) (j:Int) e=true:=by
 rw [R.pairs.mem_iff,List.mem_map];constructor
 · rintro ⟨q,hq,e⟩;obtain ⟨x,hx,rfl⟩:=fX.1 hq;exact ⟨x,hx,(R.ends hx ha hb).1 e⟩
 · rintro ⟨x,hx,e⟩;exact ⟨_,fX.2 ⟨x,hx,rfl⟩,(R.ends hx ha hb).2 e⟩
theorem Rel.near_len{i:Nat}{a:Int}(ha:At s.Slots i a):(aEd s.Graph.Edges (i:Int)).length=(aQ7 m.Pairs a).length:=by
 rw [bD3,(R.pairs.filter _).length_eq,List.filter_map,List.length_map];unfold aEd en;rw [List.filter_map,List.length_map,List.length_filterMap_eq_countP,List.countP_eq_length_filter];congr 1;refine List.filter_congr fun e he=>?_;obtain ⟨e1,e2,e3,e4,e5⟩:=R.edge he;have v:=R.ok.v;have q1:kv s.Slots e.U=a↔(i:Int)=e.U:=⟨fun h=>(aJh v e1 e4 (by rw [h];exact ha)).symm,fun h=>by rw [←h,aDd ha]⟩
 have q2:kv s.Slots e.V=a↔(i:Int)=e.V:=⟨fun h=>(aJh v e2 e5 (by rw [h];exact ha)).symm,fun h=>by rw [←h,aDd ha]⟩
 have t:touch a (aDh s.Slots (e.U,e.V))=(decide ((i:Int)=e.U)||decide ((i:Int)=e.V)):=by
  unfold touch aDh pr2;simp only [];split
  · by_cases c1:(i:Int)=e.U<;>by_cases c2:(i:Int)=e.V<;>simp [c1,c2,q1,q2]
  · by_cases c1:(i:Int)=e.U<;>by_cases c2:(i:Int)=e.V<;>simp [c1,c2,q1,q2]
 simp only [Function.comp];rw [t]
 by_cases c1:(i:Int)=e.U
 · simp [c1]
 ·
  by_cases c2:(i:Int)=e.V
  · rw [if_neg c1,if_pos c2,decide_eq_true c2];simp
  · rw [if_neg c1,if_neg c2,decide_eq_false c1,decide_eq_false c2];rfl
theorem Rel.on{j:Nat}{x:aM}{key:Int}(hj:s.Slots[j]? =some x)(hx:x.Used=false)(hn: ∀i,¬At s.Slots i key):Rel c ⟨s.Graph,s.Slots.set j ⟨true,key⟩⟩ ⟨m.Most,m.Keys++[key],m.Pairs⟩:=by
 have ne: ∀v,Usd s.Slots v→v.toNat≠j:=fun v ⟨k,hk⟩ e=>by
  unfold At at hk;rw [e,hj] at hk;cases hk;cases hx
 refine ⟨⟨R.ok.g,R.ok.v.on hn,by rw [List.length_set];exact R.ok.len,fun e he=>?_⟩,R.gd,R.cf,R.most,?_,?_⟩
 · obtain ⟨⟨k1,h1⟩,⟨k2,h2⟩⟩:=R.ok.us e he;exact ⟨⟨k1,aLr h1 (ne _ ⟨k1,h1⟩)⟩,⟨k2,aLr h2 (ne _ ⟨k2,h2⟩)⟩⟩
 · exact (List.perm_append_singleton key m.Keys).trans ((R.keys.cons key).trans (bM3 hj hx key).symm)
 ·
  show m.Pairs.Perm ((en s.Graph.Edges).map (aDh (s.Slots.set j ⟨true,key⟩)));rw [List.map_congr_left (g:=aDh s.Slots) fun q hq=>?_]
  · exact R.pairs
  · obtain ⟨e,he,rfl⟩:=fX.1 hq;obtain ⟨_,_,_,u1,u2⟩:=R.edge he;unfold aDh;rw [aS2 (ne _ u1),aS2 (ne _ u2)]
theorem Rel.off{j:Nat}{key:Int}(hj:At s.Slots j key)(hz:aEd s.Graph.Edges (j:Int)=[]){ks:List Int}(hk:m.Keys.Perm (key::ks)):Rel c ⟨s.Graph,s.Slots.set j ⟨false,0⟩⟩ ⟨m.Most,ks,m.Pairs⟩:=by
 have ne: ∀e,e∈s.Graph.Edges→e.U.toNat≠j∧e.V.toNat≠j:=fun e he=>by
  obtain ⟨e1,e2,e3,_,_⟩:=R.edge he;have:=List.filterMap_eq_nil_iff.1 hz e he;split at this
  · cases this
  ·
   split at this
   · cases this
   · exact ⟨by omega,by omega⟩
 refine ⟨⟨R.ok.g,R.ok.v.off,by rw [List.length_set];exact R.ok.len,fun e he=>?_⟩,R.gd,R.cf,R.most,?_,?_⟩
 · obtain ⟨⟨k1,h1⟩,⟨k2,h2⟩⟩:=R.ok.us e he;exact ⟨⟨k1,aLr h1 (ne e he).1⟩,⟨k2,aLr h2 (ne e he).2⟩⟩
 · exact (hk.symm.trans (R.keys.trans (bO9 hj))).cons_inv
 ·
  show m.Pairs.Perm ((en s.Graph.Edges).map (aDh (s.Slots.set j ⟨false,0⟩)));rw [List.map_congr_left (g:=aDh s.Slots) fun q hq=>?_]
  · exact R.pairs
  · obtain ⟨e,he,rfl⟩:=fX.1 hq;unfold aDh;rw [aS2 (ne e he).1,aS2 (ne e he).2]
theorem Rel.ins{i j:Nat}{a b:Int}(ha:At s.Slots i a)(hb:At s.Slots j b)(hne:(i:Int)≠(j:Int)){l':List aC}{g2:aH}(h4:aB8 s.Graph.Edges (edg (i:Int) (j:Int)) l')(hg:GD ⟨s.Graph.Config,s.Graph.Hashes,l'⟩)
 (h5:tM (i:Int) (j:Int) 0 ⟨s.Graph.Config,s.Graph.Hashes,l'⟩ g2) (h6:GD g2):Rel c ⟨g2,s.Slots⟩ ⟨m.Most,m.Keys,m.Pairs++[pr2 a b]⟩:=by
 have F:=h5.facts (gok hg.ok).gc (Int.le_refl _);obtain ⟨A,B,ea,eb⟩:=h4.en;have e2:en g2.Edges=A++((edg (i:Int) (j:Int)).U,(edg (i:Int) (j:Int)).V)::B:=F.al.e.trans eb
 have pk:aDh s.Slots ((edg (i:Int) (j:Int)).U,(edg (i:Int) (j:Int)).V)=pr2 a b:=by
  unfold aDh;rcases aC7 hne with ⟨x,y,_⟩|⟨x,y,_⟩<;>simp only [x,y]<;>rw [aDd ha,aDd hb]
  exact aV1 _ _
 refine ⟨⟨h6.ok,R.ok.v,?_,fun e he=>?_⟩,h6,?_,R.most,R.keys,?_⟩
 · rw [F.al.c];exact R.ok.len
 ·
  have:(e.U,e.V)∈en g2.Edges:=fX.2 ⟨e,he,rfl⟩;rw [e2] at this
  have h':(e.U,e.V)=((edg (i:Int) (j:Int)).U,(edg (i:Int) (j:Int)).V)∨(e.U,e.V)∈en s.Graph.Edges:=by
   rw [ea];simp only [List.mem_append,List.mem_cons] at this⊢;rcases this with q|q|q
   · exact .inr (.inl q)
   · exact .inl q
   · exact .inr (.inr q)
  rcases h' with q|q
  ·
   injection q with q1 q2
   have u1:Usd s.Slots (i:Int):=⟨a,by rw [Int.toNat_natCast];exact ha⟩
   have u2:Usd s.Slots (j:Int):=⟨b,by rw [Int.toNat_natCast];exact hb⟩
   rw [q1,q2];rcases aC7 hne with ⟨x,y,_⟩|⟨x,y,_⟩<;>rw [x,y]
   · exact ⟨u1,u2⟩
   · exact ⟨u2,u1⟩
  ·
   obtain ⟨x,hx,q⟩:=fX.1 q;injection q with q1 q2
   rw [←q1,←q2];exact R.ok.us x hx
 · rw [F.al.c];exact R.cf
 · show (m.Pairs++[pr2 a b]).Perm ((en g2.Edges).map (aDh s.Slots));refine (List.perm_append_singleton _ _).trans ((R.pairs.cons _).trans ?_);rw [e2,ea,List.map_append,List.map_append,List.map_cons,pk];exact List.perm_middle.symm
theorem Rel.del{i j:Nat}{a b:Int}(ha:At s.Slots i a)(hb:At s.Slots j b){k:Nat}{g2:aH}(h2:fnd (iO (i:Int) (j:Int)) s.Graph.Edges 0=some k)(hg:GD ⟨s.Graph.Config,s.Graph.Hashes,s.Graph.Edges.take k++s.Graph.Edges.drop (k+1)⟩)
 (h5:tM (i:Int) (j:Int) 0 ⟨s.Graph.Config,s.Graph.Hashes,s.Graph.Edges.take k++s.Graph.Edges.drop (k+1)⟩ g2) (h6:GD g2) {ps:List aI} (hp:m.Pairs.Perm (pr2 a b::ps)):Rel c ⟨g2,s.Slots⟩ ⟨m.Most,m.Keys,ps⟩:=by
 have F:=h5.facts (gok hg.ok).gc (Int.le_refl _);obtain ⟨e,r1,r2,r3⟩:=aFe h2;have he:e∈s.Graph.Edges:=List.mem_of_getElem? r1
 have ea:en s.Graph.Edges=en (s.Graph.Edges.take k)++(e.U,e.V)::en (s.Graph.Edges.drop (k+1)):=by
  conv=>lhs;rw [r3]
  rw [rM];rfl
 have e2:en g2.Edges=en (s.Graph.Edges.take k)++en (s.Graph.Edges.drop (k+1)):=F.al.e.trans (rM _ _);have pk:=(R.ends he ha hb).2 r2;refine ⟨⟨h6.ok,R.ok.v,?_,fun x hx=>?_⟩,h6,?_,R.most,R.keys,?_⟩
 · rw [F.al.c];exact R.ok.len
 ·
  have:(x.U,x.V)∈en g2.Edges:=fX.2 ⟨x,hx,rfl⟩;rw [e2] at this
  have h':(x.U,x.V)∈en s.Graph.Edges:=by
   rw [ea];simp only [List.mem_append,List.mem_cons] at this⊢;rcases this with q|q
   · exact .inl q
   · exact .inr (.inr q)
  obtain ⟨y,hy,q⟩:=fX.1 h';injection q with q1 q2
  rw [←q1,←q2];exact R.ok.us y hy
 · rw [F.al.c];exact R.cf
 ·
  show ps.Perm ((en g2.Edges).map (aDh s.Slots))
  have h3:(pr2 a b::ps).Perm (pr2 a b::(en g2.Edges).map (aDh s.Slots)):=by
   refine hp.symm.trans (R.pairs.trans ?_);rw [ea,e2,List.map_append,List.map_append,List.map_cons,pk];exact List.perm_middle
  exact h3.cons_inv
end
end Go.Proofs.YtkdohhmacfoolaaGreatDoor
