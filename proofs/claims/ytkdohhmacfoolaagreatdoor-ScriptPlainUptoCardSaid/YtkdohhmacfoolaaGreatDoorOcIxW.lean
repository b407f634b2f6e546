/- Facts. No condition. -/
import Derived.Test.YtkdohhmacfoolaaGreatDoorOcIxU
set_option linter.unusedVariables false
set_option linter.unusedSimpArgs false
set_option maxRecDepth 20000
set_option maxHeartbeats 1000000
namespace Go.Proofs.YtkdohhmacfoolaaGreatDoor
open Go Go.AM Go.Pl Go.Pt Go.Ix
def vs(n:Int):List Int:=(List.range n.toNat).map fun (k:Nat)=>(k:Int)
theorem bGe{n v:Int} :v∈vs n↔0≤v∧v<n:=by
 unfold vs;rw [List.mem_map];constructor
 · rintro ⟨k,hk,rfl⟩;have:=List.mem_range.1 hk;omega
 · rintro ⟨h0,h1⟩;exact ⟨v.toNat,List.mem_range.2 om,by omega⟩
theorem bHh(n:Int):(vs n).length=n.toNat:=by simp [vs]
theorem bHi(n:Int):(vs n).Nodup:=by
 unfold vs;exact List.pairwise_map.2 (List.nodup_range.imp fun {a b} h e=>h om)
theorem bW5{n:Int}{i:Nat}(h:i<(vs n).length):(vs n)[i]=(i:Int):=by simp [vs]
theorem aQq(n:Int)(p:Int→Int)(v:Int):(trl n p v).Nodup:=by
 unfold trl trF;refine List.pairwise_map.2 (List.Pairwise.imp (fun {a b} h e=>h om) ((List.nodup_range' (s:=0) (n:=n.toNat-0) (step:=1) (by decide)).filter _))
def mems(s:aD)(p:Int→Int)(u:Int):List Int:=aSn (((trl s.Graph.Config.N p u).filter (usd s.Slots)).map (kv s.Slots))
theorem aGm{s:aD}{p:Int→Int}{u u':Int}(h:p u=p u'):mems s p u=mems s p u':=by unfold mems;rw [bHe h]
def slt(l:List aM)(k:Int):Nat:=l.findIdx fun x=>x.Used&&x.Key==k
theorem VOK.slt{l:List aM}(h:VOK l){j:Nat}{k:Int}(hj:At l j k):slt l k=j:=by
 have hl:=(List.getElem?_eq_some_iff.1 hj).1;have ex: ∃x,x∈l∧(fun x:aM=>x.Used&&x.Key==k) x=true:=⟨_,List.mem_of_getElem? hj,by simp⟩
 have lt:=List.findIdx_lt_length_of_exists ex;have g:=List.findIdx_getElem (w:=lt);refine h.inj _ _ k ?_ hj;unfold At Go.Proofs.YtkdohhmacfoolaaGreatDoor.slt;rw [List.getElem?_eq_getElem lt];generalize l[l.findIdx fun x=>x.Used&&x.Key==k]=x at g
 cases x with
 |mk u y=>
  simp only [Bool.and_eq_true,beq_iff_eq] at g;obtain ⟨g1,g2⟩:=g;subst g1 g2;rfl
section
variable {c:aY}{s:aD}{m:aW}(R:Rel c s m)
include R
theorem Rel.n0:0≤s.Graph.Config.N∧s.Graph.Config.N≤1024∧Rg s.Graph.Config.N s.Graph.Edges:=aK0 (gok R.gd.ok).tr
theorem Rel.kfr:Rg s.Graph.Config.N (kf s.Graph):=aKk R.n0.2.2 _
theorem aE7(p:Int→Int)(u:Int):Srt (mems s p u) (fun y=> ∃j:Nat,At s.Slots j y∧p (j:Int)=p u):=by
 have nd:=R.kv_nodup (l:=trl s.Graph.Config.N p u) (fun v hv=>(uL.1 hv).1) (aQq _ _ _);have S:=bGv nd;refine ⟨S.up,fun y=>(S.mem y).trans ?_⟩;rw [List.mem_map];constructor
 · rintro ⟨v,hv,rfl⟩;obtain ⟨h1,h2⟩:=List.mem_filter.1 hv;obtain ⟨h3,h4,h5⟩:=uL.1 h1;exact ⟨v.toNat,aGi (aFj.1 h2),by rw [Int.toNat_of_nonneg h3];exact h5⟩
 · rintro ⟨j,hj,hp⟩;exact ⟨(j:Int),List.mem_filter.2 ⟨uL.2 ⟨(R.lt hj).1,(R.lt hj).2,hp⟩,aFj.2 ⟨y,by rw [Int.toNat_natCast];exact hj⟩⟩,aDd hj⟩
theorem aUi(hS:s.Slots.length≤12)(p:Int→Int)(u:Int):kZ s (trl s.Graph.Config.N p u)=some (mems s p u):=by
 have e:=R.ok.len;refine aRv ?_ (fun v hv=>?_) (R.kv_nodup (fun v hv=>(uL.1 hv).1) (aQq _ _ _))
 · have:=aZy s.Graph.Config.N.toNat 0 p (p u);unfold trl;omega
 · have:=uL.1 hv;omega
theorem Rel.conn_usd{l:List aC}(hl: ∀e,e∈l→e∈s.Graph.Edges){x y:Int}(h:bO (en l) x y):x=y∨(Usd s.Slots x∧Usd s.Slots y):=by
 induction h with
 |refl x=>exact .inl rfl
 |fwd e _ ih=>
  obtain ⟨q,q1,q2⟩:=fX.1 e;obtain ⟨_,_,_,u1,u2⟩:=R.edge (hl q q1);cases q2;exact .inr ⟨u1,ih.elim (fun w=>w▸u2) (·.2)⟩
 |bwd e _ ih=>
  obtain ⟨q,q1,q2⟩:=fX.1 e;obtain ⟨_,_,_,u1,u2⟩:=R.edge (hl q q1);cases q2;exact .inr ⟨u2,ih.elim (fun w=>w▸u1) (·.2)⟩
theorem Rel.slt{j:Nat}{k:Int}(h:At s.Slots j k):slt s.Slots k=j:=R.ok.v.slt h
end
def bEp(s:aD)(p:Int→Int):Nat:=(vs s.Graph.Config.N).countP fun v=>v==p v&&usd s.Slots v
def aUp(s:aD)(p:Int→Int)(k:Int):Bool:=(mems s p (slt s.Slots k:Int)).head? ==some k
section
variable {c:aY}{s:aD}{m:aW}(R:Rel c s m)
include R
theorem bMr{l:List aC}(hl: ∀e,e∈l→e∈s.Graph.Edges):m.Keys.countP (aUp s (dR (en l)))=bEp s (dR (en l)):=by
 have hr:Rg s.Graph.Config.N l:=R.n0.2.2.mono hl;have P:=isP (en l);generalize hp:dR (en l)=p at P⊢
 have ne: ∀ {v:Int},0≤v→Usd s.Slots v→mems s p v≠[]:=fun {v} h0 hu e=>by
  have:=((aE7 R p v).mem (kv s.Slots v)).2 ⟨v.toNat,aGi hu,by rw [Int.toNat_of_nonneg h0]⟩;rw [e] at this;cases this
 have hd: ∀ {v:Int},0≤v→Usd s.Slots v→(mems s p v).head? =some ((mems s p v).headD 0)∧(mems s p v).headD 0∈mems s p v:=fun {v} h0 hu=>by
  have:=ne h0 hu
  cases h:mems s p v with
  |nil=>exact absurd h this
  |cons a t=>exact ⟨rfl,List.mem_cons_self ..⟩
 have e1:m.Keys.countP (aUp s p)=(m.Keys.filter (aUp s p)).length:=List.countP_eq_length_filter;have e2:bEp s p=(((vs s.Graph.Config.N).filter fun v=>v==p v&&usd s.Slots v).map fun v=>(mems s p v).headD 0).length:=by rw [List.length_map];exact List.countP_eq_length_filter
 have hB: ∀v,v∈(vs s.Graph.Config.N).filter (fun v=>v==p v&&usd s.Slots v)→0≤v∧v=p v∧Usd s.Slots v:=fun v hv=>by
  obtain ⟨h1,h2⟩:=List.mem_filter.1 hv;simp only [Bool.and_eq_true,beq_iff_eq] at h2;exact ⟨(bGe.1 h1).1,h2.1,aFj.1 h2.2⟩
 rw [e1,e2];refine bD4 (R.knodup.filter _) ?_ fun k=>?_
 · refine List.pairwise_map.2 (((bHi _).filter _).imp_of_mem fun {a b} ha hb h e=>h ?_);obtain ⟨a0,a1,a2⟩:=hB a ha;obtain ⟨b0,b1,b2⟩:=hB b hb;obtain ⟨j,j1,j2⟩:=((aE7 R p a).mem _).1 (hd a0 a2).2;obtain ⟨i,i1,i2⟩:=((aE7 R p b).mem _).1 (hd b0 b2).2;rw [e] at j1;have:=R.ok.v.inj _ _ _ j1 i1;subst this;rw [a1,b1,←j2,←i2]
 ·
  rw [List.mem_filter,List.mem_map];constructor
  ·
   rintro ⟨hk,hf⟩;obtain ⟨i,hi⟩:=(R.mem k).1 hk;unfold aUp at hf;rw [R.slt hi,beq_iff_eq] at hf;have li:=R.lt hi;have ui:Usd s.Slots (i:Int):=⟨k,by rw [Int.toNat_natCast];exact hi⟩
   have cn:bO (en l) (i:Int) (p (i:Int)):=(P.iff _ _).1 (P.idem _).symm;have rg:0≤p (i:Int)∧p (i:Int)<s.Graph.Config.N:=by rw [←hp];exact bLt hr li.1 li.2
   have uv:Usd s.Slots (p (i:Int)):=(R.conn_usd hl cn).elim (fun w=>w▸ui) (·.2);refine ⟨p (i:Int),List.mem_filter.2 ⟨bGe.2 rg,?_⟩,?_⟩
   · rw [P.idem,aFj.2 uv];simp
   · rw [aGm (s:=s) (P.idem (i:Int))];have:=(hd om ui).1;rw [hf] at this;exact (Option.some.inj this).symm
  · rintro ⟨v,hv,rfl⟩;obtain ⟨v0,v1,v2⟩:=hB v hv;obtain ⟨h1,h2⟩:=hd v0 v2;obtain ⟨j,j1,j2⟩:=((aE7 R p v).mem _).1 h2;refine ⟨(R.mem _).2 ⟨j,j1⟩,?_⟩;unfold aUp;rw [R.slt j1,aGm (s:=s) j2,h1];simp
theorem aI0:lC s.Graph=some (pt s.Graph.Config.N (kf s.Graph)):=by
 rw [aD4 R.gd.e R.gd.h,if_pos R.gd.ok]
variable (hS:s.Slots.length≤12)
include hS
theorem bIh{a b:Int}{i j:Nat}(hi:At s.Slots i a)(hj:At s.Slots j b)(text:ByteArray):fG s ⟨8,a,b,text⟩=some (s,GA.b 4 (decide (dR (en (kf s.Graph)) (i:Int)=dR (en (kf s.Graph)) (j:Int)))):=by
 have li:=R.lt hi;have lj:=R.lt hj;refine ans R hS (by decide) (by decide) (aPz R hS hi) (aPz R hS hj) rfl rfl (by rfl) ?_;unfold gP;rw [aI0 R,aA,bf (by rfl),bf (by rfl),bf (by rfl),bt (by rfl),aSj li.1 li.2,aA,aSj lj.1 lj.2,aA];rw [show ∀x y:Int,(x==y)=decide (x=y) from fun x y=>by by_cases h:x=y<;>simp [h]]
theorem size_eq{a:Int}{i:Nat}(hi:At s.Slots i a)(b:Int)(text:ByteArray):fG s ⟨9,a,b,text⟩=some (s,GA.i 3 .i64 ((mems s (dR (en (kf s.Graph))) (i:Int)).length:Int)):=by
 obtain ⟨vB,bB,fB⟩:=fd R om b;have li:=R.lt hi;refine ans R hS (by decide) (by decide) (aPz R hS hi) fB rfl rfl (by rfl) ?_;unfold gP;rw [aI0 R,aA,bf (by rfl),bf (by rfl),bf (by rfl),bf (by rfl),bt (by rfl),aCk R.n0.1 R.n0.2.1 R.kfr li.1 li.2,aA,aUi R hS,aA]
theorem aY7{a:Int}{i:Nat}(hi:At s.Slots i a)(b:Int)(text:ByteArray):fG s ⟨11,a,b,text⟩=some (s,GA.lu 24 (mems s (dR (en (kf s.Graph))) (i:Int))):=by
 obtain ⟨vB,bB,fB⟩:=fd R om b;have li:=R.lt hi;refine ans R hS (by decide) (by decide) (aPz R hS hi) fB rfl rfl (by rfl) ?_;unfold gP;rw [aI0 R,aA,bf (by rfl),bf (by rfl),bf (by rfl),bf (by rfl),bf (by rfl),bf (by rfl),bt (by rfl),aCk R.n0.1 R.n0.2.1 R.kfr li.1 li.2,aA,aUi R hS,aA]
omit R hS in
theorem aPo{n:Int}(f:Int→Int)(hn:n.toNat≤1024)(hl:(s.Slots.length:Int)=n): ∀(m i k:Nat),n.toNat<i+m→i≤n.toNat→k≤i→
 jQ m s (k:Int) (tab n f) ((tab n f).length:Int) (i:Int)=some (((k+((vs n).drop i).countP (fun v=>v==f v&&usd s.Slots v):Nat)):Int)
 |0,i,k,hm,hi,_=>by omega
 |m+1,i,k,hm,hi,hk=>by
  show vN (jQ m) _ _ _ _ _=_;unfold vN vP;rw [xG]
  by_cases c:i<n.toNat
  ·
   have hv:i<(vs n).length:=by rw [bHh];exact c
   have hs:i<s.Slots.length:=by omega
   have eu:usd s.Slots (i:Int)=s.Slots[i].Used:=by unfold usd;rw [Int.toNat_natCast,List.getElem?_eq_getElem hs];rfl
   rw [bt (tZ c),iI,aM1 om,aA,dD hs,gF,aA,wr1 i om,wr1 k om,eC hv,List.countP_cons,bW5 hv,eu];have:=aPo f hn hl m (i+1);rw [xG] at this
   have e:((((i:Int)==f (i:Int))&&(bif ((i:Int)==f (i:Int))==true then s.Slots[i] else (⟨false,0⟩:aM)).Used))=((i:Int)==f (i:Int)&&s.Slots[i].Used):=by
    cases (i:Int)==f (i:Int)<;>rfl
   rw [e]
   cases q:((i:Int)==f (i:Int)&&s.Slots[i].Used) with
   |true=>
    rw [bt rfl,this _ om c om,if_pos rfl];congr 2;omega
   |false=>
    rw [bf rfl,this _ om c om,if_neg (by simp)];rfl
  · rw [bf (tY c),List.drop_eq_nil_of_le (by rw [bHh];omega)];rfl
theorem bEr(a b:Int)(text:ByteArray):fG s ⟨10,a,b,text⟩=some (s,GA.i 3 .i64 ((bEp s (dR (en (kf s.Graph))):Nat):Int)):=by
 have hFU:=FU';obtain ⟨vA,bA,fA⟩:=fd R om a;obtain ⟨vB,bB,fB⟩:=fd R om b;refine ans R hS (by decide) (by decide) fA fB rfl rfl (by rfl) ?_;unfold gP;have n0:=R.n0;have:=aPo (n:=s.Graph.Config.N) (dR (en (kf s.Graph))) om R.ok.len bF 0 0 om (Nat.zero_le _) (Nat.le_refl _);rw [show ((0:Nat):Int)=0 from rfl,List.drop_zero,Nat.zero_add] at this;rw [aI0 R,aA,bf (by rfl),bf (by rfl),bf (by rfl),bf (by rfl),bf (by rfl),bt (by rfl)];unfold sK;have e:jQ bF s 0 (pt s.Graph.Config.N (kf s.Graph)) ((pt s.Graph.Config.N (kf s.Graph)).length:Int) 0=some ((bEp s (dR (en (kf s.Graph))):Nat):Int):=this;rw [e,aA]
theorem bEc(a b:Int)(text:ByteArray):fG s ⟨13,a,b,text⟩=some (s,GA.b 4 (decide (pt s.Graph.Config.N (kf s.Graph)=pt s.Graph.Config.N s.Graph.Edges))):=by
 obtain ⟨vA,bA,fA⟩:=fd R om a;obtain ⟨vB,bB,fB⟩:=fd R om b;refine ans R hS (by decide) (by decide) fA fB rfl rfl (by rfl) ?_;unfold gP;rw [aI0 R,aA,bf (by rfl),bf (by rfl),bf (by rfl),bf (by rfl),bf (by rfl),bf (by rfl),bf (by rfl),bf (by rfl),bt (by rfl),aOl R.gd.e R.gd.h,aA,R.gd.ok,Bool.true_and]
end
end Go.Proofs.YtkdohhmacfoolaaGreatDoor
