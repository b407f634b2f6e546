/- Facts. No condition. -/
import Derived.Test.YtkdohhmacfoolaaGreatDoorPgIxB
import Derived.Test.YtkdohhmacfoolaaGreatDoorPgRuS
set_option linter.unusedVariables false
set_option linter.unusedSimpArgs false
set_option maxRecDepth 20000
set_option maxHeartbeats 1000000
namespace Go.Proofs.YtkdohhmacfoolaaGreatDoor
open Go Go.AM Go.Pl Go.Pt Go.Ix
abbrev At(l:List aN)(j:Nat)(k:Int):Prop:=l[j]? =some ⟨true,k⟩
structure VOK(l:List aN):Prop where
  n1:1≤l.length
  n2:l.length≤1024
  z: ∀s,s∈l→s.Used=false→s.Key=0
  inj: ∀i j k,At l i k→At l j k→i=j
theorem aV5(l:List aN):rC (l.length:Int)=some (decide (1≤l.length∧l.length≤1024)):=by
 unfold rC
 by_cases a:1≤l.length<;>by_cases b:l.length≤1024<;>simp [a,b]<;>omega
theorem aXl(z:cC){l:List aN}(hl:l.length≤1024): ∀(m i:Nat) (d:cC),l.length<i+m→i≤l.length→DOK d→(sls d.s).length≤i→
 (∀p,p∈sls d.s↔ ∃j:Nat,j<i∧At l j p.Key∧p.N=(j:Int))→(∀j s,j<i→l[j]? =some s→s.Used=false→s.Key=0)→(∀j j' k,j<i→j'<i→At l j k→At l j' k→j=j')→
 ∃d' b,wW m z d l (l.length:Int) (i:Int)=some (d',b)∧((b=true∧DOK d'∧(sls d'.s).length≤1024∧(∀p,p∈sls d'.s↔ ∃j:Nat,At l j p.Key∧p.N=(j:Int))∧(∀s,s∈l→s.Used=false→s.Key=0)∧(∀j j' k,At l j k→At l j' k→j=j'))∨
  (b=false∧ ¬((∀s,s∈l→s.Used=false→s.Key=0)∧(∀j j' k,At l j k→At l j' k→j=j'))))
 |0,i,d,hm,hi,_,_,_,_,_=>by omega
 |m+1,i,d,hm,hi,hd,hdl,hp,hz,hu=>by
  show ∃d' b,aFt (wW m) _ _ _ _ _=some (d',b)∧_;unfold aFt aFu;have lt_at: ∀ {j k},At l j k→j<l.length:=fun h=>(List.getElem?_eq_some_iff.1 h).1
  by_cases c:i<l.length
  ·
   have hg:l[i]? =some l[i]:=List.getElem?_eq_getElem c;rw [bt (by simpa using c),cN c,aA,wr1 i om]
   cases hU:l[i].Used with
   |false=>
    rw [bt (by rfl)]
    by_cases q:l[i].Key=0
    ·
     rw [bf (by simp [q])]
     have noat: ∀k,¬At l i k:=fun k h=>by
      have h':l[i]? =some ⟨true,k⟩:=h;rw [hg] at h';have:=congrArg aN.Used (Option.some.inj h');rw [hU] at this;cases this
     refine aXl z hl m (i+1) d om c hd om (fun p=>(hp p).trans ?_) (fun j s hj hs hus=>?_) (fun j j' k hj hj' h h'=>?_)
     ·
      constructor
      · rintro ⟨j,a,b,e⟩;exact ⟨j,by omega,b,e⟩
      ·
       rintro ⟨j,a,b,e⟩;refine ⟨j,?_,b,e⟩;rcases Nat.lt_or_ge j i with w|w
       · exact w
       ·
        have:j=i:=by omega
        subst this;exact absurd b (noat _)
     ·
      rcases Nat.lt_or_ge j i with w|w
      · exact hz j s w hs hus
      ·
       have:j=i:=by omega
       subst this;rw [hg] at hs;cases hs;exact q
     ·
      have w1:j<i:=by
       rcases Nat.lt_or_ge j i with w|w
       · exact w
       ·
        have:j=i:=by omega
        subst this;exact absurd h (noat _)
      have w2:j'<i:=by
       rcases Nat.lt_or_ge j' i with w|w
       · exact w
       ·
        have:j'=i:=by omega
        subst this;exact absurd h' (noat _)
      exact hu j j' k w1 w2 h h'
    · rw [bt (by simp [q])];exact ⟨_,false,rfl,.inr ⟨rfl,fun h=>q (h.1 _ (List.getElem_mem c) hU)⟩⟩
   |true=>
    have hat:At l i l[i].Key:=by
     show l[i]? =_;rw [hg];generalize l[i]=s at hU
     cases s with
     |mk u k=>cases hU;rfl
    obtain ⟨v,b,g1,g2⟩:=aGz hd om l[i].Key;rw [bf (by rfl),g1,aA];simp only [];rcases g2 with ⟨rfl,g2⟩|⟨rfl,_,g2⟩
    ·
     obtain ⟨j,j1,j2,_⟩:=(hp _).1 g2;rw [bt rfl]
     exact ⟨_,false,rfl,.inr ⟨rfl,fun h=>by
      have:=h.2 j i _ j2 hat;omega⟩⟩
    ·
     obtain ⟨d',p1,p2,p3,p4⟩:=bDi hd om l[i].Key (i:Int) g2;rw [bf rfl,p1,aA];refine aXl z hl m (i+1) d' om c p2 om (fun p=>(p4 p).trans ?_) (fun j s hj hs hus=>?_) (fun j j' k hj hj' h h'=>?_)
     ·
      constructor
      ·
       rintro (rfl|q)
       · exact ⟨i,by omega,hat,rfl⟩
       · obtain ⟨j,a,b,e⟩:=(hp p).1 q;exact ⟨j,by omega,b,e⟩
      ·
       rintro ⟨j,a,b,e⟩;rcases Nat.lt_or_ge j i with w|w
       · exact .inr ((hp p).2 ⟨j,w,b,e⟩)
       ·
        have:j=i:=by omega
        subst this;have h':l[j]? =some ⟨true,p.Key⟩:=b;have h'':l[j]? =some ⟨true,l[j].Key⟩:=hat;rw [h''] at h';have e3:=congrArg aN.Key (Option.some.inj h');left
        cases p with
        |mk pk pn=>
         simp only at e e3;subst e;rw [e3]
     ·
      rcases Nat.lt_or_ge j i with w|w
      · exact hz j s w hs hus
      ·
       have:j=i:=by omega
       subst this;rw [hg] at hs;cases hs;rw [hU] at hus;cases hus
     ·
      have key: ∀j,j<i→At l j l[i].Key→False:=fun j hj h=>g2 ⟨l[i].Key,(j:Int)⟩ ((hp _).2 ⟨j,hj,h,rfl⟩) rfl
      have same: ∀j k,j=i→At l j k→k=l[i].Key:=fun j k e h=>by
       subst e;have h':l[j]? =some ⟨true,k⟩:=h;have h'':l[j]? =some ⟨true,l[j].Key⟩:=hat;rw [h''] at h';exact (congrArg aN.Key (Option.some.inj h')).symm
      rcases Nat.lt_or_ge j i with w|w<;>rcases Nat.lt_or_ge j' i with w'|w'
      · exact hu j j' k w w' h h'
      · have:=same j' k om h';subst this;exact (key j w h).elim
      · have:=same j k om h;subst this;exact (key j' w' h').elim
      · omega
  ·
   have e:i=l.length:=by omega
   subst e;rw [bf (by simp)];refine ⟨d,true,rfl,.inl ⟨rfl,hd,by omega,fun p=>(hp p).trans ?_,fun s hs hus=>?_,fun j j' k h h'=>hu j j' k (lt_at h) (lt_at h') h h'⟩⟩
   ·
    constructor
    · rintro ⟨j,_,b,e⟩;exact ⟨j,b,e⟩
    · rintro ⟨j,b,e⟩;exact ⟨j,lt_at b,b,e⟩
   · obtain ⟨j,hj⟩:=List.getElem?_of_mem hs;exact hz j s (List.getElem?_eq_some_iff.1 hj).1 hj hus
theorem aN1{l:List aN}(hl:l.length≤1024): ∃d b,oC l=some (d,b)∧((b=true∧VOK l∧DOK d∧(sls d.s).length≤1024∧ ∀p,p∈sls d.s↔ ∃j:Nat,At l j p.Key∧p.N=(j:Int))∨(b=false∧ ¬VOK l)):=by
 have hFU:=FU';unfold oC;rw [aV5,aA]
 by_cases c:1≤l.length
 ·
  rw [decide_eq_true ⟨c,by omega⟩,bf (by rfl)];obtain ⟨d,b,h1,h2⟩:=aXl ⟨.nil⟩ hl aY 0 ⟨.nil⟩ om (Nat.zero_le _) DOK.nil (by simp [sls]) (fun p=>by simp [sls]) (fun j s hj=>by omega) (fun j j' k hj=>by omega);refine ⟨d,b,h1,?_⟩;rcases h2 with ⟨rfl,a1,a2,a3,a4,a5⟩|⟨rfl,a1⟩
  · exact .inl ⟨rfl,⟨c,by omega,a4,fun i j k=>a5 i j k⟩,a1,a2,a3⟩
  · exact .inr ⟨rfl,fun h=>a1 ⟨h.z,fun j j' k=>h.inj j j' k⟩⟩
 · rw [decide_eq_false (fun h=>c h.1),bt (by rfl)];exact ⟨_,false,rfl,.inr ⟨rfl,fun h=>c h.n1⟩⟩
theorem aV4{l:List aN}(hl:l.length≤1024): ∃b,aA7 l=some b∧(b=true↔VOK l):=by
 obtain ⟨d,b,h1,h2⟩:=aN1 hl;unfold aA7;rw [h1,aA];refine ⟨b,rfl,?_⟩;rcases h2 with ⟨rfl,h,_⟩|⟨rfl,h⟩
 · exact ⟨fun _=>h,fun _=>rfl⟩
 · exact ⟨fun q=>(by cases q),fun q=>absurd q h⟩
theorem aYz{l:List aN}(hl:l.length≤1024)(h:VOK l)(key:Int): ∃v b,uB l key=some (v,b)∧((b=true∧ ∃j:Nat,v=(j:Int)∧At l j key)∨(b=false∧v=0∧ ∀j,¬At l j key)):=by
 obtain ⟨d,b,h1,h2⟩:=aN1 hl;rcases h2 with ⟨rfl,_,hd,hdl,hp⟩|⟨rfl,h'⟩
 ·
  obtain ⟨v,b,g1,g2⟩:=aGz hd om key;unfold uB;rw [h1,aA];simp only [];rw [bf (by rfl),g1,aA];refine ⟨v,b,rfl,?_⟩;rcases g2 with ⟨rfl,g2⟩|⟨rfl,rfl,g2⟩
  · obtain ⟨j,j1,j2⟩:=(hp _).1 g2;exact .inl ⟨rfl,j,j2,j1⟩
  · exact .inr ⟨rfl,rfl,fun j hj=>g2 ⟨key,(j:Int)⟩ ((hp _).2 ⟨j,hj,rfl⟩) rfl⟩
 · exact absurd h h'
theorem aPx{l:List aN}(hl:l.length≤1024): ∀(m i:Nat),l.length<i+m→i≤l.length→(∀j s,j<i→l[j]? =some s→s.Used=true)→
 (∃j:Nat,iD (fun x0=>mF x0) m l (l.length:Int) (i:Int)=some (j:Int)∧(∃s,l[j]? =some s∧s.Used=false))∨(iD (fun x0=>mF x0) m l (l.length:Int) (i:Int)=some (-1)∧ ∀s,s∈l→s.Used=true)
 |0,i,hm,hi,_=>by omega
 |m+1,i,hm,hi,hp=>by
  have e:iD (fun x0=>mF x0) (m+1) l (l.length:Int) (i:Int)=qY (fun x0=>mF x0) (iD (fun x0=>mF x0) m) l (l.length:Int) (i:Int):=rfl;rw [e];unfold qY
  by_cases c:i<l.length
  ·
   have hg:l[i]? =some l[i]:=List.getElem?_eq_getElem c;rw [bt (by simpa using c),cN c,aA];have e2:(fun x0=>mF x0) l[i]=some (!l[i].Used):=rfl;rw [e2,aA]
   cases hU:l[i].Used with
   |false=>rw [bt (by rfl)];exact .inl ⟨i,rfl,_,hg,hU⟩
   |true=>
    rw [bf (by rfl),wr1 i om]
    exact aPx hl m (i+1) om c fun j s hj hs=>by
     rcases Nat.lt_or_ge j i with w|w
     · exact hp j s w hs
     ·
      have:j=i:=by omega
      subst this;rw [hg] at hs;cases hs;exact hU
  · rw [bf (by simpa using c)];refine .inr ⟨rfl,fun s hs=>?_⟩;obtain ⟨j,hj⟩:=List.getElem?_of_mem hs;exact hp j s (by have:=(List.getElem?_eq_some_iff.1 hj).1;omega) hj
theorem bCc{l:List aN}(hl:l.length≤1024)(h:VOK l)(key:Int): ∃l' v e,aEe l key=some (l',v,e)∧
 (((∃j,At l j key)∧l'=l∧e=4)∨((∀j,¬At l j key)∧(∀s,s∈l→s.Used=true)∧l'=l∧e=10)∨((∀j,¬At l j key)∧ ∃j:Nat,(∃s,l[j]? =some s∧s.Used=false)∧l'=l.set j ⟨true,key⟩∧e=0)):=by
 have hFU:=FU';obtain ⟨d,b,h1,h2⟩:=aN1 hl;rcases h2 with ⟨rfl,_,hd,hdl,hp⟩|⟨rfl,h'⟩
 ·
  obtain ⟨v,b,g1,g2⟩:=aGz hd om key;unfold aEe kJ sF;rw [h1,aA];simp only [];rw [bf (by rfl),g1,aA];simp only [];rcases g2 with ⟨rfl,g2⟩|⟨rfl,rfl,g2⟩
  · obtain ⟨j,j1,j2⟩:=(hp _).1 g2;rw [bt rfl];exact ⟨l,0,4,rfl,.inl ⟨⟨j,j1⟩,rfl,rfl⟩⟩
  ·
   have no: ∀j,¬At l j key:=fun j hj=>g2 ⟨key,(j:Int)⟩ ((hp _).2 ⟨j,hj,rfl⟩) rfl;rw [bf rfl];rcases aPx hl aY 0 om (Nat.zero_le _) (fun j s hj=>by omega) with ⟨j,a1,s,a2,a3⟩|⟨a1,a2⟩
   · have hj:=(List.getElem?_eq_some_iff.1 a2).1;rw [show ((0:Nat):Int)=(0:Int) from rfl] at a1;rw [a1,aA,bf (by simp),gG (by simp;omega),aA,List.nil_append,mD,a2,aA,uZ hj,aA];exact ⟨_,_,_,rfl,.inr (.inr ⟨no,j,⟨s,a2,a3⟩,rfl,rfl⟩)⟩
   · rw [show ((0:Nat):Int)=(0:Int) from rfl] at a1;rw [a1,aA,bt (by decide)];exact ⟨l,0,10,rfl,.inr (.inl ⟨no,a2,rfl,rfl⟩)⟩
 · exact absurd h h'
theorem aTs{l:List aN}(hl:l.length≤1024)(h:VOK l)(key:Int): ∃l' e,wX l key=some (l',e)∧(((∀j,¬At l j key)∧l'=l∧e=7)∨ ∃j:Nat,At l j key∧l'=l.set j ⟨false,0⟩∧e=0):=by
 obtain ⟨d,b,h1,h2⟩:=aN1 hl;rcases h2 with ⟨rfl,_,hd,hdl,hp⟩|⟨rfl,h'⟩
 ·
  obtain ⟨v,b,g1,g2⟩:=aGz hd om key;unfold wX kJ;rw [h1,aA];simp only [];rw [bf (by rfl),g1,aA];simp only [];rcases g2 with ⟨rfl,g2⟩|⟨rfl,rfl,g2⟩
  · obtain ⟨j,j1,j2⟩:=(hp _).1 g2;have hj:=(List.getElem?_eq_some_iff.1 j1).1;simp only at j1 j2;subst j2;rw [bf (by rfl),gG (by simp;omega),aA,List.nil_append,cN hj,aA,uZ hj,aA];exact ⟨_,_,rfl,.inr ⟨j,j1,rfl,rfl⟩⟩
  · rw [bt (by rfl)];exact ⟨l,7,rfl,.inl ⟨fun j hj=>g2 ⟨key,(j:Int)⟩ ((hp _).2 ⟨j,hj,rfl⟩) rfl,rfl,rfl⟩⟩
 · exact absurd h h'
def Usd(l:List aN)(v:Int):Prop:= ∃k,At l v.toNat k
structure SOK(s:aC):Prop where
  g:grB s.Graph=true
  v:VOK s.Slots
  len:(s.Slots.length:Int)=s.Graph.Config.N
  us: ∀e,e∈s.Graph.Edges→Usd s.Slots e.U∧Usd s.Slots e.V
theorem bCb{l:List aN}{j:Nat}(h:j<l.length):(∃k,At l j k)↔l[j].Used=true:=by
 unfold At;rw [List.getElem?_eq_getElem h];constructor
 · rintro ⟨k,e⟩;rw [Option.some.inj e]
 ·
  intro e;refine ⟨l[j].Key,?_⟩;generalize l[j]=s at e
  cases s with
  |mk u k=>cases e;rfl
theorem aQa{s:aC}(hlen:(s.Slots.length:Int)=s.Graph.Config.N)(hr:Rg s.Graph.Config.N s.Graph.Edges)(hE:s.Graph.Edges.length<1000000000): ∀(m i:Nat),s.Graph.Edges.length<i+m→i≤s.Graph.Edges.length→(∀j e,j<i→s.Graph.Edges[j]? =some e→Usd s.Slots e.U∧Usd s.Slots e.V)→
 ∃b,aA5 m s s.Graph.Edges (s.Graph.Edges.length:Int) (i:Int)=some b∧(b=true↔ ∀e,e∈s.Graph.Edges→Usd s.Slots e.U∧Usd s.Slots e.V)
 |0,i,hm,hi,_=>by omega
 |m+1,i,hm,hi,hp=>by
  show ∃b,aHu (aA5 m) _ _ _ _=some b∧_;unfold aHu
  by_cases c:i<s.Graph.Edges.length
  ·
   have hg:=hr.at c;have hU:s.Graph.Edges[i].U.toNat<s.Slots.length:=by omega
   have hV:s.Graph.Edges[i].V.toNat<s.Slots.length:=by omega
   have iU:idx s.Slots s.Graph.Edges[i].U=some s.Slots[s.Graph.Edges[i].U.toNat]:=by rw [xK (k:=s.Graph.Edges[i].U.toNat) om,List.getElem?_eq_getElem hU]
   have iV:idx s.Slots s.Graph.Edges[i].V=some s.Slots[s.Graph.Edges[i].V.toNat]:=by rw [xK (k:=s.Graph.Edges[i].V.toNat) om,List.getElem?_eq_getElem hV]
   rw [bt (by simpa using c),cN c,aA,iU,aA,iV,jS,aA,wr1 i om];have uU:=bCb hU;have uV:=bCb hV;have no: ¬(Usd s.Slots s.Graph.Edges[i].U∧Usd s.Slots s.Graph.Edges[i].V)→ ¬ ∀e,e∈s.Graph.Edges→Usd s.Slots e.U∧Usd s.Slots e.V:=fun h q=>h (q _ (List.getElem_mem c))
   cases eU:s.Slots[s.Graph.Edges[i].U.toNat].Used with
   |false=>
    rw [bt (by rfl)];exact ⟨false,rfl,⟨fun q=>(by cases q),fun q=>absurd q (no fun h=>by have:=uU.1 h.1;rw [eU] at this;cases this)⟩⟩
   |true=>
    cases eV:s.Slots[s.Graph.Edges[i].V.toNat].Used with
    |false=>
     rw [bt (by simp [eV])];exact ⟨false,rfl,⟨fun q=>(by cases q),fun q=>absurd q (no fun h=>by have:=uV.1 h.2;rw [eV] at this;cases this)⟩⟩
    |true=>
     rw [bf (by simp [eV])]
     exact aQa hlen hr hE m (i+1) om c fun j e hj he=>by
      rcases Nat.lt_or_ge j i with w|w
      · exact hp j e w he
      ·
       have:j=i:=by omega
       subst this;rw [List.getElem?_eq_getElem c] at he;cases he;exact ⟨uU.2 eU,uV.2 eV⟩
  · rw [bf (by simpa using c)];refine ⟨true,rfl,⟨fun _ e he=>?_,fun _=>rfl⟩⟩;obtain ⟨j,hj⟩:=List.getElem?_of_mem he;exact hp j e (by have:=(List.getElem?_eq_some_iff.1 hj).1;omega) hj
theorem aNs{s:aC}(hE:s.Graph.Edges.length<1000000000)(hH:s.Graph.Hashes.length<1000000000)(hl:s.Slots.length≤1024): ∃b,mP s=some b∧(b=true↔SOK s):=by
 have hFU:=FU';obtain ⟨b,b1,b2⟩:=aV4 hl;unfold mP;rw [lO hE hH,aA,b1,jS,aA]
 cases hg:grB s.Graph with
 |false=>rw [bt (by rfl)];exact ⟨false,rfl,fun q=>(by cases q),fun q=>by rw [q.g] at hg;cases hg⟩
 |true=>
  cases b with
  |false=>rw [bt (by rfl)];exact ⟨false,rfl,fun q=>(by cases q),fun q=>by have:=b2.2 q.v;cases this⟩
  |true=>
   by_cases c:(s.Slots.length:Int)=s.Graph.Config.N
   · obtain ⟨b',c1,c2⟩:=aQa c (gok hg).rg hE aY 0 om (Nat.zero_le _) (fun j e hj=>by omega);rw [bf (by simp [c]),show (0:Int)=((0:Nat):Int) from rfl,c1];exact ⟨b',rfl,fun q=>⟨hg,b2.1 rfl,c,c2.1 q⟩,fun q=>c2.2 q.us⟩
   · rw [bt (by simp [c])];exact ⟨false,rfl,fun q=>(by cases q),fun q=>absurd q.len c⟩
end Go.Proofs.YtkdohhmacfoolaaGreatDoor
