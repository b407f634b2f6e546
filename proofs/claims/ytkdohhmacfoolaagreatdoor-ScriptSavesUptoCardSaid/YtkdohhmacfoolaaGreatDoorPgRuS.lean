/- Facts. No condition. -/
import Derived.Test.YtkdohhmacfoolaaGreatDoorPgTiR
set_option linter.unusedVariables false
set_option linter.unusedSimpArgs false
set_option maxRecDepth 20000
set_option maxHeartbeats 1000000
namespace Go.Proofs.YtkdohhmacfoolaaGreatDoor
open Go Go.AM Go.Pl Go.Pt
theorem aVj(ss:List (List aE))(hs:ss.length<1000)(hf:ss.flatten.length<1000000000): ∀(m i:Nat),ss.length<i+m→i≤ss.length→mC m (ss.take i).flatten ss (ss.length:Int) (i:Int)=some ss.flatten
 |0,i,_,_=>by omega
 |m+1,i,hm,hi=>by
  show vH (mC m) _ _ _ _=_;unfold vH
  by_cases c:i<ss.length
  ·
   have e:(ss.take (i+1)).flatten=(ss.take i).flatten++ss[i]:=by rw [vC c,List.flatten_append];simp
   have hb:(ss.take (i+1)).flatten.length≤ss.flatten.length:=by
    conv=>rhs;rw [←List.take_append_drop (i+1) ss,List.flatten_append,List.length_append]
    omega
   rw [e,List.length_append] at hb;rw [bt (oJ c),cN c,aA,gG om,aA,wr1 i om,←e];exact aVj ss hs hf m (i+1) om c
  · rw [bf (oI c),List.take_of_length_le om]
theorem bS4{n:Int}(h0:0≤n)(h1:n<1000000000):pU n=some []:=by
 unfold pU sK nZ;have e1:IntKind.i64.wrap (((0:Nat):Int)-((0:Nat):Int))=0:=rfl;have e2:IntKind.i64.wrap (n-0)=n:=by rw [Int.sub_zero];exact wr0 om om
 rw [bf (by simp;omega),e1,e2]
 by_cases c:0<n
 ·
  have hc:(decide (0<n)&&decide (n≤4294967296))=true:=by simp;omega
  rw [bt (by simpa using c),ck (by rfl),aA,ck hc,aA,aA]
 · rw [bf (by simpa using c)]
theorem aVi(ss:List (List aE))(hs:ss.length<1000)(hf:ss.flatten.length<1000000000): ∀(m i:Nat),ss.length<i+m→i≤ss.length→kM m ss (((ss.take i).flatten.length:Nat):Int) ss (ss.length:Int) (i:Int)=some ss.flatten
 |0,i,_,_=>by omega
 |m+1,i,hm,hi=>by
  have hFU:=FU;show vG (kM m) _ _ _ _ _=_;unfold vG vI
  by_cases c:i<ss.length
  ·
   have e:(ss.take (i+1)).flatten=(ss.take i).flatten++ss[i]:=by rw [vC c,List.flatten_append];simp
   have hb:(ss.take (i+1)).flatten.length≤ss.flatten.length:=by
    conv=>rhs;rw [←List.take_append_drop (i+1) ss,List.flatten_append,List.length_append]
    omega
   have hl:(ss.take (i+1)).flatten.length=(ss.take i).flatten.length+ss[i].length:=by rw [e,List.length_append]
   have ew:IntKind.i64.wrap ((((ss.take i).flatten.length:Nat):Int)+(ss[i].length:Int))=(((ss.take (i+1)).flatten.length:Nat):Int):=by
    rw [hl];rw [wr0 om om];omega
   rw [bt (oJ c),cN c,aA,ew,bf (by simp),wr1 i om];exact aVi ss hs hf m (i+1) om c
  · rw [bf (oI c),List.take_of_length_le om,bS4 om om,aA];have:=aVj ss hs hf aY 0 om (Nat.zero_le _);exact this
theorem aVk(ss:List (List aE))(hs:ss.length<1000)(hf:ss.flatten.length<1000000000):lC ss=some ss.flatten:=by
 have hFU:=FU;exact aVi ss hs hf aY 0 om (Nat.zero_le _)
def aKn(l:List aE)(x:aE)(l':List aE):Prop:= ∃q,q≤l.length∧l'=l.take q++x::l.drop q∧(∀j e,j<q→l[j]? =some e→aEq e x=true)∧ ∀e,l[q]? =some e→aEq e x=false
theorem bV3(l:List aE)(x:aE)(hl:l.length+1<1000000000): ∀(m i:Nat),l.length<i+m→i≤l.length→(∀j e,j<i→l[j]? =some e→aEq e x=true)→ ∃l',aBu m l x (i:Int)=some (l',0)∧aKn l x l'
 |0,i,_,_,_=>by omega
 |m+1,i,hm,hi,hb=>by
  show ∃l',aJv (aBu m) _ _ _=_∧_;unfold aJv
  have fin:(∀e,l[i]? =some e→aEq e x=false)→ ∃l',((slc l 0 (i:Int)).bind fun l15=>(slc l (i:Int) (l.length:Int)).bind fun l17=>(lC [l15,[x],l17]).bind fun r19=>some (r19,(0:Int)))=some (l',0)∧aKn l x l':=fun hn=>by
   rw [aCb rfl hi,aA,wF rfl hi,aA,aVk _ (by simp) (by simp;omega),aA];exact ⟨_,rfl,i,hi,by simp,hb,hn⟩
  by_cases c:i<l.length
  ·
   rw [oJ c,gtt,cN c,aA,gtt,aJ4,aA]
   cases q:aEq l[i] x with
   |true=>
    rw [bt (by rfl),wr1 i om];refine bV3 l x hl m (i+1) om c fun j e hj he=>?_
    by_cases h:j=i
    · subst h;rw [List.getElem?_eq_getElem c] at he;cases he;exact q
    · exact hb j e om he
   |false=>
    rw [bf (by rfl)];exact fin fun e he=>by rw [List.getElem?_eq_getElem c] at he;cases he;exact q
  · rw [oI c,gft,aA,gft,aA,bf (by rfl)];exact fin fun e he=>by rw [List.getElem?_eq_none om] at he;cases he
def edg(u v:Int):aE:=⟨if v<u then v else u,if u<v then v else u,0⟩
def vtx(n u v:Int):Prop:=0≤u∧u<n∧0≤v∧v<n
instance (n u v:Int):Decidable (vtx n u v):=by unfold vtx;infer_instance
def cI2(n:Int)(l:List aE)(u v:Int)(r:List aE×Int):Prop:=
  (¬vtx n u v∧r=(l,1))∨(vtx n u v∧u=v∧r=(l,8))∨(vtx n u v∧u≠v∧(∃e,e∈l∧kN u v e=true)∧r=(l,4))∨(vtx n u v∧u≠v∧(∀e,e∈l→kN u v e=false)∧ ∃l',aKn l (edg u v) l'∧r=(l',0))
theorem bNq{u v:Int}{l:List aE}(h:fnd (kN u v) l 0=none): ∀e,e∈l→kN u v e=false:=by
 have:=aMw h;rw [List.find?_eq_none] at this;intro e he
 simpa using this e he
theorem bBz{n:Int}{l:List aE}(hT:trB n l=true)(hl:l.length+1<1000000000)(u v:Int): ∃r,aE7 n l u v=some r∧cI2 n l u v r:=by
 have hFU:=FU;unfold aE7 iL;rw [oM om,hT,aA,jS,aA,jS,aA]
 by_cases c:vtx n u v
 ·
  have c0:=c;unfold vtx at c;rw [bf (by simp;omega)]
  by_cases e:u=v
  · rw [bt (by simp [e])];exact ⟨_,rfl,.inr (.inl ⟨c0,e,rfl⟩)⟩
  ·
   rw [bf (by simp [e]),aBi om,aA]
   cases q:fnd (kN u v) l 0 with
   |some k=>
    obtain ⟨_,f,h1,h2,_⟩:=aG2 q;exact ⟨_,rfl,.inr (.inr (.inl ⟨c0,e,⟨f,List.mem_of_getElem? h1,h2⟩,rfl⟩))⟩
   |none=>
    simp only [];rw [bf rfl];obtain ⟨l',h1,h2⟩:=bV3 l (edg u v) hl aY 0 om (Nat.zero_le _) (fun j e hj=>by omega);exact ⟨_,h1,.inr (.inr (.inr ⟨c0,e,bNq q,l',h2,rfl⟩))⟩
 · have c0:=c;unfold vtx at c;rw [bt (by simp;omega)];exact ⟨_,rfl,.inl ⟨c0,rfl⟩⟩
def cI3(n:Int)(l:List aE)(u v:Int)(r:List aE×Int):Prop:=
  (¬vtx n u v∧r=(l,1))∨(vtx n u v∧fnd (kN u v) l 0=none∧r=(l,9))∨(vtx n u v∧ ∃k,fnd (kN u v) l 0=some k∧r=(l.take k++l.drop (k+1),0))
theorem aTh{n:Int}{l:List aE}(hT:trB n l=true)(hl:l.length<1000000000)(u v:Int): ∃r,wK n l u v=some r∧cI3 n l u v r:=by
 unfold wK iL;rw [oM om,hT,aA,jS,aA,jS,aA]
 by_cases c:vtx n u v
 ·
  have c0:=c;unfold vtx at c;rw [bf (by simp;omega),aBi hl,aA]
  cases q:fnd (kN u v) l 0 with
  |none=>exact ⟨_,rfl,.inr (.inl ⟨c0,q,rfl⟩)⟩
  |some k=>
   obtain ⟨_,f,h1,h2,_⟩:=aG2 q;have hk:=(List.getElem?_eq_some_iff.1 h1).1;simp only [];rw [bf (c:= !true) rfl,aCb rfl om,aA,wr1 k om,wF rfl om,aA,aVk _ (by simp) (by simp;omega),aA];exact ⟨_,rfl,.inr (.inr ⟨c0,k,q,by simp⟩)⟩
 · have c0:=c;unfold vtx at c;rw [bt (by simp;omega)];exact ⟨_,rfl,.inl ⟨c0,rfl⟩⟩
theorem yA(a b:List aE):en (a++b)=en a++en b:=by unfold en;rw [List.map_append]
theorem aKn.en{l:List aE}{x:aE}{l':List aE}(h:aKn l x l'): ∃A B,en l=A++B∧en l'=A++(x.U,x.V)::B:=by
 obtain ⟨q,h1,rfl,_⟩:=h;refine ⟨Go.Proofs.YtkdohhmacfoolaaGreatDoor.en (l.take q),Go.Proofs.YtkdohhmacfoolaaGreatDoor.en (l.drop q),?_,?_⟩
 · rw [←yA,List.take_append_drop]
 · rw [yA,aRa]
theorem aKn.fo{l:List aE}{x:aE}{l':List aE}(h:aKn l x l')(hx:x.Tier=0)(k:Int):fo l' k=fo l k:=by
 obtain ⟨q,h1,rfl,_⟩:=h;unfold Go.Proofs.YtkdohhmacfoolaaGreatDoor.fo;rw [List.filter_append,List.filter_cons_of_neg (by rw [aK8];omega),←List.filter_append,List.take_append_drop]
theorem aKn.len{l:List aE}{x:aE}{l':List aE}(h:aKn l x l'):l'.length=l.length+1:=by
 obtain ⟨q,h1,rfl,_⟩:=h;simp;omega
theorem aKn.mem{l:List aE}{x:aE}{l':List aE}(h:aKn l x l')(e:aE):e∈l'↔e∈l∨e=x:=by
 obtain ⟨q,h1,rfl,_⟩:=h
 conv=>rhs;rw [←List.take_append_drop q l]
 simp only [List.mem_append,List.mem_cons];constructor
 ·
  rintro (h|h|h)
  · exact .inl (.inl h)
  · exact .inr h
  · exact .inl (.inr h)
 ·
  rintro ((h|h)|h)
  · exact .inl h
  · exact .inr (.inr h)
  · exact .inr (.inl h)
theorem aKn.tb{n:Int}{l:List aE}{x:aE}{l':List aE}(h:aKn l x l')(t:Tb n l)(ok:okE n x=true)(hno: ∀e,e∈l→ ¬(e.U=x.U∧e.V=x.V)):Tb n l':=by
 refine ⟨?_,fun e he=>?_⟩
 ·
  obtain ⟨q,h1,rfl,h3,h4⟩:=h;have pw:=t.pw;have hsplit:Go.Proofs.YtkdohhmacfoolaaGreatDoor.en l=Go.Proofs.YtkdohhmacfoolaaGreatDoor.en (l.take q)++Go.Proofs.YtkdohhmacfoolaaGreatDoor.en (l.drop q):=by rw [←yA,List.take_append_drop]
  rw [hsplit,List.pairwise_append] at pw;rw [yA,aRa,List.pairwise_append,List.pairwise_cons]
  have lo: ∀a,a∈Go.Proofs.YtkdohhmacfoolaaGreatDoor.en (l.take q)→ltE a (x.U,x.V):=fun a ha=>by
   obtain ⟨e,he,rfl⟩:=oW.1 ha;obtain ⟨j,hj⟩:=List.getElem?_of_mem he;have hjq:j<q:=by have:=(List.getElem?_eq_some_iff.1 hj).1;rw [List.length_take] at this;omega
   rw [List.getElem?_take_of_lt hjq] at hj;exact aD0.1 (h3 j e hjq hj)
  have hi: ∀b,b∈Go.Proofs.YtkdohhmacfoolaaGreatDoor.en (l.drop q)→ltE (x.U,x.V) b:=fun b hb=>by
   obtain ⟨e,he,rfl⟩:=oW.1 hb;have hne:=hno e (List.mem_of_mem_drop he)
   have hnl: ¬ltE (e.U,e.V) (x.U,x.V):=by
    obtain ⟨j,hj⟩:=List.getElem?_of_mem he;rw [List.getElem?_drop] at hj
    cases j with
    |zero=>
     intro k;have:=h4 e hj;rw [aD0.2 k] at this;cases this
    |succ j=>
     have hq:q<l.length:=by have:=(List.getElem?_eq_some_iff.1 hj).1;omega
     have h5:=h4 _ (List.getElem?_eq_getElem hq)
     have h6:ltE (l[q].U,l[q].V) (e.U,e.V):=by
      have pw0:=t.pw;rw [List.pairwise_iff_getElem] at pw0;have hj2:=(List.getElem?_eq_some_iff.1 hj)
      have:=pw0 q (q+(j+1)) (by rw [zG];exact hq) (by rw [zG];exact hj2.1) om;unfold Go.Proofs.YtkdohhmacfoolaaGreatDoor.en at this;rw [List.getElem_map,List.getElem_map,hj2.2] at this;exact this
     intro k;have:=aD0.2 (aOp h6 k);rw [h5] at this;cases this
   unfold ltE at*;simp only at*;omega
  exact ⟨pw.1,⟨hi,pw.2.1⟩,fun a ha b hb=>by
   rcases List.mem_cons.1 hb with e|e
   · rw [e];exact lo a ha
   · exact aOp (lo a ha) (hi b e)⟩
 ·
  rcases (h.mem e).1 he with q|q
  · exact t.ok e q
  · rw [q];exact ok
theorem GD.mk'{g g2:aJ}(h:GD g)(hc:g2.Config=g.Config)(hh:g2.Hashes=g.Hashes)(t:TG g2)(he:g2.Edges.length<1000000000):GD g2:=by
 have k:=gok h.ok;have n1:=k.n1;refine ⟨?_,fun x hx=>h.hw x (by rw [←hh];exact hx),he,by rw [hh];exact h.h⟩;unfold grB
 have c:cfB g2=true:=by
  have:=h.ok;unfold grB at this;rw [Bool.and_eq_true] at this;have:=this.1;unfold cfB at this⊢;rw [hc,hh];exact this
 have hs:hsB g2.Hashes=true:=by rw [hh];exact k.hs
 have tr:trB g2.Config.N g2.Edges=true:=aI0.2 ⟨by rw [hc];omega,by rw [hc];exact k.n2,t.tb⟩;rw [c,hs,tr,t.tiB,aK6.2 t.fr];rfl
theorem aS3{u v:Int}(h:u≠v):((edg u v).U=u∧(edg u v).V=v∧u<v)∨((edg u v).U=v∧(edg u v).V=u∧v<u):=by
 unfold edg
 by_cases c:v<u
 · right;simp only [c,if_true];rw [if_neg om];refine ⟨?_,?_,?_⟩<;>first|trivial|rfl|omega
 · left;simp only [c,if_false];rw [if_pos om];refine ⟨?_,?_,?_⟩<;>first|trivial|rfl|omega
theorem bW8{g:aJ}(h:GD g){u v:Int}(hv:vtx g.Config.N u v)(hne:u≠v)(hno: ∀e,e∈g.Edges→kN u v e=false){l':List aE}(ha:aKn g.Edges (edg u v) l')(hl:g.Edges.length+1<1000000000):GD ⟨g.Config,g.Hashes,l'⟩:=by
 have k:=gok h.ok;have n1:=k.n1;have l1:=k.l1;have t:=k.gc.ti;have huv:=aS3 hne;unfold vtx at hv
 have ok:okE g.Config.N (edg u v)=true:=uR.2 (by
  have:(edg u v).Tier=0:=rfl;rcases huv with ⟨a,b,c⟩|⟨a,b,c⟩<;>(rw [a,b,this];omega))
 have hno': ∀e,e∈g.Edges→ ¬(e.U=(edg u v).U∧e.V=(edg u v).V):=fun e he q=>by
  have:=hno e he;unfold kN at this;rcases huv with ⟨a,b,c⟩|⟨a,b,c⟩
  · rw [a,b] at q;simp [q.1,q.2] at this
  · rw [a,b] at q;simp [q.1,q.2] at this
 refine h.mk' rfl rfl ⟨ha.tb t.tb ok hno',fun e he=>?_,?_⟩ (by show l'.length<_;rw [ha.len];exact hl)
 ·
  rcases (ha.mem e).1 he with q|q
  · exact t.le e q
  · rw [q];show (0:Int)≤g.Config.L;omega
 · show eN _ (en (fo l' g.Config.L));rw [ha.fo rfl];exact t.fr
theorem aKf{l:List aE}{k:Nat}{u v:Int}(h:fnd (kN u v) l 0=some k): ∃e,l[k]? =some e∧kN u v e=true∧l=l.take k++e::l.drop (k+1):=by
 obtain ⟨_,e,h1,h2,_⟩:=aG2 h;rw [Nat.sub_zero] at h1;have hk:=(List.getElem?_eq_some_iff.1 h1)
 refine ⟨e,h1,h2,?_⟩
 conv=>lhs;rw [←List.take_append_drop k l,List.drop_eq_getElem_cons hk.1,hk.2]
theorem bXz{g:aJ}(h:GD g){u v:Int}{k:Nat}(hk:fnd (kN u v) g.Edges 0=some k):GD ⟨g.Config,g.Hashes,g.Edges.take k++g.Edges.drop (k+1)⟩:=by
 have kk:=gok h.ok;have t:=kk.gc.ti;have n0:=kk.gc.n0;obtain ⟨e,h1,h2,h3⟩:=aKf hk
 have hs:(g.Edges.take k++g.Edges.drop (k+1)).Sublist g.Edges:=by
  conv=>rhs;rw [h3]
  exact List.Sublist.append (List.Sublist.refl _) (List.sublist_cons_self _ _)
 have hE:=h.e;refine h.mk' rfl rfl ⟨t.tb.sub hs,fun e he=>t.le e (hs.subset he),?_⟩ (Nat.lt_of_le_of_lt hs.length_le hE);exact t.fr.sublist (t.inR n0 _) (aLl (hs.filter _))
theorem aVn{a b:List aE}(h:en a=en b):a.length=b.length:=by have:=congrArg List.length h;rwa [zG,zG] at this
def bYs(g:aJ)(u v:Int)(r:aJ×Int):Prop:=
  (¬vtx g.Config.N u v∧r=(g,1))∨(vtx g.Config.N u v∧u=v∧r=(g,8))∨(vtx g.Config.N u v∧u≠v∧(∃e,e∈g.Edges∧kN u v e=true)∧r=(g,4))∨
    (vtx g.Config.N u v∧u≠v∧(∀e,e∈g.Edges→kN u v e=false)∧ ∃l' g2,aKn g.Edges (edg u v) l'∧GD ⟨g.Config,g.Hashes,l'⟩∧aFv u v 0 ⟨g.Config,g.Hashes,l'⟩ g2∧GD g2∧r=(g2,0))
theorem aTk{g:aJ}(h:GD g)(hl:g.Edges.length+1<1000000000)(u v:Int): ∃r,wT g u v=some r∧bYs g u v r:=by
 have k:=gok h.ok;unfold wT;rw [aNw h.e h.h,aA]
 by_cases c:vtx g.Config.N u v
 ·
  have c0:=c;unfold vtx at c;obtain ⟨r,r1,r2⟩:=bBz k.tr hl u v;rw [decide_eq_true ⟨h.ok,c⟩,bf (c:= !true) rfl,r1,aA];rcases r2 with ⟨h1,rfl⟩|⟨h1,h2,rfl⟩|⟨h1,h2,h3,rfl⟩|⟨h1,h2,h3,l',h4,rfl⟩
  · exact absurd c0 h1
  · exact ⟨_,rfl,.inr (.inl ⟨c0,h2,rfl⟩)⟩
  · exact ⟨_,rfl,.inr (.inr (.inl ⟨c0,h2,h3,rfl⟩))⟩
  · have hg:=bW8 h c0 h2 h3 h4 hl;obtain ⟨g2,m1,m2,m3⟩:=aVt hg c.1 c.2.1 c.2.2.1 c.2.2.2;simp only [];rw [bf (by rfl),m1,aA];exact ⟨_,rfl,.inr (.inr (.inr ⟨c0,h2,h3,l',g2,h4,hg,m2,m3,rfl⟩))⟩
 · rw [decide_eq_false (fun q=>c q.2)];exact ⟨_,rfl,.inl ⟨c,rfl⟩⟩
def bYr(g:aJ)(u v:Int)(r:aJ×Int):Prop:=
  (¬vtx g.Config.N u v∧r=(g,1))∨(vtx g.Config.N u v∧fnd (kN u v) g.Edges 0=none∧r=(g,9))∨
    (vtx g.Config.N u v∧ ∃k g2,fnd (kN u v) g.Edges 0=some k∧GD ⟨g.Config,g.Hashes,g.Edges.take k++g.Edges.drop (k+1)⟩∧aFv u v 0 ⟨g.Config,g.Hashes,g.Edges.take k++g.Edges.drop (k+1)⟩ g2∧GD g2∧r=(g2,0))
theorem aTj{g:aJ}(h:GD g)(u v:Int): ∃r,wQ g u v=some r∧bYr g u v r:=by
 have k:=gok h.ok;unfold wQ;rw [aNw h.e h.h,aA]
 by_cases c:vtx g.Config.N u v
 ·
  have c0:=c;unfold vtx at c;obtain ⟨r,r1,r2⟩:=aTh k.tr h.e u v;rw [decide_eq_true ⟨h.ok,c⟩,bf (c:= !true) rfl,r1,aA];rcases r2 with ⟨h1,rfl⟩|⟨h1,h2,rfl⟩|⟨h1,j,h2,rfl⟩
  · exact absurd c0 h1
  · exact ⟨_,rfl,.inr (.inl ⟨c0,h2,rfl⟩)⟩
  · have hg:=bXz h h2;obtain ⟨g2,m1,m2,m3⟩:=aVt hg c.1 c.2.1 c.2.2.1 c.2.2.2;simp only [];rw [bf (by rfl),m1,aA];exact ⟨_,rfl,.inr (.inr ⟨c0,j,g2,h2,hg,m2,m3,rfl⟩)⟩
 · rw [decide_eq_false (fun q=>c q.2)];exact ⟨_,rfl,.inl ⟨c,rfl⟩⟩
open Go Go.AM Go.Pl Go.Pt
def bOt(g:aJ)(t v:Int):Bool:=(pf g t v==v)&&(((trl g.Config.N (pf g t) v).length==(trl g.Config.N (pf g (t+1)) v).length)&&(srch g t v).isSome)
def bXm(g:aJ)(t:Int)(i:Nat):List (Int×Int):=((List.range' i (g.Config.N.toNat-i)).filter fun (k:Nat)=>bOt g t k).map fun (k:Nat)=>(t,(k:Int))
theorem bAt{g:aJ}{t:Int}{q:Int×Int} :q∈bXm g t 0↔q.1=t∧0≤q.2∧q.2<g.Config.N∧bOt g t q.2=true:=by
 unfold bXm;rw [List.mem_map];constructor
 · rintro ⟨k,hk,rfl⟩;rw [List.mem_filter,List.mem_range'] at hk;obtain ⟨⟨i,h1,h2⟩,h3⟩:=hk;exact ⟨rfl,by simp,by simp;omega,h3⟩
 ·
  rintro ⟨h0,h1,h2,h3⟩;have e:((q.2.toNat:Nat):Int)=q.2:=by omega
  refine ⟨q.2.toNat,?_,by rw [e,←h0]⟩;rw [List.mem_filter,List.mem_range',e];exact ⟨⟨q.2.toNat,by omega,by omega⟩,h3⟩
def bXl(g:aJ)(t:Nat):List (Int×Int):=(List.range' t (g.Config.L.toNat-t)).flatMap fun (k:Nat)=>bXm g k 0
theorem bOv{g:aJ}{q:Int×Int} :q∈bXl g 0↔0≤q.1∧q.1<g.Config.L∧0≤q.2∧q.2<g.Config.N∧bOt g q.1 q.2=true:=by
 unfold bXl;rw [List.mem_flatMap];constructor
 · rintro ⟨k,hk,hq⟩;rw [List.mem_range'] at hk;obtain ⟨i,h1,h2⟩:=hk;obtain ⟨a,b,c,d⟩:=bAt.1 hq;rw [a];exact ⟨by omega,by omega,b,c,d⟩
 ·
  rintro ⟨h1,h2,h3⟩;have e:((q.1.toNat:Nat):Int)=q.1:=by omega
  exact ⟨q.1.toNat,List.mem_range'.2 ⟨q.1.toNat,by omega,by omega⟩,bAt.2 ⟨by omega,by rw [e];exact h3⟩⟩
section
variable {g:aJ}(h:GD g)
include h
end
theorem bU7{g:aJ}(h:GOK g){t v:Int}(v0:0≤v)(vn:v<g.Config.N):bOt g t v=true↔pf g t v=v∧Lon g t v:=by
 unfold bOt Lon;rw [Bool.and_eq_true,Bool.and_eq_true,beq_iff_eq,beq_iff_eq,bQk h v0 vn]
open Go Go.AM Go.Pl Go.Pt
open Go Go.AM Go.Pl Go.Pt
theorem aR1{g:aJ}(hb:128<g.Hashes.length):gY g=some false∧grB g=false:=by
 unfold gY grB
 by_cases c:1≤g.Config.N∧g.Config.N≤1024∧1≤g.Config.L∧g.Config.L≤16∧1≤g.Config.R∧g.Config.R≤8
 ·
  have h2:g.Config.L*g.Config.R≤16*8:=Int.mul_le_mul om om om om;have k:(g.Hashes.length:Int)≠g.Config.L*g.Config.R:=by omega
  rw [bf (by simp;omega),bFr ⟨c.2.2.1,c.2.2.2.1,c.2.2.2.2⟩,bt (by simp [k])];have:cfB g=false:=by unfold cfB;rw [decide_eq_false_iff_not];exact fun q=>k q.2.2.2.2.2.2
  rw [this];exact ⟨rfl,rfl⟩
 ·
  have:cfB g=false:=by unfold cfB;rw [decide_eq_false_iff_not];exact fun q=>c ⟨q.1,q.2.1,q.2.2.1,q.2.2.2.1,q.2.2.2.2.1,q.2.2.2.2.2.1⟩
  rw [bt (by simp;omega),this];exact ⟨rfl,rfl⟩
theorem bC7(c:aX){hs:List cI}(hl:hs.length≤8796093022207):aEc c hs=some (if grB ⟨c,hs,[]⟩ then (⟨c,hs,[]⟩,0) else (⟨⟨0,0,0⟩,[],[]⟩,1)):=by
 unfold aEc iP;rw [bFx (by simp;omega),aA,List.nil_append]
 by_cases q:hs.length≤1048576
 · rw [lO (by simp) (by simp;omega),aA];cases grB ⟨c,hs,[]⟩<;>rfl
 · obtain ⟨q1,q2⟩:=aR1 (g:=⟨c,hs,[]⟩) (by simp;omega);rw [q1,q2,aA];rfl
def NoL(g:aJ):Prop:= ∀k x,0≤k→k<g.Config.L→ ¬Lon g k x
theorem NoL.nil{g:aJ}(h:GOK g)(n:NoL g):bXl g 0=[]:=List.eq_nil_iff_forall_not_mem.2 fun q hq=>by
 obtain ⟨a,b,c,d,e⟩:=bOv.1 hq;exact n _ _ a b ((bU7 h c d).1 e).2
structure bQv(g g2:aJ):Prop where
  gd:GD g2
  c:g2.Config=g.Config
  len:g2.Edges.length≤g.Edges.length+1
  nol:NoL g→NoL g2
theorem bQv.refl{g:aJ}(h:GD g):bQv g g:=⟨h,rfl,by omega,id⟩
theorem aIp{u v:Int}{e:aE}(h:kN u v e=true):(e.U=u∧e.V=v)∨(e.U=v∧e.V=u):=by
 unfold kN at h;simp only [Bool.or_eq_true,Bool.and_eq_true,beq_iff_eq] at h;omega
theorem bSd{g:aJ}(h:GD g){u v:Int}{r:aJ×Int}(i:bYs g u v r):bQv g r.1:=by
 rcases i with ⟨h1,rfl⟩|⟨h1,h2,rfl⟩|⟨h1,h2,h3,rfl⟩|⟨h1,h2,h3,l',g2,h4,hg,h5,h6,rfl⟩
 · exact .refl h
 · exact .refl h
 · exact .refl h
 ·
  have kg:=gok hg.ok;have F:=h5.facts kg.gc (Int.le_refl _);obtain ⟨A,B,ea,eb⟩:=h4.en;refine ⟨h6,F.al.c,?_,fun n=>?_⟩
  · have:=aVn F.al.e;have:=h4.len;simp only [] at*;omega
  ·
   refine h5.holds kg.gc (Int.le_refl _) (fun k x a b=>by omega) fun k x k0 hk hl=>?_;rcases bSe (g:=g) (g2:=⟨g.Config,g.Hashes,l'⟩) rfl rfl ea eb (fun k=>h4.fo rfl k) hl with q|q|q
   · exact absurd q (n k x k0 hk)
   ·
    rcases aS3 h2 with ⟨a,b,_⟩|⟨a,b,_⟩
    · rw [a] at q;exact .inl q
    · rw [a] at q;exact .inr q
   ·
    rcases aS3 h2 with ⟨a,b,_⟩|⟨a,b,_⟩
    · rw [b] at q;exact .inr q
    · rw [b] at q;exact .inl q
theorem bRx{g:aJ}(h:GD g){u v:Int}{r:aJ×Int}(i:bYr g u v r):bQv g r.1:=by
 rcases i with ⟨h1,rfl⟩|⟨h1,h2,rfl⟩|⟨h1,k,g2,h2,hg,h5,h6,rfl⟩
 · exact .refl h
 · exact .refl h
 ·
  have kg:=gok hg.ok;have kk:=gok h.ok;have F:=h5.facts kg.gc (Int.le_refl _);obtain ⟨e,r1,r2,r3⟩:=aKf h2;have nd:=kk.gc.ti.tb.nodup
  have ea:en g.Edges=en (g.Edges.take k)++(e.U,e.V)::en (g.Edges.drop (k+1)):=by
   conv=>lhs;rw [r3]
   rw [yA];rfl
  have eb:en (g.Edges.take k++g.Edges.drop (k+1))=en (g.Edges.take k)++en (g.Edges.drop (k+1)):=yA _ _
  have hmem: ∀y,y∈g.Edges↔y∈g.Edges.take k++g.Edges.drop (k+1)∨y=e:=fun y=>by
   conv=>lhs;rw [r3]
   simp only [List.mem_append,List.mem_cons];constructor
   ·
    rintro (a|a|a)
    · exact .inl (.inl a)
    · exact .inr a
    · exact .inl (.inr a)
   ·
    rintro ((a|a)|a)
    · exact .inl a
    · exact .inr (.inr a)
    · exact .inr (.inl a)
  have hno:(e.U,e.V)∉en (g.Edges.take k++g.Edges.drop (k+1)):=by
   rw [eb];rw [ea] at nd;have:=List.nodup_append.1 nd;rw [List.mem_append];rintro (a|a)
   · exact this.2.2 _ a _ (List.mem_cons_self ..) rfl
   · exact (List.nodup_cons.1 this.2.1).1 a
  have hf: ∀t q,q∈en (fo (g.Edges.take k++g.Edges.drop (k+1)) t)↔q∈en (fo g.Edges t)∧q≠(e.U,e.V):=fun t q=>by
   rw [oW,oW];constructor
   · rintro ⟨y,hy,rfl⟩;have hy':=qS.1 hy;exact ⟨⟨y,qS.2 ⟨(hmem y).2 (.inl hy'.1),hy'.2⟩,rfl⟩,fun w=>hno (by rw [←w];exact oW.2 ⟨y,hy'.1,rfl⟩)⟩
   · rintro ⟨⟨y,hy,rfl⟩,w⟩;have hy':=qS.1 hy;refine ⟨y,qS.2 ⟨((hmem y).1 hy'.1).resolve_right fun z=>w (by rw [z]),hy'.2⟩,rfl⟩
  refine ⟨h6,F.al.c,?_,fun n=>?_⟩
  · have:=aVn F.al.e;have hk:=(List.getElem?_eq_some_iff.1 r1).1;simp only [List.length_append,List.length_take,List.length_drop] at*;omega
  ·
   refine h5.holds kg.gc (Int.le_refl _) (fun k x a b=>by omega) fun k' x k0 hk hl=>?_;rcases bRy (g:=g) (g2:=⟨g.Config,g.Hashes,g.Edges.take k++g.Edges.drop (k+1)⟩) nd rfl rfl eb ea hf hl with q|q|q
   · exact absurd q (n k' x k0 hk)
   ·
    rcases aIp r2 with ⟨a,b⟩|⟨a,b⟩
    · rw [a] at q;exact .inl q
    · rw [a] at q;exact .inr q
   ·
    rcases aIp r2 with ⟨a,b⟩|⟨a,b⟩
    · rw [b] at q;exact .inr q
    · rw [b] at q;exact .inl q
abbrev WH(hs:List cI)(P:Prop):Prop:=(∀y,y∈hs→((Lit.int .u64 y.A).wf=true)∧((Lit.int .u64 y.B).wf=true))∧P
theorem WH.hw{hs:List cI}{P:Prop}(w:WH hs P): ∀x,x∈hs→HOK x:=fun x hx=>⟨wfu (w.1 x hx).1,wfu (w.1 x hx).2⟩
end Go.Proofs.YtkdohhmacfoolaaGreatDoor
