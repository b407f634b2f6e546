/- Facts. No condition. -/
import Derived.Test.YtkdohhmacfoolaaGreatDoorOcTiR
set_option linter.unusedVariables false
set_option linter.unusedSimpArgs false
set_option maxRecDepth 20000
set_option maxHeartbeats 1000000
namespace Go.Proofs.YtkdohhmacfoolaaGreatDoor
open Go Go.AM Go.Pl Go.Pt
theorem aPq(ss:List (List aC))(hs:ss.length<1000)(hf:ss.flatten.length<1000000000): ∀(m i:Nat),ss.length<i+m→i≤ss.length→jE m (ss.take i).flatten ss (ss.length:Int) (i:Int)=some ss.flatten
 |0,i,_,_=>by omega
 |m+1,i,hm,hi=>by
  show oT (jE m) _ _ _ _=_;unfold oT
  by_cases c:i<ss.length
  ·
   have e:(ss.take (i+1)).flatten=(ss.take i).flatten++ss[i]:=by rw [xR c,List.flatten_append];simp
   have hb:(ss.take (i+1)).flatten.length≤ss.flatten.length:=by
    conv=>rhs;rw [←List.take_append_drop (i+1) ss,List.flatten_append,List.length_append]
    omega
   rw [e,List.length_append] at hb;rw [bt (tZ c),dD c,aA,fV om,aA,wr1 i om,←e];exact aPq ss hs hf m (i+1) om c
  · rw [bf (tY c),List.take_of_length_le om]
theorem bIt{n:Int}(h0:0≤n)(h1:n<1000000000):kT n=some []:=by
 unfold kT mQ kB;have e1:IntKind.i64.wrap (((0:Nat):Int)-((0:Nat):Int))=0:=rfl;have e2:IntKind.i64.wrap (n-0)=n:=by rw [Int.sub_zero];exact wr0 om om
 rw [bf (by simp;omega),e1,e2]
 by_cases c:0<n
 ·
  have hc:(decide (0<n)&&decide (n≤4294967296))=true:=by simp;omega
  rw [bt (by simpa using c),ck (by rfl),aA,ck hc,aA,aA]
 · rw [bf (by simpa using c)]
theorem aPp(ss:List (List aC))(hs:ss.length<1000)(hf:ss.flatten.length<1000000000): ∀(m i:Nat),ss.length<i+m→i≤ss.length→gZ m ss (((ss.take i).flatten.length:Nat):Int) ss (ss.length:Int) (i:Int)=some ss.flatten
 |0,i,_,_=>by omega
 |m+1,i,hm,hi=>by
  have hFU:=FU;show oS (gZ m) _ _ _ _ _=_;unfold oS oU
  by_cases c:i<ss.length
  ·
   have e:(ss.take (i+1)).flatten=(ss.take i).flatten++ss[i]:=by rw [xR c,List.flatten_append];simp
   have hb:(ss.take (i+1)).flatten.length≤ss.flatten.length:=by
    conv=>rhs;rw [←List.take_append_drop (i+1) ss,List.flatten_append,List.length_append]
    omega
   have hl:(ss.take (i+1)).flatten.length=(ss.take i).flatten.length+ss[i].length:=by rw [e,List.length_append]
   have ew:IntKind.i64.wrap ((((ss.take i).flatten.length:Nat):Int)+(ss[i].length:Int))=(((ss.take (i+1)).flatten.length:Nat):Int):=by
    rw [hl];rw [wr0 om om];omega
   rw [bt (tZ c),dD c,aA,ew,bf (by simp),wr1 i om];exact aPp ss hs hf m (i+1) om c
  · rw [bf (tY c),List.take_of_length_le om,bIt om om,aA];have:=aPq ss hs hf bF 0 om (Nat.zero_le _);exact this
theorem aPr(ss:List (List aC))(hs:ss.length<1000)(hf:ss.flatten.length<1000000000):iF ss=some ss.flatten:=by
 have hFU:=FU;exact aPp ss hs hf bF 0 om (Nat.zero_le _)
def aB8(l:List aC)(x:aC)(l':List aC):Prop:= ∃q,q≤l.length∧l'=l.take q++x::l.drop q∧(∀j e,j<q→l[j]? =some e→aA3 e x=true)∧ ∀e,l[q]? =some e→aA3 e x=false
theorem aB8.uniq{l:List aC}{x:aC}{a b:List aC}(h:aB8 l x a)(k:aB8 l x b):a=b:=by
 obtain ⟨q,h1,rfl,h3,h4⟩:=h;obtain ⟨r,k1,rfl,k3,k4⟩:=k
 have:q=r:=by
  rcases Nat.lt_trichotomy q r with c|c|c
  ·
   have hq:q<l.length:=by omega
   have a1:=k3 q _ c (List.getElem?_eq_getElem hq);have a2:=h4 _ (List.getElem?_eq_getElem hq);rw [a1] at a2;cases a2
  · exact c
  ·
   have hq:r<l.length:=by omega
   have a1:=h3 r _ c (List.getElem?_eq_getElem hq);have a2:=k4 _ (List.getElem?_eq_getElem hq);rw [a1] at a2;cases a2
 subst this;rfl
theorem bLa(l:List aC)(x:aC)(hl:l.length+1<1000000000): ∀(m i:Nat),l.length<i+m→i≤l.length→(∀j e,j<i→l[j]? =some e→aA3 e x=true)→ ∃l',vK m l x (i:Int)=some (l',0)∧aB8 l x l'
 |0,i,_,_,_=>by omega
 |m+1,i,hm,hi,hb=>by
  show ∃l',aEz (vK m) _ _ _=_∧_;unfold aEz
  have fin:(∀e,l[i]? =some e→aA3 e x=false)→ ∃l',((slc l 0 (i:Int)).bind fun l15=>(slc l (i:Int) (l.length:Int)).bind fun l17=>(iF [l15,[x],l17]).bind fun r19=>some (r19,(0:Int)))=some (l',0)∧aB8 l x l':=fun hn=>by
   rw [aGr rfl hi,aA,sZ rfl hi,aA,aPr _ (by simp) (by simp;omega),aA];exact ⟨_,rfl,i,hi,by simp,hb,hn⟩
  by_cases c:i<l.length
  ·
   rw [tZ c,gtt,dD c,aA,gtt,aEa,aA]
   cases q:aA3 l[i] x with
   |true=>
    rw [bt (by rfl),wr1 i om];refine bLa l x hl m (i+1) om c fun j e hj he=>?_
    by_cases h:j=i
    · subst h;rw [List.getElem?_eq_getElem c] at he;cases he;exact q
    · exact hb j e om he
   |false=>
    rw [bf (by rfl)];exact fin fun e he=>by rw [List.getElem?_eq_getElem c] at he;cases he;exact q
  · rw [tY c,gft,aA,gft,aA,bf (by rfl)];exact fin fun e he=>by rw [List.getElem?_eq_none om] at he;cases he
def edg(u v:Int):aC:=⟨if v<u then v else u,if u<v then v else u,0⟩
def vtx(n u v:Int):Prop:=0≤u∧u<n∧0≤v∧v<n
instance (n u v:Int):Decidable (vtx n u v):=by unfold vtx;infer_instance
def bHq(n:Int)(l:List aC)(u v:Int)(r:List aC×Int):Prop:=
  (¬vtx n u v∧r=(l,1))∨(vtx n u v∧u=v∧r=(l,8))∨(vtx n u v∧u≠v∧(∃e,e∈l∧iO u v e=true)∧r=(l,4))∨(vtx n u v∧u≠v∧(∀e,e∈l→iO u v e=false)∧ ∃l',aB8 l (edg u v) l'∧r=(l',0))
theorem bHq.uniq{n:Int}{l:List aC}{u v:Int}{a b:List aC×Int}(h:bHq n l u v a)(k:bHq n l u v b):a=b:=by
 rcases h with ⟨h1,rfl⟩|⟨h1,h2,rfl⟩|⟨h1,h2,⟨e,h3,h4⟩,rfl⟩|⟨h1,h2,h3,x,h4,rfl⟩<;>rcases k with ⟨k1,rfl⟩|⟨k1,k2,rfl⟩|⟨k1,k2,⟨f,k3,k4⟩,rfl⟩|⟨k1,k2,k3,y,k4,rfl⟩<;>first|rfl|(exfalso;contradiction)|skip
 · have:=k3 e h3;rw [h4] at this;cases this
 · have:=h3 f k3;rw [k4] at this;cases this
 · rw [h4.uniq k4]
theorem bFe{u v:Int}{l:List aC}(h:fnd (iO u v) l 0=none): ∀e,e∈l→iO u v e=false:=by
 have:=aHs h;rw [List.find?_eq_none] at this;intro e he
 simpa using this e he
theorem aVf{n:Int}{l:List aC}(hT:trB n l=true)(hl:l.length+1<1000000000)(u v:Int): ∃r,zH n l u v=some r∧bHq n l u v r:=by
 have hFU:=FU;unfold zH fC;rw [kJ om,hT,aA,gF,aA,gF,aA]
 by_cases c:vtx n u v
 ·
  have c0:=c;unfold vtx at c;rw [bf (by simp;omega)]
  by_cases e:u=v
  · rw [bt (by simp [e])];exact ⟨_,rfl,.inr (.inl ⟨c0,e,rfl⟩)⟩
  ·
   rw [bf (by simp [e]),aA8 om,aA]
   cases q:fnd (iO u v) l 0 with
   |some k=>
    obtain ⟨_,f,h1,h2,_⟩:=aBi q;exact ⟨_,rfl,.inr (.inr (.inl ⟨c0,e,⟨f,List.mem_of_getElem? h1,h2⟩,rfl⟩))⟩
   |none=>
    simp only [];rw [bf rfl];obtain ⟨l',h1,h2⟩:=bLa l (edg u v) hl bF 0 om (Nat.zero_le _) (fun j e hj=>by omega);exact ⟨_,h1,.inr (.inr (.inr ⟨c0,e,bFe q,l',h2,rfl⟩))⟩
 · have c0:=c;unfold vtx at c;rw [bt (by simp;omega)];exact ⟨_,rfl,.inl ⟨c0,rfl⟩⟩
def bHs(n:Int)(l:List aC)(u v:Int)(r:List aC×Int):Prop:=
  (¬vtx n u v∧r=(l,1))∨(vtx n u v∧fnd (iO u v) l 0=none∧r=(l,9))∨(vtx n u v∧ ∃k,fnd (iO u v) l 0=some k∧r=(l.take k++l.drop (k+1),0))
theorem bHs.uniq{n:Int}{l:List aC}{u v:Int}{a b:List aC×Int}(h:bHs n l u v a)(k:bHs n l u v b):a=b:=by
 rcases h with ⟨h1,rfl⟩|⟨h1,h2,rfl⟩|⟨h1,i,h2,rfl⟩<;>rcases k with ⟨k1,rfl⟩|⟨k1,k2,rfl⟩|⟨k1,j,k2,rfl⟩<;>first|rfl|(exfalso;contradiction)|skip
 · rw [h2] at k2;cases k2
 · rw [h2] at k2;cases k2
 · rw [h2] at k2;cases k2;rfl
theorem aO0{n:Int}{l:List aC}(hT:trB n l=true)(hl:l.length<1000000000)(u v:Int): ∃r,qL n l u v=some r∧bHs n l u v r:=by
 unfold qL fC;rw [kJ om,hT,aA,gF,aA,gF,aA]
 by_cases c:vtx n u v
 ·
  have c0:=c;unfold vtx at c;rw [bf (by simp;omega),aA8 hl,aA]
  cases q:fnd (iO u v) l 0 with
  |none=>exact ⟨_,rfl,.inr (.inl ⟨c0,q,rfl⟩)⟩
  |some k=>
   obtain ⟨_,f,h1,h2,_⟩:=aBi q;have hk:=(List.getElem?_eq_some_iff.1 h1).1;simp only [];rw [bf (c:= !true) rfl,aGr rfl om,aA,wr1 k om,sZ rfl om,aA,aPr _ (by simp) (by simp;omega),aA];exact ⟨_,rfl,.inr (.inr ⟨c0,k,q,by simp⟩)⟩
 · have c0:=c;unfold vtx at c;rw [bt (by simp;omega)];exact ⟨_,rfl,.inl ⟨c0,rfl⟩⟩
theorem rM(a b:List aC):en (a++b)=en a++en b:=by unfold en;rw [List.map_append]
theorem aB8.en{l:List aC}{x:aC}{l':List aC}(h:aB8 l x l'): ∃A B,en l=A++B∧en l'=A++(x.U,x.V)::B:=by
 obtain ⟨q,h1,rfl,_⟩:=h;refine ⟨Go.Proofs.YtkdohhmacfoolaaGreatDoor.en (l.take q),Go.Proofs.YtkdohhmacfoolaaGreatDoor.en (l.drop q),?_,?_⟩
 · rw [←rM,List.take_append_drop]
 · rw [rM,aHq]
theorem aB8.fo{l:List aC}{x:aC}{l':List aC}(h:aB8 l x l')(hx:x.Tier=0)(k:Int):fo l' k=fo l k:=by
 obtain ⟨q,h1,rfl,_⟩:=h;unfold Go.Proofs.YtkdohhmacfoolaaGreatDoor.fo;rw [List.filter_append,List.filter_cons_of_neg (by rw [aFa];omega),←List.filter_append,List.take_append_drop]
theorem aB8.len{l:List aC}{x:aC}{l':List aC}(h:aB8 l x l'):l'.length=l.length+1:=by
 obtain ⟨q,h1,rfl,_⟩:=h;simp;omega
theorem aB8.mem{l:List aC}{x:aC}{l':List aC}(h:aB8 l x l')(e:aC):e∈l'↔e∈l∨e=x:=by
 obtain ⟨q,h1,rfl,_⟩:=h
 conv=>rhs;rw [←List.take_append_drop q l]
 simp only [List.mem_append,List.mem_cons];constructor
 ·
  rintro (h|h|h)
  · exact .inl (.inl h)
  · exact .inr h
  · exact .inl (.inr h)
 ·
  rintro ((h|h)|h)
  · exact .inl h
  · exact .inr (.inr h)
  · exact .inr (.inl h)
theorem aB8.tb{n:Int}{l:List aC}{x:aC}{l':List aC}(h:aB8 l x l')(t:Tb n l)(ok:okE n x=true)(hno: ∀e,e∈l→ ¬(e.U=x.U∧e.V=x.V)):Tb n l':=by
 refine ⟨?_,fun e he=>?_⟩
 ·
  obtain ⟨q,h1,rfl,h3,h4⟩:=h;have pw:=t.pw;have hsplit:Go.Proofs.YtkdohhmacfoolaaGreatDoor.en l=Go.Proofs.YtkdohhmacfoolaaGreatDoor.en (l.take q)++Go.Proofs.YtkdohhmacfoolaaGreatDoor.en (l.drop q):=by rw [←rM,List.take_append_drop]
  rw [hsplit,List.pairwise_append] at pw;rw [rM,aHq,List.pairwise_append,List.pairwise_cons]
  have lo: ∀a,a∈Go.Proofs.YtkdohhmacfoolaaGreatDoor.en (l.take q)→ltE a (x.U,x.V):=fun a ha=>by
   obtain ⟨e,he,rfl⟩:=fX.1 ha;obtain ⟨j,hj⟩:=List.getElem?_of_mem he;have hjq:j<q:=by have:=(List.getElem?_eq_some_iff.1 hj).1;rw [List.length_take] at this;omega
   rw [List.getElem?_take_of_lt hjq] at hj;exact xK.1 (h3 j e hjq hj)
  have hi: ∀b,b∈Go.Proofs.YtkdohhmacfoolaaGreatDoor.en (l.drop q)→ltE (x.U,x.V) b:=fun b hb=>by
   obtain ⟨e,he,rfl⟩:=fX.1 hb;have hne:=hno e (List.mem_of_mem_drop he)
   have hnl: ¬ltE (e.U,e.V) (x.U,x.V):=by
    obtain ⟨j,hj⟩:=List.getElem?_of_mem he;rw [List.getElem?_drop] at hj
    cases j with
    |zero=>
     intro k;have:=h4 e hj;rw [xK.2 k] at this;cases this
    |succ j=>
     have hq:q<l.length:=by have:=(List.getElem?_eq_some_iff.1 hj).1;omega
     have h5:=h4 _ (List.getElem?_eq_getElem hq)
     have h6:ltE (l[q].U,l[q].V) (e.U,e.V):=by
      have pw0:=t.pw;rw [List.pairwise_iff_getElem] at pw0;have hj2:=(List.getElem?_eq_some_iff.1 hj)
      have:=pw0 q (q+(j+1)) (by rw [tT];exact hq) (by rw [tT];exact hj2.1) om;unfold Go.Proofs.YtkdohhmacfoolaaGreatDoor.en at this;rw [List.getElem_map,List.getElem_map,hj2.2] at this;exact this
     intro k;have:=xK.2 (aFb h6 k);rw [h5] at this;cases this
   unfold ltE at*;simp only at*;omega
  exact ⟨pw.1,⟨hi,pw.2.1⟩,fun a ha b hb=>by
   rcases List.mem_cons.1 hb with e|e
   · rw [e];exact lo a ha
   · exact aFb (lo a ha) (hi b e)⟩
 ·
  rcases (h.mem e).1 he with q|q
  · exact t.ok e q
  · rw [q];exact ok
theorem GD.mk'{g g2:aH}(h:GD g)(hc:g2.Config=g.Config)(hh:g2.Hashes=g.Hashes)(t:TG g2)(he:g2.Edges.length<1000000000):GD g2:=by
 have k:=gok h.ok;have n1:=k.n1;refine ⟨?_,fun x hx=>h.hw x (by rw [←hh];exact hx),he,by rw [hh];exact h.h⟩;unfold grB
 have c:cfB g2=true:=by
  have:=h.ok;unfold grB at this;rw [Bool.and_eq_true] at this;have:=this.1;unfold cfB at this⊢;rw [hc,hh];exact this
 have hs:hsB g2.Hashes=true:=by rw [hh];exact k.hs
 have tr:trB g2.Config.N g2.Edges=true:=aFi.2 ⟨by rw [hc];omega,by rw [hc];exact k.n2,t.tb⟩;rw [c,hs,tr,t.tiB,aF7.2 t.fr];rfl
theorem aC7{u v:Int}(h:u≠v):((edg u v).U=u∧(edg u v).V=v∧u<v)∨((edg u v).U=v∧(edg u v).V=u∧v<u):=by
 unfold edg
 by_cases c:v<u
 · right;simp only [c,if_true];rw [if_neg om];refine ⟨?_,?_,?_⟩<;>first|trivial|rfl|omega
 · left;simp only [c,if_false];rw [if_pos om];refine ⟨?_,?_,?_⟩<;>first|trivial|rfl|omega
theorem bM9{g:aH}(h:GD g){u v:Int}(hv:vtx g.Config.N u v)(hne:u≠v)(hno: ∀e,e∈g.Edges→iO u v e=false){l':List aC}(ha:aB8 g.Edges (edg u v) l')(hl:g.Edges.length+1<1000000000):GD ⟨g.Config,g.Hashes,l'⟩:=by
 have k:=gok h.ok;have n1:=k.n1;have l1:=k.l1;have t:=k.gc.ti;have huv:=aC7 hne;unfold vtx at hv
 have ok:okE g.Config.N (edg u v)=true:=oJ.2 (by
  have:(edg u v).Tier=0:=rfl;rcases huv with ⟨a,b,c⟩|⟨a,b,c⟩<;>(rw [a,b,this];omega))
 have hno': ∀e,e∈g.Edges→ ¬(e.U=(edg u v).U∧e.V=(edg u v).V):=fun e he q=>by
  have:=hno e he;unfold iO at this;rcases huv with ⟨a,b,c⟩|⟨a,b,c⟩
  · rw [a,b] at q;simp [q.1,q.2] at this
  · rw [a,b] at q;simp [q.1,q.2] at this
 refine h.mk' rfl rfl ⟨ha.tb t.tb ok hno',fun e he=>?_,?_⟩ (by show l'.length<_;rw [ha.len];exact hl)
 ·
  rcases (ha.mem e).1 he with q|q
  · exact t.le e q
  · rw [q];show (0:Int)≤g.Config.L;omega
 · show dC _ (en (fo l' g.Config.L));rw [ha.fo rfl];exact t.fr
theorem aFe{l:List aC}{k:Nat}{u v:Int}(h:fnd (iO u v) l 0=some k): ∃e,l[k]? =some e∧iO u v e=true∧l=l.take k++e::l.drop (k+1):=by
 obtain ⟨_,e,h1,h2,_⟩:=aBi h;rw [Nat.sub_zero] at h1;have hk:=(List.getElem?_eq_some_iff.1 h1)
 refine ⟨e,h1,h2,?_⟩
 conv=>lhs;rw [←List.take_append_drop k l,List.drop_eq_getElem_cons hk.1,hk.2]
theorem bNo{g:aH}(h:GD g){u v:Int}{k:Nat}(hk:fnd (iO u v) g.Edges 0=some k):GD ⟨g.Config,g.Hashes,g.Edges.take k++g.Edges.drop (k+1)⟩:=by
 have kk:=gok h.ok;have t:=kk.gc.ti;have n0:=kk.gc.n0;obtain ⟨e,h1,h2,h3⟩:=aFe hk
 have hs:(g.Edges.take k++g.Edges.drop (k+1)).Sublist g.Edges:=by
  conv=>rhs;rw [h3]
  exact List.Sublist.append (List.Sublist.refl _) (List.sublist_cons_self _ _)
 have hE:=h.e;refine h.mk' rfl rfl ⟨t.tb.sub hs,fun e he=>t.le e (hs.subset he),?_⟩ (Nat.lt_of_le_of_lt hs.length_le hE);exact t.fr.sublist (t.inR n0 _) (aGg (hs.filter _))
end Go.Proofs.YtkdohhmacfoolaaGreatDoor
