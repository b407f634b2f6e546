/- Facts. No condition. -/
import Derived.Test.YtkdohhmacfoolaaGreatDoorObIxR
set_option linter.unusedVariables false
set_option linter.unusedSimpArgs false
set_option maxRecDepth 20000
set_option maxHeartbeats 1000000
namespace Go.Proofs.YtkdohhmacfoolaaGreatDoor
open Go Go.AM Go.Pl Go.Pt Go.Ix
theorem aYp{x:Int} : ∀ {A:List Int},(∀z,z∈A→z<x)→yA x A=A++[x]
 |[],_=>rfl
 |y::A,h=>by
  unfold yA;rw [if_pos (h y (List.mem_cons_self ..)),aYp fun z hz=>h z (List.mem_cons_of_mem _ hz)];rfl
theorem aU0{x y:Int}(hxy:x<y): ∀ {A:List Int},yA x (A++[y])=yA x A++[y]
 |[]=>by
  show (if y<x then y::yA x [] else x::y::[])=_;rw [if_neg om];rfl
 |z::A=>by
  show yA x (z::(A++[y]))=_;unfold yA;split
  · rw [aU0 hxy];rfl
  · rfl
theorem bB1(x y:Int):nG x y=some (decide (x<y)):=by
 have h: ∀z:Int,fS z=some false:=fun z=>by unfold fS;simp
 unfold nG;rw [h x,aA,gf' (by rfl),aA];simp
theorem set_mid(A B:List Int)(x y:Int):(A++x::B).set A.length y=A++y::B:=by
 rw [List.set_append_right _ _ (Nat.le_refl _),Nat.sub_self];rfl
theorem aVh(A B:List Int)(x:Int):(A++x::B)[A.length]? =some x:=by
 rw [List.getElem?_append_right (Nat.le_refl _),Nat.sub_self];rfl
theorem bEd(rec1:List Int→Int→Int→Int→Option (List Int))(b i x:Int): ∀(m:Nat) (A B:List Int),A.length<m→A.length<1000000→A.Pairwise (· < ·)→x∉A→
 dC rec1 m (A++x::B) 0 b i (A.length:Int)=rec1 (yA x A++B) 0 b (IntKind.i64.wrap (i+1))
 |0,A,B,hm,_,_,_=>by omega
 |m+1,A,B,hm,hA,hp,hx=>by
  show dT rec1 (dC rec1 m) _ _ _ _ _=_;unfold dT;rcases List.eq_nil_or_concat A with rfl|⟨A',y,eA⟩
  · rw [gf' (by rfl),aA,gf' (by rfl),aA,gf' (by rfl),aA,bf (by rfl)];rfl
  ·
   rw [List.concat_eq_append] at eA;subst eA;have hl:(A'++[y]).length=A'.length+1:=by simp
   rw [hl] at hm hA⊢;have c0:(decide ((0:Int)<((A'.length+1:Nat):Int))==true)=true:=by simp
   have ew:IntKind.i64.wrap (((A'.length+1:Nat):Int)-1)=(A'.length:Int):=by rw [wr0 om om];omega
   have g1:(A'++[y]++x::B)[A'.length+1]? =some x:=by have:=aVh (A'++[y]) B x;rwa [hl] at this
   have e0:A'++[y]++x::B=A'++y::x::B:=by simp
   have g2:(A'++[y]++x::B)[A'.length]? =some y:=by rw [e0];exact aVh A' _ y
   have s1:(A'++[y]++x::B).set (A'.length+1) y=A'++y::y::B:=by have:=set_mid (A'++[y]) B x y;rw [hl] at this;rw [this];simp
   have s2:(A'++y::y::B).set A'.length x=A'++x::y::B:=set_mid A' _ y x;have g3:(A'++y::y::B)[A'.length]? =some y:=aVh A' _ y;obtain ⟨p1,p2,p3⟩:=List.pairwise_append.1 hp;rw [ew,gt' c0,fP,g1,aA,gt' c0,fP,g2,aA,gt' c0,bB1,aA]
   by_cases c:x<y
   · rw [bt (by simp [c]),aA,aA,aA,jX (by simp),s1,aA,fP,g3,aA,jX (by simp),s2,aA];rw [bEd rec1 b i x m A' (y::B) om om p1 (fun h=>hx (List.mem_append_left _ h)),aU0 c];simp
   ·
    rw [bf (by simp [c])]
    have hxy:y<x:=by
     have:x≠y:=fun e=>hx (by rw [e];simp);omega
    rw [aYp fun z hz=>?_]
    · simp
    ·
     rcases List.mem_append.1 hz with q|q
     · have:=p3 z q y (by simp);omega
     ·
      have:z=y:=by simpa using q
      omega
theorem bEc(b:Int): ∀(m:Nat) (R S:List Int),R.length<m→(b:Int)=((S.length+R.length:Nat):Int)→S.length+R.length<1000000→S.Pairwise (· < ·)→(∀x,x∈R→x∉S)→R.Nodup→
 bQ m (S++R) 0 b (S.length:Int)=some (R.foldl (fun out x=>yA x out) S)
 |0,R,S,hm,_,_,_,_,_=>by omega
 |m+1,R,S,hm,hb,hl,hp,hd,hn=>by
  have hFU:=FU';show cO (bQ m) _ _ _ _=_;unfold cO
  cases R with
  |nil=>rw [bf (by simp at hb;simp;omega)];simp
  |cons x R=>
   obtain ⟨n1,n2⟩:=List.nodup_cons.1 hn;rw [List.length_cons] at hm hb hl;have hx:=hd x (List.mem_cons_self ..);rw [bt (by simp;omega),bEd _ b _ x bC S R om om hp hx,wr1 _ om]
   have:=bEc b m R (yA x S) om (by rw [aDy];omega) (by rw [aDy];omega) (bDr hp hx) (fun z hz q=>by
    rcases aQz.1 q with rfl|q
    · exact n1 hz
    · exact hd z (List.mem_cons_of_mem _ hz) q) n2
   rw [aDy] at this;exact this
theorem aQ3: ∀n:Fin 13,(aAd (IntKind.u64.wrap ((n.val:Nat):Int))).isSome=true:=by decide+kernel
theorem bQ1{l:List Int}(hl:l.length≤12)(hn:l.Nodup):jB l=some (aWo l):=by
 have hFU:=FU';obtain ⟨r,hr⟩:=Option.isSome_iff_exists.1 (aQ3 ⟨l.length,by omega⟩);unfold jB;rw [hr,aA];obtain ⟨F,hF⟩: ∃F,bC=F+1:=⟨bC-1,by omega⟩
 have e:dW l 0 (l.length:Int)=some (aWo l):=by
  unfold dW;rw [show IntKind.i64.wrap ((0:Int)+1)=1 from by decide]
  cases l with
  |nil=>
   rw [hF];show cO _ _ _ _ _=_;unfold cO;rw [bf (by rfl)];rfl
  |cons x l=>
   obtain ⟨n1,n2⟩:=List.nodup_cons.1 hn;rw [List.length_cons] at hl
   exact bEc _ bC l [x] om (by simp;omega) (by simp;omega) (by simp) (fun z hz q=>by
    have:z=x:=by simpa using q
    exact n1 (this▸hz)) n2
 have e2:gX l 0 (l.length:Int) r=some (aWo l):=by
  unfold gX;rw [hF];show fN (dA F) bC l 0 (l.length:Int) r true true=_;rw [hF];show fL _ _ _ _ _ _ _ _=_;unfold fL;rw [wr0 om om,bt (by simp;omega),e];simp [aGd,aLq]
 rw [e2];simp [aGd,aLq]
def usd(l:List aN)(v:Int):Bool:=((l[v.toNat]?).map (·.Used)).getD false
theorem aX7{l:List aN}{v:Int} :usd l v=true↔Usd l v:=by
 unfold usd Usd At
 cases h:l[v.toNat]? with
 |none=>simp
 |some s=>
  cases s with
  |mk u k=>cases u<;>simp
theorem bCb(s:aC)(l:List Int)(hl:l.length≤1024)(hr: ∀v,v∈l→0≤v∧v<s.Slots.length): ∀(m i:Nat) (out:List Int),l.length<i+m→i≤l.length→out.length≤i→
 rF m s out l (l.length:Int) (i:Int)=(let r:=out++((l.drop i).filter (usd s.Slots)).map (kv s.Slots);(aGd (fun x=>x.length) r.length (jB r)).bind fun l10=>some l10)
 |0,i,out,hm,hi,_=>by omega
 |m+1,i,out,hm,hi,ho=>by
  show aEx (rF m) _ _ _ _ _=_;unfold aEx aA0
  by_cases c:i<l.length
  ·
   obtain ⟨r0,r1⟩:=hr _ (List.getElem_mem c);have hj:l[i].toNat<s.Slots.length:=by omega
   have ei:idx s.Slots l[i]=some s.Slots[l[i].toNat]:=by
    have:=cE hj
    rwa [Int.toNat_of_nonneg r0] at this
   have eu:usd s.Slots l[i]=s.Slots[l[i].toNat].Used:=by unfold usd;rw [List.getElem?_eq_getElem hj];rfl
   have ek:kv s.Slots l[i]=s.Slots[l[i].toNat].Key:=by unfold kv;rw [List.getElem?_eq_getElem hj];rfl
   rw [bt (by simpa using c),cE c,aA,ei,aA,cW c,List.filter_cons,eu,wr1 i om]
   cases q:s.Slots[l[i].toNat].Used with
   |true=>
    rw [bt rfl,aA,fI (by simp;omega),aA,if_pos rfl,bCb s l hl hr m (i+1) _ om c (by simp;omega),List.map_cons,ek];simp
   |false=>
    rw [bf rfl,if_neg (by simp),bCb s l hl hr m (i+1) _ om c om]
  · rw [bf (by simpa using c),List.drop_eq_nil_of_le om];simp
theorem aL6{s:aC}{l:List Int}(hl:l.length≤12)(hr: ∀v,v∈l→0≤v∧v<s.Slots.length)(hn:((l.filter (usd s.Slots)).map (kv s.Slots)).Nodup):mJ s l=some (aWo ((l.filter (usd s.Slots)).map (kv s.Slots))):=by
 have hFU:=FU';unfold mJ;have:=bCb s l om hr bC 0 [] om (Nat.zero_le _) (Nat.le_refl _);rw [show ((0:Nat):Int)=0 from rfl] at this;have hf:=List.length_filter_le (usd s.Slots) l;rw [this,List.drop_zero,List.nil_append];simp only [];rw [bQ1 (by rw [List.length_map];omega) hn];simp [aGd,aLq]
section
variable {c:aU}{s:aC}{m:aJ}(R:Rel c s m)
include R
theorem Rel.near_mem{j:Nat}{v:Int} :v∈vF s.Graph.Edges (j:Int)↔0≤v∧ ∃e,e∈s.Graph.Edges∧iQ (j:Int) v e=true:=by
 unfold vF;rw [List.mem_filterMap];constructor
 ·
  rintro ⟨e,he,h⟩;obtain ⟨e1,e2,e3,_,_⟩:=R.edge he;unfold iQ;split at h
  · rename_i q;cases h;exact ⟨e2,e,he,by simp [q]⟩
  ·
   split at h
   · rename_i q;cases h;exact ⟨e1,e,he,by simp [q]⟩
   · cases h
 ·
  rintro ⟨h0,e,he,h⟩;obtain ⟨e1,e2,e3,_,_⟩:=R.edge he;refine ⟨e,he,?_⟩;rcases aGt h with ⟨a,b⟩|⟨a,b⟩
  · rw [if_pos a.symm,b]
  · rw [if_neg om,if_pos b.symm,a]
theorem Rel.near_usd{j:Nat}{v:Int}(h:v∈vF s.Graph.Edges (j:Int)):0≤v∧v<s.Slots.length∧Usd s.Slots v:=by
 obtain ⟨h0,e,he,q⟩:=R.near_mem.1 h;obtain ⟨_,_,_,u1,u2⟩:=R.edge he
 have hu:Usd s.Slots v:=by
  rcases aGt q with ⟨a,b⟩|⟨a,b⟩
  · rw [←b];exact u2
  · rw [←a];exact u1
 obtain ⟨k,hk⟩:=hu;have:=(List.getElem?_eq_some_iff.1 hk).1;exact ⟨h0,by omega,k,hk⟩
theorem Rel.near_nodup(v:Int):(vF s.Graph.Edges v).Nodup:=by
 have pw:=(gok R.gd.ok).gc.ti.tb.pw;unfold en at pw;rw [List.pairwise_map] at pw;unfold vF;refine List.pairwise_filterMap.2 (pw.imp_of_mem fun {a b} ha hb h x hx y hy e=>?_);obtain ⟨_,_,a3,_,_⟩:=R.edge ha;obtain ⟨_,_,b3,_,_⟩:=R.edge hb;unfold ltE at h;simp only [] at h;subst e;split at hx
 ·
  split at hy
  · cases hx;injection hy with hy;omega
  ·
   split at hy
   · cases hx;injection hy with hy;omega
   · cases hy
 ·
  split at hx
  ·
   split at hy
   · cases hx;injection hy with hy;omega
   ·
    split at hy
    · cases hx;injection hy with hy;omega
    · cases hy
  · cases hx
theorem Rel.kv_nodup{l:List Int}(hl: ∀v,v∈l→0≤v)(hn:l.Nodup):((l.filter (usd s.Slots)).map (kv s.Slots)).Nodup:=by
 refine List.pairwise_map.2 ((hn.filter _).imp_of_mem fun {a b} ha hb h e=>h ?_);obtain ⟨a1,a2⟩:=List.mem_filter.1 ha;obtain ⟨b1,b2⟩:=List.mem_filter.1 hb;have:=R.ok.v.inj _ _ _ (aJn (aX7.1 a2)) (by rw [e];exact aJn (aX7.1 b2));have:=hl a a1;have:=hl b b1;omega
omit R in
theorem bKt{l:List Int}{n:Nat}(hn:l.Nodup)(hr: ∀v,v∈l→0≤v∧v<(n:Int)):l.length≤n:=by
 have:=aZ0 (b:=(List.range n).map fun (k:Nat)=>(k:Int)) hn fun v hv=>by
  obtain ⟨h0,h1⟩:=hr v hv;exact List.mem_map.2 ⟨v.toNat,List.mem_range.2 om,by omega⟩
 simpa using this
end
section
variable {c:aU}{s:aC}{m:aJ}(R:Rel c s m)(hS:s.Slots.length≤12)(hE:s.Graph.Edges.length<10000)
include R hS hE
omit hE in
theorem ans{d a b:Int}{text:ByteArray}{vA vB:Int}{bA bB:Bool}(h5:5≤d)(h15:d≤13)(fA:Fd s a vA bA)(fB:Fd s b vB bB){rA rB:Bool}(eA:rD d=some rA)(eB:rE d=some rB)(ok:((rA&& !bA)||(rB&& !bB))=false){r:GA}(h:eK s d vA vB=some r):
 eG s ⟨d,a,b,text⟩=some (s,r):=by
 rw [aAy R om (by simp;omega) fA fB eA eB,ok,bf (by rfl),bt (by simp;omega),h,aA]
omit hE in
theorem aO7{a:Int}{i:Nat}(h:At s.Slots i a):Fd s a (i:Int) true:=by
 obtain ⟨v,b,f⟩:=fd R om a;rcases f.c with ⟨rfl,j,rfl,hj⟩|⟨_,_,no⟩
 · have:=R.ok.v.inj _ _ _ hj h;subst this;exact f
 · exact absurd h (no i)
omit hS hE in
theorem kept: ∃k,mM s.Graph=some k:=⟨_,aFz R.gd.e R.gd.h⟩
theorem has_eq{a b:Int}(ha:a∈m.Keys)(hb:b∈m.Keys)(text:ByteArray):eG s ⟨5,a,b,text⟩=some (s,GA.b 4 (decide (pr2 a b∈m.Pairs))):=by
 obtain ⟨i,hi⟩:=(R.mem a).1 ha;obtain ⟨j,hj⟩:=(R.mem b).1 hb;obtain ⟨k,hk⟩:=kept R;refine ans R hS (by decide) (by decide) (aO7 R hS hi) (aO7 R hS hj) rfl rfl (by rfl) ?_;unfold eK;rw [hk,aA,bt (by rfl),yK om,aA];have hh:=R.has hi hj
 cases q:fnd (iQ (i:Int) (j:Int)) s.Graph.Edges 0 with
 |none=>
  have: ¬pr2 a b∈m.Pairs:=fun w=>by
   obtain ⟨e,e1,e2⟩:=hh.1 w;rw [bBn q e e1] at e2;cases e2
  rw [decide_eq_false this]
 |some k=>
  obtain ⟨e,r1,r2,_⟩:=aE7 q;rw [decide_eq_true (hh.2 ⟨e,List.mem_of_getElem? r1,r2⟩)]
theorem bFe{a:Int}(ha:a∈m.Keys)(b:Int)(text:ByteArray):eG s ⟨6,a,b,text⟩=some (s,GA.i 3 .i64 ((aR3 m.Pairs a).length:Int)):=by
 obtain ⟨i,hi⟩:=(R.mem a).1 ha;obtain ⟨vB,bB,fB⟩:=fd R om b;obtain ⟨k,hk⟩:=kept R;obtain ⟨i0,i1⟩:=R.lt hi;refine ans R hS (by decide) (by decide) (aO7 R hS hi) fB rfl rfl (by rfl) ?_;unfold eK nP;rw [hk,aA,bf (by rfl),bt (by rfl),aEy R.gd.ok om i0 i1,aA,aA,R.near_len hi]
def bVn(s:aC)(j:Nat):List Int:=aWo ((vF s.Graph.Edges (j:Int)).map (kv s.Slots))
omit hS hE in
theorem aWa(j:Nat):((vF s.Graph.Edges (j:Int)).filter (usd s.Slots))=vF s.Graph.Edges (j:Int):=List.filter_eq_self.2 fun v hv=>aX7.2 (R.near_usd hv).2.2
theorem bPu{a:Int}{i:Nat}(hi:At s.Slots i a)(b:Int)(text:ByteArray):eG s ⟨7,a,b,text⟩=some (s,GA.lu 24 (bVn s i)):=by
 obtain ⟨vB,bB,fB⟩:=fd R om b;obtain ⟨k,hk⟩:=kept R;obtain ⟨i0,i1⟩:=R.lt hi;refine ans R hS (by decide) (by decide) (aO7 R hS hi) fB rfl rfl (by rfl) ?_;unfold eK;have nd:=R.kv_nodup (fun v hv=>(R.near_usd hv).1) (R.near_nodup (i:Int));have hl:=bKt (R.near_nodup (i:Int)) fun v hv=>⟨(R.near_usd hv).1,(R.near_usd hv).2.1⟩
 rw [hk,aA,bf (by rfl),bf (by rfl),bt (by rfl),aEy R.gd.ok om i0 i1,aA,aL6 om (fun v hv=>⟨(R.near_usd hv).1,(R.near_usd hv).2.1⟩) nd,aA,aWa R];rfl
end
open Go Go.AM Go.Pl Go.Pt Go.Ix
theorem bQt(n:Int)(l:List bD)(hl:l.length<1000000): ∀(m i:Nat),l.length<i+m→i≤l.length→ ∃r,yC m n l (l.length:Int) (i:Int)=some r∧(r= -1∨r=n)
 |0,i,hm,hi=>by omega
 |m+1,i,hm,hi=>by
  show ∃r,aGy (yC m) _ _ _ _=some r∧_;unfold aGy
  by_cases c:i<l.length
  ·
   rw [bt (by simpa using c),cE c,aA,wr1 i om]
   by_cases q:1000<l[i].Text.size
   · rw [bt (by simp;omega)];exact ⟨_,rfl,.inl rfl⟩
   · rw [bf (by simp;omega)];exact bQt n l hl m (i+1) om c
  · rw [bf (by simpa using c)];exact ⟨_,rfl,.inr rfl⟩
theorem bKa(c:aU)(l:List bD){most:Nat}(hm:most≤1000): ∃r,mS c l (most:Int)=some r∧(r= -1∨ ∃n:Nat,r=(n:Int)∧n≤l.length∧n≤most∧c.N≤10∧c.L≤4∧c.R≤3):=by
 have hFU:=FU';unfold mS
 by_cases q:(10<c.N∨4<c.L)∨3<c.R
 · rw [bt (by simp;omega)];exact ⟨_,rfl,.inl rfl⟩
 ·
  rw [bf (by simp;omega)]
  have e:(if (most:Int)<(l.length:Int) then (most:Int) else (l.length:Int))=((min most l.length:Nat):Int):=by
   split<;>omega
  rw [e,aBn rfl om,aA];obtain ⟨r,h1,h2⟩:=bQt ((min most l.length:Nat):Int) (l.take (min most l.length)) (by simp;omega) bC 0 (by simp;omega) (Nat.zero_le _);refine ⟨r,h1,h2.imp id fun h=>⟨_,h,by omega,by omega,by omega,by omega,by omega⟩⟩
theorem bPy{c:aU}(hc:aNo c){r:List bM}(h2:(r.length:Int)=c.L*c.R)(h3:hsB r=true)(h4: ∀x,x∈r→0≤x.A∧0≤x.B)(h5:r.length≤128):Rel c ⟨⟨c,r,[]⟩,List.replicate c.N.toNat ⟨false,0⟩⟩ ⟨c.N,[],[]⟩:=by
 have ok:=bMq hc h2 h3;refine ⟨ok,⟨ok.g,fun x hx=>h4 x hx,by simp,by show r.length<_;omega⟩,rfl,rfl,?_,List.Perm.refl _⟩;have:uk (List.replicate c.N.toNat (⟨false,0⟩:aN))=[]:=by unfold uk;simp
 show List.Perm [] (uk (List.replicate c.N.toNat ⟨false,0⟩));rw [this]
theorem start{c:aU}{words:List Int}(hw:W64 words)(hb:words.length≤1048576)(l:List bD){most:Nat}(hm:most≤1000): ∃r2 s w e,mS c l (most:Int)=some r2∧lL c ⟨words,0⟩=some (s,w,e)∧
 ((decide (r2<0)||(e !=0))=true∨((decide (r2<0)||(e !=0))=false∧ ∃n:Nat,r2=(n:Int)∧n≤l.length∧n≤most∧Rel c s ⟨c.N,[],[]⟩∧s.Slots.length≤10∧s.Graph.Edges=[])):=by
 obtain ⟨r2,f1,f2⟩:=bKa c l hm;obtain ⟨n1,n2⟩:=aYn (c:=c) (l:=words) om hw 0
 by_cases hc:aNo c
 ·
  obtain ⟨_,n4⟩:=n2 hc;obtain ⟨n5,n6⟩:=n4 0 rfl (Nat.zero_le _)
  cases eh:hs words (c.L*c.R).toNat 0 with
  |none=>exact ⟨r2,_,_,_,f1,n5 eh,.inl (by simp)⟩
  |some x=>
   refine ⟨r2,_,_,_,f1,n6 x.1 x.2 eh,?_⟩;rcases f2 with rfl|⟨n,rfl,q1,q2,q3,q4,q5⟩
   · exact .inl (by simp)
   · obtain ⟨k,hk,hk2⟩:=lr hc;obtain ⟨c1,c2,c3,c4⟩:=aVm words _ 0 (show hs words (c.L*c.R).toNat 0=some (x.1,x.2) from eh) (Nat.zero_le _);rw [hk,Int.toNat_natCast] at c1;refine .inr ⟨by simp,n,rfl,q1,q2,bPy hc (by rw [c1,hk]) c3 c4 om,by simp;omega,rfl⟩
 · exact ⟨r2,_,_,_,f1,n1 hc,.inl (by simp)⟩
def vs(n:Int):List Int:=(List.range n.toNat).map fun (k:Nat)=>(k:Int)
theorem bMi(n:Int):(vs n).length=n.toNat:=by simp [vs]
theorem cBb{n:Int}{i:Nat}(h:i<(vs n).length):(vs n)[i]=(i:Int):=by simp [vs]
theorem bIn(n:Int)(p:Int→Int)(v:Int):(trl n p v).Nodup:=by
 unfold trl trF;refine List.pairwise_map.2 (List.Pairwise.imp (fun {a b} h e=>h om) ((List.nodup_range' (s:=0) (n:=n.toNat-0) (step:=1) (by decide)).filter _))
def bSr(s:aC)(p:Int→Int)(u:Int):List Int:=aWo (((trl s.Graph.Config.N p u).filter (usd s.Slots)).map (kv s.Slots))
section
variable {c:aU}{s:aC}{m:aJ}(R:Rel c s m)
include R
theorem Rel.n0:0≤s.Graph.Config.N∧s.Graph.Config.N≤1024∧Rg s.Graph.Config.N s.Graph.Edges:=aIi (gok R.gd.ok).tr
theorem Rel.kfr:Rg s.Graph.Config.N (kf s.Graph):=aGv R.n0.2.2 _
theorem aYq(hS:s.Slots.length≤12)(p:Int→Int)(u:Int):mJ s (trl s.Graph.Config.N p u)=some (bSr s p u):=by
 have e:=R.ok.len;refine aL6 ?_ (fun v hv=>?_) (R.kv_nodup (fun v hv=>(aF5.1 hv).1) (bIn _ _ _))
 · have:=bEi s.Graph.Config.N.toNat 0 p (p u);unfold trl;omega
 · have:=aF5.1 hv;omega
end
def bU1(s:aC)(p:Int→Int):Nat:=(vs s.Graph.Config.N).countP fun v=>v==p v&&usd s.Slots v
section
variable {c:aU}{s:aC}{m:aJ}(R:Rel c s m)
include R
theorem aEz:mM s.Graph=some (pt s.Graph.Config.N (kf s.Graph)):=by
 rw [aFz R.gd.e R.gd.h,if_pos R.gd.ok]
variable (hS:s.Slots.length≤12)
include hS
theorem bNe{a b:Int}{i j:Nat}(hi:At s.Slots i a)(hj:At s.Slots j b)(text:ByteArray):eG s ⟨8,a,b,text⟩=some (s,GA.b 4 (decide (eT (en (kf s.Graph)) (i:Int)=eT (en (kf s.Graph)) (j:Int)))):=by
 have li:=R.lt hi;have lj:=R.lt hj;refine ans R hS (by decide) (by decide) (aO7 R hS hi) (aO7 R hS hj) rfl rfl (by rfl) ?_;unfold eK;rw [aEz R,aA,bf (by rfl),bf (by rfl),bf (by rfl),bt (by rfl),aN8 li.1 li.2,aA,aN8 lj.1 lj.2,aA];rw [show ∀x y:Int,(x==y)=decide (x=y) from fun x y=>by by_cases h:x=y<;>simp [h]]
theorem size_eq{a:Int}{i:Nat}(hi:At s.Slots i a)(b:Int)(text:ByteArray):eG s ⟨9,a,b,text⟩=some (s,GA.i 3 .i64 ((bSr s (eT (en (kf s.Graph))) (i:Int)).length:Int)):=by
 obtain ⟨vB,bB,fB⟩:=fd R om b;have li:=R.lt hi;refine ans R hS (by decide) (by decide) (aO7 R hS hi) fB rfl rfl (by rfl) ?_;unfold eK;rw [aEz R,aA,bf (by rfl),bf (by rfl),bf (by rfl),bf (by rfl),bt (by rfl),aFa R.n0.1 R.n0.2.1 R.kfr li.1 li.2,aA,aYq R hS,aA]
theorem bCd{a:Int}{i:Nat}(hi:At s.Slots i a)(b:Int)(text:ByteArray):eG s ⟨11,a,b,text⟩=some (s,GA.lu 24 (bSr s (eT (en (kf s.Graph))) (i:Int))):=by
 obtain ⟨vB,bB,fB⟩:=fd R om b;have li:=R.lt hi;refine ans R hS (by decide) (by decide) (aO7 R hS hi) fB rfl rfl (by rfl) ?_;unfold eK;rw [aEz R,aA,bf (by rfl),bf (by rfl),bf (by rfl),bf (by rfl),bf (by rfl),bf (by rfl),bt (by rfl),aFa R.n0.1 R.n0.2.1 R.kfr li.1 li.2,aA,aYq R hS,aA]
omit R hS in
theorem aTo{n:Int}(f:Int→Int)(hn:n.toNat≤1024)(hl:(s.Slots.length:Int)=n): ∀(m i k:Nat),n.toNat<i+m→i≤n.toNat→k≤i→
 kL m s (k:Int) (tab n f) ((tab n f).length:Int) (i:Int)=some (((k+((vs n).drop i).countP (fun v=>v==f v&&usd s.Slots v):Nat)):Int)
 |0,i,k,hm,hi,_=>by omega
 |m+1,i,k,hm,hi,hk=>by
  show zB (kL m) _ _ _ _ _=_;unfold zB zC;rw [lS]
  by_cases c:i<n.toNat
  ·
   have hv:i<(vs n).length:=by rw [bMi];exact c
   have hs:i<s.Slots.length:=by omega
   have eu:usd s.Slots (i:Int)=s.Slots[i].Used:=by unfold usd;rw [Int.toNat_natCast,List.getElem?_eq_getElem hs];rfl
   rw [bt (oE c),fP,aIh om,aA,cE hs,eF,aA,wr1 i om,wr1 k om,cW hv,List.countP_cons,cBb hv,eu];have:=aTo f hn hl m (i+1);rw [lS] at this
   have e:((((i:Int)==f (i:Int))&&(bif ((i:Int)==f (i:Int))==true then s.Slots[i] else (⟨false,0⟩:aN)).Used))=((i:Int)==f (i:Int)&&s.Slots[i].Used):=by
    cases (i:Int)==f (i:Int)<;>rfl
   rw [e]
   cases q:((i:Int)==f (i:Int)&&s.Slots[i].Used) with
   |true=>
    rw [bt rfl,this _ om c om,if_pos rfl];congr 2;omega
   |false=>
    rw [bf rfl,this _ om c om,if_neg (by simp)];rfl
  · rw [bf (oD c),List.drop_eq_nil_of_le (by rw [bMi];omega)];rfl
theorem bJq(a b:Int)(text:ByteArray):eG s ⟨10,a,b,text⟩=some (s,GA.i 3 .i64 ((bU1 s (eT (en (kf s.Graph))):Nat):Int)):=by
 have hFU:=FU';obtain ⟨vA,bA,fA⟩:=fd R om a;obtain ⟨vB,bB,fB⟩:=fd R om b;refine ans R hS (by decide) (by decide) fA fB rfl rfl (by rfl) ?_;unfold eK;have n0:=R.n0;have:=aTo (n:=s.Graph.Config.N) (eT (en (kf s.Graph))) om R.ok.len bC 0 0 om (Nat.zero_le _) (Nat.le_refl _);rw [show ((0:Nat):Int)=0 from rfl,List.drop_zero,Nat.zero_add] at this;rw [aEz R,aA,bf (by rfl),bf (by rfl),bf (by rfl),bf (by rfl),bf (by rfl),bt (by rfl)];unfold uX;have e:kL bC s 0 (pt s.Graph.Config.N (kf s.Graph)) ((pt s.Graph.Config.N (kf s.Graph)).length:Int) 0=some ((bU1 s (eT (en (kf s.Graph))):Nat):Int):=this;rw [e,aA]
theorem bJb(a b:Int)(text:ByteArray):eG s ⟨13,a,b,text⟩=some (s,GA.b 4 (decide (pt s.Graph.Config.N (kf s.Graph)=pt s.Graph.Config.N s.Graph.Edges))):=by
 obtain ⟨vA,bA,fA⟩:=fd R om a;obtain ⟨vB,bB,fB⟩:=fd R om b;refine ans R hS (by decide) (by decide) fA fB rfl rfl (by rfl) ?_;unfold eK;rw [aEz R,aA,bf (by rfl),bf (by rfl),bf (by rfl),bf (by rfl),bf (by rfl),bf (by rfl),bf (by rfl),bf (by rfl),bt (by rfl),aSd R.gd.e R.gd.h,aA,R.gd.ok,Bool.true_and]
end
end Go.Proofs.YtkdohhmacfoolaaGreatDoor
