/- Facts. No condition. -/
import Derived.Test.YtkdohhmacfoolaaGreatDoorOcAmL
set_option linter.unusedSimpArgs false
set_option linter.unusedVariables false
set_option maxRecDepth 4000
namespace Go.AM
open Go.RowKit
attribute [local semireducible] aV KN aB7 tL AIn AWp cC
variable {P:Program}
def bIk(cm:Nat→Nat→Bool)(ops:Array Oper):Bool:=
  (List.range ops.size).all fun i=>
    ((ops[i]?).map (·.after.all fun e=> !Region.binds .any e||decide (e.on<i))).getD false&&
    (List.range i).all fun p=>((yV [] ops.toList).getD i 0).testBit p||cm p i
abbrev HI(P:Program)(ops:Array Oper)(I:St→Prop):Prop:= ∀ {C:Ctx} {a:Act} {w:World} {i id:Nat} {o:Oper} {s s':St},Real C s a w→ops[i]? =some o→cC P true ops id o s s'→I s→I s'
abbrev HC(P:Program)(ops:Array Oper)(base:Nat)(cm:Nat→Nat→Bool)(I:St→Prop):Prop:= ∀ {C:Ctx} {a:Act} {w:World} {p i:Nat} {op oi:Oper} {s s1 s2:St},Real C s a w→I s→ops[p]? =some op→ops[i]? =some oi→cm p i=true→p≠i→
    cC P true ops (base+p) op s s1→cC P true ops (base+i) oi s1 s2→ ∃t,cC P true ops (base+i) oi s t∧cC P true ops (base+p) op t s2
theorem aHi{C:Ctx}{ops:Array Oper}{base:Nat}(cm:Nat→Nat→Bool)(I:St→Prop)(hI:HI P ops I)(hC:HC P ops base cm I): ∀(L1:List Nat) (i:Nat) (L2:List Nat) (s sf:St) (a:Act) (w:World),Real C s a w→I s→(∀p,p∈L1→cm p i=true∧p≠i)→
 aDj P ops base (L1++i::L2) s sf→ ∃o t,ops[i]? =some o∧cC P true ops (base+i) o s t∧aDj P ops base (L1++L2) t sf
 |[],i,L2,s,sf,a,w,_,_,_,h=>h
 |p::L1,i,L2,s,sf,a,w,hr,hn,hc,h=>by
  obtain ⟨op,s1,h1,h2,h3⟩:=h;obtain ⟨a1,w1,hr1⟩:=aJw h2 hr;have hn1:=hI hr h1 h2 hn;obtain ⟨oi,t1,h4,h5,h6⟩:=aHi cm I hI hC L1 i L2 s1 sf a1 w1 hr1 hn1 (fun q hq=>hc q (by simp [hq])) h3;obtain ⟨hcm,hne⟩:=hc p (by simp);obtain ⟨t,h7,h8⟩:=hC hr hn h1 h4 hcm hne h2 h5;exact ⟨oi,t,h4,h7,op,t1,h1,h8,h6⟩
section
variable {ops:Array Oper}
theorem aLd{cm:Nat→Nat→Bool}(hok:bIk cm ops=true){listed:Array Bool}
 (hclosed: ∀k o,ops[k]? =some o→listed.getD k false=true→ ∀e,e∈o.after→Region.binds .any e=true→listed.getD e.on false=true):
 ∀(i:Nat) (o:Oper),ops[i]? =some o→(∀e,e∈o.after→Region.binds .any e=true→listed.getD e.on false=true)→
 ∀p,((yV [] ops.toList).getD i 0).testBit p=true→listed.getD p false=true:=by
 intro i
 induction i using Nat.strongRecOn with
 |_ i ih=>
  intro o ho hall p hp;obtain ⟨acc',h1,h2⟩:=aI5 ops.toList [] i o (by simpa using ho);simp only [List.length_nil,Nat.zero_add] at h1 h2;rw [h1] at hp;obtain ⟨e,he,hb,h3⟩:=aGl hp;have hon:=hall e he hb;rcases h3 with rfl|h3
  · exact hon
  ·
   have hlt:i<ops.size:=(Array.getElem?_eq_some_iff.1 ho).1
   have hei:e.on<i:=by
    have:=List.all_eq_true.1 hok i (by simpa using hlt);simp only [Bool.and_eq_true,ho,Option.map_some,Option.getD_some] at this;have:=Array.all_eq_true_iff_forall_mem.1 this.1 e he
    simpa [hb] using this
   obtain ⟨oe,hoe⟩: ∃oe,ops[e.on]? =some oe:=⟨ops[e.on]'(by omega),by simp [show e.on<ops.size by omega]⟩
   rw [h2 _ hei] at h3;exact ih e.on hei oe hoe (fun e' he' hb'=>hclosed e.on oe hoe hon e' he' hb') p h3
theorem aU5{C:Ctx}{base:Nat}{Q:Exit→Act→World→Prop}(cm:Nat→Nat→Bool)(I:St→Prop)(hok:bIk cm ops=true)(hI:HI P ops I)(hC:HC P ops base cm I): ∀(fuel:Nat) (L:List Nat) (listed:Array Bool) (s sf:St) (a:Act) (w:World),
 L.length=fuel→L.Pairwise (· < ·)→listed.size=ops.size→(∀i,i<ops.size→(listed.getD i false=true↔i∉L))→(∀i,i∈L→i<ops.size)→
 (∀k o,ops[k]? =some o→listed.getD k false=true→ ∀e,e∈o.after→Region.binds .any e=true→listed.getD e.on false=true)→
 aDj P ops base L s sf→I s→Real C s a w→(∀a' w',Real C sf a' w'→Q .normal a' w')→wpAny P .any ops Q fuel listed a w:=by
 intro fuel
 have hdep: ∀i o,ops[i]? =some o→ ∀e,e∈o.after→Region.binds .any e=true→e.on<i:=by
  intro i o ho e he hb;have hlt:i<ops.size:=(Array.getElem?_eq_some_iff.1 ho).1;have:=List.all_eq_true.1 hok i (by simpa using hlt);simp only [Bool.and_eq_true,ho,Option.map_some,Option.getD_some] at this;have:=Array.all_eq_true_iff_forall_mem.1 this.1 e he
  simpa [hb] using this
 have getDt: ∀(listed:Array Bool) (i:Nat),listed.size=ops.size→i<ops.size→listed.getD i true=listed.getD i false:=by
  intro listed i hs hi;simp [hs,hi]
 induction fuel with
 |zero=>
  intro L listed s sf a w hL _ hsz hl hlt hcl hch hno hr hQ;have:L=[]:=List.eq_nil_of_length_eq_zero hL;subst this;have:s=sf:=hch;subst this;refine ⟨?_,hQ a w hr⟩
  cases hrd:Region.ready .any ops listed with
  |nil=>rfl
  |cons x xs=>
   have hx:x∈Region.ready .any ops listed:=by rw [hrd];simp
   obtain ⟨h1,o,h2,_⟩:=mem_ready.1 hx;have hxs:x<ops.size:=(Array.getElem?_eq_some_iff.1 h2).1;rw [getDt listed x hsz hxs] at h1;have:=(hl x hxs).2 (by simp);rw [h1] at this;cases this
 |succ fuel ih=>
  intro L listed s sf a w hL hsort hsz hl hlt hcl hch hno hr hQ;refine ⟨fun hempty=>?_,fun i hi=>?_⟩
  ·
   
   exfalso
   match L,hL with
   |x::L',_=>
    have hxs:x<ops.size:=hlt x (by simp);obtain ⟨o,ho⟩: ∃o,ops[x]? =some o:=⟨ops[x],by simp [hxs]⟩
    have:x∈Region.ready .any ops listed:=by
     refine mem_ready.2 ⟨?_,o,ho,fun e he hb=>?_⟩
     ·
      rw [getDt listed x hsz hxs]
      cases hv:listed.getD x false with
      |false=>rfl
      |true=>exact absurd (by simp) ((hl x hxs).1 hv)
     ·
      have hex:=hdep x o ho e he hb;refine (hl e.on om).2 (fun hm=>?_);rcases List.mem_cons.1 hm with h|h
      · omega
      · have:=List.rel_of_pairwise_cons hsort h;omega
    rw [hempty] at this;cases this
  ·
   obtain ⟨h1,oi,hoi,hall⟩:=mem_ready.1 hi;have his:i<ops.size:=(Array.getElem?_eq_some_iff.1 hoi).1;rw [getDt listed i hsz his] at h1
   have hiL:i∈L:=by
    rcases Classical.em (i∈L) with h|h
    · exact h
    · have:=(hl i his).2 h;rw [h1] at this;cases this
   obtain ⟨L1,L2,rfl⟩:=List.append_of_mem hiL;have hp:=List.pairwise_append.1 hsort
   have hpre: ∀p,p∈L1→cm p i=true∧p≠i:=by
    intro p hpm;have hpi:p<i:=hp.2.2 p hpm i (by simp);refine ⟨?_,by omega⟩;have:=List.all_eq_true.1 hok i (by simpa using his);simp only [Bool.and_eq_true] at this;have:=List.all_eq_true.1 this.2 p (by simpa using hpi);simp only [Bool.or_eq_true] at this;rcases this with h|h
    ·
     exfalso
     have:=aLd hok hcl i oi hoi hall p h;exact ((hl p om).1 this) (by simp [hpm])
    · exact h
   obtain ⟨o,t,h2,h3,h4⟩:=aHi cm I hI hC L1 i L2 s sf a w hr hno hpre hch;rw [hoi] at h2;cases h2
   have hst:=uG (Q:=Q) h3 hr (K:=wpAny P .any ops Q fuel (listed.setIfInBounds i true)) (fun a' w' hr'=>by
    refine ih (L1++L2) (listed.setIfInBounds i true) t sf a' w' (by simp at hL ⊢; omega) ?_ (by simpa using hsz) (fun j hj=>?_) (fun j hj=>hlt j (by simp at hj ⊢; rcases hj with h|h<;>simp [h])) ?_ h4 (hI hr hoi h3 hno) hr' hQ
    · refine List.pairwise_append.2 ⟨hp.1,(List.pairwise_cons.1 hp.2.1).2,fun x hx y hy=>hp.2.2 x hx y (by simp [hy])⟩
    ·
     have hnd:i∉L1++L2:=by
      intro hm;rcases List.mem_append.1 hm with h|h
      · have:=hp.2.2 i h i (by simp);omega
      · have:=(List.pairwise_cons.1 hp.2.1).1 i h;omega
     by_cases hji:j=i
     ·
      subst hji;simp [hsz,his]
      simpa using hnd
     · have e:(listed.setIfInBounds i true).getD j false=listed.getD j false:=getD_set_ne false (Ne.symm hji);rw [e,hl j hj];simp [hji]
    ·
     intro k o hk hkl e he hb
     by_cases hki:k=i
     · subst hki;rw [hoi] at hk;cases hk;exact getD_set_true (hall e he hb)
     · rw [getD_set_ne false (Ne.symm hki)] at hkl;exact getD_set_true (hcl k o hk hkl e he hb))
   unfold wpOp;simp only [hoi];split at hst
   · rename_i hw;simp only [hw,if_true];exact .inl hst
   · rename_i hw;simp only [hw];exact hst
end
theorem AWp.regionG{B:Nat→Prop}(cm:Nat→Nat→Bool)(I:St→Prop)(m:Nat){id:Nat}{l:List Oper}{Q:Exit→St→Prop}{n N:Nat}{f:Nat→AV}{e:Nat→Ent}(hmix:P.follows .mixedOrders=true)(hok:bIk cm l.toArray=true)(hI:HI P l.toArray I)(hC:HC P l.toArray N cm I)(hno:I ⟨n,f,⟨e,N⟩⟩)
 (h:aV P true l.toArray N 0 l (fun s'=>Q .normal ⟨s'.n,s'.f,⟨s'.H.ent,N+m⟩⟩) ⟨n,f,⟨e,N⟩⟩):AWp P B (.region id l.toArray true) Q ⟨n,f,⟨e,N⟩⟩:=by
 intro C a w _ hr;refine wp_region_any hmix ?_;obtain ⟨sf,h1,h2⟩:=wK l 0 _ (fun j=>by simp) h
 have hr':Real C ⟨n,f,⟨e,N⟩⟩ a { w with drawn:=w.drawn+1 } :=by
  obtain ⟨hd,O,hs,hv,ht⟩:=hr;obtain ⟨h3,h4⟩:=hs.same (w':= { w with drawn:=w.drawn+1 }) rfl rfl rfl rfl;exact ⟨hd,O,h3,hv.mono h4,ht.trans h4⟩
 refine aU5 cm I hok hI hC l.toArray.size (List.range' 0 l.length) _ _ sf a _ (by simp) List.pairwise_lt_range' (by simp) (fun i hi=>?_) (fun i hi=>by simp at hi ⊢; omega) (fun k o hk hkl=>?_) h1 hno hr' (fun a' w' hr''=>⟨_,hr''.nxt _,h2⟩)
 · simp at hi;simp [hi]
 ·
  have:(Array.replicate l.toArray.size false).getD k false=false:=by
   simp only [Array.getD_eq_getD_getElem?,Array.getElem?_replicate];split<;>rfl
  rw [this] at hkl;cases hkl
def aG3(T:List Nat):Operand→Bool
  | .tmp k=>T.contains k
  |_=>false
def aZh(T0 T1:List Nat)(op:Op):Bool:=match op with| .fieldAddr _ x _=>aG3 T0 x| .load _ x=>aG3 T1 x|_=>false
def aS0(U:List Nat)(op:Op):Bool:=match op with| .store _ a _=>aG3 U a|_=>false
def cmJ(T0 T1 U:List Nat)(ops:Array Oper)(p i:Nat):Bool:=
  aHl [] ops p i||match ops[p]?,ops[i]? with
  |some op,some oi=>op.apart ops oi&&aZh T0 T1 op.op&&aS0 U oi.op
  |_,_=>false
def bFu(T0 T1 U:List Nat)(o:Oper):Bool:=
  (match o.op with| .store _ a _=>aG3 U a| .fieldAddr .. | .load .. | .move _| .indexAddr .. | .binOp .. =>true|_=>false)&&
  (match o.dst with
  |some d=> !T0.contains d&&(!T1.contains d||(match o.op with| .fieldAddr _ x _=>aG3 T0 x|_=>false))&&(!U.contains d||(match o.op with| .load _ x=>aG3 T1 x| .fieldAddr _ x _=>aG3 U x| .indexAddr _ x _=>aG3 U x|_=>false))
  |none=>true)
structure IJ(T0 T1 U:List Nat)(J:Nat)(E:Ent)(s:St):Prop where
  t0: ∀k,k∈T0→ ∃off,s.f k= .adr J off
  t1: ∀k,k∈T1→(∃off,s.f k= .adr J off)∨s.f k= .any∨s.f k= .v undef
  u: ∀k,k∈U→dJ (s.f k)≠some J
  e:s.H.ent J=E
theorem tE{T:List Nat}{x:Operand}(h:aG3 T x=true): ∃k,k∈T∧x= .tmp k:=by
 cases x with
 |tmp k=>exact ⟨k,by simpa [aG3] using h,rfl⟩
 |_=>cases h
theorem aN8{C:Ctx}{s:St}{a:Act}{w:World}(hr:Real C s a w){x:Operand}{J off:Nat}(hx:aval s.f x= .adr J off)(h:aH7 (aval s.f x)):False:=by
 obtain ⟨hd,O,hs,hv,ht⟩:=hr;have h3:=h _ _ _ _ (hv.aval x);rw [hx] at h3;generalize a.eval x=v at h3;exact match h3 with| .adrdead _ _ _ h _=>nomatch h| .adr _ _ _ h=>nomatch h
theorem aWb{t:TypeId}{xs:List AV}{r:AV}{J:Nat}(h:aB9 P t xs=some r)(hx: ∀x,x∈xs→dJ x≠some J):dJ r≠some J:=by
 unfold aB9 at h
 repeat' split at h
 all_goals first
  |(cases h;done)
  |(cases h;intro q;cases q)
  |(exact hx r (List.mem_of_getElem? h))
  |(exact hx r (List.mem_of_mem_head? h))
  |(cases h;exact hx _ (by simp))
theorem aFh{ops:Array Oper}{id:Nat}{o:Oper}{s s':St}{t:TypeId}{x y:Operand}{J:Nat}(h:cC P true ops id o s s')(ho:o.op= .store t x y)(hx:dJ (aval s.f x)≠some J):s'.H.ent J=s.H.ent J:=by
 obtain ⟨hd,h⟩:=h;split at h
 · subst h;rfl
 ·
  unfold wH at h;split at h
  · rename_i f args ats ho';rw [ho] at ho';cases ho'
  ·
   rename_i op hne;rcases h with ⟨r,h1,rfl⟩|⟨r,H',h1,rfl⟩|⟨r,h0,h1,rfl⟩
   · rfl
   ·
    rw [ho] at h1;simp only [cW] at h1;split at h1
    ·
     rename_i j off cs ha hc;split at h1
     ·
      split at h1
      · cases h1;refine upd_ne _ _ _ _ fun q=>hx ?_;rw [ha,q];rfl
      · cases h1
     · cases h1
    · cases h1
   · rfl
 · exact h.elim
section
variable {T0 T1 U:List Nat}{J:Nat}{E:Ent}{ops:Array Oper}
theorem IJ.step(hk:(ops.all (bFu T0 T1 U))=true)(hE: ∀sz xs lock,E= .cells sz xs lock→ ∀x,x∈xs→dJ x≠some J):HI P ops (IJ T0 T1 U J E):=by
 intro C a w i id o s s' hr ho h I;have hko:bFu T0 T1 U o=true:=Array.all_eq_true_iff_forall_mem.1 hk o (Array.mem_of_getElem? ho);unfold bFu at hko;rw [Bool.and_eq_true] at hko;obtain ⟨hk1,hk2⟩:=hko
 have hent:s'.H.ent J=E:=by
  rw [←I.e]
  by_cases hs: ∃t x y,o.op= .store t x y
  · obtain ⟨t,x,y,ho'⟩:=hs;rw [ho'] at hk1;obtain ⟨k,hk,rfl⟩:=tE hk1;exact aFh h ho' (I.u k hk)
  ·
   obtain ⟨hd,h⟩:=h;split at h
   · subst h;rfl
   ·
    unfold wH at h;split at h
    · rename_i f args ats ho';rw [ho'] at hk1;cases hk1
    ·
     rcases h with ⟨r,h1,rfl⟩|⟨r,H',h1,rfl⟩|⟨r,h0,h1,rfl⟩
     · rfl
     ·
      exfalso
      cases hop:o.op<;>rw [hop] at hk1 h1<;>first|(cases hk1;done)|(simp [cW] at h1;done)|exact hs ⟨_,_,_,hop⟩
     · rfl
   · exact h.elim
 have hput: ∃r,s'.f=fW s.f o.dst r∧(∀d,o.dst=some d→d∈T1→(∃off,r= .adr J off)∨r= .any∨r= .v undef)∧(∀d,o.dst=some d→d∈U→dJ r≠some J):=by
  obtain ⟨hd,h⟩:=h;split at h
  · subst h;exact ⟨_,rfl,fun _ _ _=> .inr (.inr rfl),fun _ _ _ q=>by cases q⟩
  ·
   unfold wH at h;split at h
   · rename_i f args ats ho';rw [ho'] at hk1;cases hk1
   ·
    rcases h with ⟨r,h1,rfl⟩|⟨r,H',h1,rfl⟩|⟨r,h0,h1,rfl⟩
    ·
     refine ⟨r,rfl,fun d hd hT=>?_,fun d hd hU=>?_⟩
     ·
      simp only [hd] at hk2;have:T1.contains d=true:=by simpa using hT
      rw [this] at hk2;simp only [Bool.not_true,Bool.false_or,Bool.and_eq_true] at hk2;have hk3:=hk2.1.2;split at hk3
      ·
       rename_i t x f ho';obtain ⟨k,hk,rfl⟩:=tE hk3;obtain ⟨off,hv⟩:=I.t0 k hk;rw [ho'] at h1;simp only [bE] at h1;split at h1
       ·
        have e:aval s.f (.tmp k)= .adr J off:=hv;rw [e] at h1;unfold aN at h1
        repeat' split at h1
        all_goals first|(cases h1;done)|(rename_i hq;cases hq;done)|(cases h1;rename_i hq;injection hq with hq _;exact .inl ⟨_,by rw [hq]⟩)|(cases h1;exact .inl ⟨_,rfl⟩)
       · cases h1
      · cases hk3
     ·
      simp only [hd] at hk2;have:U.contains d=true:=by simpa using hU
      rw [this] at hk2;simp only [Bool.not_true,Bool.false_or,Bool.and_eq_true] at hk2;have hk3:=hk2.2;split at hk3
      ·
       rename_i t x ho';obtain ⟨k,hk,rfl⟩:=tE hk3;rw [ho'] at h1;simp only [bE] at h1;have e:aval s.f (.tmp k)=s.f k:=rfl;rw [e] at h1;rcases I.t1 k hk with ⟨off,q⟩|q|q
       ·
        rw [q] at h1;simp only [cE] at h1;rw [I.e] at h1;split at h1
        · exact aWb h1 fun x hx=>hE _ _ _ rfl x (List.mem_of_mem_drop hx)
        · cases h1
       · rw [q] at h1;cases h1
       · rw [q] at h1;cases h1
      ·
       rename_i t x f ho';obtain ⟨k,hk,rfl⟩:=tE hk3;have hu:=I.u k hk;rw [ho'] at h1;simp only [bE] at h1;split at h1
       ·
        have e:aval s.f (.tmp k)=s.f k:=rfl;rw [e] at h1;unfold aN at h1
        repeat' split at h1
        all_goals first|(cases h1;done)|(cases h1;intro q;cases q;done)|(cases h1;rename_i hq;rw [hq] at hu;exact hu)
       · cases h1
      ·
       rename_i t x y ho';obtain ⟨k,hk,rfl⟩:=tE hk3;have hu:=I.u k hk;rw [ho'] at h1;simp only [bE] at h1;split at h1
       ·
        have e:aval s.f (.tmp k)=s.f k:=rfl;rw [e] at h1;unfold jK at h1
        repeat' split at h1
        all_goals first|(cases h1;done)|(cases h1;intro q;cases q;done)|(cases h1;simp_all [dJ])
       · cases h1
      · cases hk3
    ·
     refine ⟨r,rfl,fun d hd hT=>?_,fun d hd hU=>?_⟩<;>exfalso
     ·
      simp only [hd] at hk2;have:T1.contains d=true:=by simpa using hT
      rw [this] at hk2;simp only [Bool.not_true,Bool.false_or,Bool.and_eq_true] at hk2;have hk3:=hk2.1.2;split at hk3
      · rename_i ho';rw [ho'] at h1;simp [cW] at h1
      · cases hk3
     ·
      simp only [hd] at hk2;have:U.contains d=true:=by simpa using hU
      rw [this] at hk2;simp only [Bool.not_true,Bool.false_or,Bool.and_eq_true] at hk2;have hk3:=hk2.2;split at hk3<;>first|(rename_i ho';rw [ho'] at h1;simp [cW] at h1;done)|cases hk3
    ·
     refine ⟨r,rfl,fun d hd hT=>?_,fun d hd hU=>?_⟩
     ·
      exfalso
      simp only [hd] at hk2;have:T1.contains d=true:=by simpa using hT
      rw [this] at hk2;simp only [Bool.not_true,Bool.false_or,Bool.and_eq_true] at hk2;have hk3:=hk2.1.2;split at hk3
      · rename_i t x f ho';obtain ⟨k,hk,rfl⟩:=tE hk3;obtain ⟨off,hv⟩:=I.t0 k hk;exact aN8 hr (x:= .tmp k) hv (h0 _ (by rw [ho'];simp [Op.operands]))
      · cases hk3
     · rw [aIc hr h0 h1];intro q;cases q
  · exact h.elim
 obtain ⟨r,h1,h2,h3⟩:=hput;refine ⟨fun k hkT=>?_,fun k hkT=>?_,fun k hkU=>?_,hent⟩
 ·
  rw [h1]
  cases hd:o.dst with
  |none=>exact I.t0 k hkT
  |some d=>
   have hne:d≠k:=fun q=>by
    subst q;simp only [hd,Bool.and_eq_true,Bool.not_eq_true'] at hk2;have:T0.contains d=true:=by simpa using hkT
    rw [hk2.1.1] at this;cases this
   show ∃off,aF s.f d r k= .adr J off;unfold aF;split
   · rename_i q;exact absurd q.symm hne
   · exact I.t0 k hkT
 ·
  rw [h1]
  cases hd:o.dst with
  |none=>exact I.t1 k hkT
  |some d=>
   show (∃off,aF s.f d r k= .adr J off)∨aF s.f d r k= .any∨aF s.f d r k= .v undef;unfold aF;split
   · rename_i q;subst q;exact h2 _ hd hkT
   · exact I.t1 k hkT
 ·
  rw [h1]
  cases hd:o.dst with
  |none=>exact I.u k hkU
  |some d=>
   show dJ (aF s.f d r k)≠some J;unfold aF;split
   · rename_i q;subst q;exact h3 _ hd hkU
   · exact I.u k hkU
theorem aY2{op:Op}(h:aZh T0 T1 op=true):uB op=true:=by
 unfold aZh at h;split at h<;>first|rfl|cases h
theorem bCz{op:Op}(h:aS0 U op=true):aFn op=true:=by
 unfold aS0 at h;split at h<;>first|rfl|cases h
theorem IJ.comm{base:Nat} :HC P ops base (cmJ T0 T1 U ops) (IJ T0 T1 U J E):=by
 intro C a w p i op oi s s1 s2 hr I h1 h4 hcm hne h2 h5;unfold cmJ at hcm;rw [Bool.or_eq_true] at hcm;rcases hcm with hcm|hcm
 ·
  have hn: ∀s:St,NoT [] s:=fun s k hk=>by cases hk
  unfold aHl at hcm;rw [h1,h4] at hcm;simp only [Bool.or_eq_true] at hcm;rcases hcm with hcm|hcm
  ·
   unfold aDo at hcm;rw [h1,h4] at hcm;simp only [Bool.and_eq_true,Bool.or_eq_true,decide_eq_true_eq] at hcm;obtain ⟨hap,(⟨c1,c2⟩|⟨c1,c2⟩)|⟨c1,c2⟩⟩:=hcm
   · exact aFg hr h2 h5 hap c1 c2 om
   · exact mN h2 h5 hap c1 c2
   · exact mM h2 h5 hap c1 c2
  ·
   simp only [Bool.and_eq_true,Bool.or_eq_true] at hcm;obtain ⟨hap,((⟨c1,c2⟩|⟨c1,c2⟩)|⟨c1,c2⟩)|⟨c1,c2⟩⟩:=hcm
   · exact aAn h2 h5 hap c1 c2 (hn _)
   · exact aAo h2 h5 hap c1 c2 (hn _)
   · exact yI h2 h5 hap c1 c2
   · exact yJ h2 h5 hap c1 c2
 ·
  rw [h1,h4] at hcm;simp only [Bool.and_eq_true] at hcm;obtain ⟨⟨hap,c1⟩,c2⟩:=hcm;obtain ⟨d1,d2,d3⟩:=Oper.apart_spec hap;obtain ⟨rp,e1,tp⟩:=aFd h2 (aY2 c1);subst e1
  have hent:s2.H.ent J=s.H.ent J:=by
   unfold aS0 at c2;split at c2
   · rename_i t x y ho;obtain ⟨k,hk,rfl⟩:=tE c2;refine aFh (s:=⟨s.n,fW s.f op.dst rp,s.H⟩) h5 ho ?_;have:aval (fW s.f op.dst rp) (.tmp k)=s.f k:=cQ d1 k (List.mem_append_left _ (List.mem_filterMap.2 ⟨.tmp k,by rw [ho];simp [Op.operands],rfl⟩));show dJ (aval (fW s.f op.dst rp) (.tmp k))≠some J;rw [this];exact I.u k hk
   · cases c2
  obtain ⟨ri,H',e2,ti⟩:=aAk h5 (bCz c2);subst e2;refine ⟨_,ti s.f (fun t ht=>cQ d1 t ht),?_⟩
  have:=tp (fW s.f oi.dst ri) H' (fun t ht=>(cQ d3 t ht).symm) fun x hx j hj hnd=>by
   have hJ:j=J:=by
    unfold aZh at c1;split at c1
    · rename_i t y f ho;obtain ⟨k,hk,rfl⟩:=tE c1;rw [ho] at hx;simp [Op.operands] at hx;subst hx;obtain ⟨off,hv⟩:=I.t0 k hk;have e:aval s.f (.tmp k)=s.f k:=rfl;rw [e,hv] at hj;cases hj;rfl
    ·
     rename_i t y ho;obtain ⟨k,hk,rfl⟩:=tE c1;rw [ho] at hx;simp [Op.operands] at hx;subst hx;have e:aval s.f (.tmp k)=s.f k:=rfl;rw [e] at hj;rcases I.t1 k hk with ⟨off,q⟩|q|q
     · rw [q] at hj;cases hj;rfl
     · rw [q] at hj;cases hj
     · rw [q] at hj;cases hj
    · cases c1
   subst hJ;exact hent
  rw [←kO s.f op.dst oi.dst rp ri d2] at this;exact this
end
end Go.AM
