/- Facts. No condition. -/
import Derived.Test.YtkdohhmacfoolaaGreatNqAmL
set_option linter.unusedSimpArgs false
set_option linter.unusedVariables false
set_option maxRecDepth 4000
namespace Go.AM
open Go.RowKit
attribute [local semireducible] aI KN aGl aAr AIn AWp gJ
variable {P:Program}
def bQw(cm:Nat→Nat→Bool)(ops:Array Oper):Bool:=
  (List.range ops.size).all fun i=>
    ((ops[i]?).map (·.after.all fun e=> !Region.binds .any e||decide (e.on<i))).getD false&&
    (List.range i).all fun p=>((aF8 [] ops.toList).getD i 0).testBit p||cm p i
abbrev HI(P:Program)(ops:Array Oper)(I:St→Prop):Prop:= ∀ {C:Ctx} {a:Act} {w:World} {i id:Nat} {o:Oper} {s s':St},Real C s a w→ops[i]? =some o→gJ P true ops id o s s'→I s→I s'
abbrev HC(P:Program)(ops:Array Oper)(base:Nat)(cm:Nat→Nat→Bool)(I:St→Prop):Prop:= ∀ {C:Ctx} {a:Act} {w:World} {p i:Nat} {op oi:Oper} {s s1 s2:St},Real C s a w→I s→ops[p]? =some op→ops[i]? =some oi→cm p i=true→p≠i→
    gJ P true ops (base+p) op s s1→gJ P true ops (base+i) oi s1 s2→ ∃t,gJ P true ops (base+i) oi s t∧gJ P true ops (base+p) op t s2
theorem aNd{C:Ctx}{ops:Array Oper}{base:Nat}(cm:Nat→Nat→Bool)(I:St→Prop)(hI:HI P ops I)(hC:HC P ops base cm I): ∀(L1:List Nat) (i:Nat) (L2:List Nat) (s sf:St) (a:Act) (w:World),Real C s a w→I s→(∀p,p∈L1→cm p i=true∧p≠i)→
 aJk P ops base (L1++i::L2) s sf→ ∃o t,ops[i]? =some o∧gJ P true ops (base+i) o s t∧aJk P ops base (L1++L2) t sf
 |[],i,L2,s,sf,a,w,_,_,_,h=>h
 |p::L1,i,L2,s,sf,a,w,hr,hn,hc,h=>by
  obtain ⟨op,s1,h1,h2,h3⟩:=h;obtain ⟨a1,w1,hr1⟩:=aPy h2 hr;have hn1:=hI hr h1 h2 hn;obtain ⟨oi,t1,h4,h5,h6⟩:=aNd cm I hI hC L1 i L2 s1 sf a1 w1 hr1 hn1 (fun q hq=>hc q (by simp [hq])) h3;obtain ⟨hcm,hne⟩:=hc p (by simp);obtain ⟨t,h7,h8⟩:=hC hr hn h1 h4 hcm hne h2 h5;exact ⟨oi,t,h4,h7,op,t1,h1,h8,h6⟩
section
variable {ops:Array Oper}
theorem aRn{cm:Nat→Nat→Bool}(hok:bQw cm ops=true){listed:Array Bool}
 (hclosed: ∀k o,ops[k]? =some o→listed.getD k false=true→ ∀e,e∈o.after→Region.binds .any e=true→listed.getD e.on false=true):
 ∀(i:Nat) (o:Oper),ops[i]? =some o→(∀e,e∈o.after→Region.binds .any e=true→listed.getD e.on false=true)→
 ∀p,((aF8 [] ops.toList).getD i 0).testBit p=true→listed.getD p false=true:=by
 intro i
 induction i using Nat.strongRecOn with
 |_ i ih=>
  intro o ho hall p hp;obtain ⟨acc',h1,h2⟩:=aNz ops.toList [] i o (by simpa using ho);simp only [List.length_nil,Nat.zero_add] at h1 h2;rw [h1] at hp;obtain ⟨e,he,hb,h3⟩:=aMk hp;have hon:=hall e he hb;rcases h3 with rfl|h3
  · exact hon
  ·
   have hlt:i<ops.size:=(Array.getElem?_eq_some_iff.1 ho).1
   have hei:e.on<i:=by
    have:=List.all_eq_true.1 hok i (by simpa using hlt);simp only [Bool.and_eq_true,ho,Option.map_some,Option.getD_some] at this;have:=Array.all_eq_true_iff_forall_mem.1 this.1 e he
    simpa [hb] using this
   obtain ⟨oe,hoe⟩: ∃oe,ops[e.on]? =some oe:=⟨ops[e.on]'(by omega),by simp [show e.on<ops.size by omega]⟩
   rw [h2 _ hei] at h3;exact ih e.on hei oe hoe (fun e' he' hb'=>hclosed e.on oe hoe hon e' he' hb') p h3
theorem bAe{C:Ctx}{base:Nat}{Q:Exit→Act→World→Prop}(cm:Nat→Nat→Bool)(I:St→Prop)(hok:bQw cm ops=true)(hI:HI P ops I)(hC:HC P ops base cm I): ∀(fuel:Nat) (L:List Nat) (listed:Array Bool) (s sf:St) (a:Act) (w:World),
 L.length=fuel→L.Pairwise (· < ·)→listed.size=ops.size→(∀i,i<ops.size→(listed.getD i false=true↔i∉L))→(∀i,i∈L→i<ops.size)→
 (∀k o,ops[k]? =some o→listed.getD k false=true→ ∀e,e∈o.after→Region.binds .any e=true→listed.getD e.on false=true)→
 aJk P ops base L s sf→I s→Real C s a w→(∀a' w',Real C sf a' w'→Q .normal a' w')→wpAny P .any ops Q fuel listed a w:=by
 intro fuel
 have hdep: ∀i o,ops[i]? =some o→ ∀e,e∈o.after→Region.binds .any e=true→e.on<i:=by
  intro i o ho e he hb;have hlt:i<ops.size:=(Array.getElem?_eq_some_iff.1 ho).1;have:=List.all_eq_true.1 hok i (by simpa using hlt);simp only [Bool.and_eq_true,ho,Option.map_some,Option.getD_some] at this;have:=Array.all_eq_true_iff_forall_mem.1 this.1 e he
  simpa [hb] using this
 have getDt: ∀(listed:Array Bool) (i:Nat),listed.size=ops.size→i<ops.size→listed.getD i true=listed.getD i false:=by
  intro listed i hs hi;simp [hs,hi]
 induction fuel with
 |zero=>
  intro L listed s sf a w hL _ hsz hl hlt hcl hch hno hr hQ;have:L=[]:=List.eq_nil_of_length_eq_zero hL;subst this;have:s=sf:=hch;subst this;refine ⟨?_,hQ a w hr⟩
  cases hrd:Region.ready .any ops listed with
  |nil=>rfl
  |cons x xs=>
   have hx:x∈Region.ready .any ops listed:=by rw [hrd];simp
   obtain ⟨h1,o,h2,_⟩:=mem_ready.1 hx;have hxs:x<ops.size:=(Array.getElem?_eq_some_iff.1 h2).1;rw [getDt listed x hsz hxs] at h1;have:=(hl x hxs).2 (by simp);rw [h1] at this;cases this
 |succ fuel ih=>
  intro L listed s sf a w hL hsort hsz hl hlt hcl hch hno hr hQ;refine ⟨fun hempty=>?_,fun i hi=>?_⟩
  ·
   
   exfalso
   match L,hL with
   |x::L',_=>
    have hxs:x<ops.size:=hlt x (by simp);obtain ⟨o,ho⟩: ∃o,ops[x]? =some o:=⟨ops[x],by simp [hxs]⟩
    have:x∈Region.ready .any ops listed:=by
     refine mem_ready.2 ⟨?_,o,ho,fun e he hb=>?_⟩
     ·
      rw [getDt listed x hsz hxs]
      cases hv:listed.getD x false with
      |false=>rfl
      |true=>exact absurd (by simp) ((hl x hxs).1 hv)
     ·
      have hex:=hdep x o ho e he hb;refine (hl e.on om).2 (fun hm=>?_);rcases List.mem_cons.1 hm with h|h
      · omega
      · have:=List.rel_of_pairwise_cons hsort h;omega
    rw [hempty] at this;cases this
  ·
   obtain ⟨h1,oi,hoi,hall⟩:=mem_ready.1 hi;have his:i<ops.size:=(Array.getElem?_eq_some_iff.1 hoi).1;rw [getDt listed i hsz his] at h1
   have hiL:i∈L:=by
    rcases Classical.em (i∈L) with h|h
    · exact h
    · have:=(hl i his).2 h;rw [h1] at this;cases this
   obtain ⟨L1,L2,rfl⟩:=List.append_of_mem hiL;have hp:=List.pairwise_append.1 hsort
   have hpre: ∀p,p∈L1→cm p i=true∧p≠i:=by
    intro p hpm;have hpi:p<i:=hp.2.2 p hpm i (by simp);refine ⟨?_,by omega⟩;have:=List.all_eq_true.1 hok i (by simpa using his);simp only [Bool.and_eq_true] at this;have:=List.all_eq_true.1 this.2 p (by simpa using hpi);simp only [Bool.or_eq_true] at this;rcases this with h|h
    ·
     exfalso
     have:=aRn hok hcl i oi hoi hall p h;exact ((hl p om).1 this) (by simp [hpm])
    · exact h
   obtain ⟨o,t,h2,h3,h4⟩:=aNd cm I hI hC L1 i L2 s sf a w hr hno hpre hch;rw [hoi] at h2;cases h2
   have hst:=aCm (Q:=Q) h3 hr (K:=wpAny P .any ops Q fuel (listed.setIfInBounds i true)) (fun a' w' hr'=>by
    refine ih (L1++L2) (listed.setIfInBounds i true) t sf a' w' (by simp at hL ⊢; omega) ?_ (by simpa using hsz) (fun j hj=>?_) (fun j hj=>hlt j (by simp at hj ⊢; rcases hj with h|h<;>simp [h])) ?_ h4 (hI hr hoi h3 hno) hr' hQ
    · refine List.pairwise_append.2 ⟨hp.1,(List.pairwise_cons.1 hp.2.1).2,fun x hx y hy=>hp.2.2 x hx y (by simp [hy])⟩
    ·
     have hnd:i∉L1++L2:=by
      intro hm;rcases List.mem_append.1 hm with h|h
      · have:=hp.2.2 i h i (by simp);omega
      · have:=(List.pairwise_cons.1 hp.2.1).1 i h;omega
     by_cases hji:j=i
     ·
      subst hji;simp [hsz,his]
      simpa using hnd
     · have e:(listed.setIfInBounds i true).getD j false=listed.getD j false:=getD_set_ne false (Ne.symm hji);rw [e,hl j hj];simp [hji]
    ·
     intro k o hk hkl e he hb
     by_cases hki:k=i
     · subst hki;rw [hoi] at hk;cases hk;exact getD_set_true (hall e he hb)
     · rw [getD_set_ne false (Ne.symm hki)] at hkl;exact getD_set_true (hcl k o hk hkl e he hb))
   unfold wpOp;simp only [hoi];split at hst
   · rename_i hw;simp only [hw,if_true];exact .inl hst
   · rename_i hw;simp only [hw];exact hst
end
theorem AWp.regionG{B:Nat→Prop}(cm:Nat→Nat→Bool)(I:St→Prop)(m:Nat){id:Nat}{l:List Oper}{Q:Exit→St→Prop}{n N:Nat}{f:Nat→AV}{e:Nat→Ent}(hmix:P.follows .mixedOrders=true)(hok:bQw cm l.toArray=true)(hI:HI P l.toArray I)(hC:HC P l.toArray N cm I)(hno:I ⟨n,f,⟨e,N⟩⟩)
 (h:aI P true l.toArray N 0 l (fun s'=>Q .normal ⟨s'.n,s'.f,⟨s'.H.ent,N+m⟩⟩) ⟨n,f,⟨e,N⟩⟩):AWp P B (.region id l.toArray true) Q ⟨n,f,⟨e,N⟩⟩:=by
 intro C a w _ hr;refine wp_region_any hmix ?_;obtain ⟨sf,h1,h2⟩:=aE6 l 0 _ (fun j=>by simp) h
 have hr':Real C ⟨n,f,⟨e,N⟩⟩ a { w with drawn:=w.drawn+1 } :=by
  obtain ⟨hd,O,hs,hv,ht⟩:=hr;obtain ⟨h3,h4⟩:=hs.same (w':= { w with drawn:=w.drawn+1 }) rfl rfl rfl rfl;exact ⟨hd,O,h3,hv.mono h4,ht.trans h4⟩
 refine bAe cm I hok hI hC l.toArray.size (List.range' 0 l.length) _ _ sf a _ (by simp) List.pairwise_lt_range' (by simp) (fun i hi=>?_) (fun i hi=>by simp at hi ⊢; omega) (fun k o hk hkl=>?_) h1 hno hr' (fun a' w' hr''=>⟨_,hr''.nxt _,h2⟩)
 · simp at hi;simp [hi]
 ·
  have:(Array.replicate l.toArray.size false).getD k false=false:=by
   simp only [Array.getD_eq_getD_getElem?,Array.getElem?_replicate];split<;>rfl
  rw [this] at hkl;cases hkl
structure IJ(T0 T1 U:List Nat)(J:Nat)(E:Ent)(s:St):Prop where
  t0: ∀k,k∈T0→ ∃off,s.f k= .adr J off
  t1: ∀k,k∈T1→(∃off,s.f k= .adr J off)∨s.f k= .any∨s.f k= .v undef
  u: ∀k,k∈U→mW (s.f k)≠some J
  e:s.H.ent J=E
theorem bM0{ops:Array Oper}{id:Nat}{o:Oper}{s s':St}{t:TypeId}{x y:Operand}{J:Nat}(h:gJ P true ops id o s s')(ho:o.op= .store t x y)(hx:mW (aval s.f x)≠some J):s'.H.ent J=s.H.ent J:=by
 obtain ⟨hd,h⟩:=h;split at h
 · subst h;rfl
 ·
  unfold aHn at h;split at h
  · rename_i f args ats ho';rw [ho] at ho';cases ho'
  ·
   rename_i op hne;rcases h with ⟨r,h1,rfl⟩|⟨r,H',h1,rfl⟩|⟨r,h0,h1,rfl⟩
   · rfl
   ·
    rw [ho] at h1;simp only [kO] at h1;split at h1
    ·
     rename_i j off cs ha hc;split at h1
     ·
      split at h1
      · cases h1;refine upd_ne _ _ _ _ fun q=>hx ?_;rw [ha,q];rfl
      · cases h1
     · cases h1
    · cases h1
   · rfl
 · exact h.elim
section
variable {T0 T1 U:List Nat}{J:Nat}{E:Ent}{ops:Array Oper}
end
end Go.AM
