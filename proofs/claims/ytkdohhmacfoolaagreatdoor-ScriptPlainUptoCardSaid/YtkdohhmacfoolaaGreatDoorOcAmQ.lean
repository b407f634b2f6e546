/- Facts. No condition. -/
import Derived.Test.YtkdohhmacfoolaaGreatDoorOcAmM
set_option linter.unusedSimpArgs false
set_option linter.unusedVariables false
set_option maxRecDepth 4000
namespace Go.AM
open Go.RowKit
attribute [local semireducible] aV KN aB7 tL AIn AWp cC
variable {P:Program}
def aEq(vs:List (Nat×Nat)):Operand→Option Nat
  | .tmp k=>vs.lookup k
  |_=>none
def aZo(vs:List (Nat×Nat))(op:Op):Option Nat:=match op with| .load _ x=>aEq vs x| .fieldAddr _ x _=>aEq vs x|_=>none
def aJx(vs:List (Nat×Nat))(op:Op):Option Nat:=match op with| .store _ a _=>aEq vs a|_=>none
def cmV(vs:List (Nat×Nat))(ops:Array Oper)(p i:Nat):Bool:=
  aHl [] ops p i||match ops[p]?,ops[i]? with
  |some op,some oi=>op.apart ops oi&&(match aZo vs op.op,aJx vs oi.op with|some a,some b=>a !=b|_,_=>false)
  |_,_=>false
def aZi(vs:List (Nat×Nat))(o:Oper):Bool:=match o.dst with|some d=>(vs.lookup d).isNone|none=>true
def IV(vs:List (Nat×Nat))(s:St):Prop:= ∀k j,vs.lookup k=some j→ ∃off,s.f k= .adr j off
theorem IV.nil{s:St} :IV [] s:=fun k j h=>by cases h
theorem IV.cons{vs:List (Nat×Nat)}{s:St}{k j off:Nat}(h:s.f k= .adr j off)(h':IV vs s):IV ((k,j)::vs) s:=fun k' j' q=>by
 rw [List.lookup_cons] at q
 by_cases c:k'=k
 · subst c;simp at q;subst q;exact ⟨off,h⟩
 ·
  have:(k'==k)=false:=by simpa using c
  rw [this] at q;exact h' k' j' q
theorem nH{vs:List (Nat×Nat)}{x:Operand}{j:Nat}(h:aEq vs x=some j): ∃k,x= .tmp k∧vs.lookup k=some j:=by
 cases x with
 |tmp k=>exact ⟨k,rfl,h⟩
 |_=>cases h
theorem aIt{ops:Array Oper}{id:Nat}{o:Oper}{s s':St}(h:cC P true ops id o s s'): ∃r,s'.f=fW s.f o.dst r:=by
 obtain ⟨hd,h⟩:=h;split at h
 · subst h;exact ⟨_,rfl⟩
 ·
  unfold wH at h;split at h
  · obtain ⟨_,_,_,r,H',_,_,_,_,_,rfl⟩:=h;exact ⟨r,rfl⟩
  · rcases h with ⟨r,_,rfl⟩|⟨r,H',_,rfl⟩|⟨r,_,_,rfl⟩<;>exact ⟨r,rfl⟩
 · exact h.elim
section
variable {vs:List (Nat×Nat)}{ops:Array Oper}
theorem IV.step(hk:(ops.all (aZi vs))=true):HI P ops (IV vs):=by
 intro C a w i id o s s' hr ho h I k j hkj;have hko:aZi vs o=true:=Array.all_eq_true_iff_forall_mem.1 hk o (Array.mem_of_getElem? ho);obtain ⟨r,h1⟩:=aIt h;obtain ⟨off,h2⟩:=I k j hkj;refine ⟨off,?_⟩;rw [h1]
 cases hd:o.dst with
 |none=>exact h2
 |some d=>
  show aF s.f d r k=_;unfold aF;split
  · rename_i q;subst q;unfold aZi at hko;rw [hd] at hko;simp only [hkj] at hko;cases hko
  · exact h2
theorem aYg{op:Op}{a:Nat}(h:aZo vs op=some a):uB op=true:=by
 unfold aZo at h;split at h<;>first|rfl|cases h
theorem aQj{op:Op}{a:Nat}(h:aJx vs op=some a):aFn op=true:=by
 unfold aJx at h;split at h<;>first|rfl|cases h
theorem IV.comm{base:Nat} :HC P ops base (cmV vs ops) (IV vs):=by
 intro C a w p i op oi s s1 s2 hr I h1 h4 hcm hne h2 h5;unfold cmV at hcm;rw [Bool.or_eq_true] at hcm;rcases hcm with hcm|hcm
 ·
  have hn: ∀s:St,NoT [] s:=fun s k hk=>by cases hk
  unfold aHl at hcm;rw [h1,h4] at hcm;simp only [Bool.or_eq_true] at hcm;rcases hcm with hcm|hcm
  ·
   unfold aDo at hcm;rw [h1,h4] at hcm;simp only [Bool.and_eq_true,Bool.or_eq_true,decide_eq_true_eq] at hcm;obtain ⟨hap,(⟨c1,c2⟩|⟨c1,c2⟩)|⟨c1,c2⟩⟩:=hcm
   · exact aFg hr h2 h5 hap c1 c2 om
   · exact mN h2 h5 hap c1 c2
   · exact mM h2 h5 hap c1 c2
  ·
   simp only [Bool.and_eq_true,Bool.or_eq_true] at hcm;obtain ⟨hap,((⟨c1,c2⟩|⟨c1,c2⟩)|⟨c1,c2⟩)|⟨c1,c2⟩⟩:=hcm
   · exact aAn h2 h5 hap c1 c2 (hn _)
   · exact aAo h2 h5 hap c1 c2 (hn _)
   · exact yI h2 h5 hap c1 c2
   · exact yJ h2 h5 hap c1 c2
 ·
  rw [h1,h4] at hcm;simp only [Bool.and_eq_true] at hcm;obtain ⟨hap,hc⟩:=hcm;split at hc
  ·
   rename_i x y c1 c2;have hxy:x≠y:=by simpa using hc
   obtain ⟨d1,d2,d3⟩:=Oper.apart_spec hap;obtain ⟨rp,e1,tp⟩:=aFd h2 (aYg c1);subst e1
   have hent:s2.H.ent x=s.H.ent x:=by
    have c2':=c2;unfold aJx at c2';split at c2'
    · rename_i t z y' ho;obtain ⟨k,rfl,hk⟩:=nH c2';obtain ⟨off,hv⟩:=I k y hk;refine aFh (s:=⟨s.n,fW s.f op.dst rp,s.H⟩) h5 ho ?_;have:aval (fW s.f op.dst rp) (.tmp k)=s.f k:=cQ d1 k (List.mem_append_left _ (List.mem_filterMap.2 ⟨.tmp k,by rw [ho];simp [Op.operands],rfl⟩));show dJ (aval (fW s.f op.dst rp) (.tmp k))≠some x;rw [this,hv];intro q;cases q;exact hxy rfl
    · cases c2'
   obtain ⟨ri,H',e2,ti⟩:=aAk h5 (aQj c2);subst e2;refine ⟨_,ti s.f (fun t ht=>cQ d1 t ht),?_⟩
   have:=tp (fW s.f oi.dst ri) H' (fun t ht=>(cQ d3 t ht).symm) fun z hz j hj hnd=>by
    have hJ:j=x:=by
     unfold aZo at c1;split at c1
     · rename_i t y' ho;obtain ⟨k,rfl,hk⟩:=nH c1;rw [ho] at hz;simp [Op.operands] at hz;subst hz;obtain ⟨off,hv⟩:=I k x hk;have e:aval s.f (.tmp k)=s.f k:=rfl;rw [e,hv] at hj;cases hj;rfl
     · rename_i t y' f ho;obtain ⟨k,rfl,hk⟩:=nH c1;rw [ho] at hz;simp [Op.operands] at hz;subst hz;obtain ⟨off,hv⟩:=I k x hk;have e:aval s.f (.tmp k)=s.f k:=rfl;rw [e,hv] at hj;cases hj;rfl
     · cases c1
    subst hJ;exact hent
   rw [←kO s.f op.dst oi.dst rp ri d2] at this;exact this
  · cases hc
end
theorem AWp.regV{B:Nat→Prop}(vs:List (Nat×Nat))(m:Nat){id:Nat}{l:List Oper}{Q:Exit→St→Prop}{n N N':Nat}{f:Nat→AV}{e:Nat→Ent}(hmix:P.follows .mixedOrders=true)(hok:bIk (cmV vs l.toArray) l.toArray=true)(hk:(l.toArray.all (aZi vs))=true)
 (h0:IV vs ⟨n,f,⟨e,N⟩⟩) (hN:N+m=N') (h:aV P true l.toArray N 0 l (KN Q N') ⟨n,f,⟨e,N⟩⟩):AWp P B (.region id l.toArray true) Q ⟨n,f,⟨e,N⟩⟩:=by
 subst hN;exact AWp.regionG (cmV vs l.toArray) (IV vs) m hmix hok (IV.step hk) IV.comm h0 h
end Go.AM
namespace Go.AM
open Go.RowKit
attribute [local semireducible] aV KN aB7 tL AIn AWp cC
variable {P:Program}
def aZp(vs ds:List (Nat×Nat))(op:Op):Option Nat:=match op with| .load _ x=>(aEq vs x).or (aEq ds x)| .fieldAddr _ x _=>aEq vs x|_=>none
def aTp(ws:List Nat)(op:Op):Bool:=match op with| .call { callee:= .builtin .append,args,.. } =>(match (args[0]? :Option Operand) with|some (Operand.tmp k)=>ws.contains k|some _=>true|none=>false)|_=>false
def cmW(vs ds:List (Nat×Nat))(ws:List Nat)(ops:Array Oper)(p i:Nat):Bool:=
  bLf [] ops p i||match ops[p]?,ops[i]? with
  |some op,some oi=>op.apart ops oi&&(match aZp vs ds op.op with|some a=>(match aJx vs oi.op with|some b=>a !=b|none=>aTp ws oi.op&&vs.any (fun q=>q.2==a))|none=>false)
  |_,_=>false
def keepW(vs ds:List (Nat×Nat))(ws:List Nat)(o:Oper):Bool:=match o.dst with
  |some d=>(vs.lookup d).isNone&&(match ds.lookup d with|some j=>(match o.op with| .fieldAddr _ x _=>aEq vs x==some j|_=>false)|none=>true)&&(!ws.contains d||(match o.op with| .move (.tmp k)=>ws.contains k|_=>false))
  |none=>true
structure IW(vs ds:List (Nat×Nat))(ws:List Nat)(s:St):Prop where
  v:IV vs s
  d: ∀k j,ds.lookup k=some j→(∃off,s.f k= .adr j off)∨s.f k= .any∨s.f k= .v undef
  w: ∀k,k∈ws→ ∀q,q∈vs→dJ (s.f k)≠some q.2
theorem aQi{ops:Array Oper}{C:Ctx}{a:Act}{w:World}{id:Nat}{o:Oper}{s s':St}(hr:Real C s a w)(h:cC P true ops id o s s')(hm:(∃t x f,o.op= .fieldAddr t x f)∨ ∃x,o.op= .move x): ∃r,s'.f=fW s.f o.dst r∧(r= .v undef∨bE P s.H (aval s.f) o.op=some r∨(dJ r=none∧ ∀x,x∈o.op.operands→aH7 (aval s.f x))):=by
 obtain ⟨hd,h⟩:=h;split at h
 · subst h;exact ⟨_,rfl,.inl rfl⟩
 ·
  unfold wH at h;split at h
  · rename_i ho;rcases hm with ⟨_,_,_,h'⟩|⟨_,h'⟩<;>rw [ho] at h'<;>cases h'
  ·
   rcases h with ⟨r,h1,rfl⟩|⟨r,H',h1,rfl⟩|⟨r,h0,h1,rfl⟩
   · exact ⟨r,rfl,.inr (.inl h1)⟩
   ·
    exfalso
    rcases hm with ⟨_,_,_,h'⟩|⟨_,h'⟩<;>rw [h'] at h1<;>simp [cW] at h1
   · exact ⟨r,rfl,.inr (.inr ⟨by rw [aIc hr h0 h1],h0⟩)⟩
 · exact h.elim
section
variable {vs ds:List (Nat×Nat)}{ws:List Nat}{ops:Array Oper}
theorem aHt{f:Nat→AV}{d k:Nat}{r:AV} :aF f d r k=if k=d then r else f k:=rfl
theorem IW.step(hk:(ops.all (keepW vs ds ws))=true):HI P ops (IW vs ds ws):=by
 intro C a w i id o s s' hr ho h I;have hko:keepW vs ds ws o=true:=Array.all_eq_true_iff_forall_mem.1 hk o (Array.mem_of_getElem? ho)
 have hv:IV vs s':=by
  intro k j hkj;obtain ⟨r,h1⟩:=aIt h;obtain ⟨off,h2⟩:=I.v k j hkj;refine ⟨off,?_⟩;rw [h1]
  cases hd:o.dst with
  |none=>exact h2
  |some d=>
   show aF s.f d r k=_;rw [aHt];split
   · rename_i q;subst q;unfold keepW at hko;rw [hd] at hko;simp only [hkj,Option.isNone_some,Bool.false_and,Bool.false_eq_true] at hko
   · exact h2
 refine ⟨hv,fun k j hkj=>?_,fun k hkw q hq=>?_⟩
 ·
  obtain ⟨r,h1⟩:=aIt h
  cases hd:o.dst with
  |none=>rw [h1,hd];exact I.d k j hkj
  |some d=>
   by_cases c:k=d
   ·
    subst c;unfold keepW at hko;rw [hd] at hko;simp only [Bool.and_eq_true] at hko;have h3:=hko.1.2;rw [hkj] at h3;simp only [] at h3;split at h3
    ·
     rename_i t x f hop;have hx:aEq vs x=some j:=by simpa using h3
     obtain ⟨k',rfl,hk'⟩:=nH hx;obtain ⟨off,hval⟩:=I.v k' j hk';obtain ⟨r',e1,e2⟩:=aQi hr h (.inl ⟨_,_,_,hop⟩);rw [e1,hd];show (∃off,aF s.f k r' k= .adr j off)∨aF s.f k r' k= .any∨aF s.f k r' k= .v undef;rw [aHt,if_pos rfl];rcases e2 with e2|e2|e2
     · exact .inr (.inr e2)
     ·
      left;rw [hop] at e2;simp only [bE] at e2;split at e2
      ·
       have e:aval s.f (.tmp k')= .adr j off:=hval;rw [e] at e2;unfold aN at e2
       repeat' split at e2
       all_goals first|(cases e2;done)|(rename_i hq;cases hq;done)|(cases e2;rename_i hq;injection hq with hq _;exact ⟨_,by rw [hq]⟩)|(cases e2;exact ⟨_,rfl⟩)
      · cases e2
     · exact (aN8 hr (x:= .tmp k') hval (e2.2 _ (by rw [hop];simp [Op.operands]))).elim
    · cases h3
   · rw [h1,hd];show (∃off,aF s.f d r k=_)∨aF s.f d r k=_∨aF s.f d r k=_;rw [aHt,if_neg c];exact I.d k j hkj
 ·
  obtain ⟨r,h1⟩:=aIt h
  cases hd:o.dst with
  |none=>rw [h1,hd];exact I.w k hkw q hq
  |some d=>
   by_cases c:k=d
   ·
    subst c;unfold keepW at hko;rw [hd] at hko;simp only [Bool.and_eq_true] at hko;have h3:=hko.2;have hc:ws.contains k=true:=by simpa using hkw
    rw [hc] at h3;simp only [Bool.not_true,Bool.false_or] at h3;split at h3
    ·
     rename_i k' hop;have hk':k'∈ws:=by simpa using h3
     obtain ⟨r',e1,e2⟩:=aQi hr h (.inr ⟨_,hop⟩);rw [e1,hd];show dJ (aF s.f k r' k)≠_;rw [aHt,if_pos rfl];rcases e2 with e2|e2|e2
     · rw [e2];intro z;cases z
     · rw [hop] at e2;simp only [bE] at e2;cases e2;exact I.w k' hk' q hq
     · rw [e2.1];intro z;cases z
    · cases h3
   · rw [h1,hd];show dJ (aF s.f d r k)≠_;rw [aHt,if_neg c];exact I.w k hkw q hq
theorem aYh{op:Op}{a:Nat}(h:aZp vs ds op=some a):uB op=true:=by
 unfold aZp at h;split at h<;>first|rfl|cases h
theorem bAi{op:Op}(h:aTp ws op=true):aH9 op=true:=by
 unfold aTp at h;split at h
 · rfl
 · cases h
theorem aQx{H:aG}{id:Nat}{ts tx:TypeId}{s x r:AV}{H':aG}(h:rU P H id ts tx s x=some (r,H'))(j:Nat)(hj:dJ s≠some j)(hf:H.isFresh j=false):H'.ent j=H.ent j:=by
 rcases aK2 h j with q|q|⟨rfl,q⟩
 · exact q
 ·
  
  by_cases hd:H.ent j= .dead
  · rw [q,hd]
  exfalso
  unfold rU at h;split at h
  ·
   split at h
   ·
    split at h
    ·
     split at h
     ·
      rename_i hc;cases h
      by_cases c:j=id
      · subst c;rw [hc.1] at hf;cases hf
      · have e: ∀e:Ent,(H.put id e).ent j=H.ent j:=fun e=>upd_ne _ _ _ _ c;rw [e] at q;exact hd q
     · cases h
    · cases h
   ·
    split at h
    ·
     split at h
     ·
      split at h
      ·
       rename_i old len lock oid new n hb hsrc hc;cases h
       by_cases c:j=id
       · subst c;rw [hc.1] at hf;cases hf
       ·
        have e: ∀(G:aG) (e:Ent),(G.put id e).ent j=G.ent j:=fun G e=>upd_ne _ _ _ _ c;rw [e] at q
        cases oid with
        |none=>exact hd q
        |some k=>
         simp only [] at q
         by_cases hk:j=k
         ·
          subst hk;unfold aPi at hb
          repeat' split at hb
          all_goals first|(cases hb;done)|(simp only [Option.some.injEq,Prod.mk.injEq] at hb;obtain ⟨_,_,_,hb⟩:=hb;first|(cases hb;done)|(exact hj (by rw [←hb];rfl)))
         · rw [show (H.put k .dead).ent j=H.ent j from upd_ne _ _ _ _ hk] at q;exact hd q
      · cases h
     · cases h
    · cases h
  · cases h
 · rw [q] at hf;cases hf
theorem bE9{id:Nat}{o:Oper}{s s':St}(h:cC P true ops id o s s')(hs:aTp ws o.op=true)(j:Nat)(hw: ∀k,k∈ws→Operand.tmp k∈o.op.operands→dJ (s.f k)≠some j)(hf:s.H.isFresh j=false):s'.H.ent j=s.H.ent j:=by
 obtain ⟨hd,h⟩:=h;split at h
 · subst h;rfl
 ·
  unfold wH at h;split at h
  · rename_i f args ats ho;rw [ho] at hs;cases hs
  ·
   rename_i op hne;rcases h with ⟨r,h1,rfl⟩|⟨r,H',h1,rfl⟩|⟨r,h0,h1,rfl⟩
   · rfl
   ·
    unfold aTp at hs;split at hs
    ·
     rename_i args ats ho;rw [ho] at h1;simp only [cW] at h1;split at h1
     ·
      rename_i x y tx ty e1 e2;refine aQx h1 j ?_ hf;have e3:args[0]? =some x:=by rw [←Array.getElem?_toList,e1];rfl
      rw [e3] at hs
      cases x with
      |tmp k=>exact hw k (by simpa using hs) (by rw [ho];have:=Array.mem_of_getElem? e3;simpa [Op.operands,Call.operands] using this)
      |const c=>
       show dJ (constAV c)≠_;cases c<;>(intro z;cases z)
      |global g=>intro z;cases z
      |func f=>intro z;cases z
     · cases h1
    · cases hs
   · rfl
 · exact h.elim
theorem IW.comm{base:Nat} :HC P ops base (cmW vs ds ws ops) (IW vs ds ws):=by
 intro C a w p i op oi s s1 s2 hr I h1 h4 hcm hne h2 h5;unfold cmW at hcm;rw [Bool.or_eq_true] at hcm;rcases hcm with hcm|hcm
 ·
  unfold bLf at hcm;rw [Bool.or_eq_true] at hcm;rcases hcm with hcm|hcm
  · exact IV.comm (vs:=vs) hr I.v h1 h4 (by unfold cmV;rw [hcm];rfl) hne h2 h5
  · rw [h1,h4] at hcm;simp only [Bool.and_eq_true] at hcm;exact aOn hr h2 h5 hcm.1.1 hcm.1.2 hcm.2
 ·
  rw [h1,h4] at hcm;simp only [Bool.and_eq_true] at hcm;obtain ⟨hap,hc⟩:=hcm;split at hc
  ·
   rename_i x c1;obtain ⟨d1,d2,d3⟩:=Oper.apart_spec hap;obtain ⟨rp,e1,tp⟩:=aFd h2 (aYh c1);subst e1
   have root: ∀z,z∈op.op.operands→ ∀j,dJ (aval s.f z)=some j→j=x:=fun z hz j hj=>by
    unfold aZp at c1;split at c1
    ·
     rename_i t y' ho;rw [ho] at hz;simp [Op.operands] at hz;subst hz
     cases hv:aEq vs z with
     |some b=>
      rw [hv] at c1;have:b=x:=by simpa using c1
      subst this;obtain ⟨k,rfl,hk⟩:=nH hv;obtain ⟨off,hval⟩:=I.v k b hk;have e:aval s.f (.tmp k)=s.f k:=rfl;rw [e,hval] at hj;cases hj;rfl
     |none=>
      rw [hv] at c1;have hd:aEq ds z=some x:=by simpa using c1
      obtain ⟨k,rfl,hk⟩:=nH hd;have e:aval s.f (.tmp k)=s.f k:=rfl;rw [e] at hj;rcases I.d k x hk with ⟨off,q⟩|q|q
      · rw [q] at hj;cases hj;rfl
      · rw [q] at hj;cases hj
      · rw [q] at hj;cases hj
    · rename_i t y' f ho;rw [ho] at hz;simp [Op.operands] at hz;subst hz;obtain ⟨k,rfl,hk⟩:=nH c1;obtain ⟨off,hval⟩:=I.v k x hk;have e:aval s.f (.tmp k)=s.f k:=rfl;rw [e,hval] at hj;cases hj;rfl
    · cases c1
   have finish:((∃z,z∈op.op.operands∧dJ (aval s.f z)=some x)→s2.H.ent x=s.H.ent x)→(aFn oi.op=true)→ ∃t,cC P true ops (base+i) oi s t∧cC P true ops (base+p) op t s2:=fun hent hwr=>by
    obtain ⟨ri,H',e2,ti⟩:=aAk h5 hwr;subst e2;refine ⟨_,ti s.f (fun t ht=>cQ d1 t ht),?_⟩
    have:=tp (fW s.f oi.dst ri) H' (fun t ht=>(cQ d3 t ht).symm) fun z hz j hj hnd=>by
     have hJ:=root z hz j hj;subst hJ;exact hent ⟨z,hz,hj⟩
    rw [←kO s.f op.dst oi.dst rp ri d2] at this;exact this
   have same: ∀k,(Operand.tmp k)∈oi.op.operands→aval (fW s.f op.dst rp) (.tmp k)=s.f k:=fun k hk=>cQ d1 k (List.mem_append_left _ (List.mem_filterMap.2 ⟨.tmp k,by simpa using hk,rfl⟩));split at hc
   ·
    rename_i y c2;have hxy:x≠y:=by simpa using hc
    refine finish (fun _=>?_) (aQj c2);have c2':=c2;unfold aJx at c2';split at c2'
    · rename_i t z y' ho;obtain ⟨k,rfl,hk⟩:=nH c2';obtain ⟨off,hval⟩:=I.v k y hk;refine aFh (s:=⟨s.n,fW s.f op.dst rp,s.H⟩) h5 ho ?_;show dJ (aval (fW s.f op.dst rp) (.tmp k))≠some x;rw [same k (by rw [ho];simp [Op.operands]),hval];intro q;cases q;exact hxy rfl
    · cases c2'
   ·
    simp only [Bool.and_eq_true] at hc;obtain ⟨hb,hany⟩:=hc;obtain ⟨q,hq,hqx⟩:=List.any_eq_true.1 hany;have hqx':q.2=x:=by simpa using hqx
    refine finish (fun ⟨z,hz,hzx⟩=>?_) (bEa (bAi hb));have hnf:=hr.notFresh hzx
    refine bE9 (s:=⟨s.n,fW s.f op.dst rp,s.H⟩) h5 hb x (fun k hk hkop=>?_) (by
     cases c:s.H.isFresh x with
     |false=>rfl
     |true=>exact absurd (aG.isFresh_eq c) hnf)
    show dJ (fW s.f op.dst rp k)≠some x;have:fW s.f op.dst rp k=s.f k:=same k hkop;rw [this,←hqx'];exact I.w k hk q hq
  · cases hc
end
end Go.AM
