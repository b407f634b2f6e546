/- Facts. No condition. -/
import Derived.Test.YtkdohhmacfoolaaGreatDoorOaAmP
import Derived.Lib.SlBytesConst
import Derived.Test.YtkdohhmacfoolaaGreatDoorOaGL1
set_option linter.unusedSimpArgs false
set_option linter.unusedVariables false
set_option maxRecDepth 4000
namespace Go.AM
open Go.RowKit
attribute [local semireducible] aR KN aA3 rL AIn AWp bR
variable {P:Program}
def aWr(vs ds:List (Nat×Nat))(op:Op):Option Nat:=match op with| .load _ x=>(aDc vs x).or (aDc ds x)| .fieldAddr _ x _=>aDc vs x|_=>none
def aRg(ws:List Nat)(op:Op):Bool:=match op with| .call { callee:= .builtin .append,args,.. } =>(match (args[0]? :Option Operand) with|some (Operand.tmp k)=>ws.contains k|some _=>true|none=>false)|_=>false
def cmW(vs ds:List (Nat×Nat))(ws:List Nat)(ops:Array Oper)(p i:Nat):Bool:=
  bH4 [] ops p i||match ops[p]?,ops[i]? with
  |some op,some oi=>op.apart ops oi&&(match aWr vs ds op.op with|some a=>(match aIo vs oi.op with|some b=>a !=b|none=>aRg ws oi.op&&vs.any (fun q=>q.2==a))|none=>false)
  |_,_=>false
def keepW(vs ds:List (Nat×Nat))(ws:List Nat)(o:Oper):Bool:=match o.dst with
  |some d=>(vs.lookup d).isNone&&(match ds.lookup d with|some j=>(match o.op with| .fieldAddr _ x _=>aDc vs x==some j|_=>false)|none=>true)&&(!ws.contains d||(match o.op with| .move (.tmp k)=>ws.contains k|_=>false))
  |none=>true
structure IW(vs ds:List (Nat×Nat))(ws:List Nat)(s:St):Prop where
  v:IV vs s
  d: ∀k j,ds.lookup k=some j→(∃off,s.f k= .adr j off)∨s.f k= .any∨s.f k= .v undef
  w: ∀k,k∈ws→ ∀q,q∈vs→cW (s.f k)≠some q.2
theorem aOl{ops:Array Oper}{C:Ctx}{a:Act}{w:World}{id:Nat}{o:Oper}{s s':St}(hr:Real C s a w)(h:bR P true ops id o s s')(hm:(∃t x f,o.op= .fieldAddr t x f)∨ ∃x,o.op= .move x): ∃r,s'.f=eR s.f o.dst r∧(r= .v undef∨aX P s.H (aval s.f) o.op=some r∨(cW r=none∧ ∀x,x∈o.op.operands→aG3 (aval s.f x))):=by
 obtain ⟨hd,h⟩:=h;split at h
 · subst h;exact ⟨_,rfl,.inl rfl⟩
 ·
  unfold tY at h;split at h
  · rename_i ho;rcases hm with ⟨_,_,_,h'⟩|⟨_,h'⟩<;>rw [ho] at h'<;>cases h'
  ·
   rcases h with ⟨r,h1,rfl⟩|⟨r,H',h1,rfl⟩|⟨r,h0,h1,rfl⟩
   · exact ⟨r,rfl,.inr (.inl h1)⟩
   ·
    exfalso
    rcases hm with ⟨_,_,_,h'⟩|⟨_,h'⟩<;>rw [h'] at h1<;>simp [cL] at h1
   · exact ⟨r,rfl,.inr (.inr ⟨by rw [aH0 hr h0 h1],h0⟩)⟩
 · exact h.elim
section
variable {vs ds:List (Nat×Nat)}{ws:List Nat}{ops:Array Oper}
theorem aGn{f:Nat→AV}{d k:Nat}{r:AV} :aD f d r k=if k=d then r else f k:=rfl
theorem IW.step(hk:(ops.all (keepW vs ds ws))=true):HI P ops (IW vs ds ws):=by
 intro C a w i id o s s' hr ho h I;have hko:keepW vs ds ws o=true:=Array.all_eq_true_iff_forall_mem.1 hk o (Array.mem_of_getElem? ho)
 have hv:IV vs s':=by
  intro k j hkj;obtain ⟨r,h1⟩:=aHj h;obtain ⟨off,h2⟩:=I.v k j hkj;refine ⟨off,?_⟩;rw [h1]
  cases hd:o.dst with
  |none=>exact h2
  |some d=>
   show aD s.f d r k=_;rw [aGn];split
   · rename_i q;subst q;unfold keepW at hko;rw [hd] at hko;simp only [hkj,Option.isNone_some,Bool.false_and,Bool.false_eq_true] at hko
   · exact h2
 refine ⟨hv,fun k j hkj=>?_,fun k hkw q hq=>?_⟩
 ·
  obtain ⟨r,h1⟩:=aHj h
  cases hd:o.dst with
  |none=>rw [h1,hd];exact I.d k j hkj
  |some d=>
   by_cases c:k=d
   ·
    subst c;unfold keepW at hko;rw [hd] at hko;simp only [Bool.and_eq_true] at hko;have h3:=hko.1.2;rw [hkj] at h3;simp only [] at h3;split at h3
    ·
     rename_i t x f hop;have hx:aDc vs x=some j:=by simpa using h3
     obtain ⟨k',rfl,hk'⟩:=mC hx;obtain ⟨off,hval⟩:=I.v k' j hk';obtain ⟨r',e1,e2⟩:=aOl hr h (.inl ⟨_,_,_,hop⟩);rw [e1,hd];show (∃off,aD s.f k r' k= .adr j off)∨aD s.f k r' k= .any∨aD s.f k r' k= .v undef;rw [aGn,if_pos rfl];rcases e2 with e2|e2|e2
     · exact .inr (.inr e2)
     ·
      left;rw [hop] at e2;simp only [aX] at e2;split at e2
      ·
       have e:aval s.f (.tmp k')= .adr j off:=hval;rw [e] at e2;unfold aJ at e2
       repeat' split at e2
       all_goals first|(cases e2;done)|(rename_i hq;cases hq;done)|(cases e2;rename_i hq;injection hq with hq _;exact ⟨_,by rw [hq]⟩)|(cases e2;exact ⟨_,rfl⟩)
      · cases e2
     · exact (aLp hr (x:= .tmp k') hval (e2.2 _ (by rw [hop];simp [Op.operands]))).elim
    · cases h3
   · rw [h1,hd];show (∃off,aD s.f d r k=_)∨aD s.f d r k=_∨aD s.f d r k=_;rw [aGn,if_neg c];exact I.d k j hkj
 ·
  obtain ⟨r,h1⟩:=aHj h
  cases hd:o.dst with
  |none=>rw [h1,hd];exact I.w k hkw q hq
  |some d=>
   by_cases c:k=d
   ·
    subst c;unfold keepW at hko;rw [hd] at hko;simp only [Bool.and_eq_true] at hko;have h3:=hko.2;have hc:ws.contains k=true:=by simpa using hkw
    rw [hc] at h3;simp only [Bool.not_true,Bool.false_or] at h3;split at h3
    ·
     rename_i k' hop;have hk':k'∈ws:=by simpa using h3
     obtain ⟨r',e1,e2⟩:=aOl hr h (.inr ⟨_,hop⟩);rw [e1,hd];show cW (aD s.f k r' k)≠_;rw [aGn,if_pos rfl];rcases e2 with e2|e2|e2
     · rw [e2];intro z;cases z
     · rw [hop] at e2;simp only [aX] at e2;cases e2;exact I.w k' hk' q hq
     · rw [e2.1];intro z;cases z
    · cases h3
   · rw [h1,hd];show cW (aD s.f d r k)≠_;rw [aGn,if_neg c];exact I.w k hkw q hq
theorem aVm{op:Op}{a:Nat}(h:aWr vs ds op=some a):rY op=true:=by
 unfold aWr at h;split at h<;>first|rfl|cases h
theorem aXe{op:Op}(h:aRg ws op=true):aG5 op=true:=by
 unfold aRg at h;split at h
 · rfl
 · cases h
theorem aOy{H:aG}{id:Nat}{ts tx:TypeId}{s x r:AV}{H':aG}(h:qG P H id ts tx s x=some (r,H'))(j:Nat)(hj:cW s≠some j)(hf:H.isFresh j=false):H'.ent j=H.ent j:=by
 rcases aIq h j with q|q|⟨rfl,q⟩
 · exact q
 ·
  
  by_cases hd:H.ent j= .dead
  · rw [q,hd]
  exfalso
  unfold qG at h;split at h
  ·
   split at h
   ·
    split at h
    ·
     split at h
     ·
      rename_i hc;cases h
      by_cases c:j=id
      · subst c;rw [hc.1] at hf;cases hf
      · have e: ∀e:Ent,(H.put id e).ent j=H.ent j:=fun e=>upd_ne _ _ _ _ c;rw [e] at q;exact hd q
     · cases h
    · cases h
   ·
    split at h
    ·
     split at h
     ·
      split at h
      ·
       rename_i old len lock oid new n hb hsrc hc;cases h
       by_cases c:j=id
       · subst c;rw [hc.1] at hf;cases hf
       ·
        have e: ∀(G:aG) (e:Ent),(G.put id e).ent j=G.ent j:=fun G e=>upd_ne _ _ _ _ c;rw [e] at q
        cases oid with
        |none=>exact hd q
        |some k=>
         simp only [] at q
         by_cases hk:j=k
         ·
          subst hk;unfold aNs at hb
          repeat' split at hb
          all_goals first|(cases hb;done)|(simp only [Option.some.injEq,Prod.mk.injEq] at hb;obtain ⟨_,_,_,hb⟩:=hb;first|(cases hb;done)|(exact hj (by rw [←hb];rfl)))
         · rw [show (H.put k .dead).ent j=H.ent j from upd_ne _ _ _ _ hk] at q;exact hd q
      · cases h
     · cases h
    · cases h
  · cases h
 · rw [q] at hf;cases hf
theorem bAw{id:Nat}{o:Oper}{s s':St}(h:bR P true ops id o s s')(hs:aRg ws o.op=true)(j:Nat)(hw: ∀k,k∈ws→Operand.tmp k∈o.op.operands→cW (s.f k)≠some j)(hf:s.H.isFresh j=false):s'.H.ent j=s.H.ent j:=by
 obtain ⟨hd,h⟩:=h;split at h
 · subst h;rfl
 ·
  unfold tY at h;split at h
  · rename_i f args ats ho;rw [ho] at hs;cases hs
  ·
   rename_i op hne;rcases h with ⟨r,h1,rfl⟩|⟨r,H',h1,rfl⟩|⟨r,h0,h1,rfl⟩
   · rfl
   ·
    unfold aRg at hs;split at hs
    ·
     rename_i args ats ho;rw [ho] at h1;simp only [cL] at h1;split at h1
     ·
      rename_i x y tx ty e1 e2;refine aOy h1 j ?_ hf;have e3:args[0]? =some x:=by rw [←Array.getElem?_toList,e1];rfl
      rw [e3] at hs
      cases x with
      |tmp k=>exact hw k (by simpa using hs) (by rw [ho];have:=Array.mem_of_getElem? e3;simpa [Op.operands,Call.operands] using this)
      |const c=>
       show cW (constAV c)≠_;cases c<;>(intro z;cases z)
      |global g=>intro z;cases z
      |func f=>intro z;cases z
     · cases h1
    · cases hs
   · rfl
 · exact h.elim
theorem IW.comm{base:Nat} :HC P ops base (cmW vs ds ws ops) (IW vs ds ws):=by
 intro C a w p i op oi s s1 s2 hr I h1 h4 hcm hne h2 h5;unfold cmW at hcm;rw [Bool.or_eq_true] at hcm;rcases hcm with hcm|hcm
 ·
  unfold bH4 at hcm;rw [Bool.or_eq_true] at hcm;rcases hcm with hcm|hcm
  · exact IV.comm (vs:=vs) hr I.v h1 h4 (by unfold cmV;rw [hcm];rfl) hne h2 h5
  · rw [h1,h4] at hcm;simp only [Bool.and_eq_true] at hcm;exact aMy hr h2 h5 hcm.1.1 hcm.1.2 hcm.2
 ·
  rw [h1,h4] at hcm;simp only [Bool.and_eq_true] at hcm;obtain ⟨hap,hc⟩:=hcm;split at hc
  ·
   rename_i x c1;obtain ⟨d1,d2,d3⟩:=Oper.apart_spec hap;obtain ⟨rp,e1,tp⟩:=aE0 h2 (aVm c1);subst e1
   have root: ∀z,z∈op.op.operands→ ∀j,cW (aval s.f z)=some j→j=x:=fun z hz j hj=>by
    unfold aWr at c1;split at c1
    ·
     rename_i t y' ho;rw [ho] at hz;simp [Op.operands] at hz;subst hz
     cases hv:aDc vs z with
     |some b=>
      rw [hv] at c1;have:b=x:=by simpa using c1
      subst this;obtain ⟨k,rfl,hk⟩:=mC hv;obtain ⟨off,hval⟩:=I.v k b hk;have e:aval s.f (.tmp k)=s.f k:=rfl;rw [e,hval] at hj;cases hj;rfl
     |none=>
      rw [hv] at c1;have hd:aDc ds z=some x:=by simpa using c1
      obtain ⟨k,rfl,hk⟩:=mC hd;have e:aval s.f (.tmp k)=s.f k:=rfl;rw [e] at hj;rcases I.d k x hk with ⟨off,q⟩|q|q
      · rw [q] at hj;cases hj;rfl
      · rw [q] at hj;cases hj
      · rw [q] at hj;cases hj
    · rename_i t y' f ho;rw [ho] at hz;simp [Op.operands] at hz;subst hz;obtain ⟨k,rfl,hk⟩:=mC c1;obtain ⟨off,hval⟩:=I.v k x hk;have e:aval s.f (.tmp k)=s.f k:=rfl;rw [e,hval] at hj;cases hj;rfl
    · cases c1
   have finish:((∃z,z∈op.op.operands∧cW (aval s.f z)=some x)→s2.H.ent x=s.H.ent x)→(aE9 oi.op=true)→ ∃t,bR P true ops (base+i) oi s t∧bR P true ops (base+p) op t s2:=fun hent hwr=>by
    obtain ⟨ri,H',e2,ti⟩:=yW h5 hwr;subst e2;refine ⟨_,ti s.f (fun t ht=>cG d1 t ht),?_⟩
    have:=tp (eR s.f oi.dst ri) H' (fun t ht=>(cG d3 t ht).symm) fun z hz j hj hnd=>by
     have hJ:=root z hz j hj;subst hJ;exact hent ⟨z,hz,hj⟩
    rw [←jI s.f op.dst oi.dst rp ri d2] at this;exact this
   have same: ∀k,(Operand.tmp k)∈oi.op.operands→aval (eR s.f op.dst rp) (.tmp k)=s.f k:=fun k hk=>cG d1 k (List.mem_append_left _ (List.mem_filterMap.2 ⟨.tmp k,by simpa using hk,rfl⟩));split at hc
   ·
    rename_i y c2;have hxy:x≠y:=by simpa using hc
    refine finish (fun _=>?_) (aOm c2);have c2':=c2;unfold aIo at c2';split at c2'
    · rename_i t z y' ho;obtain ⟨k,rfl,hk⟩:=mC c2';obtain ⟨off,hval⟩:=I.v k y hk;refine aE3 (s:=⟨s.n,eR s.f op.dst rp,s.H⟩) h5 ho ?_;show cW (aval (eR s.f op.dst rp) (.tmp k))≠some x;rw [same k (by rw [ho];simp [Op.operands]),hval];intro q;cases q;exact hxy rfl
    · cases c2'
   ·
    simp only [Bool.and_eq_true] at hc;obtain ⟨hb,hany⟩:=hc;obtain ⟨q,hq,hqx⟩:=List.any_eq_true.1 hany;have hqx':q.2=x:=by simpa using hqx
    refine finish (fun ⟨z,hz,hzx⟩=>?_) (bAx (aXe hb));have hnf:=hr.notFresh hzx
    refine bAw (s:=⟨s.n,eR s.f op.dst rp,s.H⟩) h5 hb x (fun k hk hkop=>?_) (by
     cases c:s.H.isFresh x with
     |false=>rfl
     |true=>exact absurd (aG.isFresh_eq c) hnf)
    show cW (eR s.f op.dst rp k)≠some x;have:eR s.f op.dst rp k=s.f k:=same k hkop;rw [this,←hqx'];exact I.w k hk q hq
  · cases hc
end
end Go.AM
namespace Go.AM
open Go Go.RowKit
attribute [local semireducible] aR KN aA3 rL AIn AWp bR
variable {P:Program}{B:Nat→Prop}
theorem St.Le.virt{s:St}(id sz:Nat)(hf:s.H.isFresh id=true):s.Le B ⟨s.n,s.f,s.H.put id (.cells sz [] 0)⟩:=by
 intro C ac w _ hr;obtain ⟨hd,O,hs,hv,ht⟩:=hr;obtain ⟨O',h1,h2,h3⟩:=hs.virt id sz (aG.isFresh_eq hf);exact ⟨hd,O',h1,⟨hv.1,fun j=>(hv.2 j).mono h2⟩,ht.trans h2⟩
def bQz:Ent→Prop
  | .cells _ xs l=>l≤xs.length∧ ∀a,a∈xs→Data a
  |_=>True
end Go.AM
set_option maxRecDepth 20000
set_option maxHeartbeats 4000000
namespace Go.Proofs.YtkdohhmacfoolaaGreatDoor
open Go Go.AM
theorem uV.same{B:Nat→Prop}{e:Nat→Ent}{N N':Nat}(hD: ∀id,bQz (e id)):uV B ⟨e,N⟩ ⟨e,N'⟩ id:=by
 refine ⟨fun i=>?_,fun _ _ _ _ h=>h,fun _ _=>⟨rfl,fun h=>h⟩⟩;have hd:=hD i;show iC _ _ _ i (e i)
 cases he:e i with
 |fresh=>trivial
 |dead=>trivial
 |cells s ys l=>
  rw [he] at hd;exact vJ (H:=⟨e,N⟩) he (Nat.le_refl _) hd.1 hd.2
 |iter s p=>exact he
 |hid s p=>exact he
end Go.Proofs.YtkdohhmacfoolaaGreatDoor
