/- Facts. No condition. -/
import Derived.Test.YtkdohhmacfoolaaGreatDoorOaAmM
import Derived.Test.YtkdohhmacfoolaaGreatDoorOaAmO
set_option linter.unusedSimpArgs false
set_option linter.unusedVariables false
set_option maxRecDepth 4000
namespace Go.AM
open Go.RowKit
attribute [local semireducible] aR KN aA3 rL AIn AWp bR
variable {P:Program}
def aDc(vs:List (Nat×Nat)):Operand→Option Nat
  | .tmp k=>vs.lookup k
  |_=>none
def aWq(vs:List (Nat×Nat))(op:Op):Option Nat:=match op with| .load _ x=>aDc vs x| .fieldAddr _ x _=>aDc vs x|_=>none
def aIo(vs:List (Nat×Nat))(op:Op):Option Nat:=match op with| .store _ a _=>aDc vs a|_=>none
def cmV(vs:List (Nat×Nat))(ops:Array Oper)(p i:Nat):Bool:=
  aGh [] ops p i||match ops[p]?,ops[i]? with
  |some op,some oi=>op.apart ops oi&&(match aWq vs op.op,aIo vs oi.op with|some a,some b=>a !=b|_,_=>false)
  |_,_=>false
def aWk(vs:List (Nat×Nat))(o:Oper):Bool:=match o.dst with|some d=>(vs.lookup d).isNone|none=>true
def IV(vs:List (Nat×Nat))(s:St):Prop:= ∀k j,vs.lookup k=some j→ ∃off,s.f k= .adr j off
theorem IV.nil{s:St} :IV [] s:=fun k j h=>by cases h
theorem IV.cons{vs:List (Nat×Nat)}{s:St}{k j off:Nat}(h:s.f k= .adr j off)(h':IV vs s):IV ((k,j)::vs) s:=fun k' j' q=>by
 rw [List.lookup_cons] at q
 by_cases c:k'=k
 · subst c;simp at q;subst q;exact ⟨off,h⟩
 ·
  have:(k'==k)=false:=by simpa using c
  rw [this] at q;exact h' k' j' q
theorem mC{vs:List (Nat×Nat)}{x:Operand}{j:Nat}(h:aDc vs x=some j): ∃k,x= .tmp k∧vs.lookup k=some j:=by
 cases x with
 |tmp k=>exact ⟨k,rfl,h⟩
 |_=>cases h
theorem aHj{ops:Array Oper}{id:Nat}{o:Oper}{s s':St}(h:bR P true ops id o s s'): ∃r,s'.f=eR s.f o.dst r:=by
 obtain ⟨hd,h⟩:=h;split at h
 · subst h;exact ⟨_,rfl⟩
 ·
  unfold tY at h;split at h
  · obtain ⟨_,_,_,r,H',_,_,_,_,_,rfl⟩:=h;exact ⟨r,rfl⟩
  · rcases h with ⟨r,_,rfl⟩|⟨r,H',_,rfl⟩|⟨r,_,_,rfl⟩<;>exact ⟨r,rfl⟩
 · exact h.elim
section
variable {vs:List (Nat×Nat)}{ops:Array Oper}
theorem IV.step(hk:(ops.all (aWk vs))=true):HI P ops (IV vs):=by
 intro C a w i id o s s' hr ho h I k j hkj;have hko:aWk vs o=true:=Array.all_eq_true_iff_forall_mem.1 hk o (Array.mem_of_getElem? ho);obtain ⟨r,h1⟩:=aHj h;obtain ⟨off,h2⟩:=I k j hkj;refine ⟨off,?_⟩;rw [h1]
 cases hd:o.dst with
 |none=>exact h2
 |some d=>
  show aD s.f d r k=_;unfold aD;split
  · rename_i q;subst q;unfold aWk at hko;rw [hd] at hko;simp only [hkj] at hko;cases hko
  · exact h2
theorem aVl{op:Op}{a:Nat}(h:aWq vs op=some a):rY op=true:=by
 unfold aWq at h;split at h<;>first|rfl|cases h
theorem aOm{op:Op}{a:Nat}(h:aIo vs op=some a):aE9 op=true:=by
 unfold aIo at h;split at h<;>first|rfl|cases h
theorem IV.comm{base:Nat} :HC P ops base (cmV vs ops) (IV vs):=by
 intro C a w p i op oi s s1 s2 hr I h1 h4 hcm hne h2 h5;unfold cmV at hcm;rw [Bool.or_eq_true] at hcm;rcases hcm with hcm|hcm
 ·
  have hn: ∀s:St,NoT [] s:=fun s k hk=>by cases hk
  unfold aGh at hcm;rw [h1,h4] at hcm;simp only [Bool.or_eq_true] at hcm;rcases hcm with hcm|hcm
  ·
   unfold aCi at hcm;rw [h1,h4] at hcm;simp only [Bool.and_eq_true,Bool.or_eq_true,decide_eq_true_eq] at hcm;obtain ⟨hap,(⟨c1,c2⟩|⟨c1,c2⟩)|⟨c1,c2⟩⟩:=hcm
   · exact aE2 hr h2 h5 hap c1 c2 om
   · exact lI h2 h5 hap c1 c2
   · exact lH h2 h5 hap c1 c2
  ·
   simp only [Bool.and_eq_true,Bool.or_eq_true] at hcm;obtain ⟨hap,((⟨c1,c2⟩|⟨c1,c2⟩)|⟨c1,c2⟩)|⟨c1,c2⟩⟩:=hcm
   · exact zB h2 h5 hap c1 c2 (hn _)
   · exact zC h2 h5 hap c1 c2 (hn _)
   · exact vE h2 h5 hap c1 c2
   · exact vF h2 h5 hap c1 c2
 ·
  rw [h1,h4] at hcm;simp only [Bool.and_eq_true] at hcm;obtain ⟨hap,hc⟩:=hcm;split at hc
  ·
   rename_i x y c1 c2;have hxy:x≠y:=by simpa using hc
   obtain ⟨d1,d2,d3⟩:=Oper.apart_spec hap;obtain ⟨rp,e1,tp⟩:=aE0 h2 (aVl c1);subst e1
   have hent:s2.H.ent x=s.H.ent x:=by
    have c2':=c2;unfold aIo at c2';split at c2'
    · rename_i t z y' ho;obtain ⟨k,rfl,hk⟩:=mC c2';obtain ⟨off,hv⟩:=I k y hk;refine aE3 (s:=⟨s.n,eR s.f op.dst rp,s.H⟩) h5 ho ?_;have:aval (eR s.f op.dst rp) (.tmp k)=s.f k:=cG d1 k (List.mem_append_left _ (List.mem_filterMap.2 ⟨.tmp k,by rw [ho];simp [Op.operands],rfl⟩));show cW (aval (eR s.f op.dst rp) (.tmp k))≠some x;rw [this,hv];intro q;cases q;exact hxy rfl
    · cases c2'
   obtain ⟨ri,H',e2,ti⟩:=yW h5 (aOm c2);subst e2;refine ⟨_,ti s.f (fun t ht=>cG d1 t ht),?_⟩
   have:=tp (eR s.f oi.dst ri) H' (fun t ht=>(cG d3 t ht).symm) fun z hz j hj hnd=>by
    have hJ:j=x:=by
     unfold aWq at c1;split at c1
     · rename_i t y' ho;obtain ⟨k,rfl,hk⟩:=mC c1;rw [ho] at hz;simp [Op.operands] at hz;subst hz;obtain ⟨off,hv⟩:=I k x hk;have e:aval s.f (.tmp k)=s.f k:=rfl;rw [e,hv] at hj;cases hj;rfl
     · rename_i t y' f ho;obtain ⟨k,rfl,hk⟩:=mC c1;rw [ho] at hz;simp [Op.operands] at hz;subst hz;obtain ⟨off,hv⟩:=I k x hk;have e:aval s.f (.tmp k)=s.f k:=rfl;rw [e,hv] at hj;cases hj;rfl
     · cases c1
    subst hJ;exact hent
   rw [←jI s.f op.dst oi.dst rp ri d2] at this;exact this
  · cases hc
end
theorem AWp.regV{B:Nat→Prop}(vs:List (Nat×Nat))(m:Nat){id:Nat}{l:List Oper}{Q:Exit→St→Prop}{n N N':Nat}{f:Nat→AV}{e:Nat→Ent}(hmix:P.follows .mixedOrders=true)(hok:bEi (cmV vs l.toArray) l.toArray=true)(hk:(l.toArray.all (aWk vs))=true)
 (h0:IV vs ⟨n,f,⟨e,N⟩⟩) (hN:N+m=N') (h:aR P true l.toArray N 0 l (KN Q N') ⟨n,f,⟨e,N⟩⟩):AWp P B (.region id l.toArray true) Q ⟨n,f,⟨e,N⟩⟩:=by
 subst hN;exact AWp.regionG (cmV vs l.toArray) (IV vs) m hmix hok (IV.step hk) IV.comm h0 h
end Go.AM
