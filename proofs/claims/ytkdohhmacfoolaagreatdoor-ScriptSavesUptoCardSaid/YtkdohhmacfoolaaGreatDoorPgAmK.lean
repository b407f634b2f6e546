/- Facts. No condition. -/
import Derived.Test.YtkdohhmacfoolaaGreatDoorPgRun
set_option linter.unusedVariables false
set_option linter.unusedSimpArgs false
namespace Go.Proofs.YtkdohhmacfoolaaGreatDoor
open Go.Proofs.Tryz Go Go.RowKit Go.Lib Go.AM
set_option maxRecDepth 100000
set_option maxHeartbeats 2000000
theorem bUn{text:ByteArray}{xs:List AV}{ln:Nat}{n:Nat}{e:Int}(he:e≠0)(hn:n<100){told:ByteArray}(ht:told.size≤1000)(hi:(Lib.decDigits n).length≤1000)(hL:cE prog 68 [.v (.string text)] (.tup [.sl xs ln false,.v (.int .i64 n),.v (.int .i64 e)]))
 (hT: ∀w,Tab w→Calls prog 59 #[.iface 36 (.int .i64 e)] w fun e w'=>e= .returned (.string told)∧Below w.heap.size w w')
 {w:World} {X:Nat→Nat→Prop} (hX:XL X w) (W:Value):
 Calls prog 32 #[.string text,W] w fun e w'=>e= .returned (.string (told++⟨#[32,97,116,32]⟩++⟨(Lib.decDigits n).toArray⟩++⟨#[10]⟩))∧Below w.heap.size w w':=by
 have mixed:=Tryz.lays169.mixed;have u36:=run_underlying underlying36;have u3:=run_underlying underlying3;have u9:=run_underlying underlying9;have e0: ∀args w,(callFunc 68 args).run prog w= .ok (.enter 68 args) w:=enters_of func68 (by kernel_rfl) rfl;have e1: ∀args w,(callFunc 59 args).run prog w= .ok (.enter 59 args) w:=enters_of func59 (by kernel_rfl) rfl;have e2: ∀args w,(callFunc 69 args).run prog w= .ok (.enter 69 args) w:=enters_of func69 (by kernel_rfl) rfl
 go_enter func32,ntmps32
 go_wp2_with (go_at_fn 68;refine (aW6 hL hX).mono ?_)
 rintro e' w1 ⟨V,rfl,hV,hb1⟩;clear hV
 go_wp2_with fail
 refine (hT w1 (hX.tab.keep hb1)).mono ?_;rintro e' w2 ⟨rfl,hb2⟩;have Hb2:=sM (hb1.trans (hb2.mono hb1.size));clear hb2
 go_wp2_with fail
 refine (Tryz.strconv_Itoa_small n hn w2).mono ?_;rintro e' w' ⟨rfl,rfl⟩
 go_wp2
 go_ret
 exact ⟨rfl,Hb2.out⟩
end Go.Proofs.YtkdohhmacfoolaaGreatDoor
set_option maxRecDepth 4000
namespace Go.AM
open Go.RowKit
attribute [local semireducible] aR KN aF8 yP AIn AWp dR
variable {P:Program}
def aSu(T:List Nat):Operand→Bool
  | .tmp k=>T.contains k
  |_=>true
def aJg(T:List Nat)(op:Op):Bool:=(match op with| .move _| .fieldAddr .. | .load .. | .indexAddr .. =>true|_=>false)&&op.operands.all (aSu T)
def aPb(op:Op):Bool:=match op with| .store .. | .call { callee:= .builtin .append,.. } =>true|_=>false
def bO4(T:List Nat)(o:Oper):Bool:=match o.dst with
  |some d=> !T.contains d||(match o.op with| .move x=>aSu T x| .fieldAddr _ x _=>aSu T x|_=>false)
  |none=>true
def aVg(T:List Nat)(ops:Array Oper)(p i:Nat):Bool:=
  match ops[p]?,ops[i]? with
  |some op,some oi=>aLh ops p i||(op.apart ops oi&&((aJg T op.op&&aPb oi.op)||(aPb op.op&&aJg T oi.op)||(rI op.op&&aPb oi.op)||(aPb op.op&&rI oi.op)))
  |_,_=>false
def bRv(T:List Nat)(ops:Array Oper):Bool:=
  (List.range ops.size).all fun i=>
    ((ops[i]?).map (·.after.all fun e=> !Region.binds .any e||decide (e.on<i))).getD false&&
    (List.range i).all fun p=>((aDo [] ops.toList).getD i 0).testBit p||aVg T ops p i
def aSf(T:List Nat)(ops:Array Oper):Bool:=ops.all (bO4 T)
def NoT(T:List Nat)(s:St):Prop:= ∀k,k∈T→iW (s.f k)=none
theorem bC8{f:Nat→AV}{x:Operand}(h: ∀t,x≠ .tmp t):iW (aval f x)=none:=by
 cases x with
 |tmp t=>exact absurd rfl (h t)
 |const c=>
  show iW (constAV c)=none;unfold constAV;split<;>rfl
 |_=>rfl
theorem NoT.at{T:List Nat}{s:St}(h:NoT T s){x:Operand}(hq:aSu T x=true):iW (aval s.f x)=none:=by
 cases x with
 |tmp k=>exact h k (by simpa [aSu] using hq)
 |_=>exact bC8 (by intro t;simp)
theorem aSy{T:List Nat}{ops:Array Oper}{id:Nat}{o:Oper}{s s':St}(h:dR P true ops id o s s')(hs:aJg T o.op=true)(hn: ∀x,x∈o.op.operands→iW (aval s.f x)=none):
 ∃r,s'=⟨s.n,mS s.f o.dst r,s.H⟩∧ ∀(f':Nat→AV) (G:aH),(∀t,t∈o.looksAt ops→s.f t=f' t)→dR P true ops id o ⟨s.n,f',G⟩ ⟨s.n,mS f' o.dst r,G⟩:=by
 obtain ⟨hd,h⟩:=h;split at h
 · rename_i hg;subst h;refine ⟨.v undef,rfl,fun f' G hf=>⟨hd,?_⟩⟩;have:=iN (ops:=ops) hf;rw [hg] at this;simp only [←this]
 ·
  rename_i hg;have hs0:=hs;unfold aJg at hs;rw [Bool.and_eq_true] at hs;have hs1:=hs.1;unfold aGj at h;split at h
  · rename_i f args ats ho;rw [ho] at hs1;cases hs1
  ·
   rename_i op hne;rcases h with ⟨r,h1,rfl⟩|⟨r,H',h1,rfl⟩|⟨r,h0,h1,rfl⟩
   · refine ⟨r,rfl,fun f' G hf=>⟨hd,?_⟩⟩;have e:=iN (ops:=ops) hf;rw [hg] at e;simp only [←e];refine aAk (s:=⟨s.n,f',G⟩) ?_;rw [←h1];exact (aB6 (mY hf) fun x hx j hj=>by rw [hn x hx] at hj;cases hj).symm
   ·
    exfalso
    cases ho:o.op<;>rw [ho] at h1 hs1<;>first|(simp at hs1;done)|(simp [eZ] at h1;done)
   ·
    refine ⟨r,rfl,fun f' G hf=>⟨hd,?_⟩⟩;have e:=iN (ops:=ops) hf;rw [hg] at e;simp only [←e];have hop:=mY hf;refine aDi (s:=⟨s.n,f',G⟩) (fun x hx=>by rw [←hop x hx];exact h0 x hx) (fun o' w X ρ h2 h3 h4=>h1 o' w X ρ h2 h3 (fun x hx=>by rw [hop x hx];exact h4 x hx)) ?_;unfold xW;split
    · rename_i f args ats ho;exact absurd ho (by intro ho;exact hne _ _ _ ho)
    · rfl
 · exact h.elim
theorem aO2{ops:Array Oper}{id:Nat}{o:Oper}{s s':St}(h:dR P true ops id o s s')(hs:aPb o.op=true):
 ∃r H',s'=⟨s.n,mS s.f o.dst r,H'⟩∧ ∀(f':Nat→AV),(∀t,t∈o.looksAt ops→s.f t=f' t)→dR P true ops id o ⟨s.n,f',s.H⟩ ⟨s.n,mS f' o.dst r,H'⟩:=by
 obtain ⟨hd,h⟩:=h;split at h
 · rename_i hg;subst h;refine ⟨.v undef,_,rfl,fun f' hf=>⟨hd,?_⟩⟩;have:=iN (ops:=ops) hf;rw [hg] at this;simp only [←this]
 ·
  rename_i hg;unfold aGj at h;split at h
  · rename_i f args ats ho;rw [ho] at hs;cases hs
  ·
   rename_i op hne;rcases h with ⟨r,h1,rfl⟩|⟨r,H',h1,rfl⟩|⟨r,h0,h1,rfl⟩
   · refine ⟨r,_,rfl,fun f' hf=>⟨hd,?_⟩⟩;have e:=iN (ops:=ops) hf;rw [hg] at e;simp only [←e];refine aAk (s:=⟨s.n,f',s.H⟩) ?_;rw [←h1];exact (aB6 (mY hf) fun x hx j hj=>rfl).symm
   ·
    refine ⟨r,H',rfl,fun f' hf=>⟨hd,?_⟩⟩;have e:=iN (ops:=ops) hf;rw [hg] at e;simp only [←e];refine aG1 (s:=⟨s.n,f',s.H⟩) ?_;rw [←h1];have hop:=mY hf;cases ho:o.op<;>rw [ho] at hs hop<;>first|(simp [aPb] at hs;done)|skip
    · rename_i t a x;simp only [eZ];rw [hop a (by simp [Op.operands]),hop x (by simp [Op.operands])]
    ·
     rename_i c;obtain ⟨callee,args,ats⟩:=c
     cases callee with
     |builtin b=>
      cases b<;>first|(simp [aPb] at hs;done)|skip
      simp only [eZ];have hm: ∀x,x∈args.toList→aval s.f x=aval f' x:=fun x hx=>hop x (by simp [Op.operands,Call.operands];simpa using hx);split
      · rename_i s1 x1 ts tx ha ht;rw [ha] at hm;rw [hm s1 (by simp),hm x1 (by simp)]
      · rfl
     |_=>simp [aPb] at hs
   ·
    refine ⟨r,_,rfl,fun f' hf=>⟨hd,?_⟩⟩;have e:=iN (ops:=ops) hf;rw [hg] at e;simp only [←e];have hop:=mY hf;refine aDi (s:=⟨s.n,f',s.H⟩) (fun x hx=>by rw [←hop x hx];exact h0 x hx) (fun o' w X ρ h2 h3 h4=>h1 o' w X ρ h2 h3 (fun x hx=>by rw [hop x hx];exact h4 x hx)) ?_;unfold xW;split
    · rename_i f args ats ho;exact absurd ho (by intro ho;exact hne _ _ _ ho)
    · rfl
 · exact h.elim
theorem aKs{T:List Nat}{ops:Array Oper}{ip ii:Nat}{p i:Oper}{s s1 s2:St}(hp:dR P true ops ip p s s1)(hi:dR P true ops ii i s1 s2)
 (hap:p.apart ops i=true) (hcp:aPb p.op=true) (hci:aJg T i.op=true) (hn:NoT T s1): ∃t,dR P true ops ii i s t∧dR P true ops ip p t s2:=by
 obtain ⟨d1,d2,d3⟩:=Oper.apart_spec hap;obtain ⟨rp,H',e1,tp⟩:=aO2 hp hcp;subst e1;have hq:=hci;unfold aJg at hq;rw [Bool.and_eq_true] at hq;obtain ⟨ri,e2,ti⟩:=aSy hi hci fun x hx=>hn.at (Array.all_eq_true_iff_forall_mem.1 hq.2 x hx);subst e2;refine ⟨_,ti s.f s.H (fun t ht=>iR d1 t ht),?_⟩;have:=tp (mS s.f i.dst ri) (fun t ht=>(iR d3 t ht).symm);rw [←yB s.f p.dst i.dst rp ri d2] at this;exact this
theorem aKr{T:List Nat}{ops:Array Oper}{ip ii:Nat}{p i:Oper}{s s1 s2:St}(hp:dR P true ops ip p s s1)(hi:dR P true ops ii i s1 s2)
 (hap:p.apart ops i=true) (hcp:aJg T p.op=true) (hci:aPb i.op=true) (hn:NoT T s): ∃t,dR P true ops ii i s t∧dR P true ops ip p t s2:=by
 obtain ⟨d1,d2,d3⟩:=Oper.apart_spec hap;have hq:=hcp;unfold aJg at hq;rw [Bool.and_eq_true] at hq;obtain ⟨rp,e1,tp⟩:=aSy hp hcp fun x hx=>hn.at (Array.all_eq_true_iff_forall_mem.1 hq.2 x hx);subst e1;obtain ⟨ri,H',e2,ti⟩:=aO2 hi hci;subst e2;refine ⟨_,ti s.f (fun t ht=>iR d1 t ht),?_⟩;have:=tp (mS s.f i.dst ri) H' (fun t ht=>(iR d3 t ht).symm);rw [←yB s.f p.dst i.dst rp ri d2] at this;exact this
theorem aIe{ops:Array Oper}{ip ii:Nat}{p i:Oper}{s s1 s2:St}(hp:dR P true ops ip p s s1)(hi:dR P true ops ii i s1 s2)
 (hap:p.apart ops i=true) (hcp:aPb p.op=true) (hci:rI i.op=true): ∃t,dR P true ops ii i s t∧dR P true ops ip p t s2:=by
 obtain ⟨d1,d2,d3⟩:=Oper.apart_spec hap;obtain ⟨rp,H',e1,tp⟩:=aO2 hp hcp;subst e1;obtain ⟨ri,e2,ti⟩:=aF2 hi hci;subst e2;refine ⟨_,ti s.f s.H (fun t ht=>iR d1 t ht),?_⟩;have:=tp (mS s.f i.dst ri) (fun t ht=>(iR d3 t ht).symm);rw [←yB s.f p.dst i.dst rp ri d2] at this;exact this
theorem aId{ops:Array Oper}{ip ii:Nat}{p i:Oper}{s s1 s2:St}(hp:dR P true ops ip p s s1)(hi:dR P true ops ii i s1 s2)
 (hap:p.apart ops i=true) (hcp:rI p.op=true) (hci:aPb i.op=true): ∃t,dR P true ops ii i s t∧dR P true ops ip p t s2:=by
 obtain ⟨d1,d2,d3⟩:=Oper.apart_spec hap;obtain ⟨rp,e1,tp⟩:=aF2 hp hcp;subst e1;obtain ⟨ri,H',e2,ti⟩:=aO2 hi hci;subst e2;refine ⟨_,ti s.f (fun t ht=>iR d1 t ht),?_⟩;have:=tp (mS s.f i.dst ri) H' (fun t ht=>(iR d3 t ht).symm);rw [←yB s.f p.dst i.dst rp ri d2] at this;exact this
theorem aQk{H:aH}{ρ:Operand→AV}{op:Op}{r:AV}(h:bJ P H ρ op=some r):(∀x,op= .move x→iW r=iW (ρ x))∧ ∀t x k,op= .fieldAddr t x k→iW (ρ x)=none→iW r=none:=by
 constructor
 · rintro x rfl;simp only [bJ] at h;cases h;rfl
 ·
  rintro t x k rfl hx;simp only [bJ] at h;split at h
  ·
   unfold aI at h
   repeat (split at h)
   all_goals first|(cases h;done)|(cases h;rfl)|(cases h;rename_i hq;simp_all [iW])
  · cases h
theorem bBd{C:Ctx}{s:St}{a:Act}{w:World}(hr:Real C s a w){o:Oper}{r:AV}(h0: ∀x,x∈o.op.operands→aRm (aval s.f x))(h1:POp P o.op (aval s.f) r):iW r=none:=by
 obtain ⟨hd,O,hs,hv,ht⟩:=hr;obtain ⟨v,w',_,h3,_⟩:=h1 o w (Mut C.X s.H O) (fun x=>a.eval x) rfl hs.mut_lt (fun x hx=>h0 x hx _ _ _ _ (hv.aval x))
 cases r with
 |own id off len=>exact match h3 with| .owndead _ _ _ _ h _=>nomatch h| .own _ _ _ _ _ h _ _=>nomatch h| .ownvirt _ _ _ h=>nomatch h| .ownz _ _ _ _ h=>nomatch h
 |adr id off=>exact match h3 with| .adrdead _ _ _ h _=>nomatch h| .adr _ _ _ h=>nomatch h
 |_=>rfl
theorem aPy{C:Ctx}{a:Act}{w:World}{T:List Nat}{ops:Array Oper}{i id:Nat}{o:Oper}{s s':St}(hr:Real C s a w)(hk:aSf T ops=true)(ho:ops[i]? =some o)(h:dR P true ops id o s s')(hn:NoT T s):NoT T s':=by
 have hko:bO4 T o=true:=Array.all_eq_true_iff_forall_mem.1 hk o (Array.mem_of_getElem? ho);unfold bO4 at hko
 have hput: ∃r,s'.f=mS s.f o.dst r∧ ∀d,o.dst=some d→d∈T→iW r=none:=by
  obtain ⟨hd,h⟩:=h;split at h
  · subst h;exact ⟨_,rfl,fun _ _ _=>rfl⟩
  ·
   have key: ∃r,s'.f=mS s.f o.dst r∧((∀x,o.op= .move x→aSu T x=true→iW r=none)∧ ∀t x k,o.op= .fieldAddr t x k→aSu T x=true→iW r=none):=by
    unfold aGj at h;split at h
    · rename_i f args ats ho';obtain ⟨g,first,cap,r,H',_,_,_,_,_,rfl⟩:=h;exact ⟨r,rfl,fun x hx=>(by rw [ho'] at hx;cases hx),fun t x k hx=>(by rw [ho'] at hx;cases hx)⟩
    ·
     rcases h with ⟨r,h1,rfl⟩|⟨r,H',h1,rfl⟩|⟨r,h0,h1,rfl⟩
     · obtain ⟨a,b⟩:=aQk h1;exact ⟨r,rfl,fun x hx hq=>by rw [a x hx];exact hn.at hq,fun t x k hx hq=>b t x k hx (hn.at hq)⟩
     ·
      refine ⟨r,rfl,fun x hx=>?_,fun t x k hx=>?_⟩
      · rw [hx] at h1;simp [eZ] at h1
      · rw [hx] at h1;simp [eZ] at h1
     ·
      refine ⟨r,rfl,fun x hx hq=>?_,fun t x k hx hq=>?_⟩
      · exact bBd hr h0 h1
      · exact bBd hr h0 h1
   obtain ⟨r,h1,h2,h3⟩:=key;refine ⟨r,h1,fun d hd hdT=>?_⟩;simp only [hd] at hko;have:T.contains d=true:=by simpa using hdT
   rw [this] at hko;simp only [Bool.not_true,Bool.false_or] at hko;split at hko
   · rename_i x hx;exact h2 x hx hko
   · rename_i t x k hx;exact h3 t x k hx hko
   · cases hko
  · exact h.elim
 obtain ⟨r,h1,h2⟩:=hput;intro k hkT;rw [h1]
 cases hd:o.dst with
 |none=>exact hn k hkT
 |some d=>
  show iW (aF s.f d r k)=none;unfold aF;split
  · rename_i e;subst e;exact h2 _ hd hkT
  · exact hn k hkT
theorem aMn{T:List Nat}{C:Ctx}{ops:Array Oper}{base:Nat}(hkp:aSf T ops=true): ∀(L1:List Nat) (i:Nat) (L2:List Nat) (s sf:St) (a:Act) (w:World),Real C s a w→NoT T s→(∀p,p∈L1→aVg T ops p i=true∧p≠i)→
 aI8 P ops base (L1++i::L2) s sf→ ∃o t,ops[i]? =some o∧dR P true ops (base+i) o s t∧aI8 P ops base (L1++L2) t sf
 |[],i,L2,s,sf,a,w,_,_,_,h=>h
 |p::L1,i,L2,s,sf,a,w,hr,hn,hc,h=>by
  obtain ⟨op,s1,h1,h2,h3⟩:=h;obtain ⟨a1,w1,hr1⟩:=aP8 h2 hr;have hn1:=aPy hr hkp h1 h2 hn;obtain ⟨oi,t1,h4,h5,h6⟩:=aMn hkp L1 i L2 s1 sf a1 w1 hr1 hn1 (fun q hq=>hc q (by simp [hq])) h3;obtain ⟨hcm,hne⟩:=hc p (by simp);unfold aVg at hcm;rw [h1,h4] at hcm;simp only [Bool.or_eq_true] at hcm;rcases hcm with hcm|hcm
  ·
   unfold aLh at hcm;rw [h1,h4] at hcm;simp only [Bool.and_eq_true,Bool.or_eq_true,decide_eq_true_eq] at hcm;obtain ⟨hap,(⟨c1,c2⟩|⟨c1,c2⟩)|⟨c1,c2⟩⟩:=hcm
   · obtain ⟨t,h7,h8⟩:=aP7 hr h2 h5 hap c1 c2 om;exact ⟨oi,t,h4,h7,op,t1,h1,h8,h6⟩
   · obtain ⟨t,h7,h8⟩:=zB h2 h5 hap c1 c2;exact ⟨oi,t,h4,h7,op,t1,h1,h8,h6⟩
   · obtain ⟨t,h7,h8⟩:=zA h2 h5 hap c1 c2;exact ⟨oi,t,h4,h7,op,t1,h1,h8,h6⟩
  ·
   simp only [Bool.and_eq_true,Bool.or_eq_true] at hcm;obtain ⟨hap,((⟨c1,c2⟩|⟨c1,c2⟩)|⟨c1,c2⟩)|⟨c1,c2⟩⟩:=hcm
   · obtain ⟨t,h7,h8⟩:=aKr h2 h5 hap c1 c2 hn;exact ⟨oi,t,h4,h7,op,t1,h1,h8,h6⟩
   · obtain ⟨t,h7,h8⟩:=aKs h2 h5 hap c1 c2 hn1;exact ⟨oi,t,h4,h7,op,t1,h1,h8,h6⟩
   · obtain ⟨t,h7,h8⟩:=aId h2 h5 hap c1 c2;exact ⟨oi,t,h4,h7,op,t1,h1,h8,h6⟩
   · obtain ⟨t,h7,h8⟩:=aIe h2 h5 hap c1 c2;exact ⟨oi,t,h4,h7,op,t1,h1,h8,h6⟩
section
variable {ops:Array Oper}
theorem aQs{T:List Nat}(hok:bRv T ops=true){listed:Array Bool}
 (hclosed: ∀k o,ops[k]? =some o→listed.getD k false=true→ ∀e,e∈o.after→Region.binds .any e=true→listed.getD e.on false=true):
 ∀(i:Nat) (o:Oper),ops[i]? =some o→(∀e,e∈o.after→Region.binds .any e=true→listed.getD e.on false=true)→
 ∀p,((aDo [] ops.toList).getD i 0).testBit p=true→listed.getD p false=true:=by
 intro i
 induction i using Nat.strongRecOn with
 |_ i ih=>
  intro o ho hall p hp;obtain ⟨acc',h1,h2⟩:=aN3 ops.toList [] i o (by simpa using ho);simp only [List.length_nil,Nat.zero_add] at h1 h2;rw [h1] at hp;obtain ⟨e,he,hb,h3⟩:=aLp hp;have hon:=hall e he hb;rcases h3 with rfl|h3
  · exact hon
  ·
   have hlt:i<ops.size:=(Array.getElem?_eq_some_iff.1 ho).1
   have hei:e.on<i:=by
    have:=List.all_eq_true.1 hok i (by simpa using hlt);simp only [Bool.and_eq_true,ho,Option.map_some,Option.getD_some] at this;have:=Array.all_eq_true_iff_forall_mem.1 this.1 e he
    simpa [hb] using this
   obtain ⟨oe,hoe⟩: ∃oe,ops[e.on]? =some oe:=⟨ops[e.on]'(by omega),by simp [show e.on<ops.size by omega]⟩
   rw [h2 _ hei] at h3;exact ih e.on hei oe hoe (fun e' he' hb'=>hclosed e.on oe hoe hon e' he' hb') p h3
theorem bA5{T:List Nat}{C:Ctx}{base:Nat}{Q:Exit→Act→World→Prop}(hok:bRv T ops=true)(hkp:aSf T ops=true): ∀(fuel:Nat) (L:List Nat) (listed:Array Bool) (s sf:St) (a:Act) (w:World),
 L.length=fuel→L.Pairwise (· < ·)→listed.size=ops.size→(∀i,i<ops.size→(listed.getD i false=true↔i∉L))→(∀i,i∈L→i<ops.size)→
 (∀k o,ops[k]? =some o→listed.getD k false=true→ ∀e,e∈o.after→Region.binds .any e=true→listed.getD e.on false=true)→
 aI8 P ops base L s sf→NoT T s→Real C s a w→(∀a' w',Real C sf a' w'→Q .normal a' w')→wpAny P .any ops Q fuel listed a w:=by
 intro fuel
 have hdep: ∀i o,ops[i]? =some o→ ∀e,e∈o.after→Region.binds .any e=true→e.on<i:=by
  intro i o ho e he hb;have hlt:i<ops.size:=(Array.getElem?_eq_some_iff.1 ho).1;have:=List.all_eq_true.1 hok i (by simpa using hlt);simp only [Bool.and_eq_true,ho,Option.map_some,Option.getD_some] at this;have:=Array.all_eq_true_iff_forall_mem.1 this.1 e he
  simpa [hb] using this
 have getDt: ∀(listed:Array Bool) (i:Nat),listed.size=ops.size→i<ops.size→listed.getD i true=listed.getD i false:=by
  intro listed i hs hi;simp [hs,hi]
 induction fuel with
 |zero=>
  intro L listed s sf a w hL _ hsz hl hlt hcl hch hno hr hQ;have:L=[]:=List.eq_nil_of_length_eq_zero hL;subst this;have:s=sf:=hch;subst this;refine ⟨?_,hQ a w hr⟩
  cases hrd:Region.ready .any ops listed with
  |nil=>rfl
  |cons x xs=>
   have hx:x∈Region.ready .any ops listed:=by rw [hrd];simp
   obtain ⟨h1,o,h2,_⟩:=mem_ready.1 hx;have hxs:x<ops.size:=(Array.getElem?_eq_some_iff.1 h2).1;rw [getDt listed x hsz hxs] at h1;have:=(hl x hxs).2 (by simp);rw [h1] at this;cases this
 |succ fuel ih=>
  intro L listed s sf a w hL hsort hsz hl hlt hcl hch hno hr hQ;refine ⟨fun hempty=>?_,fun i hi=>?_⟩
  ·
   
   exfalso
   match L,hL with
   |x::L',_=>
    have hxs:x<ops.size:=hlt x (by simp);obtain ⟨o,ho⟩: ∃o,ops[x]? =some o:=⟨ops[x],by simp [hxs]⟩
    have:x∈Region.ready .any ops listed:=by
     refine mem_ready.2 ⟨?_,o,ho,fun e he hb=>?_⟩
     ·
      rw [getDt listed x hsz hxs]
      cases hv:listed.getD x false with
      |false=>rfl
      |true=>exact absurd (by simp) ((hl x hxs).1 hv)
     ·
      have hex:=hdep x o ho e he hb;refine (hl e.on om).2 (fun hm=>?_);rcases List.mem_cons.1 hm with h|h
      · omega
      · have:=List.rel_of_pairwise_cons hsort h;omega
    rw [hempty] at this;cases this
  ·
   obtain ⟨h1,oi,hoi,hall⟩:=mem_ready.1 hi;have his:i<ops.size:=(Array.getElem?_eq_some_iff.1 hoi).1;rw [getDt listed i hsz his] at h1
   have hiL:i∈L:=by
    rcases Classical.em (i∈L) with h|h
    · exact h
    · have:=(hl i his).2 h;rw [h1] at this;cases this
   obtain ⟨L1,L2,rfl⟩:=List.append_of_mem hiL;have hp:=List.pairwise_append.1 hsort
   have hpre: ∀p,p∈L1→aVg T ops p i=true∧p≠i:=by
    intro p hpm;have hpi:p<i:=hp.2.2 p hpm i (by simp);refine ⟨?_,by omega⟩;have:=List.all_eq_true.1 hok i (by simpa using his);simp only [Bool.and_eq_true] at this;have:=List.all_eq_true.1 this.2 p (by simpa using hpi);simp only [Bool.or_eq_true] at this;rcases this with h|h
    ·
     exfalso
     have:=aQs hok hcl i oi hoi hall p h;exact ((hl p om).1 this) (by simp [hpm])
    · exact h
   obtain ⟨o,t,h2,h3,h4⟩:=aMn hkp L1 i L2 s sf a w hr hno hpre hch;rw [hoi] at h2;cases h2
   have hst:=aE6 (Q:=Q) h3 hr (K:=wpAny P .any ops Q fuel (listed.setIfInBounds i true)) (fun a' w' hr'=>by
    refine ih (L1++L2) (listed.setIfInBounds i true) t sf a' w' (by simp at hL ⊢; omega) ?_ (by simpa using hsz) (fun j hj=>?_) (fun j hj=>hlt j (by simp at hj ⊢; rcases hj with h|h<;>simp [h])) ?_ h4 (aPy hr hkp hoi h3 hno) hr' hQ
    · refine List.pairwise_append.2 ⟨hp.1,(List.pairwise_cons.1 hp.2.1).2,fun x hx y hy=>hp.2.2 x hx y (by simp [hy])⟩
    ·
     have hnd:i∉L1++L2:=by
      intro hm;rcases List.mem_append.1 hm with h|h
      · have:=hp.2.2 i h i (by simp);omega
      · have:=(List.pairwise_cons.1 hp.2.1).1 i h;omega
     by_cases hji:j=i
     ·
      subst hji;simp [hsz,his]
      simpa using hnd
     · have e:(listed.setIfInBounds i true).getD j false=listed.getD j false:=getD_set_ne false (Ne.symm hji);rw [e,hl j hj];simp [hji]
    ·
     intro k o hk hkl e he hb
     by_cases hki:k=i
     · subst hki;rw [hoi] at hk;cases hk;exact getD_set_true (hall e he hb)
     · rw [getD_set_ne false (Ne.symm hki)] at hkl;exact getD_set_true (hcl k o hk hkl e he hb))
   unfold wpOp;simp only [hoi];split at hst
   · rename_i hw;simp only [hw,if_true];exact .inl hst
   · rename_i hw;simp only [hw];exact hst
end
theorem AWp.regionT{B:Nat→Prop}(T:List Nat)(m:Nat){id:Nat}{l:List Oper}{Q:Exit→St→Prop}{n N:Nat}{f:Nat→AV}{e:Nat→Ent}(hmix:P.follows .mixedOrders=true)(hok:bRv T l.toArray=true)(hkp:aSf T l.toArray=true)(hno: ∀k,k∈T→iW (f k)=none)
 (h:aR P true l.toArray N 0 l (fun s'=>Q .normal ⟨s'.n,s'.f,⟨s'.H.ent,N+m⟩⟩) ⟨n,f,⟨e,N⟩⟩):AWp P B (.region id l.toArray true) Q ⟨n,f,⟨e,N⟩⟩:=by
 intro C a w _ hr;refine wp_region_any hmix ?_;obtain ⟨sf,h1,h2⟩:=aCi l 0 _ (fun j=>by simp) h
 have hr':Real C ⟨n,f,⟨e,N⟩⟩ a { w with drawn:=w.drawn+1 } :=by
  obtain ⟨hd,O,hs,hv,ht⟩:=hr;obtain ⟨h3,h4⟩:=hs.same (w':= { w with drawn:=w.drawn+1 }) rfl rfl rfl rfl;exact ⟨hd,O,h3,hv.mono h4,ht.trans h4⟩
 refine bA5 hok hkp l.toArray.size (List.range' 0 l.length) _ _ sf a _ (by simp) List.pairwise_lt_range' (by simp) (fun i hi=>?_) (fun i hi=>by simp at hi ⊢; omega) (fun k o hk hkl=>?_) h1 hno hr' (fun a' w' hr''=>⟨_,hr''.nxt _,h2⟩)
 · simp at hi;simp [hi]
 ·
  have:(Array.replicate l.toArray.size false).getD k false=false:=by
   simp only [Array.getD_eq_getD_getElem?,Array.getElem?_replicate];split<;>rfl
  rw [this] at hkl;cases hkl
theorem AWp.regT{B:Nat→Prop}(T:List Nat)(m:Nat){id:Nat}{l:List Oper}{Q:Exit→St→Prop}{n N N':Nat}{f:Nat→AV}{e:Nat→Ent}(hmix:P.follows .mixedOrders=true)(hok:bRv T l.toArray=true)(hkp:aSf T l.toArray=true)(hno: ∀k,k∈T→iW (f k)=none)(hN:N+m=N')
 (h:aR P true l.toArray N 0 l (KN Q N') ⟨n,f,⟨e,N⟩⟩):AWp P B (.region id l.toArray true) Q ⟨n,f,⟨e,N⟩⟩:=by
 subst hN;exact AWp.regionT T m hmix hok hkp hno h
end Go.AM
