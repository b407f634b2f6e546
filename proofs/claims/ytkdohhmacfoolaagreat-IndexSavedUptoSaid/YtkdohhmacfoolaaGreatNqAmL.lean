/- Facts. No condition. -/
import Derived.Test.YtkdohhmacfoolaaGreatNqLds
set_option linter.unusedVariables false
set_option linter.unusedSimpArgs false
set_option maxRecDepth 20000
set_option maxHeartbeats 4000000
namespace Go.Proofs.YtkdohhmacfoolaaGreat
open Go.Proofs.Tryz Go Go.AM
attribute [local irreducible] aZ
@[go_sem] theorem bEn(i o:Nat):aO prog 102 (.adr i o) 0=some (.adr i (o+0)):=by kernel_rfl
@[go_sem] theorem bEt(i o:Nat):aO prog 102 (.adr i o) 1=some (.adr i (o+1)):=by kernel_rfl
@[go_sem] theorem bEz(i o:Nat):aO prog 102 (.adr i o) 2=some (.adr i (o+2)):=by kernel_rfl
@[go_sem] theorem bJn(i o:Nat):aO prog 23 (.adr i o) 0=some (.adr i (o+0)):=by kernel_rfl
@[go_sem] theorem bJu(i o:Nat):aO prog 23 (.adr i o) 1=some (.adr i (o+1)):=by kernel_rfl
@[go_sem] theorem bK7(i o:Nat):aO prog 30 (.adr i o) 0=some (.adr i (o+0)):=by kernel_rfl
@[go_sem] theorem bKh(i o:Nat):aO prog 30 (.adr i o) 2=some (.adr i (o+4)):=by kernel_rfl
@[go_sem] theorem bOf(H:aM)(x0 x1 x2:AV)(xs:List AV):cZ prog H 102 (.ptr (x0::x1::x2::xs))=some (.agg [x0,x1,x2]):=by kernel_rfl
@[go_sem] theorem bRt(H:aM)(x:AV)(xs:List AV):cZ prog H 28 (.ptr (x::xs))=some x:=by kernel_rfl
@[go_sem] theorem bVk(H:aM)(x:AV)(xs:List AV):cZ prog H 3 (.ptr (x::xs))=some x:=by kernel_rfl
@[go_sem] theorem bRz(H:aM)(x0 x1 x2 x3 x4:AV)(xs:List AV):cZ prog H 30 (.ptr (x0::x1::x2::x3::x4::xs))=some (.agg [x0,x1,x2,x3,x4]):=by kernel_rfl
def aB8(rec1:List aH→Int→List Int→List aH→Int→Option ((List aH)×Int))(l_1:List aH)(v_3:Int)(aIc:List Int)(aIn:List aH)(bCv:Int):Option ((List aH)×Int):=
 (bif (bCv !=v_3) then
  ((idx aIc bCv).bind fun x10=>
  (bif (decide (x10<0)) then
   some ([],3)
  else
   ((idx aIc bCv).bind fun x12=>
   ((idx l_1 x12).bind fun x14=>
   ((app aIn [x14]).bind fun l16=>
   ((xX x14 bCv).bind fun r18=>
   rec1 l_1 v_3 aIc l16 r18))))))
 else
  some (aIn,0))
def tU:Nat→List aH→Int→List Int→List aH→Int→Option ((List aH)×Int)
 |0=>fun _ _ _ _ _=>none
 |n+1=>aB8 (tU n)
def wE(n_0:Int)(l_1:List aH)(u_2:Int)(v_3:Int):Option ((List aH)×Int):=
 ((tV n_0 l_1).bind fun r2=>
 ((dX ((!r2)==false) false (zB n_0 u_2)).bind fun r4=>
 ((dX (((!r2)||(!r4))==false) false (zB n_0 v_3)).bind fun r6=>
 (bif (((!r2)||(!r4))||(!r6)) then
  some ([],1)
 else
  ((xW n_0 l_1 v_3).bind fun r8=>
  tU aZ l_1 v_3 r8 [] u_2)))))
theorem bAt{n_0:Int}{l_1:List aH}{u_2:Int}{v_3:Int}{r:(List aH)×Int}(hm:wE n_0 l_1 u_2 v_3=some r):dT prog 170 [vi n_0,vl bE l_1,vi u_2,vi v_3] (.tup [vl bE r.1,vi r.2]):=by
 refine bd 58 func170 ?_;obtain ⟨r2,h1,hm⟩:=bnd hm;refine W ?_;refine cq (aNr h1) ?_;obtain ⟨r4,h3,hm⟩:=bnd hm;refine W ?_;refine cg (fun hb=>aGt (bI h3 hb)) ?_;obtain ⟨r6,h5,hm⟩:=bnd hm;refine W ?_;refine cg (fun hb=>aGt (bI h5 hb)) ?_;refine W ?_;refine cm hm (fun hm=>?_) fun hm=>?_
 · exact E
 obtain ⟨r8,h7,hm⟩:=bnd hm;refine W ?_;refine cq (aNq h7) ?_;refine W ?_;refine lp (fun m s=> ∃l_1 v_3 aIc aIn bCv,s=⟨58,(aG (aG (aG (aG (aG fa 1 (vl bE l_1)) 3 (vi v_3)) 10 (vl (ci .i64) aIc)) 11 (.own 1 0 aIn.length)) 12 (vi bCv)),⟨(upd bR 1 (.cells 3 (aIn.flatMap bE) 0)),64⟩⟩∧tU m l_1 v_3 aIc aIn bCv=some r) ?_ ?_
 · refine ⟨_,?_,l_1,v_3,r8,[],u_2,rfl,hm⟩;refine St.Le.trans (aIb 11 900011 3 Z1 Z5) ?_;exact cn (fun j=>bif j==1 then 900011 else 0)
 rintro n1 s ⟨l_1,v_3,aIc,aIn,bCv,rfl,hm⟩;refine W ?_;refine cm hm (fun hm=>?_) fun hm=>?_
 ·
  obtain ⟨x10,h9,hm⟩:=bnd hm;refine W ?_;refine cm hm (fun hm=>?_) fun hm=>?_
  · exact E
  have hm:=sb hm h9;obtain ⟨x14,h13,hm⟩:=bnd hm;refine W ?_;refine aL dU [x14] ?_;obtain ⟨l16,h15,hm⟩:=bnd hm;obtain ⟨r18,h17,hm⟩:=bnd hm;refine W ?_;refine cq (aI6 h17) ?_;refine W ?_;exact Lr (fun j=>bif j==1 then 259 else 0)
 exact E
instance:Ct prog 170 (K4 prog vi (vl bE) vi vi (t2 (vl bE) vi) 170 wE):=⟨fun hm=>bAt hm⟩
abbrev tK(nV:Int)(g_3:aU)(t6:aU)(e_7:aH)(n_9:Int):Option (aU):=
 ((aCn n_9 g_3.Edges e_7.U e_7.V (IntKind.i64.wrap (nV+1))).bind fun ⟨r9,r10⟩=>
 some (aU.mk g_3.Config g_3.Hashes r9))
def vR(g_0:aU)(nV:Int)(v_2:Int):Option (aU):=
 ((yH g_0 nV v_2).bind fun r2=>
 ((yH g_0 (IntKind.i64.wrap (nV+1)) v_2).bind fun r4=>
 (bif ((r2.length:Int) !=(r4.length:Int)) then
  some g_0
 else
  ((wT g_0 nV v_2).bind fun ⟨r6,r7⟩=>
  (bif (!r7) then
   some g_0
  else
   (bif (r6.Tier==0) then
    ((oB g_0.Config.N g_0.Edges g_0.Config.L).bind fun r12=>
    ((wE g_0.Config.N r12 r6.U r6.V).bind fun ⟨r14,r15⟩=>
    ((rR r14).bind fun ⟨r17,r18⟩=>
    (bif (r18&&(r15==0)) then
     ((aCn g_0.Config.N g_0.Edges r17.U r17.V 0).bind fun ⟨r20,r21⟩=>
     tK nV (aU.mk g_0.Config g_0.Hashes r20) (aU.mk (bZ.mk 0 0 0) [] []) r6 g_0.Config.N)
    else
     tK nV g_0 (aU.mk (bZ.mk 0 0 0) [] []) r6 g_0.Config.N))))
   else
    tK nV g_0 (aU.mk (bZ.mk 0 0 0) [] []) r6 g_0.Config.N))))))
theorem aVi:K3 prog fY vi vi fY 141 vR:=fun hm=>be 98 func141 (h:=G)
instance:Ct prog 141 (K3 prog fY vi vi fY 141 vR):=⟨aVi⟩
def aFp(rec1:Int→Int→aU→aU→Int→Int→Option (aU))(u_1:Int)(v_2:Int)(g_3:aU)(t6:aU)(t10:Int)(t11:Int):Option (aU):=
 (bif (decide (t11<t10)) then
  ((vR g_3 t11 u_1).bind fun r2=>
  ((vR r2 t11 v_2).bind fun r4=>
  rec1 u_1 v_2 r4 t6 t10 (IntKind.i64.wrap (t11+1))))
 else
  some g_3)
def xI:Nat→Int→Int→aU→aU→Int→Int→Option (aU)
 |0=>fun _ _ _ _ _ _=>none
 |n+1=>aFp (xI n)
def zT(g_0:aU)(u_1:Int)(v_2:Int):Option (aU):=
 xI aZ u_1 v_2 g_0 (aU.mk (bZ.mk 0 0 0) [] []) g_0.Config.L 0
theorem aVh:K3 prog fY vi vi fY 117 zT:=by
 intro g_0 u_1 v_2 r hm
 let I1:=((fun m s=> ∃u_1 v_2 g_3 t6 t10 t11,s=⟨24,(aG (aG (aG (aG (aG (aG fa 1 (vi u_1)) 2 (vi v_2)) 3 (.adr 1 0)) 6 (.adr 2 0)) 10 (vi t10)) 11 (vi t11)),⟨(upd (upd bR 1 (.cells 1 [vi g_3.Config.N,vi g_3.Config.L,vi g_3.Config.R,vl dW g_3.Hashes,vl bE g_3.Edges] 0)) 2 (.cells 1 [vi t6.Config.N,vi t6.Config.L,vi t6.Config.R,vl dW t6.Hashes,vl bE t6.Edges] 0)),64⟩⟩∧xI m u_1 v_2 g_3 t6 t10 t11=some r):Nat→St→Prop)
 exact be 24 func117 (h:=G)
instance:Ct prog 117 (K3 prog fY vi vi fY 117 zT):=⟨aVh⟩
def zS(g_0:aU)(u_1:Int)(v_2:Int):Option (aU×Int):=
 ((aAo g_0 u_1 v_2).bind fun r2=>
 (bif (!r2) then
  some (g_0,1)
 else
  ((aFl g_0.Config.N g_0.Edges u_1 v_2).bind fun ⟨r4,r5⟩=>
  (bif (r5 !=0) then
   some (g_0,r5)
  else
   ((zT (aU.mk g_0.Config g_0.Hashes r4) u_1 v_2).bind fun r7=>
   some (r7,0))))))
theorem aVg:K3 prog fY vi vi (t2 fY vi) 85 zS:=fun hm=>be 37 func85 (h:=G)
instance:Ct prog 85 (K3 prog fY vi vi (t2 fY vi) 85 zS):=⟨aVg⟩
def zR(g_0:aU)(u_1:Int)(v_2:Int):Option (aU×Int):=
 ((aAo g_0 u_1 v_2).bind fun r2=>
 (bif (!r2) then
  some (g_0,1)
 else
  ((zP g_0.Config.N g_0.Edges u_1 v_2).bind fun ⟨r4,r5⟩=>
  (bif (r5 !=0) then
   some (g_0,r5)
  else
   ((zT (aU.mk g_0.Config g_0.Hashes r4) u_1 v_2).bind fun r7=>
   some (r7,0))))))
theorem aVf:K3 prog fY vi vi (t2 fY vi) 86 zR:=fun hm=>be 37 func86 (h:=G)
instance:Ct prog 86 (K3 prog fY vi vi (t2 fY vi) 86 zR):=⟨aVf⟩
attribute [local semireducible] aZ
end Go.Proofs.YtkdohhmacfoolaaGreat
set_option maxRecDepth 4000
namespace Go.AM
open Go.RowKit
attribute [local semireducible] aI KN aGl aAr AIn AWp gJ
variable {P:Program}
def aIo(op:Op):Bool:=match op with| .fieldAddr .. | .load .. | .indexAddr .. | .slice .. | .call { callee:= .builtin .len,.. } =>true|_=>false
theorem aM5{H:aM}{x:AV}{j:Nat}(h:H.alive x=true)(hj:mW x=some j):H.ent j≠ .dead:=by
 intro hd;cases x<;>simp [mW] at hj<;>subst hj<;>simp [aM.alive,hd] at h
theorem bDa{d n:Nat}{x:AV}(h:mQ d (some x)=some n):mW x=none:=by
 cases x with
 |v y=>rfl
 |_=>simp [mQ] at h
theorem vC{ρ:Operand→AV}{d n:Nat}{o:Option Operand}{x:Operand}(h:mQ d (o.map ρ)=some n)(hx:x∈o):mW (ρ x)=none:=by
 cases hx;exact bDa h
theorem bGf{H:aM}{ρ:Operand→AV}{t:TypeId}{a:Operand}{lo hi mx:Option Operand}{r:AV}(h:aDo P H t (ρ a) (lo.map ρ) (hi.map ρ) (mx.map ρ)=some r):
 (∀j,mW (ρ a)=some j→H.ent j≠ .dead)∧(∀x,x∈lo∨x∈hi∨x∈mx→mW (ρ x)=none):=by
 unfold aDo at h;split at h
 ·
  rename_i s hu ha;split at h
  ·
   rename_i l hh h1 h2 h3;refine ⟨fun j hj=>(by rw [ha] at hj;cases hj),fun x hx=>?_⟩;rcases hx with q|q|q
   · exact vC h2 q
   · exact vC h3 q
   · cases q;cases h1
  · cases h
 ·
  rename_i e hu ha;split at h
  ·
   rename_i h1 h2 h3 h4;refine ⟨fun j hj=>(by rw [ha] at hj;cases hj),fun x hx=>?_⟩;rcases hx with q|q|q
   · exact vC h2 q
   · exact vC h3 q
   · exact vC h4 q
  · cases h
 ·
  rename_i e xs len full hu ha;split at h
  ·
   split at h
   ·
    rename_i l hh m h2 h3 h4;refine ⟨fun j hj=>(by rw [ha] at hj;cases hj),fun x hx=>?_⟩;rcases hx with q|q|q
    · exact vC h2 q
    · exact vC h3 q
    · exact vC h4 q
   · cases h
  · cases h
 ·
  rename_i e id off len hu ha;split at h
  ·
   rename_i hent;split at h
   ·
    rename_i l hh h2 h3 h4;refine ⟨fun j hj hd=>?_,fun x hx=>?_⟩
    · rw [ha] at hj;cases hj;rw [hd] at hent;cases hent
    ·
     rcases hx with q|q|q
     · exact vC h2 q
     · exact vC h3 q
     · cases q;cases h4
   · cases h
  · cases h
 · cases h
theorem bLu{H:aM}{ρ:Operand→AV}{op:Op}{r:AV}(hs:aIo op=true)(h:cL P H ρ op=some r): ∀x,x∈op.operands→ ∀j,mW (ρ x)=some j→H.ent j≠ .dead:=by
 intro x hx j hj
 cases op with
 |fieldAddr t a f=>
  simp only [cL] at h;split at h
  · rename_i ha;simp [Op.operands] at hx;subst hx;exact aM5 ha hj
  · cases h
 |load t a=>
  simp only [cL] at h;simp [Op.operands] at hx;subst hx;intro hd;cases hv:ρ x<;>rw [hv] at h hj<;>simp [mW] at hj<;>subst hj<;>simp [cZ,hd] at h
 |indexAddr t a i=>
  simp only [cL] at h;split at h
  ·
   rename_i ha;simp [Op.operands] at hx;rcases hx with rfl|rfl
   · exact aM5 ha hj
   ·
    exfalso
    unfold oC at h;split at h<;>first|(cases h;done)|(rename_i hq;rw [hq] at hj;cases hj)
  · cases h
 |slice t a lo hi mx=>
  simp only [cL] at h;obtain ⟨h1,h2⟩:=bGf h;simp [Op.operands] at hx;rcases hx with rfl|hx|hx|hx
  · exact h1 j hj
  · rw [h2 x (.inl hx)] at hj;cases hj
  · rw [h2 x (.inr (.inl hx))] at hj;cases hj
  · rw [h2 x (.inr (.inr hx))] at hj;cases hj
 |call c=>
  obtain ⟨callee,args,ats⟩:=c
  cases callee with
  |builtin b=>
   cases b<;>first|(simp [aIo] at hs;done)|skip
   simp only [cL] at h;split at h
   ·
    rename_i ha;rw [List.all_eq_true] at ha;refine aM5 (ha _ (List.mem_map.2 ⟨x,?_,rfl⟩)) hj
    simpa [Op.operands,Call.operands] using hx
   · cases h
  |_=>simp [aIo] at hs
 |_=>simp [aIo] at hs
theorem bLt{ops:Array Oper}{id:Nat}{o:Oper}{s s':St}(h:gJ P true ops id o s s')(hs:aIo o.op=true):
 ∃r,s'=⟨s.n,rJ s.f o.dst r,s.H⟩∧ ∀(f':Nat→AV) (G:aM),(∀t,t∈o.looksAt ops→s.f t=f' t)→(∀x,x∈o.op.operands→ ∀j,mW (aval s.f x)=some j→s.H.ent j≠ .dead→G.ent j=s.H.ent j)→gJ P true ops id o ⟨s.n,f',G⟩ ⟨s.n,rJ f' o.dst r,G⟩:=by
 obtain ⟨hd,h⟩:=h;split at h
 · rename_i hg;subst h;refine ⟨.v undef,rfl,fun f' G hf _=>⟨hd,?_⟩⟩;have:=mL (ops:=ops) hf;rw [hg] at this;simp only [←this]
 ·
  rename_i hg;unfold aHn at h;split at h
  · rename_i f args ats ho;rw [ho] at hs;cases hs
  ·
   rename_i op hne;rcases h with ⟨r,h1,rfl⟩|⟨r,H',h1,rfl⟩|⟨r,h0,h1,rfl⟩
   · refine ⟨r,rfl,fun f' G hf hG=>⟨hd,?_⟩⟩;have e:=mL (ops:=ops) hf;rw [hg] at e;simp only [←e];refine aC9 (s:=⟨s.n,f',G⟩) ?_;rw [←h1];exact (aCu (rM hf) fun x hx j hj=>(hG x hx j hj (bLu hs h1 x hx j hj)).symm).symm
   ·
    exfalso
    cases ho:o.op<;>rw [ho] at h1 hs<;>first|(simp [aIo] at hs;done)|(simp [kO] at h1;done)|skip
    rename_i c;obtain ⟨callee,args,ats⟩:=c
    cases callee with
    |builtin b=>cases b<;>first|(simp [aIo] at hs;done)|(simp [kO] at h1;done)
    |_=>simp [aIo] at hs
   ·
    refine ⟨r,rfl,fun f' G hf hG=>⟨hd,?_⟩⟩;have e:=mL (ops:=ops) hf;rw [hg] at e;simp only [←e];have hop:=rM hf;refine aCz (s:=⟨s.n,f',G⟩) (fun x hx=>by rw [←hop x hx];exact h0 x hx) (fun o' w X ρ h2 h3 h4=>h1 o' w X ρ h2 h3 (fun x hx=>by rw [hop x hx];exact h4 x hx)) ?_;unfold xT;split
    · rename_i f args ats ho;exact absurd ho (by intro ho;exact hne _ _ _ ho)
    · rfl
 · exact h.elim
section
variable {ops:Array Oper}
end
end Go.AM
