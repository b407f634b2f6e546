/- Facts. No condition. -/
import Derived.Test.YtkdohhmacfoolaaGreatNpLds
set_option linter.unusedVariables false
set_option linter.unusedSimpArgs false
set_option maxRecDepth 20000
set_option maxHeartbeats 4000000
namespace Go.Proofs.YtkdohhmacfoolaaGreat
open Go.Proofs.Tryz Go Go.AM
attribute [local irreducible] bC
@[go_sem] theorem bDk(i o:Nat):aO prog 102 (.adr i o) 0=some (.adr i (o+0)):=by kernel_rfl
@[go_sem] theorem bDq(i o:Nat):aO prog 102 (.adr i o) 1=some (.adr i (o+1)):=by kernel_rfl
@[go_sem] theorem bDw(i o:Nat):aO prog 102 (.adr i o) 2=some (.adr i (o+2)):=by kernel_rfl
@[go_sem] theorem bIh(i o:Nat):aO prog 23 (.adr i o) 0=some (.adr i (o+0)):=by kernel_rfl
@[go_sem] theorem bIo(i o:Nat):aO prog 23 (.adr i o) 1=some (.adr i (o+1)):=by kernel_rfl
@[go_sem] theorem bIz(i o:Nat):aO prog 30 (.adr i o) 0=some (.adr i (o+0)):=by kernel_rfl
@[go_sem] theorem bJ9(i o:Nat):aO prog 30 (.adr i o) 2=some (.adr i (o+4)):=by kernel_rfl
@[go_sem] theorem bN0(H:aM)(x0 x1 x2:AV)(xs:List AV):dD prog H 102 (.ptr (x0::x1::x2::xs))=some (.agg [x0,x1,x2]):=by kernel_rfl
@[go_sem] theorem bQe(H:aM)(x:AV)(xs:List AV):dD prog H 28 (.ptr (x::xs))=some x:=by kernel_rfl
@[go_sem] theorem bU2(H:aM)(x:AV)(xs:List AV):dD prog H 3 (.ptr (x::xs))=some x:=by kernel_rfl
@[go_sem] theorem bQk(H:aM)(x0 x1 x2 x3 x4:AV)(xs:List AV):dD prog H 30 (.ptr (x0::x1::x2::x3::x4::xs))=some (.agg [x0,x1,x2,x3,x4]):=by kernel_rfl
def aB1(rec1:List aH→Int→List Int→List aH→Int→Option ((List aH)×Int))(l_1:List aH)(v_3:Int)(aHs:List Int)(aI3:List aH)(bBr:Int):Option ((List aH)×Int):=
 (bif (bBr !=v_3) then
  ((idx aHs bBr).bind fun x10=>
  (bif (decide (x10<0)) then
   some ([],3)
  else
   ((idx aHs bBr).bind fun x12=>
   ((idx l_1 x12).bind fun x14=>
   ((app aI3 [x14]).bind fun l16=>
   ((xL x14 bBr).bind fun r18=>
   rec1 l_1 v_3 aHs l16 r18))))))
 else
  some (aI3,0))
def tH:Nat→List aH→Int→List Int→List aH→Int→Option ((List aH)×Int)
 |0=>fun _ _ _ _ _=>none
 |n+1=>aB1 (tH n)
def vU(n_0:Int)(l_1:List aH)(u_2:Int)(v_3:Int):Option ((List aH)×Int):=
 ((tJ n_0 l_1).bind fun r2=>
 ((fG ((!r2)==false) false (yS n_0 u_2)).bind fun r4=>
 ((fG (((!r2)||(!r4))==false) false (yS n_0 v_3)).bind fun r6=>
 (bif (((!r2)||(!r4))||(!r6)) then
  some ([],1)
 else
  ((xK n_0 l_1 v_3).bind fun r8=>
  tH bC l_1 v_3 r8 [] u_2)))))
theorem aZr{n_0:Int}{l_1:List aH}{u_2:Int}{v_3:Int}{r:(List aH)×Int}(hm:vU n_0 l_1 u_2 v_3=some r):dU prog 170 [vi n_0,vl bE l_1,vi u_2,vi v_3] (.tup [vl bE r.1,vi r.2]):=by
 refine bd 58 func170 ?_;obtain ⟨r2,h1,hm⟩:=bnd hm;refine W ?_;refine cq (aMy h1) ?_;obtain ⟨r4,h3,hm⟩:=bnd hm;refine W ?_;refine cg (fun hb=>aGc (bK h3 hb)) ?_;obtain ⟨r6,h5,hm⟩:=bnd hm;refine W ?_;refine cg (fun hb=>aGc (bK h5 hb)) ?_;refine W ?_;refine cm hm (fun hm=>?_) fun hm=>?_
 · exact E
 obtain ⟨r8,h7,hm⟩:=bnd hm;refine W ?_;refine cq (aMx h7) ?_;refine W ?_;refine lp (fun m s=> ∃l_1 v_3 aHs aI3 bBr,s=⟨58,(aF (aF (aF (aF (aF fa 1 (vl bE l_1)) 3 (vi v_3)) 10 (vl (ci .i64) aHs)) 11 (.own 1 0 aI3.length)) 12 (vi bBr)),⟨(upd bQ 1 (.cells 3 (aI3.flatMap bE) 0)),64⟩⟩∧tH m l_1 v_3 aHs aI3 bBr=some r) ?_ ?_
 · refine ⟨_,?_,l_1,v_3,r8,[],u_2,rfl,hm⟩;refine St.Le.trans (aHr 11 900011 3 Z1 Z5) ?_;exact cn (fun j=>bif j==1 then 900011 else 0)
 rintro n1 s ⟨l_1,v_3,aHs,aI3,bBr,rfl,hm⟩;refine W ?_;refine cm hm (fun hm=>?_) fun hm=>?_
 ·
  obtain ⟨x10,h9,hm⟩:=bnd hm;refine W ?_;refine cm hm (fun hm=>?_) fun hm=>?_
  · exact E
  have hm:=sb hm h9;obtain ⟨x14,h13,hm⟩:=bnd hm;refine W ?_;refine aL dT [x14] ?_;obtain ⟨l16,h15,hm⟩:=bnd hm;obtain ⟨r18,h17,hm⟩:=bnd hm;refine W ?_;refine cq (aHn h17) ?_;refine W ?_;exact Lr (fun j=>bif j==1 then 259 else 0)
 exact E
instance:Ct prog 170 (K4 prog vi (vl bE) vi vi (t2 (vl bE) vi) 170 vU):=⟨fun hm=>aZr hm⟩
abbrev sV(nT:Int)(g_3:aU)(t6:aU)(e_7:aH)(n_9:Int):Option (aU):=
 ((aCd n_9 g_3.Edges e_7.U e_7.V (IntKind.i64.wrap (nT+1))).bind fun ⟨r9,r10⟩=>
 some (aU.mk g_3.Config g_3.Hashes r9))
def vG(g_0:aU)(nT:Int)(v_2:Int):Option (aU):=
 ((xU g_0 nT v_2).bind fun r2=>
 ((xU g_0 (IntKind.i64.wrap (nT+1)) v_2).bind fun r4=>
 (bif ((r2.length:Int) !=(r4.length:Int)) then
  some g_0
 else
  ((wF g_0 nT v_2).bind fun ⟨r6,r7⟩=>
  (bif (!r7) then
   some g_0
  else
   (bif (r6.Tier==0) then
    ((nY g_0.Config.N g_0.Edges g_0.Config.L).bind fun r12=>
    ((vU g_0.Config.N r12 r6.U r6.V).bind fun ⟨r14,r15⟩=>
    ((rH r14).bind fun ⟨r17,r18⟩=>
    (bif (r18&&(r15==0)) then
     ((aCd g_0.Config.N g_0.Edges r17.U r17.V 0).bind fun ⟨r20,r21⟩=>
     sV nT (aU.mk g_0.Config g_0.Hashes r20) (aU.mk (bY.mk 0 0 0) [] []) r6 g_0.Config.N)
    else
     sV nT g_0 (aU.mk (bY.mk 0 0 0) [] []) r6 g_0.Config.N))))
   else
    sV nT g_0 (aU.mk (bY.mk 0 0 0) [] []) r6 g_0.Config.N))))))
theorem aUk:K3 prog fX vi vi fX 141 vG:=fun hm=>be 98 func141 (h:=G)
instance:Ct prog 141 (K3 prog fX vi vi fX 141 vG):=⟨aUk⟩
def aFb(rec1:Int→Int→aU→aU→Int→Int→Option (aU))(u_1:Int)(v_2:Int)(g_3:aU)(t6:aU)(t10:Int)(t11:Int):Option (aU):=
 (bif (decide (t11<t10)) then
  ((vG g_3 t11 u_1).bind fun r2=>
  ((vG r2 t11 v_2).bind fun r4=>
  rec1 u_1 v_2 r4 t6 t10 (IntKind.i64.wrap (t11+1))))
 else
  some g_3)
def wU:Nat→Int→Int→aU→aU→Int→Int→Option (aU)
 |0=>fun _ _ _ _ _ _=>none
 |n+1=>aFb (wU n)
def zL(g_0:aU)(u_1:Int)(v_2:Int):Option (aU):=
 wU bC u_1 v_2 g_0 (aU.mk (bY.mk 0 0 0) [] []) g_0.Config.L 0
theorem aUj:K3 prog fX vi vi fX 117 zL:=by
 intro g_0 u_1 v_2 r hm
 let I1:=((fun m s=> ∃u_1 v_2 g_3 t6 t10 t11,s=⟨24,(aF (aF (aF (aF (aF (aF fa 1 (vi u_1)) 2 (vi v_2)) 3 (.adr 1 0)) 6 (.adr 2 0)) 10 (vi t10)) 11 (vi t11)),⟨(upd (upd bQ 1 (.cells 1 [vi g_3.Config.N,vi g_3.Config.L,vi g_3.Config.R,vl dX g_3.Hashes,vl bE g_3.Edges] 0)) 2 (.cells 1 [vi t6.Config.N,vi t6.Config.L,vi t6.Config.R,vl dX t6.Hashes,vl bE t6.Edges] 0)),64⟩⟩∧wU m u_1 v_2 g_3 t6 t10 t11=some r):Nat→St→Prop)
 exact be 24 func117 (h:=G)
instance:Ct prog 117 (K3 prog fX vi vi fX 117 zL):=⟨aUj⟩
def zK(g_0:aU)(u_1:Int)(v_2:Int):Option (aU×Int):=
 ((aAg g_0 u_1 v_2).bind fun r2=>
 (bif (!r2) then
  some (g_0,1)
 else
  ((aF7 g_0.Config.N g_0.Edges u_1 v_2).bind fun ⟨r4,r5⟩=>
  (bif (r5 !=0) then
   some (g_0,r5)
  else
   ((zL (aU.mk g_0.Config g_0.Hashes r4) u_1 v_2).bind fun r7=>
   some (r7,0))))))
theorem aUi:K3 prog fX vi vi (t2 fX vi) 85 zK:=fun hm=>be 37 func85 (h:=G)
instance:Ct prog 85 (K3 prog fX vi vi (t2 fX vi) 85 zK):=⟨aUi⟩
def zJ(g_0:aU)(u_1:Int)(v_2:Int):Option (aU×Int):=
 ((aAg g_0 u_1 v_2).bind fun r2=>
 (bif (!r2) then
  some (g_0,1)
 else
  ((zH g_0.Config.N g_0.Edges u_1 v_2).bind fun ⟨r4,r5⟩=>
  (bif (r5 !=0) then
   some (g_0,r5)
  else
   ((zL (aU.mk g_0.Config g_0.Hashes r4) u_1 v_2).bind fun r7=>
   some (r7,0))))))
theorem aUh:K3 prog fX vi vi (t2 fX vi) 86 zJ:=fun hm=>be 37 func86 (h:=G)
instance:Ct prog 86 (K3 prog fX vi vi (t2 fX vi) 86 zJ):=⟨aUh⟩
attribute [local semireducible] bC
end Go.Proofs.YtkdohhmacfoolaaGreat
set_option maxRecDepth 4000
namespace Go.AM
open Go.RowKit
attribute [local semireducible] aI KN aG6 aAl AIn AWp gH
variable {P:Program}
def aI4(op:Op):Bool:=match op with| .fieldAddr .. | .load .. | .indexAddr .. | .slice .. | .call { callee:= .builtin .len,.. } =>true|_=>false
theorem aLj{H:aM}{x:AV}{j:Nat}(h:H.alive x=true)(hj:mU x=some j):H.ent j≠ .dead:=by
 intro hd;cases x<;>simp [mU] at hj<;>subst hj<;>simp [aM.alive,hd] at h
theorem bC6{d n:Nat}{x:AV}(h:mP d (some x)=some n):mU x=none:=by
 cases x with
 |v y=>rfl
 |_=>simp [mP] at h
theorem uN{ρ:Operand→AV}{d n:Nat}{o:Option Operand}{x:Operand}(h:mP d (o.map ρ)=some n)(hx:x∈o):mU (ρ x)=none:=by
 cases hx;exact bC6 h
theorem bFb{H:aM}{ρ:Operand→AV}{t:TypeId}{a:Operand}{lo hi mx:Option Operand}{r:AV}(h:aDb P H t (ρ a) (lo.map ρ) (hi.map ρ) (mx.map ρ)=some r):
 (∀j,mU (ρ a)=some j→H.ent j≠ .dead)∧(∀x,x∈lo∨x∈hi∨x∈mx→mU (ρ x)=none):=by
 unfold aDb at h;split at h
 ·
  rename_i s hu ha;split at h
  ·
   rename_i l hh h1 h2 h3;refine ⟨fun j hj=>(by rw [ha] at hj;cases hj),fun x hx=>?_⟩;rcases hx with q|q|q
   · exact uN h2 q
   · exact uN h3 q
   · cases q;cases h1
  · cases h
 ·
  rename_i e hu ha;split at h
  ·
   rename_i h1 h2 h3 h4;refine ⟨fun j hj=>(by rw [ha] at hj;cases hj),fun x hx=>?_⟩;rcases hx with q|q|q
   · exact uN h2 q
   · exact uN h3 q
   · exact uN h4 q
  · cases h
 ·
  rename_i e xs len full hu ha;split at h
  ·
   split at h
   ·
    rename_i l hh m h2 h3 h4;refine ⟨fun j hj=>(by rw [ha] at hj;cases hj),fun x hx=>?_⟩;rcases hx with q|q|q
    · exact uN h2 q
    · exact uN h3 q
    · exact uN h4 q
   · cases h
  · cases h
 ·
  rename_i e id off len hu ha;split at h
  ·
   rename_i hent;split at h
   ·
    rename_i l hh h2 h3 h4;refine ⟨fun j hj hd=>?_,fun x hx=>?_⟩
    · rw [ha] at hj;cases hj;rw [hd] at hent;cases hent
    ·
     rcases hx with q|q|q
     · exact uN h2 q
     · exact uN h3 q
     · cases q;cases h4
   · cases h
  · cases h
 · cases h
theorem bKf{H:aM}{ρ:Operand→AV}{op:Op}{r:AV}(hs:aI4 op=true)(h:cI P H ρ op=some r): ∀x,x∈op.operands→ ∀j,mU (ρ x)=some j→H.ent j≠ .dead:=by
 intro x hx j hj
 cases op with
 |fieldAddr t a f=>
  simp only [cI] at h;split at h
  · rename_i ha;simp [Op.operands] at hx;subst hx;exact aLj ha hj
  · cases h
 |load t a=>
  simp only [cI] at h;simp [Op.operands] at hx;subst hx;intro hd;cases hv:ρ x<;>rw [hv] at h hj<;>simp [mU] at hj<;>subst hj<;>simp [dD,hd] at h
 |indexAddr t a i=>
  simp only [cI] at h;split at h
  ·
   rename_i ha;simp [Op.operands] at hx;rcases hx with rfl|rfl
   · exact aLj ha hj
   ·
    exfalso
    unfold pY at h;split at h<;>first|(cases h;done)|(rename_i hq;rw [hq] at hj;cases hj)
  · cases h
 |slice t a lo hi mx=>
  simp only [cI] at h;obtain ⟨h1,h2⟩:=bFb h;simp [Op.operands] at hx;rcases hx with rfl|hx|hx|hx
  · exact h1 j hj
  · rw [h2 x (.inl hx)] at hj;cases hj
  · rw [h2 x (.inr (.inl hx))] at hj;cases hj
  · rw [h2 x (.inr (.inr hx))] at hj;cases hj
 |call c=>
  obtain ⟨callee,args,ats⟩:=c
  cases callee with
  |builtin b=>
   cases b<;>first|(simp [aI4] at hs;done)|skip
   simp only [cI] at h;split at h
   ·
    rename_i ha;rw [List.all_eq_true] at ha;refine aLj (ha _ (List.mem_map.2 ⟨x,?_,rfl⟩)) hj
    simpa [Op.operands,Call.operands] using hx
   · cases h
  |_=>simp [aI4] at hs
 |_=>simp [aI4] at hs
theorem bKe{ops:Array Oper}{id:Nat}{o:Oper}{s s':St}(h:gH P true ops id o s s')(hs:aI4 o.op=true):
 ∃r,s'=⟨s.n,qZ s.f o.dst r,s.H⟩∧ ∀(f':Nat→AV) (G:aM),(∀t,t∈o.looksAt ops→s.f t=f' t)→(∀x,x∈o.op.operands→ ∀j,mU (aval s.f x)=some j→s.H.ent j≠ .dead→G.ent j=s.H.ent j)→gH P true ops id o ⟨s.n,f',G⟩ ⟨s.n,qZ f' o.dst r,G⟩:=by
 obtain ⟨hd,h⟩:=h;split at h
 · rename_i hg;subst h;refine ⟨.v undef,rfl,fun f' G hf _=>⟨hd,?_⟩⟩;have:=mJ (ops:=ops) hf;rw [hg] at this;simp only [←this]
 ·
  rename_i hg;unfold aH4 at h;split at h
  · rename_i f args ats ho;rw [ho] at hs;cases hs
  ·
   rename_i op hne;rcases h with ⟨r,h1,rfl⟩|⟨r,H',h1,rfl⟩|⟨r,h0,h1,rfl⟩
   · refine ⟨r,rfl,fun f' G hf hG=>⟨hd,?_⟩⟩;have e:=mJ (ops:=ops) hf;rw [hg] at e;simp only [←e];refine aC0 (s:=⟨s.n,f',G⟩) ?_;rw [←h1];exact (aCi (rD hf) fun x hx j hj=>(hG x hx j hj (bKf hs h1 x hx j hj)).symm).symm
   ·
    exfalso
    cases ho:o.op<;>rw [ho] at h1 hs<;>first|(simp [aI4] at hs;done)|(simp [kM] at h1;done)|skip
    rename_i c;obtain ⟨callee,args,ats⟩:=c
    cases callee with
    |builtin b=>cases b<;>first|(simp [aI4] at hs;done)|(simp [kM] at h1;done)
    |_=>simp [aI4] at hs
   ·
    refine ⟨r,rfl,fun f' G hf hG=>⟨hd,?_⟩⟩;have e:=mJ (ops:=ops) hf;rw [hg] at e;simp only [←e];have hop:=rD hf;refine aCn (s:=⟨s.n,f',G⟩) (fun x hx=>by rw [←hop x hx];exact h0 x hx) (fun o' w X ρ h2 h3 h4=>h1 o' w X ρ h2 h3 (fun x hx=>by rw [hop x hx];exact h4 x hx)) ?_;unfold xI;split
    · rename_i f args ats ho;exact absurd ho (by intro ho;exact hne _ _ _ ho)
    · rfl
 · exact h.elim
section
variable {ops:Array Oper}
end
end Go.AM
