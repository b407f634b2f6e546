/- Facts. No condition. -/
import Derived.Test.YtkdohhmacfoolaaGreatDoorOcLds
set_option linter.unusedVariables false
set_option linter.unusedSimpArgs false
set_option maxRecDepth 20000
set_option maxHeartbeats 4000000
namespace Go.Proofs.YtkdohhmacfoolaaGreatDoor
open Go.Proofs.Tryz Go Go.AM
attribute [local irreducible] bF
structure aM4 where
 Tier:Int
 V:Int
deriving DecidableEq
def aTv(e:aM4):List AV:=[.v (.int .i64 e.Tier),.v (.int .i64 e.V)]
@[go_sem] theorem aL9(e:aM4)(r:List AV):aTv e++r= .v (.int .i64 e.Tier):: .v (.int .i64 e.V)::r:=rfl
structure zR where
 Gone:Bool
 U:Int
 V:Int
deriving DecidableEq
def aGc(e:zR):List AV:=[.v (.bool e.Gone),.v (.int .i64 e.U),.v (.int .i64 e.V)]
@[go_sem] theorem aC1(e:zR)(r:List AV):aGc e++r= .v (.bool e.Gone):: .v (.int .i64 e.U):: .v (.int .i64 e.V)::r:=rfl
@[go_sem] theorem bB8(i o:Nat):aN prog 23 (.adr i o) 0=some (.adr i (o+0)):=by kernel_rfl
@[go_sem] theorem bBd(i o:Nat):aN prog 23 (.adr i o) 1=some (.adr i (o+1)):=by kernel_rfl
@[go_sem] theorem bBh(i o:Nat):aN prog 23 (.adr i o) 2=some (.adr i (o+2)):=by kernel_rfl
@[go_sem] theorem bBl(i o:Nat):aN prog 30 (.adr i o) 0=some (.adr i (o+0)):=by kernel_rfl
@[go_sem] theorem bBs(i o:Nat):aN prog 30 (.adr i o) 2=some (.adr i (o+4)):=by kernel_rfl
@[go_sem] theorem bC7(i o:Nat):aN prog 61 (.adr i o) 0=some (.adr i (o+0)):=by kernel_rfl
@[go_sem] theorem bCd(i o:Nat):aN prog 61 (.adr i o) 1=some (.adr i (o+1)):=by kernel_rfl
@[go_sem] theorem bCj(i o:Nat):aN prog 61 (.adr i o) 2=some (.adr i (o+2)):=by kernel_rfl
@[go_sem] theorem bJb(H:aG)(x:AV)(xs:List AV):cE prog H 28 (.ptr (x::xs))=some x:=by kernel_rfl
@[go_sem] theorem bN2(H:aG)(x:AV)(xs:List AV):cE prog H 3 (.ptr (x::xs))=some x:=by kernel_rfl
@[go_sem] theorem bJg(H:aG)(x0 x1 x2 x3 x4:AV)(xs:List AV):cE prog H 30 (.ptr (x0::x1::x2::x3::x4::xs))=some (.agg [x0,x1,x2,x3,x4]):=by kernel_rfl
@[go_sem] theorem bJx(H:aG)(x0 x1 x2:AV)(xs:List AV):cE prog H 61 (.ptr (x0::x1::x2::xs))=some (.agg [x0,x1,x2]):=by kernel_rfl
def sH(rec1:List aC→Int→List Int→List aC→Int→Option ((List aC)×Int))(l_1:List aC)(v_3:Int)(aCc:List Int)(aCo:List aC)(aVw:Int):Option ((List aC)×Int):=
 (bif (aVw !=v_3) then
  ((idx aCc aVw).bind fun x10=>
  (bif (decide (x10<0)) then
   some ([],3)
  else
   ((idx aCc aVw).bind fun x12=>
   ((idx l_1 x12).bind fun x14=>
   ((app aCo [x14]).bind fun l16=>
   ((oG x14 aVw).bind fun r18=>
   rec1 l_1 v_3 aCc l16 r18))))))
 else
  some (aCo,0))
def lE:Nat→List aC→Int→List Int→List aC→Int→Option ((List aC)×Int)
 |0=>fun _ _ _ _ _=>none
 |n+1=>sH (lE n)
def nB(n_0:Int)(l_1:List aC)(u_2:Int)(v_3:Int):Option ((List aC)×Int):=
 ((lF n_0 l_1).bind fun r2=>
 ((gO ((!r2)==false) false (pU n_0 u_2)).bind fun r4=>
 ((gO (((!r2)||(!r4))==false) false (pU n_0 v_3)).bind fun r6=>
 (bif (((!r2)||(!r4))||(!r6)) then
  some ([],1)
 else
  ((oF n_0 l_1 v_3).bind fun r8=>
  lE bF l_1 v_3 r8 [] u_2)))))
theorem aUa{n_0:Int}{l_1:List aC}{u_2:Int}{v_3:Int}{r:(List aC)×Int}(hm:nB n_0 l_1 u_2 v_3=some r):bN prog 174 [vi n_0,vl aU l_1,vi u_2,vi v_3] (.tup [vl aU r.1,vi r.2]):=by
 refine bd 58 func174 ?_;obtain ⟨r2,h1,hm⟩:=bnd hm;refine W ?_;refine cq (aHx h1) ?_;obtain ⟨r4,h3,hm⟩:=bnd hm;refine W ?_;refine cg (fun hb=>aAq (fP h3 hb)) ?_;obtain ⟨r6,h5,hm⟩:=bnd hm;refine W ?_;refine cg (fun hb=>aAq (fP h5 hb)) ?_;refine W ?_;refine cm hm (fun hm=>?_) fun hm=>?_
 · exact E
 obtain ⟨r8,h7,hm⟩:=bnd hm;refine W ?_;refine cq (aHw h7) ?_;refine W ?_;refine lp (fun m s=> ∃l_1 v_3 aCc aCo aVw,s=⟨58,(aF (aF (aF (aF (aF fa 1 (vl aU l_1)) 3 (vi v_3)) 10 (vl (ci .i64) aCc)) 11 (.own 1 0 aCo.length)) 12 (vi aVw)),⟨(upd bD 1 (.cells 3 (aCo.flatMap aU) 0)),64⟩⟩∧lE m l_1 v_3 aCc aCo aVw=some r) ?_ ?_
 · refine ⟨_,?_,l_1,v_3,r8,[],u_2,rfl,hm⟩;refine St.Le.trans (sL 11 900011 3 Z1 Z5) ?_;exact cn (fun j=>bif j==1 then 900011 else 0)
 rintro n1 s ⟨l_1,v_3,aCc,aCo,aVw,rfl,hm⟩;refine W ?_;refine cm hm (fun hm=>?_) fun hm=>?_
 ·
  obtain ⟨x10,h9,hm⟩:=bnd hm;refine W ?_;refine cm hm (fun hm=>?_) fun hm=>?_
  · exact E
  have hm:=sb hm h9;obtain ⟨x14,h13,hm⟩:=bnd hm;refine W ?_;refine aL bT [x14] ?_;obtain ⟨l16,h15,hm⟩:=bnd hm;obtain ⟨r18,h17,hm⟩:=bnd hm;refine W ?_;refine cq (aC9 h17) ?_;refine W ?_;exact Lr (fun j=>bif j==1 then 259 else 0)
 exact E
instance:Ct prog 174 (K4 prog vi (vl aU) vi vi (t2 (vl aU) vi) 174 nB):=⟨fun hm=>aUa hm⟩
abbrev kU(gJ:Int)(g_3:aH)(t6:aH)(e_7:aC)(n_9:Int):Option (aH):=
 ((uH n_9 g_3.Edges e_7.U e_7.V (IntKind.i64.wrap (gJ+1))).bind fun ⟨r9,r10⟩=>
 some (aH.mk g_3.Config g_3.Hashes r9))
def mH(g_0:aH)(gJ:Int)(v_2:Int):Option (aH):=
 ((oP g_0 gJ v_2).bind fun r2=>
 ((oP g_0 (IntKind.i64.wrap (gJ+1)) v_2).bind fun r4=>
 (bif ((r2.length:Int) !=(r4.length:Int)) then
  some g_0
 else
  ((nM g_0 gJ v_2).bind fun ⟨r6,r7⟩=>
  (bif (!r7) then
   some g_0
  else
   (bif (r6.Tier==0) then
    ((iN g_0.Config.N g_0.Edges g_0.Config.L).bind fun r12=>
    ((nB g_0.Config.N r12 r6.U r6.V).bind fun ⟨r14,r15⟩=>
    ((jP r14).bind fun ⟨r17,r18⟩=>
    (bif (r18&&(r15==0)) then
     ((uH g_0.Config.N g_0.Edges r17.U r17.V 0).bind fun ⟨r20,r21⟩=>
     kU gJ (aH.mk g_0.Config g_0.Hashes r20) (aH.mk (aY.mk 0 0 0) [] []) r6 g_0.Config.N)
    else
     kU gJ g_0 (aH.mk (aY.mk 0 0 0) [] []) r6 g_0.Config.N))))
   else
    kU gJ g_0 (aH.mk (aY.mk 0 0 0) [] []) r6 g_0.Config.N))))))
theorem aPd:K3 prog cU vi vi cU 143 mH:=fun hm=>be 98 func143 (h:=G)
instance:Ct prog 143 (K3 prog cU vi vi cU 143 mH):=⟨aPd⟩
def zL(rec1:Int→Int→aH→aH→Int→Int→Option (aH))(u_1:Int)(v_2:Int)(g_3:aH)(t6:aH)(t10:Int)(t11:Int):Option (aH):=
 (bif (decide (t11<t10)) then
  ((mH g_3 t11 u_1).bind fun r2=>
  ((mH r2 t11 v_2).bind fun r4=>
  rec1 u_1 v_2 r4 t6 t10 (IntKind.i64.wrap (t11+1))))
 else
  some g_3)
def nT:Nat→Int→Int→aH→aH→Int→Int→Option (aH)
 |0=>fun _ _ _ _ _ _=>none
 |n+1=>zL (nT n)
def qP(g_0:aH)(u_1:Int)(v_2:Int):Option (aH):=
 nT bF u_1 v_2 g_0 (aH.mk (aY.mk 0 0 0) [] []) g_0.Config.L 0
theorem aPc:K3 prog cU vi vi cU 100 qP:=by
 intro g_0 u_1 v_2 r hm
 let I1:=((fun m s=> ∃u_1 v_2 g_3 t6 t10 t11,s=⟨24,(aF (aF (aF (aF (aF (aF fa 1 (vi u_1)) 2 (vi v_2)) 3 (.adr 1 0)) 6 (.adr 2 0)) 10 (vi t10)) 11 (vi t11)),⟨(upd (upd bD 1 (.cells 1 [vi g_3.Config.N,vi g_3.Config.L,vi g_3.Config.R,vl bS g_3.Hashes,vl aU g_3.Edges] 0)) 2 (.cells 1 [vi t6.Config.N,vi t6.Config.L,vi t6.Config.R,vl bS t6.Hashes,vl aU t6.Edges] 0)),64⟩⟩∧nT m u_1 v_2 g_3 t6 t10 t11=some r):Nat→St→Prop)
 exact be 24 func100 (h:=G)
instance:Ct prog 100 (K3 prog cU vi vi cU 100 qP):=⟨aPc⟩
def qO(g_0:aH)(u_1:Int)(v_2:Int):Option (aH×Int):=
 ((rT g_0 u_1 v_2).bind fun r2=>
 (bif (!r2) then
  some (g_0,1)
 else
  ((zH g_0.Config.N g_0.Edges u_1 v_2).bind fun ⟨r4,r5⟩=>
  (bif (r5 !=0) then
   some (g_0,r5)
  else
   ((qP (aH.mk g_0.Config g_0.Hashes r4) u_1 v_2).bind fun r7=>
   some (r7,0))))))
theorem aPb:K3 prog cU vi vi (t2 cU vi) 52 qO:=fun hm=>be 37 func52 (h:=G)
instance:Ct prog 52 (K3 prog cU vi vi (t2 cU vi) 52 qO):=⟨aPb⟩
def qN(g_0:aH)(u_1:Int)(v_2:Int):Option (aH×Int):=
 ((rT g_0 u_1 v_2).bind fun r2=>
 (bif (!r2) then
  some (g_0,1)
 else
  ((qL g_0.Config.N g_0.Edges u_1 v_2).bind fun ⟨r4,r5⟩=>
  (bif (r5 !=0) then
   some (g_0,r5)
  else
   ((qP (aH.mk g_0.Config g_0.Hashes r4) u_1 v_2).bind fun r7=>
   some (r7,0))))))
theorem aPa:K3 prog cU vi vi (t2 cU vi) 50 qN:=fun hm=>be 37 func50 (h:=G)
instance:Ct prog 50 (K3 prog cU vi vi (t2 cU vi) 50 qN):=⟨aPa⟩
attribute [local semireducible] bF
end Go.Proofs.YtkdohhmacfoolaaGreatDoor
set_option maxRecDepth 4000
namespace Go.AM
open Go.RowKit
attribute [local semireducible] aV KN aB7 tL AIn AWp cC
variable {P:Program}
def uB(op:Op):Bool:=match op with| .fieldAddr .. | .load .. | .indexAddr .. | .slice .. | .call { callee:= .builtin .len,.. } =>true|_=>false
def aH9(op:Op):Bool:=match op with| .call { callee:= .builtin .append,.. } =>true|_=>false
def bLf(T:List Nat)(ops:Array Oper)(p i:Nat):Bool:=
  aHl T ops p i||match ops[p]?,ops[i]? with
  |some op,some oi=>op.apart ops oi&&aH9 op.op&&uB oi.op
  |_,_=>false
theorem aG6{H:aG}{x:AV}{j:Nat}(h:H.alive x=true)(hj:dJ x=some j):H.ent j≠ .dead:=by
 intro hd;cases x<;>simp [dJ] at hj<;>subst hj<;>simp [aG.alive,hd] at h
theorem aWa{d n:Nat}{x:AV}(h:eQ d (some x)=some n):dJ x=none:=by
 cases x with
 |v y=>rfl
 |_=>simp [eQ] at h
theorem mA{ρ:Operand→AV}{d n:Nat}{o:Option Operand}{x:Operand}(h:eQ d (o.map ρ)=some n)(hx:x∈o):dJ (ρ x)=none:=by
 cases hx;exact aWa h
theorem aYk{H:aG}{ρ:Operand→AV}{t:TypeId}{a:Operand}{lo hi mx:Option Operand}{r:AV}(h:rX P H t (ρ a) (lo.map ρ) (hi.map ρ) (mx.map ρ)=some r):
 (∀j,dJ (ρ a)=some j→H.ent j≠ .dead)∧(∀x,x∈lo∨x∈hi∨x∈mx→dJ (ρ x)=none):=by
 unfold rX at h;split at h
 ·
  rename_i s hu ha;split at h
  ·
   rename_i l hh h1 h2 h3;refine ⟨fun j hj=>(by rw [ha] at hj;cases hj),fun x hx=>?_⟩;rcases hx with q|q|q
   · exact mA h2 q
   · exact mA h3 q
   · cases q;cases h1
  · cases h
 ·
  rename_i e hu ha;split at h
  ·
   rename_i h1 h2 h3 h4;refine ⟨fun j hj=>(by rw [ha] at hj;cases hj),fun x hx=>?_⟩;rcases hx with q|q|q
   · exact mA h2 q
   · exact mA h3 q
   · exact mA h4 q
  · cases h
 ·
  rename_i e xs len full hu ha;split at h
  ·
   split at h
   ·
    rename_i l hh m h2 h3 h4;refine ⟨fun j hj=>(by rw [ha] at hj;cases hj),fun x hx=>?_⟩;rcases hx with q|q|q
    · exact mA h2 q
    · exact mA h3 q
    · exact mA h4 q
   · cases h
  · cases h
 ·
  rename_i e id off len hu ha;split at h
  ·
   rename_i hent;split at h
   ·
    rename_i l hh h2 h3 h4;refine ⟨fun j hj hd=>?_,fun x hx=>?_⟩
    · rw [ha] at hj;cases hj;rw [hd] at hent;cases hent
    ·
     rcases hx with q|q|q
     · exact mA h2 q
     · exact mA h3 q
     · cases q;cases h4
   · cases h
  · cases h
 · cases h
theorem bD9{H:aG}{ρ:Operand→AV}{op:Op}{r:AV}(hs:uB op=true)(h:bE P H ρ op=some r): ∀x,x∈op.operands→ ∀j,dJ (ρ x)=some j→H.ent j≠ .dead:=by
 intro x hx j hj
 cases op with
 |fieldAddr t a f=>
  simp only [bE] at h;split at h
  · rename_i ha;simp [Op.operands] at hx;subst hx;exact aG6 ha hj
  · cases h
 |load t a=>
  simp only [bE] at h;simp [Op.operands] at hx;subst hx;intro hd;cases hv:ρ x<;>rw [hv] at h hj<;>simp [dJ] at hj<;>subst hj<;>simp [cE,hd] at h
 |indexAddr t a i=>
  simp only [bE] at h;split at h
  ·
   rename_i ha;simp [Op.operands] at hx;rcases hx with rfl|rfl
   · exact aG6 ha hj
   ·
    exfalso
    unfold jK at h;split at h<;>first|(cases h;done)|(rename_i hq;rw [hq] at hj;cases hj)
  · cases h
 |slice t a lo hi mx=>
  simp only [bE] at h;obtain ⟨h1,h2⟩:=aYk h;simp [Op.operands] at hx;rcases hx with rfl|hx|hx|hx
  · exact h1 j hj
  · rw [h2 x (.inl hx)] at hj;cases hj
  · rw [h2 x (.inr (.inl hx))] at hj;cases hj
  · rw [h2 x (.inr (.inr hx))] at hj;cases hj
 |call c=>
  obtain ⟨callee,args,ats⟩:=c
  cases callee with
  |builtin b=>
   cases b<;>first|(simp [uB] at hs;done)|skip
   simp only [bE] at h;split at h
   ·
    rename_i ha;rw [List.all_eq_true] at ha;refine aG6 (ha _ (List.mem_map.2 ⟨x,?_,rfl⟩)) hj
    simpa [Op.operands,Call.operands] using hx
   · cases h
  |_=>simp [uB] at hs
 |_=>simp [uB] at hs
theorem aFd{ops:Array Oper}{id:Nat}{o:Oper}{s s':St}(h:cC P true ops id o s s')(hs:uB o.op=true):
 ∃r,s'=⟨s.n,fW s.f o.dst r,s.H⟩∧ ∀(f':Nat→AV) (G:aG),(∀t,t∈o.looksAt ops→s.f t=f' t)→(∀x,x∈o.op.operands→ ∀j,dJ (aval s.f x)=some j→s.H.ent j≠ .dead→G.ent j=s.H.ent j)→cC P true ops id o ⟨s.n,f',G⟩ ⟨s.n,fW f' o.dst r,G⟩:=by
 obtain ⟨hd,h⟩:=h;split at h
 · rename_i hg;subst h;refine ⟨.v undef,rfl,fun f' G hf _=>⟨hd,?_⟩⟩;have:=fE (ops:=ops) hf;rw [hg] at this;simp only [←this]
 ·
  rename_i hg;unfold wH at h;split at h
  · rename_i f args ats ho;rw [ho] at hs;cases hs
  ·
   rename_i op hne;rcases h with ⟨r,h1,rfl⟩|⟨r,H',h1,rfl⟩|⟨r,h0,h1,rfl⟩
   · refine ⟨r,rfl,fun f' G hf hG=>⟨hd,?_⟩⟩;have e:=fE (ops:=ops) hf;rw [hg] at e;simp only [←e];refine tU (s:=⟨s.n,f',G⟩) ?_;rw [←h1];exact (uO (jL hf) fun x hx j hj=>(hG x hx j hj (bD9 hs h1 x hx j hj)).symm).symm
   ·
    exfalso
    cases ho:o.op<;>rw [ho] at h1 hs<;>first|(simp [uB] at hs;done)|(simp [cW] at h1;done)|skip
    rename_i c;obtain ⟨callee,args,ats⟩:=c
    cases callee with
    |builtin b=>cases b<;>first|(simp [uB] at hs;done)|(simp [cW] at h1;done)
    |_=>simp [uB] at hs
   ·
    refine ⟨r,rfl,fun f' G hf hG=>⟨hd,?_⟩⟩;have e:=fE (ops:=ops) hf;rw [hg] at e;simp only [←e];have hop:=jL hf;refine yQ (s:=⟨s.n,f',G⟩) (fun x hx=>by rw [←hop x hx];exact h0 x hx) (fun o' w X ρ h2 h3 h4=>h1 o' w X ρ h2 h3 (fun x hx=>by rw [hop x hx];exact h4 x hx)) ?_;unfold rI;split
    · rename_i f args ats ho;exact absurd ho (by intro ho;exact hne _ _ _ ho)
    · rfl
 · exact h.elim
theorem aK2{H H':aG}{id:Nat}{ts tx:TypeId}{s x r:AV}(h:rU P H id ts tx s x=some (r,H'))(j:Nat):H'.ent j=H.ent j∨H'.ent j= .dead∨(j=id∧H.isFresh id=true):=by
 by_cases hj:j=id
 ·
  subst hj;refine .inr (.inr ⟨rfl,?_⟩);unfold rU at h;split at h
  ·
   split at h
   ·
    split at h
    ·
     split at h
     · rename_i q;exact q.1
     · cases h
    · cases h
   ·
    split at h
    ·
     split at h
     ·
      split at h
      · rename_i q;exact q.1
      · cases h
     · cases h
    · cases h
  · cases h
 ·
  unfold rU at h;split at h
  ·
   split at h
   ·
    split at h
    ·
     split at h
     · cases h;exact .inl (upd_ne _ _ _ _ hj)
     · cases h
    · cases h
   ·
    split at h
    ·
     split at h
     ·
      split at h
      ·
       cases h;rename_i oid _ _ _ _ _;have e: ∀(G:aG) (e:Ent),(G.put id e).ent j=G.ent j:=fun G e=>upd_ne _ _ _ _ hj;rw [e];split
       ·
        rename_i k _ _
        by_cases hk:j=k
        · subst hk;exact .inr (.inl (by simp [aG.put,upd]))
        · exact .inl (upd_ne _ _ _ _ hk)
       · exact .inl rfl
      · cases h
     · cases h
    · cases h
  · cases h
theorem bI7{ops:Array Oper}{id:Nat}{o:Oper}{s s':St}(h:cC P true ops id o s s')(hs:aH9 o.op=true)(j:Nat):s'.H.ent j=s.H.ent j∨s'.H.ent j= .dead∨(j=id∧s.H.isFresh id=true):=by
 obtain ⟨hd,h⟩:=h;split at h
 · subst h;exact .inl rfl
 ·
  unfold wH at h;split at h
  · rename_i f args ats ho;rw [ho] at hs;cases hs
  ·
   rename_i op hne;rcases h with ⟨r,h1,rfl⟩|⟨r,H',h1,rfl⟩|⟨r,h0,h1,rfl⟩
   · exact .inl rfl
   ·
    cases ho:o.op<;>rw [ho] at h1 hs<;>first|(simp [aH9] at hs;done)|skip
    rename_i c;obtain ⟨callee,args,ats⟩:=c
    cases callee with
    |builtin b=>
     cases b<;>first|(simp [aH9] at hs;done)|skip
     simp only [cW] at h1;split at h1
     · exact aK2 h1 j
     · cases h1
    |_=>simp [aH9] at hs
   · exact .inl rfl
 · exact h.elim
theorem bEa{op:Op}(h:aH9 op=true):aFn op=true:=by
 unfold aH9 at h;split at h
 · rfl
 · cases h
theorem aOn{C:Ctx}{ops:Array Oper}{ip ii:Nat}{p i:Oper}{s s1 s2:St}{a:Act}{w:World}(hr:Real C s a w)(hp:cC P true ops ip p s s1)(hi:cC P true ops ii i s1 s2)
 (hap:p.apart ops i=true) (hcp:aH9 p.op=true) (hci:uB i.op=true): ∃t,cC P true ops ii i s t∧cC P true ops ip p t s2:=by
 obtain ⟨d1,d2,d3⟩:=Oper.apart_spec hap;have hE:=bI7 hp hcp;obtain ⟨rp,H',e1,tp⟩:=aAk hp (bEa hcp);subst e1;obtain ⟨ri,e2,ti⟩:=aFd hi hci;subst e2
 have hopi: ∀x,x∈i.op.operands→aval (fW s.f p.dst rp) x=aval s.f x:=by
  intro x hx
  cases x with
  |tmp t=>exact cQ d1 t (List.mem_append_left _ (List.mem_filterMap.2 ⟨.tmp t,by simpa using hx,rfl⟩))
  |_=>rfl
 refine ⟨_,ti s.f s.H (fun t ht=>cQ d1 t ht) (fun x hx j hj hnd=>?_),?_⟩
 ·
  simp only [] at hj hnd;rw [hopi x hx] at hj;have hnf:=hr.notFresh hj;rcases hE j with q|q|⟨rfl,q⟩
  · exact q.symm
  · exact absurd q hnd
  · exact absurd (aG.isFresh_eq q) hnf
 · have:=tp (fW s.f i.dst ri) (fun t ht=>(cQ d3 t ht).symm);rw [←kO s.f p.dst i.dst rp ri d2] at this;exact this
section
variable {ops:Array Oper}
end
end Go.AM
