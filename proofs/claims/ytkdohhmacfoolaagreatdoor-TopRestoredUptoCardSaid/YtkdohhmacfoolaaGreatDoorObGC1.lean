/- Facts. No condition. -/
import Derived.Test.YtkdohhmacfoolaaGreatDoorObLds
set_option linter.unusedVariables false
set_option linter.unusedSimpArgs false
set_option maxRecDepth 20000
set_option maxHeartbeats 4000000
namespace Go.Proofs.YtkdohhmacfoolaaGreatDoor
open Go.Proofs.Tryz Go Go.AM
attribute [local irreducible] bC
structure cG where
 Tier:Int
 V:Int
deriving DecidableEq
def kU(e:cG):List AV:=[.v (.int .i64 e.Tier),.v (.int .i64 e.V)]
theorem aKc:CF kU 2:=⟨fun _=>rfl,fun a x hx=>by
 simp only [kU,List.mem_cons,List.not_mem_nil,or_false] at hx;rcases hx with rfl|rfl
 · exact (.v _)
 · exact (.v _),fun _=>rfl⟩
instance:CC kU 2:=⟨aKc⟩
@[go_sem] theorem aP2(e:cG)(r:List AV):kU e++r= .v (.int .i64 e.Tier):: .v (.int .i64 e.V)::r:=rfl
structure aC1 where
 Gone:Bool
 U:Int
 V:Int
deriving DecidableEq
def aJg(e:aC1):List AV:=[.v (.bool e.Gone),.v (.int .i64 e.U),.v (.int .i64 e.V)]
@[go_sem] theorem aEn(e:aC1)(r:List AV):aJg e++r= .v (.bool e.Gone):: .v (.int .i64 e.U):: .v (.int .i64 e.V)::r:=rfl
@[go_sem] theorem bFq(i o:Nat):aM prog 23 (.adr i o) 0=some (.adr i (o+0)):=by kernel_rfl
@[go_sem] theorem bFx(i o:Nat):aM prog 23 (.adr i o) 1=some (.adr i (o+1)):=by kernel_rfl
@[go_sem] theorem bG4(i o:Nat):aM prog 23 (.adr i o) 2=some (.adr i (o+2)):=by kernel_rfl
@[go_sem] theorem bGa(i o:Nat):aM prog 30 (.adr i o) 0=some (.adr i (o+0)):=by kernel_rfl
@[go_sem] theorem bGj(i o:Nat):aM prog 30 (.adr i o) 2=some (.adr i (o+4)):=by kernel_rfl
@[go_sem] theorem bH6(i o:Nat):aM prog 61 (.adr i o) 0=some (.adr i (o+0)):=by kernel_rfl
@[go_sem] theorem bHc(i o:Nat):aM prog 61 (.adr i o) 1=some (.adr i (o+1)):=by kernel_rfl
@[go_sem] theorem bHi(i o:Nat):aM prog 61 (.adr i o) 2=some (.adr i (o+2)):=by kernel_rfl
@[go_sem] theorem bOe(H:aI)(x:AV)(xs:List AV):bW prog H 28 (.ptr (x::xs))=some x:=by kernel_rfl
@[go_sem] theorem bSc(H:aI)(x:AV)(xs:List AV):bW prog H 3 (.ptr (x::xs))=some x:=by kernel_rfl
@[go_sem] theorem bOk(H:aI)(x0 x1 x2 x3 x4:AV)(xs:List AV):bW prog H 30 (.ptr (x0::x1::x2::x3::x4::xs))=some (.agg [x0,x1,x2,x3,x4]):=by kernel_rfl
@[go_sem] theorem bP7(H:aI)(x0 x1 x2:AV)(xs:List AV):bW prog H 61 (.ptr (x0::x1::x2::xs))=some (.agg [x0,x1,x2]):=by kernel_rfl
def uW(rec1:List aD→Int→List Int→List aD→Int→Option ((List aD)×Int))(l_1:List aD)(v_3:Int)(aF0:List Int)(aFe:List aD)(bA4:Int):Option ((List aD)×Int):=
 (bif (bA4 !=v_3) then
  ((idx aF0 bA4).bind fun x10=>
  (bif (decide (x10<0)) then
   some ([],3)
  else
   ((idx aF0 bA4).bind fun x12=>
   ((idx l_1 x12).bind fun x14=>
   ((app aFe [x14]).bind fun l16=>
   ((rC x14 bA4).bind fun r18=>
   rec1 l_1 v_3 aF0 l16 r18))))))
 else
  some (aFe,0))
def mP:Nat→List aD→Int→List Int→List aD→Int→Option ((List aD)×Int)
 |0=>fun _ _ _ _ _=>none
 |n+1=>uW (mP n)
def oX(n_0:Int)(l_1:List aD)(u_2:Int)(v_3:Int):Option ((List aD)×Int):=
 ((mQ n_0 l_1).bind fun r2=>
 ((fX ((!r2)==false) false (sC n_0 u_2)).bind fun r4=>
 ((fX (((!r2)||(!r4))==false) false (sC n_0 v_3)).bind fun r6=>
 (bif (((!r2)||(!r4))||(!r6)) then
  some ([],1)
 else
  ((qZ n_0 l_1 v_3).bind fun r8=>
  mP bC l_1 v_3 r8 [] u_2)))))
theorem aYh{n_0:Int}{l_1:List aD}{u_2:Int}{v_3:Int}{r:(List aD)×Int}(hm:oX n_0 l_1 u_2 v_3=some r):bO prog 174 [vi n_0,vl aO l_1,vi u_2,vi v_3] (.tup [vl aO r.1,vi r.2]):=by
 refine bd 58 func174 ?_;obtain ⟨r2,h1,hm⟩:=bnd hm;refine W ?_;refine cq (aL3 h1) ?_;obtain ⟨r4,h3,hm⟩:=bnd hm;refine W ?_;refine cg (fun hb=>aCv (gN h3 hb)) ?_;obtain ⟨r6,h5,hm⟩:=bnd hm;refine W ?_;refine cg (fun hb=>aCv (gN h5 hb)) ?_;refine W ?_;refine cm hm (fun hm=>?_) fun hm=>?_
 · exact E
 obtain ⟨r8,h7,hm⟩:=bnd hm;refine W ?_;refine cq (aL2 h7) ?_;refine W ?_;refine lp (fun m s=> ∃l_1 v_3 aF0 aFe bA4,s=⟨58,(aE (aE (aE (aE (aE fa 1 (vl aO l_1)) 3 (vi v_3)) 10 (vl (ci .i64) aF0)) 11 (.own 1 0 aFe.length)) 12 (vi bA4)),⟨(upd aZ 1 (.cells 3 (aFe.flatMap aO) 0)),64⟩⟩∧mP m l_1 v_3 aF0 aFe bA4=some r) ?_ ?_
 · refine ⟨_,?_,l_1,v_3,r8,[],u_2,rfl,hm⟩;refine St.Le.trans (rQ 11 900011 3 Z1 Z5) ?_;exact cn (fun j=>bif j==1 then 900011 else 0)
 rintro n1 s ⟨l_1,v_3,aF0,aFe,bA4,rfl,hm⟩;refine W ?_;refine cm hm (fun hm=>?_) fun hm=>?_
 ·
  obtain ⟨x10,h9,hm⟩:=bnd hm;refine W ?_;refine cm hm (fun hm=>?_) fun hm=>?_
  · exact E
  have hm:=sb hm h9;obtain ⟨x14,h13,hm⟩:=bnd hm;refine W ?_;refine aL bT [x14] ?_;obtain ⟨l16,h15,hm⟩:=bnd hm;obtain ⟨r18,h17,hm⟩:=bnd hm;refine W ?_;refine cq (aEv h17) ?_;refine W ?_;exact Lr (fun j=>bif j==1 then 259 else 0)
 exact E
instance:Ct prog 174 (K4 prog vi (vl aO) vi vi (t2 (vl aO) vi) 174 oX):=⟨fun hm=>aYh hm⟩
abbrev mF(dX:Int)(g_3:aF)(t6:aF)(e_7:aD)(n_9:Int):Option (aF):=
 ((xI n_9 g_3.Edges e_7.U e_7.V (IntKind.i64.wrap (dX+1))).bind fun ⟨r9,r10⟩=>
 some (aF.mk g_3.Config g_3.Hashes r9))
def oB(g_0:aF)(dX:Int)(v_2:Int):Option (aF):=
 ((rL g_0 dX v_2).bind fun r2=>
 ((rL g_0 (IntKind.i64.wrap (dX+1)) v_2).bind fun r4=>
 (bif ((r2.length:Int) !=(r4.length:Int)) then
  some g_0
 else
  ((lZ g_0 dX v_2).bind fun ⟨r6,r7⟩=>
  (bif (!r7) then
   some g_0
  else
   (bif (r6.Tier==0) then
    ((gU g_0.Config.N g_0.Edges g_0.Config.L).bind fun r12=>
    ((oX g_0.Config.N r12 r6.U r6.V).bind fun ⟨r14,r15⟩=>
    ((kK r14).bind fun ⟨r17,r18⟩=>
    (bif (r18&&(r15==0)) then
     ((xI g_0.Config.N g_0.Edges r17.U r17.V 0).bind fun ⟨r20,r21⟩=>
     mF dX (aF.mk g_0.Config g_0.Hashes r20) (aF.mk (aU.mk 0 0 0) [] []) r6 g_0.Config.N)
    else
     mF dX g_0 (aF.mk (aU.mk 0 0 0) [] []) r6 g_0.Config.N))))
   else
    mF dX g_0 (aF.mk (aU.mk 0 0 0) [] []) r6 g_0.Config.N))))))
theorem aTb:K3 prog cX vi vi cX 143 oB:=fun hm=>be 98 func143 (h:=G)
instance:Ct prog 143 (K3 prog cX vi vi cX 143 oB):=⟨aTb⟩
def aBu(rec1:Int→Int→aF→aF→Int→Int→Option (aF))(u_1:Int)(v_2:Int)(g_3:aF)(t6:aF)(t10:Int)(t11:Int):Option (aF):=
 (bif (decide (t11<t10)) then
  ((oB g_3 t11 u_1).bind fun r2=>
  ((oB r2 t11 v_2).bind fun r4=>
  rec1 u_1 v_2 r4 t6 t10 (IntKind.i64.wrap (t11+1))))
 else
  some g_3)
def qM:Nat→Int→Int→aF→aF→Int→Int→Option (aF)
 |0=>fun _ _ _ _ _ _=>none
 |n+1=>aBu (qM n)
def sZ(g_0:aF)(u_1:Int)(v_2:Int):Option (aF):=
 qM bC u_1 v_2 g_0 (aF.mk (aU.mk 0 0 0) [] []) g_0.Config.L 0
theorem aTa:K3 prog cX vi vi cX 100 sZ:=by
 intro g_0 u_1 v_2 r hm
 let I1:=((fun m s=> ∃u_1 v_2 g_3 t6 t10 t11,s=⟨24,(aE (aE (aE (aE (aE (aE fa 1 (vi u_1)) 2 (vi v_2)) 3 (.adr 1 0)) 6 (.adr 2 0)) 10 (vi t10)) 11 (vi t11)),⟨(upd (upd aZ 1 (.cells 1 [vi g_3.Config.N,vi g_3.Config.L,vi g_3.Config.R,vl bI g_3.Hashes,vl aO g_3.Edges] 0)) 2 (.cells 1 [vi t6.Config.N,vi t6.Config.L,vi t6.Config.R,vl bI t6.Hashes,vl aO t6.Edges] 0)),64⟩⟩∧qM m u_1 v_2 g_3 t6 t10 t11=some r):Nat→St→Prop)
 exact be 24 func100 (h:=G)
instance:Ct prog 100 (K3 prog cX vi vi cX 100 sZ):=⟨aTa⟩
def sY(g_0:aF)(u_1:Int)(v_2:Int):Option (aF×Int):=
 ((uG g_0 u_1 v_2).bind fun r2=>
 (bif (!r2) then
  some (g_0,1)
 else
  ((aBq g_0.Config.N g_0.Edges u_1 v_2).bind fun ⟨r4,r5⟩=>
  (bif (r5 !=0) then
   some (g_0,r5)
  else
   ((sZ (aF.mk g_0.Config g_0.Hashes r4) u_1 v_2).bind fun r7=>
   some (r7,0))))))
theorem aT9:K3 prog cX vi vi (t2 cX vi) 52 sY:=fun hm=>be 37 func52 (h:=G)
instance:Ct prog 52 (K3 prog cX vi vi (t2 cX vi) 52 sY):=⟨aT9⟩
def sX(g_0:aF)(u_1:Int)(v_2:Int):Option (aF×Int):=
 ((uG g_0 u_1 v_2).bind fun r2=>
 (bif (!r2) then
  some (g_0,1)
 else
  ((sV g_0.Config.N g_0.Edges u_1 v_2).bind fun ⟨r4,r5⟩=>
  (bif (r5 !=0) then
   some (g_0,r5)
  else
   ((sZ (aF.mk g_0.Config g_0.Hashes r4) u_1 v_2).bind fun r7=>
   some (r7,0))))))
theorem aT8:K3 prog cX vi vi (t2 cX vi) 50 sX:=fun hm=>be 37 func50 (h:=G)
instance:Ct prog 50 (K3 prog cX vi vi (t2 cX vi) 50 sX):=⟨aT8⟩
def rK(g_0:aF)(dX:Int):Option ((List Int)):=
 ((gU g_0.Config.N g_0.Edges dX).bind fun r2=>
 ((pO g_0.Config.N r2).bind fun ⟨r4,r5⟩=>
 some r4))
theorem aFp{g_0:aF}{dX:Int}{r:(List Int)}(hm:rK g_0 dX=some r):bO prog 94 [.agg [vi g_0.Config.N,vi g_0.Config.L,vi g_0.Config.R,vl bI g_0.Hashes,vl aO g_0.Edges],vi dX] (vl (ci .i64) r):=by
 refine bd 22 func94 ?_;obtain ⟨r2,h1,hm⟩:=bnd hm;refine W ?_;refine cq (aDg h1) ?_;obtain ⟨⟨r4,r5⟩,h3,hm⟩:=bnd hm;refine cq (aZ4 h3) ?_;exact E
instance:Ct prog 94 (K2 prog cX vi (vl (ci .i64)) 94 rK):=⟨fun hm=>aFp hm⟩
def aD5(rec1:List Int→List Int→Int→Int→Option ((List Int)))(oF:List Int)(t9:List Int)(t10:Int)(t11:Int):Option ((List Int)):=
 (bif (decide (t11<t10)) then
  ((idx t9 t11).bind fun x4=>
  ((idx oF x4).bind fun x6=>
  ((idx oF x4).bind fun x8=>
  ((stt oF x4 (IntKind.i64.wrap (x6+1))).bind fun l10=>
  rec1 l10 t9 t10 (IntKind.i64.wrap (t11+1))))))
 else
  some oF)
def sM:Nat→List Int→List Int→Int→Int→Option ((List Int))
 |0=>fun _ _ _ _=>none
 |n+1=>aD5 (sM n)
def mZ(p_0:List Int):Option ((List Int)):=
 ((mkc (p_0.length:Int) (p_0.length:Int) 0).bind fun l2=>
 sM bC l2 p_0 (p_0.length:Int) 0)
theorem aFo{p_0:List Int}{r:(List Int)}(hm:mZ p_0=some r):bO prog 95 [vl (ci .i64) p_0] (vl (ci .i64) r):=by
 refine bd 23 func95 ?_;obtain ⟨l2,h1,hm⟩:=bnd hm;refine W ?_;refine aK (CFi .i64) h1 ?_;refine W ?_;refine lp (fun m s=> ∃oF t9 t10 t11,s=⟨23,(aE (aE (aE (aE fa 3 (.own 1 0 oF.length)) 9 (vl (ci .i64) t9)) 10 (vi t10)) 11 (vi t11)),⟨(upd aZ 1 (.cells 1 (oF.flatMap (ci .i64)) 0)),64⟩⟩∧sM m oF t9 t10 t11=some r) (Lr (fun j=>bif j==1 then 66 else 0)) ?_;rintro n1 s ⟨oF,t9,t10,t11,rfl,hm⟩;refine W ?_;refine cm hm (fun hm=>?_) fun hm=>?_
 · obtain ⟨x4,h3,hm⟩:=bnd hm;obtain ⟨x6,h5,hm⟩:=bnd hm;have hm:=sb hm h5;obtain ⟨l10,h9,hm⟩:=bnd hm;refine W ?_;have qh9:=lF h9;refine aS h9 ?_;refine W ?_;exact Lr (fun j=>bif j==1 then 1 else 0)
 exact E
instance:Ct prog 95 (K1 prog (vl (ci .i64)) (vl (ci .i64)) 95 mZ):=⟨fun hm=>aFo hm⟩
abbrev pZ(rec1:aF→List cG→Int→Int→Option ((List cG)))(rec2:aF→List cG→Int→List Int→List Int→List Int→Int→Int→List Int→Int→Int→Option ((List cG)))(g_1:aF)(jT:List cG)(jO:Int)(vG:List Int)(vS:List Int)(oM:List Int)(t18:Int)(t19:Int)(t33:List Int)(t34:Int)(t35:Int):Option ((List cG)):=
 rec2 g_1 jT jO vG vS oM t18 t19 t33 t34 (IntKind.i64.wrap (t35+1))
def aBf(rec1:aF→List cG→Int→Int→Option ((List cG)))(rec2:aF→List cG→Int→List Int→List Int→List Int→Int→Int→List Int→Int→Int→Option ((List cG)))(g_1:aF)(jT:List cG)(jO:Int)(vG:List Int)(vS:List Int)(oM:List Int)(t18:Int)(t19:Int)(t33:List Int)(t34:Int)(t35:Int):Option ((List cG)):=
 (bif (decide (t35<t34)) then
  ((idx t33 t35).bind fun x12=>
  ((fX ((t35 !=x12)==false) 0 (idx vS t35)).bind fun x14=>
  ((fX ((t35 !=x12)==false) 0 (idx vG t35)).bind fun x16=>
  ((fX ((t35 !=x12)==false) 0 (idx oM x16)).bind fun x18=>
  (bif ((t35 !=x12)||(x14 !=x18)) then
   pZ rec1 rec2 g_1 jT jO vG vS oM t18 t19 t33 t34 t35
  else
   ((lZ g_1 jO t35).bind fun ⟨r20,r21⟩=>
   (bif r21 then
    ((app jT [(cG.mk jO t35)]).bind fun l23=>
    pZ rec1 rec2 g_1 l23 jO vG vS oM t18 t19 t33 t34 t35)
   else
    pZ rec1 rec2 g_1 jT jO vG vS oM t18 t19 t33 t34 t35)))))))
 else
  rec1 g_1 jT t18 (IntKind.i64.wrap (t19+1)))
def lY(rec1:aF→List cG→Int→Int→Option ((List cG))):Nat→aF→List cG→Int→List Int→List Int→List Int→Int→Int→List Int→Int→Int→Option ((List cG))
 |0=>fun _ _ _ _ _ _ _ _ _ _ _=>none
 |n+1=>aBf rec1 (lY rec1 n)
def aBe(rec1:aF→List cG→Int→Int→Option ((List cG)))(g_1:aF)(jT:List cG)(t18:Int)(t19:Int):Option ((List cG)):=
 (bif (decide (t19<t18)) then
  ((rK g_1 t19).bind fun r4=>
  ((rK g_1 (IntKind.i64.wrap (t19+1))).bind fun r6=>
  ((mZ r4).bind fun r8=>
  ((mZ r6).bind fun r10=>
  lY rec1 bC g_1 jT t19 r6 r8 r10 t18 t19 r4 (r4.length:Int) 0))))
 else
  some jT)
def iK:Nat→aF→List cG→Int→Int→Option ((List cG))
 |0=>fun _ _ _ _=>none
 |n+1=>aBe (iK n)
def sL(g_0:aF):Option ((List cG)):=
 ((eC g_0).bind fun r2=>
 (bif (!r2) then
  some []
 else
  iK bC g_0 [] g_0.Config.L 0))
theorem aIv{g_0:aF}{r:(List cG)}(hm:sL g_0=some r):bO prog 46 [.agg [vi g_0.Config.N,vi g_0.Config.L,vi g_0.Config.R,vl bI g_0.Hashes,vl aO g_0.Edges]] (vl kU r):=by
 refine bd 74 func46 ?_;obtain ⟨r2,h1,hm⟩:=bnd hm;refine W ?_;refine cq (aDb h1) ?_;refine W ?_;refine cm hm (fun hm=>?_) fun hm=>?_
 · exact E
 refine W ?_;refine lp (fun m s=> ∃g_1 jT t18 t19,s=⟨74,(aE (aE (aE (aE fa 1 (.adr 1 0)) 3 (.own 2 0 jT.length)) 18 (vi t18)) 19 (vi t19)),⟨(upd (upd aZ 1 (.cells 1 [vi g_1.Config.N,vi g_1.Config.L,vi g_1.Config.R,vl bI g_1.Hashes,vl aO g_1.Edges] 0)) 2 (.cells 2 (jT.flatMap kU) 0)),64⟩⟩∧iK m g_1 jT t18 t19=some r) ?_ ?_
 · refine ⟨_,?_,g_0,[],g_0.Config.L,0,rfl,hm⟩;refine St.Le.trans (rQ 3 900003 2 Z1 Z5) ?_;exact cn (fun j=>bif j==1 then 0 else bif j==2 then 900003 else 0)
 rintro n1 s ⟨g_1,jT,t18,t19,rfl,hm⟩;refine W ?_;refine cm hm (fun hm=>?_) fun hm=>?_
 ·
  obtain ⟨r4,h3,hm⟩:=bnd hm;refine W ?_;refine cq (aFp h3) ?_;obtain ⟨r6,h5,hm⟩:=bnd hm;refine W ?_;refine cq (aFp h5) ?_;obtain ⟨r8,h7,hm⟩:=bnd hm;refine W ?_;refine cq (aFo h7) ?_;obtain ⟨r10,h9,hm⟩:=bnd hm;refine W ?_;refine cq (aFo h9) ?_;refine W ?_;refine lp (fun m s=> ∃g_1 jT jO vG vS oM t18 t19 t33 t34 t35,s=⟨74,(aE (aE (aE (aE (aE (aE (aE (aE (aE (aE (aE fa 1 (.adr 1 0)) 3 (.own 2 0 jT.length)) 4 (vi jO)) 6 (vl (ci .i64) vG)) 7 (vl (ci .i64) vS)) 8 (vl (ci .i64) oM)) 18 (vi t18)) 19 (vi t19)) 33 (vl (ci .i64) t33)) 34 (vi t34)) 35 (vi t35)),⟨(upd (upd aZ 1 (.cells 1 [vi g_1.Config.N,vi g_1.Config.L,vi g_1.Config.R,vl bI g_1.Hashes,vl aO g_1.Edges] 0)) 2 (.cells 2 (jT.flatMap kU) 0)),64⟩⟩∧lY (iK n1) m g_1 jT jO vG vS oM t18 t19 t33 t34 t35=some r) (Lr (fun j=>bif j==1 then 1 else bif j==2 then 2 else 0)) ?_;rintro n2 s ⟨g_1,jT,jO,vG,vS,oM,t18,t19,t33,t34,t35,rfl,hm⟩;refine W ?_;refine cm hm (fun hm=>?_) fun hm=>?_
  ·
   refine V ?_;refine AWp.seqJ (fun s=> ∃g_1 jT jO vG vS oM t18 t19 t33 t34 t35,s=⟨74,(aE (aE (aE (aE (aE (aE (aE (aE (aE (aE (aE fa 1 (.adr 1 0)) 3 (.own 2 0 jT.length)) 4 (vi jO)) 6 (vl (ci .i64) vG)) 7 (vl (ci .i64) vS)) 8 (vl (ci .i64) oM)) 18 (vi t18)) 19 (vi t19)) 33 (vl (ci .i64) t33)) 34 (vi t34)) 35 (vi t35)),⟨(upd (upd aZ 1 (.cells 1 [vi g_1.Config.N,vi g_1.Config.L,vi g_1.Config.R,vl bI g_1.Hashes,vl aO g_1.Edges] 0)) 2 (.cells 2 (jT.flatMap kU) 0)),64⟩⟩∧pZ (iK n1) (lY (iK n1) n2) g_1 jT jO vG vS oM t18 t19 t33 t34 t35=some r) ?_ ?_
   ·
    obtain ⟨x12,h11,hm⟩:=bnd hm;obtain ⟨x14,h13,hm⟩:=bnd hm;obtain ⟨x16,h15,hm⟩:=bnd hm;obtain ⟨x18,h17,hm⟩:=bnd hm;refine W ?_;refine cm hm (fun hm=>?_) fun hm=>?_
    · refine W ?_;exact Lr (fun j=>bif j==1 then 1 else bif j==2 then 2 else 0)
    refine W ?_;obtain ⟨⟨r20,r21⟩,h19,hm⟩:=bnd hm;refine cq (aHm h19) ?_;refine W ?_;refine cm hm (fun hm=>?_) fun hm=>?_
    · refine W ?_;refine bU (.agg [vi jO,vi t35]) ?_;refine aL aKc [(cG.mk jO t35)] ?_;obtain ⟨l23,h22,hm⟩:=bnd hm;refine W ?_;exact Lr (fun j=>bif j==1 then 1 else bif j==2 then 389 else 0)
    refine W ?_;exact Lr (fun j=>bif j==1 then 1 else bif j==2 then 2 else 0)
   rintro s ⟨g_1,jT,jO,vG,vS,oM,t18,t19,t33,t34,t35,rfl,hm⟩;refine W ?_;exact Lr (fun j=>bif j==1 then 1 else bif j==2 then 2 else 0)
  refine W ?_;exact Lr (fun j=>bif j==1 then 1 else bif j==2 then 2 else 0)
 exact E
instance:Ct prog 46 (K1 prog cX (vl kU) 46 sL):=⟨fun hm=>aIv hm⟩
def mY(g_0:aF):Option (Bool):=
 ((eC g_0).bind fun r2=>
 ((fX (r2==true) [] (sL g_0)).bind fun r4=>
 some (r2&&((r4.length:Int)==0))))
theorem aFn{g_0:aF}{r:Bool}(hm:mY g_0=some r):bO prog 15 [.agg [vi g_0.Config.N,vi g_0.Config.L,vi g_0.Config.R,vl bI g_0.Hashes,vl aO g_0.Edges]] (vb r):=by
 refine bd 11 func15 ?_;obtain ⟨r2,h1,hm⟩:=bnd hm;refine W ?_;refine cq (aDb h1) ?_;obtain ⟨r4,h3,hm⟩:=bnd hm;refine W ?_;refine cg (fun hb=>aIv (gN h3 hb)) ?_;exact E
instance:Ct prog 15 (K1 prog cX vb 15 mY):=⟨fun hm=>aFn hm⟩
attribute [local semireducible] bC
end Go.Proofs.YtkdohhmacfoolaaGreatDoor
