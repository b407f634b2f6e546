/- Facts. No condition. -/
import Derived.Test.YtkdohhmacfoolaaGreatDoorOaLds
set_option linter.unusedVariables false
set_option linter.unusedSimpArgs false
set_option maxRecDepth 20000
set_option maxHeartbeats 4000000
namespace Go.Proofs.YtkdohhmacfoolaaGreatDoor
open Go.Proofs.Tryz Go Go.AM
attribute [local irreducible] aZ
structure bL where
 Tier:Int
 V:Int
deriving DecidableEq
def iO(e:bL):List AV:=[.v (.int .i64 e.Tier),.v (.int .i64 e.V)]
theorem aG2:CF iO 2:=⟨fun _=>rfl,fun a x hx=>by
 simp only [iO,List.mem_cons,List.not_mem_nil,or_false] at hx;rcases hx with rfl|rfl
 · exact (.v _)
 · exact (.v _),fun _=>rfl⟩
instance:CC iO 2:=⟨aG2⟩
@[go_sem] theorem aJt(e:bL)(r:List AV):iO e++r= .v (.int .i64 e.Tier):: .v (.int .i64 e.V)::r:=rfl
structure bG where
 Gone:Bool
 U:Int
 V:Int
deriving DecidableEq
def bQ(e:bG):List AV:=[.v (.bool e.Gone),.v (.int .i64 e.U),.v (.int .i64 e.V)]
theorem nH:CF bQ 3:=⟨fun _=>rfl,fun a x hx=>by
 simp only [bQ,List.mem_cons,List.not_mem_nil,or_false] at hx;rcases hx with rfl|rfl|rfl
 · exact (.v _)
 · exact (.v _)
 · exact (.v _),fun _=>rfl⟩
instance:CC bQ 3:=⟨nH⟩
@[go_sem] theorem aAz(e:bG)(r:List AV):bQ e++r= .v (.bool e.Gone):: .v (.int .i64 e.U):: .v (.int .i64 e.V)::r:=rfl
@[go_sem] theorem aY2(i o:Nat):aJ prog 23 (.adr i o) 0=some (.adr i (o+0)):=by kernel_rfl
@[go_sem] theorem aY8(i o:Nat):aJ prog 23 (.adr i o) 1=some (.adr i (o+1)):=by kernel_rfl
@[go_sem] theorem aYd(i o:Nat):aJ prog 23 (.adr i o) 2=some (.adr i (o+2)):=by kernel_rfl
@[go_sem] theorem aYh(i o:Nat):aJ prog 30 (.adr i o) 0=some (.adr i (o+0)):=by kernel_rfl
@[go_sem] theorem aYn(i o:Nat):aJ prog 30 (.adr i o) 2=some (.adr i (o+4)):=by kernel_rfl
@[go_sem] theorem aZ2(i o:Nat):aJ prog 61 (.adr i o) 0=some (.adr i (o+0)):=by kernel_rfl
@[go_sem] theorem aZ8(i o:Nat):aJ prog 61 (.adr i o) 1=some (.adr i (o+1)):=by kernel_rfl
@[go_sem] theorem aZe(i o:Nat):aJ prog 61 (.adr i o) 2=some (.adr i (o+2)):=by kernel_rfl
@[go_sem] theorem bF9(H:aG)(x:AV)(xs:List AV):bP prog H 28 (.ptr (x::xs))=some x:=by kernel_rfl
@[go_sem] theorem bIk(H:aG)(x:AV)(xs:List AV):bP prog H 3 (.ptr (x::xs))=some x:=by kernel_rfl
@[go_sem] theorem bFe(H:aG)(x0 x1 x2 x3 x4:AV)(xs:List AV):bP prog H 30 (.ptr (x0::x1::x2::x3::x4::xs))=some (.agg [x0,x1,x2,x3,x4]):=by kernel_rfl
@[go_sem] theorem bFv(H:aG)(x0 x1 x2:AV)(xs:List AV):bP prog H 61 (.ptr (x0::x1::x2::xs))=some (.agg [x0,x1,x2]):=by kernel_rfl
def qR(rec1:List aC→Int→List Int→List aC→Int→Option ((List aC)×Int))(l_1:List aC)(v_3:Int)(aBb:List Int)(aBn:List aC)(aT8:Int):Option ((List aC)×Int):=
 (bif (aT8 !=v_3) then
  ((idx aBb aT8).bind fun x10=>
  (bif (decide (x10<0)) then
   some ([],3)
  else
   ((idx aBb aT8).bind fun x12=>
   ((idx l_1 x12).bind fun x14=>
   ((app aBn [x14]).bind fun l16=>
   ((mX x14 aT8).bind fun r18=>
   rec1 l_1 v_3 aBb l16 r18))))))
 else
  some (aBn,0))
def jX:Nat→List aC→Int→List Int→List aC→Int→Option ((List aC)×Int)
 |0=>fun _ _ _ _ _=>none
 |n+1=>qR (jX n)
def lQ(n_0:Int)(l_1:List aC)(u_2:Int)(v_3:Int):Option ((List aC)×Int):=
 ((jY n_0 l_1).bind fun r2=>
 ((dT ((!r2)==false) false (nT n_0 u_2)).bind fun r4=>
 ((dT (((!r2)||(!r4))==false) false (nT n_0 v_3)).bind fun r6=>
 (bif (((!r2)||(!r4))||(!r6)) then
  some ([],1)
 else
  ((mW n_0 l_1 v_3).bind fun r8=>
  jX aZ l_1 v_3 r8 [] u_2)))))
theorem aRy{n_0:Int}{l_1:List aC}{u_2:Int}{v_3:Int}{r:(List aC)×Int}(hm:lQ n_0 l_1 u_2 v_3=some r):bH prog 174 [vi n_0,vl aH l_1,vi u_2,vi v_3] (.tup [vl aH r.1,vi r.2]):=by
 refine bd 58 func174 ?_;obtain ⟨r2,h1,hm⟩:=bnd hm;refine W ?_;refine cq (aGq h1) ?_;obtain ⟨r4,h3,hm⟩:=bnd hm;refine W ?_;refine cg (fun hb=>zH (eJ h3 hb)) ?_;obtain ⟨r6,h5,hm⟩:=bnd hm;refine W ?_;refine cg (fun hb=>zH (eJ h5 hb)) ?_;refine W ?_;refine cm hm (fun hm=>?_) fun hm=>?_
 · exact E
 obtain ⟨r8,h7,hm⟩:=bnd hm;refine W ?_;refine cq (aGp h7) ?_;refine W ?_;refine lp (fun m s=> ∃l_1 v_3 aBb aBn aT8,s=⟨58,(aD (aD (aD (aD (aD fa 1 (vl aH l_1)) 3 (vi v_3)) 10 (vl (ci .i64) aBb)) 11 (.own 1 0 aBn.length)) 12 (vi aT8)),⟨(upd aV 1 (.cells 3 (aBn.flatMap aH) 0)),64⟩⟩∧jX m l_1 v_3 aBb aBn aT8=some r) ?_ ?_
 · refine ⟨_,?_,l_1,v_3,r8,[],u_2,rfl,hm⟩;refine St.Le.trans (oP 11 900011 3 Z1 Z5) ?_;exact cn (fun j=>bif j==1 then 900011 else 0)
 rintro n1 s ⟨l_1,v_3,aBb,aBn,aT8,rfl,hm⟩;refine W ?_;refine cm hm (fun hm=>?_) fun hm=>?_
 ·
  obtain ⟨x10,h9,hm⟩:=bnd hm;refine W ?_;refine cm hm (fun hm=>?_) fun hm=>?_
  · exact E
  have hm:=sb hm h9;obtain ⟨x14,h13,hm⟩:=bnd hm;refine W ?_;refine aL bJ [x14] ?_;obtain ⟨l16,h15,hm⟩:=bnd hm;obtain ⟨r18,h17,hm⟩:=bnd hm;refine W ?_;refine cq (aB7 h17) ?_;refine W ?_;exact Lr (fun j=>bif j==1 then 259 else 0)
 exact E
instance:Ct prog 174 (K4 prog vi (vl aH) vi vi (t2 (vl aH) vi) 174 lQ):=⟨fun hm=>aRy hm⟩
abbrev jQ(cX:Int)(g_3:aE)(t6:aE)(e_7:aC)(n_9:Int):Option (aE):=
 ((sD n_9 g_3.Edges e_7.U e_7.V (IntKind.i64.wrap (cX+1))).bind fun ⟨r9,r10⟩=>
 some (aE.mk g_3.Config g_3.Hashes r9))
def kZ(g_0:aE)(cX:Int)(v_2:Int):Option (aE):=
 ((nC g_0 cX v_2).bind fun r2=>
 ((nC g_0 (IntKind.i64.wrap (cX+1)) v_2).bind fun r4=>
 (bif ((r2.length:Int) !=(r4.length:Int)) then
  some g_0
 else
  ((jN g_0 cX v_2).bind fun ⟨r6,r7⟩=>
  (bif (!r7) then
   some g_0
  else
   (bif (r6.Tier==0) then
    ((fX g_0.Config.N g_0.Edges g_0.Config.L).bind fun r12=>
    ((lQ g_0.Config.N r12 r6.U r6.V).bind fun ⟨r14,r15⟩=>
    ((iK r14).bind fun ⟨r17,r18⟩=>
    (bif (r18&&(r15==0)) then
     ((sD g_0.Config.N g_0.Edges r17.U r17.V 0).bind fun ⟨r20,r21⟩=>
     jQ cX (aE.mk g_0.Config g_0.Hashes r20) (aE.mk (aT.mk 0 0 0) [] []) r6 g_0.Config.N)
    else
     jQ cX g_0 (aE.mk (aT.mk 0 0 0) [] []) r6 g_0.Config.N))))
   else
    jQ cX g_0 (aE.mk (aT.mk 0 0 0) [] []) r6 g_0.Config.N))))))
theorem aNm:K3 prog bW vi vi bW 143 kZ:=fun hm=>be 98 func143 (h:=G)
instance:Ct prog 143 (K3 prog bW vi vi bW 143 kZ):=⟨aNm⟩
def wY(rec1:Int→Int→aE→aE→Int→Int→Option (aE))(u_1:Int)(v_2:Int)(g_3:aE)(t6:aE)(t10:Int)(t11:Int):Option (aE):=
 (bif (decide (t11<t10)) then
  ((kZ g_3 t11 u_1).bind fun r2=>
  ((kZ r2 t11 v_2).bind fun r4=>
  rec1 u_1 v_2 r4 t6 t10 (IntKind.i64.wrap (t11+1))))
 else
  some g_3)
def mM:Nat→Int→Int→aE→aE→Int→Int→Option (aE)
 |0=>fun _ _ _ _ _ _=>none
 |n+1=>wY (mM n)
def oH(g_0:aE)(u_1:Int)(v_2:Int):Option (aE):=
 mM aZ u_1 v_2 g_0 (aE.mk (aT.mk 0 0 0) [] []) g_0.Config.L 0
theorem aNl:K3 prog bW vi vi bW 100 oH:=by
 intro g_0 u_1 v_2 r hm
 let I1:=((fun m s=> ∃u_1 v_2 g_3 t6 t10 t11,s=⟨24,(aD (aD (aD (aD (aD (aD fa 1 (vi u_1)) 2 (vi v_2)) 3 (.adr 1 0)) 6 (.adr 2 0)) 10 (vi t10)) 11 (vi t11)),⟨(upd (upd aV 1 (.cells 1 [vi g_3.Config.N,vi g_3.Config.L,vi g_3.Config.R,vl bC g_3.Hashes,vl aH g_3.Edges] 0)) 2 (.cells 1 [vi t6.Config.N,vi t6.Config.L,vi t6.Config.R,vl bC t6.Hashes,vl aH t6.Edges] 0)),64⟩⟩∧mM m u_1 v_2 g_3 t6 t10 t11=some r):Nat→St→Prop)
 exact be 24 func100 (h:=G)
instance:Ct prog 100 (K3 prog bW vi vi bW 100 oH):=⟨aNl⟩
def kY(g_0:aE)(u_1:Int)(v_2:Int):Option (aE×Int):=
 ((qE g_0 u_1 v_2).bind fun r2=>
 (bif (!r2) then
  some (g_0,1)
 else
  ((wT g_0.Config.N g_0.Edges u_1 v_2).bind fun ⟨r4,r5⟩=>
  (bif (r5 !=0) then
   some (g_0,r5)
  else
   ((oH (aE.mk g_0.Config g_0.Hashes r4) u_1 v_2).bind fun r7=>
   some (r7,0))))))
theorem aEw:K3 prog bW vi vi (t2 bW vi) 52 kY:=fun hm=>be 37 func52 (h:=G)
instance:Ct prog 52 (K3 prog bW vi vi (t2 bW vi) 52 kY):=⟨aEw⟩
def kX(g_0:aE)(u_1:Int)(v_2:Int):Option (aE×Int):=
 ((qE g_0 u_1 v_2).bind fun r2=>
 (bif (!r2) then
  some (g_0,1)
 else
  ((oF g_0.Config.N g_0.Edges u_1 v_2).bind fun ⟨r4,r5⟩=>
  (bif (r5 !=0) then
   some (g_0,r5)
  else
   ((oH (aE.mk g_0.Config g_0.Hashes r4) u_1 v_2).bind fun r7=>
   some (r7,0))))))
theorem aEv:K3 prog bW vi vi (t2 bW vi) 50 kX:=fun hm=>be 37 func50 (h:=G)
instance:Ct prog 50 (K3 prog bW vi vi (t2 bW vi) 50 kX):=⟨aEv⟩
def nB(g_0:aE)(cX:Int):Option ((List Int)):=
 ((fX g_0.Config.N g_0.Edges cX).bind fun r2=>
 ((lW g_0.Config.N r2).bind fun ⟨r4,r5⟩=>
 some r4))
theorem aBt{g_0:aE}{cX:Int}{r:(List Int)}(hm:nB g_0 cX=some r):bH prog 94 [.agg [vi g_0.Config.N,vi g_0.Config.L,vi g_0.Config.R,vl bC g_0.Hashes,vl aH g_0.Edges],vi cX] (vl (ci .i64) r):=by
 refine bd 22 func94 ?_;obtain ⟨r2,h1,hm⟩:=bnd hm;refine W ?_;refine cq (aEt h1) ?_;obtain ⟨⟨r4,r5⟩,h3,hm⟩:=bnd hm;refine cq (aSi h3) ?_;exact E
instance:Ct prog 94 (K2 prog bW vi (vl (ci .i64)) 94 nB):=⟨fun hm=>aBt hm⟩
def zP(rec1:List Int→List Int→Int→Int→Option ((List Int)))(lD:List Int)(t9:List Int)(t10:Int)(t11:Int):Option ((List Int)):=
 (bif (decide (t11<t10)) then
  ((idx t9 t11).bind fun x4=>
  ((idx lD x4).bind fun x6=>
  ((idx lD x4).bind fun x8=>
  ((stt lD x4 (IntKind.i64.wrap (x6+1))).bind fun l10=>
  rec1 l10 t9 t10 (IntKind.i64.wrap (t11+1))))))
 else
  some lD)
def oB:Nat→List Int→List Int→Int→Int→Option ((List Int))
 |0=>fun _ _ _ _=>none
 |n+1=>zP (oB n)
def kD(p_0:List Int):Option ((List Int)):=
 ((mkc (p_0.length:Int) (p_0.length:Int) 0).bind fun l2=>
 oB aZ l2 p_0 (p_0.length:Int) 0)
theorem aBs{p_0:List Int}{r:(List Int)}(hm:kD p_0=some r):bH prog 95 [vl (ci .i64) p_0] (vl (ci .i64) r):=by
 refine bd 23 func95 ?_;obtain ⟨l2,h1,hm⟩:=bnd hm;refine W ?_;refine aK (CFi .i64) h1 ?_;refine W ?_;refine lp (fun m s=> ∃lD t9 t10 t11,s=⟨23,(aD (aD (aD (aD fa 3 (.own 1 0 lD.length)) 9 (vl (ci .i64) t9)) 10 (vi t10)) 11 (vi t11)),⟨(upd aV 1 (.cells 1 (lD.flatMap (ci .i64)) 0)),64⟩⟩∧oB m lD t9 t10 t11=some r) (Lr (fun j=>bif j==1 then 66 else 0)) ?_;rintro n1 s ⟨lD,t9,t10,t11,rfl,hm⟩;refine W ?_;refine cm hm (fun hm=>?_) fun hm=>?_
 · obtain ⟨x4,h3,hm⟩:=bnd hm;obtain ⟨x6,h5,hm⟩:=bnd hm;have hm:=sb hm h5;obtain ⟨l10,h9,hm⟩:=bnd hm;refine W ?_;have qh9:=kF h9;refine aS h9 ?_;refine W ?_;exact Lr (fun j=>bif j==1 then 1 else 0)
 exact E
instance:Ct prog 95 (K1 prog (vl (ci .i64)) (vl (ci .i64)) 95 kD):=⟨fun hm=>aBs hm⟩
abbrev mD(rec1:aE→List bL→Int→Int→Option ((List bL)))(rec2:aE→List bL→Int→List Int→List Int→List Int→Int→Int→List Int→Int→Int→Option ((List bL)))(g_1:aE)(gY:List bL)(gQ:Int)(qW:List Int)(rH:List Int)(lK:List Int)(t18:Int)(t19:Int)(t33:List Int)(t34:Int)(t35:Int):Option ((List bL)):=
 rec2 g_1 gY gQ qW rH lK t18 t19 t33 t34 (IntKind.i64.wrap (t35+1))
def wI(rec1:aE→List bL→Int→Int→Option ((List bL)))(rec2:aE→List bL→Int→List Int→List Int→List Int→Int→Int→List Int→Int→Int→Option ((List bL)))(g_1:aE)(gY:List bL)(gQ:Int)(qW:List Int)(rH:List Int)(lK:List Int)(t18:Int)(t19:Int)(t33:List Int)(t34:Int)(t35:Int):Option ((List bL)):=
 (bif (decide (t35<t34)) then
  ((idx t33 t35).bind fun x12=>
  ((dT ((t35 !=x12)==false) 0 (idx rH t35)).bind fun x14=>
  ((dT ((t35 !=x12)==false) 0 (idx qW t35)).bind fun x16=>
  ((dT ((t35 !=x12)==false) 0 (idx lK x16)).bind fun x18=>
  (bif ((t35 !=x12)||(x14 !=x18)) then
   mD rec1 rec2 g_1 gY gQ qW rH lK t18 t19 t33 t34 t35
  else
   ((jN g_1 gQ t35).bind fun ⟨r20,r21⟩=>
   (bif r21 then
    ((app gY [(bL.mk gQ t35)]).bind fun l23=>
    mD rec1 rec2 g_1 l23 gQ qW rH lK t18 t19 t33 t34 t35)
   else
    mD rec1 rec2 g_1 gY gQ qW rH lK t18 t19 t33 t34 t35)))))))
 else
  rec1 g_1 gY t18 (IntKind.i64.wrap (t19+1)))
def jM(rec1:aE→List bL→Int→Int→Option ((List bL))):Nat→aE→List bL→Int→List Int→List Int→List Int→Int→Int→List Int→Int→Int→Option ((List bL))
 |0=>fun _ _ _ _ _ _ _ _ _ _ _=>none
 |n+1=>wI rec1 (jM rec1 n)
def wH(rec1:aE→List bL→Int→Int→Option ((List bL)))(g_1:aE)(gY:List bL)(t18:Int)(t19:Int):Option ((List bL)):=
 (bif (decide (t19<t18)) then
  ((nB g_1 t19).bind fun r4=>
  ((nB g_1 (IntKind.i64.wrap (t19+1))).bind fun r6=>
  ((kD r4).bind fun r8=>
  ((kD r6).bind fun r10=>
  jM rec1 aZ g_1 gY t19 r6 r8 r10 t18 t19 r4 (r4.length:Int) 0))))
 else
  some gY)
def fI:Nat→aE→List bL→Int→Int→Option ((List bL))
 |0=>fun _ _ _ _=>none
 |n+1=>wH (fI n)
def oA(g_0:aE):Option ((List bL)):=
 ((dC g_0).bind fun r2=>
 (bif (!r2) then
  some []
 else
  fI aZ g_0 [] g_0.Config.L 0))
theorem aEk{g_0:aE}{r:(List bL)}(hm:oA g_0=some r):bH prog 46 [.agg [vi g_0.Config.N,vi g_0.Config.L,vi g_0.Config.R,vl bC g_0.Hashes,vl aH g_0.Edges]] (vl iO r):=by
 refine bd 74 func46 ?_;obtain ⟨r2,h1,hm⟩:=bnd hm;refine W ?_;refine cq (zV h1) ?_;refine W ?_;refine cm hm (fun hm=>?_) fun hm=>?_
 · exact E
 refine W ?_;refine lp (fun m s=> ∃g_1 gY t18 t19,s=⟨74,(aD (aD (aD (aD fa 1 (.adr 1 0)) 3 (.own 2 0 gY.length)) 18 (vi t18)) 19 (vi t19)),⟨(upd (upd aV 1 (.cells 1 [vi g_1.Config.N,vi g_1.Config.L,vi g_1.Config.R,vl bC g_1.Hashes,vl aH g_1.Edges] 0)) 2 (.cells 2 (gY.flatMap iO) 0)),64⟩⟩∧fI m g_1 gY t18 t19=some r) ?_ ?_
 · refine ⟨_,?_,g_0,[],g_0.Config.L,0,rfl,hm⟩;refine St.Le.trans (oP 3 900003 2 Z1 Z5) ?_;exact cn (fun j=>bif j==1 then 0 else bif j==2 then 900003 else 0)
 rintro n1 s ⟨g_1,gY,t18,t19,rfl,hm⟩;refine W ?_;refine cm hm (fun hm=>?_) fun hm=>?_
 ·
  obtain ⟨r4,h3,hm⟩:=bnd hm;refine W ?_;refine cq (aBt h3) ?_;obtain ⟨r6,h5,hm⟩:=bnd hm;refine W ?_;refine cq (aBt h5) ?_;obtain ⟨r8,h7,hm⟩:=bnd hm;refine W ?_;refine cq (aBs h7) ?_;obtain ⟨r10,h9,hm⟩:=bnd hm;refine W ?_;refine cq (aBs h9) ?_;refine W ?_;refine lp (fun m s=> ∃g_1 gY gQ qW rH lK t18 t19 t33 t34 t35,s=⟨74,(aD (aD (aD (aD (aD (aD (aD (aD (aD (aD (aD fa 1 (.adr 1 0)) 3 (.own 2 0 gY.length)) 4 (vi gQ)) 6 (vl (ci .i64) qW)) 7 (vl (ci .i64) rH)) 8 (vl (ci .i64) lK)) 18 (vi t18)) 19 (vi t19)) 33 (vl (ci .i64) t33)) 34 (vi t34)) 35 (vi t35)),⟨(upd (upd aV 1 (.cells 1 [vi g_1.Config.N,vi g_1.Config.L,vi g_1.Config.R,vl bC g_1.Hashes,vl aH g_1.Edges] 0)) 2 (.cells 2 (gY.flatMap iO) 0)),64⟩⟩∧jM (fI n1) m g_1 gY gQ qW rH lK t18 t19 t33 t34 t35=some r) (Lr (fun j=>bif j==1 then 1 else bif j==2 then 2 else 0)) ?_;rintro n2 s ⟨g_1,gY,gQ,qW,rH,lK,t18,t19,t33,t34,t35,rfl,hm⟩;refine W ?_;refine cm hm (fun hm=>?_) fun hm=>?_
  ·
   refine V ?_;refine AWp.seqJ (fun s=> ∃g_1 gY gQ qW rH lK t18 t19 t33 t34 t35,s=⟨74,(aD (aD (aD (aD (aD (aD (aD (aD (aD (aD (aD fa 1 (.adr 1 0)) 3 (.own 2 0 gY.length)) 4 (vi gQ)) 6 (vl (ci .i64) qW)) 7 (vl (ci .i64) rH)) 8 (vl (ci .i64) lK)) 18 (vi t18)) 19 (vi t19)) 33 (vl (ci .i64) t33)) 34 (vi t34)) 35 (vi t35)),⟨(upd (upd aV 1 (.cells 1 [vi g_1.Config.N,vi g_1.Config.L,vi g_1.Config.R,vl bC g_1.Hashes,vl aH g_1.Edges] 0)) 2 (.cells 2 (gY.flatMap iO) 0)),64⟩⟩∧mD (fI n1) (jM (fI n1) n2) g_1 gY gQ qW rH lK t18 t19 t33 t34 t35=some r) ?_ ?_
   ·
    obtain ⟨x12,h11,hm⟩:=bnd hm;obtain ⟨x14,h13,hm⟩:=bnd hm;obtain ⟨x16,h15,hm⟩:=bnd hm;obtain ⟨x18,h17,hm⟩:=bnd hm;refine W ?_;refine cm hm (fun hm=>?_) fun hm=>?_
    · refine W ?_;exact Lr (fun j=>bif j==1 then 1 else bif j==2 then 2 else 0)
    refine W ?_;obtain ⟨⟨r20,r21⟩,h19,hm⟩:=bnd hm;refine cq (aDe h19) ?_;refine W ?_;refine cm hm (fun hm=>?_) fun hm=>?_
    · refine W ?_;refine bU (.agg [vi gQ,vi t35]) ?_;refine aL aG2 [(bL.mk gQ t35)] ?_;obtain ⟨l23,h22,hm⟩:=bnd hm;refine W ?_;exact Lr (fun j=>bif j==1 then 1 else bif j==2 then 389 else 0)
    refine W ?_;exact Lr (fun j=>bif j==1 then 1 else bif j==2 then 2 else 0)
   rintro s ⟨g_1,gY,gQ,qW,rH,lK,t18,t19,t33,t34,t35,rfl,hm⟩;refine W ?_;exact Lr (fun j=>bif j==1 then 1 else bif j==2 then 2 else 0)
  refine W ?_;exact Lr (fun j=>bif j==1 then 1 else bif j==2 then 2 else 0)
 exact E
instance:Ct prog 46 (K1 prog bW (vl iO) 46 oA):=⟨fun hm=>aEk hm⟩
def rC(g_0:aE):Option (Bool):=
 ((dC g_0).bind fun r2=>
 ((dT (r2==true) [] (oA g_0)).bind fun r4=>
 some (r2&&((r4.length:Int)==0))))
theorem aH8{g_0:aE}{r:Bool}(hm:rC g_0=some r):bH prog 15 [.agg [vi g_0.Config.N,vi g_0.Config.L,vi g_0.Config.R,vl bC g_0.Hashes,vl aH g_0.Edges]] (vb r):=by
 refine bd 11 func15 ?_;obtain ⟨r2,h1,hm⟩:=bnd hm;refine W ?_;refine cq (zV h1) ?_;obtain ⟨r4,h3,hm⟩:=bnd hm;refine W ?_;refine cg (fun hb=>aEk (eJ h3 hb)) ?_;exact E
instance:Ct prog 15 (K1 prog bW vb 15 rC):=⟨fun hm=>aH8 hm⟩
def vT(c_0:aT)(aKn:List bG):Option (Int):=
 (bif ((((((decide (c_0.N<1))||(decide (c_0.L<1)))||(decide (c_0.R<1)))||(decide (12<c_0.N)))||(decide (4<c_0.L)))||(decide (3<c_0.R))) then
  some (-1)
 else
  some (if 30<(aKn.length:Int) then 30 else (aKn.length:Int)))
theorem aLe{c_0:aT}{aKn:List bG}{r:Int}(hm:vT c_0 aKn=some r):bH prog 49 [.agg [vi c_0.N,vi c_0.L,vi c_0.R],vl bQ aKn] (vi r):=by
 refine bd 36 func49 ?_;refine W ?_;refine cm hm (fun hm=>?_) fun hm=>?_
 · exact E
 exact E
instance:Ct prog 49 (K2 prog aAl (vl bQ) vi 49 vT):=⟨fun hm=>aLe hm⟩
attribute [local semireducible] aZ
end Go.Proofs.YtkdohhmacfoolaaGreatDoor
