/- Facts. No condition. -/
import Derived.Test.YtkdohhmacfoolaaGreatDoorPeGI3
set_option linter.unusedVariables false
set_option linter.unusedSimpArgs false
set_option maxRecDepth 20000
set_option maxHeartbeats 4000000
namespace Go.Proofs.YtkdohhmacfoolaaGreatDoor
open Go.Proofs.Tryz Go Go.AM
attribute [local irreducible] aW
@[go_sem] theorem bJ7(i o:Nat):aH prog 23 (.adr i o) 0=some (.adr i (o+0)):=by kernel_rfl
@[go_sem] theorem bJd(i o:Nat):aH prog 23 (.adr i o) 1=some (.adr i (o+1)):=by kernel_rfl
@[go_sem] theorem bJj(i o:Nat):aH prog 23 (.adr i o) 2=some (.adr i (o+2)):=by kernel_rfl
@[go_sem] theorem bK8(i o:Nat):aH prog 35 (.adr i o) 0=some (.adr i (o+0)):=by kernel_rfl
@[go_sem] theorem bK9(i o:Nat):aH prog 35 (.adr i o) 1=some (.adr i (o+1)):=by kernel_rfl
@[go_sem] theorem bKd(i o:Nat):aH prog 42 (.adr i o) 1=some (.adr i (o+1)):=by kernel_rfl
@[go_sem] theorem bKf(i o:Nat):aH prog 42 (.adr i o) 2=some (.adr i (o+2)):=by kernel_rfl
@[go_sem] theorem bKz(i o:Nat):aH prog 68 (.adr i o) 1=some (.adr i (o+6)):=by kernel_rfl
@[go_sem] theorem bT8(H:aG)(x0 x1 x2:AV)(xs:List AV):bT prog H 23 (.ptr (x0::x1::x2::xs))=some (.agg [x0,x1,x2]):=by kernel_rfl
@[go_sem] theorem bTa(H:aG)(x:AV)(xs:List AV):bT prog H 24 (.ptr (x::xs))=some x:=by kernel_rfl
@[go_sem] theorem bPa(H:aG)(x:AV)(xs:List AV):bT prog H 277 (.ptr (x::xs))=some x:=by kernel_rfl
@[go_sem] theorem bXv(H:aG)(x:AV)(xs:List AV):bT prog H 3 (.ptr (x::xs))=some x:=by kernel_rfl
@[go_sem] theorem bTr(H:aG)(x0 x1 x2 x3 x4:AV)(xs:List AV):bT prog H 30 (.ptr (x0::x1::x2::x3::x4::xs))=some (.agg [x0,x1,x2,x3,x4]):=by kernel_rfl
@[go_sem] theorem bU0(H:aG)(x0 x1 x2 x3 x4 x5:AV)(xs:List AV):bT prog H 33 (.ptr (x0::x1::x2::x3::x4::x5::xs))=some (.agg [x0,x1,x2,x3,x4,x5]):=by kernel_rfl
@[go_sem] theorem bU2(H:aG)(x0 x1:AV)(xs:List AV):bT prog H 35 (.ptr (x0::x1::xs))=some (.agg [x0,x1]):=by kernel_rfl
@[go_sem] theorem bU9(H:aG)(x:AV)(xs:List AV):bT prog H 40 (.ptr (x::xs))=some x:=by kernel_rfl
@[go_sem] theorem bUb(H:aG)(x0 x1 x2 x3:AV)(xs:List AV):bT prog H 42 (.ptr (x0::x1::x2::x3::xs))=some (.agg [x0,x1,x2,x3]):=by kernel_rfl
@[go_sem] theorem bUj(H:aG)(x0 x1 x2 x3 x4 x5 x6 x7 x8:AV)(xs:List AV):bT prog H 68 (.ptr (x0::x1::x2::x3::x4::x5::x6::x7::x8::xs))=some (.agg [x0,x1,x2,x3,x4,x5,x6,x7,x8]):=by kernel_rfl
@[go_sem] theorem bY5(H:aG)(x:AV)(xs:List AV):bT prog H 9 (.ptr (x::xs))=some x:=by kernel_rfl
@[go_sem] theorem bIm(H:aG)(k:IntKind)(n:Int):mS prog H 40 3 (.v (.int k n))=some (.v (.int .i64 (IntKind.i64.wrap n))):=gJ underlying40 underlying3
def vG(x_0:Int):Option (Bool):=
 some (x_0 !=x_0)
theorem aUe:K1 prog vi vb 251 vG:=fun hm=>be 6 func251 (h:=G)
instance:Ct prog 251 (K1 prog vi vb 251 vG):=⟨aUe⟩
def wU(x_0:Int)(y_1:Int):Option (Int):=
 ((vG x_0).bind fun r2=>
 ((vG y_1).bind fun r4=>
 (bif r2 then
  (bif r4 then
   some 0
  else
   some (-1))
 else
  (bif r4 then
   some 1
  else
   (bif (decide (x_0<y_1)) then
    some (-1)
   else
    (bif (decide (y_1<x_0)) then
     some 1
    else
     some 0))))))
theorem aR3:K2 prog vi vi vi 230 wU:=fun hm=>be 20 func230 (h:=G)
instance:Ct prog 230 (K2 prog vi vi vi 230 wU):=⟨aR3⟩
def oT(x_0:Int):Option (Bool):=
 some (x_0 !=x_0)
theorem aOi:K1 prog (vk .u32) vb 252 oT:=fun hm=>be 6 func252 (h:=G)
instance:Ct prog 252 (K1 prog (vk .u32) vb 252 oT):=⟨aOi⟩
def mT(x_0:Int)(y_1:Int):Option (Int):=
 ((oT x_0).bind fun r2=>
 ((oT y_1).bind fun r4=>
 (bif r2 then
  (bif r4 then
   some 0
  else
   some (-1))
 else
  (bif r4 then
   some 1
  else
   (bif (decide (x_0<y_1)) then
    some (-1)
   else
    (bif (decide (y_1<x_0)) then
     some 1
    else
     some 0))))))
theorem aLo:K2 prog (vk .u32) (vk .u32) vi 231 mT:=fun hm=>be 20 func231 (h:=G)
instance:Ct prog 231 (K2 prog (vk .u32) (vk .u32) vi 231 mT):=⟨aLo⟩
def aOz(rec1:List Int→List Int→Int→Option (Int))(a_0:List Int)(b_1:List Int)(i_5:Int):Option (Int):=
 (bif (decide (0≤i_5)) then
  ((idx a_0 i_5).bind fun x8=>
  ((idx b_1 i_5).bind fun x10=>
  (bif (x8 !=x10) then
   ((idx a_0 i_5).bind fun x12=>
   ((idx b_1 i_5).bind fun x14=>
   ((mT x12 x14).bind fun r16=>
   some r16)))
  else
   rec1 a_0 b_1 (IntKind.i64.wrap (i_5-1)))))
 else
  some 0)
def aGg:Nat→List Int→List Int→Int→Option (Int)
 |0=>fun _ _ _=>none
 |n+1=>aOz (aGg n)
def aJi(a_0:List Int)(b_1:List Int):Option (Int):=
 ((mW a_0).bind fun r2=>
 ((eK ((!r2)==false) false (mW b_1)).bind fun r4=>
 (bif ((!r2)||(!r4)) then
  some 0
 else
  (bif ((a_0.length:Int) !=(b_1.length:Int)) then
   ((wU (a_0.length:Int) (b_1.length:Int)).bind fun r6=>
   some r6)
  else
   aGg aW a_0 b_1 (IntKind.i64.wrap ((a_0.length:Int)-1))))))
theorem bPr:K2 prog (vl (ci .u32)) (vl (ci .u32)) vi 186 aJi:=by
 intro a_0 b_1 r hm
 let I1:=((fun m s=> ∃a_0 b_1 i_5,s=⟨49,(aF (aF (aF fa 0 (vl (ci .u32) a_0)) 1 (vl (ci .u32) b_1)) 5 (vi i_5)),⟨aY,64⟩⟩∧aGg m a_0 b_1 i_5=some r):Nat→St→Prop)
 exact be 49 func186 (h:=G)
instance:Ct prog 186 (K2 prog (vl (ci .u32)) (vl (ci .u32)) vi 186 aJi):=⟨bPr⟩
def zQ(n_0:Int)(m_1:Int)(k_2:Int)(l_3:Int)(r_4:Int):Option (Bool):=
 ((nU n_0 m_1).bind fun r2=>
 ((eK ((!r2)==false) false (aAs k_2)).bind fun r4=>
 ((eK (((!r2)||(!r4))==false) false (qG l_3 r_4)).bind fun r6=>
 (bif (((!r2)||(!r4))||(!r6)) then
  some false
 else
  ((zS n_0 m_1 l_3 r_4).bind fun ⟨r8,r9⟩=>
  (bif (r9 !=0) then
   some false
  else
   ((aBp l_3 r_4).bind fun ⟨r11,r12⟩=>
   (bif (r12 !=0) then
    some false
   else
    ((aB3 2).bind fun r14=>
    ((aDr r14 k_2).bind fun ⟨r16,r17⟩=>
    (bif (r17 !=0) then
     some false
    else
     ((aDq r8 r16).bind fun ⟨r19,r20⟩=>
     ((eK ((r20==0)==true) 0 (aJi r19 r11)).bind fun r22=>
     some ((r20==0)&&(decide (r22≤0))))))))))))))))
theorem aYi:K5 prog vi vi vi vi vi vb 149 zQ:=fun hm=>be 71 func149 (h:=G)
instance:Ct prog 149 (K5 prog vi vi vi vi vi vb 149 zQ):=⟨aYi⟩
def aJr(rec1:Int→Int→Int→bC→Int→Option (bC×Int))(rec2:Int→Int→Int→bC→Int→Int→Option (bC×Int))(n_0:Int)(m_1:Int)(k_2:Int)(t6:bC)(l_8:Int)(r_9:Int):Option (bC×Int):=
 (bif (decide (r_9≤8)) then
  ((zQ n_0 m_1 k_2 l_8 r_9).bind fun r6=>
  (bif r6 then
   some ((bC.mk n_0 l_8 r_9),0)
  else
   rec2 n_0 m_1 k_2 t6 l_8 (IntKind.i64.wrap (r_9+1))))
 else
  rec1 n_0 m_1 k_2 t6 (IntKind.i64.wrap (l_8+1)))
def aBo(rec1:Int→Int→Int→bC→Int→Option (bC×Int)):Nat→Int→Int→Int→bC→Int→Int→Option (bC×Int)
 |0=>fun _ _ _ _ _ _=>none
 |n+1=>aJr rec1 (aBo rec1 n)
def aJq(rec1:Int→Int→Int→bC→Int→Option (bC×Int))(n_0:Int)(m_1:Int)(k_2:Int)(t6:bC)(l_8:Int):Option (bC×Int):=
 (bif (decide (l_8≤16)) then
  aBo rec1 aW n_0 m_1 k_2 t6 l_8 1
 else
  some ((bC.mk 0 0 0),6))
def mI:Nat→Int→Int→Int→bC→Int→Option (bC×Int)
 |0=>fun _ _ _ _ _=>none
 |n+1=>aJq (mI n)
def aDx(n_0:Int)(m_1:Int)(k_2:Int):Option (bC×Int):=
 ((nU n_0 m_1).bind fun r2=>
 ((eK ((!r2)==false) false (aAs k_2)).bind fun r4=>
 (bif ((!r2)||(!r4)) then
  some ((bC.mk 0 0 0),1)
 else
  mI aW n_0 m_1 k_2 (bC.mk 0 0 0) 1)))
theorem bFm:K3 prog vi vi vi (t2 aK8 vi) 111 aDx:=by
 intro n_0 m_1 k_2 r hm
 let I1:=((fun m s=> ∃n_0 m_1 k_2 t6 l_8,s=⟨39,(aF (aF (aF (aF (aF fa 0 (vi n_0)) 1 (vi m_1)) 2 (vi k_2)) 6 (.adr 1 0)) 8 (vi l_8)),⟨(upd aY 1 (.cells 1 [vi t6.N,vi t6.L,vi t6.R] 0)),64⟩⟩∧mI m n_0 m_1 k_2 t6 l_8=some r):Nat→St→Prop)
 let I2:=fun (n1:Nat)=>((fun m s=> ∃n_0 m_1 k_2 t6 l_8 r_9,s=⟨39,(aF (aF (aF (aF (aF (aF fa 0 (vi n_0)) 1 (vi m_1)) 2 (vi k_2)) 6 (.adr 1 0)) 8 (vi l_8)) 9 (vi r_9)),⟨(upd aY 1 (.cells 1 [vi t6.N,vi t6.L,vi t6.R] 0)),64⟩⟩∧aBo (mI n1) m n_0 m_1 k_2 t6 l_8 r_9=some r):Nat→St→Prop)
 exact be 39 func111 (h:=G)
instance:Ct prog 111 (K3 prog vi vi vi (t2 aK8 vi) 111 aDx):=⟨bFm⟩
def sS(w_0:bI):Option (Bool):=
 some ((decide (0≤w_0.At))&&(decide (w_0.At≤(w_0.List.length:Int))))
theorem aQ4:K1 prog mP vb 73 sS:=fun hm=>be 14 func73 (h:=G)
instance:Ct prog 73 (K1 prog mP vb 73 sS):=⟨aQ4⟩
def aH6(rec1:bI→bI→Int→Option (Int×bI×Int))(w_1:bI)(t3:bI)(aMn:Int):Option (Int×bI×Int):=
 (bif (decide (aMn<(w_1.List.length:Int))) then
  ((idx w_1.List aMn).bind fun x4=>
  (bif (decide ((yO .u64 x4 2305843009213693951)<2305843009213693951)) then
   some ((yO .u64 x4 2305843009213693951),(bI.mk w_1.List (IntKind.i64.wrap (aMn+1))),0)
  else
   rec1 w_1 t3 (IntKind.i64.wrap (aMn+1))))
 else
  some (0,w_1,5))
def yZ:Nat→bI→bI→Int→Option (Int×bI×Int)
 |0=>fun _ _ _=>none
 |n+1=>aH6 (yZ n)
def xQ(w_0:bI):Option (Int×bI×Int):=
 ((sS w_0).bind fun r2=>
 (bif (!r2) then
  some (0,w_0,1)
 else
  yZ aW w_0 (bI.mk [] 0) w_0.At))
theorem bAh{w_0:bI}{r:Int×bI×Int}(hm:xQ w_0=some r):cE prog 74 [.agg [vl (ci .u64) w_0.List,vi w_0.At]] (.tup [vu r.1,.agg [vl (ci .u64) r.2.1.List,vi r.2.1.At],vi r.2.2]):=by
 refine bd 35 func74 ?_;obtain ⟨r2,h1,hm⟩:=bnd hm;refine W ?_;refine cq (aQ4 h1) ?_;refine W ?_;refine cm hm (fun hm=>?_) fun hm=>?_
 · exact E
 refine W ?_;refine lp (fun m s=> ∃w_1 t3 aMn,s=⟨35,(aF (aF (aF fa 1 (.adr 1 0)) 3 (.adr 2 0)) 5 (vi aMn)),⟨(upd (upd aY 1 (.cells 1 [vl (ci .u64) w_1.List,vi w_1.At] 0)) 2 (.cells 1 [vl (ci .u64) t3.List,vi t3.At] 0)),64⟩⟩∧yZ m w_1 t3 aMn=some r) ?_ ?_
 · refine ⟨_,?_,w_0,(bI.mk [] 0),w_0.At,rfl,hm⟩;refine St.Le.trans (bAz 2 (ys:=[.sl (((bI.mk [] 0).List).flatMap (ci .u64)) ((bI.mk [] 0).List).length false,.v (.int .i64 ((bI.mk [] 0).At))]) Z3 (.cons (.nil false) (.cons (.data _ (.v _)) .nil))) ?_;exact cn (fun j=>bif j==1 then 0 else bif j==2 then 2 else 0)
 rintro n1 s ⟨w_1,t3,aMn,rfl,hm⟩;refine W ?_;refine cm hm (fun hm=>?_) fun hm=>?_
 ·
  obtain ⟨x4,h3,hm⟩:=bnd hm;refine W ?_;refine cm hm (fun hm=>?_) fun hm=>?_
  · refine W ?_;refine bU (.agg [vl (ci .u64) w_1.List,.v (.int .i64 (IntKind.i64.wrap (aMn+1)))]) ?_;exact E
  refine W ?_;exact Lr (fun j=>bif j==1 then 1 else bif j==2 then 2 else 0)
 exact E
instance:Ct prog 74 (K1 prog mP (t3 vu mP vi) 74 xQ):=⟨fun hm=>bAh hm⟩
def vH(rec1:bI→bI→List bW→bI→Int→Int→Option ((List bW)×bI×Int))(w_2:bI)(t5:bI)(aDl:List bW)(aP7:bI)(t31:Int)(t32:Int):Option ((List bW)×bI×Int):=
 (bif (decide (t32<t31)) then
  ((xQ aP7).bind fun ⟨r6,r7,r8⟩=>
  (bif (r8 !=0) then
   some ([],w_2,r8)
  else
   ((xQ r7).bind fun ⟨r10,r11,r12⟩=>
   (bif (r12 !=0) then
    some ([],w_2,r12)
   else
    ((idx aDl t32).bind fun x14=>
    ((stt aDl t32 (bW.mk r6 r10)).bind fun l16=>
    rec1 w_2 t5 l16 r11 t31 (IntKind.i64.wrap (t32+1))))))))
 else
  some (aDl,aP7,0))
def rM:Nat→bI→bI→List bW→bI→Int→Int→Option ((List bW)×bI×Int)
 |0=>fun _ _ _ _ _ _=>none
 |n+1=>vH (rM n)
def uE(w_0:bI)(n_1:Int):Option ((List bW)×bI×Int):=
 ((sS w_0).bind fun r2=>
 (bif (((!r2)||(decide (n_1<0)))||(decide (128<n_1))) then
  some ([],w_0,1)
 else
  ((mkc n_1 n_1 (bW.mk 0 0)).bind fun l4=>
  rM aW w_0 (bI.mk [] 0) l4 w_0 (l4.length:Int) 0)))
theorem aN1:K2 prog mP vi (t3 (vl cL) mP vi) 33 uE:=by
 intro w_0 n_1 r hm
 let I1:=((fun m s=> ∃w_2 t5 aDl aP7 t31 t32,s=⟨65,(aF (aF (aF (aF (aF (aF fa 2 (.adr 1 0)) 5 (.adr 2 0)) 7 (.own 3 0 aDl.length)) 8 (.adr 4 0)) 31 (vi t31)) 32 (vi t32)),⟨(upd (upd (upd (upd aY 1 (.cells 1 [vl (ci .u64) w_2.List,vi w_2.At] 0)) 2 (.cells 1 [vl (ci .u64) t5.List,vi t5.At] 0)) 3 (.cells 2 (aDl.flatMap cL) 0)) 4 (.cells 1 [vl (ci .u64) aP7.List,vi aP7.At] 0)),64⟩⟩∧rM m w_2 t5 aDl aP7 t31 t32=some r):Nat→St→Prop)
 exact be 65 func33 (h:=G)
instance:Ct prog 33 (K2 prog mP vi (t3 (vl cL) mP vi) 33 uE):=⟨aN1⟩
def aIb(n_0:Int):Option ((List aI)×Int):=
 ((qZ n_0).bind fun r2=>
 (bif (!r2) then
  some ([],1)
 else
  ((mkc n_0 n_0 (aI.mk false 0)).bind fun l4=>
  some (l4,0))))
theorem aU1:K1 prog vi (t2 (vl aX) vi) 35 aIb:=fun hm=>be 9 func35 (h:=G)
instance:Ct prog 35 (K1 prog vi (t2 (vl aX) vi) 35 aIb):=⟨aU1⟩
def qN(c_0:bC)(w_1:bI):Option (aD×bI×Int):=
 (bif ((((((decide (c_0.N<1))||(decide (1024<c_0.N)))||(decide (c_0.L<1)))||(decide (16<c_0.L)))||(decide (c_0.R<1)))||(decide (8<c_0.R))) then
  some ((aD.mk (aJ.mk (bC.mk 0 0 0) [] []) []),w_1,1)
 else
  ((uE w_1 (IntKind.i64.wrap (c_0.L*c_0.R))).bind fun ⟨r2,r3,r4⟩=>
  (bif (r4 !=0) then
   some ((aD.mk (aJ.mk (bC.mk 0 0 0) [] []) []),w_1,r4)
  else
   ((aEf c_0 r2).bind fun ⟨r6,r7⟩=>
   (bif (r7 !=0) then
    some ((aD.mk (aJ.mk (bC.mk 0 0 0) [] []) []),w_1,r7)
   else
    ((aIb c_0.N).bind fun ⟨r9,r10⟩=>
    (bif (r10 !=0) then
     some ((aD.mk (aJ.mk (bC.mk 0 0 0) [] []) []),w_1,r10)
    else
     some ((aD.mk r6 r9),r3,0))))))))
theorem bEy{c_0:bC}{w_1:bI}{r:aD×bI×Int}(hm:qN c_0 w_1=some r):cE prog 10 [.agg [vi c_0.N,vi c_0.L,vi c_0.R],.agg [vl (ci .u64) w_1.List,vi w_1.At]] (.tup [.agg [vi r.1.Graph.Config.N,vi r.1.Graph.Config.L,vi r.1.Graph.Config.R,vl cL r.1.Graph.Hashes,vl aV r.1.Graph.Edges,vl aX r.1.Slots],.agg [vl (ci .u64) r.2.1.List,vi r.2.1.At],vi r.2.2]):=by
 refine bd 84 func10 ?_;refine W ?_;refine cm hm (fun hm=>?_) fun hm=>?_
 · refine W ?_;refine AWp.regV [(3,1),(4,2),(5,3)] 64 mix (by kernel_rfl) (by kernel_rfl) (IV.cons (off:=0) Z1 (IV.cons (off:=0) Z1 (IV.cons (off:=0) Z1 IV.nil))) (N':=192) rfl ?_;refine bU (.agg [vi 0,vi 0,vi 0,.v (.slice none 0 0),.v (.slice none 0 0),.v (.slice none 0 0)]) ?_;exact E
 refine W ?_;obtain ⟨⟨r2,r3,r4⟩,h1,hm⟩:=bnd hm;refine cq (aN1 h1) ?_;refine W ?_;refine cm hm (fun hm=>?_) fun hm=>?_
 · refine W ?_;refine AWp.regV [(3,1),(4,2),(5,3)] 64 mix (by kernel_rfl) (by kernel_rfl) (IV.cons (off:=0) Z1 (IV.cons (off:=0) Z1 (IV.cons (off:=0) Z1 IV.nil))) (N':=320) rfl ?_;refine bU (.agg [vi 0,vi 0,vi 0,.v (.slice none 0 0),.v (.slice none 0 0),.v (.slice none 0 0)]) ?_;exact E
 refine W ?_;obtain ⟨⟨r6,r7⟩,h5,hm⟩:=bnd hm;refine cq (aTv h5) ?_;refine W ?_;refine cm hm (fun hm=>?_) fun hm=>?_
 · refine W ?_;refine AWp.regV [(3,1),(4,2),(5,3)] 64 mix (by kernel_rfl) (by kernel_rfl) (IV.cons (off:=0) Z1 (IV.cons (off:=0) Z1 (IV.cons (off:=0) Z1 IV.nil))) (N':=448) rfl ?_;refine bU (.agg [vi 0,vi 0,vi 0,.v (.slice none 0 0),.v (.slice none 0 0),.v (.slice none 0 0)]) ?_;exact E
 refine W ?_;obtain ⟨⟨r9,r10⟩,h8,hm⟩:=bnd hm;refine cq (aU1 h8) ?_;refine W ?_;refine cm hm (fun hm=>?_) fun hm=>?_
 · refine W ?_;refine AWp.regV [(3,1),(4,2),(5,3)] 64 mix (by kernel_rfl) (by kernel_rfl) (IV.cons (off:=0) Z1 (IV.cons (off:=0) Z1 (IV.cons (off:=0) Z1 IV.nil))) (N':=576) rfl ?_;refine bU (.agg [vi 0,vi 0,vi 0,.v (.slice none 0 0),.v (.slice none 0 0),.v (.slice none 0 0)]) ?_;exact E
 refine W ?_;refine AWp.regV [(4,2),(5,3),(8,139),(10,262)] 64 mix (by kernel_rfl) (by kernel_rfl) (IV.cons (off:=0) Z1 (IV.cons (off:=0) Z1 (IV.cons (off:=0) Z1 (IV.cons (off:=0) Z1 IV.nil)))) (N':=576) rfl ?_;refine W ?_;refine bU (.agg [vi r6.Config.N,vi r6.Config.L,vi r6.Config.R,vl cL r6.Hashes,vl aV r6.Edges,vl aX r9]) ?_;exact E
instance:Ct prog 10 (K2 prog aK8 mP (t3 dC mP vi) 10 qN):=⟨fun hm=>bEy hm⟩
abbrev pF(s_3:aN)(t6:aN)(cJ1:bC):Option (aN×ByteArray):=
 ((qN cJ1 s_3.Words).bind fun ⟨r12,r13,r14⟩=>
 (bif (r14 !=0) then
  ((cR (GA.i 36 .i64 r14)).bind fun r16=>
  some (s_3,r16))
 else
  ((cR (GA.i 36 .i64 0)).bind fun r18=>
  some ((aN.mk r12 r13 true),r18))))
def aDy(rec1:Int→List Int→aN→aN→List Int→Int→Int→Option (aN×ByteArray))(aCo:Int)(aC3:List Int)(s_3:aN)(t6:aN)(t18:List Int)(t19:Int)(t20:Int):Option (aN×ByteArray):=
 (bif (decide (t20<t19)) then
  ((idx t18 t20).bind fun x2=>
  (bif (decide (2147483647<x2)) then
   ((cR (GA.i 36 .i64 6)).bind fun r4=>
   some (s_3,r4))
  else
   rec1 aCo aC3 s_3 t6 t18 t19 (IntKind.i64.wrap (t20+1))))
 else
  ((idx aC3 0).bind fun x6=>
  ((idx aC3 1).bind fun x8=>
  ((idx aC3 2).bind fun x10=>
  (bif (aCo==(-2)) then
   ((aDx (IntKind.i64.wrap x6) (IntKind.i64.wrap x8) (IntKind.i64.wrap x10)).bind fun ⟨r20,r21⟩=>
   (bif (r21 !=0) then
    ((cR (GA.i 36 .i64 r21)).bind fun r23=>
    some (s_3,r23))
   else
    pF s_3 t6 r20))
  else
   pF s_3 t6 (bC.mk (IntKind.i64.wrap x6) (IntKind.i64.wrap x8) (IntKind.i64.wrap x10)))))))
def tD:Nat→Int→List Int→aN→aN→List Int→Int→Int→Option (aN×ByteArray)
 |0=>fun _ _ _ _ _ _ _=>none
 |n+1=>aDy (tD n)
def rS(s_0:aN)(aCo:Int)(aC3:List Int):Option (aN×ByteArray):=
 tD aW aCo aC3 s_0 (aN.mk (aD.mk (aJ.mk (bC.mk 0 0 0) [] []) []) (bI.mk [] 0) false) aC3 (aC3.length:Int) 0
theorem aUx:K3 prog eE vi (vl (ci .u64)) (t2 eE vs) 64 rS:=by
 intro s_0 aCo aC3 r hm
 let I1:=((fun m s=> ∃aCo aC3 s_3 t6 t18 t19 t20,s=⟨80,(aF (aF (aF (aF (aF (aF (aF fa 1 (vi aCo)) 2 (vl (ci .u64) aC3)) 3 (.adr 1 0)) 6 (.adr 2 0)) 18 (vl (ci .u64) t18)) 19 (vi t19)) 20 (vi t20)),⟨(upd (upd aY 1 (.cells 1 [vi s_3.State.Graph.Config.N,vi s_3.State.Graph.Config.L,vi s_3.State.Graph.Config.R,vl cL s_3.State.Graph.Hashes,vl aV s_3.State.Graph.Edges,vl aX s_3.State.Slots,vl (ci .u64) s_3.Words.List,vi s_3.Words.At,vb s_3.On] 0)) 2 (.cells 1 [vi t6.State.Graph.Config.N,vi t6.State.Graph.Config.L,vi t6.State.Graph.Config.R,vl cL t6.State.Graph.Hashes,vl aV t6.State.Graph.Edges,vl aX t6.State.Slots,vl (ci .u64) t6.Words.List,vi t6.Words.At,vb t6.On] 0)),64⟩⟩∧tD m aCo aC3 s_3 t6 t18 t19 t20=some r):Nat→St→Prop)
 exact be 80 func64 (h:=G)
instance:Ct prog 64 (K3 prog eE vi (vl (ci .u64)) (t2 eE vs) 64 rS):=⟨aUx⟩
abbrev aB4(s_2:aN)(t4:aN)(bIb:dK):Option (aN×ByteArray):=
 ((iO s_2 bIb).bind fun ⟨r31,r32⟩=>
 some (r31,r32))
abbrev lL(s_2:aN)(t4:aN)(bYa:Int)(bS1:List Int)(bIb:dK):Option (aN×ByteArray):=
 (bif (decide (1<bYa)) then
  ((idx bS1 1).bind fun x34=>
  aB4 s_2 t4 (dK.mk bIb.Do bIb.A x34 bIb.Text))
 else
  aB4 s_2 t4 bIb)
def fG(s_0:aN)(aB5:List ByteArray):Option (aN×ByteArray):=
 (bif ((aB5.length:Int)==0) then
  ((cR (GA.i 36 .i64 1)).bind fun r2=>
  some (s_0,r2))
 else
  ((idx aB5 0).bind fun x4=>
  ((nL x4).bind fun ⟨r6,r7⟩=>
  (bif ((r6==0)||((IntKind.i64.wrap ((aB5.length:Int)-1)) !=r7)) then
   ((cR (GA.i 36 .i64 1)).bind fun r9=>
   some (s_0,r9))
  else
   (bif (r6==15) then
    ((idx aB5 1).bind fun x11=>
    ((aAq x11).bind fun ⟨r13,r14⟩=>
    (bif (r14 !=0) then
     ((cR (GA.i 36 .i64 r14)).bind fun r16=>
     some (s_0,r16))
    else
     ((iO s_0 (dK.mk r6 0 0 r13)).bind fun ⟨r18,r19⟩=>
     some (r18,r19)))))
   else
    ((slc aB5 1 (aB5.length:Int)).bind fun l21=>
    ((rD l21).bind fun ⟨r23,r24⟩=>
    (bif (r24 !=0) then
     ((cR (GA.i 36 .i64 r24)).bind fun r26=>
     some (s_0,r26))
    else
     (bif ((r6==(-1))||(r6==(-2))) then
      ((rS s_0 r6 r23).bind fun ⟨r28,r29⟩=>
      some (r28,r29))
     else
      (bif (decide (0<r7)) then
       ((idx r23 0).bind fun x36=>
       lL s_0 (aN.mk (aD.mk (aJ.mk (bC.mk 0 0 0) [] []) []) (bI.mk [] 0) false) r7 r23 (dK.mk r6 x36 0 ⟨#[]⟩))
      else
       lL s_0 (aN.mk (aD.mk (aJ.mk (bC.mk 0 0 0) [] []) []) (bI.mk [] 0) false) r7 r23 (dK.mk r6 0 0 ⟨#[]⟩)))))))))))
theorem aNp:K2 prog eE (vl lT) (t2 eE vs) 28 fG:=fun hm=>be 103 func28 (h:=G)
instance:Ct prog 28 (K2 prog eE (vl lT) (t2 eE vs) 28 fG):=⟨aNp⟩
def aFl(r_0:Int):Option (Bool):=
 some ((((decide (97≤r_0))&&(decide (r_0≤122)))||((decide (48≤r_0))&&(decide (r_0≤57))))||((decide (945≤r_0))&&(decide (r_0≤969))))
theorem aL3:K1 prog (vk .i32) vb 115 aFl:=fun hm=>be 25 func115 (h:=G)
instance:Ct prog 115 (K1 prog (vk .i32) vb 115 aFl):=⟨aL3⟩
abbrev sW(rec1:ByteArray→List (List ByteArray)→List ByteArray→Int→Bool→Int→ByteArray→Nat→Option ((List (List ByteArray))×Int×Int))(gH:ByteArray)(eC:List (List ByteArray))(fT:List ByteArray)(gZ:Int)(eF:Bool)(gT:Int)(t14s:ByteArray)(t14p:Nat):Option ((List (List ByteArray))×Int×Int):=
 rec1 gH eC fT gZ eF (IntKind.i64.wrap (gT+1)) t14s t14p
abbrev aEw(rec1:ByteArray→List (List ByteArray)→List ByteArray→Int→Bool→Int→ByteArray→Nat→Option ((List (List ByteArray))×Int×Int))(gH:ByteArray)(eC:List (List ByteArray))(fT:List ByteArray)(gZ:Int)(eF:Bool)(gT:Int)(iI:Int)(bBy:Int)(aG9:Bool)(t14s:ByteArray)(t14p:Nat):Option ((List (List ByteArray))×Int×Int):=
 (bif (bBy==10) then
  ((app eC [fT]).bind fun l5=>
  sW rec1 gH l5 [] gZ false gT t14s t14p)
 else
  (bif ((eF||(bBy==32))||(bBy==9)) then
   sW rec1 gH eC fT gZ eF gT t14s t14p
  else
   (bif (bBy==35) then
    sW rec1 gH eC fT gZ true gT t14s t14p
   else
    (bif (!aG9) then
     some ([],gT,2)
    else
     (bif (decide (gZ<0)) then
      sW rec1 gH eC fT iI eF gT t14s t14p
     else
      sW rec1 gH eC fT gZ eF gT t14s t14p)))))
abbrev aEx(eC:List (List ByteArray))(fT:List ByteArray):Option ((List (List ByteArray))×Int×Int):=
 ((app eC [fT]).bind fun l11=>
 some (l11,0,0))
def aJ8(rec1:ByteArray→List (List ByteArray)→List ByteArray→Int→Bool→Int→ByteArray→Nat→Option ((List (List ByteArray))×Int×Int))(gH:ByteArray)(eC:List (List ByteArray))(fT:List ByteArray)(gZ:Int)(eF:Bool)(gT:Int)(t14s:ByteArray)(t14p:Nat):Option ((List (List ByteArray))×Int×Int):=
 (bif (decide (t14p<t14s.size)) then
  ((eK ((!eF)==true) false (aFl (((Utf8.decode t14s t14p).1:Nat):Int))).bind fun r3=>
  (bif ((decide (0≤gZ))&&(!((!eF)&&r3))) then
   ((bLz gH gZ ((t14p:Nat):Int)).bind fun l7=>
   ((app fT [l7]).bind fun l9=>
   aEw rec1 gH eC l9 (-1) eF gT ((t14p:Nat):Int) (((Utf8.decode t14s t14p).1:Nat):Int) ((!eF)&&r3) t14s (t14p+(Utf8.decode t14s t14p).2)))
  else
   aEw rec1 gH eC fT gZ eF gT ((t14p:Nat):Int) (((Utf8.decode t14s t14p).1:Nat):Int) ((!eF)&&r3) t14s (t14p+(Utf8.decode t14s t14p).2)))
 else
  (bif (decide (0≤gZ)) then
   ((bLz gH gZ (gH.size:Int)).bind fun l13=>
   ((app fT [l13]).bind fun l15=>
   aEx eC l15))
  else
   aEx eC fT))
def xW:Nat→ByteArray→List (List ByteArray)→List ByteArray→Int→Bool→Int→ByteArray→Nat→Option ((List (List ByteArray))×Int×Int)
 |0=>fun _ _ _ _ _ _ _ _=>none
 |n+1=>aJ8 (xW n)
def aAp(gH:ByteArray):Option ((List (List ByteArray))×Int×Int):=
 xW aW gH [] [] (-1) false 0 gH 0
theorem aLx{gH:ByteArray}{r:(List (List ByteArray))×Int×Int}(hm:aAp gH=some r):cE prog 68 [.v (.string gH)] (.tup [.sl (r.1.flatMap (csl lT)) r.1.length false,.v (.int .i64 r.2.1),.v (.int .i64 r.2.2)]):=by
 refine cE.of_body func68 rfl ?_;simp only [ntmps68,List.length_cons,List.length_nil,Nat.reduceAdd,Nat.reduceSub,iN];unfold aAp at hm;refine sr (N':=64) rfl ?_
 iterate 3 refine pA ?_
 refine fs ?_;refine sr (N':=128) rfl ?_;refine pA ?_;refine fs ?_;refine sr (N':=192) rfl ?_;refine pA ?_;refine fs ?_;refine sr (N':=256) rfl ?_;refine pA ?_;refine fs ?_;refine sr (N':=320) rfl ?_;refine pA ?_;refine fs ?_;refine sr (N':=384) rfl ?_;refine pA ?_;refine fs ?_;refine AWp.seq' ?_;refine sr (N':=448) rfl ?_;refine pA ?_;refine hp (id:=385) rfl rfl (aIm underlying9 Z1 Z5) ?_;refine fs ?_;refine AWp.block ?_;refine AWp.loopM (fun m s=> ∃(gH:ByteArray) (eC:List (List ByteArray)) (fT:List ByteArray) (gZ:Int) (eF:Bool) (gT:Int) (t14s:ByteArray) (t14p:Nat),s=(⟨80,(aF (aF (aF (aF (aF (aF (aF (fun _=>AV.any) 0 (.v (.string gH))) 5 (.own 1 0 eC.length)) 6 (.own 2 0 fT.length)) 7 (.v (.int .i64 gZ))) 8 (.v (.bool eF))) 9 (.v (.int .i64 gT))) 14 (.adr 3 0)),⟨(upd (upd (upd aY 1 (.cells 1 (eC.flatMap (csl lT)) 0)) 2 (.cells 1 (fT.flatMap lT) 0)) 3 (.iter t14s t14p)),64⟩⟩:St)∧xW m gH eC fT gZ eF gT t14s t14p=some r) aW ?_ ?_ ?_
 · rintro s ⟨_,_,_,_,_,_,_,_,_,h⟩;cases h
 · refine ⟨_,?_,gH,[],[],(-1),false,0,gH,0,rfl,hm⟩;refine St.Le.trans (aAn 5 900005 1 Z1 Z5) ?_;refine St.Le.trans (aAn 6 900006 1 Z1 Z5) ?_;exact cP (fun j=>bif j==1 then 900005 else bif j==2 then 900006 else bif j==3 then 385 else 0) (bH _ _ (kX Z1 rfl Z7) (wV (wV (wV (wO (wO (wV dR))))))) (hW (cH (kZ Z3) (eU CFs (eU (CFl CFs) dA))))
 ·
  rintro n1 s ⟨gH,eC,fT,gZ,eF,gT,t14s,t14p,rfl,hm⟩;replace hm:aJ8 (xW n1) gH eC fT gZ eF gT t14s t14p=some r:=hm;unfold aJ8 at hm;refine sr (N':=128) rfl ?_;refine aZ8 hm (fun h1 hm=>?_) (fun h1 hm=>?_)
  ·
   refine hp (id:=64) rfl rfl (aDb Z1 Z3 (of_decide_eq_true h1)) ?_;refine pA ?_;refine fs ?_;refine AWp.seq' ?_;refine AWp.condT Z1 ?_;refine AWp.skip ?_;refine bQ ?_;refine AWp.block ?_;refine sr (N':=192) rfl ?_
   iterate 4 refine pA ?_
   refine fs ?_;refine sr (N':=256) rfl ?_
   iterate 4 first|refine pA ?_|refine pB ?_
   obtain ⟨r3,h2,hm⟩:=bnd hm;refine aR.callQG (r:= .v (.bool r3)) Zd rfl Z2 Z1 bZu (fun hb H=>(.cons (td (Zh hb) (.v _)) .nil)) (fun hb=>aL3 (kQ h2 hb)) ?_
   iterate 2 refine pA ?_
   refine fs ?_;refine AWp.seqJ (fun s=> ∃(gH:ByteArray) (eC:List (List ByteArray)) (fT:List ByteArray) (gZ:Int) (eF:Bool) (gT:Int) (iI:Int) (bBy:Int) (aG9:Bool) (t14s:ByteArray) (t14p:Nat),s=(⟨80,(aF (aF (aF (aF (aF (aF (aF (aF (aF (aF (fun _=>AV.any) 0 (.v (.string gH))) 5 (.own 1 0 eC.length)) 6 (.own 2 0 fT.length)) 7 (.v (.int .i64 gZ))) 8 (.v (.bool eF))) 9 (.v (.int .i64 gT))) 10 (.v (.int .i64 iI))) 11 (.v (.int .i32 bBy))) 12 (.v (.bool aG9))) 14 (.adr 3 0)),⟨(upd (upd (upd aY 1 (.cells 1 (eC.flatMap (csl lT)) 0)) 2 (.cells 1 (fT.flatMap lT) 0)) 3 (.iter t14s t14p)),64⟩⟩:St)∧aEw (xW n1) gH eC fT gZ eF gT iI bBy aG9 t14s t14p=some r) ?_ ?_
   ·
    refine sr (N':=320) rfl ?_
    iterate 6 first|refine pA ?_|refine pB ?_
    refine fs ?_;refine AWp.condM hm Z1 (fun _ hm=>?_) (fun _ hm=>?_)
    ·
     refine sr (N':=384) rfl ?_
     iterate 4 refine pA ?_
     obtain ⟨l7,h6,hm⟩:=bnd hm;refine pu rfl (bGg underlying9 Z1 (aCk Z1 (bFv h6).1) (aCk Z1 (bFv h6).2) h6) ?_;refine hp (id:=325) rfl rfl (kY CFs (l:=[l7]) underlying69 sz9 zc9 Z5 Zd Zd Zd (by simp only [go_sem,Nat.reduceBEq];try rfl) (by kernel_rfl)) ?_;obtain ⟨l9,h8,hm⟩:=bnd hm;refine hp (id:=326) rfl rfl (wX CFs underlying69 underlying69 rfl in9 ts9 (by rw [tb9];decide) (by rw [tb9];decide) tz9 Zd Zd Z1 Z3 Z6 (aAd CFs Z1 Z3 Z6) rfl Z5 h8) ?_;refine pA ?_;refine fs ?_;refine AWp.reg 64 (N':=448) rfl ?_;refine pA ?_;refine aR.fin ?_;refine oZ ?_;refine ⟨_,?_,gH,eC,l9,(-1),eF,gT,((t14p:Nat):Int),(((Utf8.decode t14s t14p).1:Nat):Int),((!eF)&&r3),t14s,(t14p+(Utf8.decode t14s t14p).2),rfl,hm⟩;exact cP (fun j=>bif j==1 then 1 else bif j==2 then 326 else bif j==3 then 3 else 0) (bH _ _ (kX Z1 rfl Z7) (wV (wV (wV (wV (wV (wV (wO (wO (wV dR)))))))))) (hW (cH (kZ Z3) (eU CFs (eU (CFl CFs) dA))))
    · refine AWp.skip ?_;refine oZ ?_;refine ⟨_,?_,gH,eC,fT,gZ,eF,gT,((t14p:Nat):Int),(((Utf8.decode t14s t14p).1:Nat):Int),((!eF)&&r3),t14s,(t14p+(Utf8.decode t14s t14p).2),rfl,hm⟩;exact cP (fun j=>bif j==1 then 1 else bif j==2 then 2 else bif j==3 then 3 else 0) (bH _ _ (kX Z1 rfl Z7) (wV (wV (wV (wV (wV (wV (wO (wO (wV dR)))))))))) (hW (cH (kZ Z3) (eU CFs (eU (CFl CFs) dA))))
   ·
    rintro s ⟨gH,eC,fT,gZ,eF,gT,iI,bBy,aG9,t14s,t14p,rfl,hm⟩;unfold aEw at hm;refine AWp.seqJ (fun s=> ∃(gH:ByteArray) (eC:List (List ByteArray)) (fT:List ByteArray) (gZ:Int) (eF:Bool) (gT:Int) (t14s:ByteArray) (t14p:Nat),s=(⟨80,(aF (aF (aF (aF (aF (aF (aF (fun _=>AV.any) 0 (.v (.string gH))) 5 (.own 1 0 eC.length)) 6 (.own 2 0 fT.length)) 7 (.v (.int .i64 gZ))) 8 (.v (.bool eF))) 9 (.v (.int .i64 gT))) 14 (.adr 3 0)),⟨(upd (upd (upd aY 1 (.cells 1 (eC.flatMap (csl lT)) 0)) 2 (.cells 1 (fT.flatMap lT) 0)) 3 (.iter t14s t14p)),64⟩⟩:St)∧sW (xW n1) gH eC fT gZ eF gT t14s t14p=some r) ?_ ?_
    ·
     refine AWp.block ?_;refine sr (N':=128) rfl ?_
     iterate 3 refine pA ?_
     refine fs ?_;refine AWp.condM hm Z1 (fun _ hm=>?_) (fun _ hm=>?_)
     ·
      refine AWp.seq' ?_;refine AWp.weaken (aKj CFs 6 2 Z1 Z3 Z6) ?_;refine AWp.reg 64 (N':=192) rfl ?_
      iterate 2 refine pA ?_
      refine hp (id:=130) rfl rfl (kY (CFl CFs) (l:=[fT]) underlying65 bYu bZb Z5 Zd Zd Zd (by simp only [go_sem,Nat.reduceBEq];try rfl) (by kernel_rfl)) ?_;obtain ⟨l5,h4,hm⟩:=bnd hm;refine hp (id:=131) rfl rfl (wX (CFl CFs) underlying65 underlying65 rfl bXo bZ0 (by rw [bM8];decide) (by rw [bM8];decide) bZ2 Zd Zd Z1 Z3 Z6 (aAd (CFl CFs) Z1 Z3 Z6) rfl Z5 h4) ?_;refine pA ?_;refine fs ?_;refine sr (N':=256) rfl ?_;refine pA ?_;refine fs ?_;refine AWp.reg 64 (N':=320) rfl ?_;refine pA ?_;refine aR.fin ?_;refine jS ?_;refine oZ ?_;refine ⟨_,?_,gH,l5,[],gZ,false,gT,t14s,t14p,rfl,hm⟩;refine St.Le.trans (aAn 6 900006 1 Z1 Z5) ?_;exact cP (fun j=>bif j==1 then 131 else bif j==2 then 900006 else bif j==3 then 3 else 0) (bH _ _ (kX Z1 rfl Z7) (wV (wV (wV (wO (wO (wV dR))))))) (hW (cH (kZ Z3) (eU CFs (eU (CFl CFs) dA))))
     ·
      refine sr (N':=192) rfl ?_
      iterate 10 first|refine pA ?_|refine pB ?_
      refine fs ?_;refine AWp.condM hm Z1 (fun _ hm=>?_) (fun _ hm=>?_)
      · refine AWp.skip ?_;refine jS ?_;refine oZ ?_;refine ⟨_,?_,gH,eC,fT,gZ,eF,gT,t14s,t14p,rfl,hm⟩;exact cP (fun j=>bif j==1 then 1 else bif j==2 then 2 else bif j==3 then 3 else 0) (bH _ _ (kX Z1 rfl Z7) (wV (wV (wV (wO (wO (wV dR))))))) (hW (cH (kZ Z3) (eU CFs (eU (CFl CFs) dA))))
      ·
       refine sr (N':=256) rfl ?_
       iterate 3 refine pA ?_
       refine fs ?_;refine AWp.condM hm Z1 (fun _ hm=>?_) (fun _ hm=>?_)
       · refine AWp.reg 64 (N':=320) rfl ?_;refine pA ?_;refine aR.fin ?_;refine jS ?_;refine oZ ?_;refine ⟨_,?_,gH,eC,fT,gZ,true,gT,t14s,t14p,rfl,hm⟩;exact cP (fun j=>bif j==1 then 1 else bif j==2 then 2 else bif j==3 then 3 else 0) (bH _ _ (kX Z1 rfl Z7) (wV (wV (wV (wO (wO (wV dR))))))) (hW (cH (kZ Z3) (eU CFs (eU (CFl CFs) dA))))
       ·
        refine sr (N':=320) rfl ?_
        iterate 3 refine pA ?_
        refine fs ?_;refine AWp.condM hm Z1 (fun _ hm=>?_) (fun _ hm=>?_)
        ·
         refine sr (N':=384) rfl ?_
         iterate 4 refine pA ?_
         refine fs ?_;refine AWp.ret ?_;refine sI ?_;refine bC6 ?_;refine sI ?_;refine sJ ?_;refine sI ?_;refine jE ?_;cases hm;exact bHh (.inr rfl) Tryz.results68 (tdn Z1) (td Z1 (.v _)) (td Z1 (.v _))
        ·
         refine sr (N':=384) rfl ?_
         iterate 3 refine pA ?_
         refine fs ?_;refine AWp.condM hm Z1 (fun _ hm=>?_) (fun _ hm=>?_)
         ·
          refine AWp.reg 64 (N':=448) rfl ?_
          iterate 2 refine pA ?_
          refine aR.fin ?_;refine jS ?_;refine oZ ?_;refine ⟨_,?_,gH,eC,fT,iI,eF,gT,t14s,t14p,rfl,hm⟩;exact cP (fun j=>bif j==1 then 1 else bif j==2 then 2 else bif j==3 then 3 else 0) (bH _ _ (kX Z1 rfl Z7) (wV (wV (wV (wO (wO (wV dR))))))) (hW (cH (kZ Z3) (eU CFs (eU (CFl CFs) dA))))
         · refine AWp.skip ?_;refine jS ?_;refine oZ ?_;refine ⟨_,?_,gH,eC,fT,gZ,eF,gT,t14s,t14p,rfl,hm⟩;exact cP (fun j=>bif j==1 then 1 else bif j==2 then 2 else bif j==3 then 3 else 0) (bH _ _ (kX Z1 rfl Z7) (wV (wV (wV (wO (wO (wV dR))))))) (hW (cH (kZ Z3) (eU CFs (eU (CFl CFs) dA))))
    ·
     rintro s ⟨gH,eC,fT,gZ,eF,gT,t14s,t14p,rfl,hm⟩;unfold sW at hm;refine AWp.reg 64 (N':=128) rfl ?_
     iterate 3 refine pA ?_
     refine aR.fin ?_;refine jS ?_;refine hZ ?_;refine ⟨_,?_,gH,eC,fT,gZ,eF,(IntKind.i64.wrap (gT+1)),t14s,t14p,rfl,hm⟩;exact cP (fun j=>bif j==1 then 1 else bif j==2 then 2 else bif j==3 then 3 else 0) (bH _ _ (kX Z1 rfl Z7) (wV (wV (wV (wO (wO (wV dR))))))) (hW (cH (kZ Z3) (eU CFs (eU (CFl CFs) dA))))
  ·
   refine hp (id:=64) rfl rfl (aFg Z1 Z3 (of_decide_eq_false h1)) ?_;refine pA ?_;refine fs ?_;refine AWp.seq' ?_;refine AWp.condF Z1 ?_;refine AWp.exit ?_;refine kG ?_;refine jB ?_;refine iS ?_;refine bQ ?_;refine AWp.seqJ (fun s=> ∃(eC:List (List ByteArray)) (fT:List ByteArray),s=(⟨80,(aF (aF (fun _=>AV.any) 5 (.own 1 0 eC.length)) 6 (.own 2 0 fT.length)),⟨(upd (upd aY 1 (.cells 1 (eC.flatMap (csl lT)) 0)) 2 (.cells 1 (fT.flatMap lT) 0)),64⟩⟩:St)∧aEx eC fT=some r) ?_ ?_
   ·
    refine sr (N':=192) rfl ?_
    iterate 2 refine pA ?_
    refine fs ?_;refine AWp.condM hm Z1 (fun _ hm=>?_) (fun _ hm=>?_)
    ·
     refine AWp.reg 64 (N':=256) rfl ?_
     iterate 3 refine pA ?_
     obtain ⟨l13,h12,hm⟩:=bnd hm;refine pu rfl (bGg underlying9 Z1 (aCk Z1 (bFv h12).1) (aWo _) h12) ?_;refine hp (id:=196) rfl rfl (kY CFs (l:=[l13]) underlying69 sz9 zc9 Z5 Zd Zd Zd (by simp only [go_sem,Nat.reduceBEq];try rfl) (by kernel_rfl)) ?_;obtain ⟨l15,h14,hm⟩:=bnd hm;refine hp (id:=197) rfl rfl (wX CFs underlying69 underlying69 rfl in9 ts9 (by rw [tb9];decide) (by rw [tb9];decide) tz9 Zd Zd Z1 Z3 Z6 (aAd CFs Z1 Z3 Z6) rfl Z5 h14) ?_;refine pA ?_;refine aR.fin ?_;refine oZ ?_;refine ⟨_,?_,eC,l15,rfl,hm⟩;exact cP (fun j=>bif j==1 then 1 else bif j==2 then 197 else 0) (wO (wO dR)) (hW (eU CFs (eU (CFl CFs) dA)))
    · refine AWp.skip ?_;refine oZ ?_;refine ⟨_,?_,eC,fT,rfl,hm⟩;exact cP (fun j=>bif j==1 then 1 else bif j==2 then 2 else 0) (wO (wO dR)) (hW (eU CFs (eU (CFl CFs) dA)))
   ·
    rintro s ⟨eC,fT,rfl,hm⟩;unfold aEx at hm;refine AWp.seq' ?_;refine AWp.weaken (aKj CFs 6 2 Z1 Z3 Z6) ?_;refine AWp.reg 64 (N':=128) rfl ?_
    iterate 2 refine pA ?_
    refine hp (id:=66) rfl rfl (kY (CFl CFs) (l:=[fT]) underlying65 bYu bZb Z5 Zd Zd Zd (by simp only [go_sem,Nat.reduceBEq];try rfl) (by kernel_rfl)) ?_;obtain ⟨l11,h10,hm⟩:=bnd hm;refine hp (id:=67) rfl rfl (wX (CFl CFs) underlying65 underlying65 rfl bXo bZ0 (by rw [bM8];decide) (by rw [bM8];decide) bZ2 Zd Zd Z1 Z3 Z6 (aAd (CFl CFs) Z1 Z3 Z6) rfl Z5 h10) ?_
    iterate 3 refine pA ?_
    refine fs ?_;refine AWp.ret ?_;cases hm;exact bHh (.inr rfl) Tryz.results68 (tdo (CFl CFs) Z1 Z3 Z6) (td Z1 (.v _)) (td Z1 (.v _))
instance:Ct prog 68 (K1 prog vs (t3 (vl (csl lT)) vi vi) 68 aAp):=⟨fun hm=>aLx hm⟩
attribute [local semireducible] aW
end Go.Proofs.YtkdohhmacfoolaaGreatDoor
