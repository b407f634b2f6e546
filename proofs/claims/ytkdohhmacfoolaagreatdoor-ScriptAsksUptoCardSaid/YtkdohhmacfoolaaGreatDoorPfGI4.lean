/- Facts. No condition. -/
import Derived.Test.YtkdohhmacfoolaaGreatDoorPfGI3
set_option linter.unusedVariables false
set_option linter.unusedSimpArgs false
set_option maxRecDepth 20000
set_option maxHeartbeats 4000000
namespace Go.Proofs.YtkdohhmacfoolaaGreatDoor
open Go.Proofs.Tryz Go Go.AM
attribute [local irreducible] aW
@[go_sem] theorem bJa(i o:Nat):aH prog 23 (.adr i o) 0=some (.adr i (o+0)):=by kernel_rfl
@[go_sem] theorem bJg(i o:Nat):aH prog 23 (.adr i o) 1=some (.adr i (o+1)):=by kernel_rfl
@[go_sem] theorem bJm(i o:Nat):aH prog 23 (.adr i o) 2=some (.adr i (o+2)):=by kernel_rfl
@[go_sem] theorem bKb(i o:Nat):aH prog 35 (.adr i o) 0=some (.adr i (o+0)):=by kernel_rfl
@[go_sem] theorem bKc(i o:Nat):aH prog 35 (.adr i o) 1=some (.adr i (o+1)):=by kernel_rfl
@[go_sem] theorem bKg(i o:Nat):aH prog 42 (.adr i o) 1=some (.adr i (o+1)):=by kernel_rfl
@[go_sem] theorem bKi(i o:Nat):aH prog 42 (.adr i o) 2=some (.adr i (o+2)):=by kernel_rfl
@[go_sem] theorem bL2(i o:Nat):aH prog 68 (.adr i o) 1=some (.adr i (o+6)):=by kernel_rfl
@[go_sem] theorem bTd(H:aG)(x0 x1 x2:AV)(xs:List AV):bT prog H 23 (.ptr (x0::x1::x2::xs))=some (.agg [x0,x1,x2]):=by kernel_rfl
@[go_sem] theorem bTf(H:aG)(x:AV)(xs:List AV):bT prog H 24 (.ptr (x::xs))=some x:=by kernel_rfl
@[go_sem] theorem bPd(H:aG)(x:AV)(xs:List AV):bT prog H 277 (.ptr (x::xs))=some x:=by kernel_rfl
@[go_sem] theorem bY0(H:aG)(x:AV)(xs:List AV):bT prog H 3 (.ptr (x::xs))=some x:=by kernel_rfl
@[go_sem] theorem bTw(H:aG)(x0 x1 x2 x3 x4:AV)(xs:List AV):bT prog H 30 (.ptr (x0::x1::x2::x3::x4::xs))=some (.agg [x0,x1,x2,x3,x4]):=by kernel_rfl
@[go_sem] theorem bU5(H:aG)(x0 x1 x2 x3 x4 x5:AV)(xs:List AV):bT prog H 33 (.ptr (x0::x1::x2::x3::x4::x5::xs))=some (.agg [x0,x1,x2,x3,x4,x5]):=by kernel_rfl
@[go_sem] theorem bU7(H:aG)(x0 x1:AV)(xs:List AV):bT prog H 35 (.ptr (x0::x1::xs))=some (.agg [x0,x1]):=by kernel_rfl
@[go_sem] theorem bUe(H:aG)(x:AV)(xs:List AV):bT prog H 40 (.ptr (x::xs))=some x:=by kernel_rfl
@[go_sem] theorem bUg(H:aG)(x0 x1 x2 x3:AV)(xs:List AV):bT prog H 42 (.ptr (x0::x1::x2::x3::xs))=some (.agg [x0,x1,x2,x3]):=by kernel_rfl
@[go_sem] theorem bUo(H:aG)(x0 x1 x2 x3 x4 x5 x6 x7 x8:AV)(xs:List AV):bT prog H 68 (.ptr (x0::x1::x2::x3::x4::x5::x6::x7::x8::xs))=some (.agg [x0,x1,x2,x3,x4,x5,x6,x7,x8]):=by kernel_rfl
@[go_sem] theorem bYa(H:aG)(x:AV)(xs:List AV):bT prog H 9 (.ptr (x::xs))=some x:=by kernel_rfl
@[go_sem] theorem bIp(H:aG)(k:IntKind)(n:Int):mU prog H 40 3 (.v (.int k n))=some (.v (.int .i64 (IntKind.i64.wrap n))):=gK underlying40 underlying3
def vG(x_0:Int):Option (Bool):=
 some (x_0 !=x_0)
theorem aUg:K1 prog vi vb 251 vG:=fun hm=>be 6 func251 (h:=G)
instance:Ct prog 251 (K1 prog vi vb 251 vG):=⟨aUg⟩
def wU(x_0:Int)(y_1:Int):Option (Int):=
 ((vG x_0).bind fun r2=>
 ((vG y_1).bind fun r4=>
 (bif r2 then
  (bif r4 then
   some 0
  else
   some (-1))
 else
  (bif r4 then
   some 1
  else
   (bif (decide (x_0<y_1)) then
    some (-1)
   else
    (bif (decide (y_1<x_0)) then
     some 1
    else
     some 0))))))
theorem aR6:K2 prog vi vi vi 230 wU:=fun hm=>be 20 func230 (h:=G)
instance:Ct prog 230 (K2 prog vi vi vi 230 wU):=⟨aR6⟩
def oV(x_0:Int):Option (Bool):=
 some (x_0 !=x_0)
theorem aOl:K1 prog (vk .u32) vb 252 oV:=fun hm=>be 6 func252 (h:=G)
instance:Ct prog 252 (K1 prog (vk .u32) vb 252 oV):=⟨aOl⟩
def mW(x_0:Int)(y_1:Int):Option (Int):=
 ((oV x_0).bind fun r2=>
 ((oV y_1).bind fun r4=>
 (bif r2 then
  (bif r4 then
   some 0
  else
   some (-1))
 else
  (bif r4 then
   some 1
  else
   (bif (decide (x_0<y_1)) then
    some (-1)
   else
    (bif (decide (y_1<x_0)) then
     some 1
    else
     some 0))))))
theorem aLq:K2 prog (vk .u32) (vk .u32) vi 231 mW:=fun hm=>be 20 func231 (h:=G)
instance:Ct prog 231 (K2 prog (vk .u32) (vk .u32) vi 231 mW):=⟨aLq⟩
def aP2(rec1:List Int→List Int→Int→Option (Int))(a_0:List Int)(b_1:List Int)(i_5:Int):Option (Int):=
 (bif (decide (0≤i_5)) then
  ((idx a_0 i_5).bind fun x8=>
  ((idx b_1 i_5).bind fun x10=>
  (bif (x8 !=x10) then
   ((idx a_0 i_5).bind fun x12=>
   ((idx b_1 i_5).bind fun x14=>
   ((mW x12 x14).bind fun r16=>
   some r16)))
  else
   rec1 a_0 b_1 (IntKind.i64.wrap (i_5-1)))))
 else
  some 0)
def aGj:Nat→List Int→List Int→Int→Option (Int)
 |0=>fun _ _ _=>none
 |n+1=>aP2 (aGj n)
def aJk(a_0:List Int)(b_1:List Int):Option (Int):=
 ((mY a_0).bind fun r2=>
 ((eG ((!r2)==false) false (mY b_1)).bind fun r4=>
 (bif ((!r2)||(!r4)) then
  some 0
 else
  (bif ((a_0.length:Int) !=(b_1.length:Int)) then
   ((wU (a_0.length:Int) (b_1.length:Int)).bind fun r6=>
   some r6)
  else
   aGj aW a_0 b_1 (IntKind.i64.wrap ((a_0.length:Int)-1))))))
theorem bPu:K2 prog (vl (ci .u32)) (vl (ci .u32)) vi 186 aJk:=by
 intro a_0 b_1 r hm
 let I1:=((fun m s=> ∃a_0 b_1 i_5,s=⟨49,(aF (aF (aF fa 0 (vl (ci .u32) a_0)) 1 (vl (ci .u32) b_1)) 5 (vi i_5)),⟨aY,64⟩⟩∧aGj m a_0 b_1 i_5=some r):Nat→St→Prop)
 exact be 49 func186 (h:=G)
instance:Ct prog 186 (K2 prog (vl (ci .u32)) (vl (ci .u32)) vi 186 aJk):=⟨bPu⟩
def zS(n_0:Int)(m_1:Int)(k_2:Int)(l_3:Int)(r_4:Int):Option (Bool):=
 ((nW n_0 m_1).bind fun r2=>
 ((eG ((!r2)==false) false (aAv k_2)).bind fun r4=>
 ((eG (((!r2)||(!r4))==false) false (qI l_3 r_4)).bind fun r6=>
 (bif (((!r2)||(!r4))||(!r6)) then
  some false
 else
  ((zV n_0 m_1 l_3 r_4).bind fun ⟨r8,r9⟩=>
  (bif (r9 !=0) then
   some false
  else
   ((aBs l_3 r_4).bind fun ⟨r11,r12⟩=>
   (bif (r12 !=0) then
    some false
   else
    ((aB7 2).bind fun r14=>
    ((aDt r14 k_2).bind fun ⟨r16,r17⟩=>
    (bif (r17 !=0) then
     some false
    else
     ((aDs r8 r16).bind fun ⟨r19,r20⟩=>
     ((eG ((r20==0)==true) 0 (aJk r19 r11)).bind fun r22=>
     some ((r20==0)&&(decide (r22≤0))))))))))))))))
theorem aYl:K5 prog vi vi vi vi vi vb 149 zS:=fun hm=>be 71 func149 (h:=G)
instance:Ct prog 149 (K5 prog vi vi vi vi vi vb 149 zS):=⟨aYl⟩
def aJt(rec1:Int→Int→Int→bC→Int→Option (bC×Int))(rec2:Int→Int→Int→bC→Int→Int→Option (bC×Int))(n_0:Int)(m_1:Int)(k_2:Int)(t6:bC)(l_8:Int)(r_9:Int):Option (bC×Int):=
 (bif (decide (r_9≤8)) then
  ((zS n_0 m_1 k_2 l_8 r_9).bind fun r6=>
  (bif r6 then
   some ((bC.mk n_0 l_8 r_9),0)
  else
   rec2 n_0 m_1 k_2 t6 l_8 (IntKind.i64.wrap (r_9+1))))
 else
  rec1 n_0 m_1 k_2 t6 (IntKind.i64.wrap (l_8+1)))
def aBr(rec1:Int→Int→Int→bC→Int→Option (bC×Int)):Nat→Int→Int→Int→bC→Int→Int→Option (bC×Int)
 |0=>fun _ _ _ _ _ _=>none
 |n+1=>aJt rec1 (aBr rec1 n)
def aJs(rec1:Int→Int→Int→bC→Int→Option (bC×Int))(n_0:Int)(m_1:Int)(k_2:Int)(t6:bC)(l_8:Int):Option (bC×Int):=
 (bif (decide (l_8≤16)) then
  aBr rec1 aW n_0 m_1 k_2 t6 l_8 1
 else
  some ((bC.mk 0 0 0),6))
def mL:Nat→Int→Int→Int→bC→Int→Option (bC×Int)
 |0=>fun _ _ _ _ _=>none
 |n+1=>aJs (mL n)
def aDz(n_0:Int)(m_1:Int)(k_2:Int):Option (bC×Int):=
 ((nW n_0 m_1).bind fun r2=>
 ((eG ((!r2)==false) false (aAv k_2)).bind fun r4=>
 (bif ((!r2)||(!r4)) then
  some ((bC.mk 0 0 0),1)
 else
  mL aW n_0 m_1 k_2 (bC.mk 0 0 0) 1)))
theorem bFp:K3 prog vi vi vi (t2 aKa vi) 111 aDz:=by
 intro n_0 m_1 k_2 r hm
 let I1:=((fun m s=> ∃n_0 m_1 k_2 t6 l_8,s=⟨39,(aF (aF (aF (aF (aF fa 0 (vi n_0)) 1 (vi m_1)) 2 (vi k_2)) 6 (.adr 1 0)) 8 (vi l_8)),⟨(upd aY 1 (.cells 1 [vi t6.N,vi t6.L,vi t6.R] 0)),64⟩⟩∧mL m n_0 m_1 k_2 t6 l_8=some r):Nat→St→Prop)
 let I2:=fun (n1:Nat)=>((fun m s=> ∃n_0 m_1 k_2 t6 l_8 r_9,s=⟨39,(aF (aF (aF (aF (aF (aF fa 0 (vi n_0)) 1 (vi m_1)) 2 (vi k_2)) 6 (.adr 1 0)) 8 (vi l_8)) 9 (vi r_9)),⟨(upd aY 1 (.cells 1 [vi t6.N,vi t6.L,vi t6.R] 0)),64⟩⟩∧aBr (mL n1) m n_0 m_1 k_2 t6 l_8 r_9=some r):Nat→St→Prop)
 exact be 39 func111 (h:=G)
instance:Ct prog 111 (K3 prog vi vi vi (t2 aKa vi) 111 aDz):=⟨bFp⟩
def sT(w_0:bI):Option (Bool):=
 some ((decide (0≤w_0.At))&&(decide (w_0.At≤(w_0.List.length:Int))))
theorem aQ7:K1 prog mR vb 73 sT:=fun hm=>be 14 func73 (h:=G)
instance:Ct prog 73 (K1 prog mR vb 73 sT):=⟨aQ7⟩
def aH9(rec1:bI→bI→Int→Option (Int×bI×Int))(w_1:bI)(t3:bI)(aMq:Int):Option (Int×bI×Int):=
 (bif (decide (aMq<(w_1.List.length:Int))) then
  ((idx w_1.List aMq).bind fun x4=>
  (bif (decide ((yQ .u64 x4 2305843009213693951)<2305843009213693951)) then
   some ((yQ .u64 x4 2305843009213693951),(bI.mk w_1.List (IntKind.i64.wrap (aMq+1))),0)
  else
   rec1 w_1 t3 (IntKind.i64.wrap (aMq+1))))
 else
  some (0,w_1,5))
def zB:Nat→bI→bI→Int→Option (Int×bI×Int)
 |0=>fun _ _ _=>none
 |n+1=>aH9 (zB n)
def xQ(w_0:bI):Option (Int×bI×Int):=
 ((sT w_0).bind fun r2=>
 (bif (!r2) then
  some (0,w_0,1)
 else
  zB aW w_0 (bI.mk [] 0) w_0.At))
theorem bAk{w_0:bI}{r:Int×bI×Int}(hm:xQ w_0=some r):bY prog 74 [.agg [vl (ci .u64) w_0.List,vi w_0.At]] (.tup [vu r.1,.agg [vl (ci .u64) r.2.1.List,vi r.2.1.At],vi r.2.2]):=by
 refine bd 35 func74 ?_;obtain ⟨r2,h1,hm⟩:=bnd hm;refine W ?_;refine cq (aQ7 h1) ?_;refine W ?_;refine cm hm (fun hm=>?_) fun hm=>?_
 · exact E
 refine W ?_;refine lp (fun m s=> ∃w_1 t3 aMq,s=⟨35,(aF (aF (aF fa 1 (.adr 1 0)) 3 (.adr 2 0)) 5 (vi aMq)),⟨(upd (upd aY 1 (.cells 1 [vl (ci .u64) w_1.List,vi w_1.At] 0)) 2 (.cells 1 [vl (ci .u64) t3.List,vi t3.At] 0)),64⟩⟩∧zB m w_1 t3 aMq=some r) ?_ ?_
 · refine ⟨_,?_,w_0,(bI.mk [] 0),w_0.At,rfl,hm⟩;refine St.Le.trans (bB2 2 (ys:=[.sl (((bI.mk [] 0).List).flatMap (ci .u64)) ((bI.mk [] 0).List).length false,.v (.int .i64 ((bI.mk [] 0).At))]) Z3 (.cons (.nil false) (.cons (.data _ (.v _)) .nil))) ?_;exact cn (fun j=>bif j==1 then 0 else bif j==2 then 2 else 0)
 rintro n1 s ⟨w_1,t3,aMq,rfl,hm⟩;refine W ?_;refine cm hm (fun hm=>?_) fun hm=>?_
 ·
  obtain ⟨x4,h3,hm⟩:=bnd hm;refine W ?_;refine cm hm (fun hm=>?_) fun hm=>?_
  · refine W ?_;refine bU (.agg [vl (ci .u64) w_1.List,.v (.int .i64 (IntKind.i64.wrap (aMq+1)))]) ?_;exact E
  refine W ?_;exact Lr (fun j=>bif j==1 then 1 else bif j==2 then 2 else 0)
 exact E
instance:Ct prog 74 (K1 prog mR (t3 vu mR vi) 74 xQ):=⟨fun hm=>bAk hm⟩
def vH(rec1:bI→bI→List bW→bI→Int→Int→Option ((List bW)×bI×Int))(w_2:bI)(t5:bI)(aDn:List bW)(aPa:bI)(t31:Int)(t32:Int):Option ((List bW)×bI×Int):=
 (bif (decide (t32<t31)) then
  ((xQ aPa).bind fun ⟨r6,r7,r8⟩=>
  (bif (r8 !=0) then
   some ([],w_2,r8)
  else
   ((xQ r7).bind fun ⟨r10,r11,r12⟩=>
   (bif (r12 !=0) then
    some ([],w_2,r12)
   else
    ((idx aDn t32).bind fun x14=>
    ((stt aDn t32 (bW.mk r6 r10)).bind fun l16=>
    rec1 w_2 t5 l16 r11 t31 (IntKind.i64.wrap (t32+1))))))))
 else
  some (aDn,aPa,0))
def rO:Nat→bI→bI→List bW→bI→Int→Int→Option ((List bW)×bI×Int)
 |0=>fun _ _ _ _ _ _=>none
 |n+1=>vH (rO n)
def uE(w_0:bI)(n_1:Int):Option ((List bW)×bI×Int):=
 ((sT w_0).bind fun r2=>
 (bif (((!r2)||(decide (n_1<0)))||(decide (128<n_1))) then
  some ([],w_0,1)
 else
  ((mkc n_1 n_1 (bW.mk 0 0)).bind fun l4=>
  rO aW w_0 (bI.mk [] 0) l4 w_0 (l4.length:Int) 0)))
theorem aN4:K2 prog mR vi (t3 (vl cL) mR vi) 33 uE:=by
 intro w_0 n_1 r hm
 let I1:=((fun m s=> ∃w_2 t5 aDn aPa t31 t32,s=⟨65,(aF (aF (aF (aF (aF (aF fa 2 (.adr 1 0)) 5 (.adr 2 0)) 7 (.own 3 0 aDn.length)) 8 (.adr 4 0)) 31 (vi t31)) 32 (vi t32)),⟨(upd (upd (upd (upd aY 1 (.cells 1 [vl (ci .u64) w_2.List,vi w_2.At] 0)) 2 (.cells 1 [vl (ci .u64) t5.List,vi t5.At] 0)) 3 (.cells 2 (aDn.flatMap cL) 0)) 4 (.cells 1 [vl (ci .u64) aPa.List,vi aPa.At] 0)),64⟩⟩∧rO m w_2 t5 aDn aPa t31 t32=some r):Nat→St→Prop)
 exact be 65 func33 (h:=G)
instance:Ct prog 33 (K2 prog mR vi (t3 (vl cL) mR vi) 33 uE):=⟨aN4⟩
def aIe(n_0:Int):Option ((List aI)×Int):=
 ((rD n_0).bind fun r2=>
 (bif (!r2) then
  some ([],1)
 else
  ((mkc n_0 n_0 (aI.mk false 0)).bind fun l4=>
  some (l4,0))))
theorem aU3:K1 prog vi (t2 (vl aX) vi) 35 aIe:=fun hm=>be 9 func35 (h:=G)
instance:Ct prog 35 (K1 prog vi (t2 (vl aX) vi) 35 aIe):=⟨aU3⟩
def qP(c_0:bC)(w_1:bI):Option (aD×bI×Int):=
 (bif ((((((decide (c_0.N<1))||(decide (1024<c_0.N)))||(decide (c_0.L<1)))||(decide (16<c_0.L)))||(decide (c_0.R<1)))||(decide (8<c_0.R))) then
  some ((aD.mk (aJ.mk (bC.mk 0 0 0) [] []) []),w_1,1)
 else
  ((uE w_1 (IntKind.i64.wrap (c_0.L*c_0.R))).bind fun ⟨r2,r3,r4⟩=>
  (bif (r4 !=0) then
   some ((aD.mk (aJ.mk (bC.mk 0 0 0) [] []) []),w_1,r4)
  else
   ((aEh c_0 r2).bind fun ⟨r6,r7⟩=>
   (bif (r7 !=0) then
    some ((aD.mk (aJ.mk (bC.mk 0 0 0) [] []) []),w_1,r7)
   else
    ((aIe c_0.N).bind fun ⟨r9,r10⟩=>
    (bif (r10 !=0) then
     some ((aD.mk (aJ.mk (bC.mk 0 0 0) [] []) []),w_1,r10)
    else
     some ((aD.mk r6 r9),r3,0))))))))
theorem bF1{c_0:bC}{w_1:bI}{r:aD×bI×Int}(hm:qP c_0 w_1=some r):bY prog 10 [.agg [vi c_0.N,vi c_0.L,vi c_0.R],.agg [vl (ci .u64) w_1.List,vi w_1.At]] (.tup [.agg [vi r.1.Graph.Config.N,vi r.1.Graph.Config.L,vi r.1.Graph.Config.R,vl cL r.1.Graph.Hashes,vl aV r.1.Graph.Edges,vl aX r.1.Slots],.agg [vl (ci .u64) r.2.1.List,vi r.2.1.At],vi r.2.2]):=by
 refine bd 84 func10 ?_;refine W ?_;refine cm hm (fun hm=>?_) fun hm=>?_
 · refine W ?_;refine AWp.regV [(3,1),(4,2),(5,3)] 64 mix (by kernel_rfl) (by kernel_rfl) (IV.cons (off:=0) Z1 (IV.cons (off:=0) Z1 (IV.cons (off:=0) Z1 IV.nil))) (N':=192) rfl ?_;refine bU (.agg [vi 0,vi 0,vi 0,.v (.slice none 0 0),.v (.slice none 0 0),.v (.slice none 0 0)]) ?_;exact E
 refine W ?_;obtain ⟨⟨r2,r3,r4⟩,h1,hm⟩:=bnd hm;refine cq (aN4 h1) ?_;refine W ?_;refine cm hm (fun hm=>?_) fun hm=>?_
 · refine W ?_;refine AWp.regV [(3,1),(4,2),(5,3)] 64 mix (by kernel_rfl) (by kernel_rfl) (IV.cons (off:=0) Z1 (IV.cons (off:=0) Z1 (IV.cons (off:=0) Z1 IV.nil))) (N':=320) rfl ?_;refine bU (.agg [vi 0,vi 0,vi 0,.v (.slice none 0 0),.v (.slice none 0 0),.v (.slice none 0 0)]) ?_;exact E
 refine W ?_;obtain ⟨⟨r6,r7⟩,h5,hm⟩:=bnd hm;refine cq (aTx h5) ?_;refine W ?_;refine cm hm (fun hm=>?_) fun hm=>?_
 · refine W ?_;refine AWp.regV [(3,1),(4,2),(5,3)] 64 mix (by kernel_rfl) (by kernel_rfl) (IV.cons (off:=0) Z1 (IV.cons (off:=0) Z1 (IV.cons (off:=0) Z1 IV.nil))) (N':=448) rfl ?_;refine bU (.agg [vi 0,vi 0,vi 0,.v (.slice none 0 0),.v (.slice none 0 0),.v (.slice none 0 0)]) ?_;exact E
 refine W ?_;obtain ⟨⟨r9,r10⟩,h8,hm⟩:=bnd hm;refine cq (aU3 h8) ?_;refine W ?_;refine cm hm (fun hm=>?_) fun hm=>?_
 · refine W ?_;refine AWp.regV [(3,1),(4,2),(5,3)] 64 mix (by kernel_rfl) (by kernel_rfl) (IV.cons (off:=0) Z1 (IV.cons (off:=0) Z1 (IV.cons (off:=0) Z1 IV.nil))) (N':=576) rfl ?_;refine bU (.agg [vi 0,vi 0,vi 0,.v (.slice none 0 0),.v (.slice none 0 0),.v (.slice none 0 0)]) ?_;exact E
 refine W ?_;refine AWp.regV [(4,2),(5,3),(8,139),(10,262)] 64 mix (by kernel_rfl) (by kernel_rfl) (IV.cons (off:=0) Z1 (IV.cons (off:=0) Z1 (IV.cons (off:=0) Z1 (IV.cons (off:=0) Z1 IV.nil)))) (N':=576) rfl ?_;refine W ?_;refine bU (.agg [vi r6.Config.N,vi r6.Config.L,vi r6.Config.R,vl cL r6.Hashes,vl aV r6.Edges,vl aX r9]) ?_;exact E
instance:Ct prog 10 (K2 prog aKa mR (t3 dF mR vi) 10 qP):=⟨fun hm=>bF1 hm⟩
abbrev pO(s_3:aM)(t6:aM)(cJ5:bC):Option (aM×ByteArray):=
 ((qP cJ5 s_3.Words).bind fun ⟨r12,r13,r14⟩=>
 (bif (r14 !=0) then
  ((cU (GA.i 36 .i64 r14)).bind fun r16=>
  some (s_3,r16))
 else
  ((cU (GA.i 36 .i64 0)).bind fun r18=>
  some ((aM.mk r12 r13 true),r18))))
def aE0(rec1:Int→List Int→aM→aM→List Int→Int→Int→Option (aM×ByteArray))(aCq:Int)(aC5:List Int)(s_3:aM)(t6:aM)(t18:List Int)(t19:Int)(t20:Int):Option (aM×ByteArray):=
 (bif (decide (t20<t19)) then
  ((idx t18 t20).bind fun x2=>
  (bif (decide (2147483647<x2)) then
   ((cU (GA.i 36 .i64 6)).bind fun r4=>
   some (s_3,r4))
  else
   rec1 aCq aC5 s_3 t6 t18 t19 (IntKind.i64.wrap (t20+1))))
 else
  ((idx aC5 0).bind fun x6=>
  ((idx aC5 1).bind fun x8=>
  ((idx aC5 2).bind fun x10=>
  (bif (aCq==(-2)) then
   ((aDz (IntKind.i64.wrap x6) (IntKind.i64.wrap x8) (IntKind.i64.wrap x10)).bind fun ⟨r20,r21⟩=>
   (bif (r21 !=0) then
    ((cU (GA.i 36 .i64 r21)).bind fun r23=>
    some (s_3,r23))
   else
    pO s_3 t6 r20))
  else
   pO s_3 t6 (bC.mk (IntKind.i64.wrap x6) (IntKind.i64.wrap x8) (IntKind.i64.wrap x10)))))))
def tD:Nat→Int→List Int→aM→aM→List Int→Int→Int→Option (aM×ByteArray)
 |0=>fun _ _ _ _ _ _ _=>none
 |n+1=>aE0 (tD n)
def rU(s_0:aM)(aCq:Int)(aC5:List Int):Option (aM×ByteArray):=
 tD aW aCq aC5 s_0 (aM.mk (aD.mk (aJ.mk (bC.mk 0 0 0) [] []) []) (bI.mk [] 0) false) aC5 (aC5.length:Int) 0
theorem aUz:K3 prog eF vi (vl (ci .u64)) (t2 eF vs) 64 rU:=by
 intro s_0 aCq aC5 r hm
 let I1:=((fun m s=> ∃aCq aC5 s_3 t6 t18 t19 t20,s=⟨80,(aF (aF (aF (aF (aF (aF (aF fa 1 (vi aCq)) 2 (vl (ci .u64) aC5)) 3 (.adr 1 0)) 6 (.adr 2 0)) 18 (vl (ci .u64) t18)) 19 (vi t19)) 20 (vi t20)),⟨(upd (upd aY 1 (.cells 1 [vi s_3.State.Graph.Config.N,vi s_3.State.Graph.Config.L,vi s_3.State.Graph.Config.R,vl cL s_3.State.Graph.Hashes,vl aV s_3.State.Graph.Edges,vl aX s_3.State.Slots,vl (ci .u64) s_3.Words.List,vi s_3.Words.At,vb s_3.On] 0)) 2 (.cells 1 [vi t6.State.Graph.Config.N,vi t6.State.Graph.Config.L,vi t6.State.Graph.Config.R,vl cL t6.State.Graph.Hashes,vl aV t6.State.Graph.Edges,vl aX t6.State.Slots,vl (ci .u64) t6.Words.List,vi t6.Words.At,vb t6.On] 0)),64⟩⟩∧tD m aCq aC5 s_3 t6 t18 t19 t20=some r):Nat→St→Prop)
 exact be 80 func64 (h:=G)
instance:Ct prog 64 (K3 prog eF vi (vl (ci .u64)) (t2 eF vs) 64 rU):=⟨aUz⟩
abbrev aB8(s_2:aM)(t4:aM)(bIe:dL):Option (aM×ByteArray):=
 ((iP s_2 bIe).bind fun ⟨r31,r32⟩=>
 some (r31,r32))
abbrev lN(s_2:aM)(t4:aM)(bYf:Int)(bS5:List Int)(bIe:dL):Option (aM×ByteArray):=
 (bif (decide (1<bYf)) then
  ((idx bS5 1).bind fun x34=>
  aB8 s_2 t4 (dL.mk bIe.Do bIe.A x34 bIe.Text))
 else
  aB8 s_2 t4 bIe)
def eJ(s_0:aM)(aB9:List ByteArray):Option (aM×ByteArray):=
 (bif ((aB9.length:Int)==0) then
  ((cU (GA.i 36 .i64 1)).bind fun r2=>
  some (s_0,r2))
 else
  ((idx aB9 0).bind fun x4=>
  ((nN x4).bind fun ⟨r6,r7⟩=>
  (bif ((r6==0)||((IntKind.i64.wrap ((aB9.length:Int)-1)) !=r7)) then
   ((cU (GA.i 36 .i64 1)).bind fun r9=>
   some (s_0,r9))
  else
   (bif (r6==15) then
    ((idx aB9 1).bind fun x11=>
    ((aAt x11).bind fun ⟨r13,r14⟩=>
    (bif (r14 !=0) then
     ((cU (GA.i 36 .i64 r14)).bind fun r16=>
     some (s_0,r16))
    else
     ((iP s_0 (dL.mk r6 0 0 r13)).bind fun ⟨r18,r19⟩=>
     some (r18,r19)))))
   else
    ((slc aB9 1 (aB9.length:Int)).bind fun l21=>
    ((rE l21).bind fun ⟨r23,r24⟩=>
    (bif (r24 !=0) then
     ((cU (GA.i 36 .i64 r24)).bind fun r26=>
     some (s_0,r26))
    else
     (bif ((r6==(-1))||(r6==(-2))) then
      ((rU s_0 r6 r23).bind fun ⟨r28,r29⟩=>
      some (r28,r29))
     else
      (bif (decide (0<r7)) then
       ((idx r23 0).bind fun x36=>
       lN s_0 (aM.mk (aD.mk (aJ.mk (bC.mk 0 0 0) [] []) []) (bI.mk [] 0) false) r7 r23 (dL.mk r6 x36 0 ⟨#[]⟩))
      else
       lN s_0 (aM.mk (aD.mk (aJ.mk (bC.mk 0 0 0) [] []) []) (bI.mk [] 0) false) r7 r23 (dL.mk r6 0 0 ⟨#[]⟩)))))))))))
theorem aNs:K2 prog eF (vl lK) (t2 eF vs) 28 eJ:=fun hm=>be 103 func28 (h:=G)
instance:Ct prog 28 (K2 prog eF (vl lK) (t2 eF vs) 28 eJ):=⟨aNs⟩
def aFo(r_0:Int):Option (Bool):=
 some ((((decide (97≤r_0))&&(decide (r_0≤122)))||((decide (48≤r_0))&&(decide (r_0≤57))))||((decide (945≤r_0))&&(decide (r_0≤969))))
theorem aL5:K1 prog (vk .i32) vb 115 aFo:=fun hm=>be 25 func115 (h:=G)
instance:Ct prog 115 (K1 prog (vk .i32) vb 115 aFo):=⟨aL5⟩
abbrev sX(rec1:ByteArray→List (List ByteArray)→List ByteArray→Int→Bool→Int→ByteArray→Nat→Option ((List (List ByteArray))×Int×Int))(gJ:ByteArray)(eE:List (List ByteArray))(fU:List ByteArray)(hY:Int)(eI:Bool)(gU:Int)(t14s:ByteArray)(t14p:Nat):Option ((List (List ByteArray))×Int×Int):=
 rec1 gJ eE fU hY eI (IntKind.i64.wrap (gU+1)) t14s t14p
abbrev aEy(rec1:ByteArray→List (List ByteArray)→List ByteArray→Int→Bool→Int→ByteArray→Nat→Option ((List (List ByteArray))×Int×Int))(gJ:ByteArray)(eE:List (List ByteArray))(fU:List ByteArray)(hY:Int)(eI:Bool)(gU:Int)(iJ:Int)(bC0:Int)(aGc:Bool)(t14s:ByteArray)(t14p:Nat):Option ((List (List ByteArray))×Int×Int):=
 (bif (bC0==10) then
  ((app eE [fU]).bind fun l5=>
  sX rec1 gJ l5 [] hY false gU t14s t14p)
 else
  (bif ((eI||(bC0==32))||(bC0==9)) then
   sX rec1 gJ eE fU hY eI gU t14s t14p
  else
   (bif (bC0==35) then
    sX rec1 gJ eE fU hY true gU t14s t14p
   else
    (bif (!aGc) then
     some ([],gU,2)
    else
     (bif (decide (hY<0)) then
      sX rec1 gJ eE fU iJ eI gU t14s t14p
     else
      sX rec1 gJ eE fU hY eI gU t14s t14p)))))
abbrev aEz(eE:List (List ByteArray))(fU:List ByteArray):Option ((List (List ByteArray))×Int×Int):=
 ((app eE [fU]).bind fun l11=>
 some (l11,0,0))
def aJa(rec1:ByteArray→List (List ByteArray)→List ByteArray→Int→Bool→Int→ByteArray→Nat→Option ((List (List ByteArray))×Int×Int))(gJ:ByteArray)(eE:List (List ByteArray))(fU:List ByteArray)(hY:Int)(eI:Bool)(gU:Int)(t14s:ByteArray)(t14p:Nat):Option ((List (List ByteArray))×Int×Int):=
 (bif (decide (t14p<t14s.size)) then
  ((eG ((!eI)==true) false (aFo (((Utf8.decode t14s t14p).1:Nat):Int))).bind fun r3=>
  (bif ((decide (0≤hY))&&(!((!eI)&&r3))) then
   ((bM1 gJ hY ((t14p:Nat):Int)).bind fun l7=>
   ((app fU [l7]).bind fun l9=>
   aEy rec1 gJ eE l9 (-1) eI gU ((t14p:Nat):Int) (((Utf8.decode t14s t14p).1:Nat):Int) ((!eI)&&r3) t14s (t14p+(Utf8.decode t14s t14p).2)))
  else
   aEy rec1 gJ eE fU hY eI gU ((t14p:Nat):Int) (((Utf8.decode t14s t14p).1:Nat):Int) ((!eI)&&r3) t14s (t14p+(Utf8.decode t14s t14p).2)))
 else
  (bif (decide (0≤hY)) then
   ((bM1 gJ hY (gJ.size:Int)).bind fun l13=>
   ((app fU [l13]).bind fun l15=>
   aEz eE l15))
  else
   aEz eE fU))
def xX:Nat→ByteArray→List (List ByteArray)→List ByteArray→Int→Bool→Int→ByteArray→Nat→Option ((List (List ByteArray))×Int×Int)
 |0=>fun _ _ _ _ _ _ _ _=>none
 |n+1=>aJa (xX n)
def aAs(gJ:ByteArray):Option ((List (List ByteArray))×Int×Int):=
 xX aW gJ [] [] (-1) false 0 gJ 0
theorem aLz{gJ:ByteArray}{r:(List (List ByteArray))×Int×Int}(hm:aAs gJ=some r):bY prog 68 [.v (.string gJ)] (.tup [.sl (r.1.flatMap (csl lK)) r.1.length false,.v (.int .i64 r.2.1),.v (.int .i64 r.2.2)]):=by
 refine bY.of_body func68 rfl ?_;simp only [ntmps68,List.length_cons,List.length_nil,Nat.reduceAdd,Nat.reduceSub,iO];unfold aAs at hm;refine sr (N':=64) rfl ?_
 iterate 3 refine pA ?_
 refine fs ?_;refine sr (N':=128) rfl ?_;refine pA ?_;refine fs ?_;refine sr (N':=192) rfl ?_;refine pA ?_;refine fs ?_;refine sr (N':=256) rfl ?_;refine pA ?_;refine fs ?_;refine sr (N':=320) rfl ?_;refine pA ?_;refine fs ?_;refine sr (N':=384) rfl ?_;refine pA ?_;refine fs ?_;refine AWp.seq' ?_;refine sr (N':=448) rfl ?_;refine pA ?_;refine hp (id:=385) rfl rfl (aIo underlying9 Z1 Z5) ?_;refine fs ?_;refine AWp.block ?_;refine AWp.loopM (fun m s=> ∃(gJ:ByteArray) (eE:List (List ByteArray)) (fU:List ByteArray) (hY:Int) (eI:Bool) (gU:Int) (t14s:ByteArray) (t14p:Nat),s=(⟨80,(aF (aF (aF (aF (aF (aF (aF (fun _=>AV.any) 0 (.v (.string gJ))) 5 (.own 1 0 eE.length)) 6 (.own 2 0 fU.length)) 7 (.v (.int .i64 hY))) 8 (.v (.bool eI))) 9 (.v (.int .i64 gU))) 14 (.adr 3 0)),⟨(upd (upd (upd aY 1 (.cells 1 (eE.flatMap (csl lK)) 0)) 2 (.cells 1 (fU.flatMap lK) 0)) 3 (.iter t14s t14p)),64⟩⟩:St)∧xX m gJ eE fU hY eI gU t14s t14p=some r) aW ?_ ?_ ?_
 · rintro s ⟨_,_,_,_,_,_,_,_,_,h⟩;cases h
 · refine ⟨_,?_,gJ,[],[],(-1),false,0,gJ,0,rfl,hm⟩;refine St.Le.trans (aAq 5 900005 1 Z1 Z5) ?_;refine St.Le.trans (aAq 6 900006 1 Z1 Z5) ?_;exact cP (fun j=>bif j==1 then 900005 else bif j==2 then 900006 else bif j==3 then 385 else 0) (bH _ _ (kY Z1 rfl Z7) (wV (wV (wV (wO (wO (wV dT))))))) (hW (cH (lA Z3) (eU CFs (eU (CFl CFs) dC))))
 ·
  rintro n1 s ⟨gJ,eE,fU,hY,eI,gU,t14s,t14p,rfl,hm⟩;replace hm:aJa (xX n1) gJ eE fU hY eI gU t14s t14p=some r:=hm;unfold aJa at hm;refine sr (N':=128) rfl ?_;refine aZb hm (fun h1 hm=>?_) (fun h1 hm=>?_)
  ·
   refine hp (id:=64) rfl rfl (aDd Z1 Z3 (of_decide_eq_true h1)) ?_;refine pA ?_;refine fs ?_;refine AWp.seq' ?_;refine AWp.condT Z1 ?_;refine AWp.skip ?_;refine bQ ?_;refine AWp.block ?_;refine sr (N':=192) rfl ?_
   iterate 4 refine pA ?_
   refine fs ?_;refine sr (N':=256) rfl ?_
   iterate 4 first|refine pA ?_|refine pB ?_
   obtain ⟨r3,h2,hm⟩:=bnd hm;refine aR.callQG (r:= .v (.bool r3)) Zd rfl Z2 Z1 bZy (fun hb H=>(.cons (td (Zh hb) (.v _)) .nil)) (fun hb=>aL5 (kR h2 hb)) ?_
   iterate 2 refine pA ?_
   refine fs ?_;refine AWp.seqJ (fun s=> ∃(gJ:ByteArray) (eE:List (List ByteArray)) (fU:List ByteArray) (hY:Int) (eI:Bool) (gU:Int) (iJ:Int) (bC0:Int) (aGc:Bool) (t14s:ByteArray) (t14p:Nat),s=(⟨80,(aF (aF (aF (aF (aF (aF (aF (aF (aF (aF (fun _=>AV.any) 0 (.v (.string gJ))) 5 (.own 1 0 eE.length)) 6 (.own 2 0 fU.length)) 7 (.v (.int .i64 hY))) 8 (.v (.bool eI))) 9 (.v (.int .i64 gU))) 10 (.v (.int .i64 iJ))) 11 (.v (.int .i32 bC0))) 12 (.v (.bool aGc))) 14 (.adr 3 0)),⟨(upd (upd (upd aY 1 (.cells 1 (eE.flatMap (csl lK)) 0)) 2 (.cells 1 (fU.flatMap lK) 0)) 3 (.iter t14s t14p)),64⟩⟩:St)∧aEy (xX n1) gJ eE fU hY eI gU iJ bC0 aGc t14s t14p=some r) ?_ ?_
   ·
    refine sr (N':=320) rfl ?_
    iterate 6 first|refine pA ?_|refine pB ?_
    refine fs ?_;refine AWp.condM hm Z1 (fun _ hm=>?_) (fun _ hm=>?_)
    ·
     refine sr (N':=384) rfl ?_
     iterate 4 refine pA ?_
     obtain ⟨l7,h6,hm⟩:=bnd hm;refine pu rfl (bGj underlying9 Z1 (aCm Z1 (bFy h6).1) (aCm Z1 (bFy h6).2) h6) ?_;refine hp (id:=325) rfl rfl (kZ CFs (l:=[l7]) underlying69 sz9 zc9 Z5 Zd Zd Zd (by simp only [go_sem,Nat.reduceBEq];try rfl) (by kernel_rfl)) ?_;obtain ⟨l9,h8,hm⟩:=bnd hm;refine hp (id:=326) rfl rfl (wX CFs underlying69 underlying69 rfl in9 ts9 (by rw [tb9];decide) (by rw [tb9];decide) tz9 Zd Zd Z1 Z3 Z6 (aAg CFs Z1 Z3 Z6) rfl Z5 h8) ?_;refine pA ?_;refine fs ?_;refine AWp.reg 64 (N':=448) rfl ?_;refine pA ?_;refine aR.fin ?_;refine pH ?_;refine ⟨_,?_,gJ,eE,l9,(-1),eI,gU,((t14p:Nat):Int),(((Utf8.decode t14s t14p).1:Nat):Int),((!eI)&&r3),t14s,(t14p+(Utf8.decode t14s t14p).2),rfl,hm⟩;exact cP (fun j=>bif j==1 then 1 else bif j==2 then 326 else bif j==3 then 3 else 0) (bH _ _ (kY Z1 rfl Z7) (wV (wV (wV (wV (wV (wV (wO (wO (wV dT)))))))))) (hW (cH (lA Z3) (eU CFs (eU (CFl CFs) dC))))
    · refine AWp.skip ?_;refine pH ?_;refine ⟨_,?_,gJ,eE,fU,hY,eI,gU,((t14p:Nat):Int),(((Utf8.decode t14s t14p).1:Nat):Int),((!eI)&&r3),t14s,(t14p+(Utf8.decode t14s t14p).2),rfl,hm⟩;exact cP (fun j=>bif j==1 then 1 else bif j==2 then 2 else bif j==3 then 3 else 0) (bH _ _ (kY Z1 rfl Z7) (wV (wV (wV (wV (wV (wV (wO (wO (wV dT)))))))))) (hW (cH (lA Z3) (eU CFs (eU (CFl CFs) dC))))
   ·
    rintro s ⟨gJ,eE,fU,hY,eI,gU,iJ,bC0,aGc,t14s,t14p,rfl,hm⟩;unfold aEy at hm;refine AWp.seqJ (fun s=> ∃(gJ:ByteArray) (eE:List (List ByteArray)) (fU:List ByteArray) (hY:Int) (eI:Bool) (gU:Int) (t14s:ByteArray) (t14p:Nat),s=(⟨80,(aF (aF (aF (aF (aF (aF (aF (fun _=>AV.any) 0 (.v (.string gJ))) 5 (.own 1 0 eE.length)) 6 (.own 2 0 fU.length)) 7 (.v (.int .i64 hY))) 8 (.v (.bool eI))) 9 (.v (.int .i64 gU))) 14 (.adr 3 0)),⟨(upd (upd (upd aY 1 (.cells 1 (eE.flatMap (csl lK)) 0)) 2 (.cells 1 (fU.flatMap lK) 0)) 3 (.iter t14s t14p)),64⟩⟩:St)∧sX (xX n1) gJ eE fU hY eI gU t14s t14p=some r) ?_ ?_
    ·
     refine AWp.block ?_;refine sr (N':=128) rfl ?_
     iterate 3 refine pA ?_
     refine fs ?_;refine AWp.condM hm Z1 (fun _ hm=>?_) (fun _ hm=>?_)
     ·
      refine AWp.seq' ?_;refine AWp.weaken (aKl CFs 6 2 Z1 Z3 Z6) ?_;refine AWp.reg 64 (N':=192) rfl ?_
      iterate 2 refine pA ?_
      refine hp (id:=130) rfl rfl (kZ (CFl CFs) (l:=[fU]) underlying65 bYz bZf Z5 Zd Zd Zd (by simp only [go_sem,Nat.reduceBEq];try rfl) (by kernel_rfl)) ?_;obtain ⟨l5,h4,hm⟩:=bnd hm;refine hp (id:=131) rfl rfl (wX (CFl CFs) underlying65 underlying65 rfl bXt bZ5 (by rw [bMa];decide) (by rw [bMa];decide) bZ7 Zd Zd Z1 Z3 Z6 (aAg (CFl CFs) Z1 Z3 Z6) rfl Z5 h4) ?_;refine pA ?_;refine fs ?_;refine sr (N':=256) rfl ?_;refine pA ?_;refine fs ?_;refine AWp.reg 64 (N':=320) rfl ?_;refine pA ?_;refine aR.fin ?_;refine jT ?_;refine pH ?_;refine ⟨_,?_,gJ,l5,[],hY,false,gU,t14s,t14p,rfl,hm⟩;refine St.Le.trans (aAq 6 900006 1 Z1 Z5) ?_;exact cP (fun j=>bif j==1 then 131 else bif j==2 then 900006 else bif j==3 then 3 else 0) (bH _ _ (kY Z1 rfl Z7) (wV (wV (wV (wO (wO (wV dT))))))) (hW (cH (lA Z3) (eU CFs (eU (CFl CFs) dC))))
     ·
      refine sr (N':=192) rfl ?_
      iterate 10 first|refine pA ?_|refine pB ?_
      refine fs ?_;refine AWp.condM hm Z1 (fun _ hm=>?_) (fun _ hm=>?_)
      · refine AWp.skip ?_;refine jT ?_;refine pH ?_;refine ⟨_,?_,gJ,eE,fU,hY,eI,gU,t14s,t14p,rfl,hm⟩;exact cP (fun j=>bif j==1 then 1 else bif j==2 then 2 else bif j==3 then 3 else 0) (bH _ _ (kY Z1 rfl Z7) (wV (wV (wV (wO (wO (wV dT))))))) (hW (cH (lA Z3) (eU CFs (eU (CFl CFs) dC))))
      ·
       refine sr (N':=256) rfl ?_
       iterate 3 refine pA ?_
       refine fs ?_;refine AWp.condM hm Z1 (fun _ hm=>?_) (fun _ hm=>?_)
       · refine AWp.reg 64 (N':=320) rfl ?_;refine pA ?_;refine aR.fin ?_;refine jT ?_;refine pH ?_;refine ⟨_,?_,gJ,eE,fU,hY,true,gU,t14s,t14p,rfl,hm⟩;exact cP (fun j=>bif j==1 then 1 else bif j==2 then 2 else bif j==3 then 3 else 0) (bH _ _ (kY Z1 rfl Z7) (wV (wV (wV (wO (wO (wV dT))))))) (hW (cH (lA Z3) (eU CFs (eU (CFl CFs) dC))))
       ·
        refine sr (N':=320) rfl ?_
        iterate 3 refine pA ?_
        refine fs ?_;refine AWp.condM hm Z1 (fun _ hm=>?_) (fun _ hm=>?_)
        ·
         refine sr (N':=384) rfl ?_
         iterate 4 refine pA ?_
         refine fs ?_;refine AWp.ret ?_;refine sK ?_;refine bC9 ?_;refine sK ?_;refine sL ?_;refine sK ?_;refine jF ?_;cases hm;exact bHk (.inr rfl) Tryz.results68 (tdn Z1) (td Z1 (.v _)) (td Z1 (.v _))
        ·
         refine sr (N':=384) rfl ?_
         iterate 3 refine pA ?_
         refine fs ?_;refine AWp.condM hm Z1 (fun _ hm=>?_) (fun _ hm=>?_)
         ·
          refine AWp.reg 64 (N':=448) rfl ?_
          iterate 2 refine pA ?_
          refine aR.fin ?_;refine jT ?_;refine pH ?_;refine ⟨_,?_,gJ,eE,fU,iJ,eI,gU,t14s,t14p,rfl,hm⟩;exact cP (fun j=>bif j==1 then 1 else bif j==2 then 2 else bif j==3 then 3 else 0) (bH _ _ (kY Z1 rfl Z7) (wV (wV (wV (wO (wO (wV dT))))))) (hW (cH (lA Z3) (eU CFs (eU (CFl CFs) dC))))
         · refine AWp.skip ?_;refine jT ?_;refine pH ?_;refine ⟨_,?_,gJ,eE,fU,hY,eI,gU,t14s,t14p,rfl,hm⟩;exact cP (fun j=>bif j==1 then 1 else bif j==2 then 2 else bif j==3 then 3 else 0) (bH _ _ (kY Z1 rfl Z7) (wV (wV (wV (wO (wO (wV dT))))))) (hW (cH (lA Z3) (eU CFs (eU (CFl CFs) dC))))
    ·
     rintro s ⟨gJ,eE,fU,hY,eI,gU,t14s,t14p,rfl,hm⟩;unfold sX at hm;refine AWp.reg 64 (N':=128) rfl ?_
     iterate 3 refine pA ?_
     refine aR.fin ?_;refine jT ?_;refine iA ?_;refine ⟨_,?_,gJ,eE,fU,hY,eI,(IntKind.i64.wrap (gU+1)),t14s,t14p,rfl,hm⟩;exact cP (fun j=>bif j==1 then 1 else bif j==2 then 2 else bif j==3 then 3 else 0) (bH _ _ (kY Z1 rfl Z7) (wV (wV (wV (wO (wO (wV dT))))))) (hW (cH (lA Z3) (eU CFs (eU (CFl CFs) dC))))
  ·
   refine hp (id:=64) rfl rfl (aFj Z1 Z3 (of_decide_eq_false h1)) ?_;refine pA ?_;refine fs ?_;refine AWp.seq' ?_;refine AWp.condF Z1 ?_;refine AWp.exit ?_;refine kH ?_;refine jC ?_;refine iT ?_;refine bQ ?_;refine AWp.seqJ (fun s=> ∃(eE:List (List ByteArray)) (fU:List ByteArray),s=(⟨80,(aF (aF (fun _=>AV.any) 5 (.own 1 0 eE.length)) 6 (.own 2 0 fU.length)),⟨(upd (upd aY 1 (.cells 1 (eE.flatMap (csl lK)) 0)) 2 (.cells 1 (fU.flatMap lK) 0)),64⟩⟩:St)∧aEz eE fU=some r) ?_ ?_
   ·
    refine sr (N':=192) rfl ?_
    iterate 2 refine pA ?_
    refine fs ?_;refine AWp.condM hm Z1 (fun _ hm=>?_) (fun _ hm=>?_)
    ·
     refine AWp.reg 64 (N':=256) rfl ?_
     iterate 3 refine pA ?_
     obtain ⟨l13,h12,hm⟩:=bnd hm;refine pu rfl (bGj underlying9 Z1 (aCm Z1 (bFy h12).1) (aWr _) h12) ?_;refine hp (id:=196) rfl rfl (kZ CFs (l:=[l13]) underlying69 sz9 zc9 Z5 Zd Zd Zd (by simp only [go_sem,Nat.reduceBEq];try rfl) (by kernel_rfl)) ?_;obtain ⟨l15,h14,hm⟩:=bnd hm;refine hp (id:=197) rfl rfl (wX CFs underlying69 underlying69 rfl in9 ts9 (by rw [tb9];decide) (by rw [tb9];decide) tz9 Zd Zd Z1 Z3 Z6 (aAg CFs Z1 Z3 Z6) rfl Z5 h14) ?_;refine pA ?_;refine aR.fin ?_;refine pH ?_;refine ⟨_,?_,eE,l15,rfl,hm⟩;exact cP (fun j=>bif j==1 then 1 else bif j==2 then 197 else 0) (wO (wO dT)) (hW (eU CFs (eU (CFl CFs) dC)))
    · refine AWp.skip ?_;refine pH ?_;refine ⟨_,?_,eE,fU,rfl,hm⟩;exact cP (fun j=>bif j==1 then 1 else bif j==2 then 2 else 0) (wO (wO dT)) (hW (eU CFs (eU (CFl CFs) dC)))
   ·
    rintro s ⟨eE,fU,rfl,hm⟩;unfold aEz at hm;refine AWp.seq' ?_;refine AWp.weaken (aKl CFs 6 2 Z1 Z3 Z6) ?_;refine AWp.reg 64 (N':=128) rfl ?_
    iterate 2 refine pA ?_
    refine hp (id:=66) rfl rfl (kZ (CFl CFs) (l:=[fU]) underlying65 bYz bZf Z5 Zd Zd Zd (by simp only [go_sem,Nat.reduceBEq];try rfl) (by kernel_rfl)) ?_;obtain ⟨l11,h10,hm⟩:=bnd hm;refine hp (id:=67) rfl rfl (wX (CFl CFs) underlying65 underlying65 rfl bXt bZ5 (by rw [bMa];decide) (by rw [bMa];decide) bZ7 Zd Zd Z1 Z3 Z6 (aAg (CFl CFs) Z1 Z3 Z6) rfl Z5 h10) ?_
    iterate 3 refine pA ?_
    refine fs ?_;refine AWp.ret ?_;cases hm;exact bHk (.inr rfl) Tryz.results68 (tdo (CFl CFs) Z1 Z3 Z6) (td Z1 (.v _)) (td Z1 (.v _))
instance:Ct prog 68 (K1 prog vs (t3 (vl (csl lK)) vi vi) 68 aAs):=⟨fun hm=>aLz hm⟩
attribute [local semireducible] aW
end Go.Proofs.YtkdohhmacfoolaaGreatDoor
