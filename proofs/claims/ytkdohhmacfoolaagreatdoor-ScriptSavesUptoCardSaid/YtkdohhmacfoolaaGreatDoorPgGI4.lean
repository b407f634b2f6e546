/- Facts. No condition. -/
import Derived.Test.YtkdohhmacfoolaaGreatDoorPgGI3
set_option linter.unusedVariables false
set_option linter.unusedSimpArgs false
set_option maxRecDepth 20000
set_option maxHeartbeats 4000000
namespace Go.Proofs.YtkdohhmacfoolaaGreatDoor
open Go.Proofs.Tryz Go Go.AM
attribute [local irreducible] aY
@[go_sem] theorem bIm(i o:Nat):aI prog 23 (.adr i o) 0=some (.adr i (o+0)):=by kernel_rfl
@[go_sem] theorem bIs(i o:Nat):aI prog 23 (.adr i o) 1=some (.adr i (o+1)):=by kernel_rfl
@[go_sem] theorem bIy(i o:Nat):aI prog 23 (.adr i o) 2=some (.adr i (o+2)):=by kernel_rfl
@[go_sem] theorem bJn(i o:Nat):aI prog 35 (.adr i o) 0=some (.adr i (o+0)):=by kernel_rfl
@[go_sem] theorem bJo(i o:Nat):aI prog 35 (.adr i o) 1=some (.adr i (o+1)):=by kernel_rfl
@[go_sem] theorem bJs(i o:Nat):aI prog 42 (.adr i o) 1=some (.adr i (o+1)):=by kernel_rfl
@[go_sem] theorem bJu(i o:Nat):aI prog 42 (.adr i o) 2=some (.adr i (o+2)):=by kernel_rfl
@[go_sem] theorem bKe(i o:Nat):aI prog 68 (.adr i o) 1=some (.adr i (o+6)):=by kernel_rfl
@[go_sem] theorem bSk(H:aH)(x0 x1 x2:AV)(xs:List AV):bT prog H 23 (.ptr (x0::x1::x2::xs))=some (.agg [x0,x1,x2]):=by kernel_rfl
@[go_sem] theorem bSm(H:aH)(x:AV)(xs:List AV):bT prog H 24 (.ptr (x::xs))=some x:=by kernel_rfl
@[go_sem] theorem bOl(H:aH)(x:AV)(xs:List AV):bT prog H 277 (.ptr (x::xs))=some x:=by kernel_rfl
@[go_sem] theorem bX8(H:aH)(x:AV)(xs:List AV):bT prog H 3 (.ptr (x::xs))=some x:=by kernel_rfl
@[go_sem] theorem bT3(H:aH)(x0 x1 x2 x3 x4:AV)(xs:List AV):bT prog H 30 (.ptr (x0::x1::x2::x3::x4::xs))=some (.agg [x0,x1,x2,x3,x4]):=by kernel_rfl
@[go_sem] theorem bTc(H:aH)(x0 x1 x2 x3 x4 x5:AV)(xs:List AV):bT prog H 33 (.ptr (x0::x1::x2::x3::x4::x5::xs))=some (.agg [x0,x1,x2,x3,x4,x5]):=by kernel_rfl
@[go_sem] theorem bTe(H:aH)(x0 x1:AV)(xs:List AV):bT prog H 35 (.ptr (x0::x1::xs))=some (.agg [x0,x1]):=by kernel_rfl
@[go_sem] theorem bTl(H:aH)(x:AV)(xs:List AV):bT prog H 40 (.ptr (x::xs))=some x:=by kernel_rfl
@[go_sem] theorem bTn(H:aH)(x0 x1 x2 x3:AV)(xs:List AV):bT prog H 42 (.ptr (x0::x1::x2::x3::xs))=some (.agg [x0,x1,x2,x3]):=by kernel_rfl
@[go_sem] theorem bTv(H:aH)(x0 x1 x2 x3 x4 x5 x6 x7 x8:AV)(xs:List AV):bT prog H 68 (.ptr (x0::x1::x2::x3::x4::x5::x6::x7::x8::xs))=some (.agg [x0,x1,x2,x3,x4,x5,x6,x7,x8]):=by kernel_rfl
@[go_sem] theorem bXi(H:aH)(x:AV)(xs:List AV):bT prog H 9 (.ptr (x::xs))=some x:=by kernel_rfl
@[go_sem] theorem bI1(H:aH)(k:IntKind)(n:Int):mU prog H 40 3 (.v (.int k n))=some (.v (.int .i64 (IntKind.i64.wrap n))):=gK underlying40 underlying3
def vM(x_0:Int):Option (Bool):=
 some (x_0 !=x_0)
theorem aU5:K1 prog vi vb 251 vM:=fun hm=>be 6 func251 (h:=G)
instance:Ct prog 251 (K1 prog vi vb 251 vM):=⟨aU5⟩
def xC(x_0:Int)(y_1:Int):Option (Int):=
 ((vM x_0).bind fun r2=>
 ((vM y_1).bind fun r4=>
 (bif r2 then
  (bif r4 then
   some 0
  else
   some (-1))
 else
  (bif r4 then
   some 1
  else
   (bif (decide (x_0<y_1)) then
    some (-1)
   else
    (bif (decide (y_1<x_0)) then
     some 1
    else
     some 0))))))
theorem aQp:K2 prog vi vi vi 230 xC:=fun hm=>be 20 func230 (h:=G)
instance:Ct prog 230 (K2 prog vi vi vi 230 xC):=⟨aQp⟩
def oS(x_0:Int):Option (Bool):=
 some (x_0 !=x_0)
theorem aOb:K1 prog (vk .u32) vb 252 oS:=fun hm=>be 6 func252 (h:=G)
instance:Ct prog 252 (K1 prog (vk .u32) vb 252 oS):=⟨aOb⟩
def mW(x_0:Int)(y_1:Int):Option (Int):=
 ((oS x_0).bind fun r2=>
 ((oS y_1).bind fun r4=>
 (bif r2 then
  (bif r4 then
   some 0
  else
   some (-1))
 else
  (bif r4 then
   some 1
  else
   (bif (decide (x_0<y_1)) then
    some (-1)
   else
    (bif (decide (y_1<x_0)) then
     some 1
    else
     some 0))))))
theorem aLf:K2 prog (vk .u32) (vk .u32) vi 231 mW:=fun hm=>be 20 func231 (h:=G)
instance:Ct prog 231 (K2 prog (vk .u32) (vk .u32) vi 231 mW):=⟨aLf⟩
def aOs(rec1:List Int→List Int→Int→Option (Int))(a_0:List Int)(b_1:List Int)(i_5:Int):Option (Int):=
 (bif (decide (0≤i_5)) then
  ((idx a_0 i_5).bind fun x8=>
  ((idx b_1 i_5).bind fun x10=>
  (bif (x8 !=x10) then
   ((idx a_0 i_5).bind fun x12=>
   ((idx b_1 i_5).bind fun x14=>
   ((mW x12 x14).bind fun r16=>
   some r16)))
  else
   rec1 a_0 b_1 (IntKind.i64.wrap (i_5-1)))))
 else
  some 0)
def aGa:Nat→List Int→List Int→Int→Option (Int)
 |0=>fun _ _ _=>none
 |n+1=>aOs (aGa n)
def aJ7(a_0:List Int)(b_1:List Int):Option (Int):=
 ((mX a_0).bind fun r2=>
 ((eJ ((!r2)==false) false (mX b_1)).bind fun r4=>
 (bif ((!r2)||(!r4)) then
  some 0
 else
  (bif ((a_0.length:Int) !=(b_1.length:Int)) then
   ((xC (a_0.length:Int) (b_1.length:Int)).bind fun r6=>
   some r6)
  else
   aGa aY a_0 b_1 (IntKind.i64.wrap ((a_0.length:Int)-1))))))
theorem bP2:K2 prog (vl (ci .u32)) (vl (ci .u32)) vi 186 aJ7:=by
 intro a_0 b_1 r hm
 let I1:=((fun m s=> ∃a_0 b_1 i_5,s=⟨49,(aF (aF (aF fa 0 (vl (ci .u32) a_0)) 1 (vl (ci .u32) b_1)) 5 (vi i_5)),⟨aZ,64⟩⟩∧aGa m a_0 b_1 i_5=some r):Nat→St→Prop)
 exact be 49 func186 (h:=G)
instance:Ct prog 186 (K2 prog (vl (ci .u32)) (vl (ci .u32)) vi 186 aJ7):=⟨bP2⟩
def zV(n_0:Int)(m_1:Int)(k_2:Int)(l_3:Int)(r_4:Int):Option (Bool):=
 ((nT n_0 m_1).bind fun r2=>
 ((eJ ((!r2)==false) false (aAr k_2)).bind fun r4=>
 ((eJ (((!r2)||(!r4))==false) false (qG l_3 r_4)).bind fun r6=>
 (bif (((!r2)||(!r4))||(!r6)) then
  some false
 else
  ((zX n_0 m_1 l_3 r_4).bind fun ⟨r8,r9⟩=>
  (bif (r9 !=0) then
   some false
  else
   ((aBm l_3 r_4).bind fun ⟨r11,r12⟩=>
   (bif (r12 !=0) then
    some false
   else
    ((aB1 2).bind fun r14=>
    ((aDq r14 k_2).bind fun ⟨r16,r17⟩=>
    (bif (r17 !=0) then
     some false
    else
     ((aDp r8 r16).bind fun ⟨r19,r20⟩=>
     ((eJ ((r20==0)==true) 0 (aJ7 r19 r11)).bind fun r22=>
     some ((r20==0)&&(decide (r22≤0))))))))))))))))
theorem aY8:K5 prog vi vi vi vi vi vb 149 zV:=fun hm=>be 71 func149 (h:=G)
instance:Ct prog 149 (K5 prog vi vi vi vi vi vb 149 zV):=⟨aY8⟩
def aJf(rec1:Int→Int→Int→aX→Int→Option (aX×Int))(rec2:Int→Int→Int→aX→Int→Int→Option (aX×Int))(n_0:Int)(m_1:Int)(k_2:Int)(t6:aX)(l_8:Int)(r_9:Int):Option (aX×Int):=
 (bif (decide (r_9≤8)) then
  ((zV n_0 m_1 k_2 l_8 r_9).bind fun r6=>
  (bif r6 then
   some ((aX.mk n_0 l_8 r_9),0)
  else
   rec2 n_0 m_1 k_2 t6 l_8 (IntKind.i64.wrap (r_9+1))))
 else
  rec1 n_0 m_1 k_2 t6 (IntKind.i64.wrap (l_8+1)))
def aBl(rec1:Int→Int→Int→aX→Int→Option (aX×Int)):Nat→Int→Int→Int→aX→Int→Int→Option (aX×Int)
 |0=>fun _ _ _ _ _ _=>none
 |n+1=>aJf rec1 (aBl rec1 n)
def aJe(rec1:Int→Int→Int→aX→Int→Option (aX×Int))(n_0:Int)(m_1:Int)(k_2:Int)(t6:aX)(l_8:Int):Option (aX×Int):=
 (bif (decide (l_8≤16)) then
  aBl rec1 aY n_0 m_1 k_2 t6 l_8 1
 else
  some ((aX.mk 0 0 0),6))
def mM:Nat→Int→Int→Int→aX→Int→Option (aX×Int)
 |0=>fun _ _ _ _ _=>none
 |n+1=>aJe (mM n)
def aDv(n_0:Int)(m_1:Int)(k_2:Int):Option (aX×Int):=
 ((nT n_0 m_1).bind fun r2=>
 ((eJ ((!r2)==false) false (aAr k_2)).bind fun r4=>
 (bif ((!r2)||(!r4)) then
  some ((aX.mk 0 0 0),1)
 else
  mM aY n_0 m_1 k_2 (aX.mk 0 0 0) 1)))
theorem bF1:K3 prog vi vi vi (t2 aJx vi) 111 aDv:=by
 intro n_0 m_1 k_2 r hm
 let I1:=((fun m s=> ∃n_0 m_1 k_2 t6 l_8,s=⟨39,(aF (aF (aF (aF (aF fa 0 (vi n_0)) 1 (vi m_1)) 2 (vi k_2)) 6 (.adr 1 0)) 8 (vi l_8)),⟨(upd aZ 1 (.cells 1 [vi t6.N,vi t6.L,vi t6.R] 0)),64⟩⟩∧mM m n_0 m_1 k_2 t6 l_8=some r):Nat→St→Prop)
 let I2:=fun (n1:Nat)=>((fun m s=> ∃n_0 m_1 k_2 t6 l_8 r_9,s=⟨39,(aF (aF (aF (aF (aF (aF fa 0 (vi n_0)) 1 (vi m_1)) 2 (vi k_2)) 6 (.adr 1 0)) 8 (vi l_8)) 9 (vi r_9)),⟨(upd aZ 1 (.cells 1 [vi t6.N,vi t6.L,vi t6.R] 0)),64⟩⟩∧aBl (mM n1) m n_0 m_1 k_2 t6 l_8 r_9=some r):Nat→St→Prop)
 exact be 39 func111 (h:=G)
instance:Ct prog 111 (K3 prog vi vi vi (t2 aJx vi) 111 aDv):=⟨bF1⟩
def sS(w_0:bC):Option (Bool):=
 some ((decide (0≤w_0.At))&&(decide (w_0.At≤(w_0.List.length:Int))))
theorem aPu:K1 prog mR vb 73 sS:=fun hm=>be 14 func73 (h:=G)
instance:Ct prog 73 (K1 prog mR vb 73 sS):=⟨aPu⟩
def aH1(rec1:bC→bC→Int→Option (Int×bC×Int))(w_1:bC)(t3:bC)(aMg:Int):Option (Int×bC×Int):=
 (bif (decide (aMg<(w_1.List.length:Int))) then
  ((idx w_1.List aMg).bind fun x4=>
  (bif (decide ((yU .u64 x4 2305843009213693951)<2305843009213693951)) then
   some ((yU .u64 x4 2305843009213693951),(bC.mk w_1.List (IntKind.i64.wrap (aMg+1))),0)
  else
   rec1 w_1 t3 (IntKind.i64.wrap (aMg+1))))
 else
  some (0,w_1,5))
def zF:Nat→bC→bC→Int→Option (Int×bC×Int)
 |0=>fun _ _ _=>none
 |n+1=>aH1 (zF n)
def xY(w_0:bC):Option (Int×bC×Int):=
 ((sS w_0).bind fun r2=>
 (bif (!r2) then
  some (0,w_0,1)
 else
  zF aY w_0 (bC.mk [] 0) w_0.At))
theorem bA3{w_0:bC}{r:Int×bC×Int}(hm:xY w_0=some r):cE prog 74 [.agg [vl (ci .u64) w_0.List,vi w_0.At]] (.tup [vu r.1,.agg [vl (ci .u64) r.2.1.List,vi r.2.1.At],vi r.2.2]):=by
 refine bd 35 func74 ?_;obtain ⟨r2,h1,hm⟩:=bnd hm;refine W ?_;refine cq (aPu h1) ?_;refine W ?_;refine cm hm (fun hm=>?_) fun hm=>?_
 · exact E
 refine W ?_;refine lp (fun m s=> ∃w_1 t3 aMg,s=⟨35,(aF (aF (aF fa 1 (.adr 1 0)) 3 (.adr 2 0)) 5 (vi aMg)),⟨(upd (upd aZ 1 (.cells 1 [vl (ci .u64) w_1.List,vi w_1.At] 0)) 2 (.cells 1 [vl (ci .u64) t3.List,vi t3.At] 0)),64⟩⟩∧zF m w_1 t3 aMg=some r) ?_ ?_
 · refine ⟨_,?_,w_0,(bC.mk [] 0),w_0.At,rfl,hm⟩;refine St.Le.trans (aSg 2 (ys:=[.sl (((bC.mk [] 0).List).flatMap (ci .u64)) ((bC.mk [] 0).List).length false,.v (.int .i64 ((bC.mk [] 0).At))]) Z3 (.cons (.nil false) (.cons (.data _ (.v _)) .nil))) ?_;exact cn (fun j=>bif j==1 then 0 else bif j==2 then 2 else 0)
 rintro n1 s ⟨w_1,t3,aMg,rfl,hm⟩;refine W ?_;refine cm hm (fun hm=>?_) fun hm=>?_
 ·
  obtain ⟨x4,h3,hm⟩:=bnd hm;refine W ?_;refine cm hm (fun hm=>?_) fun hm=>?_
  · refine W ?_;refine bU (.agg [vl (ci .u64) w_1.List,.v (.int .i64 (IntKind.i64.wrap (aMg+1)))]) ?_;exact E
  refine W ?_;exact Lr (fun j=>bif j==1 then 1 else bif j==2 then 2 else 0)
 exact E
instance:Ct prog 74 (K1 prog mR (t3 vu mR vi) 74 xY):=⟨fun hm=>bA3 hm⟩
def vN(rec1:bC→bC→List cI→bC→Int→Int→Option ((List cI)×bC×Int))(w_2:bC)(t5:bC)(aDl:List cI)(aOz:bC)(t31:Int)(t32:Int):Option ((List cI)×bC×Int):=
 (bif (decide (t32<t31)) then
  ((xY aOz).bind fun ⟨r6,r7,r8⟩=>
  (bif (r8 !=0) then
   some ([],w_2,r8)
  else
   ((xY r7).bind fun ⟨r10,r11,r12⟩=>
   (bif (r12 !=0) then
    some ([],w_2,r12)
   else
    ((idx aDl t32).bind fun x14=>
    ((stt aDl t32 (cI.mk r6 r10)).bind fun l16=>
    rec1 w_2 t5 l16 r11 t31 (IntKind.i64.wrap (t32+1))))))))
 else
  some (aDl,aOz,0))
def rN:Nat→bC→bC→List cI→bC→Int→Int→Option ((List cI)×bC×Int)
 |0=>fun _ _ _ _ _ _=>none
 |n+1=>vN (rN n)
def uH(w_0:bC)(n_1:Int):Option ((List cI)×bC×Int):=
 ((sS w_0).bind fun r2=>
 (bif (((!r2)||(decide (n_1<0)))||(decide (128<n_1))) then
  some ([],w_0,1)
 else
  ((mkc n_1 n_1 (cI.mk 0 0)).bind fun l4=>
  rN aY w_0 (bC.mk [] 0) l4 w_0 (l4.length:Int) 0)))
theorem aMv:K2 prog mR vi (t3 (vl cH) mR vi) 33 uH:=by
 intro w_0 n_1 r hm
 let I1:=((fun m s=> ∃w_2 t5 aDl aOz t31 t32,s=⟨65,(aF (aF (aF (aF (aF (aF fa 2 (.adr 1 0)) 5 (.adr 2 0)) 7 (.own 3 0 aDl.length)) 8 (.adr 4 0)) 31 (vi t31)) 32 (vi t32)),⟨(upd (upd (upd (upd aZ 1 (.cells 1 [vl (ci .u64) w_2.List,vi w_2.At] 0)) 2 (.cells 1 [vl (ci .u64) t5.List,vi t5.At] 0)) 3 (.cells 2 (aDl.flatMap cH) 0)) 4 (.cells 1 [vl (ci .u64) aOz.List,vi aOz.At] 0)),64⟩⟩∧rN m w_2 t5 aDl aOz t31 t32=some r):Nat→St→Prop)
 exact be 65 func33 (h:=G)
instance:Ct prog 33 (K2 prog mR vi (t3 (vl cH) mR vi) 33 uH):=⟨aMv⟩
def aI2(n_0:Int):Option ((List aN)×Int):=
 ((rC n_0).bind fun r2=>
 (bif (!r2) then
  some ([],1)
 else
  ((mkc n_0 n_0 (aN.mk false 0)).bind fun l4=>
  some (l4,0))))
theorem aTr:K1 prog vi (t2 (vl aW) vi) 35 aI2:=fun hm=>be 9 func35 (h:=G)
instance:Ct prog 35 (K1 prog vi (t2 (vl aW) vi) 35 aI2):=⟨aTr⟩
def qO(c_0:aX)(w_1:bC):Option (aC×bC×Int):=
 (bif ((((((decide (c_0.N<1))||(decide (1024<c_0.N)))||(decide (c_0.L<1)))||(decide (16<c_0.L)))||(decide (c_0.R<1)))||(decide (8<c_0.R))) then
  some ((aC.mk (aJ.mk (aX.mk 0 0 0) [] []) []),w_1,1)
 else
  ((uH w_1 (IntKind.i64.wrap (c_0.L*c_0.R))).bind fun ⟨r2,r3,r4⟩=>
  (bif (r4 !=0) then
   some ((aC.mk (aJ.mk (aX.mk 0 0 0) [] []) []),w_1,r4)
  else
   ((aEc c_0 r2).bind fun ⟨r6,r7⟩=>
   (bif (r7 !=0) then
    some ((aC.mk (aJ.mk (aX.mk 0 0 0) [] []) []),w_1,r7)
   else
    ((aI2 c_0.N).bind fun ⟨r9,r10⟩=>
    (bif (r10 !=0) then
     some ((aC.mk (aJ.mk (aX.mk 0 0 0) [] []) []),w_1,r10)
    else
     some ((aC.mk r6 r9),r3,0))))))))
theorem bEe{c_0:aX}{w_1:bC}{r:aC×bC×Int}(hm:qO c_0 w_1=some r):cE prog 10 [.agg [vi c_0.N,vi c_0.L,vi c_0.R],.agg [vl (ci .u64) w_1.List,vi w_1.At]] (.tup [.agg [vi r.1.Graph.Config.N,vi r.1.Graph.Config.L,vi r.1.Graph.Config.R,vl cH r.1.Graph.Hashes,vl aV r.1.Graph.Edges,vl aW r.1.Slots],.agg [vl (ci .u64) r.2.1.List,vi r.2.1.At],vi r.2.2]):=by
 refine bd 84 func10 ?_;refine W ?_;refine cm hm (fun hm=>?_) fun hm=>?_
 · refine W ?_;refine AWp.regV [(3,1),(4,2),(5,3)] 64 mix (by kernel_rfl) (by kernel_rfl) (IV.cons (off:=0) Z1 (IV.cons (off:=0) Z1 (IV.cons (off:=0) Z1 IV.nil))) (N':=192) rfl ?_;refine bU (.agg [vi 0,vi 0,vi 0,.v (.slice none 0 0),.v (.slice none 0 0),.v (.slice none 0 0)]) ?_;exact E
 refine W ?_;obtain ⟨⟨r2,r3,r4⟩,h1,hm⟩:=bnd hm;refine cq (aMv h1) ?_;refine W ?_;refine cm hm (fun hm=>?_) fun hm=>?_
 · refine W ?_;refine AWp.regV [(3,1),(4,2),(5,3)] 64 mix (by kernel_rfl) (by kernel_rfl) (IV.cons (off:=0) Z1 (IV.cons (off:=0) Z1 (IV.cons (off:=0) Z1 IV.nil))) (N':=320) rfl ?_;refine bU (.agg [vi 0,vi 0,vi 0,.v (.slice none 0 0),.v (.slice none 0 0),.v (.slice none 0 0)]) ?_;exact E
 refine W ?_;obtain ⟨⟨r6,r7⟩,h5,hm⟩:=bnd hm;refine cq (aTl h5) ?_;refine W ?_;refine cm hm (fun hm=>?_) fun hm=>?_
 · refine W ?_;refine AWp.regV [(3,1),(4,2),(5,3)] 64 mix (by kernel_rfl) (by kernel_rfl) (IV.cons (off:=0) Z1 (IV.cons (off:=0) Z1 (IV.cons (off:=0) Z1 IV.nil))) (N':=448) rfl ?_;refine bU (.agg [vi 0,vi 0,vi 0,.v (.slice none 0 0),.v (.slice none 0 0),.v (.slice none 0 0)]) ?_;exact E
 refine W ?_;obtain ⟨⟨r9,r10⟩,h8,hm⟩:=bnd hm;refine cq (aTr h8) ?_;refine W ?_;refine cm hm (fun hm=>?_) fun hm=>?_
 · refine W ?_;refine AWp.regV [(3,1),(4,2),(5,3)] 64 mix (by kernel_rfl) (by kernel_rfl) (IV.cons (off:=0) Z1 (IV.cons (off:=0) Z1 (IV.cons (off:=0) Z1 IV.nil))) (N':=576) rfl ?_;refine bU (.agg [vi 0,vi 0,vi 0,.v (.slice none 0 0),.v (.slice none 0 0),.v (.slice none 0 0)]) ?_;exact E
 refine W ?_;refine AWp.regV [(4,2),(5,3),(8,139),(10,262)] 64 mix (by kernel_rfl) (by kernel_rfl) (IV.cons (off:=0) Z1 (IV.cons (off:=0) Z1 (IV.cons (off:=0) Z1 (IV.cons (off:=0) Z1 IV.nil)))) (N':=576) rfl ?_;refine W ?_;refine bU (.agg [vi r6.Config.N,vi r6.Config.L,vi r6.Config.R,vl cH r6.Hashes,vl aV r6.Edges,vl aW r9]) ?_;exact E
instance:Ct prog 10 (K2 prog aJx mR (t3 dP mR vi) 10 qO):=⟨fun hm=>bEe hm⟩
abbrev oZ(s_3:aG)(t6:aG)(cI9:aX):Option (aG×ByteArray):=
 ((qO cI9 s_3.Words).bind fun ⟨r12,r13,r14⟩=>
 (bif (r14 !=0) then
  ((bY (GA.i 36 .i64 r14)).bind fun r16=>
  some (s_3,r16))
 else
  ((bY (GA.i 36 .i64 0)).bind fun r18=>
  some ((aG.mk r12 r13 true),r18))))
def aDw(rec1:Int→List Int→aG→aG→List Int→Int→Int→Option (aG×ByteArray))(aCk:Int)(aBw:List Int)(s_3:aG)(t6:aG)(t18:List Int)(t19:Int)(t20:Int):Option (aG×ByteArray):=
 (bif (decide (t20<t19)) then
  ((idx t18 t20).bind fun x2=>
  (bif (decide (2147483647<x2)) then
   ((bY (GA.i 36 .i64 6)).bind fun r4=>
   some (s_3,r4))
  else
   rec1 aCk aBw s_3 t6 t18 t19 (IntKind.i64.wrap (t20+1))))
 else
  ((idx aBw 0).bind fun x6=>
  ((idx aBw 1).bind fun x8=>
  ((idx aBw 2).bind fun x10=>
  (bif (aCk==(-2)) then
   ((aDv (IntKind.i64.wrap x6) (IntKind.i64.wrap x8) (IntKind.i64.wrap x10)).bind fun ⟨r20,r21⟩=>
   (bif (r21 !=0) then
    ((bY (GA.i 36 .i64 r21)).bind fun r23=>
    some (s_3,r23))
   else
    oZ s_3 t6 r20))
  else
   oZ s_3 t6 (aX.mk (IntKind.i64.wrap x6) (IntKind.i64.wrap x8) (IntKind.i64.wrap x10)))))))
def tH:Nat→Int→List Int→aG→aG→List Int→Int→Int→Option (aG×ByteArray)
 |0=>fun _ _ _ _ _ _ _=>none
 |n+1=>aDw (tH n)
def rS(s_0:aG)(aCk:Int)(aBw:List Int):Option (aG×ByteArray):=
 tH aY aCk aBw s_0 (aG.mk (aC.mk (aJ.mk (aX.mk 0 0 0) [] []) []) (bC.mk [] 0) false) aBw (aBw.length:Int) 0
theorem aUo:K3 prog gJ vi (vl (ci .u64)) (t2 gJ vs) 64 rS:=by
 intro s_0 aCk aBw r hm
 let I1:=((fun m s=> ∃aCk aBw s_3 t6 t18 t19 t20,s=⟨80,(aF (aF (aF (aF (aF (aF (aF fa 1 (vi aCk)) 2 (vl (ci .u64) aBw)) 3 (.adr 1 0)) 6 (.adr 2 0)) 18 (vl (ci .u64) t18)) 19 (vi t19)) 20 (vi t20)),⟨(upd (upd aZ 1 (.cells 1 [vi s_3.State.Graph.Config.N,vi s_3.State.Graph.Config.L,vi s_3.State.Graph.Config.R,vl cH s_3.State.Graph.Hashes,vl aV s_3.State.Graph.Edges,vl aW s_3.State.Slots,vl (ci .u64) s_3.Words.List,vi s_3.Words.At,vb s_3.On] 0)) 2 (.cells 1 [vi t6.State.Graph.Config.N,vi t6.State.Graph.Config.L,vi t6.State.Graph.Config.R,vl cH t6.State.Graph.Hashes,vl aV t6.State.Graph.Edges,vl aW t6.State.Slots,vl (ci .u64) t6.Words.List,vi t6.Words.At,vb t6.On] 0)),64⟩⟩∧tH m aCk aBw s_3 t6 t18 t19 t20=some r):Nat→St→Prop)
 exact be 80 func64 (h:=G)
instance:Ct prog 64 (K3 prog gJ vi (vl (ci .u64)) (t2 gJ vs) 64 rS):=⟨aUo⟩
abbrev aB2(s_2:aG)(t4:aG)(bHq:dG):Option (aG×ByteArray):=
 ((fS s_2 bHq).bind fun ⟨r31,r32⟩=>
 some (r31,r32))
abbrev lK(s_2:aG)(t4:aG)(bXn:Int)(bRf:List Int)(bHq:dG):Option (aG×ByteArray):=
 (bif (decide (1<bXn)) then
  ((idx bRf 1).bind fun x34=>
  aB2 s_2 t4 (dG.mk bHq.Do bHq.A x34 bHq.Text))
 else
  aB2 s_2 t4 bHq)
def bP(s_0:aG)(aKm:List ByteArray):Option (aG×ByteArray):=
 (bif ((aKm.length:Int)==0) then
  ((bY (GA.i 36 .i64 1)).bind fun r2=>
  some (s_0,r2))
 else
  ((idx aKm 0).bind fun x4=>
  ((lT x4).bind fun ⟨r6,r7⟩=>
  (bif ((r6==0)||((IntKind.i64.wrap ((aKm.length:Int)-1)) !=r7)) then
   ((bY (GA.i 36 .i64 1)).bind fun r9=>
   some (s_0,r9))
  else
   (bif (r6==15) then
    ((idx aKm 1).bind fun x11=>
    ((sZ x11).bind fun ⟨r13,r14⟩=>
    (bif (r14 !=0) then
     ((bY (GA.i 36 .i64 r14)).bind fun r16=>
     some (s_0,r16))
    else
     ((fS s_0 (dG.mk r6 0 0 r13)).bind fun ⟨r18,r19⟩=>
     some (r18,r19)))))
   else
    ((slc aKm 1 (aKm.length:Int)).bind fun l21=>
    ((rD l21).bind fun ⟨r23,r24⟩=>
    (bif (r24 !=0) then
     ((bY (GA.i 36 .i64 r24)).bind fun r26=>
     some (s_0,r26))
    else
     (bif ((r6==(-1))||(r6==(-2))) then
      ((rS s_0 r6 r23).bind fun ⟨r28,r29⟩=>
      some (r28,r29))
     else
      (bif (decide (0<r7)) then
       ((idx r23 0).bind fun x36=>
       lK s_0 (aG.mk (aC.mk (aJ.mk (aX.mk 0 0 0) [] []) []) (bC.mk [] 0) false) r7 r23 (dG.mk r6 x36 0 ⟨#[]⟩))
      else
       lK s_0 (aG.mk (aC.mk (aJ.mk (aX.mk 0 0 0) [] []) []) (bC.mk [] 0) false) r7 r23 (dG.mk r6 0 0 ⟨#[]⟩)))))))))))
theorem nU:K2 prog gJ (vl kD) (t2 gJ vs) 28 bP:=fun hm=>be 103 func28 (h:=G)
instance:Ct prog 28 (K2 prog gJ (vl kD) (t2 gJ vs) 28 bP):=⟨nU⟩
def aFh(r_0:Int):Option (Bool):=
 some ((((decide (97≤r_0))&&(decide (r_0≤122)))||((decide (48≤r_0))&&(decide (r_0≤57))))||((decide (945≤r_0))&&(decide (r_0≤969))))
theorem aKv:K1 prog (vk .i32) vb 115 aFh:=fun hm=>be 25 func115 (h:=G)
instance:Ct prog 115 (K1 prog (vk .i32) vb 115 aFh):=⟨aKv⟩
abbrev sX(rec1:ByteArray→List (List ByteArray)→List ByteArray→Int→Bool→Int→ByteArray→Nat→Option ((List (List ByteArray))×Int×Int))(gH:ByteArray)(dW:List (List ByteArray))(fR:List ByteArray)(hY:Int)(eC:Bool)(gU:Int)(t14s:ByteArray)(t14p:Nat):Option ((List (List ByteArray))×Int×Int):=
 rec1 gH dW fR hY eC (IntKind.i64.wrap (gU+1)) t14s t14p
abbrev aEr(rec1:ByteArray→List (List ByteArray)→List ByteArray→Int→Bool→Int→ByteArray→Nat→Option ((List (List ByteArray))×Int×Int))(gH:ByteArray)(dW:List (List ByteArray))(fR:List ByteArray)(hY:Int)(eC:Bool)(gU:Int)(iJ:Int)(bBh:Int)(aG3:Bool)(t14s:ByteArray)(t14p:Nat):Option ((List (List ByteArray))×Int×Int):=
 (bif (bBh==10) then
  ((app dW [fR]).bind fun l5=>
  sX rec1 gH l5 [] hY false gU t14s t14p)
 else
  (bif ((eC||(bBh==32))||(bBh==9)) then
   sX rec1 gH dW fR hY eC gU t14s t14p
  else
   (bif (bBh==35) then
    sX rec1 gH dW fR hY true gU t14s t14p
   else
    (bif (!aG3) then
     some ([],gU,2)
    else
     (bif (decide (hY<0)) then
      sX rec1 gH dW fR iJ eC gU t14s t14p
     else
      sX rec1 gH dW fR hY eC gU t14s t14p)))))
abbrev aEs(dW:List (List ByteArray))(fR:List ByteArray):Option ((List (List ByteArray))×Int×Int):=
 ((app dW [fR]).bind fun l11=>
 some (l11,0,0))
def aIy(rec1:ByteArray→List (List ByteArray)→List ByteArray→Int→Bool→Int→ByteArray→Nat→Option ((List (List ByteArray))×Int×Int))(gH:ByteArray)(dW:List (List ByteArray))(fR:List ByteArray)(hY:Int)(eC:Bool)(gU:Int)(t14s:ByteArray)(t14p:Nat):Option ((List (List ByteArray))×Int×Int):=
 (bif (decide (t14p<t14s.size)) then
  ((eJ ((!eC)==true) false (aFh (((Utf8.decode t14s t14p).1:Nat):Int))).bind fun r3=>
  (bif ((decide (0≤hY))&&(!((!eC)&&r3))) then
   ((bLc gH hY ((t14p:Nat):Int)).bind fun l7=>
   ((app fR [l7]).bind fun l9=>
   aEr rec1 gH dW l9 (-1) eC gU ((t14p:Nat):Int) (((Utf8.decode t14s t14p).1:Nat):Int) ((!eC)&&r3) t14s (t14p+(Utf8.decode t14s t14p).2)))
  else
   aEr rec1 gH dW fR hY eC gU ((t14p:Nat):Int) (((Utf8.decode t14s t14p).1:Nat):Int) ((!eC)&&r3) t14s (t14p+(Utf8.decode t14s t14p).2)))
 else
  (bif (decide (0≤hY)) then
   ((bLc gH hY (gH.size:Int)).bind fun l13=>
   ((app fR [l13]).bind fun l15=>
   aEs dW l15))
  else
   aEs dW fR))
def yD:Nat→ByteArray→List (List ByteArray)→List ByteArray→Int→Bool→Int→ByteArray→Nat→Option ((List (List ByteArray))×Int×Int)
 |0=>fun _ _ _ _ _ _ _ _=>none
 |n+1=>aIy (yD n)
def aAp(gH:ByteArray):Option ((List (List ByteArray))×Int×Int):=
 yD aY gH [] [] (-1) false 0 gH 0
theorem aLo{gH:ByteArray}{r:(List (List ByteArray))×Int×Int}(hm:aAp gH=some r):cE prog 68 [.v (.string gH)] (.tup [.sl (r.1.flatMap (csl kD)) r.1.length false,.v (.int .i64 r.2.1),.v (.int .i64 r.2.2)]):=by
 refine cE.of_body func68 rfl ?_;simp only [ntmps68,List.length_cons,List.length_nil,Nat.reduceAdd,Nat.reduceSub,iO];unfold aAp at hm;refine sr (N':=64) rfl ?_
 iterate 3 refine pA ?_
 refine fs ?_;refine sr (N':=128) rfl ?_;refine pA ?_;refine fs ?_;refine sr (N':=192) rfl ?_;refine pA ?_;refine fs ?_;refine sr (N':=256) rfl ?_;refine pA ?_;refine fs ?_;refine sr (N':=320) rfl ?_;refine pA ?_;refine fs ?_;refine sr (N':=384) rfl ?_;refine pA ?_;refine fs ?_;refine AWp.seq' ?_;refine sr (N':=448) rfl ?_;refine pA ?_;refine hp (id:=385) rfl rfl (aIa underlying9 Z1 Z5) ?_;refine fs ?_;refine AWp.block ?_;refine AWp.loopM (fun m s=> ∃(gH:ByteArray) (dW:List (List ByteArray)) (fR:List ByteArray) (hY:Int) (eC:Bool) (gU:Int) (t14s:ByteArray) (t14p:Nat),s=(⟨80,(aF (aF (aF (aF (aF (aF (aF (fun _=>AV.any) 0 (.v (.string gH))) 5 (.own 1 0 dW.length)) 6 (.own 2 0 fR.length)) 7 (.v (.int .i64 hY))) 8 (.v (.bool eC))) 9 (.v (.int .i64 gU))) 14 (.adr 3 0)),⟨(upd (upd (upd aZ 1 (.cells 1 (dW.flatMap (csl kD)) 0)) 2 (.cells 1 (fR.flatMap kD) 0)) 3 (.iter t14s t14p)),64⟩⟩:St)∧yD m gH dW fR hY eC gU t14s t14p=some r) aY ?_ ?_ ?_
 · rintro s ⟨_,_,_,_,_,_,_,_,_,h⟩;cases h
 · refine ⟨_,?_,gH,[],[],(-1),false,0,gH,0,rfl,hm⟩;refine St.Le.trans (aC2 5 900005 1 Z1 Z5) ?_;refine St.Le.trans (aC2 6 900006 1 Z1 Z5) ?_;exact cP (fun j=>bif j==1 then 900005 else bif j==2 then 900006 else bif j==3 then 385 else 0) (bH _ _ (kV Z1 rfl Z7) (wV (wV (wV (wO (wO (wV dN))))))) (hW (cG (kX Z3) (eU CFs (eU (CFl CFs) cZ))))
 ·
  rintro n1 s ⟨gH,dW,fR,hY,eC,gU,t14s,t14p,rfl,hm⟩;replace hm:aIy (yD n1) gH dW fR hY eC gU t14s t14p=some r:=hm;unfold aIy at hm;refine sr (N':=128) rfl ?_;refine aYv hm (fun h1 hm=>?_) (fun h1 hm=>?_)
  ·
   refine hp (id:=64) rfl rfl (aDa Z1 Z3 (of_decide_eq_true h1)) ?_;refine pA ?_;refine fs ?_;refine AWp.seq' ?_;refine AWp.condT Z1 ?_;refine AWp.skip ?_;refine bQ ?_;refine AWp.block ?_;refine sr (N':=192) rfl ?_
   iterate 4 refine pA ?_
   refine fs ?_;refine sr (N':=256) rfl ?_
   iterate 4 first|refine pA ?_|refine pB ?_
   obtain ⟨r3,h2,hm⟩:=bnd hm;refine aR.callQG (r:= .v (.bool r3)) Zd rfl Z2 Z1 bZ8 (fun hb H=>(.cons (td (Zh hb) (.v _)) .nil)) (fun hb=>aKv (kF h2 hb)) ?_
   iterate 2 refine pA ?_
   refine fs ?_;refine AWp.seqJ (fun s=> ∃(gH:ByteArray) (dW:List (List ByteArray)) (fR:List ByteArray) (hY:Int) (eC:Bool) (gU:Int) (iJ:Int) (bBh:Int) (aG3:Bool) (t14s:ByteArray) (t14p:Nat),s=(⟨80,(aF (aF (aF (aF (aF (aF (aF (aF (aF (aF (fun _=>AV.any) 0 (.v (.string gH))) 5 (.own 1 0 dW.length)) 6 (.own 2 0 fR.length)) 7 (.v (.int .i64 hY))) 8 (.v (.bool eC))) 9 (.v (.int .i64 gU))) 10 (.v (.int .i64 iJ))) 11 (.v (.int .i32 bBh))) 12 (.v (.bool aG3))) 14 (.adr 3 0)),⟨(upd (upd (upd aZ 1 (.cells 1 (dW.flatMap (csl kD)) 0)) 2 (.cells 1 (fR.flatMap kD) 0)) 3 (.iter t14s t14p)),64⟩⟩:St)∧aEr (yD n1) gH dW fR hY eC gU iJ bBh aG3 t14s t14p=some r) ?_ ?_
   ·
    refine sr (N':=320) rfl ?_
    iterate 6 first|refine pA ?_|refine pB ?_
    refine fs ?_;refine AWp.condM hm Z1 (fun _ hm=>?_) (fun _ hm=>?_)
    ·
     refine sr (N':=384) rfl ?_
     iterate 4 refine pA ?_
     obtain ⟨l7,h6,hm⟩:=bnd hm;refine pu rfl (bFw underlying9 Z1 (aCg Z1 (bFb h6).1) (aCg Z1 (bFb h6).2) h6) ?_;refine hp (id:=325) rfl rfl (kW CFs (l:=[l7]) underlying69 sz9 zc9 Z5 Zd Zd Zd (by simp only [go_sem,Nat.reduceBEq];try rfl) (by kernel_rfl)) ?_;obtain ⟨l9,h8,hm⟩:=bnd hm;refine hp (id:=326) rfl rfl (xH CFs underlying69 underlying69 rfl in9 ts9 (by rw [tb9];decide) (by rw [tb9];decide) tz9 Zd Zd Z1 Z3 Z6 (aAg CFs Z1 Z3 Z6) rfl Z5 h8) ?_;refine pA ?_;refine fs ?_;refine AWp.reg 64 (N':=448) rfl ?_;refine pA ?_;refine aR.fin ?_;refine oY ?_;refine ⟨_,?_,gH,dW,l9,(-1),eC,gU,((t14p:Nat):Int),(((Utf8.decode t14s t14p).1:Nat):Int),((!eC)&&r3),t14s,(t14p+(Utf8.decode t14s t14p).2),rfl,hm⟩;exact cP (fun j=>bif j==1 then 1 else bif j==2 then 326 else bif j==3 then 3 else 0) (bH _ _ (kV Z1 rfl Z7) (wV (wV (wV (wV (wV (wV (wO (wO (wV dN)))))))))) (hW (cG (kX Z3) (eU CFs (eU (CFl CFs) cZ))))
    · refine AWp.skip ?_;refine oY ?_;refine ⟨_,?_,gH,dW,fR,hY,eC,gU,((t14p:Nat):Int),(((Utf8.decode t14s t14p).1:Nat):Int),((!eC)&&r3),t14s,(t14p+(Utf8.decode t14s t14p).2),rfl,hm⟩;exact cP (fun j=>bif j==1 then 1 else bif j==2 then 2 else bif j==3 then 3 else 0) (bH _ _ (kV Z1 rfl Z7) (wV (wV (wV (wV (wV (wV (wO (wO (wV dN)))))))))) (hW (cG (kX Z3) (eU CFs (eU (CFl CFs) cZ))))
   ·
    rintro s ⟨gH,dW,fR,hY,eC,gU,iJ,bBh,aG3,t14s,t14p,rfl,hm⟩;unfold aEr at hm;refine AWp.seqJ (fun s=> ∃(gH:ByteArray) (dW:List (List ByteArray)) (fR:List ByteArray) (hY:Int) (eC:Bool) (gU:Int) (t14s:ByteArray) (t14p:Nat),s=(⟨80,(aF (aF (aF (aF (aF (aF (aF (fun _=>AV.any) 0 (.v (.string gH))) 5 (.own 1 0 dW.length)) 6 (.own 2 0 fR.length)) 7 (.v (.int .i64 hY))) 8 (.v (.bool eC))) 9 (.v (.int .i64 gU))) 14 (.adr 3 0)),⟨(upd (upd (upd aZ 1 (.cells 1 (dW.flatMap (csl kD)) 0)) 2 (.cells 1 (fR.flatMap kD) 0)) 3 (.iter t14s t14p)),64⟩⟩:St)∧sX (yD n1) gH dW fR hY eC gU t14s t14p=some r) ?_ ?_
    ·
     refine AWp.block ?_;refine sr (N':=128) rfl ?_
     iterate 3 refine pA ?_
     refine fs ?_;refine AWp.condM hm Z1 (fun _ hm=>?_) (fun _ hm=>?_)
     ·
      refine AWp.seq' ?_;refine AWp.weaken (aK9 CFs 6 2 Z1 Z3 Z6) ?_;refine AWp.reg 64 (N':=192) rfl ?_
      iterate 2 refine pA ?_
      refine hp (id:=130) rfl rfl (kW (CFl CFs) (l:=[fR]) underlying65 bY7 bYp Z5 Zd Zd Zd (by simp only [go_sem,Nat.reduceBEq];try rfl) (by kernel_rfl)) ?_;obtain ⟨l5,h4,hm⟩:=bnd hm;refine hp (id:=131) rfl rfl (xH (CFl CFs) underlying65 underlying65 rfl bX1 bYe (by rw [bLl];decide) (by rw [bLl];decide) bYg Zd Zd Z1 Z3 Z6 (aAg (CFl CFs) Z1 Z3 Z6) rfl Z5 h4) ?_;refine pA ?_;refine fs ?_;refine sr (N':=256) rfl ?_;refine pA ?_;refine fs ?_;refine AWp.reg 64 (N':=320) rfl ?_;refine pA ?_;refine aR.fin ?_;refine jP ?_;refine oY ?_;refine ⟨_,?_,gH,l5,[],hY,false,gU,t14s,t14p,rfl,hm⟩;refine St.Le.trans (aC2 6 900006 1 Z1 Z5) ?_;exact cP (fun j=>bif j==1 then 131 else bif j==2 then 900006 else bif j==3 then 3 else 0) (bH _ _ (kV Z1 rfl Z7) (wV (wV (wV (wO (wO (wV dN))))))) (hW (cG (kX Z3) (eU CFs (eU (CFl CFs) cZ))))
     ·
      refine sr (N':=192) rfl ?_
      iterate 10 first|refine pA ?_|refine pB ?_
      refine fs ?_;refine AWp.condM hm Z1 (fun _ hm=>?_) (fun _ hm=>?_)
      · refine AWp.skip ?_;refine jP ?_;refine oY ?_;refine ⟨_,?_,gH,dW,fR,hY,eC,gU,t14s,t14p,rfl,hm⟩;exact cP (fun j=>bif j==1 then 1 else bif j==2 then 2 else bif j==3 then 3 else 0) (bH _ _ (kV Z1 rfl Z7) (wV (wV (wV (wO (wO (wV dN))))))) (hW (cG (kX Z3) (eU CFs (eU (CFl CFs) cZ))))
      ·
       refine sr (N':=256) rfl ?_
       iterate 3 refine pA ?_
       refine fs ?_;refine AWp.condM hm Z1 (fun _ hm=>?_) (fun _ hm=>?_)
       · refine AWp.reg 64 (N':=320) rfl ?_;refine pA ?_;refine aR.fin ?_;refine jP ?_;refine oY ?_;refine ⟨_,?_,gH,dW,fR,hY,true,gU,t14s,t14p,rfl,hm⟩;exact cP (fun j=>bif j==1 then 1 else bif j==2 then 2 else bif j==3 then 3 else 0) (bH _ _ (kV Z1 rfl Z7) (wV (wV (wV (wO (wO (wV dN))))))) (hW (cG (kX Z3) (eU CFs (eU (CFl CFs) cZ))))
       ·
        refine sr (N':=320) rfl ?_
        iterate 3 refine pA ?_
        refine fs ?_;refine AWp.condM hm Z1 (fun _ hm=>?_) (fun _ hm=>?_)
        ·
         refine sr (N':=384) rfl ?_
         iterate 4 refine pA ?_
         refine fs ?_;refine AWp.ret ?_;refine sI ?_;refine bBk ?_;refine sI ?_;refine sJ ?_;refine sI ?_;refine jC ?_;cases hm;exact bGx (.inr rfl) Tryz.results68 (tdn Z1) (td Z1 (.v _)) (td Z1 (.v _))
        ·
         refine sr (N':=384) rfl ?_
         iterate 3 refine pA ?_
         refine fs ?_;refine AWp.condM hm Z1 (fun _ hm=>?_) (fun _ hm=>?_)
         ·
          refine AWp.reg 64 (N':=448) rfl ?_
          iterate 2 refine pA ?_
          refine aR.fin ?_;refine jP ?_;refine oY ?_;refine ⟨_,?_,gH,dW,fR,iJ,eC,gU,t14s,t14p,rfl,hm⟩;exact cP (fun j=>bif j==1 then 1 else bif j==2 then 2 else bif j==3 then 3 else 0) (bH _ _ (kV Z1 rfl Z7) (wV (wV (wV (wO (wO (wV dN))))))) (hW (cG (kX Z3) (eU CFs (eU (CFl CFs) cZ))))
         · refine AWp.skip ?_;refine jP ?_;refine oY ?_;refine ⟨_,?_,gH,dW,fR,hY,eC,gU,t14s,t14p,rfl,hm⟩;exact cP (fun j=>bif j==1 then 1 else bif j==2 then 2 else bif j==3 then 3 else 0) (bH _ _ (kV Z1 rfl Z7) (wV (wV (wV (wO (wO (wV dN))))))) (hW (cG (kX Z3) (eU CFs (eU (CFl CFs) cZ))))
    ·
     rintro s ⟨gH,dW,fR,hY,eC,gU,t14s,t14p,rfl,hm⟩;unfold sX at hm;refine AWp.reg 64 (N':=128) rfl ?_
     iterate 3 refine pA ?_
     refine aR.fin ?_;refine jP ?_;refine iA ?_;refine ⟨_,?_,gH,dW,fR,hY,eC,(IntKind.i64.wrap (gU+1)),t14s,t14p,rfl,hm⟩;exact cP (fun j=>bif j==1 then 1 else bif j==2 then 2 else bif j==3 then 3 else 0) (bH _ _ (kV Z1 rfl Z7) (wV (wV (wV (wO (wO (wV dN))))))) (hW (cG (kX Z3) (eU CFs (eU (CFl CFs) cZ))))
  ·
   refine hp (id:=64) rfl rfl (aFb Z1 Z3 (of_decide_eq_false h1)) ?_;refine pA ?_;refine fs ?_;refine AWp.seq' ?_;refine AWp.condF Z1 ?_;refine AWp.exit ?_;refine kE ?_;refine jA ?_;refine iS ?_;refine bQ ?_;refine AWp.seqJ (fun s=> ∃(dW:List (List ByteArray)) (fR:List ByteArray),s=(⟨80,(aF (aF (fun _=>AV.any) 5 (.own 1 0 dW.length)) 6 (.own 2 0 fR.length)),⟨(upd (upd aZ 1 (.cells 1 (dW.flatMap (csl kD)) 0)) 2 (.cells 1 (fR.flatMap kD) 0)),64⟩⟩:St)∧aEs dW fR=some r) ?_ ?_
   ·
    refine sr (N':=192) rfl ?_
    iterate 2 refine pA ?_
    refine fs ?_;refine AWp.condM hm Z1 (fun _ hm=>?_) (fun _ hm=>?_)
    ·
     refine AWp.reg 64 (N':=256) rfl ?_
     iterate 3 refine pA ?_
     obtain ⟨l13,h12,hm⟩:=bnd hm;refine pu rfl (bFw underlying9 Z1 (aCg Z1 (bFb h12).1) (aWg _) h12) ?_;refine hp (id:=196) rfl rfl (kW CFs (l:=[l13]) underlying69 sz9 zc9 Z5 Zd Zd Zd (by simp only [go_sem,Nat.reduceBEq];try rfl) (by kernel_rfl)) ?_;obtain ⟨l15,h14,hm⟩:=bnd hm;refine hp (id:=197) rfl rfl (xH CFs underlying69 underlying69 rfl in9 ts9 (by rw [tb9];decide) (by rw [tb9];decide) tz9 Zd Zd Z1 Z3 Z6 (aAg CFs Z1 Z3 Z6) rfl Z5 h14) ?_;refine pA ?_;refine aR.fin ?_;refine oY ?_;refine ⟨_,?_,dW,l15,rfl,hm⟩;exact cP (fun j=>bif j==1 then 1 else bif j==2 then 197 else 0) (wO (wO dN)) (hW (eU CFs (eU (CFl CFs) cZ)))
    · refine AWp.skip ?_;refine oY ?_;refine ⟨_,?_,dW,fR,rfl,hm⟩;exact cP (fun j=>bif j==1 then 1 else bif j==2 then 2 else 0) (wO (wO dN)) (hW (eU CFs (eU (CFl CFs) cZ)))
   ·
    rintro s ⟨dW,fR,rfl,hm⟩;unfold aEs at hm;refine AWp.seq' ?_;refine AWp.weaken (aK9 CFs 6 2 Z1 Z3 Z6) ?_;refine AWp.reg 64 (N':=128) rfl ?_
    iterate 2 refine pA ?_
    refine hp (id:=66) rfl rfl (kW (CFl CFs) (l:=[fR]) underlying65 bY7 bYp Z5 Zd Zd Zd (by simp only [go_sem,Nat.reduceBEq];try rfl) (by kernel_rfl)) ?_;obtain ⟨l11,h10,hm⟩:=bnd hm;refine hp (id:=67) rfl rfl (xH (CFl CFs) underlying65 underlying65 rfl bX1 bYe (by rw [bLl];decide) (by rw [bLl];decide) bYg Zd Zd Z1 Z3 Z6 (aAg (CFl CFs) Z1 Z3 Z6) rfl Z5 h10) ?_
    iterate 3 refine pA ?_
    refine fs ?_;refine AWp.ret ?_;cases hm;exact bGx (.inr rfl) Tryz.results68 (tdo (CFl CFs) Z1 Z3 Z6) (td Z1 (.v _)) (td Z1 (.v _))
instance:Ct prog 68 (K1 prog vs (t3 (vl (csl kD)) vi vi) 68 aAp):=⟨fun hm=>aLo hm⟩
attribute [local semireducible] aY
end Go.Proofs.YtkdohhmacfoolaaGreatDoor
