/- Facts. No condition. -/
import Derived.Test.YtkdohhmacfoolaaGreatDoorObAmE
set_option linter.unusedVariables false
set_option linter.unusedSimpArgs false
set_option maxRecDepth 20000
set_option maxHeartbeats 4000000
namespace Go.Proofs.YtkdohhmacfoolaaGreatDoor
open Go.Proofs.Tryz Go Go.AM
attribute [local irreducible] bC
def bJs:ByteArray:=⟨#[110,101,119,32,51,32,50,32,49,10,118,101,114,116,101,120,32,52,10,118,101,114,116,101,120,32,54,10,118,101,114,116,101,120,32,56,10,101,100,103,101,32,54,32,52,10,99,111,110,110,101,99,116,101,100,32,52,32,54,10,99,111,110,110,101,99,116,101,100,32,52,32,56,10,97,117,100,105,116,10,115,105,122,101,32,54]⟩
theorem bK8(x0 y0 x1 y1:Int):fG prog .eql 94 (.agg [.v (.int .u64 x0),.v (.int .u64 x1)]) (.agg [.v (.int .u64 y0),.v (.int .u64 y1)])=some (.v (.bool ((x0==y0)&&(x1==y1)))):=
 (by kernel_rfl:fG prog .eql 94 (.agg [.v (.int .u64 x0),.v (.int .u64 x1)]) (.agg [.v (.int .u64 y0),.v (.int .u64 y1)])=some (.v (.bool ((x0==y0)&&((x1==y1)&&true))))).trans (by rw [Bool.and_true])
theorem bLn(x0 y0 x1 y1:Int):fG prog .neq 94 (.agg [.v (.int .u64 x0),.v (.int .u64 x1)]) (.agg [.v (.int .u64 y0),.v (.int .u64 y1)])=some (.v (.bool (!((x0==y0)&&(x1==y1))))):=
 (by kernel_rfl:fG prog .neq 94 (.agg [.v (.int .u64 x0),.v (.int .u64 x1)]) (.agg [.v (.int .u64 y0),.v (.int .u64 y1)])=some (.v (.bool (!((x0==y0)&&((x1==y1)&&true)))))).trans (by rw [Bool.and_true])
attribute [go_sem] bK8 bLn
@[go_sem] theorem bFu(i o:Nat):aM prog 23 (.adr i o) 0=some (.adr i (o+0)):=by kernel_rfl
@[go_sem] theorem bG1(i o:Nat):aM prog 23 (.adr i o) 1=some (.adr i (o+1)):=by kernel_rfl
@[go_sem] theorem bG7(i o:Nat):aM prog 23 (.adr i o) 2=some (.adr i (o+2)):=by kernel_rfl
@[go_sem] theorem bGg(i o:Nat):aM prog 30 (.adr i o) 1=some (.adr i (o+3)):=by kernel_rfl
@[go_sem] theorem bGm(i o:Nat):aM prog 30 (.adr i o) 2=some (.adr i (o+4)):=by kernel_rfl
@[go_sem] theorem bGp(i o:Nat):aM prog 33 (.adr i o) 0=some (.adr i (o+0)):=by kernel_rfl
@[go_sem] theorem bGx(i o:Nat):aM prog 42 (.adr i o) 0=some (.adr i (o+0)):=by kernel_rfl
@[go_sem] theorem bH3(i o:Nat):aM prog 42 (.adr i o) 3=some (.adr i (o+3)):=by kernel_rfl
@[go_sem] theorem bO4(H:aI)(x0 x1 x2:AV)(xs:List AV):bW prog H 23 (.ptr (x0::x1::x2::xs))=some (.agg [x0,x1,x2]):=by kernel_rfl
@[go_sem] theorem bOb(H:aI)(x:AV)(xs:List AV):bW prog H 27 (.ptr (x::xs))=some x:=by kernel_rfl
@[go_sem] theorem bOh(H:aI)(x:AV)(xs:List AV):bW prog H 28 (.ptr (x::xs))=some x:=by kernel_rfl
@[go_sem] theorem bSg(H:aI)(x:AV)(xs:List AV):bW prog H 3 (.ptr (x::xs))=some x:=by kernel_rfl
@[go_sem] theorem bOo(H:aI)(x0 x1 x2 x3 x4:AV)(xs:List AV):bW prog H 30 (.ptr (x0::x1::x2::x3::x4::xs))=some (.agg [x0,x1,x2,x3,x4]):=by kernel_rfl
@[go_sem] theorem bOu(H:aI)(x0 x1 x2 x3 x4 x5:AV)(xs:List AV):bW prog H 33 (.ptr (x0::x1::x2::x3::x4::x5::xs))=some (.agg [x0,x1,x2,x3,x4,x5]):=by kernel_rfl
@[go_sem] theorem bP4(H:aI)(x0 x1 x2 x3:AV)(xs:List AV):bW prog H 42 (.ptr (x0::x1::x2::x3::xs))=some (.agg [x0,x1,x2,x3]):=by kernel_rfl
@[go_sem] theorem bSo(H:aI)(x:AV)(xs:List AV):bW prog H 9 (.ptr (x::xs))=some x:=by kernel_rfl
@[go_sem] theorem bPf(H:aI)(x0 x1:AV)(xs:List AV):bW prog H 94 (.ptr (x0::x1::xs))=some (.agg [x0,x1]):=by kernel_rfl
def aGy(rec1:Int→List bD→Int→Int→Option (Int))(n_7:Int)(t29:List bD)(t30:Int)(t31:Int):Option (Int):=
 (bif (decide (t31<t30)) then
  ((idx t29 t31).bind fun x4=>
  (bif (decide (1000<(x4.Text.size:Int))) then
   some (-1)
  else
   rec1 n_7 t29 t30 (IntKind.i64.wrap (t31+1))))
 else
  some n_7)
def yC:Nat→Int→List bD→Int→Int→Option (Int)
 |0=>fun _ _ _ _=>none
 |n+1=>aGy (yC n)
def mS(c_0:aU)(l_1:List bD)(aR0:Int):Option (Int):=
 (bif (((decide (10<c_0.N))||(decide (4<c_0.L)))||(decide (3<c_0.R))) then
  some (-1)
 else
  ((slc l_1 0 (if aR0<(l_1.length:Int) then aR0 else (l_1.length:Int))).bind fun l2=>
  yC bC (if aR0<(l_1.length:Int) then aR0 else (l_1.length:Int)) l2 (l2.length:Int) 0))
theorem aJo:K3 prog aEa (vl cU) vi vi 9 mS:=by
 intro c_0 l_1 aR0 r hm
 let I1:=((fun m s=> ∃n_7 t29 t30 t31,s=⟨41,(aE (aE (aE (aE fa 7 (vi n_7)) 29 (vl cU t29)) 30 (vi t30)) 31 (vi t31)),⟨aZ,64⟩⟩∧yC m n_7 t29 t30 t31=some r):Nat→St→Prop)
 exact be 41 func9 (h:=G)
instance:Ct prog 9 (K3 prog aEa (vl cU) vi vi 9 mS):=⟨aJo⟩
def hY:Option (Bool):=
 ((aCh bJs [7,1,9,2]).bind fun r2=>
 some (decide (r2=⟨#[111,107,10,111,107,10,111,107,10,111,107,10,111,107,10,121,101,115,10,110,111,10,121,101,115,10,50,10]⟩)))
theorem kF{r:Bool}(hm:hY=some r):bO prog 11 [] (vb r):=by
 refine bd 6 func11 ?_;refine W ?_;refine aL (CFi .u64) [7,1,9,2] ?_;obtain ⟨r2,h1,hm⟩:=bnd hm;refine aW.callB (r:= .v (.string r2)) Zd Z1 cBp (.cons (ltd fun H=>(td Z1 (.v _))) (.cons (lto (CFi .u64) Z1 Z3 Z6) aXe.nil)) bR6 (aOp h1) ?_;exact E
instance:Ct prog 11 (K0 prog vb 11 hY):=⟨fun hm=>kF hm⟩
def aFg(rec1:List bM→List bM→Int→Option (Bool))(a_0:List bM)(b_1:List bM)(i_5:Int):Option (Bool):=
 (bif (decide (i_5<(a_0.length:Int))) then
  ((idx a_0 i_5).bind fun x2=>
  ((idx b_1 i_5).bind fun x4=>
  (bif (!((x2.A==x4.A)&&(x2.B==x4.B))) then
   some false
  else
   rec1 a_0 b_1 (IntKind.i64.wrap (i_5+1)))))
 else
  some true)
def vJ:Nat→List bM→List bM→Int→Option (Bool)
 |0=>fun _ _ _=>none
 |n+1=>aFg (vJ n)
def yN(a_0:List bM)(b_1:List bM):Option (Bool):=
 (bif ((a_0.length:Int) !=(b_1.length:Int)) then
  some false
 else
  vJ bC a_0 b_1 0)
theorem aOh{a_0:List bM}{b_1:List bM}{r:Bool}(hm:yN a_0 b_1=some r):bO prog 17 [vl bI a_0,vl bI b_1] (vb r):=by
 refine bd 26 func17 ?_;refine W ?_;refine cm hm (fun hm=>?_) fun hm=>?_
 · exact E
 refine W ?_;refine lp (fun m s=> ∃a_0 b_1 i_5,s=⟨26,(aE (aE (aE fa 0 (vl bI a_0)) 1 (vl bI b_1)) 5 (vi i_5)),⟨aZ,64⟩⟩∧vJ m a_0 b_1 i_5=some r) L ?_;rintro n1 s ⟨a_0,b_1,i_5,rfl,hm⟩;refine W ?_;refine cm hm (fun hm=>?_) fun hm=>?_
 ·
  obtain ⟨x2,h1,hm⟩:=bnd hm;obtain ⟨x4,h3,hm⟩:=bnd hm;refine W ?_;refine cm hm (fun hm=>?_) fun hm=>?_
  · exact E
  exact L
 exact E
instance:Ct prog 17 (K2 prog (vl bI) (vl bI) vb 17 yN):=⟨fun hm=>aOh hm⟩
def aAn(rec2:aC→aC→List bD→Int→Int→Option (Bool))(zH:aC)(aPj:aC)(t90:List bD)(t91:Int)(t92:Int):Option (Bool):=
 (bif (decide (t92<t91)) then
  ((idx t90 t92).bind fun x31=>
  (bif (x31.Do==15) then
   ((hY).bind fun r33=>
   some r33)
  else
   ((eG zH x31).bind fun ⟨r35,r36⟩=>
   ((eG aPj x31).bind fun ⟨r38,r39⟩=>
   ((yP r35.Graph.Edges r38.Graph.Edges).bind fun r41=>
   ((fX ((!r41)==false) false (mY r38.Graph)).bind fun r43=>
   (bif ((!r41)||(!r43)) then
    some false
   else
    rec2 r35 r38 t90 t91 (IntKind.i64.wrap (t92+1)))))))))
 else
  ((yN zH.Graph.Hashes aPj.Graph.Hashes).bind fun r45=>
  ((fX (r45==true) false (vM aPj.Graph)).bind fun r47=>
  ((fX ((r45&&r47)==true) false (hY)).bind fun r49=>
  some ((r45&&r47)&&r49)))))
def oQ:Nat→aC→aC→List bD→Int→Int→Option (Bool)
 |0=>fun _ _ _ _ _=>none
 |n+1=>aAn (oQ n)
def aAm(rec1:List bD→Int→aC→List bD→Int→Int→Option (Bool))(m_3:List bD)(bI3:Int)(zH:aC)(t49:List bD)(t50:Int)(t51:Int):Option (Bool):=
 (bif (decide (t51<t50)) then
  ((idx t49 t51).bind fun x14=>
  (bif (x14.Do==15) then
   ((hY).bind fun r16=>
   some r16)
  else
   ((eG zH x14).bind fun ⟨r18,r19⟩=>
   rec1 m_3 bI3 r18 t49 t50 (IntKind.i64.wrap (t51+1)))))
 else
  ((tR zH).bind fun ⟨r21,r22⟩=>
  ((nZ r21).bind fun ⟨r24,r25⟩=>
  ((fX (((r22 !=0)||(r25 !=0))==false) false (mY r24.Graph)).bind fun r27=>
  (bif (((r22 !=0)||(r25 !=0))||(!r27)) then
   some false
  else
   ((slc m_3 0 bI3).bind fun l29=>
   oQ bC zH r24 l29 (l29.length:Int) 0))))))
def oP:Nat→List bD→Int→aC→List bD→Int→Int→Option (Bool)
 |0=>fun _ _ _ _ _ _=>none
 |n+1=>aAm (oP n)
def rU(c_0:aU)(oO:List Int)(l_2:List bD)(m_3:List bD):Option (Bool):=
 ((mS c_0 l_2 20).bind fun r2=>
 ((mS c_0 m_3 10).bind fun r4=>
 ((lL c_0 (aR.mk oO 0)).bind fun ⟨r6,r7,r8⟩=>
 (bif (((decide (r2<0))||(decide (r4<0)))||(r8 !=0)) then
  ((hY).bind fun r10=>
  some r10)
 else
  ((slc l_2 0 r2).bind fun l12=>
  oP bC m_3 r4 r6 l12 (l12.length:Int) 0)))))
theorem aIn{c_0:aU}{oO:List Int}{l_2:List bD}{m_3:List bD}{r:Bool}(hm:rU c_0 oO l_2 m_3=some r):bO prog 3 [.agg [vi c_0.N,vi c_0.L,vi c_0.R],vl (ci .u64) oO,vl cU l_2,vl cU m_3] (vb r):=by
 refine bd 142 func3 ?_;obtain ⟨r2,h1,hm⟩:=bnd hm;refine W ?_;refine cq (aJo h1) ?_;obtain ⟨r4,h3,hm⟩:=bnd hm;refine W ?_;refine cq (aJo h3) ?_;refine W ?_;refine bU (.agg [vl (ci .u64) oO,vi 0]) ?_;obtain ⟨⟨r6,r7,r8⟩,h5,hm⟩:=bnd hm;refine cq (aJm h5) ?_;refine W ?_;refine cm hm (fun hm=>?_) fun hm=>?_
 · obtain ⟨r10,h9,hm⟩:=bnd hm;refine W ?_;refine cq (kF h9) ?_;exact E
 obtain ⟨l12,h11,hm⟩:=bnd hm;refine W ?_;refine lp (fun m s=> ∃m_3 bI3 zH t49 t50 t51,s=⟨142,(aE (aE (aE (aE (aE (aE fa 3 (vl cU m_3)) 10 (vi bI3)) 11 (.adr 1 0)) 49 (vl cU t49)) 50 (vi t50)) 51 (vi t51)),⟨(upd aZ 1 (.cells 1 [vi zH.Graph.Config.N,vi zH.Graph.Config.L,vi zH.Graph.Config.R,vl bI zH.Graph.Hashes,vl aO zH.Graph.Edges,vl aT zH.Slots] 0)),64⟩⟩∧oP m m_3 bI3 zH t49 t50 t51=some r) ?_ ?_
 · refine ⟨_,?_,m_3,r4,r6,l12,(l12.length:Int),0,rfl,hm⟩;refine St.Le.trans (bL8 49 (.sl (l12.flatMap cU) l12.length false) (fun H=>(tdf Z1 (nD.sl _ _ _)))) ?_;exact cn (fun j=>bif j==1 then 136 else 0)
 rintro n1 s ⟨m_3,bI3,zH,t49,t50,t51,rfl,hm⟩;refine W ?_;refine cm hm (fun hm=>?_) fun hm=>?_
 ·
  obtain ⟨x14,h13,hm⟩:=bnd hm;refine W ?_;refine cm hm (fun hm=>?_) fun hm=>?_
  · obtain ⟨r16,h15,hm⟩:=bnd hm;refine W ?_;refine cq (kF h15) ?_;exact E
  refine W ?_;obtain ⟨⟨r18,r19⟩,h17,hm⟩:=bnd hm;refine cq (aDx h17) ?_;refine W ?_;exact Lr (fun j=>bif j==1 then 1 else 0)
 refine W ?_;obtain ⟨⟨r21,r22⟩,h20,hm⟩:=bnd hm;refine cq (aKa h20) ?_;refine W ?_;obtain ⟨⟨r24,r25⟩,h23,hm⟩:=bnd hm;refine cq (aJ4 h23) ?_;obtain ⟨r27,h26,hm⟩:=bnd hm;refine W ?_;refine cg (fun hb=>aFn (gN h26 hb)) ?_;refine W ?_;refine cm hm (fun hm=>?_) fun hm=>?_
 · exact E
 obtain ⟨l29,h28,hm⟩:=bnd hm;refine W ?_;refine lp (fun m s=> ∃zH aPj t90 t91 t92,s=⟨142,(aE (aE (aE (aE (aE fa 11 (.adr 1 0)) 18 (.adr 2 0)) 90 (vl cU t90)) 91 (vi t91)) 92 (vi t92)),⟨(upd (upd aZ 1 (.cells 1 [vi zH.Graph.Config.N,vi zH.Graph.Config.L,vi zH.Graph.Config.R,vl bI zH.Graph.Hashes,vl aO zH.Graph.Edges,vl aT zH.Slots] 0)) 2 (.cells 1 [vi aPj.Graph.Config.N,vi aPj.Graph.Config.L,vi aPj.Graph.Config.R,vl bI aPj.Graph.Hashes,vl aO aPj.Graph.Edges,vl aT aPj.Slots] 0)),64⟩⟩∧oQ m zH aPj t90 t91 t92=some r) ?_ ?_
 · refine ⟨_,?_,zH,r24,l29,(l29.length:Int),0,rfl,hm⟩;refine St.Le.trans (bL8 90 (.sl (l29.flatMap cU) l29.length false) (fun H=>(tdf Z1 (nD.sl _ _ _)))) ?_;exact cn (fun j=>bif j==1 then 1 else bif j==2 then 197 else 0)
 rintro n2 s ⟨zH,aPj,t90,t91,t92,rfl,hm⟩;refine W ?_;refine cm hm (fun hm=>?_) fun hm=>?_
 ·
  obtain ⟨x31,h30,hm⟩:=bnd hm;refine W ?_;refine cm hm (fun hm=>?_) fun hm=>?_
  · obtain ⟨r33,h32,hm⟩:=bnd hm;refine W ?_;refine cq (kF h32) ?_;exact E
  refine W ?_;obtain ⟨⟨r35,r36⟩,h34,hm⟩:=bnd hm;refine cq (aDx h34) ?_;refine W ?_;obtain ⟨⟨r38,r39⟩,h37,hm⟩:=bnd hm;refine cq (aDx h37) ?_;obtain ⟨r41,h40,hm⟩:=bnd hm;refine W ?_;refine cq (aOk h40) ?_;obtain ⟨r43,h42,hm⟩:=bnd hm;refine W ?_;refine cg (fun hb=>aFn (gN h42 hb)) ?_;refine W ?_;refine cm hm (fun hm=>?_) fun hm=>?_
  · exact E
  refine W ?_;exact Lr (fun j=>bif j==1 then 1 else bif j==2 then 2 else 0)
 obtain ⟨r45,h44,hm⟩:=bnd hm;refine W ?_;refine cq (aOh h44) ?_;obtain ⟨r47,h46,hm⟩:=bnd hm;refine W ?_;refine cg (fun hb=>aLm (gN h46 hb)) ?_;obtain ⟨r49,h48,hm⟩:=bnd hm;refine W ?_;refine cg (fun hb=>kF (gN h48 hb)) ?_;exact E
instance:Ct prog 3 (K4 prog aEa (vl (ci .u64)) (vl cU) (vl cU) vb 3 rU):=⟨fun hm=>aIn hm⟩
attribute [local semireducible] bC
structure aJ9 where
 Used:Bool
 Key:Int
deriving DecidableEq
structure bA5 where
 Graph:aF
 Slots:List aJ9
deriving DecidableEq
structure aJ where
 Most:Int
 Keys:List Int
 Pairs:List aG
deriving DecidableEq
def aFj(rec1:List Int→Int→Int→Option (Int))(l_0:List Int)(k_1:Int)(i_5:Int):Option (Int):=
 (bif (decide (i_5<(l_0.length:Int))) then
  ((idx l_0 i_5).bind fun x2=>
  (bif (x2==k_1) then
   some i_5
  else
   rec1 l_0 k_1 (IntKind.i64.wrap (i_5+1))))
 else
  some (-1))
def aA5:Nat→List Int→Int→Int→Option (Int)
 |0=>fun _ _ _=>none
 |n+1=>aFj (aA5 n)
def aHh(l_0:List Int)(k_1:Int):Option (Int):=
 aA5 bC l_0 k_1 0
def aA6(rec1:Int→aJ→List Int→Int→Option ((List Int)))(a_1:Int)(m_2:aJ)(dO:List Int)(i_6:Int):Option ((List Int)):=
 rec1 a_1 m_2 dO (IntKind.i64.wrap (i_6+1))
def aFl(rec1:Int→aJ→List Int→Int→Option ((List Int)))(rec2:Int→aJ→List Int→Int→Int→Int→Option ((List Int)))(a_1:Int)(m_2:aJ)(dO:List Int)(i_6:Int)(aWc:Int)(k_9:Int):Option ((List Int)):=
 ((fX ((decide (k_9<(dO.length:Int)))==true) 0 (idx dO k_9)).bind fun x4=>
 (bif ((decide (k_9<(dO.length:Int)))&&(decide (x4<aWc))) then
  rec2 a_1 m_2 dO i_6 aWc (IntKind.i64.wrap (k_9+1))
 else
  ((slc dO 0 k_9).bind fun l6=>
  ((app [] l6).bind fun l8=>
  ((app l8 [aWc]).bind fun l10=>
  ((slc dO k_9 (dO.length:Int)).bind fun l12=>
  ((app l10 l12).bind fun l14=>
  aA6 rec1 a_1 m_2 l14 i_6)))))))
def aA7(rec1:Int→aJ→List Int→Int→Option ((List Int))):Nat→Int→aJ→List Int→Int→Int→Int→Option ((List Int))
 |0=>fun _ _ _ _ _ _=>none
 |n+1=>aFl rec1 (aA7 rec1 n)
def aFk(rec1:Int→aJ→List Int→Int→Option ((List Int)))(a_1:Int)(m_2:aJ)(dO:List Int)(i_6:Int):Option ((List Int)):=
 (bif (decide (i_6<(m_2.Pairs.length:Int))) then
  ((idx m_2.Pairs i_6).bind fun x2=>
  (bif ((x2.x0 !=a_1)&&(x2.x1 !=a_1)) then
   aA6 rec1 a_1 m_2 dO i_6
  else
   aA7 rec1 bC a_1 m_2 dO i_6 (IntKind.u64.wrap ((IntKind.u64.wrap (x2.x0+x2.x1))-a_1)) 0))
 else
  some dO)
def vN:Nat→Int→aJ→List Int→Int→Option ((List Int))
 |0=>fun _ _ _ _=>none
 |n+1=>aFk (vN n)
def aOm(m_0:aJ)(a_1:Int):Option ((List Int)):=
 vN bC a_1 m_0 [] 0
def aLn(a_0:Int)(b_1:Int)(t4:aG):Option (aG):=
 some (aG.mk a_0 b_1)
def aHj(a_0:Int)(b_1:Int):Option (aG):=
 (bif (decide (b_1<a_0)) then
  aLn b_1 a_0 (aG.mk 0 0)
 else
  aLn a_0 b_1 (aG.mk 0 0))
def aJx(rec1:List aG→aG→Int→Option (Int))(l_0:List aG)(p_3:aG)(i_5:Int):Option (Int):=
 (bif (decide (i_5<(l_0.length:Int))) then
  ((idx l_0 i_5).bind fun x2=>
  (bif (bBd x2 p_3) then
   some i_5
  else
   rec1 l_0 p_3 (IntKind.i64.wrap (i_5+1))))
 else
  some (-1))
def aFi:Nat→List aG→aG→Int→Option (Int)
 |0=>fun _ _ _=>none
 |n+1=>aJx (aFi n)
def aN9(l_0:List aG)(p_1:aG):Option (Int):=
 aFi bC l_0 p_1 0
def gM(m_0:aJ)(wB:Int)(a_2:Int)(b_3:Int):Option (aJ×Int):=
 ((aHh m_0.Keys a_2).bind fun r2=>
 (bif (wB==1) then
  (bif (decide (0≤r2)) then
   some (m_0,4)
  else
   (bif (decide (m_0.Most≤(m_0.Keys.length:Int))) then
    some (m_0,10)
   else
    ((app [] m_0.Keys).bind fun l4=>
    ((app l4 [a_2]).bind fun l6=>
    some ((aJ.mk m_0.Most l6 m_0.Pairs),0)))))
 else
  ((fX (((decide (r2<0))==false)&&((decide (2<wB))==true)) 0 (aHh m_0.Keys b_3)).bind fun r8=>
  (bif ((decide (r2<0))||((decide (2<wB))&&(decide (r8<0)))) then
   some (m_0,7)
  else
   (bif (wB==2) then
    ((aOm m_0 a_2).bind fun r10=>
    (bif (decide (0<(r10.length:Int))) then
     some (m_0,11)
    else
     ((slc m_0.Keys 0 r2).bind fun l12=>
     ((app [] l12).bind fun l14=>
     ((slc m_0.Keys (IntKind.i64.wrap (r2+1)) (m_0.Keys.length:Int)).bind fun l16=>
     ((app l14 l16).bind fun l18=>
     some ((aJ.mk m_0.Most l18 m_0.Pairs),0)))))))
   else
    ((aHj a_2 b_3).bind fun r20=>
    ((aN9 m_0.Pairs r20).bind fun r22=>
    (bif (wB==4) then
     (bif (decide (r22<0)) then
      some (m_0,9)
     else
      ((slc m_0.Pairs 0 r22).bind fun l24=>
      ((app [] l24).bind fun l26=>
      ((slc m_0.Pairs (IntKind.i64.wrap (r22+1)) (m_0.Pairs.length:Int)).bind fun l28=>
      ((app l26 l28).bind fun l30=>
      some ((aJ.mk m_0.Most m_0.Keys l30),0))))))
    else
     (bif (a_2==b_3) then
      some (m_0,8)
     else
      (bif (decide (0≤r22)) then
       some (m_0,4)
      else
       ((app [] m_0.Pairs).bind fun l32=>
       ((app l32 [r20]).bind fun l34=>
       some ((aJ.mk m_0.Most m_0.Keys l34),0)))))))))))))
structure aY where
 List:List Int
 At:Int
deriving DecidableEq
def aFf(w_0:aY):Option (Bool):=
 some ((decide (0≤w_0.At))&&(decide (w_0.At≤(w_0.List.length:Int))))
def aSs(rec1:aY→aY→Int→Option (Int×aY×Int))(w_1:aY)(t3:aY)(aKi:Int):Option (Int×aY×Int):=
 (bif (decide (aKi<(w_1.List.length:Int))) then
  ((idx w_1.List aKi).bind fun x4=>
  (bif ((Int.tmod x4 2305843009213693952) !=2305843009213693951) then
   some ((Int.tmod x4 2305843009213693952),(aY.mk w_1.List (IntKind.i64.wrap (aKi+1))),0)
  else
   rec1 w_1 t3 (IntKind.i64.wrap (aKi+1))))
 else
  some (0,w_1,5))
def aIs:Nat→aY→aY→Int→Option (Int×aY×Int)
 |0=>fun _ _ _=>none
 |n+1=>aSs (aIs n)
def aWi(w_0:aY):Option (Int×aY×Int):=
 ((aFf w_0).bind fun r2=>
 (bif (!r2) then
  some (0,w_0,1)
 else
  aIs bC w_0 (aY.mk [] 0) w_0.At))
def aRf(rec2:Int→aY→List Int→aY→List bM→Int→Option ((List bM)×aY×Int))(n_1:Int)(t5:aY)(aQ0:List Int)(v_8:aY)(bLo:List bM)(bNu:Int):Option ((List bM)×aY×Int):=
 (bif (decide (bNu<n_1)) then
  ((idx aQ0 (IntKind.i64.wrap (2*bNu))).bind fun x10=>
  ((idx aQ0 (IntKind.i64.wrap ((IntKind.i64.wrap (2*bNu))+1))).bind fun x12=>
  ((app bLo [(bM.mk x10 x12)]).bind fun l14=>
  rec2 n_1 t5 aQ0 v_8 l14 (IntKind.i64.wrap (bNu+1)))))
 else
  some (bLo,v_8,0))
def aHg:Nat→Int→aY→List Int→aY→List bM→Int→Option ((List bM)×aY×Int)
 |0=>fun _ _ _ _ _ _=>none
 |n+1=>aRf (aHg n)
def aRe(rec1:Int→aY→aY→List Int→aY→Option ((List bM)×aY×Int))(n_1:Int)(w_2:aY)(t5:aY)(aQ0:List Int)(v_8:aY):Option ((List bM)×aY×Int):=
 (bif (decide ((aQ0.length:Int)<(IntKind.i64.wrap (2*n_1)))) then
  ((aWi v_8).bind fun ⟨r4,r5,r6⟩=>
  (bif (r6 !=0) then
   some ([],w_2,r6)
  else
   ((app aQ0 [r4]).bind fun l8=>
   rec1 n_1 w_2 t5 l8 r5)))
 else
  aHg bC n_1 t5 aQ0 v_8 [] 0)
def aHf:Nat→Int→aY→aY→List Int→aY→Option ((List bM)×aY×Int)
 |0=>fun _ _ _ _ _=>none
 |n+1=>aRe (aHf n)
def aIt(w_0:aY)(n_1:Int):Option ((List bM)×aY×Int):=
 ((aFf w_0).bind fun r2=>
 (bif (((!r2)||(decide (n_1<0)))||(decide (128<n_1))) then
  some ([],w_0,1)
 else
  aHf bC n_1 w_0 (aY.mk [] 0) [] w_0))
end Go.Proofs.YtkdohhmacfoolaaGreatDoor
