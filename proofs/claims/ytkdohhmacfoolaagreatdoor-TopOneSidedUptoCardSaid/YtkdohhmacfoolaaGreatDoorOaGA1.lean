/- Facts. No condition. -/
import Derived.Test.YtkdohhmacfoolaaGreatDoorOaOf
import Derived.Test.YtkdohhmacfoolaaGreatDoorOaAmF
set_option linter.unusedVariables false
set_option linter.unusedSimpArgs false
set_option maxRecDepth 20000
set_option maxHeartbeats 4000000
namespace Go.Proofs.YtkdohhmacfoolaaGreatDoor
open Go.Proofs.Tryz Go Go.AM
attribute [local irreducible] aZ
def bBc:ByteArray:=⟨#[0,1,2,2,3,3,3,3,4,4,4,4,4,4,4,4,5,5,5,5,5,5,5,5,5,5,5,5,5,5,5,5,6,6,6,6,6,6,6,6,6,6,6,6,6,6,6,6,6,6,6,6,6,6,6,6,6,6,6,6,6,6,6,6,7,7,7,7,7,7,7,7,7,7,7,7,7,7,7,7,7,7,7,7,7,7,7,7,7,7,7,7,7,7,7,7,7,7,7,7,7,7,7,7,7,7,7,7,7,7,7,7,7,7,7,7,7,7,7,7,7,7,7,7,7,7,7,7,8,8,8,8,8,8,8,8,8,8,8,8,8,8,8,8,8,8,8,8,8,8,8,8,8,8,8,8,8,8,8,8,8,8,8,8,8,8,8,8,8,8,8,8,8,8,8,8,8,8,8,8,8,8,8,8,8,8,8,8,8,8,8,8,8,8,8,8,8,8,8,8,8,8,8,8,8,8,8,8,8,8,8,8,8,8,8,8,8,8,8,8,8,8,8,8,8,8,8,8,8,8,8,8,8,8,8,8,8,8,8,8,8,8,8,8,8,8,8,8,8,8,8,8,8,8,8,8]⟩
structure aT where
 N:Int
 L:Int
 R:Int
deriving DecidableEq
def aA7(e:aT):List AV:=[.v (.int .i64 e.N),.v (.int .i64 e.L),.v (.int .i64 e.R)]
theorem aX2:CF aA7 3:=⟨fun _=>rfl,fun a x hx=>by
 simp only [aA7,List.mem_cons,List.not_mem_nil,or_false] at hx;rcases hx with rfl|rfl|rfl
 · exact (.v _)
 · exact (.v _)
 · exact (.v _),fun _=>rfl⟩
instance:CC aA7 3:=⟨aX2⟩
abbrev aAl(e:aT):AV:= .agg [.v (.int .i64 e.N),vi e.L,vi e.R]
@[go_sem] theorem aPd(e:aT)(r:List AV):aA7 e++r= .v (.int .i64 e.N):: .v (.int .i64 e.L):: .v (.int .i64 e.R)::r:=rfl
structure bS where
 A:Int
 B:Int
deriving DecidableEq
def bC(e:bS):List AV:=[.v (.int .u64 e.A),.v (.int .u64 e.B)]
theorem jW:CF bC 2:=⟨fun _=>rfl,fun a x hx=>by
 simp only [bC,List.mem_cons,List.not_mem_nil,or_false] at hx;rcases hx with rfl|rfl
 · exact (.v _)
 · exact (.v _),fun _=>rfl⟩
instance:CC bC 2:=⟨jW⟩
abbrev aQu(e:bS):AV:= .agg [.v (.int .u64 e.A),vu e.B]
instance:CE prog 27 bC 2 (bS.mk 0 0):=⟨_,underlying27,bGk,bGw,inferInstance,jW,by decide,by decide⟩
@[go_sem] theorem aU2(e:bS)(r:List AV):bC e++r= .v (.int .u64 e.A):: .v (.int .u64 e.B)::r:=rfl
structure aE where
 Config:aT
 Hashes:List bS
 Edges:List aC
deriving DecidableEq
def aKd(e:aE):List AV:=[.v (.int .i64 e.Config.N),.v (.int .i64 e.Config.L),.v (.int .i64 e.Config.R),.sl (e.Hashes.flatMap bC) e.Hashes.length false,.sl (e.Edges.flatMap aH) e.Edges.length false]
theorem bAb:CF aKd 5:=⟨fun _=>rfl,fun a x hx=>by
 simp only [aKd,List.mem_cons,List.not_mem_nil,or_false] at hx;rcases hx with rfl|rfl|rfl|rfl|rfl
 · exact (.v _)
 · exact (.v _)
 · exact (.v _)
 · exact (jW.sl _ _ _)
 · exact (bJ.sl _ _ _),fun _=>rfl⟩
instance:CC aKd 5:=⟨bAb⟩
abbrev bW(e:aE):AV:= .agg [.v (.int .i64 e.Config.N),vi e.Config.L,vi e.Config.R,vl bC e.Hashes,vl aH e.Edges]
@[go_sem] theorem aRl(e:aE)(r:List AV):aKd e++r= .v (.int .i64 e.Config.N):: .v (.int .i64 e.Config.L):: .v (.int .i64 e.Config.R):: .sl (e.Hashes.flatMap bC) e.Hashes.length false:: .sl (e.Edges.flatMap aH) e.Edges.length false::r:=rfl
theorem bBr(x0 y0 x1 y1 x2 y2:Int):dU prog .eql 61 (.agg [.v (.int .i64 x0),.v (.int .i64 x1),.v (.int .i64 x2)]) (.agg [.v (.int .i64 y0),.v (.int .i64 y1),.v (.int .i64 y2)])=some (.v (.bool ((x0==y0)&&((x1==y1)&&(x2==y2))))):=
 (by kernel_rfl:dU prog .eql 61 (.agg [.v (.int .i64 x0),.v (.int .i64 x1),.v (.int .i64 x2)]) (.agg [.v (.int .i64 y0),.v (.int .i64 y1),.v (.int .i64 y2)])=some (.v (.bool ((x0==y0)&&((x1==y1)&&((x2==y2)&&true)))))).trans (by rw [Bool.and_true])
theorem bCw(x0 y0 x1 y1 x2 y2:Int):dU prog .neq 61 (.agg [.v (.int .i64 x0),.v (.int .i64 x1),.v (.int .i64 x2)]) (.agg [.v (.int .i64 y0),.v (.int .i64 y1),.v (.int .i64 y2)])=some (.v (.bool (!((x0==y0)&&((x1==y1)&&(x2==y2)))))):=
 (by kernel_rfl:dU prog .neq 61 (.agg [.v (.int .i64 x0),.v (.int .i64 x1),.v (.int .i64 x2)]) (.agg [.v (.int .i64 y0),.v (.int .i64 y1),.v (.int .i64 y2)])=some (.v (.bool (!((x0==y0)&&((x1==y1)&&((x2==y2)&&true))))))).trans (by rw [Bool.and_true])
attribute [go_sem] bBr bCw
@[go_sem] theorem aXs(xs:List AV):aJ prog 61 (.ptr (xs)) 0=some (.ptr xs):=by kernel_rfl
@[go_sem] theorem aXt(x0:AV)(xs:List AV):aJ prog 61 (.ptr (x0::xs)) 1=some (.ptr xs):=by kernel_rfl
@[go_sem] theorem aXu(x0:AV)(x1:AV)(xs:List AV):aJ prog 61 (.ptr (x0::x1::xs)) 2=some (.ptr xs):=by kernel_rfl
@[go_sem] theorem aXv(xs:List AV):aJ prog 94 (.ptr (xs)) 0=some (.ptr xs):=by kernel_rfl
@[go_sem] theorem aXw(x0:AV)(xs:List AV):aJ prog 94 (.ptr (x0::xs)) 1=some (.ptr xs):=by kernel_rfl
@[go_sem] theorem aY0(i o:Nat):aJ prog 23 (.adr i o) 0=some (.adr i (o+0)):=by kernel_rfl
@[go_sem] theorem aY6(i o:Nat):aJ prog 23 (.adr i o) 1=some (.adr i (o+1)):=by kernel_rfl
@[go_sem] theorem aYb(i o:Nat):aJ prog 23 (.adr i o) 2=some (.adr i (o+2)):=by kernel_rfl
@[go_sem] theorem aYf(i o:Nat):aJ prog 30 (.adr i o) 0=some (.adr i (o+0)):=by kernel_rfl
@[go_sem] theorem aYj(i o:Nat):aJ prog 30 (.adr i o) 1=some (.adr i (o+3)):=by kernel_rfl
@[go_sem] theorem aYl(i o:Nat):aJ prog 30 (.adr i o) 2=some (.adr i (o+4)):=by kernel_rfl
@[go_sem] theorem aZ0(i o:Nat):aJ prog 61 (.adr i o) 0=some (.adr i (o+0)):=by kernel_rfl
@[go_sem] theorem aZ6(i o:Nat):aJ prog 61 (.adr i o) 1=some (.adr i (o+1)):=by kernel_rfl
@[go_sem] theorem aZc(i o:Nat):aJ prog 61 (.adr i o) 2=some (.adr i (o+2)):=by kernel_rfl
@[go_sem] theorem aZi(i o:Nat):aJ prog 94 (.adr i o) 0=some (.adr i (o+0)):=by kernel_rfl
@[go_sem] theorem aZk(i o:Nat):aJ prog 94 (.adr i o) 1=some (.adr i (o+1)):=by kernel_rfl
@[go_sem] theorem bEz(H:aG)(x0 x1 x2:AV)(xs:List AV):bP prog H 23 (.ptr (x0::x1::x2::xs))=some (.agg [x0,x1,x2]):=by kernel_rfl
@[go_sem] theorem bF5(H:aG)(x:AV)(xs:List AV):bP prog H 27 (.ptr (x::xs))=some x:=by kernel_rfl
@[go_sem] theorem bF7(H:aG)(x:AV)(xs:List AV):bP prog H 28 (.ptr (x::xs))=some x:=by kernel_rfl
@[go_sem] theorem bIi(H:aG)(x:AV)(xs:List AV):bP prog H 3 (.ptr (x::xs))=some x:=by kernel_rfl
@[go_sem] theorem bFc(H:aG)(x0 x1 x2 x3 x4:AV)(xs:List AV):bP prog H 30 (.ptr (x0::x1::x2::x3::x4::xs))=some (.agg [x0,x1,x2,x3,x4]):=by kernel_rfl
@[go_sem] theorem bFn(H:aG)(x:AV)(xs:List AV):bP prog H 40 (.ptr (x::xs))=some x:=by kernel_rfl
@[go_sem] theorem bFt(H:aG)(x0 x1 x2:AV)(xs:List AV):bP prog H 61 (.ptr (x0::x1::x2::xs))=some (.agg [x0,x1,x2]):=by kernel_rfl
@[go_sem] theorem bFz(H:aG)(x0 x1:AV)(xs:List AV):bP prog H 94 (.ptr (x0::x1::xs))=some (.agg [x0,x1]):=by kernel_rfl
@[go_sem] theorem aUb(H:aG)(k:IntKind)(n:Int):qI prog H 3 162 (.v (.int k n))=some (.v (.int .u64 (IntKind.u64.wrap n))):=iJ underlying3 underlying162
@[go_sem] theorem bBj(H:aG)(k:IntKind)(n:Int):qI prog H 5 3 (.v (.int k n))=some (.v (.int .i64 (IntKind.i64.wrap n))):=iJ underlying5 underlying3
@[go_sem] theorem aXp(H:aG)(k:IntKind)(n:Int):qI prog H 40 5 (.v (.int k n))=some (.v (.int .u8 (IntKind.u8.wrap n))):=iJ underlying40 underlying5
def pU(a_0:aC)(b_1:aC):Option (Bool):=
 (bif (a_0.U !=b_1.U) then
  some (decide (a_0.U<b_1.U))
 else
  some (decide (a_0.V<b_1.V)))
theorem aDa{a_0:aC}{b_1:aC}{r:Bool}(hm:pU a_0 b_1=some r):bH prog 97 [.agg [vi a_0.U,vi a_0.V,vi a_0.Tier],.agg [vi b_1.U,vi b_1.V,vi b_1.Tier]] (vb r):=by
 refine bd 20 func97 ?_;refine W ?_;refine cm hm (fun hm=>?_) fun hm=>?_
 · exact E
 exact E
instance:Ct prog 97 (K2 prog xB xB vb 97 pU):=⟨fun hm=>aDa hm⟩
def zO(rec1:Int→List aC→Int→Option (Bool))(n_0:Int)(l_1:List aC)(i_5:Int):Option (Bool):=
 (bif (decide (i_5<(l_1.length:Int))) then
  ((idx l_1 i_5).bind fun x2=>
  ((dT ((decide (x2.U<0))==false) (aC.mk 0 0 0) (idx l_1 i_5)).bind fun x4=>
  ((dT ((decide (x2.U<0))==false) (aC.mk 0 0 0) (idx l_1 i_5)).bind fun x6=>
  ((dT (((decide (x2.U<0))||(decide (x6.V≤x4.U)))==false) (aC.mk 0 0 0) (idx l_1 i_5)).bind fun x8=>
  ((dT ((((decide (x2.U<0))||(decide (x6.V≤x4.U)))||(decide (n_0≤x8.V)))==false) (aC.mk 0 0 0) (idx l_1 i_5)).bind fun x10=>
  ((dT (((((decide (x2.U<0))||(decide (x6.V≤x4.U)))||(decide (n_0≤x8.V)))||(decide (x10.Tier<0)))==false) (aC.mk 0 0 0) (idx l_1 i_5)).bind fun x12=>
  (bif (((((decide (x2.U<0))||(decide (x6.V≤x4.U)))||(decide (n_0≤x8.V)))||(decide (x10.Tier<0)))||(decide (16<x12.Tier))) then
   some false
  else
   ((dT ((decide (0<i_5))==true) (aC.mk 0 0 0) (idx l_1 (IntKind.i64.wrap (i_5-1)))).bind fun x14=>
   ((dT ((decide (0<i_5))==true) (aC.mk 0 0 0) (idx l_1 i_5)).bind fun x16=>
   ((dT ((decide (0<i_5))==true) false (pU x14 x16)).bind fun r18=>
   (bif ((decide (0<i_5))&&(!r18)) then
    some false
   else
    rec1 n_0 l_1 (IntKind.i64.wrap (i_5+1)))))))))))))
 else
  some true)
def nZ:Nat→Int→List aC→Int→Option (Bool)
 |0=>fun _ _ _=>none
 |n+1=>zO (nZ n)
def nA(n_0:Int)(l_1:List aC):Option (Bool):=
 (bif ((decide (n_0<0))||(decide (1024<n_0))) then
  some false
 else
  nZ aZ n_0 l_1 0)
theorem aBq{n_0:Int}{l_1:List aC}{r:Bool}(hm:nA n_0 l_1=some r):bH prog 47 [vi n_0,vl aH l_1] (vb r):=by
 refine bd 77 func47 ?_;refine W ?_;refine cm hm (fun hm=>?_) fun hm=>?_
 · exact E
 refine W ?_;refine lp (fun m s=> ∃n_0 l_1 i_5,s=⟨77,(aD (aD (aD fa 0 (vi n_0)) 1 (vl aH l_1)) 5 (vi i_5)),⟨aV,64⟩⟩∧nZ m n_0 l_1 i_5=some r) L ?_;rintro n1 s ⟨n_0,l_1,i_5,rfl,hm⟩;refine W ?_;refine cm hm (fun hm=>?_) fun hm=>?_
 ·
  obtain ⟨x2,h1,hm⟩:=bnd hm;obtain ⟨x4,h3,hm⟩:=bnd hm;have hm:=sb hm h3;obtain ⟨x8,h7,hm⟩:=bnd hm;obtain ⟨x10,h9,hm⟩:=bnd hm;obtain ⟨x12,h11,hm⟩:=bnd hm;refine W ?_;refine cm hm (fun hm=>?_) fun hm=>?_
  · exact E
  obtain ⟨x14,h13,hm⟩:=bnd hm;obtain ⟨x16,h15,hm⟩:=bnd hm;obtain ⟨r18,h17,hm⟩:=bnd hm;refine W ?_;refine cg (fun hb=>aDa (eJ h17 hb)) ?_;refine W ?_;refine cm hm (fun hm=>?_) fun hm=>?_
  · exact E
  exact L
 exact E
instance:Ct prog 47 (K2 prog vi (vl aH) vb 47 nA):=⟨fun hm=>aBq hm⟩
abbrev wG(rec1:List aC→Int→List aC→Int→Option ((List aC)))(l_0:List aC)(cX:Int)(fS:List aC)(i_6:Int):Option ((List aC)):=
 rec1 l_0 cX fS (IntKind.i64.wrap (i_6+1))
def wF(rec1:List aC→Int→List aC→Int→Option ((List aC)))(l_0:List aC)(cX:Int)(fS:List aC)(i_6:Int):Option ((List aC)):=
 (bif (decide (i_6<(l_0.length:Int))) then
  ((idx l_0 i_6).bind fun x2=>
  ((dT ((decide (0<x2.Tier))==true) (aC.mk 0 0 0) (idx l_0 i_6)).bind fun x4=>
  (bif ((decide (0<x2.Tier))&&(decide (x4.Tier≤cX))) then
   ((idx l_0 i_6).bind fun x6=>
   ((app fS [x6]).bind fun l8=>
   wG rec1 l_0 cX l8 i_6))
  else
   wG rec1 l_0 cX fS i_6)))
 else
  some fS)
def mB:Nat→List aC→Int→List aC→Int→Option ((List aC))
 |0=>fun _ _ _ _=>none
 |n+1=>wF (mB n)
def nX(l_0:List aC)(cX:Int):Option ((List aC)):=
 mB aZ l_0 cX [] 0
theorem aEh:K2 prog (vl aH) vi (vl aH) 22 nX:=by
 intro l_0 cX r hm
 let I1:=((fun m s=> ∃l_0 cX fS i_6,s=⟨36,(aD (aD (aD (aD fa 0 (vl aH l_0)) 1 (vi cX)) 5 (.own 1 0 fS.length)) 6 (vi i_6)),⟨(upd aV 1 (.cells 3 (fS.flatMap aH) 0)),64⟩⟩∧mB m l_0 cX fS i_6=some r):Nat→St→Prop)
 exact be 36 func22 (h:=G)
instance:Ct prog 22 (K2 prog (vl aH) vi (vl aH) 22 nX):=⟨aEh⟩
abbrev aFm(rec2:List aC→List Int→Bool→Option ((List Int)))(rec3:List aC→List Int→Bool→Int→Option ((List Int)))(l_1:List aC)(p_5:List Int)(lF:Bool)(i_8:Int):Option ((List Int)):=
 rec3 l_1 p_5 lF (IntKind.i64.wrap (i_8+1))
abbrev aFn(rec2:List aC→List Int→Bool→Option ((List Int)))(rec3:List aC→List Int→Bool→Int→Option ((List Int)))(l_1:List aC)(p_5:List Int)(lF:Bool)(i_8:Int)(a_9:Int)(bJt:Int):Option ((List Int)):=
 (bif (decide (bJt<a_9)) then
  ((idx l_1 i_8).bind fun x12=>
  ((idx p_5 x12.U).bind fun x14=>
  ((stt p_5 x12.U bJt).bind fun l16=>
  aFm rec2 rec3 l_1 l16 true i_8)))
 else
  aFm rec2 rec3 l_1 p_5 lF i_8)
def wB(rec2:List aC→List Int→Bool→Option ((List Int)))(rec3:List aC→List Int→Bool→Int→Option ((List Int)))(l_1:List aC)(p_5:List Int)(lF:Bool)(i_8:Int):Option ((List Int)):=
 (bif (decide (i_8<(l_1.length:Int))) then
  ((idx l_1 i_8).bind fun x4=>
  ((idx p_5 x4.U).bind fun x6=>
  ((idx l_1 i_8).bind fun x8=>
  ((idx p_5 x8.V).bind fun x10=>
  (bif (decide (x6<x10)) then
   ((idx l_1 i_8).bind fun x18=>
   ((idx p_5 x18.V).bind fun x20=>
   ((stt p_5 x18.V x6).bind fun l22=>
   aFn rec2 rec3 l_1 l22 true i_8 x6 x10)))
  else
   aFn rec2 rec3 l_1 p_5 lF i_8 x6 x10)))))
 else
  rec2 l_1 p_5 lF)
def iY(rec2:List aC→List Int→Bool→Option ((List Int))):Nat→List aC→List Int→Bool→Int→Option ((List Int))
 |0=>fun _ _ _ _=>none
 |n+1=>wB rec2 (iY rec2 n)
def wA(rec2:List aC→List Int→Bool→Option ((List Int)))(l_1:List aC)(p_5:List Int)(lF:Bool):Option ((List Int)):=
 (bif lF then
  iY rec2 aZ l_1 p_5 false 0
 else
  some p_5)
def lY:Nat→List aC→List Int→Bool→Option ((List Int))
 |0=>fun _ _ _=>none
 |n+1=>wA (lY n)
def aFl(rec1:Int→List aC→List Int→Int→Option ((List Int)))(n_0:Int)(l_1:List aC)(p_5:List Int)(i_6:Int):Option ((List Int)):=
 (bif (decide (i_6<n_0)) then
  ((app p_5 [i_6]).bind fun l2=>
  rec1 n_0 l_1 l2 (IntKind.i64.wrap (i_6+1)))
 else
  lY aZ l_1 p_5 true)
def wC:Nat→Int→List aC→List Int→Int→Option ((List Int))
 |0=>fun _ _ _ _=>none
 |n+1=>aFl (wC n)
def aAh(n_0:Int)(l_1:List aC):Option ((List Int)):=
 wC aZ n_0 l_1 [] 0
theorem aOh:K2 prog vi (vl aH) (vl (ci .i64)) 21 aAh:=by
 intro n_0 l_1 r hm
 let I1:=((fun m s=> ∃n_0 l_1 p_5 i_6,s=⟨66,(aD (aD (aD (aD fa 0 (vi n_0)) 1 (vl aH l_1)) 5 (.own 1 0 p_5.length)) 6 (vi i_6)),⟨(upd aV 1 (.cells 1 (p_5.flatMap (ci .i64)) 0)),64⟩⟩∧wC m n_0 l_1 p_5 i_6=some r):Nat→St→Prop)
 let I2:=((fun m s=> ∃l_1 p_5 lF,s=⟨66,(aD (aD (aD fa 1 (vl aH l_1)) 5 (.own 1 0 p_5.length)) 7 (vb lF)),⟨(upd aV 1 (.cells 1 (p_5.flatMap (ci .i64)) 0)),64⟩⟩∧lY m l_1 p_5 lF=some r):Nat→St→Prop)
 let I3:=fun (n2:Nat)=>((fun m s=> ∃l_1 p_5 lF i_8,s=⟨66,(aD (aD (aD (aD fa 1 (vl aH l_1)) 5 (.own 1 0 p_5.length)) 7 (vb lF)) 8 (vi i_8)),⟨(upd aV 1 (.cells 1 (p_5.flatMap (ci .i64)) 0)),64⟩⟩∧iY (lY n2) m l_1 p_5 lF i_8=some r):Nat→St→Prop)
 exact be 66 func21 (h:=G)
instance:Ct prog 21 (K2 prog vi (vl aH) (vl (ci .i64)) 21 aAh):=⟨aOh⟩
def kW(bDn:Int):Option (Bool):=
 some ((decide (0≤bDn))&&(decide (bDn≤16)))
theorem aEu:K1 prog vi vb 133 kW:=fun hm=>be 9 func133 (h:=G)
instance:Ct prog 133 (K1 prog vi vb 133 kW):=⟨aEu⟩
def oR(a_0:aC)(b_1:aC):Option (Bool):=
 some ((decide (a_0.U<b_1.U))||((a_0.U==b_1.U)&&(decide (a_0.V<b_1.V))))
theorem aLm:K2 prog xB xB vb 134 oR:=fun hm=>be 24 func134 (h:=G)
instance:Ct prog 134 (K2 prog xB xB vb 134 oR):=⟨aLm⟩
def aA0(rec1:Int→List aC→List aC→Int→Int→Option (Bool))(n_0:Int)(l_1:List aC)(t13:List aC)(t14:Int)(t15:Int):Option (Bool):=
 (bif (decide (t15<t14)) then
  ((idx t13 t15).bind fun x2=>
  ((dT ((((decide (x2.U<0))||(decide (x2.V≤x2.U)))||(decide (n_0≤x2.V)))==false) false (kW x2.Tier)).bind fun r4=>
  (bif ((((decide (x2.U<0))||(decide (x2.V≤x2.U)))||(decide (n_0≤x2.V)))||(!r4)) then
   some false
  else
   ((dT ((decide (0<t15))==true) (aC.mk 0 0 0) (idx l_1 (IntKind.i64.wrap (t15-1)))).bind fun x6=>
   ((dT ((decide (0<t15))==true) false (oR x6 x2)).bind fun r8=>
   (bif ((decide (0<t15))&&(!r8)) then
    some false
   else
    rec1 n_0 l_1 t13 t14 (IntKind.i64.wrap (t15+1))))))))
 else
  some true)
def oG:Nat→Int→List aC→List aC→Int→Int→Option (Bool)
 |0=>fun _ _ _ _ _=>none
 |n+1=>aA0 (oG n)
def fK(n_0:Int)(l_1:List aC):Option (Bool):=
 (bif ((decide (n_0<0))||(decide (1024<n_0))) then
  some false
 else
  oG aZ n_0 l_1 l_1 (l_1.length:Int) 0)
theorem uL:K2 prog vi (vl aH) vb 92 fK:=by
 intro n_0 l_1 r hm
 let I1:=((fun m s=> ∃n_0 l_1 t13 t14 t15,s=⟨55,(aD (aD (aD (aD (aD fa 0 (vi n_0)) 1 (vl aH l_1)) 13 (vl aH t13)) 14 (vi t14)) 15 (vi t15)),⟨aV,64⟩⟩∧oG m n_0 l_1 t13 t14 t15=some r):Nat→St→Prop)
 exact be 55 func92 (h:=G)
instance:Ct prog 92 (K2 prog vi (vl aH) vb 92 fK):=⟨uL⟩
abbrev wW(rec1:Int→List aC→List aC→Int→Int→Option ((List aC)))(wX:Int)(qQ:List aC)(t14:List aC)(t15:Int)(t16:Int):Option ((List aC)):=
 rec1 wX qQ t14 t15 (IntKind.i64.wrap (t16+1))
def wU(rec1:Int→List aC→List aC→Int→Int→Option ((List aC)))(wX:Int)(qQ:List aC)(t14:List aC)(t15:Int)(t16:Int):Option ((List aC)):=
 (bif (decide (t16<t15)) then
  ((idx t14 t16).bind fun x4=>
  (bif ((decide (1≤x4.Tier))&&(decide (x4.Tier≤wX))) then
   ((app qQ [x4]).bind fun l6=>
   wW rec1 wX l6 t14 t15 t16)
  else
   wW rec1 wX qQ t14 t15 t16))
 else
  some qQ)
def mJ:Nat→Int→List aC→List aC→Int→Int→Option ((List aC))
 |0=>fun _ _ _ _ _=>none
 |n+1=>wU (mJ n)
def fX(n_0:Int)(l_1:List aC)(wX:Int):Option ((List aC)):=
 ((fK n_0 l_1).bind fun r2=>
 (bif (!r2) then
  some []
 else
  mJ aZ wX [] l_1 (l_1.length:Int) 0))
theorem aEt:K3 prog vi (vl aH) vi (vl aH) 55 fX:=by
 intro n_0 l_1 wX r hm
 let I1:=((fun m s=> ∃wX qQ t14 t15 t16,s=⟨35,(aD (aD (aD (aD (aD fa 2 (vi wX)) 7 (.own 1 0 qQ.length)) 14 (vl aH t14)) 15 (vi t15)) 16 (vi t16)),⟨(upd aV 1 (.cells 3 (qQ.flatMap aH) 0)),64⟩⟩∧mJ m wX qQ t14 t15 t16=some r):Nat→St→Prop)
 exact be 35 func55 (h:=G)
instance:Ct prog 55 (K3 prog vi (vl aH) vi (vl aH) 55 fX):=⟨aEt⟩
def aBl(rec1:List Int→List Int→Int→Int→Option (Bool))(p_0:List Int)(t5:List Int)(t6:Int)(t7:Int):Option (Bool):=
 (bif (decide (t7<t6)) then
  ((idx t5 t7).bind fun x2=>
  ((eZ (p_0.length:Int) x2).bind fun r4=>
  ((dT (((!r4)||(decide (t7<x2)))==false) 0 (idx p_0 x2)).bind fun x6=>
  (bif (((!r4)||(decide (t7<x2)))||(x6 !=x2)) then
   some false
  else
   rec1 p_0 t5 t6 (IntKind.i64.wrap (t7+1))))))
 else
  some true)
def qY:Nat→List Int→List Int→Int→Int→Option (Bool)
 |0=>fun _ _ _ _=>none
 |n+1=>aBl (qY n)
def jU(p_0:List Int):Option (Bool):=
 qY aZ p_0 p_0 (p_0.length:Int) 0
theorem aD7:K1 prog (vl (ci .i64)) vb 56 jU:=by
 intro p_0 r hm
 let I1:=((fun m s=> ∃p_0 t5 t6 t7,s=⟨31,(aD (aD (aD (aD fa 0 (vl (ci .i64) p_0)) 5 (vl (ci .i64) t5)) 6 (vi t6)) 7 (vi t7)),⟨aV,64⟩⟩∧qY m p_0 t5 t6 t7=some r):Nat→St→Prop)
 exact be 31 func56 (h:=G)
instance:Ct prog 56 (K1 prog (vl (ci .i64)) vb 56 jU):=⟨aD7⟩
abbrev aD5(rec1:Int→List Int→Int→Int→Option (Int))(lD:Int)(t9:List Int)(t10:Int)(t11:Int):Option (Int):=
 rec1 lD t9 t10 (IntKind.i64.wrap (t11+1))
def aD4(rec1:Int→List Int→Int→Int→Option (Int))(lD:Int)(t9:List Int)(t10:Int)(t11:Int):Option (Int):=
 (bif (decide (t11<t10)) then
  ((idx t9 t11).bind fun x4=>
  (bif (t11==x4) then
   aD5 rec1 (IntKind.i64.wrap (lD+1)) t9 t10 t11
  else
   aD5 rec1 lD t9 t10 t11))
 else
  some lD)
def sZ:Nat→Int→List Int→Int→Int→Option (Int)
 |0=>fun _ _ _ _=>none
 |n+1=>aD4 (sZ n)
def vW(p_0:List Int):Option (Int):=
 ((jU p_0).bind fun r2=>
 (bif (!r2) then
  some 0
 else
  sZ aZ 0 p_0 (p_0.length:Int) 0))
theorem aVj:K1 prog (vl (ci .i64)) vi 135 vW:=by
 intro p_0 r hm
 let I1:=((fun m s=> ∃lD t9 t10 t11,s=⟨23,(aD (aD (aD (aD fa 3 (vi lD)) 9 (vl (ci .i64) t9)) 10 (vi t10)) 11 (vi t11)),⟨aV,64⟩⟩∧sZ m lD t9 t10 t11=some r):Nat→St→Prop)
 exact be 23 func135 (h:=G)
instance:Ct prog 135 (K1 prog (vl (ci .i64)) vi 135 vW):=⟨aVj⟩
def jY(n_0:Int)(l_1:List aC):Option (Bool):=
 ((lW n_0 l_1).bind fun ⟨r2,r3⟩=>
 ((dT ((r3==0)==true) 0 (vW r2)).bind fun r5=>
 some ((r3==0)&&(r5==(IntKind.i64.wrap (n_0-(l_1.length:Int)))))))
theorem aGq:K2 prog vi (vl aH) vb 93 jY:=fun hm=>be 24 func93 (h:=G)
instance:Ct prog 93 (K2 prog vi (vl aH) vb 93 jY):=⟨aGq⟩
def wM(rec2:aE→aT→List aC→Int→Int→Option (Bool))(g_1:aE)(c_3:aT)(t70:List aC)(t71:Int)(t72:Int):Option (Bool):=
 (bif (decide (t72<t71)) then
  ((idx t70 t72).bind fun x6=>
  (bif (decide (c_3.L<x6.Tier)) then
   some false
  else
   rec2 g_1 c_3 t70 t71 (IntKind.i64.wrap (t72+1))))
 else
  ((fX c_3.N g_1.Edges c_3.L).bind fun r8=>
  ((jY c_3.N r8).bind fun r10=>
  some r10)))
def mG:Nat→aE→aT→List aC→Int→Int→Option (Bool)
 |0=>fun _ _ _ _ _=>none
 |n+1=>wM (mG n)
def wL(rec1:aE→aT→List bS→Int→Int→Option (Bool))(g_1:aE)(c_3:aT)(t48:List bS)(t49:Int)(t50:Int):Option (Bool):=
 (bif (decide (t50<t49)) then
  ((idx t48 t50).bind fun x2=>
  (bif ((decide (2305843009213693951≤x2.A))||(decide (2305843009213693951≤x2.B))) then
   some false
  else
   rec1 g_1 c_3 t48 t49 (IntKind.i64.wrap (t50+1))))
 else
  ((fK c_3.N g_1.Edges).bind fun r4=>
  (bif (!r4) then
   some false
  else
   mG aZ g_1 c_3 g_1.Edges (g_1.Edges.length:Int) 0)))
def mF:Nat→aE→aT→List bS→Int→Int→Option (Bool)
 |0=>fun _ _ _ _ _=>none
 |n+1=>wL (mF n)
def dC(g_0:aE):Option (Bool):=
 (bif ((((((decide (g_0.Config.N<1))||(decide (1024<g_0.Config.N)))||(decide (g_0.Config.L<1)))||(decide (16<g_0.Config.L)))||(decide (g_0.Config.R<1)))||(decide (8<g_0.Config.R))) then
  some false
 else
  (bif ((g_0.Hashes.length:Int) !=(IntKind.i64.wrap (g_0.Config.L*g_0.Config.R))) then
   some false
  else
   mF aZ g_0 g_0.Config g_0.Hashes (g_0.Hashes.length:Int) 0))
theorem zV:K1 prog bW vb 45 dC:=by
 intro g_0 r hm
 let I1:=((fun m s=> ∃g_1 c_3 t48 t49 t50,s=⟨92,(aD (aD (aD (aD (aD fa 1 (.adr 1 0)) 3 (.adr 2 0)) 48 (vl bC t48)) 49 (vi t49)) 50 (vi t50)),⟨(upd (upd aV 1 (.cells 1 [vi g_1.Config.N,vi g_1.Config.L,vi g_1.Config.R,vl bC g_1.Hashes,vl aH g_1.Edges] 0)) 2 (.cells 1 [vi c_3.N,vi c_3.L,vi c_3.R] 0)),64⟩⟩∧mF m g_1 c_3 t48 t49 t50=some r):Nat→St→Prop)
 let I2:=((fun m s=> ∃g_1 c_3 t70 t71 t72,s=⟨92,(aD (aD (aD (aD (aD fa 1 (.adr 1 0)) 3 (.adr 2 0)) 70 (vl aH t70)) 71 (vi t71)) 72 (vi t72)),⟨(upd (upd aV 1 (.cells 1 [vi g_1.Config.N,vi g_1.Config.L,vi g_1.Config.R,vl bC g_1.Hashes,vl aH g_1.Edges] 0)) 2 (.cells 1 [vi c_3.N,vi c_3.L,vi c_3.R] 0)),64⟩⟩∧mG m g_1 c_3 t70 t71 t72=some r):Nat→St→Prop)
 exact be 92 func45 (h:=G)
instance:Ct prog 45 (K1 prog bW vb 45 dC):=⟨zV⟩
def jV(g_0:aE):Option ((List Int)):=
 ((dC g_0).bind fun r2=>
 (bif (!r2) then
  some []
 else
  ((fX g_0.Config.N g_0.Edges g_0.Config.L).bind fun r4=>
  ((lW g_0.Config.N r4).bind fun ⟨r6,r7⟩=>
  some r6))))
theorem aJl:K1 prog bW (vl (ci .i64)) 20 jV:=fun hm=>be 25 func20 (h:=G)
instance:Ct prog 20 (K1 prog bW (vl (ci .i64)) 20 jV):=⟨aJl⟩
def aBo(rec1:List aC→Int→Int→Int→Option (Int))(l_0:List aC)(u_1:Int)(v_2:Int)(i_7:Int):Option (Int):=
 (bif (decide (i_7<(l_0.length:Int))) then
  ((idx l_0 i_7).bind fun x2=>
  ((dT ((x2.U==u_1)==true) (aC.mk 0 0 0) (idx l_0 i_7)).bind fun x4=>
  ((dT (((x2.U==u_1)&&(x4.V==v_2))==false) (aC.mk 0 0 0) (idx l_0 i_7)).bind fun x6=>
  ((dT ((((x2.U==u_1)&&(x4.V==v_2))==false)&&((x6.U==v_2)==true)) (aC.mk 0 0 0) (idx l_0 i_7)).bind fun x8=>
  (bif (((x2.U==u_1)&&(x4.V==v_2))||((x6.U==v_2)&&(x8.V==u_1))) then
   some i_7
  else
   rec1 l_0 u_1 v_2 (IntKind.i64.wrap (i_7+1)))))))
 else
  some (-1))
def qZ:Nat→List aC→Int→Int→Int→Option (Int)
 |0=>fun _ _ _ _=>none
 |n+1=>aBo (qZ n)
def lZ(l_0:List aC)(u_1:Int)(v_2:Int):Option (Int):=
 qZ aZ l_0 u_1 v_2 0
theorem yL{l_0:List aC}{u_1:Int}{v_2:Int}{r:Int}(hm:lZ l_0 u_1 v_2=some r):bH prog 23 [vl aH l_0,vi u_1,vi v_2] (vi r):=by
 refine bd 49 func23 ?_;refine W ?_;refine lp (fun m s=> ∃l_0 u_1 v_2 i_7,s=⟨49,(aD (aD (aD (aD fa 0 (vl aH l_0)) 1 (vi u_1)) 2 (vi v_2)) 7 (vi i_7)),⟨aV,64⟩⟩∧qZ m l_0 u_1 v_2 i_7=some r) L ?_;rintro n1 s ⟨l_0,u_1,v_2,i_7,rfl,hm⟩;refine W ?_;refine cm hm (fun hm=>?_) fun hm=>?_
 ·
  obtain ⟨x2,h1,hm⟩:=bnd hm;obtain ⟨x4,h3,hm⟩:=bnd hm;obtain ⟨x6,h5,hm⟩:=bnd hm;obtain ⟨x8,h7,hm⟩:=bnd hm;refine W ?_;refine cm hm (fun hm=>?_) fun hm=>?_
  · exact E
  exact L
 exact E
instance:Ct prog 23 (K3 prog (vl aH) vi vi vi 23 lZ):=⟨fun hm=>yL hm⟩
def vX(rec1:List Int→List Int→Int→Int→Option (Bool))(q_1:List Int)(t22:List Int)(t23:Int)(t24:Int):Option (Bool):=
 (bif (decide (t24<t23)) then
  ((idx t22 t24).bind fun x6=>
  ((idx q_1 t24).bind fun x8=>
  ((idx q_1 x6).bind fun x10=>
  (bif (x8 !=x10) then
   some false
  else
   rec1 q_1 t22 t23 (IntKind.i64.wrap (t24+1))))))
 else
  some true)
def lX:Nat→List Int→List Int→Int→Int→Option (Bool)
 |0=>fun _ _ _ _=>none
 |n+1=>vX (lX n)
def kR(p_0:List Int)(q_1:List Int):Option (Bool):=
 ((jU p_0).bind fun r2=>
 ((dT ((!r2)==false) false (jU q_1)).bind fun r4=>
 (bif (((!r2)||(!r4))||((p_0.length:Int) !=(q_1.length:Int))) then
  some false
 else
  lX aZ q_1 p_0 (p_0.length:Int) 0)))
theorem aEg{p_0:List Int}{q_1:List Int}{r:Bool}(hm:kR p_0 q_1=some r):bH prog 24 [vl (ci .i64) p_0,vl (ci .i64) q_1] (vb r):=by
 refine bd 39 func24 ?_;obtain ⟨r2,h1,hm⟩:=bnd hm;refine W ?_;refine cq (aD7 h1) ?_;obtain ⟨r4,h3,hm⟩:=bnd hm;refine W ?_;refine cg (fun hb=>aD7 (eJ h3 hb)) ?_;refine W ?_;refine cm hm (fun hm=>?_) fun hm=>?_
 · exact E
 refine W ?_;refine lp (fun m s=> ∃q_1 t22 t23 t24,s=⟨39,(aD (aD (aD (aD fa 1 (vl (ci .i64) q_1)) 22 (vl (ci .i64) t22)) 23 (vi t23)) 24 (vi t24)),⟨aV,64⟩⟩∧lX m q_1 t22 t23 t24=some r) L ?_;rintro n1 s ⟨q_1,t22,t23,t24,rfl,hm⟩;refine W ?_;refine cm hm (fun hm=>?_) fun hm=>?_
 ·
  obtain ⟨x6,h5,hm⟩:=bnd hm;obtain ⟨x8,h7,hm⟩:=bnd hm;obtain ⟨x10,h9,hm⟩:=bnd hm;refine W ?_;refine cm hm (fun hm=>?_) fun hm=>?_
  · exact E
  exact L
 exact E
instance:Ct prog 24 (K2 prog (vl (ci .i64)) (vl (ci .i64)) vb 24 kR):=⟨fun hm=>aEg hm⟩
def aA6(g_0:aE):Option ((List Int)):=
 ((dC g_0).bind fun r2=>
 (bif (!r2) then
  some []
 else
  ((lW g_0.Config.N g_0.Edges).bind fun ⟨r4,r5⟩=>
  some r4)))
theorem aX9:K1 prog bW (vl (ci .i64)) 58 aA6:=fun hm=>be 18 func58 (h:=G)
instance:Ct prog 58 (K1 prog bW (vl (ci .i64)) 58 aA6):=⟨aX9⟩
def rI(rec1:List Int→List Int→Int→Int→Option (Bool))(aNc:List Int)(aQf:List Int)(t12:Int)(t13:Int):Option (Bool):=
 (bif (decide (t13<t12)) then
  ((idx aNc t13).bind fun x2=>
  ((idx aQf t13).bind fun x4=>
  (bif (x2 !=x4) then
   some false
  else
   rec1 aNc aQf t12 (IntKind.i64.wrap (t13+1)))))
 else
  some true)
def iU:Nat→List Int→List Int→Int→Int→Option (Bool)
 |0=>fun _ _ _ _=>none
 |n+1=>rI (iU n)
def jO(aNc:List Int)(aQf:List Int):Option (Bool):=
 (bif ((aNc.length:Int) !=(aQf.length:Int)) then
  some false
 else
  iU aZ aNc aQf (aNc.length:Int) 0)
theorem aIl:K2 prog (vl (ci .i64)) (vl (ci .i64)) vb 57 jO:=by
 intro aNc aQf r hm
 let I1:=((fun m s=> ∃aNc aQf t12 t13,s=⟨26,(aD (aD (aD (aD fa 0 (vl (ci .i64) aNc)) 1 (vl (ci .i64) aQf)) 12 (vi t12)) 13 (vi t13)),⟨aV,64⟩⟩∧iU m aNc aQf t12 t13=some r):Nat→St→Prop)
 exact be 26 func57 (h:=G)
instance:Ct prog 57 (K2 prog (vl (ci .i64)) (vl (ci .i64)) vb 57 jO):=⟨aIl⟩
def mR(g_0:aE):Option (Bool):=
 ((dC g_0).bind fun r2=>
 ((dT (r2==true) [] (jV g_0)).bind fun r4=>
 ((dT (r2==true) [] (aA6 g_0)).bind fun r6=>
 ((dT (r2==true) false (jO r4 r6)).bind fun r8=>
 some (r2&&r8)))))
theorem aG7:K1 prog bW vb 25 mR:=fun hm=>be 12 func25 (h:=G)
instance:Ct prog 25 (K1 prog bW vb 25 mR):=⟨aG7⟩
def eA(l:List bS):Option (List bS):=aP6 16 [] l
theorem aFs{r:List bS}(hm:some []=some r):dD prog 75 [.v (.slice none 0 0)] 2 (r.flatMap bC) r.length:=by
 refine dD.of_body func75 rfl (jW.fmdat r) ?_;simp only [ntmps75,List.length_cons,List.length_nil,Nat.reduceAdd,Nat.reduceSub,eE];refine sN 64 (pA ?_);refine fs (AWp.seq' (sN 128 (pA ?_)));refine pu rfl (tE Z1 Z1 (aG4 underlying27)) ?_;refine fs (AWp.condT Z1 ?_);refine sN 192 (pA ?_);refine fs (AWp.weaken (oP 2 900002 2 Z1 Z5) ?_);refine AWp.ret (gD ?_);cases hm;exact aH6 (.inr rfl) Tryz.results75 Z1 Z3 Z6
theorem aFt{a:Addr}{c:Nat}{r:List bS}(hm:((aP6 16 [] []).bind fun l2=>
some l2)=some r):dD prog 75 [.v (.slice (some a) 0 c)] 2 (r.flatMap bC) r.length:=by
 refine dD.of_body func75 rfl (jW.fmdat r) ?_;simp only [ntmps75,List.length_cons,List.length_nil,Nat.reduceAdd,Nat.reduceSub,eE];refine sN 64 (pA ?_);refine fs (AWp.seq' (sN 128 (pA ?_)));refine pu rfl (tE Z1 Z1 (aDs underlying27)) ?_;refine fs (AWp.condF Z1 ?_);refine AWp.skip (bI (sN 192 (hp (id:=128) rfl rfl (gV jW (l:=[]) underlying27 bGk bGw Z5 Zd Zd Zd (by simp only [go_sem,Nat.reduceBEq];try rfl) (by kernel_rfl)) ?_)));refine pA ?_;obtain ⟨l2,h1,hm⟩:=bnd hm;refine hp (id:=130) rfl rfl (aW3 jW underlying27 underlying27 rfl bIg bJc bA7 (by rw [bA7];decide) bJg Zd Zd Z1 Z3 Z6 (aKc Z1) rfl Z5 h1) ?_;refine pA ?_;refine fs (AWp.ret ?_);cases hm;exact aH6 (.inr rfl) Tryz.results75 Z1 Z3 Z6
theorem aFu{x0:bS}{l0:List bS}{r:List bS}(hm:((aP6 16 [] (x0::l0)).bind fun l2=>
some l2)=some r):dD prog 75 [.sl ((x0::l0).flatMap bC) (x0::l0).length false] 2 (r.flatMap bC) r.length:=by
 refine dD.of_body func75 rfl (jW.fmdat r) ?_;simp only [ntmps75,List.length_cons,List.length_nil,Nat.reduceAdd,Nat.reduceSub,eE];refine sN 64 (pA ?_);refine fs (AWp.seq' (sN 128 (pA ?_)));refine pu rfl (tE Z1 Z1 (aDr underlying27 (by simp))) ?_;refine fs (AWp.condF Z1 ?_);refine AWp.skip (bI (sN 192 (hp (id:=128) rfl rfl (gV jW (l:=[]) underlying27 bGk bGw Z5 Zd Zd Zd (by simp only [go_sem,Nat.reduceBEq];try rfl) (by kernel_rfl)) ?_)));refine pA ?_;obtain ⟨l2,h1,hm⟩:=bnd hm;refine hp (id:=130) rfl rfl (aW3 jW underlying27 underlying27 rfl bIg bJc bA7 (by rw [bA7];decide) bJg Zd Zd Z1 Z3 Z6 (aNu jW Z1 rfl) rfl Z5 h1) ?_;refine pA ?_;refine fs (AWp.ret ?_);cases hm;exact aH6 (.inr rfl) Tryz.results75 Z1 Z3 Z6
theorem aHh{l r:List bS}(hm:eA l=some r):dD prog 75 [.sl (l.flatMap bC) l.length false] 2 (r.flatMap bC) r.length:=by
 cases l with
 |nil=>
  have hr:r=[]:=by unfold eA aP6 at hm;simpa using hm.symm
  subst hr;exact dD.nil_arg (aFs (r:=[]) rfl) (fun a c=>aFt (r:=[]) rfl)
 |cons x0 l0=>
  refine aFu ?_;show (aP6 16 [] (x0::l0)).bind _=_;unfold eA at hm;rw [hm];rfl
theorem aHg{l r:List bS}(hm:eA l=some r):bH prog 75 [.sl (l.flatMap bC) l.length false] (.sl (r.flatMap bC) r.length false):=bH.of_fresh jW (aHh hm)
instance:Ct prog 75 (K1 prog (vl bC) (vl bC) 75 eA):=⟨fun hm=>aHg hm⟩
def sF(c_0:aT)(lR:List bS):Option (aE×Int):=
 ((eA lR).bind fun r2=>
 ((dC (aE.mk c_0 r2 [])).bind fun r4=>
 (bif (!r4) then
  some ((aE.mk (aT.mk 0 0 0) [] []),1)
 else
  some ((aE.mk c_0 r2 []),0))))
theorem aFz:K2 prog aAl (vl bC) (t2 bW vi) 34 sF:=fun hm=>be 16 func34 (h:=G)
instance:Ct prog 34 (K2 prog aAl (vl bC) (t2 bW vi) 34 sF):=⟨aFz⟩
def pZ(n_0:Int)(v_1:Int):Option (Bool):=
 some ((decide (0≤v_1))&&(decide (v_1<n_0)))
theorem aAi{n_0:Int}{v_1:Int}{r:Bool}(hm:pZ n_0 v_1=some r):bH prog 101 [vi n_0,vi v_1] (vb r):=by
 refine bd 12 func101 ?_;exact E
instance:Ct prog 101 (K2 prog vi vi vb 101 pZ):=⟨fun hm=>aAi hm⟩
def nY(n_0:Int)(l_1:List aC)(u_2:Int)(v_3:Int):Option ((List aC)×Int):=
 ((nA n_0 l_1).bind fun r2=>
 ((dT ((!r2)==false) false (pZ n_0 u_2)).bind fun r4=>
 ((dT (((!r2)||(!r4))==false) false (pZ n_0 v_3)).bind fun r6=>
 (bif (((!r2)||(!r4))||(!r6)) then
  some (l_1,1)
 else
  ((lZ l_1 u_2 v_3).bind fun r8=>
  (bif (decide (r8<0)) then
   some (l_1,9)
  else
   ((slc l_1 0 r8).bind fun l10=>
   ((app [] l10).bind fun l12=>
   ((slc l_1 (IntKind.i64.wrap (r8+1)) (l_1.length:Int)).bind fun l14=>
   ((app l12 l14).bind fun l16=>
   some (l16,0)))))))))))
theorem aEi{n_0:Int}{l_1:List aC}{u_2:Int}{v_3:Int}{r:(List aC)×Int}(hm:nY n_0 l_1 u_2 v_3=some r):bH prog 51 [vi n_0,vl aH l_1,vi u_2,vi v_3] (.tup [vl aH r.1,vi r.2]):=by
 refine bd 49 func51 ?_;obtain ⟨r2,h1,hm⟩:=bnd hm;refine W ?_;refine cq (aBq h1) ?_;obtain ⟨r4,h3,hm⟩:=bnd hm;refine W ?_;refine cg (fun hb=>aAi (eJ h3 hb)) ?_;obtain ⟨r6,h5,hm⟩:=bnd hm;refine W ?_;refine cg (fun hb=>aAi (eJ h5 hb)) ?_;refine W ?_;refine cm hm (fun hm=>?_) fun hm=>?_
 · exact E
 obtain ⟨r8,h7,hm⟩:=bnd hm;refine W ?_;refine cq (yL h7) ?_;refine W ?_;refine cm hm (fun hm=>?_) fun hm=>?_
 · exact E
 obtain ⟨l10,h9,hm⟩:=bnd hm;obtain ⟨l12,h11,hm⟩:=bnd hm;obtain ⟨l14,h13,hm⟩:=bnd hm;obtain ⟨l16,h15,hm⟩:=bnd hm;exact E
instance:Ct prog 51 (K4 prog vi (vl aH) vi vi (t2 (vl aH) vi) 51 nY):=⟨fun hm=>aEi hm⟩
def aDb(rec1:List aC→aC→List aC→Int→Option ((List aC)×Int))(l_1:List aC)(aNp:aC)(aFi:List aC)(aL8:Int):Option ((List aC)×Int):=
 ((dT ((decide (aL8<(l_1.length:Int)))==true) (aC.mk 0 0 0) (idx l_1 aL8)).bind fun x10=>
 ((dT ((decide (aL8<(l_1.length:Int)))==true) false (pU x10 aNp)).bind fun r12=>
 (bif ((decide (aL8<(l_1.length:Int)))&&r12) then
  ((idx l_1 aL8).bind fun x14=>
  ((app aFi [x14]).bind fun l16=>
  rec1 l_1 aNp l16 (IntKind.i64.wrap (aL8+1))))
 else
  ((app aFi [aNp]).bind fun l18=>
  ((slc l_1 aL8 (l_1.length:Int)).bind fun l20=>
  ((app l18 l20).bind fun l22=>
  some (l22,0)))))))
def pY:Nat→List aC→aC→List aC→Int→Option ((List aC)×Int)
 |0=>fun _ _ _ _=>none
 |n+1=>aDb (pY n)
abbrev yK(l_1:List aC)(u_2:Int)(v_3:Int):Option ((List aC)×Int):=
 pY aZ l_1 (aC.mk u_2 v_3 0) [] 0
def wE(n_0:Int)(l_1:List aC)(u_2:Int)(v_3:Int):Option ((List aC)×Int):=
 ((nA n_0 l_1).bind fun r2=>
 ((dT ((!r2)==false) false (pZ n_0 u_2)).bind fun r4=>
 ((dT (((!r2)||(!r4))==false) false (pZ n_0 v_3)).bind fun r6=>
 (bif (((!r2)||(!r4))||(!r6)) then
  some (l_1,1)
 else
  (bif (u_2==v_3) then
   some (l_1,8)
  else
   ((lZ l_1 u_2 v_3).bind fun r8=>
   (bif (decide (0≤r8)) then
    some (l_1,4)
   else
    (bif (decide (v_3<u_2)) then
     yK l_1 v_3 u_2
    else
     yK l_1 u_2 v_3))))))))
theorem aLy{n_0:Int}{l_1:List aC}{u_2:Int}{v_3:Int}{r:(List aC)×Int}(hm:wE n_0 l_1 u_2 v_3=some r):bH prog 53 [vi n_0,vl aH l_1,vi u_2,vi v_3] (.tup [vl aH r.1,vi r.2]):=by
 refine bd 80 func53 ?_;obtain ⟨r2,h1,hm⟩:=bnd hm;refine W ?_;refine cq (aBq h1) ?_;obtain ⟨r4,h3,hm⟩:=bnd hm;refine W ?_;refine cg (fun hb=>aAi (eJ h3 hb)) ?_;obtain ⟨r6,h5,hm⟩:=bnd hm;refine W ?_;refine cg (fun hb=>aAi (eJ h5 hb)) ?_;refine W ?_;refine cm hm (fun hm=>?_) fun hm=>?_
 · exact E
 refine W ?_;refine cm hm (fun hm=>?_) fun hm=>?_
 · exact E
 obtain ⟨r8,h7,hm⟩:=bnd hm;refine W ?_;refine cq (yL h7) ?_;refine W ?_;refine cm hm (fun hm=>?_) fun hm=>?_
 · exact E
 refine V ?_;refine AWp.seqJ (fun s=> ∃l_1 u_2 v_3,s=⟨80,(aD (aD (aD fa 1 (vl aH l_1)) 2 (vi u_2)) 3 (vi v_3)),⟨aV,64⟩⟩∧yK l_1 u_2 v_3=some r) ?_ ?_
 ·
  refine W ?_;refine cm hm (fun hm=>?_) fun hm=>?_
  · exact L
  exact L
 rintro s ⟨l_1,u_2,v_3,rfl,hm⟩;refine W ?_;refine bU (.agg [vi u_2,vi v_3,vi 0]) ?_;refine W ?_;refine lp (fun m s=> ∃l_1 aNp aFi aL8,s=⟨80,(aD (aD (aD (aD fa 1 (vl aH l_1)) 11 (.adr 1 0)) 12 (.own 2 0 aFi.length)) 13 (vi aL8)),⟨(upd (upd aV 1 (.cells 1 [vi aNp.U,vi aNp.V,vi aNp.Tier] 0)) 2 (.cells 3 (aFi.flatMap aH) 0)),64⟩⟩∧pY m l_1 aNp aFi aL8=some r) ?_ ?_
 · refine ⟨_,?_,l_1,(aC.mk u_2 v_3 0),[],0,rfl,hm⟩;refine St.Le.trans (oP 12 900012 3 Z1 Z5) ?_;exact cn (fun j=>bif j==1 then 67 else bif j==2 then 900012 else 0)
 rintro n1 s ⟨l_1,aNp,aFi,aL8,rfl,hm⟩;obtain ⟨x10,h9,hm⟩:=bnd hm;obtain ⟨r12,h11,hm⟩:=bnd hm;refine W ?_;refine cg (fun hb=>aDa (eJ h11 hb)) ?_;refine W ?_;refine cm hm (fun hm=>?_) fun hm=>?_
 · obtain ⟨x14,h13,hm⟩:=bnd hm;refine W ?_;refine aL bJ [x14] ?_;obtain ⟨l16,h15,hm⟩:=bnd hm;refine W ?_;exact Lr (fun j=>bif j==1 then 1 else bif j==2 then 134 else 0)
 refine W ?_;refine aL bJ [aNp] ?_;obtain ⟨l18,h17,hm⟩:=bnd hm;obtain ⟨l20,h19,hm⟩:=bnd hm;obtain ⟨l22,h21,hm⟩:=bnd hm;exact E
instance:Ct prog 53 (K4 prog vi (vl aH) vi vi (t2 (vl aH) vi) 53 wE):=⟨fun hm=>aLy hm⟩
def aCw(rec1:Int→Int→List aC→Int→Int→Option (Int×Bool))(u_1:Int)(v_2:Int)(t10:List aC)(t11:Int)(t12:Int):Option (Int×Bool):=
 (bif (decide (t12<t11)) then
  ((idx t10 t12).bind fun x2=>
  (bif (((x2.U==u_1)&&(x2.V==v_2))||((x2.U==v_2)&&(x2.V==u_1))) then
   some (t12,true)
  else
   rec1 u_1 v_2 t10 t11 (IntKind.i64.wrap (t12+1))))
 else
  some (0,false))
def sY:Nat→Int→Int→List aC→Int→Int→Option (Int×Bool)
 |0=>fun _ _ _ _ _=>none
 |n+1=>aCw (sY n)
def kB(l_0:List aC)(u_1:Int)(v_2:Int):Option (Int×Bool):=
 sY aZ u_1 v_2 l_0 (l_0.length:Int) 0
theorem aBh:K3 prog (vl aH) vi vi (t2 vi vb) 80 kB:=by
 intro l_0 u_1 v_2 r hm
 let I1:=((fun m s=> ∃u_1 v_2 t10 t11 t12,s=⟨41,(aD (aD (aD (aD (aD fa 1 (vi u_1)) 2 (vi v_2)) 10 (vl aH t10)) 11 (vi t11)) 12 (vi t12)),⟨aV,64⟩⟩∧sY m u_1 v_2 t10 t11 t12=some r):Nat→St→Prop)
 exact be 41 func80 (h:=G)
instance:Ct prog 80 (K3 prog (vl aH) vi vi (t2 vi vb) 80 kB):=⟨aBh⟩
abbrev aBk(rec1:List Int→Int→List Int→List Int→Int→Int→Option ((List Int)))(p_0:List Int)(v_1:Int)(uC:List Int)(t18:List Int)(t19:Int)(t20:Int):Option ((List Int)):=
 rec1 p_0 v_1 uC t18 t19 (IntKind.i64.wrap (t20+1))
def aBj(rec1:List Int→Int→List Int→List Int→Int→Int→Option ((List Int)))(p_0:List Int)(v_1:Int)(uC:List Int)(t18:List Int)(t19:Int)(t20:Int):Option ((List Int)):=
 (bif (decide (t20<t19)) then
  ((idx t18 t20).bind fun x6=>
  ((idx p_0 v_1).bind fun x8=>
  (bif (x6==x8) then
   ((app uC [t20]).bind fun l10=>
   aBk rec1 p_0 v_1 l10 t18 t19 t20)
  else
   aBk rec1 p_0 v_1 uC t18 t19 t20)))
 else
  some uC)
def qX:Nat→List Int→Int→List Int→List Int→Int→Int→Option ((List Int))
 |0=>fun _ _ _ _ _ _=>none
 |n+1=>aBj (qX n)
def lV(p_0:List Int)(v_1:Int):Option ((List Int)):=
 ((jU p_0).bind fun r2=>
 ((dT ((!r2)==false) false (eZ (p_0.length:Int) v_1)).bind fun r4=>
 (bif ((!r2)||(!r4)) then
  some []
 else
  qX aZ p_0 v_1 [] p_0 (p_0.length:Int) 0)))
theorem aSg:K2 prog (vl (ci .i64)) vi (vl (ci .i64)) 84 lV:=by
 intro p_0 v_1 r hm
 let I1:=((fun m s=> ∃p_0 v_1 uC t18 t19 t20,s=⟨37,(aD (aD (aD (aD (aD (aD fa 0 (vl (ci .i64) p_0)) 1 (vi v_1)) 5 (.own 1 0 uC.length)) 18 (vl (ci .i64) t18)) 19 (vi t19)) 20 (vi t20)),⟨(upd aV 1 (.cells 1 (uC.flatMap (ci .i64)) 0)),64⟩⟩∧qX m p_0 v_1 uC t18 t19 t20=some r):Nat→St→Prop)
 exact be 37 func84 (h:=G)
instance:Ct prog 84 (K2 prog (vl (ci .i64)) vi (vl (ci .i64)) 84 lV):=⟨aSg⟩
def yH(n_0:Int):Option (Int):=
 some (Int.tmod n_0 2305843009213693951)
theorem bGd:K1 prog vu vu 130 yH:=fun hm=>be 5 func130 (h:=G)
instance:Ct prog 130 (K1 prog vu vu 130 yH):=⟨bGd⟩
def aGv(a_0:Int)(b_1:Int):Option (Int):=
 ((yH a_0).bind fun r2=>
 ((yH b_1).bind fun r4=>
 some (Int.tmod (IntKind.u64.wrap (r2+r4)) 2305843009213693951)))
theorem bCq:K2 prog vu vu vu 89 aGv:=fun hm=>be 11 func89 (h:=G)
instance:Ct prog 89 (K2 prog vu vu vu 89 aGv):=⟨bCq⟩
def sQ(x_0:Int)(y_1:Int):Option (Int×Int):=
 some ((IntKind.u64.wrap ((IntKind.u64.wrap ((IntKind.u64.wrap ((shr .u64 x_0 32)*(shr .u64 y_1 32)))+(shr .u64 (IntKind.u64.wrap ((IntKind.u64.wrap ((shr .u64 x_0 32)*(aE5 .u64 y_1 4294967295)))+(shr .u64 (IntKind.u64.wrap ((aE5 .u64 x_0 4294967295)*(aE5 .u64 y_1 4294967295))) 32))) 32)))+(shr .u64 (IntKind.u64.wrap ((aE5 .u64 (IntKind.u64.wrap ((IntKind.u64.wrap ((shr .u64 x_0 32)*(aE5 .u64 y_1 4294967295)))+(shr .u64 (IntKind.u64.wrap ((aE5 .u64 x_0 4294967295)*(aE5 .u64 y_1 4294967295))) 32))) 4294967295)+(IntKind.u64.wrap ((aE5 .u64 x_0 4294967295)*(shr .u64 y_1 32))))) 32))),(IntKind.u64.wrap (x_0*y_1)))
theorem aRi:K2 prog vu vu (t2 vu vu) 131 sQ:=fun hm=>be 51 func131 (h:=G)
instance:Ct prog 131 (K2 prog vu vu (t2 vu vu) 131 sQ):=⟨aRi⟩
abbrev aGc(x_0:Int)(n_2:Int):Option (Int):=
 ((bDi bBc (IntKind.u8.wrap x_0)).bind fun b2=>
 some (IntKind.i64.wrap (n_2+(IntKind.i64.wrap b2))))
abbrev aGb(x_0:Int)(n_2:Int):Option (Int):=
 (bif (decide (256≤x_0)) then
  aGc (shr .u64 x_0 8) (IntKind.i64.wrap (n_2+8))
 else
  aGc x_0 n_2)
abbrev aGa(x_0:Int)(n_2:Int):Option (Int):=
 (bif (decide (65536≤x_0)) then
  aGb (shr .u64 x_0 16) (IntKind.i64.wrap (n_2+16))
 else
  aGb x_0 n_2)
def xP(x_0:Int):Option (Int):=
 (bif (decide (4294967296≤x_0)) then
  aGa (shr .u64 x_0 32) 32
 else
  aGa x_0 0)
theorem aIz:K1 prog vu vi 203 xP:=fun hm=>be 25 func203 (h:=G)
instance:Ct prog 203 (K1 prog vu vi 203 xP):=⟨aIz⟩
def iN(x_0:Int):Option (Int):=
 ((xP x_0).bind fun r2=>
 some (IntKind.i64.wrap (64-r2)))
theorem sP:K1 prog vu vi 212 iN:=fun hm=>be 6 func212 (h:=G)
instance:Ct prog 212 (K1 prog vu vi 212 iN):=⟨sP⟩
abbrev qL(y_2:Int)(s_8:Int)(fO:Int)(gS:Int)(nE:Int)(tW:Int):Option (Int×Int):=
 ((chk (decide (0≤s_8))).bind fun _=>
 some ((IntKind.u64.wrap ((IntKind.u64.wrap (gS*4294967296))+tW)),(shr .u64 (IntKind.u64.wrap ((IntKind.u64.wrap ((IntKind.u64.wrap (nE*4294967296))+fO))-(IntKind.u64.wrap (tW*y_2)))) s_8)))
def aAu(rec1:Int→Int→Int→Int→Int→Int→Int→Int→Int→Option (Int×Int))(y_2:Int)(s_8:Int)(jS:Int)(jB:Int)(fO:Int)(gS:Int)(kC:Int)(nE:Int)(tW:Int):Option (Int×Int):=
 (bif ((decide (4294967296≤tW))||(decide ((IntKind.u64.wrap ((IntKind.u64.wrap (4294967296*kC))+fO))<(IntKind.u64.wrap (tW*jB))))) then
  (bif (decide (4294967296≤(IntKind.u64.wrap (kC+jS)))) then
   qL y_2 s_8 fO gS nE (IntKind.u64.wrap (tW-1))
  else
   rec1 y_2 s_8 jS jB fO gS (IntKind.u64.wrap (kC+jS)) nE (IntKind.u64.wrap (tW-1)))
 else
  qL y_2 s_8 fO gS nE tW)
def mT:Nat→Int→Int→Int→Int→Int→Int→Int→Int→Int→Option (Int×Int)
 |0=>fun _ _ _ _ _ _ _ _ _=>none
 |n+1=>aAu (mT n)
abbrev mS(y_2:Int)(s_8:Int)(jS:Int)(jB:Int)(jE:Int)(mO:Int)(fO:Int)(gS:Int):Option (Int×Int):=
 ((chk (jS !=0)).bind fun _=>
 mT aZ y_2 s_8 jS jB fO gS (IntKind.u64.wrap ((IntKind.u64.wrap ((IntKind.u64.wrap ((IntKind.u64.wrap (jE*4294967296))+mO))-(IntKind.u64.wrap (gS*y_2))))-(IntKind.u64.wrap ((IntKind.u64.wrap (Int.tdiv (IntKind.u64.wrap ((IntKind.u64.wrap ((IntKind.u64.wrap (jE*4294967296))+mO))-(IntKind.u64.wrap (gS*y_2)))) jS))*jS)))) (IntKind.u64.wrap ((IntKind.u64.wrap ((IntKind.u64.wrap (jE*4294967296))+mO))-(IntKind.u64.wrap (gS*y_2)))) (IntKind.u64.wrap (Int.tdiv (IntKind.u64.wrap ((IntKind.u64.wrap ((IntKind.u64.wrap (jE*4294967296))+mO))-(IntKind.u64.wrap (gS*y_2)))) jS)))
def aAv(rec2:Int→Int→Int→Int→Int→Int→Int→Int→Int→Option (Int×Int))(y_2:Int)(s_8:Int)(jS:Int)(jB:Int)(jE:Int)(mO:Int)(fO:Int)(gS:Int)(kC:Int):Option (Int×Int):=
 (bif ((decide (4294967296≤gS))||(decide ((IntKind.u64.wrap ((IntKind.u64.wrap (4294967296*kC))+mO))<(IntKind.u64.wrap (gS*jB))))) then
  (bif (decide (4294967296≤(IntKind.u64.wrap (kC+jS)))) then
   mS y_2 s_8 jS jB jE mO fO (IntKind.u64.wrap (gS-1))
  else
   rec2 y_2 s_8 jS jB jE mO fO (IntKind.u64.wrap (gS-1)) (IntKind.u64.wrap (kC+jS)))
 else
  mS y_2 s_8 jS jB jE mO fO gS)
def mU:Nat→Int→Int→Int→Int→Int→Int→Int→Int→Int→Option (Int×Int)
 |0=>fun _ _ _ _ _ _ _ _ _=>none
 |n+1=>aAv (mU n)
abbrev aAx(vP:Int)(tJ:Int)(y_2:Int):Option (Int×Int):=
 (bif (vP==0) then
  ((chk (y_2 !=0)).bind fun _=>
  ((chk (y_2 !=0)).bind fun _=>
  some ((IntKind.u64.wrap (Int.tdiv tJ y_2)),(Int.tmod tJ y_2))))
 else
  ((iN y_2).bind fun r4=>
  ((chk (decide (0≤(IntKind.u64.wrap r4)))).bind fun _=>
  ((chk (decide (0≤(IntKind.u64.wrap r4)))).bind fun _=>
  ((chk (decide (0≤(IntKind.u64.wrap (64-(IntKind.u64.wrap r4)))))).bind fun _=>
  ((chk (decide (0≤(IntKind.u64.wrap r4)))).bind fun _=>
  ((chk ((shr .u64 (shl .u64 y_2 (IntKind.u64.wrap r4)) 32) !=0)).bind fun _=>
  mU aZ (shl .u64 y_2 (IntKind.u64.wrap r4)) (IntKind.u64.wrap r4) (shr .u64 (shl .u64 y_2 (IntKind.u64.wrap r4)) 32) (aE5 .u64 (shl .u64 y_2 (IntKind.u64.wrap r4)) 4294967295) (bor .u64 (shl .u64 vP (IntKind.u64.wrap r4)) (shr .u64 tJ (IntKind.u64.wrap (64-(IntKind.u64.wrap r4))))) (shr .u64 (shl .u64 tJ (IntKind.u64.wrap r4)) 32) (aE5 .u64 (shl .u64 tJ (IntKind.u64.wrap r4)) 4294967295) (IntKind.u64.wrap (Int.tdiv (bor .u64 (shl .u64 vP (IntKind.u64.wrap r4)) (shr .u64 tJ (IntKind.u64.wrap (64-(IntKind.u64.wrap r4))))) (shr .u64 (shl .u64 y_2 (IntKind.u64.wrap r4)) 32))) (IntKind.u64.wrap ((bor .u64 (shl .u64 vP (IntKind.u64.wrap r4)) (shr .u64 tJ (IntKind.u64.wrap (64-(IntKind.u64.wrap r4)))))-(IntKind.u64.wrap ((IntKind.u64.wrap (Int.tdiv (bor .u64 (shl .u64 vP (IntKind.u64.wrap r4)) (shr .u64 tJ (IntKind.u64.wrap (64-(IntKind.u64.wrap r4))))) (shr .u64 (shl .u64 y_2 (IntKind.u64.wrap r4)) 32)))*(shr .u64 (shl .u64 y_2 (IntKind.u64.wrap r4)) 32))))))))))))
abbrev aAw(vP:Int)(tJ:Int)(y_2:Int):Option (Int×Int):=
 (bif (decide (y_2≤vP)) then
  none
 else
  aAx vP tJ y_2)
def sO(vP:Int)(tJ:Int)(y_2:Int):Option (Int×Int):=
 (bif (y_2==0) then
  none
 else
  aAw vP tJ y_2)
theorem aRh{vP:Int}{tJ:Int}{y_2:Int}{r:Int×Int}(hm:sO vP tJ y_2=some r):bH prog 163 [vu vP,vu tJ,vu y_2] (.tup [vu r.1,vu r.2]):=by
 refine bd 135 func163 ?_;refine V ?_;refine AWp.seqJ (fun s=> ∃vP tJ y_2,s=⟨135,(aD (aD (aD fa 0 (vu vP)) 1 (vu tJ)) 2 (vu y_2)),⟨aV,64⟩⟩∧aAw vP tJ y_2=some r) ?_ ?_
 ·
  refine W ?_;refine cm hm (fun hm=>?_) fun hm=>?_
  · cases hm
  exact L
 rintro s ⟨vP,tJ,y_2,rfl,hm⟩;refine AWp.seqJ (fun s=> ∃vP tJ y_2,s=⟨135,(aD (aD (aD fa 0 (vu vP)) 1 (vu tJ)) 2 (vu y_2)),⟨aV,64⟩⟩∧aAx vP tJ y_2=some r) ?_ ?_
 ·
  refine W ?_;refine cm hm (fun hm=>?_) fun hm=>?_
  · cases hm
  exact L
 rintro s ⟨vP,tJ,y_2,rfl,hm⟩;refine W ?_;refine cm hm (fun hm=>?_) fun hm=>?_
 · obtain ⟨_,h1,hm⟩:=bnd hm;obtain ⟨_,h2,hm⟩:=bnd hm;exact E
 obtain ⟨r4,h3,hm⟩:=bnd hm;refine W ?_;refine cq (sP h3) ?_;obtain ⟨_,h5,hm⟩:=bnd hm;obtain ⟨_,h6,hm⟩:=bnd hm;obtain ⟨_,h7,hm⟩:=bnd hm;obtain ⟨_,h8,hm⟩:=bnd hm;obtain ⟨_,h9,hm⟩:=bnd hm;refine V ?_;refine AWp.seqJ (fun s=> ∃y_2 s_8 jS jB jE mO fO gS,s=⟨135,(aD (aD (aD (aD (aD (aD (aD (aD fa 2 (vu y_2)) 8 (vu s_8)) 9 (vu jS)) 10 (vu jB)) 11 (vu jE)) 13 (vu mO)) 14 (vu fO)) 15 (vu gS)),⟨aV,64⟩⟩∧mS y_2 s_8 jS jB jE mO fO gS=some r) ?_ ?_
 ·
  refine W ?_;refine lp (fun m s=> ∃y_2 s_8 jS jB jE mO fO gS kC,s=⟨135,(aD (aD (aD (aD (aD (aD (aD (aD (aD fa 2 (vu y_2)) 8 (vu s_8)) 9 (vu jS)) 10 (vu jB)) 11 (vu jE)) 13 (vu mO)) 14 (vu fO)) 15 (vu gS)) 16 (vu kC)),⟨aV,64⟩⟩∧mU m y_2 s_8 jS jB jE mO fO gS kC=some r) L ?_;rintro n2 s ⟨y_2,s_8,jS,jB,jE,mO,fO,gS,kC,rfl,hm⟩;refine W ?_;refine cm hm (fun hm=>?_) fun hm=>?_
  ·
   refine W ?_;refine cm hm (fun hm=>?_) fun hm=>?_
   · refine W ?_;refine aO9 Zd ?_;exact L
   exact L
  exact L
 rintro s ⟨y_2,s_8,jS,jB,jE,mO,fO,gS,rfl,hm⟩;obtain ⟨_,h10,hm⟩:=bnd hm;refine V ?_;refine AWp.seqJ (fun s=> ∃y_2 s_8 fO gS nE tW,s=⟨135,(aD (aD (aD (aD (aD (aD fa 2 (vu y_2)) 8 (vu s_8)) 14 (vu fO)) 15 (vu gS)) 17 (vu nE)) 18 (vu tW)),⟨aV,64⟩⟩∧qL y_2 s_8 fO gS nE tW=some r) ?_ ?_
 ·
  refine W ?_;refine lp (fun m s=> ∃y_2 s_8 jS jB fO gS kC nE tW,s=⟨135,(aD (aD (aD (aD (aD (aD (aD (aD (aD fa 2 (vu y_2)) 8 (vu s_8)) 9 (vu jS)) 10 (vu jB)) 14 (vu fO)) 15 (vu gS)) 16 (vu kC)) 17 (vu nE)) 18 (vu tW)),⟨aV,64⟩⟩∧mT m y_2 s_8 jS jB fO gS kC nE tW=some r) L ?_;rintro n1 s ⟨y_2,s_8,jS,jB,fO,gS,kC,nE,tW,rfl,hm⟩;refine W ?_;refine cm hm (fun hm=>?_) fun hm=>?_
  ·
   refine W ?_;refine cm hm (fun hm=>?_) fun hm=>?_
   · refine W ?_;refine aO9 Zd ?_;exact L
   exact L
  exact L
 rintro s ⟨y_2,s_8,fO,gS,nE,tW,rfl,hm⟩;obtain ⟨_,h11,hm⟩:=bnd hm;exact E
instance:Ct prog 163 (K3 prog vu vu vu (t2 vu vu) 163 sO):=⟨fun hm=>aRh hm⟩
def xQ(vP:Int)(tJ:Int)(y_2:Int):Option (Int):=
 ((chk (y_2 !=0)).bind fun _=>
 ((sO (Int.tmod vP y_2) tJ y_2).bind fun ⟨r3,r4⟩=>
 some r4))
theorem aRj:K3 prog vu vu vu vu 132 xQ:=fun hm=>be 19 func132 (h:=G)
instance:Ct prog 132 (K3 prog vu vu vu vu 132 xQ):=⟨aRj⟩
def aCv(a_0:Int)(b_1:Int):Option (Int):=
 ((yH a_0).bind fun r2=>
 ((yH b_1).bind fun r4=>
 ((sQ r2 r4).bind fun ⟨r6,r7⟩=>
 ((xQ r6 r7 2305843009213693951).bind fun r9=>
 some r9))))
theorem bCr:K2 prog vu vu vu 90 aCv:=fun hm=>be 18 func90 (h:=G)
instance:Ct prog 90 (K2 prog vu vu vu 90 aCv):=⟨bCr⟩
def iR(g_0:aE)(cX:Int)(v_2:Int):Option (Bool):=
 ((dC g_0).bind fun r2=>
 some ((((r2&&(decide (0≤cX)))&&(decide (cX<g_0.Config.L)))&&(decide (0≤v_2)))&&(decide (v_2<g_0.Config.N))))
theorem aHe:K3 prog bW vi vi vb 136 iR:=fun hm=>be 31 func136 (h:=G)
instance:Ct prog 136 (K3 prog bW vi vi vb 136 iR):=⟨aHe⟩
def xX(n_0:Int)(l_1:List aC)(v_2:Int):Option ((List Int)):=
 ((jY n_0 l_1).bind fun r2=>
 (bif (!r2) then
  some []
 else
  ((lW n_0 l_1).bind fun ⟨r4,r5⟩=>
  ((lV r4 v_2).bind fun r7=>
  some r7))))
theorem aRz:K3 prog vi (vl aH) vi (vl (ci .i64)) 215 xX:=fun hm=>be 22 func215 (h:=G)
instance:Ct prog 215 (K3 prog vi (vl aH) vi (vl (ci .i64)) 215 xX):=⟨aRz⟩
def kT(g_0:aE)(cX:Int)(v_2:Int):Option ((List Int)):=
 ((fX g_0.Config.N g_0.Edges cX).bind fun r2=>
 ((xX g_0.Config.N r2 v_2).bind fun r4=>
 some r4))
theorem aNh:K3 prog bW vi vi (vl (ci .i64)) 165 kT:=fun hm=>be 19 func165 (h:=G)
instance:Ct prog 165 (K3 prog bW vi vi (vl (ci .i64)) 165 kT):=⟨aNh⟩
def aF8(rec1:Int→List Int→Int→Int→Option (Bool))(n_0:Int)(t13:List Int)(t14:Int)(t15:Int):Option (Bool):=
 (bif (decide (t15<t14)) then
  ((idx t13 t15).bind fun x4=>
  (bif ((decide (x4<0))||(decide (n_0≤x4))) then
   some false
  else
   rec1 n_0 t13 t14 (IntKind.i64.wrap (t15+1))))
 else
  some true)
def vG:Nat→Int→List Int→Int→Int→Option (Bool)
 |0=>fun _ _ _ _=>none
 |n+1=>aF8 (vG n)
def aDv(n_0:Int)(l_1:List aC)(aEo:List Int):Option (Bool):=
 ((fK n_0 l_1).bind fun r2=>
 (bif (!r2) then
  some false
 else
  vG aZ n_0 aEo (aEo.length:Int) 0))
theorem aO5:K3 prog vi (vl aH) (vl (ci .i64)) vb 213 aDv:=by
 intro n_0 l_1 aEo r hm
 let I1:=((fun m s=> ∃n_0 t13 t14 t15,s=⟨27,(aD (aD (aD (aD fa 0 (vi n_0)) 13 (vl (ci .i64) t13)) 14 (vi t14)) 15 (vi t15)),⟨aV,64⟩⟩∧vG m n_0 t13 t14 t15=some r):Nat→St→Prop)
 exact be 27 func213 (h:=G)
instance:Ct prog 213 (K3 prog vi (vl aH) (vl (ci .i64)) vb 213 aDv):=⟨aO5⟩
attribute [local semireducible] aZ
end Go.Proofs.YtkdohhmacfoolaaGreatDoor
