/- Facts. No condition. -/
import Derived.Test.YtkdohhmacfoolaaGreatDoorObOf
import Derived.Test.YtkdohhmacfoolaaGreatDoorObAmF
set_option linter.unusedVariables false
set_option linter.unusedSimpArgs false
set_option maxRecDepth 20000
set_option maxHeartbeats 4000000
namespace Go.Proofs.YtkdohhmacfoolaaGreatDoor
open Go.Proofs.Tryz Go Go.AM
attribute [local irreducible] bC
def bJr:ByteArray:=⟨#[0,1,2,2,3,3,3,3,4,4,4,4,4,4,4,4,5,5,5,5,5,5,5,5,5,5,5,5,5,5,5,5,6,6,6,6,6,6,6,6,6,6,6,6,6,6,6,6,6,6,6,6,6,6,6,6,6,6,6,6,6,6,6,6,7,7,7,7,7,7,7,7,7,7,7,7,7,7,7,7,7,7,7,7,7,7,7,7,7,7,7,7,7,7,7,7,7,7,7,7,7,7,7,7,7,7,7,7,7,7,7,7,7,7,7,7,7,7,7,7,7,7,7,7,7,7,7,7,8,8,8,8,8,8,8,8,8,8,8,8,8,8,8,8,8,8,8,8,8,8,8,8,8,8,8,8,8,8,8,8,8,8,8,8,8,8,8,8,8,8,8,8,8,8,8,8,8,8,8,8,8,8,8,8,8,8,8,8,8,8,8,8,8,8,8,8,8,8,8,8,8,8,8,8,8,8,8,8,8,8,8,8,8,8,8,8,8,8,8,8,8,8,8,8,8,8,8,8,8,8,8,8,8,8,8,8,8,8,8,8,8,8,8,8,8,8,8,8,8,8,8,8,8,8,8,8]⟩
structure aU where
 N:Int
 L:Int
 R:Int
deriving DecidableEq
def aDo(e:aU):List AV:=[.v (.int .i64 e.N),.v (.int .i64 e.L),.v (.int .i64 e.R)]
theorem aMi:CF aDo 3:=⟨fun _=>rfl,fun a x hx=>by
 simp only [aDo,List.mem_cons,List.not_mem_nil,or_false] at hx;rcases hx with rfl|rfl|rfl
 · exact (.v _)
 · exact (.v _)
 · exact (.v _),fun _=>rfl⟩
instance:CC aDo 3:=⟨aMi⟩
abbrev aEa(e:aU):AV:= .agg [.v (.int .i64 e.N),vi e.L,vi e.R]
@[go_sem] theorem aV7(e:aU)(r:List AV):aDo e++r= .v (.int .i64 e.N):: .v (.int .i64 e.L):: .v (.int .i64 e.R)::r:=rfl
structure bM where
 A:Int
 B:Int
deriving DecidableEq
def bI(e:bM):List AV:=[.v (.int .u64 e.A),.v (.int .u64 e.B)]
theorem iD:CF bI 2:=⟨fun _=>rfl,fun a x hx=>by
 simp only [bI,List.mem_cons,List.not_mem_nil,or_false] at hx;rcases hx with rfl|rfl
 · exact (.v _)
 · exact (.v _),fun _=>rfl⟩
instance:CC bI 2:=⟨iD⟩
abbrev aX8(e:bM):AV:= .agg [.v (.int .u64 e.A),vu e.B]
instance:CE prog 27 bI 2 (bM.mk 0 0):=⟨_,underlying27,bM6,bMk,inferInstance,iD,by decide,by decide⟩
@[go_sem] theorem bAv(e:bM)(r:List AV):bI e++r= .v (.int .u64 e.A):: .v (.int .u64 e.B)::r:=rfl
structure aF where
 Config:aU
 Hashes:List bM
 Edges:List aD
deriving DecidableEq
def aPo(e:aF):List AV:=[.v (.int .i64 e.Config.N),.v (.int .i64 e.Config.L),.v (.int .i64 e.Config.R),.sl (e.Hashes.flatMap bI) e.Hashes.length false,.sl (e.Edges.flatMap aO) e.Edges.length false]
theorem bIp:CF aPo 5:=⟨fun _=>rfl,fun a x hx=>by
 simp only [aPo,List.mem_cons,List.not_mem_nil,or_false] at hx;rcases hx with rfl|rfl|rfl|rfl|rfl
 · exact (.v _)
 · exact (.v _)
 · exact (.v _)
 · exact (iD.sl _ _ _)
 · exact (bT.sl _ _ _),fun _=>rfl⟩
instance:CC aPo 5:=⟨bIp⟩
abbrev cX(e:aF):AV:= .agg [.v (.int .i64 e.Config.N),vi e.Config.L,vi e.Config.R,vl bI e.Hashes,vl aO e.Edges]
@[go_sem] theorem aY3(e:aF)(r:List AV):aPo e++r= .v (.int .i64 e.Config.N):: .v (.int .i64 e.Config.L):: .v (.int .i64 e.Config.R):: .sl (e.Hashes.flatMap bI) e.Hashes.length false:: .sl (e.Edges.flatMap aO) e.Edges.length false::r:=rfl
theorem bK6(x0 y0 x1 y1 x2 y2:Int):fG prog .eql 61 (.agg [.v (.int .i64 x0),.v (.int .i64 x1),.v (.int .i64 x2)]) (.agg [.v (.int .i64 y0),.v (.int .i64 y1),.v (.int .i64 y2)])=some (.v (.bool ((x0==y0)&&((x1==y1)&&(x2==y2))))):=
 (by kernel_rfl:fG prog .eql 61 (.agg [.v (.int .i64 x0),.v (.int .i64 x1),.v (.int .i64 x2)]) (.agg [.v (.int .i64 y0),.v (.int .i64 y1),.v (.int .i64 y2)])=some (.v (.bool ((x0==y0)&&((x1==y1)&&((x2==y2)&&true)))))).trans (by rw [Bool.and_true])
theorem bLl(x0 y0 x1 y1 x2 y2:Int):fG prog .neq 61 (.agg [.v (.int .i64 x0),.v (.int .i64 x1),.v (.int .i64 x2)]) (.agg [.v (.int .i64 y0),.v (.int .i64 y1),.v (.int .i64 y2)])=some (.v (.bool (!((x0==y0)&&((x1==y1)&&(x2==y2)))))):=
 (by kernel_rfl:fG prog .neq 61 (.agg [.v (.int .i64 x0),.v (.int .i64 x1),.v (.int .i64 x2)]) (.agg [.v (.int .i64 y0),.v (.int .i64 y1),.v (.int .i64 y2)])=some (.v (.bool (!((x0==y0)&&((x1==y1)&&((x2==y2)&&true))))))).trans (by rw [Bool.and_true])
attribute [go_sem] bK6 bLl
@[go_sem] theorem bFg(xs:List AV):aM prog 61 (.ptr (xs)) 0=some (.ptr xs):=by kernel_rfl
@[go_sem] theorem bFh(x0:AV)(xs:List AV):aM prog 61 (.ptr (x0::xs)) 1=some (.ptr xs):=by kernel_rfl
@[go_sem] theorem bFi(x0:AV)(x1:AV)(xs:List AV):aM prog 61 (.ptr (x0::x1::xs)) 2=some (.ptr xs):=by kernel_rfl
@[go_sem] theorem bFj(xs:List AV):aM prog 94 (.ptr (xs)) 0=some (.ptr xs):=by kernel_rfl
@[go_sem] theorem bFk(x0:AV)(xs:List AV):aM prog 94 (.ptr (x0::xs)) 1=some (.ptr xs):=by kernel_rfl
@[go_sem] theorem bFo(i o:Nat):aM prog 23 (.adr i o) 0=some (.adr i (o+0)):=by kernel_rfl
@[go_sem] theorem bFv(i o:Nat):aM prog 23 (.adr i o) 1=some (.adr i (o+1)):=by kernel_rfl
@[go_sem] theorem bG2(i o:Nat):aM prog 23 (.adr i o) 2=some (.adr i (o+2)):=by kernel_rfl
@[go_sem] theorem bG8(i o:Nat):aM prog 30 (.adr i o) 0=some (.adr i (o+0)):=by kernel_rfl
@[go_sem] theorem bGd(i o:Nat):aM prog 30 (.adr i o) 1=some (.adr i (o+3)):=by kernel_rfl
@[go_sem] theorem bGh(i o:Nat):aM prog 30 (.adr i o) 2=some (.adr i (o+4)):=by kernel_rfl
@[go_sem] theorem bH4(i o:Nat):aM prog 61 (.adr i o) 0=some (.adr i (o+0)):=by kernel_rfl
@[go_sem] theorem bHa(i o:Nat):aM prog 61 (.adr i o) 1=some (.adr i (o+1)):=by kernel_rfl
@[go_sem] theorem bHg(i o:Nat):aM prog 61 (.adr i o) 2=some (.adr i (o+2)):=by kernel_rfl
@[go_sem] theorem bHn(i o:Nat):aM prog 94 (.adr i o) 0=some (.adr i (o+0)):=by kernel_rfl
@[go_sem] theorem bHq(i o:Nat):aM prog 94 (.adr i o) 1=some (.adr i (o+1)):=by kernel_rfl
@[go_sem] theorem bNz(H:aI)(x0 x1 x2:AV)(xs:List AV):bW prog H 23 (.ptr (x0::x1::x2::xs))=some (.agg [x0,x1,x2]):=by kernel_rfl
@[go_sem] theorem bO8(H:aI)(x:AV)(xs:List AV):bW prog H 27 (.ptr (x::xs))=some x:=by kernel_rfl
@[go_sem] theorem bOc(H:aI)(x:AV)(xs:List AV):bW prog H 28 (.ptr (x::xs))=some x:=by kernel_rfl
@[go_sem] theorem bSa(H:aI)(x:AV)(xs:List AV):bW prog H 3 (.ptr (x::xs))=some x:=by kernel_rfl
@[go_sem] theorem bOi(H:aI)(x0 x1 x2 x3 x4:AV)(xs:List AV):bW prog H 30 (.ptr (x0::x1::x2::x3::x4::xs))=some (.agg [x0,x1,x2,x3,x4]):=by kernel_rfl
@[go_sem] theorem bOx(H:aI)(x:AV)(xs:List AV):bW prog H 40 (.ptr (x::xs))=some x:=by kernel_rfl
@[go_sem] theorem bP5(H:aI)(x0 x1 x2:AV)(xs:List AV):bW prog H 61 (.ptr (x0::x1::x2::xs))=some (.agg [x0,x1,x2]):=by kernel_rfl
@[go_sem] theorem bPc(H:aI)(x0 x1:AV)(xs:List AV):bW prog H 94 (.ptr (x0::x1::xs))=some (.agg [x0,x1]):=by kernel_rfl
@[go_sem] theorem bB7(H:aI)(k:IntKind)(n:Int):nE prog H 3 162 (.v (.int k n))=some (.v (.int .u64 (IntKind.u64.wrap n))):=iA underlying3 underlying162
@[go_sem] theorem bJy(H:aI)(k:IntKind)(n:Int):nE prog H 5 3 (.v (.int k n))=some (.v (.int .i64 (IntKind.i64.wrap n))):=iA underlying5 underlying3
@[go_sem] theorem bFb(H:aI)(k:IntKind)(n:Int):nE prog H 40 5 (.v (.int k n))=some (.v (.int .u8 (IntKind.u8.wrap n))):=iA underlying40 underlying5
def aFh(rec1:List aD→List aD→Int→Option (Bool))(a_0:List aD)(b_1:List aD)(i_5:Int):Option (Bool):=
 (bif (decide (i_5<(a_0.length:Int))) then
  ((idx a_0 i_5).bind fun x2=>
  ((idx b_1 i_5).bind fun x4=>
  (bif (!((x2.U==x4.U)&&((x2.V==x4.V)&&(x2.Tier==x4.Tier)))) then
   some false
  else
   rec1 a_0 b_1 (IntKind.i64.wrap (i_5+1)))))
 else
  some true)
def vK:Nat→List aD→List aD→Int→Option (Bool)
 |0=>fun _ _ _=>none
 |n+1=>aFh (vK n)
def yP(a_0:List aD)(b_1:List aD):Option (Bool):=
 (bif ((a_0.length:Int) !=(b_1.length:Int)) then
  some false
 else
  vK bC a_0 b_1 0)
theorem aOk:K2 prog (vl aO) (vl aO) vb 16 yP:=by
 intro a_0 b_1 r hm
 let I1:=((fun m s=> ∃a_0 b_1 i_5,s=⟨26,(aE (aE (aE fa 0 (vl aO a_0)) 1 (vl aO b_1)) 5 (vi i_5)),⟨aZ,64⟩⟩∧vK m a_0 b_1 i_5=some r):Nat→St→Prop)
 exact be 26 func16 (h:=G)
instance:Ct prog 16 (K2 prog (vl aO) (vl aO) vb 16 yP):=⟨aOk⟩
def yO(a_0:aD)(b_1:aD):Option (Bool):=
 (bif (a_0.U !=b_1.U) then
  some (decide (a_0.U<b_1.U))
 else
  some (decide (a_0.V<b_1.V)))
theorem aOi{a_0:aD}{b_1:aD}{r:Bool}(hm:yO a_0 b_1=some r):bO prog 97 [.agg [vi a_0.U,vi a_0.V,vi a_0.Tier],.agg [vi b_1.U,vi b_1.V,vi b_1.Tier]] (vb r):=by
 refine bd 20 func97 ?_;refine W ?_;refine cm hm (fun hm=>?_) fun hm=>?_
 · exact E
 exact E
instance:Ct prog 97 (K2 prog aBx aBx vb 97 yO):=⟨fun hm=>aOi hm⟩
def aD2(rec1:Int→List aD→Int→Option (Bool))(n_0:Int)(l_1:List aD)(i_5:Int):Option (Bool):=
 (bif (decide (i_5<(l_1.length:Int))) then
  ((idx l_1 i_5).bind fun x2=>
  ((fX ((decide (x2.U<0))==false) (aD.mk 0 0 0) (idx l_1 i_5)).bind fun x4=>
  ((fX ((decide (x2.U<0))==false) (aD.mk 0 0 0) (idx l_1 i_5)).bind fun x6=>
  ((fX (((decide (x2.U<0))||(decide (x6.V≤x4.U)))==false) (aD.mk 0 0 0) (idx l_1 i_5)).bind fun x8=>
  ((fX ((((decide (x2.U<0))||(decide (x6.V≤x4.U)))||(decide (n_0≤x8.V)))==false) (aD.mk 0 0 0) (idx l_1 i_5)).bind fun x10=>
  ((fX (((((decide (x2.U<0))||(decide (x6.V≤x4.U)))||(decide (n_0≤x8.V)))||(decide (x10.Tier<0)))==false) (aD.mk 0 0 0) (idx l_1 i_5)).bind fun x12=>
  (bif (((((decide (x2.U<0))||(decide (x6.V≤x4.U)))||(decide (n_0≤x8.V)))||(decide (x10.Tier<0)))||(decide (16<x12.Tier))) then
   some false
  else
   ((fX ((decide (0<i_5))==true) (aD.mk 0 0 0) (idx l_1 (IntKind.i64.wrap (i_5-1)))).bind fun x14=>
   ((fX ((decide (0<i_5))==true) (aD.mk 0 0 0) (idx l_1 i_5)).bind fun x16=>
   ((fX ((decide (0<i_5))==true) false (yO x14 x16)).bind fun r18=>
   (bif ((decide (0<i_5))&&(!r18)) then
    some false
   else
    rec1 n_0 l_1 (IntKind.i64.wrap (i_5+1)))))))))))))
 else
  some true)
def sH:Nat→Int→List aD→Int→Option (Bool)
 |0=>fun _ _ _=>none
 |n+1=>aD2 (sH n)
def vL(n_0:Int)(l_1:List aD):Option (Bool):=
 (bif ((decide (n_0<0))||(decide (1024<n_0))) then
  some false
 else
  sH bC n_0 l_1 0)
theorem aLl{n_0:Int}{l_1:List aD}{r:Bool}(hm:vL n_0 l_1=some r):bO prog 47 [vi n_0,vl aO l_1] (vb r):=by
 refine bd 77 func47 ?_;refine W ?_;refine cm hm (fun hm=>?_) fun hm=>?_
 · exact E
 refine W ?_;refine lp (fun m s=> ∃n_0 l_1 i_5,s=⟨77,(aE (aE (aE fa 0 (vi n_0)) 1 (vl aO l_1)) 5 (vi i_5)),⟨aZ,64⟩⟩∧sH m n_0 l_1 i_5=some r) L ?_;rintro n1 s ⟨n_0,l_1,i_5,rfl,hm⟩;refine W ?_;refine cm hm (fun hm=>?_) fun hm=>?_
 ·
  obtain ⟨x2,h1,hm⟩:=bnd hm;obtain ⟨x4,h3,hm⟩:=bnd hm;have hm:=sb hm h3;obtain ⟨x8,h7,hm⟩:=bnd hm;obtain ⟨x10,h9,hm⟩:=bnd hm;obtain ⟨x12,h11,hm⟩:=bnd hm;refine W ?_;refine cm hm (fun hm=>?_) fun hm=>?_
  · exact E
  obtain ⟨x14,h13,hm⟩:=bnd hm;obtain ⟨x16,h15,hm⟩:=bnd hm;obtain ⟨r18,h17,hm⟩:=bnd hm;refine W ?_;refine cg (fun hb=>aOi (gN h17 hb)) ?_;refine W ?_;refine cm hm (fun hm=>?_) fun hm=>?_
  · exact E
  exact L
 exact E
instance:Ct prog 47 (K2 prog vi (vl aO) vb 47 vL):=⟨fun hm=>aLl hm⟩
abbrev aBd(rec1:List aD→Int→List aD→Int→Option ((List aD)))(l_0:List aD)(dX:Int)(dO:List aD)(i_6:Int):Option ((List aD)):=
 rec1 l_0 dX dO (IntKind.i64.wrap (i_6+1))
def aBc(rec1:List aD→Int→List aD→Int→Option ((List aD)))(l_0:List aD)(dX:Int)(dO:List aD)(i_6:Int):Option ((List aD)):=
 (bif (decide (i_6<(l_0.length:Int))) then
  ((idx l_0 i_6).bind fun x2=>
  ((fX ((decide (0<x2.Tier))==true) (aD.mk 0 0 0) (idx l_0 i_6)).bind fun x4=>
  (bif ((decide (0<x2.Tier))&&(decide (x4.Tier≤dX))) then
   ((idx l_0 i_6).bind fun x6=>
   ((app dO [x6]).bind fun l8=>
   aBd rec1 l_0 dX l8 i_6))
  else
   aBd rec1 l_0 dX dO i_6)))
 else
  some dO)
def pU:Nat→List aD→Int→List aD→Int→Option ((List aD))
 |0=>fun _ _ _ _=>none
 |n+1=>aBc (pU n)
def sG(l_0:List aD)(dX:Int):Option ((List aD)):=
 pU bC l_0 dX [] 0
theorem aIu:K2 prog (vl aO) vi (vl aO) 22 sG:=by
 intro l_0 dX r hm
 let I1:=((fun m s=> ∃l_0 dX dO i_6,s=⟨36,(aE (aE (aE (aE fa 0 (vl aO l_0)) 1 (vi dX)) 5 (.own 1 0 dO.length)) 6 (vi i_6)),⟨(upd aZ 1 (.cells 3 (dO.flatMap aO) 0)),64⟩⟩∧pU m l_0 dX dO i_6=some r):Nat→St→Prop)
 exact be 36 func22 (h:=G)
instance:Ct prog 22 (K2 prog (vl aO) vi (vl aO) 22 sG):=⟨aIu⟩
abbrev aJv(rec2:List aD→List Int→Bool→Option ((List Int)))(rec3:List aD→List Int→Bool→Int→Option ((List Int)))(l_1:List aD)(p_5:List Int)(oI:Bool)(i_8:Int):Option ((List Int)):=
 rec3 l_1 p_5 oI (IntKind.i64.wrap (i_8+1))
abbrev aJw(rec2:List aD→List Int→Bool→Option ((List Int)))(rec3:List aD→List Int→Bool→Int→Option ((List Int)))(l_1:List aD)(p_5:List Int)(oI:Bool)(i_8:Int)(a_9:Int)(bTv:Int):Option ((List Int)):=
 (bif (decide (bTv<a_9)) then
  ((idx l_1 i_8).bind fun x12=>
  ((idx p_5 x12.U).bind fun x14=>
  ((stt p_5 x12.U bTv).bind fun l16=>
  aJv rec2 rec3 l_1 l16 true i_8)))
 else
  aJv rec2 rec3 l_1 p_5 oI i_8)
def aBa(rec2:List aD→List Int→Bool→Option ((List Int)))(rec3:List aD→List Int→Bool→Int→Option ((List Int)))(l_1:List aD)(p_5:List Int)(oI:Bool)(i_8:Int):Option ((List Int)):=
 (bif (decide (i_8<(l_1.length:Int))) then
  ((idx l_1 i_8).bind fun x4=>
  ((idx p_5 x4.U).bind fun x6=>
  ((idx l_1 i_8).bind fun x8=>
  ((idx p_5 x8.V).bind fun x10=>
  (bif (decide (x6<x10)) then
   ((idx l_1 i_8).bind fun x18=>
   ((idx p_5 x18.V).bind fun x20=>
   ((stt p_5 x18.V x6).bind fun l22=>
   aJw rec2 rec3 l_1 l22 true i_8 x6 x10)))
  else
   aJw rec2 rec3 l_1 p_5 oI i_8 x6 x10)))))
 else
  rec2 l_1 p_5 oI)
def lM(rec2:List aD→List Int→Bool→Option ((List Int))):Nat→List aD→List Int→Bool→Int→Option ((List Int))
 |0=>fun _ _ _ _=>none
 |n+1=>aBa rec2 (lM rec2 n)
def aB9(rec2:List aD→List Int→Bool→Option ((List Int)))(l_1:List aD)(p_5:List Int)(oI:Bool):Option ((List Int)):=
 (bif oI then
  lM rec2 bC l_1 p_5 false 0
 else
  some p_5)
def pP:Nat→List aD→List Int→Bool→Option ((List Int))
 |0=>fun _ _ _=>none
 |n+1=>aB9 (pP n)
def aJu(rec1:Int→List aD→List Int→Int→Option ((List Int)))(n_0:Int)(l_1:List aD)(p_5:List Int)(i_6:Int):Option ((List Int)):=
 (bif (decide (i_6<n_0)) then
  ((app p_5 [i_6]).bind fun l2=>
  rec1 n_0 l_1 l2 (IntKind.i64.wrap (i_6+1)))
 else
  pP bC l_1 p_5 true)
def aBb:Nat→Int→List aD→List Int→Int→Option ((List Int))
 |0=>fun _ _ _ _=>none
 |n+1=>aJu (aBb n)
def aE6(n_0:Int)(l_1:List aD):Option ((List Int)):=
 aBb bC n_0 l_1 [] 0
theorem aU8:K2 prog vi (vl aO) (vl (ci .i64)) 21 aE6:=by
 intro n_0 l_1 r hm
 let I1:=((fun m s=> ∃n_0 l_1 p_5 i_6,s=⟨66,(aE (aE (aE (aE fa 0 (vi n_0)) 1 (vl aO l_1)) 5 (.own 1 0 p_5.length)) 6 (vi i_6)),⟨(upd aZ 1 (.cells 1 (p_5.flatMap (ci .i64)) 0)),64⟩⟩∧aBb m n_0 l_1 p_5 i_6=some r):Nat→St→Prop)
 let I2:=((fun m s=> ∃l_1 p_5 oI,s=⟨66,(aE (aE (aE fa 1 (vl aO l_1)) 5 (.own 1 0 p_5.length)) 7 (vb oI)),⟨(upd aZ 1 (.cells 1 (p_5.flatMap (ci .i64)) 0)),64⟩⟩∧pP m l_1 p_5 oI=some r):Nat→St→Prop)
 let I3:=fun (n2:Nat)=>((fun m s=> ∃l_1 p_5 oI i_8,s=⟨66,(aE (aE (aE (aE fa 1 (vl aO l_1)) 5 (.own 1 0 p_5.length)) 7 (vb oI)) 8 (vi i_8)),⟨(upd aZ 1 (.cells 1 (p_5.flatMap (ci .i64)) 0)),64⟩⟩∧lM (pP n2) m l_1 p_5 oI i_8=some r):Nat→St→Prop)
 exact be 66 func21 (h:=G)
instance:Ct prog 21 (K2 prog vi (vl aO) (vl (ci .i64)) 21 aE6):=⟨aU8⟩
abbrev rI(rec1:Int→List aD→List aD→Int→Option ((List aD)))(n_0:Int)(l_1:List aD)(dO:List aD)(i_6:Int):Option ((List aD)):=
 rec1 n_0 l_1 dO (IntKind.i64.wrap (i_6+1))
def lX(rec1:Int→List aD→List aD→Int→Option ((List aD)))(n_0:Int)(l_1:List aD)(dO:List aD)(i_6:Int):Option ((List aD)):=
 (bif (decide (i_6<(l_1.length:Int))) then
  ((slc l_1 0 i_6).bind fun l2=>
  ((aE6 n_0 l2).bind fun r4=>
  ((idx l_1 i_6).bind fun x6=>
  ((idx r4 x6.U).bind fun x8=>
  ((idx l_1 i_6).bind fun x10=>
  ((idx r4 x10.V).bind fun x12=>
  (bif (x8 !=x12) then
   ((idx l_1 i_6).bind fun x14=>
   ((app dO [x14]).bind fun l16=>
   rI rec1 n_0 l_1 l16 i_6))
  else
   rI rec1 n_0 l_1 dO i_6)))))))
 else
  some dO)
def fT:Nat→Int→List aD→List aD→Int→Option ((List aD))
 |0=>fun _ _ _ _=>none
 |n+1=>lX (fT n)
def tF(n_0:Int)(l_1:List aD):Option ((List aD)):=
 fT bC n_0 l_1 [] 0
theorem aG7{n_0:Int}{l_1:List aD}{r:(List aD)}(hm:tF n_0 l_1=some r):bO prog 48 [vi n_0,vl aO l_1] (vl aO r):=by
 refine bd 44 func48 ?_;refine W ?_;refine lp (fun m s=> ∃n_0 l_1 dO i_6,s=⟨44,(aE (aE (aE (aE fa 0 (vi n_0)) 1 (vl aO l_1)) 5 (.own 1 0 dO.length)) 6 (vi i_6)),⟨(upd aZ 1 (.cells 3 (dO.flatMap aO) 0)),64⟩⟩∧fT m n_0 l_1 dO i_6=some r) ?_ ?_
 · refine ⟨_,?_,n_0,l_1,[],0,rfl,hm⟩;refine St.Le.trans (rQ 5 900005 3 Z1 Z5) ?_;exact cn (fun j=>bif j==1 then 900005 else 0)
 rintro n1 s ⟨n_0,l_1,dO,i_6,rfl,hm⟩;refine W ?_;refine cm hm (fun hm=>?_) fun hm=>?_
 ·
  refine V ?_;refine AWp.seqJ (fun s=> ∃n_0 l_1 dO i_6,s=⟨44,(aE (aE (aE (aE fa 0 (vi n_0)) 1 (vl aO l_1)) 5 (.own 1 0 dO.length)) 6 (vi i_6)),⟨(upd aZ 1 (.cells 3 (dO.flatMap aO) 0)),64⟩⟩∧rI (fT n1) n_0 l_1 dO i_6=some r) ?_ ?_
  ·
   obtain ⟨l2,h1,hm⟩:=bnd hm;obtain ⟨r4,h3,hm⟩:=bnd hm;refine W ?_;refine cq (aU8 h3) ?_;obtain ⟨x6,h5,hm⟩:=bnd hm;obtain ⟨x8,h7,hm⟩:=bnd hm;have hm:=sb hm h5;obtain ⟨x12,h11,hm⟩:=bnd hm;refine W ?_;refine cm hm (fun hm=>?_) fun hm=>?_
   · have hm:=sb hm h5;refine W ?_;refine aL bT [x6] ?_;obtain ⟨l16,h15,hm⟩:=bnd hm;refine W ?_;exact Lr (fun j=>bif j==1 then 262 else 0)
   refine W ?_;exact Lr (fun j=>bif j==1 then 1 else 0)
  rintro s ⟨n_0,l_1,dO,i_6,rfl,hm⟩;refine W ?_;exact Lr (fun j=>bif j==1 then 1 else 0)
 exact E
instance:Ct prog 48 (K2 prog vi (vl aO) (vl aO) 48 tF):=⟨fun hm=>aG7 hm⟩
def aD4(rec2:aF→aU→Int→Option (Bool))(g_1:aF)(c_3:aU)(i_6:Int):Option (Bool):=
 (bif (decide (i_6<(g_1.Edges.length:Int))) then
  ((idx g_1.Edges i_6).bind fun x8=>
  (bif (decide (c_3.L<x8.Tier)) then
   some false
  else
   rec2 g_1 c_3 (IntKind.i64.wrap (i_6+1))))
 else
  ((sG g_1.Edges c_3.L).bind fun r10=>
  ((tF c_3.N r10).bind fun r12=>
  some ((r12.length:Int)==(r10.length:Int)))))
def sJ:Nat→aF→aU→Int→Option (Bool)
 |0=>fun _ _ _=>none
 |n+1=>aD4 (sJ n)
def aD3(rec1:aF→aU→Int→Option (Bool))(g_1:aF)(c_3:aU)(i_4:Int):Option (Bool):=
 (bif (decide (i_4<(g_1.Hashes.length:Int))) then
  ((idx g_1.Hashes i_4).bind fun x2=>
  ((fX ((decide (2305843009213693951≤x2.A))==false) (bM.mk 0 0) (idx g_1.Hashes i_4)).bind fun x4=>
  (bif ((decide (2305843009213693951≤x2.A))||(decide (2305843009213693951≤x4.B))) then
   some false
  else
   rec1 g_1 c_3 (IntKind.i64.wrap (i_4+1)))))
 else
  ((vL c_3.N g_1.Edges).bind fun r6=>
  (bif (!r6) then
   some false
  else
   sJ bC g_1 c_3 0)))
def sI:Nat→aF→aU→Int→Option (Bool)
 |0=>fun _ _ _=>none
 |n+1=>aD3 (sI n)
def vM(g_0:aF):Option (Bool):=
 (bif (((((((decide (g_0.Config.N<1))||(decide (1024<g_0.Config.N)))||(decide (g_0.Config.L<1)))||(decide (16<g_0.Config.L)))||(decide (g_0.Config.R<1)))||(decide (8<g_0.Config.R)))||((g_0.Hashes.length:Int) !=(IntKind.i64.wrap (g_0.Config.L*g_0.Config.R)))) then
  some false
 else
  sI bC g_0 g_0.Config 0)
theorem aLm{g_0:aF}{r:Bool}(hm:vM g_0=some r):bO prog 18 [.agg [vi g_0.Config.N,vi g_0.Config.L,vi g_0.Config.R,vl bI g_0.Hashes,vl aO g_0.Edges]] (vb r):=by
 refine bd 108 func18 ?_;refine W ?_;refine cm hm (fun hm=>?_) fun hm=>?_
 · exact E
 refine W ?_;refine lp (fun m s=> ∃g_1 c_3 i_4,s=⟨108,(aE (aE (aE fa 1 (.adr 1 0)) 3 (.adr 2 0)) 4 (vi i_4)),⟨(upd (upd aZ 1 (.cells 1 [vi g_1.Config.N,vi g_1.Config.L,vi g_1.Config.R,vl bI g_1.Hashes,vl aO g_1.Edges] 0)) 2 (.cells 1 [vi c_3.N,vi c_3.L,vi c_3.R] 0)),64⟩⟩∧sI m g_1 c_3 i_4=some r) (Lr (fun j=>bif j==1 then 0 else bif j==2 then 66 else 0)) ?_;rintro n1 s ⟨g_1,c_3,i_4,rfl,hm⟩;refine W ?_;refine cm hm (fun hm=>?_) fun hm=>?_
 ·
  obtain ⟨x2,h1,hm⟩:=bnd hm;obtain ⟨x4,h3,hm⟩:=bnd hm;refine W ?_;refine cm hm (fun hm=>?_) fun hm=>?_
  · exact E
  refine W ?_;exact Lr (fun j=>bif j==1 then 1 else bif j==2 then 2 else 0)
 obtain ⟨r6,h5,hm⟩:=bnd hm;refine W ?_;refine cq (aLl h5) ?_;refine W ?_;refine cm hm (fun hm=>?_) fun hm=>?_
 · exact E
 refine W ?_;refine lp (fun m s=> ∃g_1 c_3 i_6,s=⟨108,(aE (aE (aE fa 1 (.adr 1 0)) 3 (.adr 2 0)) 6 (vi i_6)),⟨(upd (upd aZ 1 (.cells 1 [vi g_1.Config.N,vi g_1.Config.L,vi g_1.Config.R,vl bI g_1.Hashes,vl aO g_1.Edges] 0)) 2 (.cells 1 [vi c_3.N,vi c_3.L,vi c_3.R] 0)),64⟩⟩∧sJ m g_1 c_3 i_6=some r) (Lr (fun j=>bif j==1 then 1 else bif j==2 then 2 else 0)) ?_;rintro n2 s ⟨g_1,c_3,i_6,rfl,hm⟩;refine W ?_;refine cm hm (fun hm=>?_) fun hm=>?_
 ·
  obtain ⟨x8,h7,hm⟩:=bnd hm;refine W ?_;refine cm hm (fun hm=>?_) fun hm=>?_
  · exact E
  refine W ?_;exact Lr (fun j=>bif j==1 then 1 else bif j==2 then 2 else 0)
 obtain ⟨r10,h9,hm⟩:=bnd hm;refine W ?_;refine cq (aIu h9) ?_;obtain ⟨r12,h11,hm⟩:=bnd hm;refine W ?_;refine cq (aG7 h11) ?_;exact E
instance:Ct prog 18 (K1 prog cX vb 18 vM):=⟨fun hm=>aLm hm⟩
def oA(bMa:Int):Option (Bool):=
 some ((decide (0≤bMa))&&(decide (bMa≤16)))
theorem aJ5:K1 prog vi vb 133 oA:=fun hm=>be 9 func133 (h:=G)
instance:Ct prog 133 (K1 prog vi vb 133 oA):=⟨aJ5⟩
def tL(a_0:aD)(b_1:aD):Option (Bool):=
 some ((decide (a_0.U<b_1.U))||((a_0.U==b_1.U)&&(decide (a_0.V<b_1.V))))
theorem aR2:K2 prog aBx aBx vb 134 tL:=fun hm=>be 24 func134 (h:=G)
instance:Ct prog 134 (K2 prog aBx aBx vb 134 tL):=⟨aR2⟩
def aDh(rec1:Int→List aD→List aD→Int→Int→Option (Bool))(n_0:Int)(l_1:List aD)(t13:List aD)(t14:Int)(t15:Int):Option (Bool):=
 (bif (decide (t15<t14)) then
  ((idx t13 t15).bind fun x2=>
  ((fX ((((decide (x2.U<0))||(decide (x2.V≤x2.U)))||(decide (n_0≤x2.V)))==false) false (oA x2.Tier)).bind fun r4=>
  (bif ((((decide (x2.U<0))||(decide (x2.V≤x2.U)))||(decide (n_0≤x2.V)))||(!r4)) then
   some false
  else
   ((fX ((decide (0<t15))==true) (aD.mk 0 0 0) (idx l_1 (IntKind.i64.wrap (t15-1)))).bind fun x6=>
   ((fX ((decide (0<t15))==true) false (tL x6 x2)).bind fun r8=>
   (bif ((decide (0<t15))&&(!r8)) then
    some false
   else
    rec1 n_0 l_1 t13 t14 (IntKind.i64.wrap (t15+1))))))))
 else
  some true)
def sW:Nat→Int→List aD→List aD→Int→Int→Option (Bool)
 |0=>fun _ _ _ _ _=>none
 |n+1=>aDh (sW n)
def iN(n_0:Int)(l_1:List aD):Option (Bool):=
 (bif ((decide (n_0<0))||(decide (1024<n_0))) then
  some false
 else
  sW bC n_0 l_1 l_1 (l_1.length:Int) 0)
theorem aAc:K2 prog vi (vl aO) vb 92 iN:=by
 intro n_0 l_1 r hm
 let I1:=((fun m s=> ∃n_0 l_1 t13 t14 t15,s=⟨55,(aE (aE (aE (aE (aE fa 0 (vi n_0)) 1 (vl aO l_1)) 13 (vl aO t13)) 14 (vi t14)) 15 (vi t15)),⟨aZ,64⟩⟩∧sW m n_0 l_1 t13 t14 t15=some r):Nat→St→Prop)
 exact be 55 func92 (h:=G)
instance:Ct prog 92 (K2 prog vi (vl aO) vb 92 iN):=⟨aAc⟩
abbrev aBs(rec1:Int→List aD→List aD→Int→Int→Option ((List aD)))(aBt:Int)(uT:List aD)(t14:List aD)(t15:Int)(t16:Int):Option ((List aD)):=
 rec1 aBt uT t14 t15 (IntKind.i64.wrap (t16+1))
def aBr(rec1:Int→List aD→List aD→Int→Int→Option ((List aD)))(aBt:Int)(uT:List aD)(t14:List aD)(t15:Int)(t16:Int):Option ((List aD)):=
 (bif (decide (t16<t15)) then
  ((idx t14 t16).bind fun x4=>
  (bif ((decide (1≤x4.Tier))&&(decide (x4.Tier≤aBt))) then
   ((app uT [x4]).bind fun l6=>
   aBs rec1 aBt l6 t14 t15 t16)
  else
   aBs rec1 aBt uT t14 t15 t16))
 else
  some uT)
def qL:Nat→Int→List aD→List aD→Int→Int→Option ((List aD))
 |0=>fun _ _ _ _ _=>none
 |n+1=>aBr (qL n)
def gU(n_0:Int)(l_1:List aD)(aBt:Int):Option ((List aD)):=
 ((iN n_0 l_1).bind fun r2=>
 (bif (!r2) then
  some []
 else
  qL bC aBt [] l_1 (l_1.length:Int) 0))
theorem aDg:K3 prog vi (vl aO) vi (vl aO) 55 gU:=by
 intro n_0 l_1 aBt r hm
 let I1:=((fun m s=> ∃aBt uT t14 t15 t16,s=⟨35,(aE (aE (aE (aE (aE fa 2 (vi aBt)) 7 (.own 1 0 uT.length)) 14 (vl aO t14)) 15 (vi t15)) 16 (vi t16)),⟨(upd aZ 1 (.cells 3 (uT.flatMap aO) 0)),64⟩⟩∧qL m aBt uT t14 t15 t16=some r):Nat→St→Prop)
 exact be 35 func55 (h:=G)
instance:Ct prog 55 (K3 prog vi (vl aO) vi (vl aO) 55 gU):=⟨aDg⟩
def aFb(rec1:List Int→List Int→Int→Int→Option (Bool))(p_0:List Int)(t5:List Int)(t6:Int)(t7:Int):Option (Bool):=
 (bif (decide (t7<t6)) then
  ((idx t5 t7).bind fun x2=>
  ((iC (p_0.length:Int) x2).bind fun r4=>
  ((fX (((!r4)||(decide (t7<x2)))==false) 0 (idx p_0 x2)).bind fun x6=>
  (bif (((!r4)||(decide (t7<x2)))||(x6 !=x2)) then
   some false
  else
   rec1 p_0 t5 t6 (IntKind.i64.wrap (t7+1))))))
 else
  some true)
def vI:Nat→List Int→List Int→Int→Int→Option (Bool)
 |0=>fun _ _ _ _=>none
 |n+1=>aFb (vI n)
def uC(p_0:List Int):Option (Bool):=
 vI bC p_0 p_0 (p_0.length:Int) 0
theorem aZ5:K1 prog (vl (ci .i64)) vb 56 uC:=by
 intro p_0 r hm
 let I1:=((fun m s=> ∃p_0 t5 t6 t7,s=⟨31,(aE (aE (aE (aE fa 0 (vl (ci .i64) p_0)) 5 (vl (ci .i64) t5)) 6 (vi t6)) 7 (vi t7)),⟨aZ,64⟩⟩∧vI m p_0 t5 t6 t7=some r):Nat→St→Prop)
 exact be 31 func56 (h:=G)
instance:Ct prog 56 (K1 prog (vl (ci .i64)) vb 56 uC):=⟨aZ5⟩
abbrev aHc(rec1:Int→List Int→Int→Int→Option (Int))(oF:Int)(t9:List Int)(t10:Int)(t11:Int):Option (Int):=
 rec1 oF t9 t10 (IntKind.i64.wrap (t11+1))
def aHb(rec1:Int→List Int→Int→Int→Option (Int))(oF:Int)(t9:List Int)(t10:Int)(t11:Int):Option (Int):=
 (bif (decide (t11<t10)) then
  ((idx t9 t11).bind fun x4=>
  (bif (t11==x4) then
   aHc rec1 (IntKind.i64.wrap (oF+1)) t9 t10 t11
  else
   aHc rec1 oF t9 t10 t11))
 else
  some oF)
def yL:Nat→Int→List Int→Int→Int→Option (Int)
 |0=>fun _ _ _ _=>none
 |n+1=>aHb (yL n)
def aB8(p_0:List Int):Option (Int):=
 ((uC p_0).bind fun r2=>
 (bif (!r2) then
  some 0
 else
  yL bC 0 p_0 (p_0.length:Int) 0))
theorem bCj:K1 prog (vl (ci .i64)) vi 135 aB8:=by
 intro p_0 r hm
 let I1:=((fun m s=> ∃oF t9 t10 t11,s=⟨23,(aE (aE (aE (aE fa 3 (vi oF)) 9 (vl (ci .i64) t9)) 10 (vi t10)) 11 (vi t11)),⟨aZ,64⟩⟩∧yL m oF t9 t10 t11=some r):Nat→St→Prop)
 exact be 23 func135 (h:=G)
instance:Ct prog 135 (K1 prog (vl (ci .i64)) vi 135 aB8):=⟨bCj⟩
def mQ(n_0:Int)(l_1:List aD):Option (Bool):=
 ((pO n_0 l_1).bind fun ⟨r2,r3⟩=>
 ((fX ((r3==0)==true) 0 (aB8 r2)).bind fun r5=>
 some ((r3==0)&&(r5==(IntKind.i64.wrap (n_0-(l_1.length:Int)))))))
theorem aL3:K2 prog vi (vl aO) vb 93 mQ:=fun hm=>be 24 func93 (h:=G)
instance:Ct prog 93 (K2 prog vi (vl aO) vb 93 mQ):=⟨aL3⟩
def aBj(rec2:aF→aU→List aD→Int→Int→Option (Bool))(g_1:aF)(c_3:aU)(t70:List aD)(t71:Int)(t72:Int):Option (Bool):=
 (bif (decide (t72<t71)) then
  ((idx t70 t72).bind fun x6=>
  (bif (decide (c_3.L<x6.Tier)) then
   some false
  else
   rec2 g_1 c_3 t70 t71 (IntKind.i64.wrap (t72+1))))
 else
  ((gU c_3.N g_1.Edges c_3.L).bind fun r8=>
  ((mQ c_3.N r8).bind fun r10=>
  some r10)))
def qE:Nat→aF→aU→List aD→Int→Int→Option (Bool)
 |0=>fun _ _ _ _ _=>none
 |n+1=>aBj (qE n)
def aBi(rec1:aF→aU→List bM→Int→Int→Option (Bool))(g_1:aF)(c_3:aU)(t48:List bM)(t49:Int)(t50:Int):Option (Bool):=
 (bif (decide (t50<t49)) then
  ((idx t48 t50).bind fun x2=>
  (bif ((decide (2305843009213693951≤x2.A))||(decide (2305843009213693951≤x2.B))) then
   some false
  else
   rec1 g_1 c_3 t48 t49 (IntKind.i64.wrap (t50+1))))
 else
  ((iN c_3.N g_1.Edges).bind fun r4=>
  (bif (!r4) then
   some false
  else
   qE bC g_1 c_3 g_1.Edges (g_1.Edges.length:Int) 0)))
def qD:Nat→aF→aU→List bM→Int→Int→Option (Bool)
 |0=>fun _ _ _ _ _=>none
 |n+1=>aBi (qD n)
def eC(g_0:aF):Option (Bool):=
 (bif ((((((decide (g_0.Config.N<1))||(decide (1024<g_0.Config.N)))||(decide (g_0.Config.L<1)))||(decide (16<g_0.Config.L)))||(decide (g_0.Config.R<1)))||(decide (8<g_0.Config.R))) then
  some false
 else
  (bif ((g_0.Hashes.length:Int) !=(IntKind.i64.wrap (g_0.Config.L*g_0.Config.R))) then
   some false
  else
   qD bC g_0 g_0.Config g_0.Hashes (g_0.Hashes.length:Int) 0))
theorem aDb:K1 prog cX vb 45 eC:=by
 intro g_0 r hm
 let I1:=((fun m s=> ∃g_1 c_3 t48 t49 t50,s=⟨92,(aE (aE (aE (aE (aE fa 1 (.adr 1 0)) 3 (.adr 2 0)) 48 (vl bI t48)) 49 (vi t49)) 50 (vi t50)),⟨(upd (upd aZ 1 (.cells 1 [vi g_1.Config.N,vi g_1.Config.L,vi g_1.Config.R,vl bI g_1.Hashes,vl aO g_1.Edges] 0)) 2 (.cells 1 [vi c_3.N,vi c_3.L,vi c_3.R] 0)),64⟩⟩∧qD m g_1 c_3 t48 t49 t50=some r):Nat→St→Prop)
 let I2:=((fun m s=> ∃g_1 c_3 t70 t71 t72,s=⟨92,(aE (aE (aE (aE (aE fa 1 (.adr 1 0)) 3 (.adr 2 0)) 70 (vl aO t70)) 71 (vi t71)) 72 (vi t72)),⟨(upd (upd aZ 1 (.cells 1 [vi g_1.Config.N,vi g_1.Config.L,vi g_1.Config.R,vl bI g_1.Hashes,vl aO g_1.Edges] 0)) 2 (.cells 1 [vi c_3.N,vi c_3.L,vi c_3.R] 0)),64⟩⟩∧qE m g_1 c_3 t70 t71 t72=some r):Nat→St→Prop)
 exact be 92 func45 (h:=G)
instance:Ct prog 45 (K1 prog cX vb 45 eC):=⟨aDb⟩
def mM(g_0:aF):Option ((List Int)):=
 ((eC g_0).bind fun r2=>
 (bif (!r2) then
  some []
 else
  ((gU g_0.Config.N g_0.Edges g_0.Config.L).bind fun r4=>
  ((pO g_0.Config.N r4).bind fun ⟨r6,r7⟩=>
  some r6))))
theorem aZv:K1 prog cX (vl (ci .i64)) 20 mM:=fun hm=>be 25 func20 (h:=G)
instance:Ct prog 20 (K1 prog cX (vl (ci .i64)) 20 mM):=⟨aZv⟩
def aDn(g_0:aF):Option ((List Int)):=
 ((eC g_0).bind fun r2=>
 (bif (!r2) then
  some []
 else
  ((pO g_0.Config.N g_0.Edges).bind fun ⟨r4,r5⟩=>
  some r4)))
theorem bEt:K1 prog cX (vl (ci .i64)) 58 aDn:=fun hm=>be 18 func58 (h:=G)
instance:Ct prog 58 (K1 prog cX (vl (ci .i64)) 58 aDn):=⟨bEt⟩
def vU(rec1:List Int→List Int→Int→Int→Option (Bool))(aSy:List Int)(aWp:List Int)(t12:Int)(t13:Int):Option (Bool):=
 (bif (decide (t13<t12)) then
  ((idx aSy t13).bind fun x2=>
  ((idx aWp t13).bind fun x4=>
  (bif (x2 !=x4) then
   some false
  else
   rec1 aSy aWp t12 (IntKind.i64.wrap (t13+1)))))
 else
  some true)
def kY:Nat→List Int→List Int→Int→Int→Option (Bool)
 |0=>fun _ _ _ _=>none
 |n+1=>vU (kY n)
def mC(aSy:List Int)(aWp:List Int):Option (Bool):=
 (bif ((aSy.length:Int) !=(aWp.length:Int)) then
  some false
 else
  kY bC aSy aWp (aSy.length:Int) 0)
theorem aNh:K2 prog (vl (ci .i64)) (vl (ci .i64)) vb 57 mC:=by
 intro aSy aWp r hm
 let I1:=((fun m s=> ∃aSy aWp t12 t13,s=⟨26,(aE (aE (aE (aE fa 0 (vl (ci .i64) aSy)) 1 (vl (ci .i64) aWp)) 12 (vi t12)) 13 (vi t13)),⟨aZ,64⟩⟩∧kY m aSy aWp t12 t13=some r):Nat→St→Prop)
 exact be 26 func57 (h:=G)
instance:Ct prog 57 (K2 prog (vl (ci .i64)) (vl (ci .i64)) vb 57 mC):=⟨aNh⟩
def uL(g_0:aF):Option (Bool):=
 ((eC g_0).bind fun r2=>
 ((fX (r2==true) [] (mM g_0)).bind fun r4=>
 ((fX (r2==true) [] (aDn g_0)).bind fun r6=>
 ((fX (r2==true) false (mC r4 r6)).bind fun r8=>
 some (r2&&r8)))))
theorem aV4:K1 prog cX vb 25 uL:=fun hm=>be 12 func25 (h:=G)
instance:Ct prog 25 (K1 prog cX vb 25 uL):=⟨aV4⟩
def gH(l:List bM):Option (List bM):=aV0 16 [] l
theorem aK3{r:List bM}(hm:some []=some r):eE prog 75 [.v (.slice none 0 0)] 2 (r.flatMap bI) r.length:=by
 refine eE.of_body func75 rfl (iD.fmdat r) ?_;simp only [ntmps75,List.length_cons,List.length_nil,Nat.reduceAdd,Nat.reduceSub,gD];refine sN 64 (pA ?_);refine fs (AWp.seq' (sN 128 (pA ?_)));refine pu rfl (yZ Z1 Z1 (aKf underlying27)) ?_;refine fs (AWp.condT Z1 ?_);refine sN 192 (pA ?_);refine fs (AWp.weaken (rQ 2 900002 2 Z1 Z5) ?_);refine AWp.ret (hZ ?_);cases hm;exact aLp (.inr rfl) Tryz.results75 Z1 Z3 Z6
theorem aK4{a:Addr}{c:Nat}{r:List bM}(hm:((aV0 16 [] []).bind fun l2=>
some l2)=some r):eE prog 75 [.v (.slice (some a) 0 c)] 2 (r.flatMap bI) r.length:=by
 refine eE.of_body func75 rfl (iD.fmdat r) ?_;simp only [ntmps75,List.length_cons,List.length_nil,Nat.reduceAdd,Nat.reduceSub,gD];refine sN 64 (pA ?_);refine fs (AWp.seq' (sN 128 (pA ?_)));refine pu rfl (yZ Z1 Z1 (aI3 underlying27)) ?_;refine fs (AWp.condF Z1 ?_);refine AWp.skip (bJ (sN 192 (hp (id:=128) rfl rfl (iT iD (l:=[]) underlying27 bM6 bMk Z5 Zd Zd Zd (by simp only [go_sem,Nat.reduceBEq];try rfl) (by kernel_rfl)) ?_)));refine pA ?_;obtain ⟨l2,h1,hm⟩:=bnd hm;refine hp (id:=130) rfl rfl (bD6 iD underlying27 underlying27 rfl bNv bQa aZs (by rw [aZs];decide) bQc Zd Zd Z1 Z3 Z6 (aPl Z1) rfl Z5 h1) ?_;refine pA ?_;refine fs (AWp.ret ?_);cases hm;exact aLp (.inr rfl) Tryz.results75 Z1 Z3 Z6
theorem aK5{x0:bM}{l0:List bM}{r:List bM}(hm:((aV0 16 [] (x0::l0)).bind fun l2=>
some l2)=some r):eE prog 75 [.sl ((x0::l0).flatMap bI) (x0::l0).length false] 2 (r.flatMap bI) r.length:=by
 refine eE.of_body func75 rfl (iD.fmdat r) ?_;simp only [ntmps75,List.length_cons,List.length_nil,Nat.reduceAdd,Nat.reduceSub,gD];refine sN 64 (pA ?_);refine fs (AWp.seq' (sN 128 (pA ?_)));refine pu rfl (yZ Z1 Z1 (aI2 underlying27 (by simp))) ?_;refine fs (AWp.condF Z1 ?_);refine AWp.skip (bJ (sN 192 (hp (id:=128) rfl rfl (iT iD (l:=[]) underlying27 bM6 bMk Z5 Zd Zd Zd (by simp only [go_sem,Nat.reduceBEq];try rfl) (by kernel_rfl)) ?_)));refine pA ?_;obtain ⟨l2,h1,hm⟩:=bnd hm;refine hp (id:=130) rfl rfl (bD6 iD underlying27 underlying27 rfl bNv bQa aZs (by rw [aZs];decide) bQc Zd Zd Z1 Z3 Z6 (aTj iD Z1 rfl) rfl Z5 h1) ?_;refine pA ?_;refine fs (AWp.ret ?_);cases hm;exact aLp (.inr rfl) Tryz.results75 Z1 Z3 Z6
theorem aM2{l r:List bM}(hm:gH l=some r):eE prog 75 [.sl (l.flatMap bI) l.length false] 2 (r.flatMap bI) r.length:=by
 cases l with
 |nil=>
  have hr:r=[]:=by unfold gH aV0 at hm;simpa using hm.symm
  subst hr;exact eE.nil_arg (aK3 (r:=[]) rfl) (fun a c=>aK4 (r:=[]) rfl)
 |cons x0 l0=>
  refine aK5 ?_;show (aV0 16 [] (x0::l0)).bind _=_;unfold gH at hm;rw [hm];rfl
theorem aM1{l r:List bM}(hm:gH l=some r):bO prog 75 [.sl (l.flatMap bI) l.length false] (.sl (r.flatMap bI) r.length false):=bO.of_fresh iD (aM2 hm)
instance:Ct prog 75 (K1 prog (vl bI) (vl bI) 75 gH):=⟨fun hm=>aM1 hm⟩
def aBv(c_0:aU)(bKn:List bM):Option (aF×Int):=
 ((gH bKn).bind fun r2=>
 ((eC (aF.mk c_0 r2 [])).bind fun r4=>
 (bif (!r4) then
  some ((aF.mk (aU.mk 0 0 0) [] []),1)
 else
  some ((aF.mk c_0 r2 []),0))))
theorem aRx:K2 prog aEa (vl bI) (t2 cX vi) 34 aBv:=fun hm=>be 16 func34 (h:=G)
instance:Ct prog 34 (K2 prog aEa (vl bI) (t2 cX vi) 34 aBv):=⟨aRx⟩
def aH4(rec1:Int→Int→List aD→Int→Int→Option (Int×Bool))(u_1:Int)(v_2:Int)(t10:List aD)(t11:Int)(t12:Int):Option (Int×Bool):=
 (bif (decide (t12<t11)) then
  ((idx t10 t12).bind fun x2=>
  (bif (((x2.U==u_1)&&(x2.V==v_2))||((x2.U==v_2)&&(x2.V==u_1))) then
   some (t12,true)
  else
   rec1 u_1 v_2 t10 t11 (IntKind.i64.wrap (t12+1))))
 else
  some (0,false))
def yJ:Nat→Int→Int→List aD→Int→Int→Option (Int×Bool)
 |0=>fun _ _ _ _ _=>none
 |n+1=>aH4 (yJ n)
def mV(l_0:List aD)(u_1:Int)(v_2:Int):Option (Int×Bool):=
 yJ bC u_1 v_2 l_0 (l_0.length:Int) 0
theorem aF6:K3 prog (vl aO) vi vi (t2 vi vb) 80 mV:=by
 intro l_0 u_1 v_2 r hm
 let I1:=((fun m s=> ∃u_1 v_2 t10 t11 t12,s=⟨41,(aE (aE (aE (aE (aE fa 1 (vi u_1)) 2 (vi v_2)) 10 (vl aO t10)) 11 (vi t11)) 12 (vi t12)),⟨aZ,64⟩⟩∧yJ m u_1 v_2 t10 t11 t12=some r):Nat→St→Prop)
 exact be 41 func80 (h:=G)
instance:Ct prog 80 (K3 prog (vl aO) vi vi (t2 vi vb) 80 mV):=⟨aF6⟩
abbrev aF9(rec1:List Int→Int→List Int→List Int→Int→Int→Option ((List Int)))(p_0:List Int)(v_1:Int)(zY:List Int)(t18:List Int)(t19:Int)(t20:Int):Option ((List Int)):=
 rec1 p_0 v_1 zY t18 t19 (IntKind.i64.wrap (t20+1))
def aF8(rec1:List Int→Int→List Int→List Int→Int→Int→Option ((List Int)))(p_0:List Int)(v_1:Int)(zY:List Int)(t18:List Int)(t19:Int)(t20:Int):Option ((List Int)):=
 (bif (decide (t20<t19)) then
  ((idx t18 t20).bind fun x6=>
  ((idx p_0 v_1).bind fun x8=>
  (bif (x6==x8) then
   ((app zY [t20]).bind fun l10=>
   aF9 rec1 p_0 v_1 l10 t18 t19 t20)
  else
   aF9 rec1 p_0 v_1 zY t18 t19 t20)))
 else
  some zY)
def vH:Nat→List Int→Int→List Int→List Int→Int→Int→Option ((List Int))
 |0=>fun _ _ _ _ _ _=>none
 |n+1=>aF8 (vH n)
def pH(p_0:List Int)(v_1:Int):Option ((List Int)):=
 ((uC p_0).bind fun r2=>
 ((fX ((!r2)==false) false (iC (p_0.length:Int) v_1)).bind fun r4=>
 (bif ((!r2)||(!r4)) then
  some []
 else
  vH bC p_0 v_1 [] p_0 (p_0.length:Int) 0)))
theorem aZ2:K2 prog (vl (ci .i64)) vi (vl (ci .i64)) 84 pH:=by
 intro p_0 v_1 r hm
 let I1:=((fun m s=> ∃p_0 v_1 zY t18 t19 t20,s=⟨37,(aE (aE (aE (aE (aE (aE fa 0 (vl (ci .i64) p_0)) 1 (vi v_1)) 5 (.own 1 0 zY.length)) 18 (vl (ci .i64) t18)) 19 (vi t19)) 20 (vi t20)),⟨(upd aZ 1 (.cells 1 (zY.flatMap (ci .i64)) 0)),64⟩⟩∧vH m p_0 v_1 zY t18 t19 t20=some r):Nat→St→Prop)
 exact be 37 func84 (h:=G)
instance:Ct prog 84 (K2 prog (vl (ci .i64)) vi (vl (ci .i64)) 84 pH):=⟨aZ2⟩
def aA3(n_0:Int):Option (Int):=
 some (Int.tmod n_0 2305843009213693951)
theorem bPt:K1 prog vu vu 130 aA3:=fun hm=>be 5 func130 (h:=G)
instance:Ct prog 130 (K1 prog vu vu 130 aA3):=⟨bPt⟩
def aE0(a_0:Int)(b_1:Int):Option (Int):=
 ((aA3 a_0).bind fun r2=>
 ((aA3 b_1).bind fun r4=>
 some (Int.tmod (IntKind.u64.wrap (r2+r4)) 2305843009213693951)))
theorem bLf:K2 prog vu vu vu 89 aE0:=fun hm=>be 11 func89 (h:=G)
instance:Ct prog 89 (K2 prog vu vu vu 89 aE0):=⟨bLf⟩
def xW(x_0:Int)(y_1:Int):Option (Int×Int):=
 some ((IntKind.u64.wrap ((IntKind.u64.wrap ((IntKind.u64.wrap ((shr .u64 x_0 32)*(shr .u64 y_1 32)))+(shr .u64 (IntKind.u64.wrap ((IntKind.u64.wrap ((shr .u64 x_0 32)*(aGj .u64 y_1 4294967295)))+(shr .u64 (IntKind.u64.wrap ((aGj .u64 x_0 4294967295)*(aGj .u64 y_1 4294967295))) 32))) 32)))+(shr .u64 (IntKind.u64.wrap ((aGj .u64 (IntKind.u64.wrap ((IntKind.u64.wrap ((shr .u64 x_0 32)*(aGj .u64 y_1 4294967295)))+(shr .u64 (IntKind.u64.wrap ((aGj .u64 x_0 4294967295)*(aGj .u64 y_1 4294967295))) 32))) 4294967295)+(IntKind.u64.wrap ((aGj .u64 x_0 4294967295)*(shr .u64 y_1 32))))) 32))),(IntKind.u64.wrap (x_0*y_1)))
theorem aY0:K2 prog vu vu (t2 vu vu) 131 xW:=fun hm=>be 51 func131 (h:=G)
instance:Ct prog 131 (K2 prog vu vu (t2 vu vu) 131 xW):=⟨aY0⟩
abbrev aKm(x_0:Int)(n_2:Int):Option (Int):=
 ((aPh bJr (IntKind.u8.wrap x_0)).bind fun b2=>
 some (IntKind.i64.wrap (n_2+(IntKind.i64.wrap b2))))
abbrev aKl(x_0:Int)(n_2:Int):Option (Int):=
 (bif (decide (256≤x_0)) then
  aKm (shr .u64 x_0 8) (IntKind.i64.wrap (n_2+8))
 else
  aKm x_0 n_2)
abbrev aKk(x_0:Int)(n_2:Int):Option (Int):=
 (bif (decide (65536≤x_0)) then
  aKl (shr .u64 x_0 16) (IntKind.i64.wrap (n_2+16))
 else
  aKl x_0 n_2)
def aC4(x_0:Int):Option (Int):=
 (bif (decide (4294967296≤x_0)) then
  aKk (shr .u64 x_0 32) 32
 else
  aKk x_0 0)
theorem aNy:K1 prog vu vi 203 aC4:=fun hm=>be 25 func203 (h:=G)
instance:Ct prog 203 (K1 prog vu vi 203 aC4):=⟨aNy⟩
def kT(x_0:Int):Option (Int):=
 ((aC4 x_0).bind fun r2=>
 some (IntKind.i64.wrap (64-r2)))
theorem xU:K1 prog vu vi 212 kT:=fun hm=>be 6 func212 (h:=G)
instance:Ct prog 212 (K1 prog vu vi 212 kT):=⟨xU⟩
abbrev uM(y_2:Int)(s_8:Int)(iR:Int)(jQ:Int)(rN:Int)(zT:Int):Option (Int×Int):=
 ((chk (decide (0≤s_8))).bind fun _=>
 some ((IntKind.u64.wrap ((IntKind.u64.wrap (jQ*4294967296))+zT)),(shr .u64 (IntKind.u64.wrap ((IntKind.u64.wrap ((IntKind.u64.wrap (rN*4294967296))+iR))-(IntKind.u64.wrap (zT*y_2)))) s_8)))
def aEi(rec1:Int→Int→Int→Int→Int→Int→Int→Int→Int→Option (Int×Int))(y_2:Int)(s_8:Int)(mH:Int)(lQ:Int)(iR:Int)(jQ:Int)(mX:Int)(rN:Int)(zT:Int):Option (Int×Int):=
 (bif ((decide (4294967296≤zT))||(decide ((IntKind.u64.wrap ((IntKind.u64.wrap (4294967296*mX))+iR))<(IntKind.u64.wrap (zT*lQ))))) then
  (bif (decide (4294967296≤(IntKind.u64.wrap (mX+mH)))) then
   uM y_2 s_8 iR jQ rN (IntKind.u64.wrap (zT-1))
  else
   rec1 y_2 s_8 mH lQ iR jQ (IntKind.u64.wrap (mX+mH)) rN (IntKind.u64.wrap (zT-1)))
 else
  uM y_2 s_8 iR jQ rN zT)
def qU:Nat→Int→Int→Int→Int→Int→Int→Int→Int→Int→Option (Int×Int)
 |0=>fun _ _ _ _ _ _ _ _ _=>none
 |n+1=>aEi (qU n)
abbrev qT(y_2:Int)(s_8:Int)(mH:Int)(lQ:Int)(lT:Int)(qN:Int)(iR:Int)(jQ:Int):Option (Int×Int):=
 ((chk (mH !=0)).bind fun _=>
 qU bC y_2 s_8 mH lQ iR jQ (IntKind.u64.wrap ((IntKind.u64.wrap ((IntKind.u64.wrap ((IntKind.u64.wrap (lT*4294967296))+qN))-(IntKind.u64.wrap (jQ*y_2))))-(IntKind.u64.wrap ((IntKind.u64.wrap (Int.tdiv (IntKind.u64.wrap ((IntKind.u64.wrap ((IntKind.u64.wrap (lT*4294967296))+qN))-(IntKind.u64.wrap (jQ*y_2)))) mH))*mH)))) (IntKind.u64.wrap ((IntKind.u64.wrap ((IntKind.u64.wrap (lT*4294967296))+qN))-(IntKind.u64.wrap (jQ*y_2)))) (IntKind.u64.wrap (Int.tdiv (IntKind.u64.wrap ((IntKind.u64.wrap ((IntKind.u64.wrap (lT*4294967296))+qN))-(IntKind.u64.wrap (jQ*y_2)))) mH)))
def aEj(rec2:Int→Int→Int→Int→Int→Int→Int→Int→Int→Option (Int×Int))(y_2:Int)(s_8:Int)(mH:Int)(lQ:Int)(lT:Int)(qN:Int)(iR:Int)(jQ:Int)(mX:Int):Option (Int×Int):=
 (bif ((decide (4294967296≤jQ))||(decide ((IntKind.u64.wrap ((IntKind.u64.wrap (4294967296*mX))+qN))<(IntKind.u64.wrap (jQ*lQ))))) then
  (bif (decide (4294967296≤(IntKind.u64.wrap (mX+mH)))) then
   qT y_2 s_8 mH lQ lT qN iR (IntKind.u64.wrap (jQ-1))
  else
   rec2 y_2 s_8 mH lQ lT qN iR (IntKind.u64.wrap (jQ-1)) (IntKind.u64.wrap (mX+mH)))
 else
  qT y_2 s_8 mH lQ lT qN iR jQ)
def qV:Nat→Int→Int→Int→Int→Int→Int→Int→Int→Int→Option (Int×Int)
 |0=>fun _ _ _ _ _ _ _ _ _=>none
 |n+1=>aEj (qV n)
abbrev aEl(aB3:Int)(zE:Int)(y_2:Int):Option (Int×Int):=
 (bif (aB3==0) then
  ((chk (y_2 !=0)).bind fun _=>
  ((chk (y_2 !=0)).bind fun _=>
  some ((IntKind.u64.wrap (Int.tdiv zE y_2)),(Int.tmod zE y_2))))
 else
  ((kT y_2).bind fun r4=>
  ((chk (decide (0≤(IntKind.u64.wrap r4)))).bind fun _=>
  ((chk (decide (0≤(IntKind.u64.wrap r4)))).bind fun _=>
  ((chk (decide (0≤(IntKind.u64.wrap (64-(IntKind.u64.wrap r4)))))).bind fun _=>
  ((chk (decide (0≤(IntKind.u64.wrap r4)))).bind fun _=>
  ((chk ((shr .u64 (shl .u64 y_2 (IntKind.u64.wrap r4)) 32) !=0)).bind fun _=>
  qV bC (shl .u64 y_2 (IntKind.u64.wrap r4)) (IntKind.u64.wrap r4) (shr .u64 (shl .u64 y_2 (IntKind.u64.wrap r4)) 32) (aGj .u64 (shl .u64 y_2 (IntKind.u64.wrap r4)) 4294967295) (bor .u64 (shl .u64 aB3 (IntKind.u64.wrap r4)) (shr .u64 zE (IntKind.u64.wrap (64-(IntKind.u64.wrap r4))))) (shr .u64 (shl .u64 zE (IntKind.u64.wrap r4)) 32) (aGj .u64 (shl .u64 zE (IntKind.u64.wrap r4)) 4294967295) (IntKind.u64.wrap (Int.tdiv (bor .u64 (shl .u64 aB3 (IntKind.u64.wrap r4)) (shr .u64 zE (IntKind.u64.wrap (64-(IntKind.u64.wrap r4))))) (shr .u64 (shl .u64 y_2 (IntKind.u64.wrap r4)) 32))) (IntKind.u64.wrap ((bor .u64 (shl .u64 aB3 (IntKind.u64.wrap r4)) (shr .u64 zE (IntKind.u64.wrap (64-(IntKind.u64.wrap r4)))))-(IntKind.u64.wrap ((IntKind.u64.wrap (Int.tdiv (bor .u64 (shl .u64 aB3 (IntKind.u64.wrap r4)) (shr .u64 zE (IntKind.u64.wrap (64-(IntKind.u64.wrap r4))))) (shr .u64 (shl .u64 y_2 (IntKind.u64.wrap r4)) 32)))*(shr .u64 (shl .u64 y_2 (IntKind.u64.wrap r4)) 32))))))))))))
abbrev aEk(aB3:Int)(zE:Int)(y_2:Int):Option (Int×Int):=
 (bif (decide (y_2≤aB3)) then
  none
 else
  aEl aB3 zE y_2)
def xT(aB3:Int)(zE:Int)(y_2:Int):Option (Int×Int):=
 (bif (y_2==0) then
  none
 else
  aEk aB3 zE y_2)
theorem aXz{aB3:Int}{zE:Int}{y_2:Int}{r:Int×Int}(hm:xT aB3 zE y_2=some r):bO prog 163 [vu aB3,vu zE,vu y_2] (.tup [vu r.1,vu r.2]):=by
 refine bd 135 func163 ?_;refine V ?_;refine AWp.seqJ (fun s=> ∃aB3 zE y_2,s=⟨135,(aE (aE (aE fa 0 (vu aB3)) 1 (vu zE)) 2 (vu y_2)),⟨aZ,64⟩⟩∧aEk aB3 zE y_2=some r) ?_ ?_
 ·
  refine W ?_;refine cm hm (fun hm=>?_) fun hm=>?_
  · cases hm
  exact L
 rintro s ⟨aB3,zE,y_2,rfl,hm⟩;refine AWp.seqJ (fun s=> ∃aB3 zE y_2,s=⟨135,(aE (aE (aE fa 0 (vu aB3)) 1 (vu zE)) 2 (vu y_2)),⟨aZ,64⟩⟩∧aEl aB3 zE y_2=some r) ?_ ?_
 ·
  refine W ?_;refine cm hm (fun hm=>?_) fun hm=>?_
  · cases hm
  exact L
 rintro s ⟨aB3,zE,y_2,rfl,hm⟩;refine W ?_;refine cm hm (fun hm=>?_) fun hm=>?_
 · obtain ⟨_,h1,hm⟩:=bnd hm;obtain ⟨_,h2,hm⟩:=bnd hm;exact E
 obtain ⟨r4,h3,hm⟩:=bnd hm;refine W ?_;refine cq (xU h3) ?_;obtain ⟨_,h5,hm⟩:=bnd hm;obtain ⟨_,h6,hm⟩:=bnd hm;obtain ⟨_,h7,hm⟩:=bnd hm;obtain ⟨_,h8,hm⟩:=bnd hm;obtain ⟨_,h9,hm⟩:=bnd hm;refine V ?_;refine AWp.seqJ (fun s=> ∃y_2 s_8 mH lQ lT qN iR jQ,s=⟨135,(aE (aE (aE (aE (aE (aE (aE (aE fa 2 (vu y_2)) 8 (vu s_8)) 9 (vu mH)) 10 (vu lQ)) 11 (vu lT)) 13 (vu qN)) 14 (vu iR)) 15 (vu jQ)),⟨aZ,64⟩⟩∧qT y_2 s_8 mH lQ lT qN iR jQ=some r) ?_ ?_
 ·
  refine W ?_;refine lp (fun m s=> ∃y_2 s_8 mH lQ lT qN iR jQ mX,s=⟨135,(aE (aE (aE (aE (aE (aE (aE (aE (aE fa 2 (vu y_2)) 8 (vu s_8)) 9 (vu mH)) 10 (vu lQ)) 11 (vu lT)) 13 (vu qN)) 14 (vu iR)) 15 (vu jQ)) 16 (vu mX)),⟨aZ,64⟩⟩∧qV m y_2 s_8 mH lQ lT qN iR jQ mX=some r) L ?_;rintro n2 s ⟨y_2,s_8,mH,lQ,lT,qN,iR,jQ,mX,rfl,hm⟩;refine W ?_;refine cm hm (fun hm=>?_) fun hm=>?_
  ·
   refine W ?_;refine cm hm (fun hm=>?_) fun hm=>?_
   · refine W ?_;refine aTx Zd ?_;exact L
   exact L
  exact L
 rintro s ⟨y_2,s_8,mH,lQ,lT,qN,iR,jQ,rfl,hm⟩;obtain ⟨_,h10,hm⟩:=bnd hm;refine V ?_;refine AWp.seqJ (fun s=> ∃y_2 s_8 iR jQ rN zT,s=⟨135,(aE (aE (aE (aE (aE (aE fa 2 (vu y_2)) 8 (vu s_8)) 14 (vu iR)) 15 (vu jQ)) 17 (vu rN)) 18 (vu zT)),⟨aZ,64⟩⟩∧uM y_2 s_8 iR jQ rN zT=some r) ?_ ?_
 ·
  refine W ?_;refine lp (fun m s=> ∃y_2 s_8 mH lQ iR jQ mX rN zT,s=⟨135,(aE (aE (aE (aE (aE (aE (aE (aE (aE fa 2 (vu y_2)) 8 (vu s_8)) 9 (vu mH)) 10 (vu lQ)) 14 (vu iR)) 15 (vu jQ)) 16 (vu mX)) 17 (vu rN)) 18 (vu zT)),⟨aZ,64⟩⟩∧qU m y_2 s_8 mH lQ iR jQ mX rN zT=some r) L ?_;rintro n1 s ⟨y_2,s_8,mH,lQ,iR,jQ,mX,rN,zT,rfl,hm⟩;refine W ?_;refine cm hm (fun hm=>?_) fun hm=>?_
  ·
   refine W ?_;refine cm hm (fun hm=>?_) fun hm=>?_
   · refine W ?_;refine aTx Zd ?_;exact L
   exact L
  exact L
 rintro s ⟨y_2,s_8,iR,jQ,rN,zT,rfl,hm⟩;obtain ⟨_,h11,hm⟩:=bnd hm;exact E
instance:Ct prog 163 (K3 prog vu vu vu (t2 vu vu) 163 xT):=⟨fun hm=>aXz hm⟩
def aC5(aB3:Int)(zE:Int)(y_2:Int):Option (Int):=
 ((chk (y_2 !=0)).bind fun _=>
 ((xT (Int.tmod aB3 y_2) zE y_2).bind fun ⟨r3,r4⟩=>
 some r4))
theorem aY1:K3 prog vu vu vu vu 132 aC5:=fun hm=>be 19 func132 (h:=G)
instance:Ct prog 132 (K3 prog vu vu vu vu 132 aC5):=⟨aY1⟩
def aE1(a_0:Int)(b_1:Int):Option (Int):=
 ((aA3 a_0).bind fun r2=>
 ((aA3 b_1).bind fun r4=>
 ((xW r2 r4).bind fun ⟨r6,r7⟩=>
 ((aC5 r6 r7 2305843009213693951).bind fun r9=>
 some r9))))
theorem bLg:K2 prog vu vu vu 90 aE1:=fun hm=>be 18 func90 (h:=G)
instance:Ct prog 90 (K2 prog vu vu vu 90 aE1):=⟨bLg⟩
def kW(g_0:aF)(dX:Int)(v_2:Int):Option (Bool):=
 ((eC g_0).bind fun r2=>
 some ((((r2&&(decide (0≤dX)))&&(decide (dX<g_0.Config.L)))&&(decide (0≤v_2)))&&(decide (v_2<g_0.Config.N))))
theorem aLx:K3 prog cX vi vi vb 136 kW:=fun hm=>be 31 func136 (h:=G)
instance:Ct prog 136 (K3 prog cX vi vi vb 136 kW):=⟨aLx⟩
def aC9(n_0:Int)(l_1:List aD)(v_2:Int):Option ((List Int)):=
 ((mQ n_0 l_1).bind fun r2=>
 (bif (!r2) then
  some []
 else
  ((pO n_0 l_1).bind fun ⟨r4,r5⟩=>
  ((pH r4 v_2).bind fun r7=>
  some r7))))
theorem aYi:K3 prog vi (vl aO) vi (vl (ci .i64)) 215 aC9:=fun hm=>be 22 func215 (h:=G)
instance:Ct prog 215 (K3 prog vi (vl aO) vi (vl (ci .i64)) 215 aC9):=⟨aYi⟩
def nR(g_0:aF)(dX:Int)(v_2:Int):Option ((List Int)):=
 ((gU g_0.Config.N g_0.Edges dX).bind fun r2=>
 ((aC9 g_0.Config.N r2 v_2).bind fun r4=>
 some r4))
theorem aT3:K3 prog cX vi vi (vl (ci .i64)) 165 nR:=fun hm=>be 19 func165 (h:=G)
instance:Ct prog 165 (K3 prog cX vi vi (vl (ci .i64)) 165 nR):=⟨aT3⟩
def aJi(rec1:Int→List Int→Int→Int→Option (Bool))(n_0:Int)(t13:List Int)(t14:Int)(t15:Int):Option (Bool):=
 (bif (decide (t15<t14)) then
  ((idx t13 t15).bind fun x4=>
  (bif ((decide (x4<0))||(decide (n_0≤x4))) then
   some false
  else
   rec1 n_0 t13 t14 (IntKind.i64.wrap (t15+1))))
 else
  some true)
def aAv:Nat→Int→List Int→Int→Int→Option (Bool)
 |0=>fun _ _ _ _=>none
 |n+1=>aJi (aAv n)
def aI5(n_0:Int)(l_1:List aD)(aIz:List Int):Option (Bool):=
 ((iN n_0 l_1).bind fun r2=>
 (bif (!r2) then
  some false
 else
  aAv bC n_0 aIz (aIz.length:Int) 0))
theorem aTt:K3 prog vi (vl aO) (vl (ci .i64)) vb 213 aI5:=by
 intro n_0 l_1 aIz r hm
 let I1:=((fun m s=> ∃n_0 t13 t14 t15,s=⟨27,(aE (aE (aE (aE fa 0 (vi n_0)) 13 (vl (ci .i64) t13)) 14 (vi t14)) 15 (vi t15)),⟨aZ,64⟩⟩∧aAv m n_0 t13 t14 t15=some r):Nat→St→Prop)
 exact be 27 func213 (h:=G)
instance:Ct prog 213 (K3 prog vi (vl aO) (vl (ci .i64)) vb 213 aI5):=⟨aTt⟩
attribute [local semireducible] bC
end Go.Proofs.YtkdohhmacfoolaaGreatDoor
