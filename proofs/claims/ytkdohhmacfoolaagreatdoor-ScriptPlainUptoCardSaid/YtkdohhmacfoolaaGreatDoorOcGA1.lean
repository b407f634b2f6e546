/- Facts. No condition. -/
import Derived.Test.YtkdohhmacfoolaaGreatDoorOcOf
import Derived.Test.YtkdohhmacfoolaaGreatDoorOcAmF
set_option linter.unusedVariables false
set_option linter.unusedSimpArgs false
set_option maxRecDepth 20000
set_option maxHeartbeats 4000000
namespace Go.Proofs.YtkdohhmacfoolaaGreatDoor
open Go.Proofs.Tryz Go Go.AM
attribute [local irreducible] bF
def bEs:ByteArray:=⟨#[0,1,2,2,3,3,3,3,4,4,4,4,4,4,4,4,5,5,5,5,5,5,5,5,5,5,5,5,5,5,5,5,6,6,6,6,6,6,6,6,6,6,6,6,6,6,6,6,6,6,6,6,6,6,6,6,6,6,6,6,6,6,6,6,7,7,7,7,7,7,7,7,7,7,7,7,7,7,7,7,7,7,7,7,7,7,7,7,7,7,7,7,7,7,7,7,7,7,7,7,7,7,7,7,7,7,7,7,7,7,7,7,7,7,7,7,7,7,7,7,7,7,7,7,7,7,7,7,8,8,8,8,8,8,8,8,8,8,8,8,8,8,8,8,8,8,8,8,8,8,8,8,8,8,8,8,8,8,8,8,8,8,8,8,8,8,8,8,8,8,8,8,8,8,8,8,8,8,8,8,8,8,8,8,8,8,8,8,8,8,8,8,8,8,8,8,8,8,8,8,8,8,8,8,8,8,8,8,8,8,8,8,8,8,8,8,8,8,8,8,8,8,8,8,8,8,8,8,8,8,8,8,8,8,8,8,8,8,8,8,8,8,8,8,8,8,8,8,8,8,8,8,8,8,8,8]⟩
structure aY where
 N:Int
 L:Int
 R:Int
deriving DecidableEq
def aHk(e:aY):List AV:=[.v (.int .i64 e.N),.v (.int .i64 e.L),.v (.int .i64 e.R)]
theorem bA5:CF aHk 3:=⟨fun _=>rfl,fun a x hx=>by
 simp only [aHk,List.mem_cons,List.not_mem_nil,or_false] at hx;rcases hx with rfl|rfl|rfl
 · exact (.v _)
 · exact (.v _)
 · exact (.v _),fun _=>rfl⟩
instance:CC aHk 3:=⟨bA5⟩
abbrev aO6(e:aY):AV:= .agg [.v (.int .i64 e.N),vi e.L,vi e.R]
@[go_sem] theorem aRc(e:aY)(r:List AV):aHk e++r= .v (.int .i64 e.N):: .v (.int .i64 e.L):: .v (.int .i64 e.R)::r:=rfl
structure bQ where
 A:Int
 B:Int
deriving DecidableEq
def bS(e:bQ):List AV:=[.v (.int .u64 e.A),.v (.int .u64 e.B)]
theorem mL:CF bS 2:=⟨fun _=>rfl,fun a x hx=>by
 simp only [bS,List.mem_cons,List.not_mem_nil,or_false] at hx;rcases hx with rfl|rfl
 · exact (.v _)
 · exact (.v _),fun _=>rfl⟩
instance:CC bS 2:=⟨mL⟩
abbrev aT2(e:bQ):AV:= .agg [.v (.int .u64 e.A),vu e.B]
instance:CE prog 27 bS 2 (bQ.mk 0 0):=⟨_,underlying27,bKu,bL5,inferInstance,mL,by decide,by decide⟩
@[go_sem] theorem aWo(e:bQ)(r:List AV):bS e++r= .v (.int .u64 e.A):: .v (.int .u64 e.B)::r:=rfl
structure aH where
 Config:aY
 Hashes:List bQ
 Edges:List aC
deriving DecidableEq
def aLs(e:aH):List AV:=[.v (.int .i64 e.Config.N),.v (.int .i64 e.Config.L),.v (.int .i64 e.Config.R),.sl (e.Hashes.flatMap bS) e.Hashes.length false,.sl (e.Edges.flatMap aU) e.Edges.length false]
theorem bDp:CF aLs 5:=⟨fun _=>rfl,fun a x hx=>by
 simp only [aLs,List.mem_cons,List.not_mem_nil,or_false] at hx;rcases hx with rfl|rfl|rfl|rfl|rfl
 · exact (.v _)
 · exact (.v _)
 · exact (.v _)
 · exact (mL.sl _ _ _)
 · exact (bT.sl _ _ _),fun _=>rfl⟩
instance:CC aLs 5:=⟨bDp⟩
abbrev cU(e:aH):AV:= .agg [.v (.int .i64 e.Config.N),vi e.Config.L,vi e.Config.R,vl bS e.Hashes,vl aU e.Edges]
@[go_sem] theorem aTu(e:aH)(r:List AV):aLs e++r= .v (.int .i64 e.Config.N):: .v (.int .i64 e.Config.L):: .v (.int .i64 e.Config.R):: .sl (e.Hashes.flatMap bS) e.Hashes.length false:: .sl (e.Edges.flatMap aU) e.Edges.length false::r:=rfl
theorem bF7(x0 y0 x1 y1 x2 y2:Int):eZ prog .eql 61 (.agg [.v (.int .i64 x0),.v (.int .i64 x1),.v (.int .i64 x2)]) (.agg [.v (.int .i64 y0),.v (.int .i64 y1),.v (.int .i64 y2)])=some (.v (.bool ((x0==y0)&&((x1==y1)&&(x2==y2))))):=
 (by kernel_rfl:eZ prog .eql 61 (.agg [.v (.int .i64 x0),.v (.int .i64 x1),.v (.int .i64 x2)]) (.agg [.v (.int .i64 y0),.v (.int .i64 y1),.v (.int .i64 y2)])=some (.v (.bool ((x0==y0)&&((x1==y1)&&((x2==y2)&&true)))))).trans (by rw [Bool.and_true])
theorem bGl(x0 y0 x1 y1 x2 y2:Int):eZ prog .neq 61 (.agg [.v (.int .i64 x0),.v (.int .i64 x1),.v (.int .i64 x2)]) (.agg [.v (.int .i64 y0),.v (.int .i64 y1),.v (.int .i64 y2)])=some (.v (.bool (!((x0==y0)&&((x1==y1)&&(x2==y2)))))):=
 (by kernel_rfl:eZ prog .neq 61 (.agg [.v (.int .i64 x0),.v (.int .i64 x1),.v (.int .i64 x2)]) (.agg [.v (.int .i64 y0),.v (.int .i64 y1),.v (.int .i64 y2)])=some (.v (.bool (!((x0==y0)&&((x1==y1)&&((x2==y2)&&true))))))).trans (by rw [Bool.and_true])
attribute [go_sem] bF7 bGl
@[go_sem] theorem bAw(xs:List AV):aN prog 61 (.ptr (xs)) 0=some (.ptr xs):=by kernel_rfl
@[go_sem] theorem bAx(x0:AV)(xs:List AV):aN prog 61 (.ptr (x0::xs)) 1=some (.ptr xs):=by kernel_rfl
@[go_sem] theorem bAy(x0:AV)(x1:AV)(xs:List AV):aN prog 61 (.ptr (x0::x1::xs)) 2=some (.ptr xs):=by kernel_rfl
@[go_sem] theorem bAz(xs:List AV):aN prog 94 (.ptr (xs)) 0=some (.ptr xs):=by kernel_rfl
@[go_sem] theorem bB0(x0:AV)(xs:List AV):aN prog 94 (.ptr (x0::xs)) 1=some (.ptr xs):=by kernel_rfl
@[go_sem] theorem bB6(i o:Nat):aN prog 23 (.adr i o) 0=some (.adr i (o+0)):=by kernel_rfl
@[go_sem] theorem bBb(i o:Nat):aN prog 23 (.adr i o) 1=some (.adr i (o+1)):=by kernel_rfl
@[go_sem] theorem bBf(i o:Nat):aN prog 23 (.adr i o) 2=some (.adr i (o+2)):=by kernel_rfl
@[go_sem] theorem bBj(i o:Nat):aN prog 30 (.adr i o) 0=some (.adr i (o+0)):=by kernel_rfl
@[go_sem] theorem bBo(i o:Nat):aN prog 30 (.adr i o) 1=some (.adr i (o+3)):=by kernel_rfl
@[go_sem] theorem bBq(i o:Nat):aN prog 30 (.adr i o) 2=some (.adr i (o+4)):=by kernel_rfl
@[go_sem] theorem bC5(i o:Nat):aN prog 61 (.adr i o) 0=some (.adr i (o+0)):=by kernel_rfl
@[go_sem] theorem bCb(i o:Nat):aN prog 61 (.adr i o) 1=some (.adr i (o+1)):=by kernel_rfl
@[go_sem] theorem bCh(i o:Nat):aN prog 61 (.adr i o) 2=some (.adr i (o+2)):=by kernel_rfl
@[go_sem] theorem bCn(i o:Nat):aN prog 94 (.adr i o) 0=some (.adr i (o+0)):=by kernel_rfl
@[go_sem] theorem bCp(i o:Nat):aN prog 94 (.adr i o) 1=some (.adr i (o+1)):=by kernel_rfl
@[go_sem] theorem bJ2(H:aG)(x0 x1 x2:AV)(xs:List AV):cE prog H 23 (.ptr (x0::x1::x2::xs))=some (.agg [x0,x1,x2]):=by kernel_rfl
@[go_sem] theorem bJ7(H:aG)(x:AV)(xs:List AV):cE prog H 27 (.ptr (x::xs))=some x:=by kernel_rfl
@[go_sem] theorem bJ9(H:aG)(x:AV)(xs:List AV):cE prog H 28 (.ptr (x::xs))=some x:=by kernel_rfl
@[go_sem] theorem bN0(H:aG)(x:AV)(xs:List AV):cE prog H 3 (.ptr (x::xs))=some x:=by kernel_rfl
@[go_sem] theorem bJe(H:aG)(x0 x1 x2 x3 x4:AV)(xs:List AV):cE prog H 30 (.ptr (x0::x1::x2::x3::x4::xs))=some (.agg [x0,x1,x2,x3,x4]):=by kernel_rfl
@[go_sem] theorem bJp(H:aG)(x:AV)(xs:List AV):cE prog H 40 (.ptr (x::xs))=some x:=by kernel_rfl
@[go_sem] theorem bJv(H:aG)(x0 x1 x2:AV)(xs:List AV):cE prog H 61 (.ptr (x0::x1::x2::xs))=some (.agg [x0,x1,x2]):=by kernel_rfl
@[go_sem] theorem bK1(H:aG)(x0 x1:AV)(xs:List AV):cE prog H 94 (.ptr (x0::x1::xs))=some (.agg [x0,x1]):=by kernel_rfl
@[go_sem] theorem aWy(H:aG)(k:IntKind)(n:Int):mV prog H 3 162 (.v (.int k n))=some (.v (.int .u64 (IntKind.u64.wrap n))):=iA underlying3 underlying162
@[go_sem] theorem bEz(H:aG)(k:IntKind)(n:Int):mV prog H 5 3 (.v (.int k n))=some (.v (.int .i64 (IntKind.i64.wrap n))):=iA underlying5 underlying3
@[go_sem] theorem bAt(H:aG)(k:IntKind)(n:Int):mV prog H 40 5 (.v (.int k n))=some (.v (.int .u8 (IntKind.u8.wrap n))):=iA underlying40 underlying5
def mG(bHa:Int):Option (Bool):=
 some ((decide (0≤bHa))&&(decide (bHa≤16)))
theorem aG2:K1 prog vi vb 133 mG:=fun hm=>be 9 func133 (h:=G)
instance:Ct prog 133 (K1 prog vi vb 133 mG):=⟨aG2⟩
def rC(a_0:aC)(b_1:aC):Option (Bool):=
 some ((decide (a_0.U<b_1.U))||((a_0.U==b_1.U)&&(decide (a_0.V<b_1.V))))
theorem aN5:K2 prog aD6 aD6 vb 134 rC:=fun hm=>be 24 func134 (h:=G)
instance:Ct prog 134 (K2 prog aD6 aD6 vb 134 rC):=⟨aN5⟩
def aB4(rec1:Int→List aC→List aC→Int→Int→Option (Bool))(n_0:Int)(l_1:List aC)(t13:List aC)(t14:Int)(t15:Int):Option (Bool):=
 (bif (decide (t15<t14)) then
  ((idx t13 t15).bind fun x2=>
  ((gO ((((decide (x2.U<0))||(decide (x2.V≤x2.U)))||(decide (n_0≤x2.V)))==false) false (mG x2.Tier)).bind fun r4=>
  (bif ((((decide (x2.U<0))||(decide (x2.V≤x2.U)))||(decide (n_0≤x2.V)))||(!r4)) then
   some false
  else
   ((gO ((decide (0<t15))==true) (aC.mk 0 0 0) (idx l_1 (IntKind.i64.wrap (t15-1)))).bind fun x6=>
   ((gO ((decide (0<t15))==true) false (rC x6 x2)).bind fun r8=>
   (bif ((decide (0<t15))&&(!r8)) then
    some false
   else
    rec1 n_0 l_1 t13 t14 (IntKind.i64.wrap (t15+1))))))))
 else
  some true)
def qM:Nat→Int→List aC→List aC→Int→Int→Option (Bool)
 |0=>fun _ _ _ _ _=>none
 |n+1=>aB4 (qM n)
def gX(n_0:Int)(l_1:List aC):Option (Bool):=
 (bif ((decide (n_0<0))||(decide (1024<n_0))) then
  some false
 else
  qM bF n_0 l_1 l_1 (l_1.length:Int) 0)
theorem xI:K2 prog vi (vl aU) vb 92 gX:=by
 intro n_0 l_1 r hm
 let I1:=((fun m s=> ∃n_0 l_1 t13 t14 t15,s=⟨55,(aF (aF (aF (aF (aF fa 0 (vi n_0)) 1 (vl aU l_1)) 13 (vl aU t13)) 14 (vi t14)) 15 (vi t15)),⟨bD,64⟩⟩∧qM m n_0 l_1 t13 t14 t15=some r):Nat→St→Prop)
 exact be 55 func92 (h:=G)
instance:Ct prog 92 (K2 prog vi (vl aU) vb 92 gX):=⟨xI⟩
abbrev zJ(rec1:Int→List aC→List aC→Int→Int→Option ((List aC)))(zK:Int)(sG:List aC)(t14:List aC)(t15:Int)(t16:Int):Option ((List aC)):=
 rec1 zK sG t14 t15 (IntKind.i64.wrap (t16+1))
def zI(rec1:Int→List aC→List aC→Int→Int→Option ((List aC)))(zK:Int)(sG:List aC)(t14:List aC)(t15:Int)(t16:Int):Option ((List aC)):=
 (bif (decide (t16<t15)) then
  ((idx t14 t16).bind fun x4=>
  (bif ((decide (1≤x4.Tier))&&(decide (x4.Tier≤zK))) then
   ((app sG [x4]).bind fun l6=>
   zJ rec1 zK l6 t14 t15 t16)
  else
   zJ rec1 zK sG t14 t15 t16))
 else
  some sG)
def nS:Nat→Int→List aC→List aC→Int→Int→Option ((List aC))
 |0=>fun _ _ _ _ _=>none
 |n+1=>zI (nS n)
def iN(n_0:Int)(l_1:List aC)(zK:Int):Option ((List aC)):=
 ((gX n_0 l_1).bind fun r2=>
 (bif (!r2) then
  some []
 else
  nS bF zK [] l_1 (l_1.length:Int) 0))
theorem aG1:K3 prog vi (vl aU) vi (vl aU) 55 iN:=by
 intro n_0 l_1 zK r hm
 let I1:=((fun m s=> ∃zK sG t14 t15 t16,s=⟨35,(aF (aF (aF (aF (aF fa 2 (vi zK)) 7 (.own 1 0 sG.length)) 14 (vl aU t14)) 15 (vi t15)) 16 (vi t16)),⟨(upd bD 1 (.cells 3 (sG.flatMap aU) 0)),64⟩⟩∧nS m zK sG t14 t15 t16=some r):Nat→St→Prop)
 exact be 35 func55 (h:=G)
instance:Ct prog 55 (K3 prog vi (vl aU) vi (vl aU) 55 iN):=⟨aG1⟩
def aCl(rec1:List Int→List Int→Int→Int→Option (Bool))(p_0:List Int)(t5:List Int)(t6:Int)(t7:Int):Option (Bool):=
 (bif (decide (t7<t6)) then
  ((idx t5 t7).bind fun x2=>
  ((gH (p_0.length:Int) x2).bind fun r4=>
  ((gO (((!r4)||(decide (t7<x2)))==false) 0 (idx p_0 x2)).bind fun x6=>
  (bif (((!r4)||(decide (t7<x2)))||(x6 !=x2)) then
   some false
  else
   rec1 p_0 t5 t6 (IntKind.i64.wrap (t7+1))))))
 else
  some true)
def sR:Nat→List Int→List Int→Int→Int→Option (Bool)
 |0=>fun _ _ _ _=>none
 |n+1=>aCl (sR n)
def rP(p_0:List Int):Option (Bool):=
 sR bF p_0 p_0 (p_0.length:Int) 0
theorem aUx:K1 prog (vl (ci .i64)) vb 56 rP:=by
 intro p_0 r hm
 let I1:=((fun m s=> ∃p_0 t5 t6 t7,s=⟨31,(aF (aF (aF (aF fa 0 (vl (ci .i64) p_0)) 5 (vl (ci .i64) t5)) 6 (vi t6)) 7 (vi t7)),⟨bD,64⟩⟩∧sR m p_0 t5 t6 t7=some r):Nat→St→Prop)
 exact be 31 func56 (h:=G)
instance:Ct prog 56 (K1 prog (vl (ci .i64)) vb 56 rP):=⟨aUx⟩
abbrev aEi(rec1:Int→List Int→Int→Int→Option (Int))(aE3:Int)(t9:List Int)(t10:Int)(t11:Int):Option (Int):=
 rec1 aE3 t9 t10 (IntKind.i64.wrap (t11+1))
def aEh(rec1:Int→List Int→Int→Int→Option (Int))(aE3:Int)(t9:List Int)(t10:Int)(t11:Int):Option (Int):=
 (bif (decide (t11<t10)) then
  ((idx t9 t11).bind fun x4=>
  (bif (t11==x4) then
   aEi rec1 (IntKind.i64.wrap (aE3+1)) t9 t10 t11
  else
   aEi rec1 aE3 t9 t10 t11))
 else
  some aE3)
def vE:Nat→Int→List Int→Int→Int→Option (Int)
 |0=>fun _ _ _ _=>none
 |n+1=>aEh (vE n)
def yW(p_0:List Int):Option (Int):=
 ((rP p_0).bind fun r2=>
 (bif (!r2) then
  some 0
 else
  vE bF 0 p_0 (p_0.length:Int) 0))
theorem aYd:K1 prog (vl (ci .i64)) vi 135 yW:=by
 intro p_0 r hm
 let I1:=((fun m s=> ∃aE3 t9 t10 t11,s=⟨23,(aF (aF (aF (aF fa 3 (vi aE3)) 9 (vl (ci .i64) t9)) 10 (vi t10)) 11 (vi t11)),⟨bD,64⟩⟩∧vE m aE3 t9 t10 t11=some r):Nat→St→Prop)
 exact be 23 func135 (h:=G)
instance:Ct prog 135 (K1 prog (vl (ci .i64)) vi 135 yW):=⟨aYd⟩
def lF(n_0:Int)(l_1:List aC):Option (Bool):=
 ((qC n_0 l_1).bind fun ⟨r2,r3⟩=>
 ((gO ((r3==0)==true) 0 (yW r2)).bind fun r5=>
 some ((r3==0)&&(r5==(IntKind.i64.wrap (n_0-(l_1.length:Int)))))))
theorem aHx:K2 prog vi (vl aU) vb 93 lF:=fun hm=>be 24 func93 (h:=G)
instance:Ct prog 93 (K2 prog vi (vl aU) vb 93 lF):=⟨aHx⟩
def zD(rec2:aH→aY→List aC→Int→Int→Option (Bool))(g_1:aH)(c_3:aY)(t70:List aC)(t71:Int)(t72:Int):Option (Bool):=
 (bif (decide (t72<t71)) then
  ((idx t70 t72).bind fun x6=>
  (bif (decide (c_3.L<x6.Tier)) then
   some false
  else
   rec2 g_1 c_3 t70 t71 (IntKind.i64.wrap (t72+1))))
 else
  ((iN c_3.N g_1.Edges c_3.L).bind fun r8=>
  ((lF c_3.N r8).bind fun r10=>
  some r10)))
def nL:Nat→aH→aY→List aC→Int→Int→Option (Bool)
 |0=>fun _ _ _ _ _=>none
 |n+1=>zD (nL n)
def zC(rec1:aH→aY→List bQ→Int→Int→Option (Bool))(g_1:aH)(c_3:aY)(t48:List bQ)(t49:Int)(t50:Int):Option (Bool):=
 (bif (decide (t50<t49)) then
  ((idx t48 t50).bind fun x2=>
  (bif ((decide (2305843009213693951≤x2.A))||(decide (2305843009213693951≤x2.B))) then
   some false
  else
   rec1 g_1 c_3 t48 t49 (IntKind.i64.wrap (t50+1))))
 else
  ((gX c_3.N g_1.Edges).bind fun r4=>
  (bif (!r4) then
   some false
  else
   nL bF g_1 c_3 g_1.Edges (g_1.Edges.length:Int) 0)))
def nK:Nat→aH→aY→List bQ→Int→Int→Option (Bool)
 |0=>fun _ _ _ _ _=>none
 |n+1=>zC (nK n)
def eK(g_0:aH):Option (Bool):=
 (bif ((((((decide (g_0.Config.N<1))||(decide (1024<g_0.Config.N)))||(decide (g_0.Config.L<1)))||(decide (16<g_0.Config.L)))||(decide (g_0.Config.R<1)))||(decide (8<g_0.Config.R))) then
  some false
 else
  (bif ((g_0.Hashes.length:Int) !=(IntKind.i64.wrap (g_0.Config.L*g_0.Config.R))) then
   some false
  else
   nK bF g_0 g_0.Config g_0.Hashes (g_0.Hashes.length:Int) 0))
theorem aP5:K1 prog cU vb 45 eK:=by
 intro g_0 r hm
 let I1:=((fun m s=> ∃g_1 c_3 t48 t49 t50,s=⟨92,(aF (aF (aF (aF (aF fa 1 (.adr 1 0)) 3 (.adr 2 0)) 48 (vl bS t48)) 49 (vi t49)) 50 (vi t50)),⟨(upd (upd bD 1 (.cells 1 [vi g_1.Config.N,vi g_1.Config.L,vi g_1.Config.R,vl bS g_1.Hashes,vl aU g_1.Edges] 0)) 2 (.cells 1 [vi c_3.N,vi c_3.L,vi c_3.R] 0)),64⟩⟩∧nK m g_1 c_3 t48 t49 t50=some r):Nat→St→Prop)
 let I2:=((fun m s=> ∃g_1 c_3 t70 t71 t72,s=⟨92,(aF (aF (aF (aF (aF fa 1 (.adr 1 0)) 3 (.adr 2 0)) 70 (vl aU t70)) 71 (vi t71)) 72 (vi t72)),⟨(upd (upd bD 1 (.cells 1 [vi g_1.Config.N,vi g_1.Config.L,vi g_1.Config.R,vl bS g_1.Hashes,vl aU g_1.Edges] 0)) 2 (.cells 1 [vi c_3.N,vi c_3.L,vi c_3.R] 0)),64⟩⟩∧nL m g_1 c_3 t70 t71 t72=some r):Nat→St→Prop)
 exact be 92 func45 (h:=G)
instance:Ct prog 45 (K1 prog cU vb 45 eK):=⟨aP5⟩
def lC(g_0:aH):Option ((List Int)):=
 ((eK g_0).bind fun r2=>
 (bif (!r2) then
  some []
 else
  ((iN g_0.Config.N g_0.Edges g_0.Config.L).bind fun r4=>
  ((qC g_0.Config.N r4).bind fun ⟨r6,r7⟩=>
  some r6))))
theorem aVm:K1 prog cU (vl (ci .i64)) 20 lC:=fun hm=>be 25 func20 (h:=G)
instance:Ct prog 20 (K1 prog cU (vl (ci .i64)) 20 lC):=⟨aVm⟩
def aBb(g_0:aH):Option ((List Int)):=
 ((eK g_0).bind fun r2=>
 (bif (!r2) then
  some []
 else
  ((qC g_0.Config.N g_0.Edges).bind fun ⟨r4,r5⟩=>
  some r4)))
theorem bAd:K1 prog cU (vl (ci .i64)) 58 aBb:=fun hm=>be 18 func58 (h:=G)
instance:Ct prog 58 (K1 prog cU (vl (ci .i64)) 58 aBb):=⟨bAd⟩
def tA(rec1:List Int→List Int→Int→Int→Option (Bool))(aP0:List Int)(aSo:List Int)(t12:Int)(t13:Int):Option (Bool):=
 (bif (decide (t13<t12)) then
  ((idx aP0 t13).bind fun x2=>
  ((idx aSo t13).bind fun x4=>
  (bif (x2 !=x4) then
   some false
  else
   rec1 aP0 aSo t12 (IntKind.i64.wrap (t13+1)))))
 else
  some true)
def kA:Nat→List Int→List Int→Int→Int→Option (Bool)
 |0=>fun _ _ _ _=>none
 |n+1=>tA (kA n)
def kS(aP0:List Int)(aSo:List Int):Option (Bool):=
 (bif ((aP0.length:Int) !=(aSo.length:Int)) then
  some false
 else
  kA bF aP0 aSo (aP0.length:Int) 0)
theorem aJu:K2 prog (vl (ci .i64)) (vl (ci .i64)) vb 57 kS:=by
 intro aP0 aSo r hm
 let I1:=((fun m s=> ∃aP0 aSo t12 t13,s=⟨26,(aF (aF (aF (aF fa 0 (vl (ci .i64) aP0)) 1 (vl (ci .i64) aSo)) 12 (vi t12)) 13 (vi t13)),⟨bD,64⟩⟩∧kA m aP0 aSo t12 t13=some r):Nat→St→Prop)
 exact be 26 func57 (h:=G)
instance:Ct prog 57 (K2 prog (vl (ci .i64)) (vl (ci .i64)) vb 57 kS):=⟨aJu⟩
def rY(g_0:aH):Option (Bool):=
 ((eK g_0).bind fun r2=>
 ((gO (r2==true) [] (lC g_0)).bind fun r4=>
 ((gO (r2==true) [] (aBb g_0)).bind fun r6=>
 ((gO (r2==true) false (kS r4 r6)).bind fun r8=>
 some (r2&&r8)))))
theorem aR8:K1 prog cU vb 25 rY:=fun hm=>be 12 func25 (h:=G)
instance:Ct prog 25 (K1 prog cU vb 25 rY):=⟨aR8⟩
def fF(l:List bQ):Option (List bQ):=aR5 16 [] l
theorem aGv{r:List bQ}(hm:some []=some r):dQ prog 75 [.v (.slice none 0 0)] 2 (r.flatMap bS) r.length:=by
 refine dQ.of_body func75 rfl (mL.fmdat r) ?_;simp only [ntmps75,List.length_cons,List.length_nil,Nat.reduceAdd,Nat.reduceSub,fH];refine sN 64 (pA ?_);refine fs (AWp.seq' (sN 128 (pA ?_)));refine pu rfl (vL Z1 Z1 (aH8 underlying27)) ?_;refine fs (AWp.condT Z1 ?_);refine sN 192 (pA ?_);refine fs (AWp.weaken (sL 2 900002 2 Z1 Z5) ?_);refine AWp.ret (iD ?_);cases hm;exact aIg (.inr rfl) Tryz.results75 Z1 Z3 Z6
theorem aGw{a:Addr}{c:Nat}{r:List bQ}(hm:((aR5 16 [] []).bind fun l2=>
some l2)=some r):dQ prog 75 [.v (.slice (some a) 0 c)] 2 (r.flatMap bS) r.length:=by
 refine dQ.of_body func75 rfl (mL.fmdat r) ?_;simp only [ntmps75,List.length_cons,List.length_nil,Nat.reduceAdd,Nat.reduceSub,fH];refine sN 64 (pA ?_);refine fs (AWp.seq' (sN 128 (pA ?_)));refine pu rfl (vL Z1 Z1 (aF4 underlying27)) ?_;refine fs (AWp.condF Z1 ?_);refine AWp.skip (bM (sN 192 (hp (id:=128) rfl rfl (jF mL (l:=[]) underlying27 bKu bL5 Z5 Zd Zd Zd (by simp only [go_sem,Nat.reduceBEq];try rfl) (by kernel_rfl)) ?_)));refine pA ?_;obtain ⟨l2,h1,hm⟩:=bnd hm;refine hp (id:=130) rfl rfl (aZ1 mL underlying27 underlying27 rfl bMy bO2 bDl (by rw [bDl];decide) bO6 Zd Zd Z1 Z3 Z6 (aLq Z1) rfl Z5 h1) ?_;refine pA ?_;refine fs (AWp.ret ?_);cases hm;exact aIg (.inr rfl) Tryz.results75 Z1 Z3 Z6
theorem aGx{x0:bQ}{l0:List bQ}{r:List bQ}(hm:((aR5 16 [] (x0::l0)).bind fun l2=>
some l2)=some r):dQ prog 75 [.sl ((x0::l0).flatMap bS) (x0::l0).length false] 2 (r.flatMap bS) r.length:=by
 refine dQ.of_body func75 rfl (mL.fmdat r) ?_;simp only [ntmps75,List.length_cons,List.length_nil,Nat.reduceAdd,Nat.reduceSub,fH];refine sN 64 (pA ?_);refine fs (AWp.seq' (sN 128 (pA ?_)));refine pu rfl (vL Z1 Z1 (aF3 underlying27 (by simp))) ?_;refine fs (AWp.condF Z1 ?_);refine AWp.skip (bM (sN 192 (hp (id:=128) rfl rfl (jF mL (l:=[]) underlying27 bKu bL5 Z5 Zd Zd Zd (by simp only [go_sem,Nat.reduceBEq];try rfl) (by kernel_rfl)) ?_)));refine pA ?_;obtain ⟨l2,h1,hm⟩:=bnd hm;refine hp (id:=130) rfl rfl (aZ1 mL underlying27 underlying27 rfl bMy bO2 bDl (by rw [bDl];decide) bO6 Zd Zd Z1 Z3 Z6 (aPk mL Z1 rfl) rfl Z5 h1) ?_;refine pA ?_;refine fs (AWp.ret ?_);cases hm;exact aIg (.inr rfl) Tryz.results75 Z1 Z3 Z6
theorem aIs{l r:List bQ}(hm:fF l=some r):dQ prog 75 [.sl (l.flatMap bS) l.length false] 2 (r.flatMap bS) r.length:=by
 cases l with
 |nil=>
  have hr:r=[]:=by unfold fF aR5 at hm;simpa using hm.symm
  subst hr;exact dQ.nil_arg (aGv (r:=[]) rfl) (fun a c=>aGw (r:=[]) rfl)
 |cons x0 l0=>
  refine aGx ?_;show (aR5 16 [] (x0::l0)).bind _=_;unfold fF at hm;rw [hm];rfl
theorem aIr{l r:List bQ}(hm:fF l=some r):bN prog 75 [.sl (l.flatMap bS) l.length false] (.sl (r.flatMap bS) r.length false):=bN.of_fresh mL (aIs hm)
instance:Ct prog 75 (K1 prog (vl bS) (vl bS) 75 fF):=⟨fun hm=>aIr hm⟩
def zM(c_0:aY)(bFo:List bQ):Option (aH×Int):=
 ((fF bFo).bind fun r2=>
 ((eK (aH.mk c_0 r2 [])).bind fun r4=>
 (bif (!r4) then
  some ((aH.mk (aY.mk 0 0 0) [] []),1)
 else
  some ((aH.mk c_0 r2 []),0))))
theorem aO2:K2 prog aO6 (vl bS) (t2 cU vi) 34 zM:=fun hm=>be 16 func34 (h:=G)
instance:Ct prog 34 (K2 prog aO6 (vl bS) (t2 cU vi) 34 zM):=⟨aO2⟩
def aE9(rec1:Int→Int→List aC→Int→Int→Option (Int×Bool))(u_1:Int)(v_2:Int)(t10:List aC)(t11:Int)(t12:Int):Option (Int×Bool):=
 (bif (decide (t12<t11)) then
  ((idx t10 t12).bind fun x2=>
  (bif (((x2.U==u_1)&&(x2.V==v_2))||((x2.U==v_2)&&(x2.V==u_1))) then
   some (t12,true)
  else
   rec1 u_1 v_2 t10 t11 (IntKind.i64.wrap (t12+1))))
 else
  some (0,false))
def vD:Nat→Int→Int→List aC→Int→Int→Option (Int×Bool)
 |0=>fun _ _ _ _ _=>none
 |n+1=>aE9 (vD n)
def lI(l_0:List aC)(u_1:Int)(v_2:Int):Option (Int×Bool):=
 vD bF u_1 v_2 l_0 (l_0.length:Int) 0
theorem aCh:K3 prog (vl aU) vi vi (t2 vi vb) 80 lI:=by
 intro l_0 u_1 v_2 r hm
 let I1:=((fun m s=> ∃u_1 v_2 t10 t11 t12,s=⟨41,(aF (aF (aF (aF (aF fa 1 (vi u_1)) 2 (vi v_2)) 10 (vl aU t10)) 11 (vi t11)) 12 (vi t12)),⟨bD,64⟩⟩∧vD m u_1 v_2 t10 t11 t12=some r):Nat→St→Prop)
 exact be 41 func80 (h:=G)
instance:Ct prog 80 (K3 prog (vl aU) vi vi (t2 vi vb) 80 lI):=⟨aCh⟩
abbrev aCj(rec1:List Int→Int→List Int→List Int→Int→Int→Option ((List Int)))(p_0:List Int)(v_1:Int)(wL:List Int)(t18:List Int)(t19:Int)(t20:Int):Option ((List Int)):=
 rec1 p_0 v_1 wL t18 t19 (IntKind.i64.wrap (t20+1))
def aCi(rec1:List Int→Int→List Int→List Int→Int→Int→Option ((List Int)))(p_0:List Int)(v_1:Int)(wL:List Int)(t18:List Int)(t19:Int)(t20:Int):Option ((List Int)):=
 (bif (decide (t20<t19)) then
  ((idx t18 t20).bind fun x6=>
  ((idx p_0 v_1).bind fun x8=>
  (bif (x6==x8) then
   ((app wL [t20]).bind fun l10=>
   aCj rec1 p_0 v_1 l10 t18 t19 t20)
  else
   aCj rec1 p_0 v_1 wL t18 t19 t20)))
 else
  some wL)
def sQ:Nat→List Int→Int→List Int→List Int→Int→Int→Option ((List Int))
 |0=>fun _ _ _ _ _ _=>none
 |n+1=>aCi (sQ n)
def nG(p_0:List Int)(v_1:Int):Option ((List Int)):=
 ((rP p_0).bind fun r2=>
 ((gO ((!r2)==false) false (gH (p_0.length:Int) v_1)).bind fun r4=>
 (bif ((!r2)||(!r4)) then
  some []
 else
  sQ bF p_0 v_1 [] p_0 (p_0.length:Int) 0)))
theorem aUv:K2 prog (vl (ci .i64)) vi (vl (ci .i64)) 84 nG:=by
 intro p_0 v_1 r hm
 let I1:=((fun m s=> ∃p_0 v_1 wL t18 t19 t20,s=⟨37,(aF (aF (aF (aF (aF (aF fa 0 (vl (ci .i64) p_0)) 1 (vi v_1)) 5 (.own 1 0 wL.length)) 18 (vl (ci .i64) t18)) 19 (vi t19)) 20 (vi t20)),⟨(upd bD 1 (.cells 1 (wL.flatMap (ci .i64)) 0)),64⟩⟩∧sQ m p_0 v_1 wL t18 t19 t20=some r):Nat→St→Prop)
 exact be 37 func84 (h:=G)
instance:Ct prog 84 (K2 prog (vl (ci .i64)) vi (vl (ci .i64)) 84 nG):=⟨aUv⟩
def aA7(n_0:Int):Option (Int):=
 some (Int.tmod n_0 2305843009213693951)
theorem bKj:K1 prog vu vu 130 aA7:=fun hm=>be 5 func130 (h:=G)
instance:Ct prog 130 (K1 prog vu vu 130 aA7):=⟨bKj⟩
def aI6(a_0:Int)(b_1:Int):Option (Int):=
 ((aA7 a_0).bind fun r2=>
 ((aA7 b_1).bind fun r4=>
 some (Int.tmod (IntKind.u64.wrap (r2+r4)) 2305843009213693951)))
theorem bGf:K2 prog vu vu vu 89 aI6:=fun hm=>be 11 func89 (h:=G)
instance:Ct prog 89 (K2 prog vu vu vu 89 aI6):=⟨bGf⟩
def uR(x_0:Int)(y_1:Int):Option (Int×Int):=
 some ((IntKind.u64.wrap ((IntKind.u64.wrap ((IntKind.u64.wrap ((shr .u64 x_0 32)*(shr .u64 y_1 32)))+(shr .u64 (IntKind.u64.wrap ((IntKind.u64.wrap ((shr .u64 x_0 32)*(aDm .u64 y_1 4294967295)))+(shr .u64 (IntKind.u64.wrap ((aDm .u64 x_0 4294967295)*(aDm .u64 y_1 4294967295))) 32))) 32)))+(shr .u64 (IntKind.u64.wrap ((aDm .u64 (IntKind.u64.wrap ((IntKind.u64.wrap ((shr .u64 x_0 32)*(aDm .u64 y_1 4294967295)))+(shr .u64 (IntKind.u64.wrap ((aDm .u64 x_0 4294967295)*(aDm .u64 y_1 4294967295))) 32))) 4294967295)+(IntKind.u64.wrap ((aDm .u64 x_0 4294967295)*(shr .u64 y_1 32))))) 32))),(IntKind.u64.wrap (x_0*y_1)))
theorem aTr:K2 prog vu vu (t2 vu vu) 131 uR:=fun hm=>be 51 func131 (h:=G)
instance:Ct prog 131 (K2 prog vu vu (t2 vu vu) 131 uR):=⟨aTr⟩
abbrev aHf(x_0:Int)(n_2:Int):Option (Int):=
 ((bH5 bEs (IntKind.u8.wrap x_0)).bind fun b2=>
 some (IntKind.i64.wrap (n_2+(IntKind.i64.wrap b2))))
abbrev aHe(x_0:Int)(n_2:Int):Option (Int):=
 (bif (decide (256≤x_0)) then
  aHf (shr .u64 x_0 8) (IntKind.i64.wrap (n_2+8))
 else
  aHf x_0 n_2)
abbrev aHd(x_0:Int)(n_2:Int):Option (Int):=
 (bif (decide (65536≤x_0)) then
  aHe (shr .u64 x_0 16) (IntKind.i64.wrap (n_2+16))
 else
  aHe x_0 n_2)
def zX(x_0:Int):Option (Int):=
 (bif (decide (4294967296≤x_0)) then
  aHd (shr .u64 x_0 32) 32
 else
  aHd x_0 0)
theorem aKb:K1 prog vu vi 203 zX:=fun hm=>be 25 func203 (h:=G)
instance:Ct prog 203 (K1 prog vu vi 203 zX):=⟨aKb⟩
def jV(x_0:Int):Option (Int):=
 ((zX x_0).bind fun r2=>
 some (IntKind.i64.wrap (64-r2)))
theorem uQ:K1 prog vu vi 212 jV:=fun hm=>be 6 func212 (h:=G)
instance:Ct prog 212 (K1 prog vu vi 212 jV):=⟨uQ⟩
abbrev rZ(y_2:Int)(s_8:Int)(hZ:Int)(jC:Int)(oR:Int)(wG:Int):Option (Int×Int):=
 ((chk (decide (0≤s_8))).bind fun _=>
 some ((IntKind.u64.wrap ((IntKind.u64.wrap (jC*4294967296))+wG)),(shr .u64 (IntKind.u64.wrap ((IntKind.u64.wrap ((IntKind.u64.wrap (oR*4294967296))+hZ))-(IntKind.u64.wrap (wG*y_2)))) s_8)))
def aBw(rec1:Int→Int→Int→Int→Int→Int→Int→Int→Int→Option (Int×Int))(y_2:Int)(s_8:Int)(kX:Int)(kL:Int)(hZ:Int)(jC:Int)(lJ:Int)(oR:Int)(wG:Int):Option (Int×Int):=
 (bif ((decide (4294967296≤wG))||(decide ((IntKind.u64.wrap ((IntKind.u64.wrap (4294967296*lJ))+hZ))<(IntKind.u64.wrap (wG*kL))))) then
  (bif (decide (4294967296≤(IntKind.u64.wrap (lJ+kX)))) then
   rZ y_2 s_8 hZ jC oR (IntKind.u64.wrap (wG-1))
  else
   rec1 y_2 s_8 kX kL hZ jC (IntKind.u64.wrap (lJ+kX)) oR (IntKind.u64.wrap (wG-1)))
 else
  rZ y_2 s_8 hZ jC oR wG)
def oA:Nat→Int→Int→Int→Int→Int→Int→Int→Int→Int→Option (Int×Int)
 |0=>fun _ _ _ _ _ _ _ _ _=>none
 |n+1=>aBw (oA n)
abbrev nZ(y_2:Int)(s_8:Int)(kX:Int)(kL:Int)(kN:Int)(nU:Int)(hZ:Int)(jC:Int):Option (Int×Int):=
 ((chk (kX !=0)).bind fun _=>
 oA bF y_2 s_8 kX kL hZ jC (IntKind.u64.wrap ((IntKind.u64.wrap ((IntKind.u64.wrap ((IntKind.u64.wrap (kN*4294967296))+nU))-(IntKind.u64.wrap (jC*y_2))))-(IntKind.u64.wrap ((IntKind.u64.wrap (Int.tdiv (IntKind.u64.wrap ((IntKind.u64.wrap ((IntKind.u64.wrap (kN*4294967296))+nU))-(IntKind.u64.wrap (jC*y_2)))) kX))*kX)))) (IntKind.u64.wrap ((IntKind.u64.wrap ((IntKind.u64.wrap (kN*4294967296))+nU))-(IntKind.u64.wrap (jC*y_2)))) (IntKind.u64.wrap (Int.tdiv (IntKind.u64.wrap ((IntKind.u64.wrap ((IntKind.u64.wrap (kN*4294967296))+nU))-(IntKind.u64.wrap (jC*y_2)))) kX)))
def aBx(rec2:Int→Int→Int→Int→Int→Int→Int→Int→Int→Option (Int×Int))(y_2:Int)(s_8:Int)(kX:Int)(kL:Int)(kN:Int)(nU:Int)(hZ:Int)(jC:Int)(lJ:Int):Option (Int×Int):=
 (bif ((decide (4294967296≤jC))||(decide ((IntKind.u64.wrap ((IntKind.u64.wrap (4294967296*lJ))+nU))<(IntKind.u64.wrap (jC*kL))))) then
  (bif (decide (4294967296≤(IntKind.u64.wrap (lJ+kX)))) then
   nZ y_2 s_8 kX kL kN nU hZ (IntKind.u64.wrap (jC-1))
  else
   rec2 y_2 s_8 kX kL kN nU hZ (IntKind.u64.wrap (jC-1)) (IntKind.u64.wrap (lJ+kX)))
 else
  nZ y_2 s_8 kX kL kN nU hZ jC)
def oB:Nat→Int→Int→Int→Int→Int→Int→Int→Int→Int→Option (Int×Int)
 |0=>fun _ _ _ _ _ _ _ _ _=>none
 |n+1=>aBx (oB n)
abbrev aBz(yT:Int)(vS:Int)(y_2:Int):Option (Int×Int):=
 (bif (yT==0) then
  ((chk (y_2 !=0)).bind fun _=>
  ((chk (y_2 !=0)).bind fun _=>
  some ((IntKind.u64.wrap (Int.tdiv vS y_2)),(Int.tmod vS y_2))))
 else
  ((jV y_2).bind fun r4=>
  ((chk (decide (0≤(IntKind.u64.wrap r4)))).bind fun _=>
  ((chk (decide (0≤(IntKind.u64.wrap r4)))).bind fun _=>
  ((chk (decide (0≤(IntKind.u64.wrap (64-(IntKind.u64.wrap r4)))))).bind fun _=>
  ((chk (decide (0≤(IntKind.u64.wrap r4)))).bind fun _=>
  ((chk ((shr .u64 (shl .u64 y_2 (IntKind.u64.wrap r4)) 32) !=0)).bind fun _=>
  oB bF (shl .u64 y_2 (IntKind.u64.wrap r4)) (IntKind.u64.wrap r4) (shr .u64 (shl .u64 y_2 (IntKind.u64.wrap r4)) 32) (aDm .u64 (shl .u64 y_2 (IntKind.u64.wrap r4)) 4294967295) (bor .u64 (shl .u64 yT (IntKind.u64.wrap r4)) (shr .u64 vS (IntKind.u64.wrap (64-(IntKind.u64.wrap r4))))) (shr .u64 (shl .u64 vS (IntKind.u64.wrap r4)) 32) (aDm .u64 (shl .u64 vS (IntKind.u64.wrap r4)) 4294967295) (IntKind.u64.wrap (Int.tdiv (bor .u64 (shl .u64 yT (IntKind.u64.wrap r4)) (shr .u64 vS (IntKind.u64.wrap (64-(IntKind.u64.wrap r4))))) (shr .u64 (shl .u64 y_2 (IntKind.u64.wrap r4)) 32))) (IntKind.u64.wrap ((bor .u64 (shl .u64 yT (IntKind.u64.wrap r4)) (shr .u64 vS (IntKind.u64.wrap (64-(IntKind.u64.wrap r4)))))-(IntKind.u64.wrap ((IntKind.u64.wrap (Int.tdiv (bor .u64 (shl .u64 yT (IntKind.u64.wrap r4)) (shr .u64 vS (IntKind.u64.wrap (64-(IntKind.u64.wrap r4))))) (shr .u64 (shl .u64 y_2 (IntKind.u64.wrap r4)) 32)))*(shr .u64 (shl .u64 y_2 (IntKind.u64.wrap r4)) 32))))))))))))
abbrev aBy(yT:Int)(vS:Int)(y_2:Int):Option (Int×Int):=
 (bif (decide (y_2≤yT)) then
  none
 else
  aBz yT vS y_2)
def uP(yT:Int)(vS:Int)(y_2:Int):Option (Int×Int):=
 (bif (y_2==0) then
  none
 else
  aBy yT vS y_2)
theorem aTq{yT:Int}{vS:Int}{y_2:Int}{r:Int×Int}(hm:uP yT vS y_2=some r):bN prog 163 [vu yT,vu vS,vu y_2] (.tup [vu r.1,vu r.2]):=by
 refine bd 135 func163 ?_;refine V ?_;refine AWp.seqJ (fun s=> ∃yT vS y_2,s=⟨135,(aF (aF (aF fa 0 (vu yT)) 1 (vu vS)) 2 (vu y_2)),⟨bD,64⟩⟩∧aBy yT vS y_2=some r) ?_ ?_
 ·
  refine W ?_;refine cm hm (fun hm=>?_) fun hm=>?_
  · cases hm
  exact L
 rintro s ⟨yT,vS,y_2,rfl,hm⟩;refine AWp.seqJ (fun s=> ∃yT vS y_2,s=⟨135,(aF (aF (aF fa 0 (vu yT)) 1 (vu vS)) 2 (vu y_2)),⟨bD,64⟩⟩∧aBz yT vS y_2=some r) ?_ ?_
 ·
  refine W ?_;refine cm hm (fun hm=>?_) fun hm=>?_
  · cases hm
  exact L
 rintro s ⟨yT,vS,y_2,rfl,hm⟩;refine W ?_;refine cm hm (fun hm=>?_) fun hm=>?_
 · obtain ⟨_,h1,hm⟩:=bnd hm;obtain ⟨_,h2,hm⟩:=bnd hm;exact E
 obtain ⟨r4,h3,hm⟩:=bnd hm;refine W ?_;refine cq (uQ h3) ?_;obtain ⟨_,h5,hm⟩:=bnd hm;obtain ⟨_,h6,hm⟩:=bnd hm;obtain ⟨_,h7,hm⟩:=bnd hm;obtain ⟨_,h8,hm⟩:=bnd hm;obtain ⟨_,h9,hm⟩:=bnd hm;refine V ?_;refine AWp.seqJ (fun s=> ∃y_2 s_8 kX kL kN nU hZ jC,s=⟨135,(aF (aF (aF (aF (aF (aF (aF (aF fa 2 (vu y_2)) 8 (vu s_8)) 9 (vu kX)) 10 (vu kL)) 11 (vu kN)) 13 (vu nU)) 14 (vu hZ)) 15 (vu jC)),⟨bD,64⟩⟩∧nZ y_2 s_8 kX kL kN nU hZ jC=some r) ?_ ?_
 ·
  refine W ?_;refine lp (fun m s=> ∃y_2 s_8 kX kL kN nU hZ jC lJ,s=⟨135,(aF (aF (aF (aF (aF (aF (aF (aF (aF fa 2 (vu y_2)) 8 (vu s_8)) 9 (vu kX)) 10 (vu kL)) 11 (vu kN)) 13 (vu nU)) 14 (vu hZ)) 15 (vu jC)) 16 (vu lJ)),⟨bD,64⟩⟩∧oB m y_2 s_8 kX kL kN nU hZ jC lJ=some r) L ?_;rintro n2 s ⟨y_2,s_8,kX,kL,kN,nU,hZ,jC,lJ,rfl,hm⟩;refine W ?_;refine cm hm (fun hm=>?_) fun hm=>?_
  ·
   refine W ?_;refine cm hm (fun hm=>?_) fun hm=>?_
   · refine W ?_;refine aPy Zd ?_;exact L
   exact L
  exact L
 rintro s ⟨y_2,s_8,kX,kL,kN,nU,hZ,jC,rfl,hm⟩;obtain ⟨_,h10,hm⟩:=bnd hm;refine V ?_;refine AWp.seqJ (fun s=> ∃y_2 s_8 hZ jC oR wG,s=⟨135,(aF (aF (aF (aF (aF (aF fa 2 (vu y_2)) 8 (vu s_8)) 14 (vu hZ)) 15 (vu jC)) 17 (vu oR)) 18 (vu wG)),⟨bD,64⟩⟩∧rZ y_2 s_8 hZ jC oR wG=some r) ?_ ?_
 ·
  refine W ?_;refine lp (fun m s=> ∃y_2 s_8 kX kL hZ jC lJ oR wG,s=⟨135,(aF (aF (aF (aF (aF (aF (aF (aF (aF fa 2 (vu y_2)) 8 (vu s_8)) 9 (vu kX)) 10 (vu kL)) 14 (vu hZ)) 15 (vu jC)) 16 (vu lJ)) 17 (vu oR)) 18 (vu wG)),⟨bD,64⟩⟩∧oA m y_2 s_8 kX kL hZ jC lJ oR wG=some r) L ?_;rintro n1 s ⟨y_2,s_8,kX,kL,hZ,jC,lJ,oR,wG,rfl,hm⟩;refine W ?_;refine cm hm (fun hm=>?_) fun hm=>?_
  ·
   refine W ?_;refine cm hm (fun hm=>?_) fun hm=>?_
   · refine W ?_;refine aPy Zd ?_;exact L
   exact L
  exact L
 rintro s ⟨y_2,s_8,hZ,jC,oR,wG,rfl,hm⟩;obtain ⟨_,h11,hm⟩:=bnd hm;exact E
instance:Ct prog 163 (K3 prog vu vu vu (t2 vu vu) 163 uP):=⟨fun hm=>aTq hm⟩
def zY(yT:Int)(vS:Int)(y_2:Int):Option (Int):=
 ((chk (y_2 !=0)).bind fun _=>
 ((uP (Int.tmod yT y_2) vS y_2).bind fun ⟨r3,r4⟩=>
 some r4))
theorem aTs:K3 prog vu vu vu vu 132 zY:=fun hm=>be 19 func132 (h:=G)
instance:Ct prog 132 (K3 prog vu vu vu vu 132 zY):=⟨aTs⟩
def aE8(a_0:Int)(b_1:Int):Option (Int):=
 ((aA7 a_0).bind fun r2=>
 ((aA7 b_1).bind fun r4=>
 ((uR r2 r4).bind fun ⟨r6,r7⟩=>
 ((zY r6 r7 2305843009213693951).bind fun r9=>
 some r9))))
theorem bGg:K2 prog vu vu vu 90 aE8:=fun hm=>be 18 func90 (h:=G)
instance:Ct prog 90 (K2 prog vu vu vu 90 aE8):=⟨bGg⟩
def jY(g_0:aH)(gJ:Int)(v_2:Int):Option (Bool):=
 ((eK g_0).bind fun r2=>
 some ((((r2&&(decide (0≤gJ)))&&(decide (gJ<g_0.Config.L)))&&(decide (0≤v_2)))&&(decide (v_2<g_0.Config.N))))
theorem aIn:K3 prog cU vi vi vb 136 jY:=fun hm=>be 31 func136 (h:=G)
instance:Ct prog 136 (K3 prog cU vi vi vb 136 jY):=⟨aIn⟩
def aA2(n_0:Int)(l_1:List aC)(v_2:Int):Option ((List Int)):=
 ((lF n_0 l_1).bind fun r2=>
 (bif (!r2) then
  some []
 else
  ((qC n_0 l_1).bind fun ⟨r4,r5⟩=>
  ((nG r4 v_2).bind fun r7=>
  some r7))))
theorem aUb:K3 prog vi (vl aU) vi (vl (ci .i64)) 215 aA2:=fun hm=>be 22 func215 (h:=G)
instance:Ct prog 215 (K3 prog vi (vl aU) vi (vl (ci .i64)) 215 aA2):=⟨aUb⟩
def mD(g_0:aH)(gJ:Int)(v_2:Int):Option ((List Int)):=
 ((iN g_0.Config.N g_0.Edges gJ).bind fun r2=>
 ((aA2 g_0.Config.N r2 v_2).bind fun r4=>
 some r4))
theorem aP6:K3 prog cU vi vi (vl (ci .i64)) 165 mD:=fun hm=>be 19 func165 (h:=G)
instance:Ct prog 165 (K3 prog cU vi vi (vl (ci .i64)) 165 mD):=⟨aP6⟩
def aGf(rec1:Int→List Int→Int→Int→Option (Bool))(n_0:Int)(t13:List Int)(t14:Int)(t15:Int):Option (Bool):=
 (bif (decide (t15<t14)) then
  ((idx t13 t15).bind fun x4=>
  (bif ((decide (x4<0))||(decide (n_0≤x4))) then
   some false
  else
   rec1 n_0 t13 t14 (IntKind.i64.wrap (t15+1))))
 else
  some true)
def yL:Nat→Int→List Int→Int→Int→Option (Bool)
 |0=>fun _ _ _ _=>none
 |n+1=>aGf (yL n)
def aF6(n_0:Int)(l_1:List aC)(aFw:List Int):Option (Bool):=
 ((gX n_0 l_1).bind fun r2=>
 (bif (!r2) then
  some false
 else
  yL bF n_0 aFw (aFw.length:Int) 0))
theorem aPt:K3 prog vi (vl aU) (vl (ci .i64)) vb 213 aF6:=by
 intro n_0 l_1 aFw r hm
 let I1:=((fun m s=> ∃n_0 t13 t14 t15,s=⟨27,(aF (aF (aF (aF fa 0 (vi n_0)) 13 (vl (ci .i64) t13)) 14 (vi t14)) 15 (vi t15)),⟨bD,64⟩⟩∧yL m n_0 t13 t14 t15=some r):Nat→St→Prop)
 exact be 27 func213 (h:=G)
instance:Ct prog 213 (K3 prog vi (vl aU) (vl (ci .i64)) vb 213 aF6):=⟨aPt⟩
attribute [local semireducible] bF
end Go.Proofs.YtkdohhmacfoolaaGreatDoor
