/- Facts. No condition. -/
import Derived.Test.YtkdohhmacfoolaaGreatDoorPgOf
import Derived.Test.YtkdohhmacfoolaaGreatDoorPgAmF
set_option linter.unusedVariables false
set_option linter.unusedSimpArgs false
set_option maxRecDepth 20000
set_option maxHeartbeats 4000000
namespace Go.Proofs.YtkdohhmacfoolaaGreatDoor
open Go.Proofs.Tryz Go Go.AM
attribute [local irreducible] aY
abbrev bMw:ByteArray:=⟨#[0,1,2,2,3,3,3,3,4,4,4,4,4,4,4,4,5,5,5,5,5,5,5,5,5,5,5,5,5,5,5,5,6,6,6,6,6,6,6,6,6,6,6,6,6,6,6,6,6,6,6,6,6,6,6,6,6,6,6,6,6,6,6,6,7,7,7,7,7,7,7,7,7,7,7,7,7,7,7,7,7,7,7,7,7,7,7,7,7,7,7,7,7,7,7,7,7,7,7,7,7,7,7,7,7,7,7,7,7,7,7,7,7,7,7,7,7,7,7,7,7,7,7,7,7,7,7,7,8,8,8,8,8,8,8,8,8,8,8,8,8,8,8,8,8,8,8,8,8,8,8,8,8,8,8,8,8,8,8,8,8,8,8,8,8,8,8,8,8,8,8,8,8,8,8,8,8,8,8,8,8,8,8,8,8,8,8,8,8,8,8,8,8,8,8,8,8,8,8,8,8,8,8,8,8,8,8,8,8,8,8,8,8,8,8,8,8,8,8,8,8,8,8,8,8,8,8,8,8,8,8,8,8,8,8,8,8,8,8,8,8,8,8,8,8,8,8,8,8,8,8,8,8,8,8,8]⟩
structure aX where
 N:Int
 L:Int
 R:Int
deriving DecidableEq
def aMo(e:aX):List AV:=[.v (.int .i64 e.N),.v (.int .i64 e.L),.v (.int .i64 e.R)]
theorem aO4:CF aMo 3:=⟨fun _=>rfl,fun a x hx=>by
 simp only [aMo,List.mem_cons,List.not_mem_nil,or_false] at hx;rcases hx with rfl|rfl|rfl
 · exact (.v _)
 · exact (.v _)
 · exact (.v _),fun _=>rfl⟩
instance:CC aMo 3:=⟨aO4⟩
abbrev aJx(e:aX):AV:= .agg [.v (.int .i64 e.N),vi e.L,vi e.R]
@[go_sem] theorem aWv(e:aX)(r:List AV):aMo e++r= .v (.int .i64 e.N):: .v (.int .i64 e.L):: .v (.int .i64 e.R)::r:=rfl
structure cI where
 A:Int
 B:Int
deriving DecidableEq
def cH(e:cI):List AV:=[.v (.int .u64 e.A),.v (.int .u64 e.B)]
theorem jV:CF cH 2:=⟨fun _=>rfl,fun a x hx=>by
 simp only [cH,List.mem_cons,List.not_mem_nil,or_false] at hx;rcases hx with rfl|rfl
 · exact (.v _)
 · exact (.v _),fun _=>rfl⟩
instance:CC cH 2:=⟨jV⟩
abbrev aYy(e:cI):AV:= .agg [.v (.int .u64 e.A),vu e.B]
instance:CE prog 27 cH 2 (cI.mk 0 0):=⟨_,underlying27,bQc,bQt,inferInstance,jV,by decide,by decide⟩
@[go_sem] theorem bD5(e:cI)(r:List AV):cH e++r= .v (.int .u64 e.A):: .v (.int .u64 e.B)::r:=rfl
structure aJ where
 Config:aX
 Hashes:List cI
 Edges:List aE
deriving DecidableEq
def aR7(e:aJ):List AV:=[.v (.int .i64 e.Config.N),.v (.int .i64 e.Config.L),.v (.int .i64 e.Config.R),.sl (e.Hashes.flatMap cH) e.Hashes.length false,.sl (e.Edges.flatMap aV) e.Edges.length false]
theorem bLt:CF aR7 5:=⟨fun _=>rfl,fun a x hx=>by
 simp only [aR7,List.mem_cons,List.not_mem_nil,or_false] at hx;rcases hx with rfl|rfl|rfl|rfl|rfl
 · exact (.v _)
 · exact (.v _)
 · exact (.v _)
 · exact (jV.sl _ _ _)
 · exact (cL.sl _ _ _),fun _=>rfl⟩
instance:CC aR7 5:=⟨bLt⟩
abbrev dX(e:aJ):AV:= .agg [.v (.int .i64 e.Config.N),vi e.Config.L,vi e.Config.R,vl cH e.Hashes,vl aV e.Edges]
@[go_sem] theorem aZr(e:aJ)(r:List AV):aR7 e++r= .v (.int .i64 e.Config.N):: .v (.int .i64 e.Config.L):: .v (.int .i64 e.Config.R):: .sl (e.Hashes.flatMap cH) e.Hashes.length false:: .sl (e.Edges.flatMap aV) e.Edges.length false::r:=rfl
theorem bNd(x0 y0 x1 y1 x2 y2:Int):iI prog .eql 61 (.agg [.v (.int .i64 x0),.v (.int .i64 x1),.v (.int .i64 x2)]) (.agg [.v (.int .i64 y0),.v (.int .i64 y1),.v (.int .i64 y2)])=some (.v (.bool ((x0==y0)&&((x1==y1)&&(x2==y2))))):=
 (by kernel_rfl:iI prog .eql 61 (.agg [.v (.int .i64 x0),.v (.int .i64 x1),.v (.int .i64 x2)]) (.agg [.v (.int .i64 y0),.v (.int .i64 y1),.v (.int .i64 y2)])=some (.v (.bool ((x0==y0)&&((x1==y1)&&((x2==y2)&&true)))))).trans (by rw [Bool.and_true])
theorem bP9(x0 y0 x1 y1 x2 y2:Int):iI prog .neq 61 (.agg [.v (.int .i64 x0),.v (.int .i64 x1),.v (.int .i64 x2)]) (.agg [.v (.int .i64 y0),.v (.int .i64 y1),.v (.int .i64 y2)])=some (.v (.bool (!((x0==y0)&&((x1==y1)&&(x2==y2)))))):=
 (by kernel_rfl:iI prog .neq 61 (.agg [.v (.int .i64 x0),.v (.int .i64 x1),.v (.int .i64 x2)]) (.agg [.v (.int .i64 y0),.v (.int .i64 y1),.v (.int .i64 y2)])=some (.v (.bool (!((x0==y0)&&((x1==y1)&&((x2==y2)&&true))))))).trans (by rw [Bool.and_true])
attribute [go_sem] bNd bP9
@[go_sem] theorem bI6(xs:List AV):aI prog 61 (.ptr (xs)) 0=some (.ptr xs):=by kernel_rfl
@[go_sem] theorem bI7(x0:AV)(xs:List AV):aI prog 61 (.ptr (x0::xs)) 1=some (.ptr xs):=by kernel_rfl
@[go_sem] theorem bI8(x0:AV)(x1:AV)(xs:List AV):aI prog 61 (.ptr (x0::x1::xs)) 2=some (.ptr xs):=by kernel_rfl
@[go_sem] theorem bI9(xs:List AV):aI prog 94 (.ptr (xs)) 0=some (.ptr xs):=by kernel_rfl
@[go_sem] theorem bIa(x0:AV)(xs:List AV):aI prog 94 (.ptr (x0::xs)) 1=some (.ptr xs):=by kernel_rfl
@[go_sem] theorem bIg(i o:Nat):aI prog 23 (.adr i o) 0=some (.adr i (o+0)):=by kernel_rfl
@[go_sem] theorem bIn(i o:Nat):aI prog 23 (.adr i o) 1=some (.adr i (o+1)):=by kernel_rfl
@[go_sem] theorem bIt(i o:Nat):aI prog 23 (.adr i o) 2=some (.adr i (o+2)):=by kernel_rfl
@[go_sem] theorem bIz(i o:Nat):aI prog 30 (.adr i o) 0=some (.adr i (o+0)):=by kernel_rfl
@[go_sem] theorem bJ5(i o:Nat):aI prog 30 (.adr i o) 1=some (.adr i (o+3)):=by kernel_rfl
@[go_sem] theorem bJ9(i o:Nat):aI prog 30 (.adr i o) 2=some (.adr i (o+4)):=by kernel_rfl
@[go_sem] theorem bJw(i o:Nat):aI prog 61 (.adr i o) 0=some (.adr i (o+0)):=by kernel_rfl
@[go_sem] theorem bK2(i o:Nat):aI prog 61 (.adr i o) 1=some (.adr i (o+1)):=by kernel_rfl
@[go_sem] theorem bK8(i o:Nat):aI prog 61 (.adr i o) 2=some (.adr i (o+2)):=by kernel_rfl
@[go_sem] theorem bKi(i o:Nat):aI prog 94 (.adr i o) 0=some (.adr i (o+0)):=by kernel_rfl
@[go_sem] theorem bKl(i o:Nat):aI prog 94 (.adr i o) 1=some (.adr i (o+1)):=by kernel_rfl
@[go_sem] theorem bSg(H:aH)(x0 x1 x2:AV)(xs:List AV):bT prog H 23 (.ptr (x0::x1::x2::xs))=some (.agg [x0,x1,x2]):=by kernel_rfl
@[go_sem] theorem bSn(H:aH)(x:AV)(xs:List AV):bT prog H 27 (.ptr (x::xs))=some x:=by kernel_rfl
@[go_sem] theorem bSr(H:aH)(x:AV)(xs:List AV):bT prog H 28 (.ptr (x::xs))=some x:=by kernel_rfl
@[go_sem] theorem bX2(H:aH)(x:AV)(xs:List AV):bT prog H 3 (.ptr (x::xs))=some x:=by kernel_rfl
@[go_sem] theorem bSx(H:aH)(x0 x1 x2 x3 x4:AV)(xs:List AV):bT prog H 30 (.ptr (x0::x1::x2::x3::x4::xs))=some (.agg [x0,x1,x2,x3,x4]):=by kernel_rfl
@[go_sem] theorem bTg(H:aH)(x:AV)(xs:List AV):bT prog H 40 (.ptr (x::xs))=some x:=by kernel_rfl
@[go_sem] theorem bTo(H:aH)(x0 x1 x2:AV)(xs:List AV):bT prog H 61 (.ptr (x0::x1::x2::xs))=some (.agg [x0,x1,x2]):=by kernel_rfl
@[go_sem] theorem bTy(H:aH)(x0 x1:AV)(xs:List AV):bT prog H 94 (.ptr (x0::x1::xs))=some (.agg [x0,x1]):=by kernel_rfl
@[go_sem] theorem bDd(H:aH)(k:IntKind)(n:Int):mU prog H 3 162 (.v (.int k n))=some (.v (.int .u64 (IntKind.u64.wrap n))):=gK underlying3 underlying162
@[go_sem] theorem bN4(H:aH)(k:IntKind)(n:Int):mU prog H 5 3 (.v (.int k n))=some (.v (.int .i64 (IntKind.i64.wrap n))):=gK underlying5 underlying3
@[go_sem] theorem bI2(H:aH)(k:IntKind)(n:Int):mU prog H 40 5 (.v (.int k n))=some (.v (.int .u8 (IntKind.u8.wrap n))):=gK underlying40 underlying5
def sB(bQh:Int):Option (Bool):=
 some ((decide (0≤bQh))&&(decide (bQh≤16)))
theorem aL5:K1 prog vi vb 133 sB:=fun hm=>be 9 func133 (h:=G)
instance:Ct prog 133 (K1 prog vi vb 133 sB):=⟨aL5⟩
def xL(a_0:aE)(b_1:aE):Option (Bool):=
 some ((decide (a_0.U<b_1.U))||((a_0.U==b_1.U)&&(decide (a_0.V<b_1.V))))
theorem aSp:K2 prog aFs aFs vb 134 xL:=fun hm=>be 24 func134 (h:=G)
instance:Ct prog 134 (K2 prog aFs aFs vb 134 xL):=⟨aSp⟩
def aFr(rec1:Int→List aE→List aE→Int→Int→Option (Bool))(n_0:Int)(l_1:List aE)(t13:List aE)(t14:Int)(t15:Int):Option (Bool):=
 (bif (decide (t15<t14)) then
  ((idx t13 t15).bind fun x2=>
  ((eJ ((((decide (x2.U<0))||(decide (x2.V≤x2.U)))||(decide (n_0≤x2.V)))==false) false (sB x2.Tier)).bind fun r4=>
  (bif ((((decide (x2.U<0))||(decide (x2.V≤x2.U)))||(decide (n_0≤x2.V)))||(!r4)) then
   some false
  else
   ((eJ ((decide (0<t15))==true) (aE.mk 0 0 0) (idx l_1 (IntKind.i64.wrap (t15-1)))).bind fun x6=>
   ((eJ ((decide (0<t15))==true) false (xL x6 x2)).bind fun r8=>
   (bif ((decide (0<t15))&&(!r8)) then
    some false
   else
    rec1 n_0 l_1 t13 t14 (IntKind.i64.wrap (t15+1))))))))
 else
  some true)
def wM:Nat→Int→List aE→List aE→Int→Int→Option (Bool)
 |0=>fun _ _ _ _ _=>none
 |n+1=>aFr (wM n)
def kL(n_0:Int)(l_1:List aE):Option (Bool):=
 (bif ((decide (n_0<0))||(decide (1024<n_0))) then
  some false
 else
  wM aY n_0 l_1 l_1 (l_1.length:Int) 0)
theorem aCz:K2 prog vi (vl aV) vb 92 kL:=by
 intro n_0 l_1 r hm
 let I1:=((fun m s=> ∃n_0 l_1 t13 t14 t15,s=⟨55,(aF (aF (aF (aF (aF fa 0 (vi n_0)) 1 (vl aV l_1)) 13 (vl aV t13)) 14 (vi t14)) 15 (vi t15)),⟨aZ,64⟩⟩∧wM m n_0 l_1 t13 t14 t15=some r):Nat→St→Prop)
 exact be 55 func92 (h:=G)
instance:Ct prog 92 (K2 prog vi (vl aV) vb 92 kL):=⟨aCz⟩
abbrev aE9(rec1:Int→List aE→List aE→Int→Int→Option ((List aE)))(aEa:Int)(zH:List aE)(t14:List aE)(t15:Int)(t16:Int):Option ((List aE)):=
 rec1 aEa zH t14 t15 (IntKind.i64.wrap (t16+1))
def aE8(rec1:Int→List aE→List aE→Int→Int→Option ((List aE)))(aEa:Int)(zH:List aE)(t14:List aE)(t15:Int)(t16:Int):Option ((List aE)):=
 (bif (decide (t16<t15)) then
  ((idx t14 t16).bind fun x4=>
  (bif ((decide (1≤x4.Tier))&&(decide (x4.Tier≤aEa))) then
   ((app zH [x4]).bind fun l6=>
   aE9 rec1 aEa l6 t14 t15 t16)
  else
   aE9 rec1 aEa zH t14 t15 t16))
 else
  some zH)
def tV:Nat→Int→List aE→List aE→Int→Int→Option ((List aE))
 |0=>fun _ _ _ _ _=>none
 |n+1=>aE8 (tV n)
def kC(n_0:Int)(l_1:List aE)(aEa:Int):Option ((List aE)):=
 ((kL n_0 l_1).bind fun r2=>
 (bif (!r2) then
  some []
 else
  tV aY aEa [] l_1 (l_1.length:Int) 0))
theorem aL4:K3 prog vi (vl aV) vi (vl aV) 55 kC:=by
 intro n_0 l_1 aEa r hm
 let I1:=((fun m s=> ∃aEa zH t14 t15 t16,s=⟨35,(aF (aF (aF (aF (aF fa 2 (vi aEa)) 7 (.own 1 0 zH.length)) 14 (vl aV t14)) 15 (vi t15)) 16 (vi t16)),⟨(upd aZ 1 (.cells 3 (zH.flatMap aV) 0)),64⟩⟩∧tV m aEa zH t14 t15 t16=some r):Nat→St→Prop)
 exact be 35 func55 (h:=G)
instance:Ct prog 55 (K3 prog vi (vl aV) vi (vl aV) 55 kC):=⟨aL4⟩
def aHf(rec1:List Int→List Int→Int→Int→Option (Bool))(p_0:List Int)(t5:List Int)(t6:Int)(t7:Int):Option (Bool):=
 (bif (decide (t7<t6)) then
  ((idx t5 t7).bind fun x2=>
  ((jT (p_0.length:Int) x2).bind fun r4=>
  ((eJ (((!r4)||(decide (t7<x2)))==false) 0 (idx p_0 x2)).bind fun x6=>
  (bif (((!r4)||(decide (t7<x2)))||(x6 !=x2)) then
   some false
  else
   rec1 p_0 t5 t6 (IntKind.i64.wrap (t7+1))))))
 else
  some true)
def zT:Nat→List Int→List Int→Int→Int→Option (Bool)
 |0=>fun _ _ _ _=>none
 |n+1=>aHf (zT n)
def yI(p_0:List Int):Option (Bool):=
 zT aY p_0 p_0 (p_0.length:Int) 0
theorem bB6:K1 prog (vl (ci .i64)) vb 56 yI:=by
 intro p_0 r hm
 let I1:=((fun m s=> ∃p_0 t5 t6 t7,s=⟨31,(aF (aF (aF (aF fa 0 (vl (ci .i64) p_0)) 5 (vl (ci .i64) t5)) 6 (vi t6)) 7 (vi t7)),⟨aZ,64⟩⟩∧zT m p_0 t5 t6 t7=some r):Nat→St→Prop)
 exact be 31 func56 (h:=G)
instance:Ct prog 56 (K1 prog (vl (ci .i64)) vb 56 yI):=⟨bB6⟩
abbrev aJc(rec1:Int→List Int→Int→Int→Option (Int))(aJ0:Int)(t9:List Int)(t10:Int)(t11:Int):Option (Int):=
 rec1 aJ0 t9 t10 (IntKind.i64.wrap (t11+1))
def aJb(rec1:Int→List Int→Int→Int→Option (Int))(aJ0:Int)(t9:List Int)(t10:Int)(t11:Int):Option (Int):=
 (bif (decide (t11<t10)) then
  ((idx t9 t11).bind fun x4=>
  (bif (t11==x4) then
   aJc rec1 (IntKind.i64.wrap (aJ0+1)) t9 t10 t11
  else
   aJc rec1 aJ0 t9 t10 t11))
 else
  some aJ0)
def aBj:Nat→Int→List Int→Int→Int→Option (Int)
 |0=>fun _ _ _ _=>none
 |n+1=>aJb (aBj n)
def aDt(p_0:List Int):Option (Int):=
 ((yI p_0).bind fun r2=>
 (bif (!r2) then
  some 0
 else
  aBj aY 0 p_0 (p_0.length:Int) 0))
theorem bEy:K1 prog (vl (ci .i64)) vi 135 aDt:=by
 intro p_0 r hm
 let I1:=((fun m s=> ∃aJ0 t9 t10 t11,s=⟨23,(aF (aF (aF (aF fa 3 (vi aJ0)) 9 (vl (ci .i64) t9)) 10 (vi t10)) 11 (vi t11)),⟨aZ,64⟩⟩∧aBj m aJ0 t9 t10 t11=some r):Nat→St→Prop)
 exact be 23 func135 (h:=G)
instance:Ct prog 135 (K1 prog (vl (ci .i64)) vi 135 aDt):=⟨bEy⟩
def qL(n_0:Int)(l_1:List aE):Option (Bool):=
 ((vX n_0 l_1).bind fun ⟨r2,r3⟩=>
 ((eJ ((r3==0)==true) 0 (aDt r2)).bind fun r5=>
 some ((r3==0)&&(r5==(IntKind.i64.wrap (n_0-(l_1.length:Int)))))))
theorem aXa:K2 prog vi (vl aV) vb 93 qL:=fun hm=>be 24 func93 (h:=G)
instance:Ct prog 93 (K2 prog vi (vl aV) vb 93 qL):=⟨aXa⟩
def aE0(rec2:aJ→aX→List aE→Int→Int→Option (Bool))(g_1:aJ)(c_3:aX)(t70:List aE)(t71:Int)(t72:Int):Option (Bool):=
 (bif (decide (t72<t71)) then
  ((idx t70 t72).bind fun x6=>
  (bif (decide (c_3.L<x6.Tier)) then
   some false
  else
   rec2 g_1 c_3 t70 t71 (IntKind.i64.wrap (t72+1))))
 else
  ((kC c_3.N g_1.Edges c_3.L).bind fun r8=>
  ((qL c_3.N r8).bind fun r10=>
  some r10)))
def tL:Nat→aJ→aX→List aE→Int→Int→Option (Bool)
 |0=>fun _ _ _ _ _=>none
 |n+1=>aE0 (tL n)
def aDz(rec1:aJ→aX→List cI→Int→Int→Option (Bool))(g_1:aJ)(c_3:aX)(t48:List cI)(t49:Int)(t50:Int):Option (Bool):=
 (bif (decide (t50<t49)) then
  ((idx t48 t50).bind fun x2=>
  (bif ((decide (2305843009213693951≤x2.A))||(decide (2305843009213693951≤x2.B))) then
   some false
  else
   rec1 g_1 c_3 t48 t49 (IntKind.i64.wrap (t50+1))))
 else
  ((kL c_3.N g_1.Edges).bind fun r4=>
  (bif (!r4) then
   some false
  else
   tL aY g_1 c_3 g_1.Edges (g_1.Edges.length:Int) 0)))
def tK:Nat→aJ→aX→List cI→Int→Int→Option (Bool)
 |0=>fun _ _ _ _ _=>none
 |n+1=>aDz (tK n)
def gY(g_0:aJ):Option (Bool):=
 (bif ((((((decide (g_0.Config.N<1))||(decide (1024<g_0.Config.N)))||(decide (g_0.Config.L<1)))||(decide (16<g_0.Config.L)))||(decide (g_0.Config.R<1)))||(decide (8<g_0.Config.R))) then
  some false
 else
  (bif ((g_0.Hashes.length:Int) !=(IntKind.i64.wrap (g_0.Config.L*g_0.Config.R))) then
   some false
  else
   tK aY g_0 g_0.Config g_0.Hashes (g_0.Hashes.length:Int) 0))
theorem aUr:K1 prog dX vb 45 gY:=by
 intro g_0 r hm
 let I1:=((fun m s=> ∃g_1 c_3 t48 t49 t50,s=⟨92,(aF (aF (aF (aF (aF fa 1 (.adr 1 0)) 3 (.adr 2 0)) 48 (vl cH t48)) 49 (vi t49)) 50 (vi t50)),⟨(upd (upd aZ 1 (.cells 1 [vi g_1.Config.N,vi g_1.Config.L,vi g_1.Config.R,vl cH g_1.Hashes,vl aV g_1.Edges] 0)) 2 (.cells 1 [vi c_3.N,vi c_3.L,vi c_3.R] 0)),64⟩⟩∧tK m g_1 c_3 t48 t49 t50=some r):Nat→St→Prop)
 let I2:=((fun m s=> ∃g_1 c_3 t70 t71 t72,s=⟨92,(aF (aF (aF (aF (aF fa 1 (.adr 1 0)) 3 (.adr 2 0)) 70 (vl aV t70)) 71 (vi t71)) 72 (vi t72)),⟨(upd (upd aZ 1 (.cells 1 [vi g_1.Config.N,vi g_1.Config.L,vi g_1.Config.R,vl cH g_1.Hashes,vl aV g_1.Edges] 0)) 2 (.cells 1 [vi c_3.N,vi c_3.L,vi c_3.R] 0)),64⟩⟩∧tL m g_1 c_3 t70 t71 t72=some r):Nat→St→Prop)
 exact be 92 func45 (h:=G)
instance:Ct prog 45 (K1 prog dX vb 45 gY):=⟨aUr⟩
def tY(g_0:aJ):Option ((List Int)):=
 ((gY g_0).bind fun r2=>
 (bif (!r2) then
  some []
 else
  ((kC g_0.Config.N g_0.Edges g_0.Config.L).bind fun r4=>
  ((vX g_0.Config.N r4).bind fun ⟨r6,r7⟩=>
  some r6))))
theorem bC6:K1 prog dX (vl (ci .i64)) 20 tY:=fun hm=>be 25 func20 (h:=G)
instance:Ct prog 20 (K1 prog dX (vl (ci .i64)) 20 tY):=⟨bC6⟩
def aFx(g_0:aJ):Option ((List Int)):=
 ((gY g_0).bind fun r2=>
 (bif (!r2) then
  some []
 else
  ((vX g_0.Config.N g_0.Edges).bind fun ⟨r4,r5⟩=>
  some r4)))
theorem bHj:K1 prog dX (vl (ci .i64)) 58 aFx:=fun hm=>be 18 func58 (h:=G)
instance:Ct prog 58 (K1 prog dX (vl (ci .i64)) 58 aFx):=⟨bHj⟩
def aA3(rec1:List Int→List Int→Int→Int→Option (Bool))(aUm:List Int)(aYh:List Int)(t12:Int)(t13:Int):Option (Bool):=
 (bif (decide (t13<t12)) then
  ((idx aUm t13).bind fun x2=>
  ((idx aYh t13).bind fun x4=>
  (bif (x2 !=x4) then
   some false
  else
   rec1 aUm aYh t12 (IntKind.i64.wrap (t13+1)))))
 else
  some true)
def nY:Nat→List Int→List Int→Int→Int→Option (Bool)
 |0=>fun _ _ _ _=>none
 |n+1=>aA3 (nY n)
def pP(aUm:List Int)(aYh:List Int):Option (Bool):=
 (bif ((aUm.length:Int) !=(aYh.length:Int)) then
  some false
 else
  nY aY aUm aYh (aUm.length:Int) 0)
theorem aP4:K2 prog (vl (ci .i64)) (vl (ci .i64)) vb 57 pP:=by
 intro aUm aYh r hm
 let I1:=((fun m s=> ∃aUm aYh t12 t13,s=⟨26,(aF (aF (aF (aF fa 0 (vl (ci .i64) aUm)) 1 (vl (ci .i64) aYh)) 12 (vi t12)) 13 (vi t13)),⟨aZ,64⟩⟩∧nY m aUm aYh t12 t13=some r):Nat→St→Prop)
 exact be 26 func57 (h:=G)
instance:Ct prog 57 (K2 prog (vl (ci .i64)) (vl (ci .i64)) vb 57 pP):=⟨aP4⟩
def yT(g_0:aJ):Option (Bool):=
 ((gY g_0).bind fun r2=>
 ((eJ (r2==true) [] (tY g_0)).bind fun r4=>
 ((eJ (r2==true) [] (aFx g_0)).bind fun r6=>
 ((eJ (r2==true) false (pP r4 r6)).bind fun r8=>
 some (r2&&r8)))))
theorem aWr:K1 prog dX vb 25 yT:=fun hm=>be 12 func25 (h:=G)
instance:Ct prog 25 (K1 prog dX vb 25 yT):=⟨aWr⟩
def iP(l:List cI):Option (List cI):=aWn 16 [] l
theorem aM0{r:List cI}(hm:some []=some r):fP prog 75 [.v (.slice none 0 0)] 2 (r.flatMap cH) r.length:=by
 refine fP.of_body func75 rfl (jV.fmdat r) ?_;simp only [ntmps75,List.length_cons,List.length_nil,Nat.reduceAdd,Nat.reduceSub,iO];refine sN 64 (pA ?_);refine fs (AWp.seq' (sN 128 (pA ?_)));refine pu rfl (aBv Z1 Z1 (aMd underlying27)) ?_;refine fs (AWp.condT Z1 ?_);refine sN 192 (pA ?_);refine fs (AWp.weaken (aC2 2 900002 2 Z1 Z5) ?_);refine AWp.ret (jC ?_);cases hm;exact aNh (.inr rfl) Tryz.results75 Z1 Z3 Z6
theorem aM1{a:Addr}{c:Nat}{r:List cI}(hm:((aWn 16 [] []).bind fun l2=>
some l2)=some r):fP prog 75 [.v (.slice (some a) 0 c)] 2 (r.flatMap cH) r.length:=by
 refine fP.of_body func75 rfl (jV.fmdat r) ?_;simp only [ntmps75,List.length_cons,List.length_nil,Nat.reduceAdd,Nat.reduceSub,iO];refine sN 64 (pA ?_);refine fs (AWp.seq' (sN 128 (pA ?_)));refine pu rfl (aBv Z1 Z1 (aK2 underlying27)) ?_;refine fs (AWp.condF Z1 ?_);refine AWp.skip (bQ (sN 192 (hp (id:=128) rfl rfl (kW jV (l:=[]) underlying27 bQc bQt Z5 Zd Zd Zd (by simp only [go_sem,Nat.reduceBEq];try rfl) (by kernel_rfl)) ?_)));refine pA ?_;obtain ⟨l2,h1,hm⟩:=bnd hm;refine hp (id:=130) rfl rfl (bFs jV underlying27 underlying27 rfl bSa bUy bC1 (by rw [bC1];decide) bV0 Zd Zd Z1 Z3 Z6 (aR5 Z1) rfl Z5 h1) ?_;refine pA ?_;refine fs (AWp.ret ?_);cases hm;exact aNh (.inr rfl) Tryz.results75 Z1 Z3 Z6
theorem aM2{x0:cI}{l0:List cI}{r:List cI}(hm:((aWn 16 [] (x0::l0)).bind fun l2=>
some l2)=some r):fP prog 75 [.sl ((x0::l0).flatMap cH) (x0::l0).length false] 2 (r.flatMap cH) r.length:=by
 refine fP.of_body func75 rfl (jV.fmdat r) ?_;simp only [ntmps75,List.length_cons,List.length_nil,Nat.reduceAdd,Nat.reduceSub,iO];refine sN 64 (pA ?_);refine fs (AWp.seq' (sN 128 (pA ?_)));refine pu rfl (aBv Z1 Z1 (aK1 underlying27 (by simp))) ?_;refine fs (AWp.condF Z1 ?_);refine AWp.skip (bQ (sN 192 (hp (id:=128) rfl rfl (kW jV (l:=[]) underlying27 bQc bQt Z5 Zd Zd Zd (by simp only [go_sem,Nat.reduceBEq];try rfl) (by kernel_rfl)) ?_)));refine pA ?_;obtain ⟨l2,h1,hm⟩:=bnd hm;refine hp (id:=130) rfl rfl (bFs jV underlying27 underlying27 rfl bSa bUy bC1 (by rw [bC1];decide) bV0 Zd Zd Z1 Z3 Z6 (aV8 jV Z1 rfl) rfl Z5 h1) ?_;refine pA ?_;refine fs (AWp.ret ?_);cases hm;exact aNh (.inr rfl) Tryz.results75 Z1 Z3 Z6
theorem aNr{l r:List cI}(hm:iP l=some r):fP prog 75 [.sl (l.flatMap cH) l.length false] 2 (r.flatMap cH) r.length:=by
 cases l with
 |nil=>
  have hr:r=[]:=by unfold iP aWn at hm;simpa using hm.symm
  subst hr;exact fP.nil_arg (aM0 (r:=[]) rfl) (fun a c=>aM1 (r:=[]) rfl)
 |cons x0 l0=>
  refine aM2 ?_;show (aWn 16 [] (x0::l0)).bind _=_;unfold iP at hm;rw [hm];rfl
theorem aNq{l r:List cI}(hm:iP l=some r):cE prog 75 [.sl (l.flatMap cH) l.length false] (.sl (r.flatMap cH) r.length false):=cE.of_fresh jV (aNr hm)
instance:Ct prog 75 (K1 prog (vl cH) (vl cH) 75 iP):=⟨fun hm=>aNq hm⟩
def aEc(c_0:aX)(bNz:List cI):Option (aJ×Int):=
 ((iP bNz).bind fun r2=>
 ((gY (aJ.mk c_0 r2 [])).bind fun r4=>
 (bif (!r4) then
  some ((aJ.mk (aX.mk 0 0 0) [] []),1)
 else
  some ((aJ.mk c_0 r2 []),0))))
theorem aTl:K2 prog aJx (vl cH) (t2 dX vi) 34 aEc:=fun hm=>be 16 func34 (h:=G)
instance:Ct prog 34 (K2 prog aJx (vl cH) (t2 dX vi) 34 aEc):=⟨aTl⟩
def aJ3(rec1:Int→Int→List aE→Int→Int→Option (Int×Bool))(u_1:Int)(v_2:Int)(t10:List aE)(t11:Int)(t12:Int):Option (Int×Bool):=
 (bif (decide (t12<t11)) then
  ((idx t10 t12).bind fun x2=>
  (bif (((x2.U==u_1)&&(x2.V==v_2))||((x2.U==v_2)&&(x2.V==u_1))) then
   some (t12,true)
  else
   rec1 u_1 v_2 t10 t11 (IntKind.i64.wrap (t12+1))))
 else
  some (0,false))
def aBh:Nat→Int→Int→List aE→Int→Int→Option (Int×Bool)
 |0=>fun _ _ _ _ _=>none
 |n+1=>aJ3 (aBh n)
def qT(l_0:List aE)(u_1:Int)(v_2:Int):Option (Int×Bool):=
 aBh aY u_1 v_2 l_0 (l_0.length:Int) 0
theorem aHa:K3 prog (vl aV) vi vi (t2 vi vb) 80 qT:=by
 intro l_0 u_1 v_2 r hm
 let I1:=((fun m s=> ∃u_1 v_2 t10 t11 t12,s=⟨41,(aF (aF (aF (aF (aF fa 1 (vi u_1)) 2 (vi v_2)) 10 (vl aV t10)) 11 (vi t11)) 12 (vi t12)),⟨aZ,64⟩⟩∧aBh m u_1 v_2 t10 t11 t12=some r):Nat→St→Prop)
 exact be 41 func80 (h:=G)
instance:Ct prog 80 (K3 prog (vl aV) vi vi (t2 vi vb) 80 qT):=⟨aHa⟩
abbrev aHd(rec1:List Int→Int→List Int→List Int→Int→Int→Option ((List Int)))(p_0:List Int)(v_1:Int)(aCj:List Int)(t18:List Int)(t19:Int)(t20:Int):Option ((List Int)):=
 rec1 p_0 v_1 aCj t18 t19 (IntKind.i64.wrap (t20+1))
def aHc(rec1:List Int→Int→List Int→List Int→Int→Int→Option ((List Int)))(p_0:List Int)(v_1:Int)(aCj:List Int)(t18:List Int)(t19:Int)(t20:Int):Option ((List Int)):=
 (bif (decide (t20<t19)) then
  ((idx t18 t20).bind fun x6=>
  ((idx p_0 v_1).bind fun x8=>
  (bif (x6==x8) then
   ((app aCj [t20]).bind fun l10=>
   aHd rec1 p_0 v_1 l10 t18 t19 t20)
  else
   aHd rec1 p_0 v_1 aCj t18 t19 t20)))
 else
  some aCj)
def zS:Nat→List Int→Int→List Int→List Int→Int→Int→Option ((List Int))
 |0=>fun _ _ _ _ _ _=>none
 |n+1=>aHc (zS n)
def tE(p_0:List Int)(v_1:Int):Option ((List Int)):=
 ((yI p_0).bind fun r2=>
 ((eJ ((!r2)==false) false (jT (p_0.length:Int) v_1)).bind fun r4=>
 (bif ((!r2)||(!r4)) then
  some []
 else
  zS aY p_0 v_1 [] p_0 (p_0.length:Int) 0)))
theorem bB4:K2 prog (vl (ci .i64)) vi (vl (ci .i64)) 84 tE:=by
 intro p_0 v_1 r hm
 let I1:=((fun m s=> ∃p_0 v_1 aCj t18 t19 t20,s=⟨37,(aF (aF (aF (aF (aF (aF fa 0 (vl (ci .i64) p_0)) 1 (vi v_1)) 5 (.own 1 0 aCj.length)) 18 (vl (ci .i64) t18)) 19 (vi t19)) 20 (vi t20)),⟨(upd aZ 1 (.cells 1 (aCj.flatMap (ci .i64)) 0)),64⟩⟩∧zS m p_0 v_1 aCj t18 t19 t20=some r):Nat→St→Prop)
 exact be 37 func84 (h:=G)
instance:Ct prog 84 (K2 prog (vl (ci .i64)) vi (vl (ci .i64)) 84 tE):=⟨bB4⟩
def aCn(n_0:Int):Option (Int):=
 some (Int.tmod n_0 2305843009213693951)
theorem bUe:K1 prog vu vu 130 aCn:=fun hm=>be 5 func130 (h:=G)
instance:Ct prog 130 (K1 prog vu vu 130 aCn):=⟨bUe⟩
def aG6(a_0:Int)(b_1:Int):Option (Int):=
 ((aCn a_0).bind fun r2=>
 ((aCn b_1).bind fun r4=>
 some (Int.tmod (IntKind.u64.wrap (r2+r4)) 2305843009213693951)))
theorem bOw:K2 prog vu vu vu 89 aG6:=fun hm=>be 11 func89 (h:=G)
instance:Ct prog 89 (K2 prog vu vu vu 89 aG6):=⟨bOw⟩
def aB9(x_0:Int)(y_1:Int):Option (Int×Int):=
 some ((IntKind.u64.wrap ((IntKind.u64.wrap ((IntKind.u64.wrap ((shr .u64 x_0 32)*(shr .u64 y_1 32)))+(shr .u64 (IntKind.u64.wrap ((IntKind.u64.wrap ((shr .u64 x_0 32)*(yU .u64 y_1 4294967295)))+(shr .u64 (IntKind.u64.wrap ((yU .u64 x_0 4294967295)*(yU .u64 y_1 4294967295))) 32))) 32)))+(shr .u64 (IntKind.u64.wrap ((yU .u64 (IntKind.u64.wrap ((IntKind.u64.wrap ((shr .u64 x_0 32)*(yU .u64 y_1 4294967295)))+(shr .u64 (IntKind.u64.wrap ((yU .u64 x_0 4294967295)*(yU .u64 y_1 4294967295))) 32))) 4294967295)+(IntKind.u64.wrap ((yU .u64 x_0 4294967295)*(shr .u64 y_1 32))))) 32))),(IntKind.u64.wrap (x_0*y_1)))
theorem aZo:K2 prog vu vu (t2 vu vu) 131 aB9:=fun hm=>be 51 func131 (h:=G)
instance:Ct prog 131 (K2 prog vu vu (t2 vu vu) 131 aB9):=⟨aZo⟩
abbrev aMj(x_0:Int)(n_2:Int):Option (Int):=
 ((aBo bMw (IntKind.u8.wrap x_0)).bind fun b2=>
 some (IntKind.i64.wrap (n_2+(IntKind.i64.wrap b2))))
abbrev aMi(x_0:Int)(n_2:Int):Option (Int):=
 (bif (decide (256≤x_0)) then
  aMj (shr .u64 x_0 8) (IntKind.i64.wrap (n_2+8))
 else
  aMj x_0 n_2)
abbrev aMh(x_0:Int)(n_2:Int):Option (Int):=
 (bif (decide (65536≤x_0)) then
  aMi (shr .u64 x_0 16) (IntKind.i64.wrap (n_2+16))
 else
  aMi x_0 n_2)
def aEk(x_0:Int):Option (Int):=
 (bif (decide (4294967296≤x_0)) then
  aMh (shr .u64 x_0 32) 32
 else
  aMh x_0 0)
theorem aPm:K1 prog vu vi 203 aEk:=fun hm=>be 25 func203 (h:=G)
instance:Ct prog 203 (K1 prog vu vi 203 aEk):=⟨aPm⟩
def nR(x_0:Int):Option (Int):=
 ((aEk x_0).bind fun r2=>
 some (IntKind.i64.wrap (64-r2)))
theorem aB8:K1 prog vu vi 212 nR:=fun hm=>be 6 func212 (h:=G)
instance:Ct prog 212 (K1 prog vu vi 212 nR):=⟨aB8⟩
abbrev yV(y_2:Int)(s_8:Int)(kU:Int)(mA:Int)(vD:Int)(aCf:Int):Option (Int×Int):=
 ((chk (decide (0≤s_8))).bind fun _=>
 some ((IntKind.u64.wrap ((IntKind.u64.wrap (mA*4294967296))+aCf)),(shr .u64 (IntKind.u64.wrap ((IntKind.u64.wrap ((IntKind.u64.wrap (vD*4294967296))+kU))-(IntKind.u64.wrap (aCf*y_2)))) s_8)))
def aGq(rec1:Int→Int→Int→Int→Int→Int→Int→Int→Int→Option (Int×Int))(y_2:Int)(s_8:Int)(qD:Int)(oO:Int)(kU:Int)(mA:Int)(qV:Int)(vD:Int)(aCf:Int):Option (Int×Int):=
 (bif ((decide (4294967296≤aCf))||(decide ((IntKind.u64.wrap ((IntKind.u64.wrap (4294967296*qV))+kU))<(IntKind.u64.wrap (aCf*oO))))) then
  (bif (decide (4294967296≤(IntKind.u64.wrap (qV+qD)))) then
   yV y_2 s_8 kU mA vD (IntKind.u64.wrap (aCf-1))
  else
   rec1 y_2 s_8 qD oO kU mA (IntKind.u64.wrap (qV+qD)) vD (IntKind.u64.wrap (aCf-1)))
 else
  yV y_2 s_8 kU mA vD aCf)
def uF:Nat→Int→Int→Int→Int→Int→Int→Int→Int→Int→Option (Int×Int)
 |0=>fun _ _ _ _ _ _ _ _ _=>none
 |n+1=>aGq (uF n)
abbrev uE(y_2:Int)(s_8:Int)(qD:Int)(oO:Int)(oQ:Int)(uA:Int)(kU:Int)(mA:Int):Option (Int×Int):=
 ((chk (qD !=0)).bind fun _=>
 uF aY y_2 s_8 qD oO kU mA (IntKind.u64.wrap ((IntKind.u64.wrap ((IntKind.u64.wrap ((IntKind.u64.wrap (oQ*4294967296))+uA))-(IntKind.u64.wrap (mA*y_2))))-(IntKind.u64.wrap ((IntKind.u64.wrap (Int.tdiv (IntKind.u64.wrap ((IntKind.u64.wrap ((IntKind.u64.wrap (oQ*4294967296))+uA))-(IntKind.u64.wrap (mA*y_2)))) qD))*qD)))) (IntKind.u64.wrap ((IntKind.u64.wrap ((IntKind.u64.wrap (oQ*4294967296))+uA))-(IntKind.u64.wrap (mA*y_2)))) (IntKind.u64.wrap (Int.tdiv (IntKind.u64.wrap ((IntKind.u64.wrap ((IntKind.u64.wrap (oQ*4294967296))+uA))-(IntKind.u64.wrap (mA*y_2)))) qD)))
def aGr(rec2:Int→Int→Int→Int→Int→Int→Int→Int→Int→Option (Int×Int))(y_2:Int)(s_8:Int)(qD:Int)(oO:Int)(oQ:Int)(uA:Int)(kU:Int)(mA:Int)(qV:Int):Option (Int×Int):=
 (bif ((decide (4294967296≤mA))||(decide ((IntKind.u64.wrap ((IntKind.u64.wrap (4294967296*qV))+uA))<(IntKind.u64.wrap (mA*oO))))) then
  (bif (decide (4294967296≤(IntKind.u64.wrap (qV+qD)))) then
   uE y_2 s_8 qD oO oQ uA kU (IntKind.u64.wrap (mA-1))
  else
   rec2 y_2 s_8 qD oO oQ uA kU (IntKind.u64.wrap (mA-1)) (IntKind.u64.wrap (qV+qD)))
 else
  uE y_2 s_8 qD oO oQ uA kU mA)
def uG:Nat→Int→Int→Int→Int→Int→Int→Int→Int→Int→Option (Int×Int)
 |0=>fun _ _ _ _ _ _ _ _ _=>none
 |n+1=>aGr (uG n)
abbrev aGt(aDm:Int)(uO:Int)(y_2:Int):Option (Int×Int):=
 (bif (aDm==0) then
  ((chk (y_2 !=0)).bind fun _=>
  ((chk (y_2 !=0)).bind fun _=>
  some ((IntKind.u64.wrap (Int.tdiv uO y_2)),(Int.tmod uO y_2))))
 else
  ((nR y_2).bind fun r4=>
  ((chk (decide (0≤(IntKind.u64.wrap r4)))).bind fun _=>
  ((chk (decide (0≤(IntKind.u64.wrap r4)))).bind fun _=>
  ((chk (decide (0≤(IntKind.u64.wrap (64-(IntKind.u64.wrap r4)))))).bind fun _=>
  ((chk (decide (0≤(IntKind.u64.wrap r4)))).bind fun _=>
  ((chk ((shr .u64 (shl .u64 y_2 (IntKind.u64.wrap r4)) 32) !=0)).bind fun _=>
  uG aY (shl .u64 y_2 (IntKind.u64.wrap r4)) (IntKind.u64.wrap r4) (shr .u64 (shl .u64 y_2 (IntKind.u64.wrap r4)) 32) (yU .u64 (shl .u64 y_2 (IntKind.u64.wrap r4)) 4294967295) (bor .u64 (shl .u64 aDm (IntKind.u64.wrap r4)) (shr .u64 uO (IntKind.u64.wrap (64-(IntKind.u64.wrap r4))))) (shr .u64 (shl .u64 uO (IntKind.u64.wrap r4)) 32) (yU .u64 (shl .u64 uO (IntKind.u64.wrap r4)) 4294967295) (IntKind.u64.wrap (Int.tdiv (bor .u64 (shl .u64 aDm (IntKind.u64.wrap r4)) (shr .u64 uO (IntKind.u64.wrap (64-(IntKind.u64.wrap r4))))) (shr .u64 (shl .u64 y_2 (IntKind.u64.wrap r4)) 32))) (IntKind.u64.wrap ((bor .u64 (shl .u64 aDm (IntKind.u64.wrap r4)) (shr .u64 uO (IntKind.u64.wrap (64-(IntKind.u64.wrap r4)))))-(IntKind.u64.wrap ((IntKind.u64.wrap (Int.tdiv (bor .u64 (shl .u64 aDm (IntKind.u64.wrap r4)) (shr .u64 uO (IntKind.u64.wrap (64-(IntKind.u64.wrap r4))))) (shr .u64 (shl .u64 y_2 (IntKind.u64.wrap r4)) 32)))*(shr .u64 (shl .u64 y_2 (IntKind.u64.wrap r4)) 32))))))))))))
abbrev aGs(aDm:Int)(uO:Int)(y_2:Int):Option (Int×Int):=
 (bif (decide (y_2≤aDm)) then
  none
 else
  aGt aDm uO y_2)
def aB7(aDm:Int)(uO:Int)(y_2:Int):Option (Int×Int):=
 (bif (y_2==0) then
  none
 else
  aGs aDm uO y_2)
theorem aZn{aDm:Int}{uO:Int}{y_2:Int}{r:Int×Int}(hm:aB7 aDm uO y_2=some r):cE prog 163 [vu aDm,vu uO,vu y_2] (.tup [vu r.1,vu r.2]):=by
 refine bd 135 func163 ?_;refine V ?_;refine AWp.seqJ (fun s=> ∃aDm uO y_2,s=⟨135,(aF (aF (aF fa 0 (vu aDm)) 1 (vu uO)) 2 (vu y_2)),⟨aZ,64⟩⟩∧aGs aDm uO y_2=some r) ?_ ?_
 ·
  refine W ?_;refine cm hm (fun hm=>?_) fun hm=>?_
  · cases hm
  exact L
 rintro s ⟨aDm,uO,y_2,rfl,hm⟩;refine AWp.seqJ (fun s=> ∃aDm uO y_2,s=⟨135,(aF (aF (aF fa 0 (vu aDm)) 1 (vu uO)) 2 (vu y_2)),⟨aZ,64⟩⟩∧aGt aDm uO y_2=some r) ?_ ?_
 ·
  refine W ?_;refine cm hm (fun hm=>?_) fun hm=>?_
  · cases hm
  exact L
 rintro s ⟨aDm,uO,y_2,rfl,hm⟩;refine W ?_;refine cm hm (fun hm=>?_) fun hm=>?_
 · obtain ⟨_,h1,hm⟩:=bnd hm;obtain ⟨_,h2,hm⟩:=bnd hm;exact E
 obtain ⟨r4,h3,hm⟩:=bnd hm;refine W ?_;refine cq (aB8 h3) ?_;obtain ⟨_,h5,hm⟩:=bnd hm;obtain ⟨_,h6,hm⟩:=bnd hm;obtain ⟨_,h7,hm⟩:=bnd hm;obtain ⟨_,h8,hm⟩:=bnd hm;obtain ⟨_,h9,hm⟩:=bnd hm;refine V ?_;refine AWp.seqJ (fun s=> ∃y_2 s_8 qD oO oQ uA kU mA,s=⟨135,(aF (aF (aF (aF (aF (aF (aF (aF fa 2 (vu y_2)) 8 (vu s_8)) 9 (vu qD)) 10 (vu oO)) 11 (vu oQ)) 13 (vu uA)) 14 (vu kU)) 15 (vu mA)),⟨aZ,64⟩⟩∧uE y_2 s_8 qD oO oQ uA kU mA=some r) ?_ ?_
 ·
  refine W ?_;refine lp (fun m s=> ∃y_2 s_8 qD oO oQ uA kU mA qV,s=⟨135,(aF (aF (aF (aF (aF (aF (aF (aF (aF fa 2 (vu y_2)) 8 (vu s_8)) 9 (vu qD)) 10 (vu oO)) 11 (vu oQ)) 13 (vu uA)) 14 (vu kU)) 15 (vu mA)) 16 (vu qV)),⟨aZ,64⟩⟩∧uG m y_2 s_8 qD oO oQ uA kU mA qV=some r) L ?_;rintro n2 s ⟨y_2,s_8,qD,oO,oQ,uA,kU,mA,qV,rfl,hm⟩;refine W ?_;refine cm hm (fun hm=>?_) fun hm=>?_
  ·
   refine W ?_;refine cm hm (fun hm=>?_) fun hm=>?_
   · refine W ?_;refine aOi Zd ?_;exact L
   exact L
  exact L
 rintro s ⟨y_2,s_8,qD,oO,oQ,uA,kU,mA,rfl,hm⟩;obtain ⟨_,h10,hm⟩:=bnd hm;refine V ?_;refine AWp.seqJ (fun s=> ∃y_2 s_8 kU mA vD aCf,s=⟨135,(aF (aF (aF (aF (aF (aF fa 2 (vu y_2)) 8 (vu s_8)) 14 (vu kU)) 15 (vu mA)) 17 (vu vD)) 18 (vu aCf)),⟨aZ,64⟩⟩∧yV y_2 s_8 kU mA vD aCf=some r) ?_ ?_
 ·
  refine W ?_;refine lp (fun m s=> ∃y_2 s_8 qD oO kU mA qV vD aCf,s=⟨135,(aF (aF (aF (aF (aF (aF (aF (aF (aF fa 2 (vu y_2)) 8 (vu s_8)) 9 (vu qD)) 10 (vu oO)) 14 (vu kU)) 15 (vu mA)) 16 (vu qV)) 17 (vu vD)) 18 (vu aCf)),⟨aZ,64⟩⟩∧uF m y_2 s_8 qD oO kU mA qV vD aCf=some r) L ?_;rintro n1 s ⟨y_2,s_8,qD,oO,kU,mA,qV,vD,aCf,rfl,hm⟩;refine W ?_;refine cm hm (fun hm=>?_) fun hm=>?_
  ·
   refine W ?_;refine cm hm (fun hm=>?_) fun hm=>?_
   · refine W ?_;refine aOi Zd ?_;exact L
   exact L
  exact L
 rintro s ⟨y_2,s_8,kU,mA,vD,aCf,rfl,hm⟩;obtain ⟨_,h11,hm⟩:=bnd hm;exact E
instance:Ct prog 163 (K3 prog vu vu vu (t2 vu vu) 163 aB7):=⟨fun hm=>aZn hm⟩
def aEl(aDm:Int)(uO:Int)(y_2:Int):Option (Int):=
 ((chk (y_2 !=0)).bind fun _=>
 ((aB7 (Int.tmod aDm y_2) uO y_2).bind fun ⟨r3,r4⟩=>
 some r4))
theorem aZp:K3 prog vu vu vu vu 132 aEl:=fun hm=>be 19 func132 (h:=G)
instance:Ct prog 132 (K3 prog vu vu vu vu 132 aEl):=⟨aZp⟩
def aG7(a_0:Int)(b_1:Int):Option (Int):=
 ((aCn a_0).bind fun r2=>
 ((aCn b_1).bind fun r4=>
 ((aB9 r2 r4).bind fun ⟨r6,r7⟩=>
 ((aEl r6 r7 2305843009213693951).bind fun r9=>
 some r9))))
theorem bOx:K2 prog vu vu vu 90 aG7:=fun hm=>be 18 func90 (h:=G)
instance:Ct prog 90 (K2 prog vu vu vu 90 aG7):=⟨bOx⟩
def nV(g_0:aJ)(jX:Int)(v_2:Int):Option (Bool):=
 ((gY g_0).bind fun r2=>
 some ((((r2&&(decide (0≤jX)))&&(decide (jX<g_0.Config.L)))&&(decide (0≤v_2)))&&(decide (v_2<g_0.Config.N))))
theorem aNm:K3 prog dX vi vi vb 136 nV:=fun hm=>be 31 func136 (h:=G)
instance:Ct prog 136 (K3 prog dX vi vi vb 136 nV):=⟨aNm⟩
def aEp(n_0:Int)(l_1:List aE)(v_2:Int):Option ((List Int)):=
 ((qL n_0 l_1).bind fun r2=>
 (bif (!r2) then
  some []
 else
  ((vX n_0 l_1).bind fun ⟨r4,r5⟩=>
  ((tE r4 v_2).bind fun r7=>
  some r7))))
theorem bAb:K3 prog vi (vl aV) vi (vl (ci .i64)) 215 aEp:=fun hm=>be 22 func215 (h:=G)
instance:Ct prog 215 (K3 prog vi (vl aV) vi (vl (ci .i64)) 215 aEp):=⟨bAb⟩
def rT(g_0:aJ)(jX:Int)(v_2:Int):Option ((List Int)):=
 ((kC g_0.Config.N g_0.Edges jX).bind fun r2=>
 ((aEp g_0.Config.N r2 v_2).bind fun r4=>
 some r4))
theorem aUs:K3 prog dX vi vi (vl (ci .i64)) 165 rT:=fun hm=>be 19 func165 (h:=G)
instance:Ct prog 165 (K3 prog dX vi vi (vl (ci .i64)) 165 rT):=⟨aUs⟩
def aLj(rec1:Int→List Int→Int→Int→Option (Bool))(n_0:Int)(t13:List Int)(t14:Int)(t15:Int):Option (Bool):=
 (bif (decide (t15<t14)) then
  ((idx t13 t15).bind fun x4=>
  (bif ((decide (x4<0))||(decide (n_0≤x4))) then
   some false
  else
   rec1 n_0 t13 t14 (IntKind.i64.wrap (t15+1))))
 else
  some true)
def aDe:Nat→Int→List Int→Int→Int→Option (Bool)
 |0=>fun _ _ _ _=>none
 |n+1=>aLj (aDe n)
def aK5(n_0:Int)(l_1:List aE)(aL0:List Int):Option (Bool):=
 ((kL n_0 l_1).bind fun r2=>
 (bif (!r2) then
  some false
 else
  aDe aY n_0 aL0 (aL0.length:Int) 0))
theorem aVm:K3 prog vi (vl aV) (vl (ci .i64)) vb 213 aK5:=by
 intro n_0 l_1 aL0 r hm
 let I1:=((fun m s=> ∃n_0 t13 t14 t15,s=⟨27,(aF (aF (aF (aF fa 0 (vi n_0)) 13 (vl (ci .i64) t13)) 14 (vi t14)) 15 (vi t15)),⟨aZ,64⟩⟩∧aDe m n_0 t13 t14 t15=some r):Nat→St→Prop)
 exact be 27 func213 (h:=G)
instance:Ct prog 213 (K3 prog vi (vl aV) (vl (ci .i64)) vb 213 aK5):=⟨aVm⟩
attribute [local semireducible] aY
end Go.Proofs.YtkdohhmacfoolaaGreatDoor
