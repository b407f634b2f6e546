/- Facts. No condition. -/
import Derived.Test.YtkdohhmacfoolaaGreatDoorPfOf
import Derived.Test.YtkdohhmacfoolaaGreatDoorPfAmF
set_option linter.unusedVariables false
set_option linter.unusedSimpArgs false
set_option maxRecDepth 20000
set_option maxHeartbeats 4000000
namespace Go.Proofs.YtkdohhmacfoolaaGreatDoor
open Go.Proofs.Tryz Go Go.AM
attribute [local irreducible] aW
abbrev bNm:ByteArray:=⟨#[0,1,2,2,3,3,3,3,4,4,4,4,4,4,4,4,5,5,5,5,5,5,5,5,5,5,5,5,5,5,5,5,6,6,6,6,6,6,6,6,6,6,6,6,6,6,6,6,6,6,6,6,6,6,6,6,6,6,6,6,6,6,6,6,7,7,7,7,7,7,7,7,7,7,7,7,7,7,7,7,7,7,7,7,7,7,7,7,7,7,7,7,7,7,7,7,7,7,7,7,7,7,7,7,7,7,7,7,7,7,7,7,7,7,7,7,7,7,7,7,7,7,7,7,7,7,7,7,8,8,8,8,8,8,8,8,8,8,8,8,8,8,8,8,8,8,8,8,8,8,8,8,8,8,8,8,8,8,8,8,8,8,8,8,8,8,8,8,8,8,8,8,8,8,8,8,8,8,8,8,8,8,8,8,8,8,8,8,8,8,8,8,8,8,8,8,8,8,8,8,8,8,8,8,8,8,8,8,8,8,8,8,8,8,8,8,8,8,8,8,8,8,8,8,8,8,8,8,8,8,8,8,8,8,8,8,8,8,8,8,8,8,8,8,8,8,8,8,8,8,8,8,8,8,8,8]⟩
structure bC where
 N:Int
 L:Int
 R:Int
deriving DecidableEq
def aMy(e:bC):List AV:=[.v (.int .i64 e.N),.v (.int .i64 e.L),.v (.int .i64 e.R)]
theorem aOc:CF aMy 3:=⟨fun _=>rfl,fun a x hx=>by
 simp only [aMy,List.mem_cons,List.not_mem_nil,or_false] at hx;rcases hx with rfl|rfl|rfl
 · exact (.v _)
 · exact (.v _)
 · exact (.v _),fun _=>rfl⟩
instance:CC aMy 3:=⟨aOc⟩
abbrev aKa(e:bC):AV:= .agg [.v (.int .i64 e.N),vi e.L,vi e.R]
@[go_sem] theorem aX5(e:bC)(r:List AV):aMy e++r= .v (.int .i64 e.N):: .v (.int .i64 e.L):: .v (.int .i64 e.R)::r:=rfl
structure bW where
 A:Int
 B:Int
deriving DecidableEq
def cL(e:bW):List AV:=[.v (.int .u64 e.A),.v (.int .u64 e.B)]
theorem jR:CF cL 2:=⟨fun _=>rfl,fun a x hx=>by
 simp only [cL,List.mem_cons,List.not_mem_nil,or_false] at hx;rcases hx with rfl|rfl
 · exact (.v _)
 · exact (.v _),fun _=>rfl⟩
instance:CC cL 2:=⟨jR⟩
abbrev aZe(e:bW):AV:= .agg [.v (.int .u64 e.A),vu e.B]
instance:CE prog 27 cL 2 (bW.mk 0 0):=⟨_,underlying27,bR3,bRj,inferInstance,jR,by decide,by decide⟩
@[go_sem] theorem bDt(e:bW)(r:List AV):cL e++r= .v (.int .u64 e.A):: .v (.int .u64 e.B)::r:=rfl
structure aJ where
 Config:bC
 Hashes:List bW
 Edges:List aE
deriving DecidableEq
def aRo(e:aJ):List AV:=[.v (.int .i64 e.Config.N),.v (.int .i64 e.Config.L),.v (.int .i64 e.Config.R),.sl (e.Hashes.flatMap cL) e.Hashes.length false,.sl (e.Edges.flatMap aV) e.Edges.length false]
theorem bMi:CF aRo 5:=⟨fun _=>rfl,fun a x hx=>by
 simp only [aRo,List.mem_cons,List.not_mem_nil,or_false] at hx;rcases hx with rfl|rfl|rfl|rfl|rfl
 · exact (.v _)
 · exact (.v _)
 · exact (.v _)
 · exact (jR.sl _ _ _)
 · exact (cI.sl _ _ _),fun _=>rfl⟩
instance:CC aRo 5:=⟨bMi⟩
abbrev dR(e:aJ):AV:= .agg [.v (.int .i64 e.Config.N),vi e.Config.L,vi e.Config.R,vl cL e.Hashes,vl aV e.Edges]
@[go_sem] theorem bA8(e:aJ)(r:List AV):aRo e++r= .v (.int .i64 e.Config.N):: .v (.int .i64 e.Config.L):: .v (.int .i64 e.Config.R):: .sl (e.Hashes.flatMap cL) e.Hashes.length false:: .sl (e.Edges.flatMap aV) e.Edges.length false::r:=rfl
theorem bO4(x0 y0 x1 y1 x2 y2:Int):iI prog .eql 61 (.agg [.v (.int .i64 x0),.v (.int .i64 x1),.v (.int .i64 x2)]) (.agg [.v (.int .i64 y0),.v (.int .i64 y1),.v (.int .i64 y2)])=some (.v (.bool ((x0==y0)&&((x1==y1)&&(x2==y2))))):=
 (by kernel_rfl:iI prog .eql 61 (.agg [.v (.int .i64 x0),.v (.int .i64 x1),.v (.int .i64 x2)]) (.agg [.v (.int .i64 y0),.v (.int .i64 y1),.v (.int .i64 y2)])=some (.v (.bool ((x0==y0)&&((x1==y1)&&((x2==y2)&&true)))))).trans (by rw [Bool.and_true])
theorem bQ1(x0 y0 x1 y1 x2 y2:Int):iI prog .neq 61 (.agg [.v (.int .i64 x0),.v (.int .i64 x1),.v (.int .i64 x2)]) (.agg [.v (.int .i64 y0),.v (.int .i64 y1),.v (.int .i64 y2)])=some (.v (.bool (!((x0==y0)&&((x1==y1)&&(x2==y2)))))):=
 (by kernel_rfl:iI prog .neq 61 (.agg [.v (.int .i64 x0),.v (.int .i64 x1),.v (.int .i64 x2)]) (.agg [.v (.int .i64 y0),.v (.int .i64 y1),.v (.int .i64 y2)])=some (.v (.bool (!((x0==y0)&&((x1==y1)&&((x2==y2)&&true))))))).trans (by rw [Bool.and_true])
attribute [go_sem] bO4 bQ1
@[go_sem] theorem bIu(xs:List AV):aH prog 61 (.ptr (xs)) 0=some (.ptr xs):=by kernel_rfl
@[go_sem] theorem bIv(x0:AV)(xs:List AV):aH prog 61 (.ptr (x0::xs)) 1=some (.ptr xs):=by kernel_rfl
@[go_sem] theorem bIw(x0:AV)(x1:AV)(xs:List AV):aH prog 61 (.ptr (x0::x1::xs)) 2=some (.ptr xs):=by kernel_rfl
@[go_sem] theorem bIx(xs:List AV):aH prog 94 (.ptr (xs)) 0=some (.ptr xs):=by kernel_rfl
@[go_sem] theorem bIy(x0:AV)(xs:List AV):aH prog 94 (.ptr (x0::xs)) 1=some (.ptr xs):=by kernel_rfl
@[go_sem] theorem bJ4(i o:Nat):aH prog 23 (.adr i o) 0=some (.adr i (o+0)):=by kernel_rfl
@[go_sem] theorem bJb(i o:Nat):aH prog 23 (.adr i o) 1=some (.adr i (o+1)):=by kernel_rfl
@[go_sem] theorem bJh(i o:Nat):aH prog 23 (.adr i o) 2=some (.adr i (o+2)):=by kernel_rfl
@[go_sem] theorem bJn(i o:Nat):aH prog 30 (.adr i o) 0=some (.adr i (o+0)):=by kernel_rfl
@[go_sem] theorem bJt(i o:Nat):aH prog 30 (.adr i o) 1=some (.adr i (o+3)):=by kernel_rfl
@[go_sem] theorem bJx(i o:Nat):aH prog 30 (.adr i o) 2=some (.adr i (o+4)):=by kernel_rfl
@[go_sem] theorem bKk(i o:Nat):aH prog 61 (.adr i o) 0=some (.adr i (o+0)):=by kernel_rfl
@[go_sem] theorem bKq(i o:Nat):aH prog 61 (.adr i o) 1=some (.adr i (o+1)):=by kernel_rfl
@[go_sem] theorem bKw(i o:Nat):aH prog 61 (.adr i o) 2=some (.adr i (o+2)):=by kernel_rfl
@[go_sem] theorem bL6(i o:Nat):aH prog 94 (.adr i o) 0=some (.adr i (o+0)):=by kernel_rfl
@[go_sem] theorem bL9(i o:Nat):aH prog 94 (.adr i o) 1=some (.adr i (o+1)):=by kernel_rfl
@[go_sem] theorem bT9(H:aG)(x0 x1 x2:AV)(xs:List AV):bT prog H 23 (.ptr (x0::x1::x2::xs))=some (.agg [x0,x1,x2]):=by kernel_rfl
@[go_sem] theorem bTg(H:aG)(x:AV)(xs:List AV):bT prog H 27 (.ptr (x::xs))=some x:=by kernel_rfl
@[go_sem] theorem bTk(H:aG)(x:AV)(xs:List AV):bT prog H 28 (.ptr (x::xs))=some x:=by kernel_rfl
@[go_sem] theorem bXu(H:aG)(x:AV)(xs:List AV):bT prog H 3 (.ptr (x::xs))=some x:=by kernel_rfl
@[go_sem] theorem bTq(H:aG)(x0 x1 x2 x3 x4:AV)(xs:List AV):bT prog H 30 (.ptr (x0::x1::x2::x3::x4::xs))=some (.agg [x0,x1,x2,x3,x4]):=by kernel_rfl
@[go_sem] theorem bU9(H:aG)(x:AV)(xs:List AV):bT prog H 40 (.ptr (x::xs))=some x:=by kernel_rfl
@[go_sem] theorem bUh(H:aG)(x0 x1 x2:AV)(xs:List AV):bT prog H 61 (.ptr (x0::x1::x2::xs))=some (.agg [x0,x1,x2]):=by kernel_rfl
@[go_sem] theorem bUr(H:aG)(x0 x1:AV)(xs:List AV):bT prog H 94 (.ptr (x0::x1::xs))=some (.agg [x0,x1]):=by kernel_rfl
@[go_sem] theorem bE1(H:aG)(k:IntKind)(n:Int):mU prog H 3 162 (.v (.int k n))=some (.v (.int .u64 (IntKind.u64.wrap n))):=gK underlying3 underlying162
@[go_sem] theorem bNu(H:aG)(k:IntKind)(n:Int):mU prog H 5 3 (.v (.int k n))=some (.v (.int .i64 (IntKind.i64.wrap n))):=gK underlying5 underlying3
@[go_sem] theorem bIq(H:aG)(k:IntKind)(n:Int):mU prog H 40 5 (.v (.int k n))=some (.v (.int .u8 (IntKind.u8.wrap n))):=gK underlying40 underlying5
def aHu(rec1:List aE→List aE→Int→Option (Bool))(a_0:List aE)(b_1:List aE)(i_5:Int):Option (Bool):=
 (bif (decide (i_5<(a_0.length:Int))) then
  ((idx a_0 i_5).bind fun x2=>
  ((idx b_1 i_5).bind fun x4=>
  (bif (!((x2.U==x4.U)&&((x2.V==x4.V)&&(x2.Tier==x4.Tier)))) then
   some false
  else
   rec1 a_0 b_1 (IntKind.i64.wrap (i_5+1)))))
 else
  some true)
def zW:Nat→List aE→List aE→Int→Option (Bool)
 |0=>fun _ _ _=>none
 |n+1=>aHu (zW n)
def aBt(a_0:List aE)(b_1:List aE):Option (Bool):=
 (bif ((a_0.length:Int) !=(b_1.length:Int)) then
  some false
 else
  zW aW a_0 b_1 0)
theorem bC2:K2 prog (vl aV) (vl aV) vb 16 aBt:=by
 intro a_0 b_1 r hm
 let I1:=((fun m s=> ∃a_0 b_1 i_5,s=⟨26,(aF (aF (aF fa 0 (vl aV a_0)) 1 (vl aV b_1)) 5 (vi i_5)),⟨aY,64⟩⟩∧zW m a_0 b_1 i_5=some r):Nat→St→Prop)
 exact be 26 func16 (h:=G)
instance:Ct prog 16 (K2 prog (vl aV) (vl aV) vb 16 aBt):=⟨bC2⟩
def sD(bR8:Int):Option (Bool):=
 some ((decide (0≤bR8))&&(decide (bR8≤16)))
theorem aLf:K1 prog vi vb 133 sD:=fun hm=>be 9 func133 (h:=G)
instance:Ct prog 133 (K1 prog vi vb 133 sD):=⟨aLf⟩
def xB(a_0:aE)(b_1:aE):Option (Bool):=
 some ((decide (a_0.U<b_1.U))||((a_0.U==b_1.U)&&(decide (a_0.V<b_1.V))))
theorem aT2:K2 prog aFz aFz vb 134 xB:=fun hm=>be 24 func134 (h:=G)
instance:Ct prog 134 (K2 prog aFz aFz vb 134 xB):=⟨aT2⟩
def aFy(rec1:Int→List aE→List aE→Int→Int→Option (Bool))(n_0:Int)(l_1:List aE)(t13:List aE)(t14:Int)(t15:Int):Option (Bool):=
 (bif (decide (t15<t14)) then
  ((idx t13 t15).bind fun x2=>
  ((eG ((((decide (x2.U<0))||(decide (x2.V≤x2.U)))||(decide (n_0≤x2.V)))==false) false (sD x2.Tier)).bind fun r4=>
  (bif ((((decide (x2.U<0))||(decide (x2.V≤x2.U)))||(decide (n_0≤x2.V)))||(!r4)) then
   some false
  else
   ((eG ((decide (0<t15))==true) (aE.mk 0 0 0) (idx l_1 (IntKind.i64.wrap (t15-1)))).bind fun x6=>
   ((eG ((decide (0<t15))==true) false (xB x6 x2)).bind fun r8=>
   (bif ((decide (0<t15))&&(!r8)) then
    some false
   else
    rec1 n_0 l_1 t13 t14 (IntKind.i64.wrap (t15+1))))))))
 else
  some true)
def wF:Nat→Int→List aE→List aE→Int→Int→Option (Bool)
 |0=>fun _ _ _ _ _=>none
 |n+1=>aFy (wF n)
def kN(n_0:Int)(l_1:List aE):Option (Bool):=
 (bif ((decide (n_0<0))||(decide (1024<n_0))) then
  some false
 else
  wF aW n_0 l_1 l_1 (l_1.length:Int) 0)
theorem aD5:K2 prog vi (vl aV) vb 92 kN:=by
 intro n_0 l_1 r hm
 let I1:=((fun m s=> ∃n_0 l_1 t13 t14 t15,s=⟨55,(aF (aF (aF (aF (aF fa 0 (vi n_0)) 1 (vl aV l_1)) 13 (vl aV t13)) 14 (vi t14)) 15 (vi t15)),⟨aY,64⟩⟩∧wF m n_0 l_1 t13 t14 t15=some r):Nat→St→Prop)
 exact be 55 func92 (h:=G)
instance:Ct prog 92 (K2 prog vi (vl aV) vb 92 kN):=⟨aD5⟩
abbrev aEe(rec1:Int→List aE→List aE→Int→Int→Option ((List aE)))(aEf:Int)(zD:List aE)(t14:List aE)(t15:Int)(t16:Int):Option ((List aE)):=
 rec1 aEf zD t14 t15 (IntKind.i64.wrap (t16+1))
def aEd(rec1:Int→List aE→List aE→Int→Int→Option ((List aE)))(aEf:Int)(zD:List aE)(t14:List aE)(t15:Int)(t16:Int):Option ((List aE)):=
 (bif (decide (t16<t15)) then
  ((idx t14 t16).bind fun x4=>
  (bif ((decide (1≤x4.Tier))&&(decide (x4.Tier≤aEf))) then
   ((app zD [x4]).bind fun l6=>
   aEe rec1 aEf l6 t14 t15 t16)
  else
   aEe rec1 aEf zD t14 t15 t16))
 else
  some zD)
def tQ:Nat→Int→List aE→List aE→Int→Int→Option ((List aE))
 |0=>fun _ _ _ _ _=>none
 |n+1=>aEd (tQ n)
def kG(n_0:Int)(l_1:List aE)(aEf:Int):Option ((List aE)):=
 ((kN n_0 l_1).bind fun r2=>
 (bif (!r2) then
  some []
 else
  tQ aW aEf [] l_1 (l_1.length:Int) 0))
theorem aLe:K3 prog vi (vl aV) vi (vl aV) 55 kG:=by
 intro n_0 l_1 aEf r hm
 let I1:=((fun m s=> ∃aEf zD t14 t15 t16,s=⟨35,(aF (aF (aF (aF (aF fa 2 (vi aEf)) 7 (.own 1 0 zD.length)) 14 (vl aV t14)) 15 (vi t15)) 16 (vi t16)),⟨(upd aY 1 (.cells 3 (zD.flatMap aV) 0)),64⟩⟩∧tQ m aEf zD t14 t15 t16=some r):Nat→St→Prop)
 exact be 35 func55 (h:=G)
instance:Ct prog 55 (K3 prog vi (vl aV) vi (vl aV) 55 kG):=⟨aLe⟩
def aHo(rec1:List Int→List Int→Int→Int→Option (Bool))(p_0:List Int)(t5:List Int)(t6:Int)(t7:Int):Option (Bool):=
 (bif (decide (t7<t6)) then
  ((idx t5 t7).bind fun x2=>
  ((jX (p_0.length:Int) x2).bind fun r4=>
  ((eG (((!r4)||(decide (t7<x2)))==false) 0 (idx p_0 x2)).bind fun x6=>
  (bif (((!r4)||(decide (t7<x2)))||(x6 !=x2)) then
   some false
  else
   rec1 p_0 t5 t6 (IntKind.i64.wrap (t7+1))))))
 else
  some true)
def zR:Nat→List Int→List Int→Int→Int→Option (Bool)
 |0=>fun _ _ _ _=>none
 |n+1=>aHo (zR n)
def yA(p_0:List Int):Option (Bool):=
 zR aW p_0 p_0 (p_0.length:Int) 0
theorem bBp:K1 prog (vl (ci .i64)) vb 56 yA:=by
 intro p_0 r hm
 let I1:=((fun m s=> ∃p_0 t5 t6 t7,s=⟨31,(aF (aF (aF (aF fa 0 (vl (ci .i64) p_0)) 5 (vl (ci .i64) t5)) 6 (vi t6)) 7 (vi t7)),⟨aY,64⟩⟩∧zR m p_0 t5 t6 t7=some r):Nat→St→Prop)
 exact be 31 func56 (h:=G)
instance:Ct prog 56 (K1 prog (vl (ci .i64)) vb 56 yA):=⟨bBp⟩
abbrev aJq(rec1:Int→List Int→Int→Int→Option (Int))(aJd:Int)(t9:List Int)(t10:Int)(t11:Int):Option (Int):=
 rec1 aJd t9 t10 (IntKind.i64.wrap (t11+1))
def aJp(rec1:Int→List Int→Int→Int→Option (Int))(aJd:Int)(t9:List Int)(t10:Int)(t11:Int):Option (Int):=
 (bif (decide (t11<t10)) then
  ((idx t9 t11).bind fun x4=>
  (bif (t11==x4) then
   aJq rec1 (IntKind.i64.wrap (aJd+1)) t9 t10 t11
  else
   aJq rec1 aJd t9 t10 t11))
 else
  some aJd)
def aBp:Nat→Int→List Int→Int→Int→Option (Int)
 |0=>fun _ _ _ _=>none
 |n+1=>aJp (aBp n)
def aDx(p_0:List Int):Option (Int):=
 ((yA p_0).bind fun r2=>
 (bif (!r2) then
  some 0
 else
  aBp aW 0 p_0 (p_0.length:Int) 0))
theorem bFm:K1 prog (vl (ci .i64)) vi 135 aDx:=by
 intro p_0 r hm
 let I1:=((fun m s=> ∃aJd t9 t10 t11,s=⟨23,(aF (aF (aF (aF fa 3 (vi aJd)) 9 (vl (ci .i64) t9)) 10 (vi t10)) 11 (vi t11)),⟨aY,64⟩⟩∧aBp m aJd t9 t10 t11=some r):Nat→St→Prop)
 exact be 23 func135 (h:=G)
instance:Ct prog 135 (K1 prog (vl (ci .i64)) vi 135 aDx):=⟨bFm⟩
def qM(n_0:Int)(l_1:List aE):Option (Bool):=
 ((vR n_0 l_1).bind fun ⟨r2,r3⟩=>
 ((eG ((r3==0)==true) 0 (aDx r2)).bind fun r5=>
 some ((r3==0)&&(r5==(IntKind.i64.wrap (n_0-(l_1.length:Int)))))))
theorem aXl:K2 prog vi (vl aV) vb 93 qM:=fun hm=>be 24 func93 (h:=G)
instance:Ct prog 93 (K2 prog vi (vl aV) vb 93 qM):=⟨aXl⟩
def aE4(rec2:aJ→bC→List aE→Int→Int→Option (Bool))(g_1:aJ)(c_3:bC)(t70:List aE)(t71:Int)(t72:Int):Option (Bool):=
 (bif (decide (t72<t71)) then
  ((idx t70 t72).bind fun x6=>
  (bif (decide (c_3.L<x6.Tier)) then
   some false
  else
   rec2 g_1 c_3 t70 t71 (IntKind.i64.wrap (t72+1))))
 else
  ((kG c_3.N g_1.Edges c_3.L).bind fun r8=>
  ((qM c_3.N r8).bind fun r10=>
  some r10)))
def tH:Nat→aJ→bC→List aE→Int→Int→Option (Bool)
 |0=>fun _ _ _ _ _=>none
 |n+1=>aE4 (tH n)
def aE3(rec1:aJ→bC→List bW→Int→Int→Option (Bool))(g_1:aJ)(c_3:bC)(t48:List bW)(t49:Int)(t50:Int):Option (Bool):=
 (bif (decide (t50<t49)) then
  ((idx t48 t50).bind fun x2=>
  (bif ((decide (2305843009213693951≤x2.A))||(decide (2305843009213693951≤x2.B))) then
   some false
  else
   rec1 g_1 c_3 t48 t49 (IntKind.i64.wrap (t50+1))))
 else
  ((kN c_3.N g_1.Edges).bind fun r4=>
  (bif (!r4) then
   some false
  else
   tH aW g_1 c_3 g_1.Edges (g_1.Edges.length:Int) 0)))
def tF:Nat→aJ→bC→List bW→Int→Int→Option (Bool)
 |0=>fun _ _ _ _ _=>none
 |n+1=>aE3 (tF n)
def gY(g_0:aJ):Option (Bool):=
 (bif ((((((decide (g_0.Config.N<1))||(decide (1024<g_0.Config.N)))||(decide (g_0.Config.L<1)))||(decide (16<g_0.Config.L)))||(decide (g_0.Config.R<1)))||(decide (8<g_0.Config.R))) then
  some false
 else
  (bif ((g_0.Hashes.length:Int) !=(IntKind.i64.wrap (g_0.Config.L*g_0.Config.R))) then
   some false
  else
   tF aW g_0 g_0.Config g_0.Hashes (g_0.Hashes.length:Int) 0))
theorem aV2:K1 prog dR vb 45 gY:=by
 intro g_0 r hm
 let I1:=((fun m s=> ∃g_1 c_3 t48 t49 t50,s=⟨92,(aF (aF (aF (aF (aF fa 1 (.adr 1 0)) 3 (.adr 2 0)) 48 (vl cL t48)) 49 (vi t49)) 50 (vi t50)),⟨(upd (upd aY 1 (.cells 1 [vi g_1.Config.N,vi g_1.Config.L,vi g_1.Config.R,vl cL g_1.Hashes,vl aV g_1.Edges] 0)) 2 (.cells 1 [vi c_3.N,vi c_3.L,vi c_3.R] 0)),64⟩⟩∧tF m g_1 c_3 t48 t49 t50=some r):Nat→St→Prop)
 let I2:=((fun m s=> ∃g_1 c_3 t70 t71 t72,s=⟨92,(aF (aF (aF (aF (aF fa 1 (.adr 1 0)) 3 (.adr 2 0)) 70 (vl aV t70)) 71 (vi t71)) 72 (vi t72)),⟨(upd (upd aY 1 (.cells 1 [vi g_1.Config.N,vi g_1.Config.L,vi g_1.Config.R,vl cL g_1.Hashes,vl aV g_1.Edges] 0)) 2 (.cells 1 [vi c_3.N,vi c_3.L,vi c_3.R] 0)),64⟩⟩∧tH m g_1 c_3 t70 t71 t72=some r):Nat→St→Prop)
 exact be 92 func45 (h:=G)
instance:Ct prog 45 (K1 prog dR vb 45 gY):=⟨aV2⟩
def tU(g_0:aJ):Option ((List Int)):=
 ((gY g_0).bind fun r2=>
 (bif (!r2) then
  some []
 else
  ((kG g_0.Config.N g_0.Edges g_0.Config.L).bind fun r4=>
  ((vR g_0.Config.N r4).bind fun ⟨r6,r7⟩=>
  some r6))))
theorem bCv:K1 prog dR (vl (ci .i64)) 20 tU:=fun hm=>be 25 func20 (h:=G)
instance:Ct prog 20 (K1 prog dR (vl (ci .i64)) 20 tU):=⟨bCv⟩
def aG4(g_0:aJ):Option ((List Int)):=
 ((gY g_0).bind fun r2=>
 (bif (!r2) then
  some []
 else
  ((vR g_0.Config.N g_0.Edges).bind fun ⟨r4,r5⟩=>
  some r4)))
theorem bI7:K1 prog dR (vl (ci .i64)) 58 aG4:=fun hm=>be 18 func58 (h:=G)
instance:Ct prog 58 (K1 prog dR (vl (ci .i64)) 58 aG4):=⟨bI7⟩
def aA5(rec1:List Int→List Int→Int→Int→Option (Bool))(aUx:List Int)(aYy:List Int)(t12:Int)(t13:Int):Option (Bool):=
 (bif (decide (t13<t12)) then
  ((idx aUx t13).bind fun x2=>
  ((idx aYy t13).bind fun x4=>
  (bif (x2 !=x4) then
   some false
  else
   rec1 aUx aYy t12 (IntKind.i64.wrap (t13+1)))))
 else
  some true)
def oA:Nat→List Int→List Int→Int→Int→Option (Bool)
 |0=>fun _ _ _ _=>none
 |n+1=>aA5 (oA n)
def pZ(aUx:List Int)(aYy:List Int):Option (Bool):=
 (bif ((aUx.length:Int) !=(aYy.length:Int)) then
  some false
 else
  oA aW aUx aYy (aUx.length:Int) 0)
theorem aPf:K2 prog (vl (ci .i64)) (vl (ci .i64)) vb 57 pZ:=by
 intro aUx aYy r hm
 let I1:=((fun m s=> ∃aUx aYy t12 t13,s=⟨26,(aF (aF (aF (aF fa 0 (vl (ci .i64) aUx)) 1 (vl (ci .i64) aYy)) 12 (vi t12)) 13 (vi t13)),⟨aY,64⟩⟩∧oA m aUx aYy t12 t13=some r):Nat→St→Prop)
 exact be 26 func57 (h:=G)
instance:Ct prog 57 (K2 prog (vl (ci .i64)) (vl (ci .i64)) vb 57 pZ):=⟨aPf⟩
def yP(g_0:aJ):Option (Bool):=
 ((gY g_0).bind fun r2=>
 ((eG (r2==true) [] (tU g_0)).bind fun r4=>
 ((eG (r2==true) [] (aG4 g_0)).bind fun r6=>
 ((eG (r2==true) false (pZ r4 r6)).bind fun r8=>
 some (r2&&r8)))))
theorem aX2:K1 prog dR vb 25 yP:=fun hm=>be 12 func25 (h:=G)
instance:Ct prog 25 (K1 prog dR vb 25 yP):=⟨aX2⟩
def iQ(l:List bW):Option (List bW):=aWy 16 [] l
theorem aMa{r:List bW}(hm:some []=some r):fS prog 75 [.v (.slice none 0 0)] 2 (r.flatMap cL) r.length:=by
 refine fS.of_body func75 rfl (jR.fmdat r) ?_;simp only [ntmps75,List.length_cons,List.length_nil,Nat.reduceAdd,Nat.reduceSub,iO];refine sN 64 (pA ?_);refine fs (AWp.seq' (sN 128 (pA ?_)));refine pu rfl (aC4 Z1 Z1 (aMn underlying27)) ?_;refine fs (AWp.condT Z1 ?_);refine sN 192 (pA ?_);refine fs (AWp.weaken (aAq 2 900002 2 Z1 Z5) ?_);refine AWp.ret (jF ?_);cases hm;exact aNo (.inr rfl) Tryz.results75 Z1 Z3 Z6
theorem aMb{a:Addr}{c:Nat}{r:List bW}(hm:((aWy 16 [] []).bind fun l2=>
some l2)=some r):fS prog 75 [.v (.slice (some a) 0 c)] 2 (r.flatMap cL) r.length:=by
 refine fS.of_body func75 rfl (jR.fmdat r) ?_;simp only [ntmps75,List.length_cons,List.length_nil,Nat.reduceAdd,Nat.reduceSub,iO];refine sN 64 (pA ?_);refine fs (AWp.seq' (sN 128 (pA ?_)));refine pu rfl (aC4 Z1 Z1 (aKf underlying27)) ?_;refine fs (AWp.condF Z1 ?_);refine AWp.skip (bQ (sN 192 (hp (id:=128) rfl rfl (kZ jR (l:=[]) underlying27 bR3 bRj Z5 Zd Zd Zd (by simp only [go_sem,Nat.reduceBEq];try rfl) (by kernel_rfl)) ?_)));refine pA ?_;obtain ⟨l2,h1,hm⟩:=bnd hm;refine hp (id:=130) rfl rfl (bGf jR underlying27 underlying27 rfl bT2 bVr bCp (by rw [bCp];decide) bVt Zd Zd Z1 Z3 Z6 (aRm Z1) rfl Z5 h1) ?_;refine pA ?_;refine fs (AWp.ret ?_);cases hm;exact aNo (.inr rfl) Tryz.results75 Z1 Z3 Z6
theorem aMc{x0:bW}{l0:List bW}{r:List bW}(hm:((aWy 16 [] (x0::l0)).bind fun l2=>
some l2)=some r):fS prog 75 [.sl ((x0::l0).flatMap cL) (x0::l0).length false] 2 (r.flatMap cL) r.length:=by
 refine fS.of_body func75 rfl (jR.fmdat r) ?_;simp only [ntmps75,List.length_cons,List.length_nil,Nat.reduceAdd,Nat.reduceSub,iO];refine sN 64 (pA ?_);refine fs (AWp.seq' (sN 128 (pA ?_)));refine pu rfl (aC4 Z1 Z1 (aKe underlying27 (by simp))) ?_;refine fs (AWp.condF Z1 ?_);refine AWp.skip (bQ (sN 192 (hp (id:=128) rfl rfl (kZ jR (l:=[]) underlying27 bR3 bRj Z5 Zd Zd Zd (by simp only [go_sem,Nat.reduceBEq];try rfl) (by kernel_rfl)) ?_)));refine pA ?_;obtain ⟨l2,h1,hm⟩:=bnd hm;refine hp (id:=130) rfl rfl (bGf jR underlying27 underlying27 rfl bT2 bVr bCp (by rw [bCp];decide) bVt Zd Zd Z1 Z3 Z6 (aVj jR Z1 rfl) rfl Z5 h1) ?_;refine pA ?_;refine fs (AWp.ret ?_);cases hm;exact aNo (.inr rfl) Tryz.results75 Z1 Z3 Z6
theorem aNy{l r:List bW}(hm:iQ l=some r):fS prog 75 [.sl (l.flatMap cL) l.length false] 2 (r.flatMap cL) r.length:=by
 cases l with
 |nil=>
  have hr:r=[]:=by unfold iQ aWy at hm;simpa using hm.symm
  subst hr;exact fS.nil_arg (aMa (r:=[]) rfl) (fun a c=>aMb (r:=[]) rfl)
 |cons x0 l0=>
  refine aMc ?_;show (aWy 16 [] (x0::l0)).bind _=_;unfold iQ at hm;rw [hm];rfl
theorem aNx{l r:List bW}(hm:iQ l=some r):bY prog 75 [.sl (l.flatMap cL) l.length false] (.sl (r.flatMap cL) r.length false):=bY.of_fresh jR (aNy hm)
instance:Ct prog 75 (K1 prog (vl cL) (vl cL) 75 iQ):=⟨fun hm=>aNx hm⟩
def aEh(c_0:bC)(bOs:List bW):Option (aJ×Int):=
 ((iQ bOs).bind fun r2=>
 ((gY (aJ.mk c_0 r2 [])).bind fun r4=>
 (bif (!r4) then
  some ((aJ.mk (bC.mk 0 0 0) [] []),1)
 else
  some ((aJ.mk c_0 r2 []),0))))
theorem aTx:K2 prog aKa (vl cL) (t2 dR vi) 34 aEh:=fun hm=>be 16 func34 (h:=G)
instance:Ct prog 34 (K2 prog aKa (vl cL) (t2 dR vi) 34 aEh):=⟨aTx⟩
def aJg(rec1:Int→Int→List aE→Int→Int→Option (Int×Bool))(u_1:Int)(v_2:Int)(t10:List aE)(t11:Int)(t12:Int):Option (Int×Bool):=
 (bif (decide (t12<t11)) then
  ((idx t10 t12).bind fun x2=>
  (bif (((x2.U==u_1)&&(x2.V==v_2))||((x2.U==v_2)&&(x2.V==u_1))) then
   some (t12,true)
  else
   rec1 u_1 v_2 t10 t11 (IntKind.i64.wrap (t12+1))))
 else
  some (0,false))
def aBn:Nat→Int→Int→List aE→Int→Int→Option (Int×Bool)
 |0=>fun _ _ _ _ _=>none
 |n+1=>aJg (aBn n)
def qU(l_0:List aE)(u_1:Int)(v_2:Int):Option (Int×Bool):=
 aBn aW u_1 v_2 l_0 (l_0.length:Int) 0
theorem aHj:K3 prog (vl aV) vi vi (t2 vi vb) 80 qU:=by
 intro l_0 u_1 v_2 r hm
 let I1:=((fun m s=> ∃u_1 v_2 t10 t11 t12,s=⟨41,(aF (aF (aF (aF (aF fa 1 (vi u_1)) 2 (vi v_2)) 10 (vl aV t10)) 11 (vi t11)) 12 (vi t12)),⟨aY,64⟩⟩∧aBn m u_1 v_2 t10 t11 t12=some r):Nat→St→Prop)
 exact be 41 func80 (h:=G)
instance:Ct prog 80 (K3 prog (vl aV) vi vi (t2 vi vb) 80 qU):=⟨aHj⟩
abbrev aHm(rec1:List Int→Int→List Int→List Int→Int→Int→Option ((List Int)))(p_0:List Int)(v_1:Int)(aCp:List Int)(t18:List Int)(t19:Int)(t20:Int):Option ((List Int)):=
 rec1 p_0 v_1 aCp t18 t19 (IntKind.i64.wrap (t20+1))
def aHl(rec1:List Int→Int→List Int→List Int→Int→Int→Option ((List Int)))(p_0:List Int)(v_1:Int)(aCp:List Int)(t18:List Int)(t19:Int)(t20:Int):Option ((List Int)):=
 (bif (decide (t20<t19)) then
  ((idx t18 t20).bind fun x6=>
  ((idx p_0 v_1).bind fun x8=>
  (bif (x6==x8) then
   ((app aCp [t20]).bind fun l10=>
   aHm rec1 p_0 v_1 l10 t18 t19 t20)
  else
   aHm rec1 p_0 v_1 aCp t18 t19 t20)))
 else
  some aCp)
def zQ:Nat→List Int→Int→List Int→List Int→Int→Int→Option ((List Int))
 |0=>fun _ _ _ _ _ _=>none
 |n+1=>aHl (zQ n)
def sZ(p_0:List Int)(v_1:Int):Option ((List Int)):=
 ((yA p_0).bind fun r2=>
 ((eG ((!r2)==false) false (jX (p_0.length:Int) v_1)).bind fun r4=>
 (bif ((!r2)||(!r4)) then
  some []
 else
  zQ aW p_0 v_1 [] p_0 (p_0.length:Int) 0)))
theorem bBn:K2 prog (vl (ci .i64)) vi (vl (ci .i64)) 84 sZ:=by
 intro p_0 v_1 r hm
 let I1:=((fun m s=> ∃p_0 v_1 aCp t18 t19 t20,s=⟨37,(aF (aF (aF (aF (aF (aF fa 0 (vl (ci .i64) p_0)) 1 (vi v_1)) 5 (.own 1 0 aCp.length)) 18 (vl (ci .i64) t18)) 19 (vi t19)) 20 (vi t20)),⟨(upd aY 1 (.cells 1 (aCp.flatMap (ci .i64)) 0)),64⟩⟩∧zQ m p_0 v_1 aCp t18 t19 t20=some r):Nat→St→Prop)
 exact be 37 func84 (h:=G)
instance:Ct prog 84 (K2 prog (vl (ci .i64)) vi (vl (ci .i64)) 84 sZ):=⟨bBn⟩
def aCs(n_0:Int):Option (Int):=
 some (Int.tmod n_0 2305843009213693951)
theorem bV8:K1 prog vu vu 130 aCs:=fun hm=>be 5 func130 (h:=G)
instance:Ct prog 130 (K1 prog vu vu 130 aCs):=⟨bV8⟩
def aGf(a_0:Int)(b_1:Int):Option (Int):=
 ((aCs a_0).bind fun r2=>
 ((aCs b_1).bind fun r4=>
 some (Int.tmod (IntKind.u64.wrap (r2+r4)) 2305843009213693951)))
theorem bPo:K2 prog vu vu vu 89 aGf:=fun hm=>be 11 func89 (h:=G)
instance:Ct prog 89 (K2 prog vu vu vu 89 aGf):=⟨bPo⟩
def aBg(x_0:Int)(y_1:Int):Option (Int×Int):=
 some ((IntKind.u64.wrap ((IntKind.u64.wrap ((IntKind.u64.wrap ((shr .u64 x_0 32)*(shr .u64 y_1 32)))+(shr .u64 (IntKind.u64.wrap ((IntKind.u64.wrap ((shr .u64 x_0 32)*(yQ .u64 y_1 4294967295)))+(shr .u64 (IntKind.u64.wrap ((yQ .u64 x_0 4294967295)*(yQ .u64 y_1 4294967295))) 32))) 32)))+(shr .u64 (IntKind.u64.wrap ((yQ .u64 (IntKind.u64.wrap ((IntKind.u64.wrap ((shr .u64 x_0 32)*(yQ .u64 y_1 4294967295)))+(shr .u64 (IntKind.u64.wrap ((yQ .u64 x_0 4294967295)*(yQ .u64 y_1 4294967295))) 32))) 4294967295)+(IntKind.u64.wrap ((yQ .u64 x_0 4294967295)*(shr .u64 y_1 32))))) 32))),(IntKind.u64.wrap (x_0*y_1)))
theorem bA5:K2 prog vu vu (t2 vu vu) 131 aBg:=fun hm=>be 51 func131 (h:=G)
instance:Ct prog 131 (K2 prog vu vu (t2 vu vu) 131 aBg):=⟨bA5⟩
abbrev aMt(x_0:Int)(n_2:Int):Option (Int):=
 ((aD2 bNm (IntKind.u8.wrap x_0)).bind fun b2=>
 some (IntKind.i64.wrap (n_2+(IntKind.i64.wrap b2))))
abbrev aMs(x_0:Int)(n_2:Int):Option (Int):=
 (bif (decide (256≤x_0)) then
  aMt (shr .u64 x_0 8) (IntKind.i64.wrap (n_2+8))
 else
  aMt x_0 n_2)
abbrev aMr(x_0:Int)(n_2:Int):Option (Int):=
 (bif (decide (65536≤x_0)) then
  aMs (shr .u64 x_0 16) (IntKind.i64.wrap (n_2+16))
 else
  aMs x_0 n_2)
def aEp(x_0:Int):Option (Int):=
 (bif (decide (4294967296≤x_0)) then
  aMr (shr .u64 x_0 32) 32
 else
  aMr x_0 0)
theorem aPy:K1 prog vu vi 203 aEp:=fun hm=>be 25 func203 (h:=G)
instance:Ct prog 203 (K1 prog vu vi 203 aEp):=⟨aPy⟩
def nT(x_0:Int):Option (Int):=
 ((aEp x_0).bind fun r2=>
 some (IntKind.i64.wrap (64-r2)))
theorem aBf:K1 prog vu vi 212 nT:=fun hm=>be 6 func212 (h:=G)
instance:Ct prog 212 (K1 prog vu vi 212 nT):=⟨aBf⟩
abbrev yR(y_2:Int)(s_8:Int)(kX:Int)(mB:Int)(uX:Int)(aCl:Int):Option (Int×Int):=
 ((chk (decide (0≤s_8))).bind fun _=>
 some ((IntKind.u64.wrap ((IntKind.u64.wrap (mB*4294967296))+aCl)),(shr .u64 (IntKind.u64.wrap ((IntKind.u64.wrap ((IntKind.u64.wrap (uX*4294967296))+kX))-(IntKind.u64.wrap (aCl*y_2)))) s_8)))
def aGy(rec1:Int→Int→Int→Int→Int→Int→Int→Int→Int→Option (Int×Int))(y_2:Int)(s_8:Int)(qG:Int)(oR:Int)(kX:Int)(mB:Int)(qW:Int)(uX:Int)(aCl:Int):Option (Int×Int):=
 (bif ((decide (4294967296≤aCl))||(decide ((IntKind.u64.wrap ((IntKind.u64.wrap (4294967296*qW))+kX))<(IntKind.u64.wrap (aCl*oR))))) then
  (bif (decide (4294967296≤(IntKind.u64.wrap (qW+qG)))) then
   yR y_2 s_8 kX mB uX (IntKind.u64.wrap (aCl-1))
  else
   rec1 y_2 s_8 qG oR kX mB (IntKind.u64.wrap (qW+qG)) uX (IntKind.u64.wrap (aCl-1)))
 else
  yR y_2 s_8 kX mB uX aCl)
def uC:Nat→Int→Int→Int→Int→Int→Int→Int→Int→Int→Option (Int×Int)
 |0=>fun _ _ _ _ _ _ _ _ _=>none
 |n+1=>aGy (uC n)
abbrev uB(y_2:Int)(s_8:Int)(qG:Int)(oR:Int)(oT:Int)(tX:Int)(kX:Int)(mB:Int):Option (Int×Int):=
 ((chk (qG !=0)).bind fun _=>
 uC aW y_2 s_8 qG oR kX mB (IntKind.u64.wrap ((IntKind.u64.wrap ((IntKind.u64.wrap ((IntKind.u64.wrap (oT*4294967296))+tX))-(IntKind.u64.wrap (mB*y_2))))-(IntKind.u64.wrap ((IntKind.u64.wrap (Int.tdiv (IntKind.u64.wrap ((IntKind.u64.wrap ((IntKind.u64.wrap (oT*4294967296))+tX))-(IntKind.u64.wrap (mB*y_2)))) qG))*qG)))) (IntKind.u64.wrap ((IntKind.u64.wrap ((IntKind.u64.wrap (oT*4294967296))+tX))-(IntKind.u64.wrap (mB*y_2)))) (IntKind.u64.wrap (Int.tdiv (IntKind.u64.wrap ((IntKind.u64.wrap ((IntKind.u64.wrap (oT*4294967296))+tX))-(IntKind.u64.wrap (mB*y_2)))) qG)))
def aGz(rec2:Int→Int→Int→Int→Int→Int→Int→Int→Int→Option (Int×Int))(y_2:Int)(s_8:Int)(qG:Int)(oR:Int)(oT:Int)(tX:Int)(kX:Int)(mB:Int)(qW:Int):Option (Int×Int):=
 (bif ((decide (4294967296≤mB))||(decide ((IntKind.u64.wrap ((IntKind.u64.wrap (4294967296*qW))+tX))<(IntKind.u64.wrap (mB*oR))))) then
  (bif (decide (4294967296≤(IntKind.u64.wrap (qW+qG)))) then
   uB y_2 s_8 qG oR oT tX kX (IntKind.u64.wrap (mB-1))
  else
   rec2 y_2 s_8 qG oR oT tX kX (IntKind.u64.wrap (mB-1)) (IntKind.u64.wrap (qW+qG)))
 else
  uB y_2 s_8 qG oR oT tX kX mB)
def uD:Nat→Int→Int→Int→Int→Int→Int→Int→Int→Int→Option (Int×Int)
 |0=>fun _ _ _ _ _ _ _ _ _=>none
 |n+1=>aGz (uD n)
abbrev aH1(aDo:Int)(uK:Int)(y_2:Int):Option (Int×Int):=
 (bif (aDo==0) then
  ((chk (y_2 !=0)).bind fun _=>
  ((chk (y_2 !=0)).bind fun _=>
  some ((IntKind.u64.wrap (Int.tdiv uK y_2)),(Int.tmod uK y_2))))
 else
  ((nT y_2).bind fun r4=>
  ((chk (decide (0≤(IntKind.u64.wrap r4)))).bind fun _=>
  ((chk (decide (0≤(IntKind.u64.wrap r4)))).bind fun _=>
  ((chk (decide (0≤(IntKind.u64.wrap (64-(IntKind.u64.wrap r4)))))).bind fun _=>
  ((chk (decide (0≤(IntKind.u64.wrap r4)))).bind fun _=>
  ((chk ((shr .u64 (shl .u64 y_2 (IntKind.u64.wrap r4)) 32) !=0)).bind fun _=>
  uD aW (shl .u64 y_2 (IntKind.u64.wrap r4)) (IntKind.u64.wrap r4) (shr .u64 (shl .u64 y_2 (IntKind.u64.wrap r4)) 32) (yQ .u64 (shl .u64 y_2 (IntKind.u64.wrap r4)) 4294967295) (bor .u64 (shl .u64 aDo (IntKind.u64.wrap r4)) (shr .u64 uK (IntKind.u64.wrap (64-(IntKind.u64.wrap r4))))) (shr .u64 (shl .u64 uK (IntKind.u64.wrap r4)) 32) (yQ .u64 (shl .u64 uK (IntKind.u64.wrap r4)) 4294967295) (IntKind.u64.wrap (Int.tdiv (bor .u64 (shl .u64 aDo (IntKind.u64.wrap r4)) (shr .u64 uK (IntKind.u64.wrap (64-(IntKind.u64.wrap r4))))) (shr .u64 (shl .u64 y_2 (IntKind.u64.wrap r4)) 32))) (IntKind.u64.wrap ((bor .u64 (shl .u64 aDo (IntKind.u64.wrap r4)) (shr .u64 uK (IntKind.u64.wrap (64-(IntKind.u64.wrap r4)))))-(IntKind.u64.wrap ((IntKind.u64.wrap (Int.tdiv (bor .u64 (shl .u64 aDo (IntKind.u64.wrap r4)) (shr .u64 uK (IntKind.u64.wrap (64-(IntKind.u64.wrap r4))))) (shr .u64 (shl .u64 y_2 (IntKind.u64.wrap r4)) 32)))*(shr .u64 (shl .u64 y_2 (IntKind.u64.wrap r4)) 32))))))))))))
abbrev aH0(aDo:Int)(uK:Int)(y_2:Int):Option (Int×Int):=
 (bif (decide (y_2≤aDo)) then
  none
 else
  aH1 aDo uK y_2)
def aBe(aDo:Int)(uK:Int)(y_2:Int):Option (Int×Int):=
 (bif (y_2==0) then
  none
 else
  aH0 aDo uK y_2)
theorem bA4{aDo:Int}{uK:Int}{y_2:Int}{r:Int×Int}(hm:aBe aDo uK y_2=some r):bY prog 163 [vu aDo,vu uK,vu y_2] (.tup [vu r.1,vu r.2]):=by
 refine bd 135 func163 ?_;refine V ?_;refine AWp.seqJ (fun s=> ∃aDo uK y_2,s=⟨135,(aF (aF (aF fa 0 (vu aDo)) 1 (vu uK)) 2 (vu y_2)),⟨aY,64⟩⟩∧aH0 aDo uK y_2=some r) ?_ ?_
 ·
  refine W ?_;refine cm hm (fun hm=>?_) fun hm=>?_
  · cases hm
  exact L
 rintro s ⟨aDo,uK,y_2,rfl,hm⟩;refine AWp.seqJ (fun s=> ∃aDo uK y_2,s=⟨135,(aF (aF (aF fa 0 (vu aDo)) 1 (vu uK)) 2 (vu y_2)),⟨aY,64⟩⟩∧aH1 aDo uK y_2=some r) ?_ ?_
 ·
  refine W ?_;refine cm hm (fun hm=>?_) fun hm=>?_
  · cases hm
  exact L
 rintro s ⟨aDo,uK,y_2,rfl,hm⟩;refine W ?_;refine cm hm (fun hm=>?_) fun hm=>?_
 · obtain ⟨_,h1,hm⟩:=bnd hm;obtain ⟨_,h2,hm⟩:=bnd hm;exact E
 obtain ⟨r4,h3,hm⟩:=bnd hm;refine W ?_;refine cq (aBf h3) ?_;obtain ⟨_,h5,hm⟩:=bnd hm;obtain ⟨_,h6,hm⟩:=bnd hm;obtain ⟨_,h7,hm⟩:=bnd hm;obtain ⟨_,h8,hm⟩:=bnd hm;obtain ⟨_,h9,hm⟩:=bnd hm;refine V ?_;refine AWp.seqJ (fun s=> ∃y_2 s_8 qG oR oT tX kX mB,s=⟨135,(aF (aF (aF (aF (aF (aF (aF (aF fa 2 (vu y_2)) 8 (vu s_8)) 9 (vu qG)) 10 (vu oR)) 11 (vu oT)) 13 (vu tX)) 14 (vu kX)) 15 (vu mB)),⟨aY,64⟩⟩∧uB y_2 s_8 qG oR oT tX kX mB=some r) ?_ ?_
 ·
  refine W ?_;refine lp (fun m s=> ∃y_2 s_8 qG oR oT tX kX mB qW,s=⟨135,(aF (aF (aF (aF (aF (aF (aF (aF (aF fa 2 (vu y_2)) 8 (vu s_8)) 9 (vu qG)) 10 (vu oR)) 11 (vu oT)) 13 (vu tX)) 14 (vu kX)) 15 (vu mB)) 16 (vu qW)),⟨aY,64⟩⟩∧uD m y_2 s_8 qG oR oT tX kX mB qW=some r) L ?_;rintro n2 s ⟨y_2,s_8,qG,oR,oT,tX,kX,mB,qW,rfl,hm⟩;refine W ?_;refine cm hm (fun hm=>?_) fun hm=>?_
  ·
   refine W ?_;refine cm hm (fun hm=>?_) fun hm=>?_
   · refine W ?_;refine aOs Zd ?_;exact L
   exact L
  exact L
 rintro s ⟨y_2,s_8,qG,oR,oT,tX,kX,mB,rfl,hm⟩;obtain ⟨_,h10,hm⟩:=bnd hm;refine V ?_;refine AWp.seqJ (fun s=> ∃y_2 s_8 kX mB uX aCl,s=⟨135,(aF (aF (aF (aF (aF (aF fa 2 (vu y_2)) 8 (vu s_8)) 14 (vu kX)) 15 (vu mB)) 17 (vu uX)) 18 (vu aCl)),⟨aY,64⟩⟩∧yR y_2 s_8 kX mB uX aCl=some r) ?_ ?_
 ·
  refine W ?_;refine lp (fun m s=> ∃y_2 s_8 qG oR kX mB qW uX aCl,s=⟨135,(aF (aF (aF (aF (aF (aF (aF (aF (aF fa 2 (vu y_2)) 8 (vu s_8)) 9 (vu qG)) 10 (vu oR)) 14 (vu kX)) 15 (vu mB)) 16 (vu qW)) 17 (vu uX)) 18 (vu aCl)),⟨aY,64⟩⟩∧uC m y_2 s_8 qG oR kX mB qW uX aCl=some r) L ?_;rintro n1 s ⟨y_2,s_8,qG,oR,kX,mB,qW,uX,aCl,rfl,hm⟩;refine W ?_;refine cm hm (fun hm=>?_) fun hm=>?_
  ·
   refine W ?_;refine cm hm (fun hm=>?_) fun hm=>?_
   · refine W ?_;refine aOs Zd ?_;exact L
   exact L
  exact L
 rintro s ⟨y_2,s_8,kX,mB,uX,aCl,rfl,hm⟩;obtain ⟨_,h11,hm⟩:=bnd hm;exact E
instance:Ct prog 163 (K3 prog vu vu vu (t2 vu vu) 163 aBe):=⟨fun hm=>bA4 hm⟩
def aEq(aDo:Int)(uK:Int)(y_2:Int):Option (Int):=
 ((chk (y_2 !=0)).bind fun _=>
 ((aBe (Int.tmod aDo y_2) uK y_2).bind fun ⟨r3,r4⟩=>
 some r4))
theorem bA6:K3 prog vu vu vu vu 132 aEq:=fun hm=>be 19 func132 (h:=G)
instance:Ct prog 132 (K3 prog vu vu vu vu 132 aEq):=⟨bA6⟩
def aGg(a_0:Int)(b_1:Int):Option (Int):=
 ((aCs a_0).bind fun r2=>
 ((aCs b_1).bind fun r4=>
 ((aBg r2 r4).bind fun ⟨r6,r7⟩=>
 ((aEq r6 r7 2305843009213693951).bind fun r9=>
 some r9))))
theorem bPp:K2 prog vu vu vu 90 aGg:=fun hm=>be 18 func90 (h:=G)
instance:Ct prog 90 (K2 prog vu vu vu 90 aGg):=⟨bPp⟩
def nX(g_0:aJ)(kB:Int)(v_2:Int):Option (Bool):=
 ((gY g_0).bind fun r2=>
 some ((((r2&&(decide (0≤kB)))&&(decide (kB<g_0.Config.L)))&&(decide (0≤v_2)))&&(decide (v_2<g_0.Config.N))))
theorem aNt:K3 prog dR vi vi vb 136 nX:=fun hm=>be 31 func136 (h:=G)
instance:Ct prog 136 (K3 prog dR vi vi vb 136 nX):=⟨aNt⟩
def aEu(n_0:Int)(l_1:List aE)(v_2:Int):Option ((List Int)):=
 ((qM n_0 l_1).bind fun r2=>
 (bif (!r2) then
  some []
 else
  ((vR n_0 l_1).bind fun ⟨r4,r5⟩=>
  ((sZ r4 v_2).bind fun r7=>
  some r7))))
theorem bAr:K3 prog vi (vl aV) vi (vl (ci .i64)) 215 aEu:=fun hm=>be 22 func215 (h:=G)
instance:Ct prog 215 (K3 prog vi (vl aV) vi (vl (ci .i64)) 215 aEu):=⟨bAr⟩
def rV(g_0:aJ)(kB:Int)(v_2:Int):Option ((List Int)):=
 ((kG g_0.Config.N g_0.Edges kB).bind fun r2=>
 ((aEu g_0.Config.N r2 v_2).bind fun r4=>
 some r4))
theorem aV3:K3 prog dR vi vi (vl (ci .i64)) 165 rV:=fun hm=>be 19 func165 (h:=G)
instance:Ct prog 165 (K3 prog dR vi vi (vl (ci .i64)) 165 rV):=⟨aV3⟩
def aLu(rec1:Int→List Int→Int→Int→Option (Bool))(n_0:Int)(t13:List Int)(t14:Int)(t15:Int):Option (Bool):=
 (bif (decide (t15<t14)) then
  ((idx t13 t15).bind fun x4=>
  (bif ((decide (x4<0))||(decide (n_0≤x4))) then
   some false
  else
   rec1 n_0 t13 t14 (IntKind.i64.wrap (t15+1))))
 else
  some true)
def aDh:Nat→Int→List Int→Int→Int→Option (Bool)
 |0=>fun _ _ _ _=>none
 |n+1=>aLu (aDh n)
def aKh(n_0:Int)(l_1:List aE)(aLa:List Int):Option (Bool):=
 ((kN n_0 l_1).bind fun r2=>
 (bif (!r2) then
  some false
 else
  aDh aW n_0 aLa (aLa.length:Int) 0))
theorem aVw:K3 prog vi (vl aV) (vl (ci .i64)) vb 213 aKh:=by
 intro n_0 l_1 aLa r hm
 let I1:=((fun m s=> ∃n_0 t13 t14 t15,s=⟨27,(aF (aF (aF (aF fa 0 (vi n_0)) 13 (vl (ci .i64) t13)) 14 (vi t14)) 15 (vi t15)),⟨aY,64⟩⟩∧aDh m n_0 t13 t14 t15=some r):Nat→St→Prop)
 exact be 27 func213 (h:=G)
instance:Ct prog 213 (K3 prog vi (vl aV) (vl (ci .i64)) vb 213 aKh):=⟨aVw⟩
attribute [local semireducible] aW
end Go.Proofs.YtkdohhmacfoolaaGreatDoor
