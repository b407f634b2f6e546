/- Facts. No condition. -/
import Derived.Test.YtkdohhmacfoolaaGreatDoorPeOf
import Derived.Test.YtkdohhmacfoolaaGreatDoorPeAmF
set_option linter.unusedVariables false
set_option linter.unusedSimpArgs false
set_option maxRecDepth 20000
set_option maxHeartbeats 4000000
namespace Go.Proofs.YtkdohhmacfoolaaGreatDoor
open Go.Proofs.Tryz Go Go.AM
attribute [local irreducible] aW
abbrev bNj:ByteArray:=⟨#[0,1,2,2,3,3,3,3,4,4,4,4,4,4,4,4,5,5,5,5,5,5,5,5,5,5,5,5,5,5,5,5,6,6,6,6,6,6,6,6,6,6,6,6,6,6,6,6,6,6,6,6,6,6,6,6,6,6,6,6,6,6,6,6,7,7,7,7,7,7,7,7,7,7,7,7,7,7,7,7,7,7,7,7,7,7,7,7,7,7,7,7,7,7,7,7,7,7,7,7,7,7,7,7,7,7,7,7,7,7,7,7,7,7,7,7,7,7,7,7,7,7,7,7,7,7,7,7,8,8,8,8,8,8,8,8,8,8,8,8,8,8,8,8,8,8,8,8,8,8,8,8,8,8,8,8,8,8,8,8,8,8,8,8,8,8,8,8,8,8,8,8,8,8,8,8,8,8,8,8,8,8,8,8,8,8,8,8,8,8,8,8,8,8,8,8,8,8,8,8,8,8,8,8,8,8,8,8,8,8,8,8,8,8,8,8,8,8,8,8,8,8,8,8,8,8,8,8,8,8,8,8,8,8,8,8,8,8,8,8,8,8,8,8,8,8,8,8,8,8,8,8,8,8,8,8]⟩
structure bC where
 N:Int
 L:Int
 R:Int
deriving DecidableEq
def aMv(e:bC):List AV:=[.v (.int .i64 e.N),.v (.int .i64 e.L),.v (.int .i64 e.R)]
theorem aO9:CF aMv 3:=⟨fun _=>rfl,fun a x hx=>by
 simp only [aMv,List.mem_cons,List.not_mem_nil,or_false] at hx;rcases hx with rfl|rfl|rfl
 · exact (.v _)
 · exact (.v _)
 · exact (.v _),fun _=>rfl⟩
instance:CC aMv 3:=⟨aO9⟩
abbrev aK8(e:bC):AV:= .agg [.v (.int .i64 e.N),vi e.L,vi e.R]
@[go_sem] theorem aX2(e:bC)(r:List AV):aMv e++r= .v (.int .i64 e.N):: .v (.int .i64 e.L):: .v (.int .i64 e.R)::r:=rfl
structure bW where
 A:Int
 B:Int
deriving DecidableEq
def cL(e:bW):List AV:=[.v (.int .u64 e.A),.v (.int .u64 e.B)]
theorem jQ:CF cL 2:=⟨fun _=>rfl,fun a x hx=>by
 simp only [cL,List.mem_cons,List.not_mem_nil,or_false] at hx;rcases hx with rfl|rfl
 · exact (.v _)
 · exact (.v _),fun _=>rfl⟩
instance:CC cL 2:=⟨jQ⟩
abbrev aZb(e:bW):AV:= .agg [.v (.int .u64 e.A),vu e.B]
instance:CE prog 27 cL 2 (bW.mk 0 0):=⟨_,underlying27,bR0,bRf,inferInstance,jQ,by decide,by decide⟩
@[go_sem] theorem bDq(e:bW)(r:List AV):cL e++r= .v (.int .u64 e.A):: .v (.int .u64 e.B)::r:=rfl
structure aJ where
 Config:bC
 Hashes:List bW
 Edges:List aE
deriving DecidableEq
def aRl(e:aJ):List AV:=[.v (.int .i64 e.Config.N),.v (.int .i64 e.Config.L),.v (.int .i64 e.Config.R),.sl (e.Hashes.flatMap cL) e.Hashes.length false,.sl (e.Edges.flatMap aV) e.Edges.length false]
theorem bMg:CF aRl 5:=⟨fun _=>rfl,fun a x hx=>by
 simp only [aRl,List.mem_cons,List.not_mem_nil,or_false] at hx;rcases hx with rfl|rfl|rfl|rfl|rfl
 · exact (.v _)
 · exact (.v _)
 · exact (.v _)
 · exact (jQ.sl _ _ _)
 · exact (cI.sl _ _ _),fun _=>rfl⟩
instance:CC aRl 5:=⟨bMg⟩
abbrev dQ(e:aJ):AV:= .agg [.v (.int .i64 e.Config.N),vi e.Config.L,vi e.Config.R,vl cL e.Hashes,vl aV e.Edges]
@[go_sem] theorem bA5(e:aJ)(r:List AV):aRl e++r= .v (.int .i64 e.Config.N):: .v (.int .i64 e.Config.L):: .v (.int .i64 e.Config.R):: .sl (e.Hashes.flatMap cL) e.Hashes.length false:: .sl (e.Edges.flatMap aV) e.Edges.length false::r:=rfl
theorem bO1(x0 y0 x1 y1 x2 y2:Int):iH prog .eql 61 (.agg [.v (.int .i64 x0),.v (.int .i64 x1),.v (.int .i64 x2)]) (.agg [.v (.int .i64 y0),.v (.int .i64 y1),.v (.int .i64 y2)])=some (.v (.bool ((x0==y0)&&((x1==y1)&&(x2==y2))))):=
 (by kernel_rfl:iH prog .eql 61 (.agg [.v (.int .i64 x0),.v (.int .i64 x1),.v (.int .i64 x2)]) (.agg [.v (.int .i64 y0),.v (.int .i64 y1),.v (.int .i64 y2)])=some (.v (.bool ((x0==y0)&&((x1==y1)&&((x2==y2)&&true)))))).trans (by rw [Bool.and_true])
theorem bPy(x0 y0 x1 y1 x2 y2:Int):iH prog .neq 61 (.agg [.v (.int .i64 x0),.v (.int .i64 x1),.v (.int .i64 x2)]) (.agg [.v (.int .i64 y0),.v (.int .i64 y1),.v (.int .i64 y2)])=some (.v (.bool (!((x0==y0)&&((x1==y1)&&(x2==y2)))))):=
 (by kernel_rfl:iH prog .neq 61 (.agg [.v (.int .i64 x0),.v (.int .i64 x1),.v (.int .i64 x2)]) (.agg [.v (.int .i64 y0),.v (.int .i64 y1),.v (.int .i64 y2)])=some (.v (.bool (!((x0==y0)&&((x1==y1)&&((x2==y2)&&true))))))).trans (by rw [Bool.and_true])
attribute [go_sem] bO1 bPy
@[go_sem] theorem bIr(xs:List AV):aH prog 61 (.ptr (xs)) 0=some (.ptr xs):=by kernel_rfl
@[go_sem] theorem bIs(x0:AV)(xs:List AV):aH prog 61 (.ptr (x0::xs)) 1=some (.ptr xs):=by kernel_rfl
@[go_sem] theorem bIt(x0:AV)(x1:AV)(xs:List AV):aH prog 61 (.ptr (x0::x1::xs)) 2=some (.ptr xs):=by kernel_rfl
@[go_sem] theorem bIu(xs:List AV):aH prog 94 (.ptr (xs)) 0=some (.ptr xs):=by kernel_rfl
@[go_sem] theorem bIv(x0:AV)(xs:List AV):aH prog 94 (.ptr (x0::xs)) 1=some (.ptr xs):=by kernel_rfl
@[go_sem] theorem bJ1(i o:Nat):aH prog 23 (.adr i o) 0=some (.adr i (o+0)):=by kernel_rfl
@[go_sem] theorem bJ8(i o:Nat):aH prog 23 (.adr i o) 1=some (.adr i (o+1)):=by kernel_rfl
@[go_sem] theorem bJe(i o:Nat):aH prog 23 (.adr i o) 2=some (.adr i (o+2)):=by kernel_rfl
@[go_sem] theorem bJk(i o:Nat):aH prog 30 (.adr i o) 0=some (.adr i (o+0)):=by kernel_rfl
@[go_sem] theorem bJq(i o:Nat):aH prog 30 (.adr i o) 1=some (.adr i (o+3)):=by kernel_rfl
@[go_sem] theorem bJu(i o:Nat):aH prog 30 (.adr i o) 2=some (.adr i (o+4)):=by kernel_rfl
@[go_sem] theorem bKh(i o:Nat):aH prog 61 (.adr i o) 0=some (.adr i (o+0)):=by kernel_rfl
@[go_sem] theorem bKn(i o:Nat):aH prog 61 (.adr i o) 1=some (.adr i (o+1)):=by kernel_rfl
@[go_sem] theorem bKt(i o:Nat):aH prog 61 (.adr i o) 2=some (.adr i (o+2)):=by kernel_rfl
@[go_sem] theorem bL3(i o:Nat):aH prog 94 (.adr i o) 0=some (.adr i (o+0)):=by kernel_rfl
@[go_sem] theorem bL6(i o:Nat):aH prog 94 (.adr i o) 1=some (.adr i (o+1)):=by kernel_rfl
@[go_sem] theorem bT4(H:aG)(x0 x1 x2:AV)(xs:List AV):bT prog H 23 (.ptr (x0::x1::x2::xs))=some (.agg [x0,x1,x2]):=by kernel_rfl
@[go_sem] theorem bTb(H:aG)(x:AV)(xs:List AV):bT prog H 27 (.ptr (x::xs))=some x:=by kernel_rfl
@[go_sem] theorem bTf(H:aG)(x:AV)(xs:List AV):bT prog H 28 (.ptr (x::xs))=some x:=by kernel_rfl
@[go_sem] theorem bXp(H:aG)(x:AV)(xs:List AV):bT prog H 3 (.ptr (x::xs))=some x:=by kernel_rfl
@[go_sem] theorem bTl(H:aG)(x0 x1 x2 x3 x4:AV)(xs:List AV):bT prog H 30 (.ptr (x0::x1::x2::x3::x4::xs))=some (.agg [x0,x1,x2,x3,x4]):=by kernel_rfl
@[go_sem] theorem bU4(H:aG)(x:AV)(xs:List AV):bT prog H 40 (.ptr (x::xs))=some x:=by kernel_rfl
@[go_sem] theorem bUc(H:aG)(x0 x1 x2:AV)(xs:List AV):bT prog H 61 (.ptr (x0::x1::x2::xs))=some (.agg [x0,x1,x2]):=by kernel_rfl
@[go_sem] theorem bUm(H:aG)(x0 x1:AV)(xs:List AV):bT prog H 94 (.ptr (x0::x1::xs))=some (.agg [x0,x1]):=by kernel_rfl
@[go_sem] theorem bDy(H:aG)(k:IntKind)(n:Int):mS prog H 3 162 (.v (.int k n))=some (.v (.int .u64 (IntKind.u64.wrap n))):=gJ underlying3 underlying162
@[go_sem] theorem bNr(H:aG)(k:IntKind)(n:Int):mS prog H 5 3 (.v (.int k n))=some (.v (.int .i64 (IntKind.i64.wrap n))):=gJ underlying5 underlying3
@[go_sem] theorem bIn(H:aG)(k:IntKind)(n:Int):mS prog H 40 5 (.v (.int k n))=some (.v (.int .u8 (IntKind.u8.wrap n))):=gJ underlying40 underlying5
def aHr(rec1:List aE→List aE→Int→Option (Bool))(a_0:List aE)(b_1:List aE)(i_5:Int):Option (Bool):=
 (bif (decide (i_5<(a_0.length:Int))) then
  ((idx a_0 i_5).bind fun x2=>
  ((idx b_1 i_5).bind fun x4=>
  (bif (!((x2.U==x4.U)&&((x2.V==x4.V)&&(x2.Tier==x4.Tier)))) then
   some false
  else
   rec1 a_0 b_1 (IntKind.i64.wrap (i_5+1)))))
 else
  some true)
def zT:Nat→List aE→List aE→Int→Option (Bool)
 |0=>fun _ _ _=>none
 |n+1=>aHr (zT n)
def aBq(a_0:List aE)(b_1:List aE):Option (Bool):=
 (bif ((a_0.length:Int) !=(b_1.length:Int)) then
  some false
 else
  zT aW a_0 b_1 0)
theorem bC0:K2 prog (vl aV) (vl aV) vb 16 aBq:=by
 intro a_0 b_1 r hm
 let I1:=((fun m s=> ∃a_0 b_1 i_5,s=⟨26,(aF (aF (aF fa 0 (vl aV a_0)) 1 (vl aV b_1)) 5 (vi i_5)),⟨aY,64⟩⟩∧zT m a_0 b_1 i_5=some r):Nat→St→Prop)
 exact be 26 func16 (h:=G)
instance:Ct prog 16 (K2 prog (vl aV) (vl aV) vb 16 aBq):=⟨bC0⟩
def sB(bR5:Int):Option (Bool):=
 some ((decide (0≤bR5))&&(decide (bR5≤16)))
theorem aLd:K1 prog vi vb 133 sB:=fun hm=>be 9 func133 (h:=G)
instance:Ct prog 133 (K1 prog vi vb 133 sB):=⟨aLd⟩
def xB(a_0:aE)(b_1:aE):Option (Bool):=
 some ((decide (a_0.U<b_1.U))||((a_0.U==b_1.U)&&(decide (a_0.V<b_1.V))))
theorem aT0:K2 prog aFw aFw vb 134 xB:=fun hm=>be 24 func134 (h:=G)
instance:Ct prog 134 (K2 prog aFw aFw vb 134 xB):=⟨aT0⟩
def aFv(rec1:Int→List aE→List aE→Int→Int→Option (Bool))(n_0:Int)(l_1:List aE)(t13:List aE)(t14:Int)(t15:Int):Option (Bool):=
 (bif (decide (t15<t14)) then
  ((idx t13 t15).bind fun x2=>
  ((eK ((((decide (x2.U<0))||(decide (x2.V≤x2.U)))||(decide (n_0≤x2.V)))==false) false (sB x2.Tier)).bind fun r4=>
  (bif ((((decide (x2.U<0))||(decide (x2.V≤x2.U)))||(decide (n_0≤x2.V)))||(!r4)) then
   some false
  else
   ((eK ((decide (0<t15))==true) (aE.mk 0 0 0) (idx l_1 (IntKind.i64.wrap (t15-1)))).bind fun x6=>
   ((eK ((decide (0<t15))==true) false (xB x6 x2)).bind fun r8=>
   (bif ((decide (0<t15))&&(!r8)) then
    some false
   else
    rec1 n_0 l_1 t13 t14 (IntKind.i64.wrap (t15+1))))))))
 else
  some true)
def wF:Nat→Int→List aE→List aE→Int→Int→Option (Bool)
 |0=>fun _ _ _ _ _=>none
 |n+1=>aFv (wF n)
def kM(n_0:Int)(l_1:List aE):Option (Bool):=
 (bif ((decide (n_0<0))||(decide (1024<n_0))) then
  some false
 else
  wF aW n_0 l_1 l_1 (l_1.length:Int) 0)
theorem aD3:K2 prog vi (vl aV) vb 92 kM:=by
 intro n_0 l_1 r hm
 let I1:=((fun m s=> ∃n_0 l_1 t13 t14 t15,s=⟨55,(aF (aF (aF (aF (aF fa 0 (vi n_0)) 1 (vl aV l_1)) 13 (vl aV t13)) 14 (vi t14)) 15 (vi t15)),⟨aY,64⟩⟩∧wF m n_0 l_1 t13 t14 t15=some r):Nat→St→Prop)
 exact be 55 func92 (h:=G)
instance:Ct prog 92 (K2 prog vi (vl aV) vb 92 kM):=⟨aD3⟩
abbrev aEc(rec1:Int→List aE→List aE→Int→Int→Option ((List aE)))(aEd:Int)(zB:List aE)(t14:List aE)(t15:Int)(t16:Int):Option ((List aE)):=
 rec1 aEd zB t14 t15 (IntKind.i64.wrap (t16+1))
def aEb(rec1:Int→List aE→List aE→Int→Int→Option ((List aE)))(aEd:Int)(zB:List aE)(t14:List aE)(t15:Int)(t16:Int):Option ((List aE)):=
 (bif (decide (t16<t15)) then
  ((idx t14 t16).bind fun x4=>
  (bif ((decide (1≤x4.Tier))&&(decide (x4.Tier≤aEd))) then
   ((app zB [x4]).bind fun l6=>
   aEc rec1 aEd l6 t14 t15 t16)
  else
   aEc rec1 aEd zB t14 t15 t16))
 else
  some zB)
def tQ:Nat→Int→List aE→List aE→Int→Int→Option ((List aE))
 |0=>fun _ _ _ _ _=>none
 |n+1=>aEb (tQ n)
def kF(n_0:Int)(l_1:List aE)(aEd:Int):Option ((List aE)):=
 ((kM n_0 l_1).bind fun r2=>
 (bif (!r2) then
  some []
 else
  tQ aW aEd [] l_1 (l_1.length:Int) 0))
theorem aLc:K3 prog vi (vl aV) vi (vl aV) 55 kF:=by
 intro n_0 l_1 aEd r hm
 let I1:=((fun m s=> ∃aEd zB t14 t15 t16,s=⟨35,(aF (aF (aF (aF (aF fa 2 (vi aEd)) 7 (.own 1 0 zB.length)) 14 (vl aV t14)) 15 (vi t15)) 16 (vi t16)),⟨(upd aY 1 (.cells 3 (zB.flatMap aV) 0)),64⟩⟩∧tQ m aEd zB t14 t15 t16=some r):Nat→St→Prop)
 exact be 35 func55 (h:=G)
instance:Ct prog 55 (K3 prog vi (vl aV) vi (vl aV) 55 kF):=⟨aLc⟩
def aHl(rec1:List Int→List Int→Int→Int→Option (Bool))(p_0:List Int)(t5:List Int)(t6:Int)(t7:Int):Option (Bool):=
 (bif (decide (t7<t6)) then
  ((idx t5 t7).bind fun x2=>
  ((jW (p_0.length:Int) x2).bind fun r4=>
  ((eK (((!r4)||(decide (t7<x2)))==false) 0 (idx p_0 x2)).bind fun x6=>
  (bif (((!r4)||(decide (t7<x2)))||(x6 !=x2)) then
   some false
  else
   rec1 p_0 t5 t6 (IntKind.i64.wrap (t7+1))))))
 else
  some true)
def zP:Nat→List Int→List Int→Int→Int→Option (Bool)
 |0=>fun _ _ _ _=>none
 |n+1=>aHl (zP n)
def xY(p_0:List Int):Option (Bool):=
 zP aW p_0 p_0 (p_0.length:Int) 0
theorem bBn:K1 prog (vl (ci .i64)) vb 56 xY:=by
 intro p_0 r hm
 let I1:=((fun m s=> ∃p_0 t5 t6 t7,s=⟨31,(aF (aF (aF (aF fa 0 (vl (ci .i64) p_0)) 5 (vl (ci .i64) t5)) 6 (vi t6)) 7 (vi t7)),⟨aY,64⟩⟩∧zP m p_0 t5 t6 t7=some r):Nat→St→Prop)
 exact be 31 func56 (h:=G)
instance:Ct prog 56 (K1 prog (vl (ci .i64)) vb 56 xY):=⟨bBn⟩
abbrev aJo(rec1:Int→List Int→Int→Int→Option (Int))(aJb:Int)(t9:List Int)(t10:Int)(t11:Int):Option (Int):=
 rec1 aJb t9 t10 (IntKind.i64.wrap (t11+1))
def aJn(rec1:Int→List Int→Int→Int→Option (Int))(aJb:Int)(t9:List Int)(t10:Int)(t11:Int):Option (Int):=
 (bif (decide (t11<t10)) then
  ((idx t9 t11).bind fun x4=>
  (bif (t11==x4) then
   aJo rec1 (IntKind.i64.wrap (aJb+1)) t9 t10 t11
  else
   aJo rec1 aJb t9 t10 t11))
 else
  some aJb)
def aBm:Nat→Int→List Int→Int→Int→Option (Int)
 |0=>fun _ _ _ _=>none
 |n+1=>aJn (aBm n)
def aDv(p_0:List Int):Option (Int):=
 ((xY p_0).bind fun r2=>
 (bif (!r2) then
  some 0
 else
  aBm aW 0 p_0 (p_0.length:Int) 0))
theorem bFj:K1 prog (vl (ci .i64)) vi 135 aDv:=by
 intro p_0 r hm
 let I1:=((fun m s=> ∃aJb t9 t10 t11,s=⟨23,(aF (aF (aF (aF fa 3 (vi aJb)) 9 (vl (ci .i64) t9)) 10 (vi t10)) 11 (vi t11)),⟨aY,64⟩⟩∧aBm m aJb t9 t10 t11=some r):Nat→St→Prop)
 exact be 23 func135 (h:=G)
instance:Ct prog 135 (K1 prog (vl (ci .i64)) vi 135 aDv):=⟨bFj⟩
def qK(n_0:Int)(l_1:List aE):Option (Bool):=
 ((vR n_0 l_1).bind fun ⟨r2,r3⟩=>
 ((eK ((r3==0)==true) 0 (aDv r2)).bind fun r5=>
 some ((r3==0)&&(r5==(IntKind.i64.wrap (n_0-(l_1.length:Int)))))))
theorem aXi:K2 prog vi (vl aV) vb 93 qK:=fun hm=>be 24 func93 (h:=G)
instance:Ct prog 93 (K2 prog vi (vl aV) vb 93 qK):=⟨aXi⟩
def aE2(rec2:aJ→bC→List aE→Int→Int→Option (Bool))(g_1:aJ)(c_3:bC)(t70:List aE)(t71:Int)(t72:Int):Option (Bool):=
 (bif (decide (t72<t71)) then
  ((idx t70 t72).bind fun x6=>
  (bif (decide (c_3.L<x6.Tier)) then
   some false
  else
   rec2 g_1 c_3 t70 t71 (IntKind.i64.wrap (t72+1))))
 else
  ((kF c_3.N g_1.Edges c_3.L).bind fun r8=>
  ((qK c_3.N r8).bind fun r10=>
  some r10)))
def tH:Nat→aJ→bC→List aE→Int→Int→Option (Bool)
 |0=>fun _ _ _ _ _=>none
 |n+1=>aE2 (tH n)
def aE1(rec1:aJ→bC→List bW→Int→Int→Option (Bool))(g_1:aJ)(c_3:bC)(t48:List bW)(t49:Int)(t50:Int):Option (Bool):=
 (bif (decide (t50<t49)) then
  ((idx t48 t50).bind fun x2=>
  (bif ((decide (2305843009213693951≤x2.A))||(decide (2305843009213693951≤x2.B))) then
   some false
  else
   rec1 g_1 c_3 t48 t49 (IntKind.i64.wrap (t50+1))))
 else
  ((kM c_3.N g_1.Edges).bind fun r4=>
  (bif (!r4) then
   some false
  else
   tH aW g_1 c_3 g_1.Edges (g_1.Edges.length:Int) 0)))
def tF:Nat→aJ→bC→List bW→Int→Int→Option (Bool)
 |0=>fun _ _ _ _ _=>none
 |n+1=>aE1 (tF n)
def gX(g_0:aJ):Option (Bool):=
 (bif ((((((decide (g_0.Config.N<1))||(decide (1024<g_0.Config.N)))||(decide (g_0.Config.L<1)))||(decide (16<g_0.Config.L)))||(decide (g_0.Config.R<1)))||(decide (8<g_0.Config.R))) then
  some false
 else
  (bif ((g_0.Hashes.length:Int) !=(IntKind.i64.wrap (g_0.Config.L*g_0.Config.R))) then
   some false
  else
   tF aW g_0 g_0.Config g_0.Hashes (g_0.Hashes.length:Int) 0))
theorem aV0:K1 prog dQ vb 45 gX:=by
 intro g_0 r hm
 let I1:=((fun m s=> ∃g_1 c_3 t48 t49 t50,s=⟨92,(aF (aF (aF (aF (aF fa 1 (.adr 1 0)) 3 (.adr 2 0)) 48 (vl cL t48)) 49 (vi t49)) 50 (vi t50)),⟨(upd (upd aY 1 (.cells 1 [vi g_1.Config.N,vi g_1.Config.L,vi g_1.Config.R,vl cL g_1.Hashes,vl aV g_1.Edges] 0)) 2 (.cells 1 [vi c_3.N,vi c_3.L,vi c_3.R] 0)),64⟩⟩∧tF m g_1 c_3 t48 t49 t50=some r):Nat→St→Prop)
 let I2:=((fun m s=> ∃g_1 c_3 t70 t71 t72,s=⟨92,(aF (aF (aF (aF (aF fa 1 (.adr 1 0)) 3 (.adr 2 0)) 70 (vl aV t70)) 71 (vi t71)) 72 (vi t72)),⟨(upd (upd aY 1 (.cells 1 [vi g_1.Config.N,vi g_1.Config.L,vi g_1.Config.R,vl cL g_1.Hashes,vl aV g_1.Edges] 0)) 2 (.cells 1 [vi c_3.N,vi c_3.L,vi c_3.R] 0)),64⟩⟩∧tH m g_1 c_3 t70 t71 t72=some r):Nat→St→Prop)
 exact be 92 func45 (h:=G)
instance:Ct prog 45 (K1 prog dQ vb 45 gX):=⟨aV0⟩
def tU(g_0:aJ):Option ((List Int)):=
 ((gX g_0).bind fun r2=>
 (bif (!r2) then
  some []
 else
  ((kF g_0.Config.N g_0.Edges g_0.Config.L).bind fun r4=>
  ((vR g_0.Config.N r4).bind fun ⟨r6,r7⟩=>
  some r6))))
theorem bCs:K1 prog dQ (vl (ci .i64)) 20 tU:=fun hm=>be 25 func20 (h:=G)
instance:Ct prog 20 (K1 prog dQ (vl (ci .i64)) 20 tU):=⟨bCs⟩
def aG1(g_0:aJ):Option ((List Int)):=
 ((gX g_0).bind fun r2=>
 (bif (!r2) then
  some []
 else
  ((vR g_0.Config.N g_0.Edges).bind fun ⟨r4,r5⟩=>
  some r4)))
theorem bI4:K1 prog dQ (vl (ci .i64)) 58 aG1:=fun hm=>be 18 func58 (h:=G)
instance:Ct prog 58 (K1 prog dQ (vl (ci .i64)) 58 aG1):=⟨bI4⟩
def aA2(rec1:List Int→List Int→Int→Int→Option (Bool))(aUv:List Int)(aYv:List Int)(t12:Int)(t13:Int):Option (Bool):=
 (bif (decide (t13<t12)) then
  ((idx aUv t13).bind fun x2=>
  ((idx aYv t13).bind fun x4=>
  (bif (x2 !=x4) then
   some false
  else
   rec1 aUv aYv t12 (IntKind.i64.wrap (t13+1)))))
 else
  some true)
def nY:Nat→List Int→List Int→Int→Int→Option (Bool)
 |0=>fun _ _ _ _=>none
 |n+1=>aA2 (nY n)
def pU(aUv:List Int)(aYv:List Int):Option (Bool):=
 (bif ((aUv.length:Int) !=(aYv.length:Int)) then
  some false
 else
  nY aW aUv aYv (aUv.length:Int) 0)
theorem aPc:K2 prog (vl (ci .i64)) (vl (ci .i64)) vb 57 pU:=by
 intro aUv aYv r hm
 let I1:=((fun m s=> ∃aUv aYv t12 t13,s=⟨26,(aF (aF (aF (aF fa 0 (vl (ci .i64) aUv)) 1 (vl (ci .i64) aYv)) 12 (vi t12)) 13 (vi t13)),⟨aY,64⟩⟩∧nY m aUv aYv t12 t13=some r):Nat→St→Prop)
 exact be 26 func57 (h:=G)
instance:Ct prog 57 (K2 prog (vl (ci .i64)) (vl (ci .i64)) vb 57 pU):=⟨aPc⟩
def yN(g_0:aJ):Option (Bool):=
 ((gX g_0).bind fun r2=>
 ((eK (r2==true) [] (tU g_0)).bind fun r4=>
 ((eK (r2==true) [] (aG1 g_0)).bind fun r6=>
 ((eK (r2==true) false (pU r4 r6)).bind fun r8=>
 some (r2&&r8)))))
theorem aWz:K1 prog dQ vb 25 yN:=fun hm=>be 12 func25 (h:=G)
instance:Ct prog 25 (K1 prog dQ vb 25 yN):=⟨aWz⟩
def iP(l:List bW):Option (List bW):=aWv 16 [] l
theorem aM8{r:List bW}(hm:some []=some r):fR prog 75 [.v (.slice none 0 0)] 2 (r.flatMap cL) r.length:=by
 refine fR.of_body func75 rfl (jQ.fmdat r) ?_;simp only [ntmps75,List.length_cons,List.length_nil,Nat.reduceAdd,Nat.reduceSub,iN];refine sN 64 (pA ?_);refine fs (AWp.seq' (sN 128 (pA ?_)));refine pu rfl (aC2 Z1 Z1 (aMk underlying27)) ?_;refine fs (AWp.condT Z1 ?_);refine sN 192 (pA ?_);refine fs (AWp.weaken (aAn 2 900002 2 Z1 Z5) ?_);refine AWp.ret (jE ?_);cases hm;exact aNl (.inr rfl) Tryz.results75 Z1 Z3 Z6
theorem aM9{a:Addr}{c:Nat}{r:List bW}(hm:((aWv 16 [] []).bind fun l2=>
some l2)=some r):fR prog 75 [.v (.slice (some a) 0 c)] 2 (r.flatMap cL) r.length:=by
 refine fR.of_body func75 rfl (jQ.fmdat r) ?_;simp only [ntmps75,List.length_cons,List.length_nil,Nat.reduceAdd,Nat.reduceSub,iN];refine sN 64 (pA ?_);refine fs (AWp.seq' (sN 128 (pA ?_)));refine pu rfl (aC2 Z1 Z1 (aKd underlying27)) ?_;refine fs (AWp.condF Z1 ?_);refine AWp.skip (bQ (sN 192 (hp (id:=128) rfl rfl (kY jQ (l:=[]) underlying27 bR0 bRf Z5 Zd Zd Zd (by simp only [go_sem,Nat.reduceBEq];try rfl) (by kernel_rfl)) ?_)));refine pA ?_;obtain ⟨l2,h1,hm⟩:=bnd hm;refine hp (id:=130) rfl rfl (bGc jQ underlying27 underlying27 rfl bSx bVm bCm (by rw [bCm];decide) bVo Zd Zd Z1 Z3 Z6 (aRj Z1) rfl Z5 h1) ?_;refine pA ?_;refine fs (AWp.ret ?_);cases hm;exact aNl (.inr rfl) Tryz.results75 Z1 Z3 Z6
theorem aMa{x0:bW}{l0:List bW}{r:List bW}(hm:((aWv 16 [] (x0::l0)).bind fun l2=>
some l2)=some r):fR prog 75 [.sl ((x0::l0).flatMap cL) (x0::l0).length false] 2 (r.flatMap cL) r.length:=by
 refine fR.of_body func75 rfl (jQ.fmdat r) ?_;simp only [ntmps75,List.length_cons,List.length_nil,Nat.reduceAdd,Nat.reduceSub,iN];refine sN 64 (pA ?_);refine fs (AWp.seq' (sN 128 (pA ?_)));refine pu rfl (aC2 Z1 Z1 (aKc underlying27 (by simp))) ?_;refine fs (AWp.condF Z1 ?_);refine AWp.skip (bQ (sN 192 (hp (id:=128) rfl rfl (kY jQ (l:=[]) underlying27 bR0 bRf Z5 Zd Zd Zd (by simp only [go_sem,Nat.reduceBEq];try rfl) (by kernel_rfl)) ?_)));refine pA ?_;obtain ⟨l2,h1,hm⟩:=bnd hm;refine hp (id:=130) rfl rfl (bGc jQ underlying27 underlying27 rfl bSx bVm bCm (by rw [bCm];decide) bVo Zd Zd Z1 Z3 Z6 (aVh jQ Z1 rfl) rfl Z5 h1) ?_;refine pA ?_;refine fs (AWp.ret ?_);cases hm;exact aNl (.inr rfl) Tryz.results75 Z1 Z3 Z6
theorem aNv{l r:List bW}(hm:iP l=some r):fR prog 75 [.sl (l.flatMap cL) l.length false] 2 (r.flatMap cL) r.length:=by
 cases l with
 |nil=>
  have hr:r=[]:=by unfold iP aWv at hm;simpa using hm.symm
  subst hr;exact fR.nil_arg (aM8 (r:=[]) rfl) (fun a c=>aM9 (r:=[]) rfl)
 |cons x0 l0=>
  refine aMa ?_;show (aWv 16 [] (x0::l0)).bind _=_;unfold iP at hm;rw [hm];rfl
theorem aNu{l r:List bW}(hm:iP l=some r):cE prog 75 [.sl (l.flatMap cL) l.length false] (.sl (r.flatMap cL) r.length false):=cE.of_fresh jQ (aNv hm)
instance:Ct prog 75 (K1 prog (vl cL) (vl cL) 75 iP):=⟨fun hm=>aNu hm⟩
def aEf(c_0:bC)(bOp:List bW):Option (aJ×Int):=
 ((iP bOp).bind fun r2=>
 ((gX (aJ.mk c_0 r2 [])).bind fun r4=>
 (bif (!r4) then
  some ((aJ.mk (bC.mk 0 0 0) [] []),1)
 else
  some ((aJ.mk c_0 r2 []),0))))
theorem aTv:K2 prog aK8 (vl cL) (t2 dQ vi) 34 aEf:=fun hm=>be 16 func34 (h:=G)
instance:Ct prog 34 (K2 prog aK8 (vl cL) (t2 dQ vi) 34 aEf):=⟨aTv⟩
def aJe(rec1:Int→Int→List aE→Int→Int→Option (Int×Bool))(u_1:Int)(v_2:Int)(t10:List aE)(t11:Int)(t12:Int):Option (Int×Bool):=
 (bif (decide (t12<t11)) then
  ((idx t10 t12).bind fun x2=>
  (bif (((x2.U==u_1)&&(x2.V==v_2))||((x2.U==v_2)&&(x2.V==u_1))) then
   some (t12,true)
  else
   rec1 u_1 v_2 t10 t11 (IntKind.i64.wrap (t12+1))))
 else
  some (0,false))
def aBk:Nat→Int→Int→List aE→Int→Int→Option (Int×Bool)
 |0=>fun _ _ _ _ _=>none
 |n+1=>aJe (aBk n)
def qS(l_0:List aE)(u_1:Int)(v_2:Int):Option (Int×Bool):=
 aBk aW u_1 v_2 l_0 (l_0.length:Int) 0
theorem aHg:K3 prog (vl aV) vi vi (t2 vi vb) 80 qS:=by
 intro l_0 u_1 v_2 r hm
 let I1:=((fun m s=> ∃u_1 v_2 t10 t11 t12,s=⟨41,(aF (aF (aF (aF (aF fa 1 (vi u_1)) 2 (vi v_2)) 10 (vl aV t10)) 11 (vi t11)) 12 (vi t12)),⟨aY,64⟩⟩∧aBk m u_1 v_2 t10 t11 t12=some r):Nat→St→Prop)
 exact be 41 func80 (h:=G)
instance:Ct prog 80 (K3 prog (vl aV) vi vi (t2 vi vb) 80 qS):=⟨aHg⟩
abbrev aHj(rec1:List Int→Int→List Int→List Int→Int→Int→Option ((List Int)))(p_0:List Int)(v_1:Int)(aCn:List Int)(t18:List Int)(t19:Int)(t20:Int):Option ((List Int)):=
 rec1 p_0 v_1 aCn t18 t19 (IntKind.i64.wrap (t20+1))
def aHi(rec1:List Int→Int→List Int→List Int→Int→Int→Option ((List Int)))(p_0:List Int)(v_1:Int)(aCn:List Int)(t18:List Int)(t19:Int)(t20:Int):Option ((List Int)):=
 (bif (decide (t20<t19)) then
  ((idx t18 t20).bind fun x6=>
  ((idx p_0 v_1).bind fun x8=>
  (bif (x6==x8) then
   ((app aCn [t20]).bind fun l10=>
   aHj rec1 p_0 v_1 l10 t18 t19 t20)
  else
   aHj rec1 p_0 v_1 aCn t18 t19 t20)))
 else
  some aCn)
def zO:Nat→List Int→Int→List Int→List Int→Int→Int→Option ((List Int))
 |0=>fun _ _ _ _ _ _=>none
 |n+1=>aHi (zO n)
def sY(p_0:List Int)(v_1:Int):Option ((List Int)):=
 ((xY p_0).bind fun r2=>
 ((eK ((!r2)==false) false (jW (p_0.length:Int) v_1)).bind fun r4=>
 (bif ((!r2)||(!r4)) then
  some []
 else
  zO aW p_0 v_1 [] p_0 (p_0.length:Int) 0)))
theorem bBl:K2 prog (vl (ci .i64)) vi (vl (ci .i64)) 84 sY:=by
 intro p_0 v_1 r hm
 let I1:=((fun m s=> ∃p_0 v_1 aCn t18 t19 t20,s=⟨37,(aF (aF (aF (aF (aF (aF fa 0 (vl (ci .i64) p_0)) 1 (vi v_1)) 5 (.own 1 0 aCn.length)) 18 (vl (ci .i64) t18)) 19 (vi t19)) 20 (vi t20)),⟨(upd aY 1 (.cells 1 (aCn.flatMap (ci .i64)) 0)),64⟩⟩∧zO m p_0 v_1 aCn t18 t19 t20=some r):Nat→St→Prop)
 exact be 37 func84 (h:=G)
instance:Ct prog 84 (K2 prog (vl (ci .i64)) vi (vl (ci .i64)) 84 sY):=⟨bBl⟩
def aCq(n_0:Int):Option (Int):=
 some (Int.tmod n_0 2305843009213693951)
theorem bV3:K1 prog vu vu 130 aCq:=fun hm=>be 5 func130 (h:=G)
instance:Ct prog 130 (K1 prog vu vu 130 aCq):=⟨bV3⟩
def aGc(a_0:Int)(b_1:Int):Option (Int):=
 ((aCq a_0).bind fun r2=>
 ((aCq b_1).bind fun r4=>
 some (Int.tmod (IntKind.u64.wrap (r2+r4)) 2305843009213693951)))
theorem bPl:K2 prog vu vu vu 89 aGc:=fun hm=>be 11 func89 (h:=G)
instance:Ct prog 89 (K2 prog vu vu vu 89 aGc):=⟨bPl⟩
def aBc(x_0:Int)(y_1:Int):Option (Int×Int):=
 some ((IntKind.u64.wrap ((IntKind.u64.wrap ((IntKind.u64.wrap ((shr .u64 x_0 32)*(shr .u64 y_1 32)))+(shr .u64 (IntKind.u64.wrap ((IntKind.u64.wrap ((shr .u64 x_0 32)*(yO .u64 y_1 4294967295)))+(shr .u64 (IntKind.u64.wrap ((yO .u64 x_0 4294967295)*(yO .u64 y_1 4294967295))) 32))) 32)))+(shr .u64 (IntKind.u64.wrap ((yO .u64 (IntKind.u64.wrap ((IntKind.u64.wrap ((shr .u64 x_0 32)*(yO .u64 y_1 4294967295)))+(shr .u64 (IntKind.u64.wrap ((yO .u64 x_0 4294967295)*(yO .u64 y_1 4294967295))) 32))) 4294967295)+(IntKind.u64.wrap ((yO .u64 x_0 4294967295)*(shr .u64 y_1 32))))) 32))),(IntKind.u64.wrap (x_0*y_1)))
theorem bA2:K2 prog vu vu (t2 vu vu) 131 aBc:=fun hm=>be 51 func131 (h:=G)
instance:Ct prog 131 (K2 prog vu vu (t2 vu vu) 131 aBc):=⟨bA2⟩
abbrev aMq(x_0:Int)(n_2:Int):Option (Int):=
 ((aD0 bNj (IntKind.u8.wrap x_0)).bind fun b2=>
 some (IntKind.i64.wrap (n_2+(IntKind.i64.wrap b2))))
abbrev aMp(x_0:Int)(n_2:Int):Option (Int):=
 (bif (decide (256≤x_0)) then
  aMq (shr .u64 x_0 8) (IntKind.i64.wrap (n_2+8))
 else
  aMq x_0 n_2)
abbrev aMo(x_0:Int)(n_2:Int):Option (Int):=
 (bif (decide (65536≤x_0)) then
  aMp (shr .u64 x_0 16) (IntKind.i64.wrap (n_2+16))
 else
  aMp x_0 n_2)
def aEn(x_0:Int):Option (Int):=
 (bif (decide (4294967296≤x_0)) then
  aMo (shr .u64 x_0 32) 32
 else
  aMo x_0 0)
theorem aPv:K1 prog vu vi 203 aEn:=fun hm=>be 25 func203 (h:=G)
instance:Ct prog 203 (K1 prog vu vi 203 aEn):=⟨aPv⟩
def nR(x_0:Int):Option (Int):=
 ((aEn x_0).bind fun r2=>
 some (IntKind.i64.wrap (64-r2)))
theorem aBb:K1 prog vu vi 212 nR:=fun hm=>be 6 func212 (h:=G)
instance:Ct prog 212 (K1 prog vu vi 212 nR):=⟨aBb⟩
abbrev yP(y_2:Int)(s_8:Int)(kW:Int)(mA:Int)(uX:Int)(aCj:Int):Option (Int×Int):=
 ((chk (decide (0≤s_8))).bind fun _=>
 some ((IntKind.u64.wrap ((IntKind.u64.wrap (mA*4294967296))+aCj)),(shr .u64 (IntKind.u64.wrap ((IntKind.u64.wrap ((IntKind.u64.wrap (uX*4294967296))+kW))-(IntKind.u64.wrap (aCj*y_2)))) s_8)))
def aGv(rec1:Int→Int→Int→Int→Int→Int→Int→Int→Int→Option (Int×Int))(y_2:Int)(s_8:Int)(qE:Int)(oP:Int)(kW:Int)(mA:Int)(qU:Int)(uX:Int)(aCj:Int):Option (Int×Int):=
 (bif ((decide (4294967296≤aCj))||(decide ((IntKind.u64.wrap ((IntKind.u64.wrap (4294967296*qU))+kW))<(IntKind.u64.wrap (aCj*oP))))) then
  (bif (decide (4294967296≤(IntKind.u64.wrap (qU+qE)))) then
   yP y_2 s_8 kW mA uX (IntKind.u64.wrap (aCj-1))
  else
   rec1 y_2 s_8 qE oP kW mA (IntKind.u64.wrap (qU+qE)) uX (IntKind.u64.wrap (aCj-1)))
 else
  yP y_2 s_8 kW mA uX aCj)
def uC:Nat→Int→Int→Int→Int→Int→Int→Int→Int→Int→Option (Int×Int)
 |0=>fun _ _ _ _ _ _ _ _ _=>none
 |n+1=>aGv (uC n)
abbrev uB(y_2:Int)(s_8:Int)(qE:Int)(oP:Int)(oR:Int)(tX:Int)(kW:Int)(mA:Int):Option (Int×Int):=
 ((chk (qE !=0)).bind fun _=>
 uC aW y_2 s_8 qE oP kW mA (IntKind.u64.wrap ((IntKind.u64.wrap ((IntKind.u64.wrap ((IntKind.u64.wrap (oR*4294967296))+tX))-(IntKind.u64.wrap (mA*y_2))))-(IntKind.u64.wrap ((IntKind.u64.wrap (Int.tdiv (IntKind.u64.wrap ((IntKind.u64.wrap ((IntKind.u64.wrap (oR*4294967296))+tX))-(IntKind.u64.wrap (mA*y_2)))) qE))*qE)))) (IntKind.u64.wrap ((IntKind.u64.wrap ((IntKind.u64.wrap (oR*4294967296))+tX))-(IntKind.u64.wrap (mA*y_2)))) (IntKind.u64.wrap (Int.tdiv (IntKind.u64.wrap ((IntKind.u64.wrap ((IntKind.u64.wrap (oR*4294967296))+tX))-(IntKind.u64.wrap (mA*y_2)))) qE)))
def aGw(rec2:Int→Int→Int→Int→Int→Int→Int→Int→Int→Option (Int×Int))(y_2:Int)(s_8:Int)(qE:Int)(oP:Int)(oR:Int)(tX:Int)(kW:Int)(mA:Int)(qU:Int):Option (Int×Int):=
 (bif ((decide (4294967296≤mA))||(decide ((IntKind.u64.wrap ((IntKind.u64.wrap (4294967296*qU))+tX))<(IntKind.u64.wrap (mA*oP))))) then
  (bif (decide (4294967296≤(IntKind.u64.wrap (qU+qE)))) then
   uB y_2 s_8 qE oP oR tX kW (IntKind.u64.wrap (mA-1))
  else
   rec2 y_2 s_8 qE oP oR tX kW (IntKind.u64.wrap (mA-1)) (IntKind.u64.wrap (qU+qE)))
 else
  uB y_2 s_8 qE oP oR tX kW mA)
def uD:Nat→Int→Int→Int→Int→Int→Int→Int→Int→Int→Option (Int×Int)
 |0=>fun _ _ _ _ _ _ _ _ _=>none
 |n+1=>aGw (uD n)
abbrev aGy(aDm:Int)(uK:Int)(y_2:Int):Option (Int×Int):=
 (bif (aDm==0) then
  ((chk (y_2 !=0)).bind fun _=>
  ((chk (y_2 !=0)).bind fun _=>
  some ((IntKind.u64.wrap (Int.tdiv uK y_2)),(Int.tmod uK y_2))))
 else
  ((nR y_2).bind fun r4=>
  ((chk (decide (0≤(IntKind.u64.wrap r4)))).bind fun _=>
  ((chk (decide (0≤(IntKind.u64.wrap r4)))).bind fun _=>
  ((chk (decide (0≤(IntKind.u64.wrap (64-(IntKind.u64.wrap r4)))))).bind fun _=>
  ((chk (decide (0≤(IntKind.u64.wrap r4)))).bind fun _=>
  ((chk ((shr .u64 (shl .u64 y_2 (IntKind.u64.wrap r4)) 32) !=0)).bind fun _=>
  uD aW (shl .u64 y_2 (IntKind.u64.wrap r4)) (IntKind.u64.wrap r4) (shr .u64 (shl .u64 y_2 (IntKind.u64.wrap r4)) 32) (yO .u64 (shl .u64 y_2 (IntKind.u64.wrap r4)) 4294967295) (bor .u64 (shl .u64 aDm (IntKind.u64.wrap r4)) (shr .u64 uK (IntKind.u64.wrap (64-(IntKind.u64.wrap r4))))) (shr .u64 (shl .u64 uK (IntKind.u64.wrap r4)) 32) (yO .u64 (shl .u64 uK (IntKind.u64.wrap r4)) 4294967295) (IntKind.u64.wrap (Int.tdiv (bor .u64 (shl .u64 aDm (IntKind.u64.wrap r4)) (shr .u64 uK (IntKind.u64.wrap (64-(IntKind.u64.wrap r4))))) (shr .u64 (shl .u64 y_2 (IntKind.u64.wrap r4)) 32))) (IntKind.u64.wrap ((bor .u64 (shl .u64 aDm (IntKind.u64.wrap r4)) (shr .u64 uK (IntKind.u64.wrap (64-(IntKind.u64.wrap r4)))))-(IntKind.u64.wrap ((IntKind.u64.wrap (Int.tdiv (bor .u64 (shl .u64 aDm (IntKind.u64.wrap r4)) (shr .u64 uK (IntKind.u64.wrap (64-(IntKind.u64.wrap r4))))) (shr .u64 (shl .u64 y_2 (IntKind.u64.wrap r4)) 32)))*(shr .u64 (shl .u64 y_2 (IntKind.u64.wrap r4)) 32))))))))))))
abbrev aGx(aDm:Int)(uK:Int)(y_2:Int):Option (Int×Int):=
 (bif (decide (y_2≤aDm)) then
  none
 else
  aGy aDm uK y_2)
def aBa(aDm:Int)(uK:Int)(y_2:Int):Option (Int×Int):=
 (bif (y_2==0) then
  none
 else
  aGx aDm uK y_2)
theorem bA1{aDm:Int}{uK:Int}{y_2:Int}{r:Int×Int}(hm:aBa aDm uK y_2=some r):cE prog 163 [vu aDm,vu uK,vu y_2] (.tup [vu r.1,vu r.2]):=by
 refine bd 135 func163 ?_;refine V ?_;refine AWp.seqJ (fun s=> ∃aDm uK y_2,s=⟨135,(aF (aF (aF fa 0 (vu aDm)) 1 (vu uK)) 2 (vu y_2)),⟨aY,64⟩⟩∧aGx aDm uK y_2=some r) ?_ ?_
 ·
  refine W ?_;refine cm hm (fun hm=>?_) fun hm=>?_
  · cases hm
  exact L
 rintro s ⟨aDm,uK,y_2,rfl,hm⟩;refine AWp.seqJ (fun s=> ∃aDm uK y_2,s=⟨135,(aF (aF (aF fa 0 (vu aDm)) 1 (vu uK)) 2 (vu y_2)),⟨aY,64⟩⟩∧aGy aDm uK y_2=some r) ?_ ?_
 ·
  refine W ?_;refine cm hm (fun hm=>?_) fun hm=>?_
  · cases hm
  exact L
 rintro s ⟨aDm,uK,y_2,rfl,hm⟩;refine W ?_;refine cm hm (fun hm=>?_) fun hm=>?_
 · obtain ⟨_,h1,hm⟩:=bnd hm;obtain ⟨_,h2,hm⟩:=bnd hm;exact E
 obtain ⟨r4,h3,hm⟩:=bnd hm;refine W ?_;refine cq (aBb h3) ?_;obtain ⟨_,h5,hm⟩:=bnd hm;obtain ⟨_,h6,hm⟩:=bnd hm;obtain ⟨_,h7,hm⟩:=bnd hm;obtain ⟨_,h8,hm⟩:=bnd hm;obtain ⟨_,h9,hm⟩:=bnd hm;refine V ?_;refine AWp.seqJ (fun s=> ∃y_2 s_8 qE oP oR tX kW mA,s=⟨135,(aF (aF (aF (aF (aF (aF (aF (aF fa 2 (vu y_2)) 8 (vu s_8)) 9 (vu qE)) 10 (vu oP)) 11 (vu oR)) 13 (vu tX)) 14 (vu kW)) 15 (vu mA)),⟨aY,64⟩⟩∧uB y_2 s_8 qE oP oR tX kW mA=some r) ?_ ?_
 ·
  refine W ?_;refine lp (fun m s=> ∃y_2 s_8 qE oP oR tX kW mA qU,s=⟨135,(aF (aF (aF (aF (aF (aF (aF (aF (aF fa 2 (vu y_2)) 8 (vu s_8)) 9 (vu qE)) 10 (vu oP)) 11 (vu oR)) 13 (vu tX)) 14 (vu kW)) 15 (vu mA)) 16 (vu qU)),⟨aY,64⟩⟩∧uD m y_2 s_8 qE oP oR tX kW mA qU=some r) L ?_;rintro n2 s ⟨y_2,s_8,qE,oP,oR,tX,kW,mA,qU,rfl,hm⟩;refine W ?_;refine cm hm (fun hm=>?_) fun hm=>?_
  ·
   refine W ?_;refine cm hm (fun hm=>?_) fun hm=>?_
   · refine W ?_;refine aOp Zd ?_;exact L
   exact L
  exact L
 rintro s ⟨y_2,s_8,qE,oP,oR,tX,kW,mA,rfl,hm⟩;obtain ⟨_,h10,hm⟩:=bnd hm;refine V ?_;refine AWp.seqJ (fun s=> ∃y_2 s_8 kW mA uX aCj,s=⟨135,(aF (aF (aF (aF (aF (aF fa 2 (vu y_2)) 8 (vu s_8)) 14 (vu kW)) 15 (vu mA)) 17 (vu uX)) 18 (vu aCj)),⟨aY,64⟩⟩∧yP y_2 s_8 kW mA uX aCj=some r) ?_ ?_
 ·
  refine W ?_;refine lp (fun m s=> ∃y_2 s_8 qE oP kW mA qU uX aCj,s=⟨135,(aF (aF (aF (aF (aF (aF (aF (aF (aF fa 2 (vu y_2)) 8 (vu s_8)) 9 (vu qE)) 10 (vu oP)) 14 (vu kW)) 15 (vu mA)) 16 (vu qU)) 17 (vu uX)) 18 (vu aCj)),⟨aY,64⟩⟩∧uC m y_2 s_8 qE oP kW mA qU uX aCj=some r) L ?_;rintro n1 s ⟨y_2,s_8,qE,oP,kW,mA,qU,uX,aCj,rfl,hm⟩;refine W ?_;refine cm hm (fun hm=>?_) fun hm=>?_
  ·
   refine W ?_;refine cm hm (fun hm=>?_) fun hm=>?_
   · refine W ?_;refine aOp Zd ?_;exact L
   exact L
  exact L
 rintro s ⟨y_2,s_8,kW,mA,uX,aCj,rfl,hm⟩;obtain ⟨_,h11,hm⟩:=bnd hm;exact E
instance:Ct prog 163 (K3 prog vu vu vu (t2 vu vu) 163 aBa):=⟨fun hm=>bA1 hm⟩
def aEo(aDm:Int)(uK:Int)(y_2:Int):Option (Int):=
 ((chk (y_2 !=0)).bind fun _=>
 ((aBa (Int.tmod aDm y_2) uK y_2).bind fun ⟨r3,r4⟩=>
 some r4))
theorem bA3:K3 prog vu vu vu vu 132 aEo:=fun hm=>be 19 func132 (h:=G)
instance:Ct prog 132 (K3 prog vu vu vu vu 132 aEo):=⟨bA3⟩
def aGd(a_0:Int)(b_1:Int):Option (Int):=
 ((aCq a_0).bind fun r2=>
 ((aCq b_1).bind fun r4=>
 ((aBc r2 r4).bind fun ⟨r6,r7⟩=>
 ((aEo r6 r7 2305843009213693951).bind fun r9=>
 some r9))))
theorem bPm:K2 prog vu vu vu 90 aGd:=fun hm=>be 18 func90 (h:=G)
instance:Ct prog 90 (K2 prog vu vu vu 90 aGd):=⟨bPm⟩
def nV(g_0:aJ)(kA:Int)(v_2:Int):Option (Bool):=
 ((gX g_0).bind fun r2=>
 some ((((r2&&(decide (0≤kA)))&&(decide (kA<g_0.Config.L)))&&(decide (0≤v_2)))&&(decide (v_2<g_0.Config.N))))
theorem aNq:K3 prog dQ vi vi vb 136 nV:=fun hm=>be 31 func136 (h:=G)
instance:Ct prog 136 (K3 prog dQ vi vi vb 136 nV):=⟨aNq⟩
def aEs(n_0:Int)(l_1:List aE)(v_2:Int):Option ((List Int)):=
 ((qK n_0 l_1).bind fun r2=>
 (bif (!r2) then
  some []
 else
  ((vR n_0 l_1).bind fun ⟨r4,r5⟩=>
  ((sY r4 v_2).bind fun r7=>
  some r7))))
theorem bAo:K3 prog vi (vl aV) vi (vl (ci .i64)) 215 aEs:=fun hm=>be 22 func215 (h:=G)
instance:Ct prog 215 (K3 prog vi (vl aV) vi (vl (ci .i64)) 215 aEs):=⟨bAo⟩
def rT(g_0:aJ)(kA:Int)(v_2:Int):Option ((List Int)):=
 ((kF g_0.Config.N g_0.Edges kA).bind fun r2=>
 ((aEs g_0.Config.N r2 v_2).bind fun r4=>
 some r4))
theorem aV1:K3 prog dQ vi vi (vl (ci .i64)) 165 rT:=fun hm=>be 19 func165 (h:=G)
instance:Ct prog 165 (K3 prog dQ vi vi (vl (ci .i64)) 165 rT):=⟨aV1⟩
def aLs(rec1:Int→List Int→Int→Int→Option (Bool))(n_0:Int)(t13:List Int)(t14:Int)(t15:Int):Option (Bool):=
 (bif (decide (t15<t14)) then
  ((idx t13 t15).bind fun x4=>
  (bif ((decide (x4<0))||(decide (n_0≤x4))) then
   some false
  else
   rec1 n_0 t13 t14 (IntKind.i64.wrap (t15+1))))
 else
  some true)
def aDf:Nat→Int→List Int→Int→Int→Option (Bool)
 |0=>fun _ _ _ _=>none
 |n+1=>aLs (aDf n)
def aKf(n_0:Int)(l_1:List aE)(aL8:List Int):Option (Bool):=
 ((kM n_0 l_1).bind fun r2=>
 (bif (!r2) then
  some false
 else
  aDf aW n_0 aL8 (aL8.length:Int) 0))
theorem aVu:K3 prog vi (vl aV) (vl (ci .i64)) vb 213 aKf:=by
 intro n_0 l_1 aL8 r hm
 let I1:=((fun m s=> ∃n_0 t13 t14 t15,s=⟨27,(aF (aF (aF (aF fa 0 (vi n_0)) 13 (vl (ci .i64) t13)) 14 (vi t14)) 15 (vi t15)),⟨aY,64⟩⟩∧aDf m n_0 t13 t14 t15=some r):Nat→St→Prop)
 exact be 27 func213 (h:=G)
instance:Ct prog 213 (K3 prog vi (vl aV) (vl (ci .i64)) vb 213 aKf):=⟨aVu⟩
attribute [local semireducible] aW
end Go.Proofs.YtkdohhmacfoolaaGreatDoor
