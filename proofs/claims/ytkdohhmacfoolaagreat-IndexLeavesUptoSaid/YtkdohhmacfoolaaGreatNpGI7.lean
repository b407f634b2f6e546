/- Facts. No condition. -/
import Derived.Test.YtkdohhmacfoolaaGreatNpGI4
set_option linter.unusedVariables false
set_option linter.unusedSimpArgs false
set_option maxRecDepth 20000
set_option maxHeartbeats 4000000
namespace Go.Proofs.YtkdohhmacfoolaaGreat
open Go.Proofs.Tryz Go Go.AM
attribute [local irreducible] bC
structure aZ where
 List:List Int
 At:Int
deriving DecidableEq
def aJ5(e:aZ):List AV:=[.sl (e.List.flatMap (ci .u64)) e.List.length false,.v (.int .i64 e.At)]
@[go_sem] theorem aG8(e:aZ)(r:List AV):aJ5 e++r= .sl (e.List.flatMap (ci .u64)) e.List.length false:: .v (.int .i64 e.At)::r:=rfl
def aI5(w_0:aZ):Option (Bool):=
 some ((decide (0≤w_0.At))&&(decide (w_0.At≤(w_0.List.length:Int))))
attribute [local semireducible] bC
attribute [local irreducible] bC
def aU6(rec1:aZ→aZ→Int→Option (Int×aZ×Int))(w_1:aZ)(t3:aZ)(aMi:Int):Option (Int×aZ×Int):=
 (bif (decide (aMi<(w_1.List.length:Int))) then
  ((idx w_1.List aMi).bind fun x4=>
  (bif ((Int.tmod x4 2305843009213693952) !=2305843009213693951) then
   some ((Int.tmod x4 2305843009213693952),(aZ.mk w_1.List (IntKind.i64.wrap (aMi+1))),0)
  else
   rec1 w_1 t3 (IntKind.i64.wrap (aMi+1))))
 else
  some (0,w_1,5))
def aL6:Nat→aZ→aZ→Int→Option (Int×aZ×Int)
 |0=>fun _ _ _=>none
 |n+1=>aU6 (aL6 n)
def aXq(w_0:aZ):Option (Int×aZ×Int):=
 ((aI5 w_0).bind fun r2=>
 (bif (!r2) then
  some (0,w_0,1)
 else
  aL6 bC w_0 (aZ.mk [] 0) w_0.At))
def aSs(rec2:Int→aZ→List Int→aZ→List dI→Int→Option ((List dI)×aZ×Int))(n_1:Int)(t5:aZ)(aRm:List Int)(v_8:aZ)(bNz:List dI)(bPt:Int):Option ((List dI)×aZ×Int):=
 (bif (decide (bPt<n_1)) then
  ((idx aRm (IntKind.i64.wrap (2*bPt))).bind fun x10=>
  ((idx aRm (IntKind.i64.wrap ((IntKind.i64.wrap (2*bPt))+1))).bind fun x12=>
  ((app bNz [(dI.mk x10 x12)]).bind fun l14=>
  rec2 n_1 t5 aRm v_8 l14 (IntKind.i64.wrap (bPt+1)))))
 else
  some (bNz,v_8,0))
def aJy:Nat→Int→aZ→List Int→aZ→List dI→Int→Option ((List dI)×aZ×Int)
 |0=>fun _ _ _ _ _ _=>none
 |n+1=>aSs (aJy n)
def aSr(rec1:Int→aZ→aZ→List Int→aZ→Option ((List dI)×aZ×Int))(n_1:Int)(w_2:aZ)(t5:aZ)(aRm:List Int)(v_8:aZ):Option ((List dI)×aZ×Int):=
 (bif (decide ((aRm.length:Int)<(IntKind.i64.wrap (2*n_1)))) then
  ((aXq v_8).bind fun ⟨r4,r5,r6⟩=>
  (bif (r6 !=0) then
   some ([],w_2,r6)
  else
   ((app aRm [r4]).bind fun l8=>
   rec1 n_1 w_2 t5 l8 r5)))
 else
  aJy bC n_1 t5 aRm v_8 [] 0)
def aJx:Nat→Int→aZ→aZ→List Int→aZ→Option ((List dI)×aZ×Int)
 |0=>fun _ _ _ _ _=>none
 |n+1=>aSr (aJx n)
def aL7(w_0:aZ)(n_1:Int):Option ((List dI)×aZ×Int):=
 ((aI5 w_0).bind fun r2=>
 (bif (((!r2)||(decide (n_1<0)))||(decide (128<n_1))) then
  some ([],w_0,1)
 else
  aJx bC n_1 w_0 (aZ.mk [] 0) [] w_0))
attribute [local semireducible] bC
open Go.Proofs.Tryz Go Go.AM
attribute [local irreducible] bC
@[go_sem] theorem bIl(i o:Nat):aO prog 23 (.adr i o) 0=some (.adr i (o+0)):=by kernel_rfl
@[go_sem] theorem bJp(i o:Nat):aO prog 42 (.adr i o) 1=some (.adr i (o+1)):=by kernel_rfl
@[go_sem] theorem bJr(i o:Nat):aO prog 42 (.adr i o) 2=some (.adr i (o+2)):=by kernel_rfl
@[go_sem] theorem bJt(i o:Nat):aO prog 45 (.adr i o) 0=some (.adr i (o+0)):=by kernel_rfl
@[go_sem] theorem bJv(i o:Nat):aO prog 45 (.adr i o) 1=some (.adr i (o+1)):=by kernel_rfl
@[go_sem] theorem bJx(i o:Nat):aO prog 45 (.adr i o) 2=some (.adr i (o+2)):=by kernel_rfl
@[go_sem] theorem bQ3(H:aM)(x0 x1 x2:AV)(xs:List AV):dD prog H 23 (.ptr (x0::x1::x2::xs))=some (.agg [x0,x1,x2]):=by kernel_rfl
@[go_sem] theorem bQ7(H:aM)(x:AV)(xs:List AV):dD prog H 24 (.ptr (x::xs))=some x:=by kernel_rfl
@[go_sem] theorem bU7(H:aM)(x:AV)(xs:List AV):dD prog H 3 (.ptr (x::xs))=some x:=by kernel_rfl
@[go_sem] theorem bQv(H:aM)(x0 x1 x2 x3 x4 x5:AV)(xs:List AV):dD prog H 33 (.ptr (x0::x1::x2::x3::x4::x5::xs))=some (.agg [x0,x1,x2,x3,x4,x5]):=by kernel_rfl
@[go_sem] theorem bQz(H:aM)(x:AV)(xs:List AV):dD prog H 40 (.ptr (x::xs))=some x:=by kernel_rfl
@[go_sem] theorem bR1(H:aM)(x0 x1 x2:AV)(xs:List AV):dD prog H 42 (.ptr (x0::x1::x2::xs))=some (.agg [x0,x1,x2]):=by kernel_rfl
@[go_sem] theorem bR8(H:aM)(x:AV)(xs:List AV):dD prog H 43 (.ptr (x::xs))=some x:=by kernel_rfl
@[go_sem] theorem bRb(H:aM)(x0 x1 x2 x3:AV)(xs:List AV):dD prog H 45 (.ptr (x0::x1::x2::x3::xs))=some (.agg [x0,x1,x2,x3]):=by kernel_rfl
def aEe(rec1:aG→List dC→Int→Int→Option (Bool))(s_8:aG)(t35:List dC)(t36:Int)(t37:Int):Option (Bool):=
 (bif (decide (t37<t36)) then
  ((idx t35 t37).bind fun x12=>
  ((nF s_8 x12).bind fun ⟨r14,r15⟩=>
  ((xP r15).bind fun r17=>
  ((fG (((decide (0<r17))||((decide (4<x12.Do))&&(decide (x12.Do<15))))==true) false (aAb s_8 r14)).bind fun r19=>
  ((fG ((((decide (0<r17))||((decide (4<x12.Do))&&(decide (x12.Do<15))))&&(!r19))==false) 0 (xP r15)).bind fun r21=>
  ((fG (((((decide (0<r17))||((decide (4<x12.Do))&&(decide (x12.Do<15))))&&(!r19))||(((r21==0)&&(decide (4<x12.Do)))&&(decide (x12.Do<15))))==false) false (qW r14)).bind fun r23=>
  (bif (((((decide (0<r17))||((decide (4<x12.Do))&&(decide (x12.Do<15))))&&(!r19))||(((r21==0)&&(decide (4<x12.Do)))&&(decide (x12.Do<15))))||(!r23)) then
   some false
  else
   rec1 r14 t35 t36 (IntKind.i64.wrap (t37+1)))))))))
 else
  ((aB5).bind fun r25=>
  some r25))
def vN:Nat→aG→List dC→Int→Int→Option (Bool)
 |0=>fun _ _ _ _=>none
 |n+1=>aEe (vN n)
def yJ(c_0:bY)(bHi:List Int)(l_2:List dC):Option (Bool):=
 ((tN c_0 l_2 40).bind fun r2=>
 ((sE c_0 (cL.mk bHi 0)).bind fun ⟨r4,r5,r6⟩=>
 (bif ((decide (r2<0))||(r6 !=0)) then
  ((aB5).bind fun r8=>
  some r8)
 else
  ((slc l_2 0 r2).bind fun l10=>
  vN bC r4 l10 (l10.length:Int) 0))))
theorem aKx:K3 prog aFd (vl (ci .u64)) (vl mF) vb 7 yJ:=by
 intro c_0 bHi l_2 r hm
 let I1:=((fun m s=> ∃s_8 t35 t36 t37,s=⟨89,(aF (aF (aF (aF fa 8 (.adr 1 0)) 35 (vl mF t35)) 36 (vi t36)) 37 (vi t37)),⟨(upd bQ 1 (.cells 1 [vi s_8.Graph.Config.N,vi s_8.Graph.Config.L,vi s_8.Graph.Config.R,vl dX s_8.Graph.Hashes,vl bE s_8.Graph.Edges,vl bH s_8.Slots] 0)),64⟩⟩∧vN m s_8 t35 t36 t37=some r):Nat→St→Prop)
 exact be 89 func7 (h:=G)
instance:Ct prog 7 (K3 prog aFd (vl (ci .u64)) (vl mF) vb 7 yJ):=⟨aKx⟩
attribute [local semireducible] bC
end Go.Proofs.YtkdohhmacfoolaaGreat
