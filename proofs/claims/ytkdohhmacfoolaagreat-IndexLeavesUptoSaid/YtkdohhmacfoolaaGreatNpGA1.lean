/- Facts. No condition. -/
import Derived.Test.YtkdohhmacfoolaaGreatNpOf
import Derived.Test.YtkdohhmacfoolaaGreatNpAmF
set_option linter.unusedVariables false
set_option linter.unusedSimpArgs false
set_option maxRecDepth 20000
set_option maxHeartbeats 4000000
namespace Go.Proofs.YtkdohhmacfoolaaGreat
open Go.Proofs.Tryz Go Go.AM
attribute [local irreducible] bC
def bLr:ByteArray:=⟨#[0,1,2,2,3,3,3,3,4,4,4,4,4,4,4,4,5,5,5,5,5,5,5,5,5,5,5,5,5,5,5,5,6,6,6,6,6,6,6,6,6,6,6,6,6,6,6,6,6,6,6,6,6,6,6,6,6,6,6,6,6,6,6,6,7,7,7,7,7,7,7,7,7,7,7,7,7,7,7,7,7,7,7,7,7,7,7,7,7,7,7,7,7,7,7,7,7,7,7,7,7,7,7,7,7,7,7,7,7,7,7,7,7,7,7,7,7,7,7,7,7,7,7,7,7,7,7,7,8,8,8,8,8,8,8,8,8,8,8,8,8,8,8,8,8,8,8,8,8,8,8,8,8,8,8,8,8,8,8,8,8,8,8,8,8,8,8,8,8,8,8,8,8,8,8,8,8,8,8,8,8,8,8,8,8,8,8,8,8,8,8,8,8,8,8,8,8,8,8,8,8,8,8,8,8,8,8,8,8,8,8,8,8,8,8,8,8,8,8,8,8,8,8,8,8,8,8,8,8,8,8,8,8,8,8,8,8,8,8,8,8,8,8,8,8,8,8,8,8,8,8,8,8,8,8,8]⟩
structure dI where
 A:Int
 B:Int
deriving DecidableEq
def dX(e:dI):List AV:=[.v (.int .u64 e.A),.v (.int .u64 e.B)]
theorem nR:CF dX 2:=⟨fun _=>rfl,fun a x hx=>by
 simp only [dX,List.mem_cons,List.not_mem_nil,or_false] at hx;rcases hx with rfl|rfl
 · exact (.v _)
 · exact (.v _),fun _=>rfl⟩
instance:CC dX 2:=⟨nR⟩
abbrev aYc(e:dI):AV:= .agg [.v (.int .u64 e.A),vu e.B]
instance:CE prog 27 dX 2 (dI.mk 0 0):=⟨_,underlying27,bBc,bBt,inferInstance,nR,by decide,by decide⟩
@[go_sem] theorem bCh(e:dI)(r:List AV):dX e++r= .v (.int .u64 e.A):: .v (.int .u64 e.B)::r:=rfl
structure bY where
 N:Int
 L:Int
 R:Int
deriving DecidableEq
def aGq(e:bY):List AV:=[.v (.int .i64 e.N),.v (.int .i64 e.L),.v (.int .i64 e.R)]
theorem aO4:CF aGq 3:=⟨fun _=>rfl,fun a x hx=>by
 simp only [aGq,List.mem_cons,List.not_mem_nil,or_false] at hx;rcases hx with rfl|rfl|rfl
 · exact (.v _)
 · exact (.v _)
 · exact (.v _),fun _=>rfl⟩
instance:CC aGq 3:=⟨aO4⟩
abbrev aFd(e:bY):AV:= .agg [.v (.int .i64 e.N),vi e.L,vi e.R]
@[go_sem] theorem aWg(e:bY)(r:List AV):aGq e++r= .v (.int .i64 e.N):: .v (.int .i64 e.L):: .v (.int .i64 e.R)::r:=rfl
structure aU where
 Config:bY
 Hashes:List dI
 Edges:List aH
deriving DecidableEq
def aR7(e:aU):List AV:=[.v (.int .i64 e.Config.N),.v (.int .i64 e.Config.L),.v (.int .i64 e.Config.R),.sl (e.Hashes.flatMap dX) e.Hashes.length false,.sl (e.Edges.flatMap bE) e.Edges.length false]
theorem bKt:CF aR7 5:=⟨fun _=>rfl,fun a x hx=>by
 simp only [aR7,List.mem_cons,List.not_mem_nil,or_false] at hx;rcases hx with rfl|rfl|rfl|rfl|rfl
 · exact (.v _)
 · exact (.v _)
 · exact (.v _)
 · exact (nR.sl _ _ _)
 · exact (dT.sl _ _ _),fun _=>rfl⟩
instance:CC aR7 5:=⟨bKt⟩
abbrev fX(e:aU):AV:= .agg [.v (.int .i64 e.Config.N),vi e.Config.L,vi e.Config.R,vl dX e.Hashes,vl bE e.Edges]
@[go_sem] theorem aZ5(e:aU)(r:List AV):aR7 e++r= .v (.int .i64 e.Config.N):: .v (.int .i64 e.Config.L):: .v (.int .i64 e.Config.R):: .sl (e.Hashes.flatMap dX) e.Hashes.length false:: .sl (e.Edges.flatMap bE) e.Edges.length false::r:=rfl
theorem bIa(x0 y0 x1 y1 x2 y2:Int):mE prog .eql 102 (.agg [.v (.int .i64 x0),.v (.int .i64 x1),.v (.int .i64 x2)]) (.agg [.v (.int .i64 y0),.v (.int .i64 y1),.v (.int .i64 y2)])=some (.v (.bool ((x0==y0)&&((x1==y1)&&(x2==y2))))):=
 (by kernel_rfl:mE prog .eql 102 (.agg [.v (.int .i64 x0),.v (.int .i64 x1),.v (.int .i64 x2)]) (.agg [.v (.int .i64 y0),.v (.int .i64 y1),.v (.int .i64 y2)])=some (.v (.bool ((x0==y0)&&((x1==y1)&&((x2==y2)&&true)))))).trans (by rw [Bool.and_true])
theorem bK9(x0 y0 x1 y1 x2 y2:Int):mE prog .neq 102 (.agg [.v (.int .i64 x0),.v (.int .i64 x1),.v (.int .i64 x2)]) (.agg [.v (.int .i64 y0),.v (.int .i64 y1),.v (.int .i64 y2)])=some (.v (.bool (!((x0==y0)&&((x1==y1)&&(x2==y2)))))):=
 (by kernel_rfl:mE prog .neq 102 (.agg [.v (.int .i64 x0),.v (.int .i64 x1),.v (.int .i64 x2)]) (.agg [.v (.int .i64 y0),.v (.int .i64 y1),.v (.int .i64 y2)])=some (.v (.bool (!((x0==y0)&&((x1==y1)&&((x2==y2)&&true))))))).trans (by rw [Bool.and_true])
attribute [go_sem] bIa bK9
theorem bIb(x0 y0 x1 y1:Int):mE prog .eql 120 (.agg [.v (.int .u64 x0),.v (.int .u64 x1)]) (.agg [.v (.int .u64 y0),.v (.int .u64 y1)])=some (.v (.bool ((x0==y0)&&(x1==y1)))):=
 (by kernel_rfl:mE prog .eql 120 (.agg [.v (.int .u64 x0),.v (.int .u64 x1)]) (.agg [.v (.int .u64 y0),.v (.int .u64 y1)])=some (.v (.bool ((x0==y0)&&((x1==y1)&&true))))).trans (by rw [Bool.and_true])
theorem bKa(x0 y0 x1 y1:Int):mE prog .neq 120 (.agg [.v (.int .u64 x0),.v (.int .u64 x1)]) (.agg [.v (.int .u64 y0),.v (.int .u64 y1)])=some (.v (.bool (!((x0==y0)&&(x1==y1))))):=
 (by kernel_rfl:mE prog .neq 120 (.agg [.v (.int .u64 x0),.v (.int .u64 x1)]) (.agg [.v (.int .u64 y0),.v (.int .u64 y1)])=some (.v (.bool (!((x0==y0)&&((x1==y1)&&true)))))).trans (by rw [Bool.and_true])
attribute [go_sem] bIb bKa
theorem bM4(x0 y0 x1 y1 x2 y2:Int):mE prog .eql 23 (.agg [.v (.int .i64 x0),.v (.int .i64 x1),.v (.int .i64 x2)]) (.agg [.v (.int .i64 y0),.v (.int .i64 y1),.v (.int .i64 y2)])=some (.v (.bool ((x0==y0)&&((x1==y1)&&(x2==y2))))):=
 (by kernel_rfl:mE prog .eql 23 (.agg [.v (.int .i64 x0),.v (.int .i64 x1),.v (.int .i64 x2)]) (.agg [.v (.int .i64 y0),.v (.int .i64 y1),.v (.int .i64 y2)])=some (.v (.bool ((x0==y0)&&((x1==y1)&&((x2==y2)&&true)))))).trans (by rw [Bool.and_true])
theorem bNu(x0 y0 x1 y1 x2 y2:Int):mE prog .neq 23 (.agg [.v (.int .i64 x0),.v (.int .i64 x1),.v (.int .i64 x2)]) (.agg [.v (.int .i64 y0),.v (.int .i64 y1),.v (.int .i64 y2)])=some (.v (.bool (!((x0==y0)&&((x1==y1)&&(x2==y2)))))):=
 (by kernel_rfl:mE prog .neq 23 (.agg [.v (.int .i64 x0),.v (.int .i64 x1),.v (.int .i64 x2)]) (.agg [.v (.int .i64 y0),.v (.int .i64 y1),.v (.int .i64 y2)])=some (.v (.bool (!((x0==y0)&&((x1==y1)&&((x2==y2)&&true))))))).trans (by rw [Bool.and_true])
attribute [go_sem] bM4 bNu
@[go_sem] theorem bD3(xs:List AV):aO prog 102 (.ptr (xs)) 0=some (.ptr xs):=by kernel_rfl
@[go_sem] theorem bD4(x0:AV)(xs:List AV):aO prog 102 (.ptr (x0::xs)) 1=some (.ptr xs):=by kernel_rfl
@[go_sem] theorem bD5(x0:AV)(x1:AV)(xs:List AV):aO prog 102 (.ptr (x0::x1::xs)) 2=some (.ptr xs):=by kernel_rfl
@[go_sem] theorem bDi(i o:Nat):aO prog 102 (.adr i o) 0=some (.adr i (o+0)):=by kernel_rfl
@[go_sem] theorem bDo(i o:Nat):aO prog 102 (.adr i o) 1=some (.adr i (o+1)):=by kernel_rfl
@[go_sem] theorem bDu(i o:Nat):aO prog 102 (.adr i o) 2=some (.adr i (o+2)):=by kernel_rfl
@[go_sem] theorem bE2(i o:Nat):aO prog 120 (.adr i o) 0=some (.adr i (o+0)):=by kernel_rfl
@[go_sem] theorem bE5(i o:Nat):aO prog 120 (.adr i o) 1=some (.adr i (o+1)):=by kernel_rfl
@[go_sem] theorem bIf(i o:Nat):aO prog 23 (.adr i o) 0=some (.adr i (o+0)):=by kernel_rfl
@[go_sem] theorem bIm(i o:Nat):aO prog 23 (.adr i o) 1=some (.adr i (o+1)):=by kernel_rfl
@[go_sem] theorem bIs(i o:Nat):aO prog 23 (.adr i o) 2=some (.adr i (o+2)):=by kernel_rfl
@[go_sem] theorem bIx(i o:Nat):aO prog 30 (.adr i o) 0=some (.adr i (o+0)):=by kernel_rfl
@[go_sem] theorem bJ3(i o:Nat):aO prog 30 (.adr i o) 1=some (.adr i (o+3)):=by kernel_rfl
@[go_sem] theorem bJ7(i o:Nat):aO prog 30 (.adr i o) 2=some (.adr i (o+4)):=by kernel_rfl
@[go_sem] theorem bMy(H:aM)(x0 x1 x2:AV)(xs:List AV):dD prog H 102 (.ptr (x0::x1::x2::xs))=some (.agg [x0,x1,x2]):=by kernel_rfl
@[go_sem] theorem bN7(H:aM)(x0 x1:AV)(xs:List AV):dD prog H 120 (.ptr (x0::x1::xs))=some (.agg [x0,x1]):=by kernel_rfl
@[go_sem] theorem bPz(H:aM)(x0 x1 x2:AV)(xs:List AV):dD prog H 23 (.ptr (x0::x1::x2::xs))=some (.agg [x0,x1,x2]):=by kernel_rfl
@[go_sem] theorem bQ8(H:aM)(x:AV)(xs:List AV):dD prog H 27 (.ptr (x::xs))=some x:=by kernel_rfl
@[go_sem] theorem bQc(H:aM)(x:AV)(xs:List AV):dD prog H 28 (.ptr (x::xs))=some x:=by kernel_rfl
@[go_sem] theorem bU0(H:aM)(x:AV)(xs:List AV):dD prog H 3 (.ptr (x::xs))=some x:=by kernel_rfl
@[go_sem] theorem bQi(H:aM)(x0 x1 x2 x3 x4:AV)(xs:List AV):dD prog H 30 (.ptr (x0::x1::x2::x3::x4::xs))=some (.agg [x0,x1,x2,x3,x4]):=by kernel_rfl
@[go_sem] theorem bR2(H:aM)(x:AV)(xs:List AV):dD prog H 43 (.ptr (x::xs))=some x:=by kernel_rfl
@[go_sem] theorem bCp(H:aM)(k:IntKind)(n:Int):rO prog H 3 198 (.v (.int k n))=some (.v (.int .u64 (IntKind.u64.wrap n))):=mG underlying3 underlying198
@[go_sem] theorem bLx(H:aM)(k:IntKind)(n:Int):rO prog H 5 3 (.v (.int k n))=some (.v (.int .i64 (IntKind.i64.wrap n))):=mG underlying5 underlying3
@[go_sem] theorem bI5(H:aM)(k:IntKind)(n:Int):rO prog H 43 5 (.v (.int k n))=some (.v (.int .u8 (IntKind.u8.wrap n))):=mG underlying43 underlying5
def aI9(rec1:List dI→List dI→Int→Option (Bool))(a_0:List dI)(b_1:List dI)(i_5:Int):Option (Bool):=
 (bif (decide (i_5<(a_0.length:Int))) then
  ((idx a_0 i_5).bind fun x2=>
  ((idx b_1 i_5).bind fun x4=>
  (bif (!((x2.A==x4.A)&&(x2.B==x4.B))) then
   some false
  else
   rec1 a_0 b_1 (IntKind.i64.wrap (i_5+1)))))
 else
  some true)
def aBe:Nat→List dI→List dI→Int→Option (Bool)
 |0=>fun _ _ _=>none
 |n+1=>aI9 (aBe n)
def aCz(a_0:List dI)(b_1:List dI):Option (Bool):=
 (bif ((a_0.length:Int) !=(b_1.length:Int)) then
  some false
 else
  aBe bC a_0 b_1 0)
theorem bB0:K2 prog (vl dX) (vl dX) vb 64 aCz:=by
 intro a_0 b_1 r hm
 let I1:=((fun m s=> ∃a_0 b_1 i_5,s=⟨26,(aF (aF (aF fa 0 (vl dX a_0)) 1 (vl dX b_1)) 5 (vi i_5)),⟨bQ,64⟩⟩∧aBe m a_0 b_1 i_5=some r):Nat→St→Prop)
 exact be 26 func64 (h:=G)
instance:Ct prog 64 (K2 prog (vl dX) (vl dX) vb 64 aCz):=⟨bB0⟩
def aI6(rec1:List aH→List aH→Int→Option (Bool))(a_0:List aH)(b_1:List aH)(i_5:Int):Option (Bool):=
 (bif (decide (i_5<(a_0.length:Int))) then
  ((idx a_0 i_5).bind fun x2=>
  ((idx b_1 i_5).bind fun x4=>
  (bif (!((x2.U==x4.U)&&((x2.V==x4.V)&&(x2.Tier==x4.Tier)))) then
   some false
  else
   rec1 a_0 b_1 (IntKind.i64.wrap (i_5+1)))))
 else
  some true)
def aBc:Nat→List aH→List aH→Int→Option (Bool)
 |0=>fun _ _ _=>none
 |n+1=>aI6 (aBc n)
def aCx(a_0:List aH)(b_1:List aH):Option (Bool):=
 (bif ((a_0.length:Int) !=(b_1.length:Int)) then
  some false
 else
  aBc bC a_0 b_1 0)
theorem bAy:K2 prog (vl bE) (vl bE) vb 65 aCx:=by
 intro a_0 b_1 r hm
 let I1:=((fun m s=> ∃a_0 b_1 i_5,s=⟨26,(aF (aF (aF fa 0 (vl bE a_0)) 1 (vl bE b_1)) 5 (vi i_5)),⟨bQ,64⟩⟩∧aBc m a_0 b_1 i_5=some r):Nat→St→Prop)
 exact be 26 func65 (h:=G)
instance:Ct prog 65 (K2 prog (vl bE) (vl bE) vb 65 aCx):=⟨bAy⟩
def aD0(a_0:aU)(b_1:aU):Option (Bool):=
 ((fG (((a_0.Config.N==b_1.Config.N)&&((a_0.Config.L==b_1.Config.L)&&(a_0.Config.R==b_1.Config.R)))==true) false (aCz a_0.Hashes b_1.Hashes)).bind fun r2=>
 ((fG ((((a_0.Config.N==b_1.Config.N)&&((a_0.Config.L==b_1.Config.L)&&(a_0.Config.R==b_1.Config.R)))&&r2)==true) false (aCx a_0.Edges b_1.Edges)).bind fun r4=>
 some ((((a_0.Config.N==b_1.Config.N)&&((a_0.Config.L==b_1.Config.L)&&(a_0.Config.R==b_1.Config.R)))&&r2)&&r4)))
theorem bB1:K2 prog fX fX vb 24 aD0:=fun hm=>be 24 func24 (h:=G)
instance:Ct prog 24 (K2 prog fX fX vb 24 aD0):=⟨bB1⟩
def aXs(rec1:List Int→List Int→Int→Option (Bool))(a_0:List Int)(b_1:List Int)(i_5:Int):Option (Bool):=
 (bif (decide (i_5<(a_0.length:Int))) then
  ((idx a_0 i_5).bind fun x2=>
  ((idx b_1 i_5).bind fun x4=>
  (bif (x2 !=x4) then
   some false
  else
   rec1 a_0 b_1 (IntKind.i64.wrap (i_5+1)))))
 else
  some true)
def aI7:Nat→List Int→List Int→Int→Option (Bool)
 |0=>fun _ _ _=>none
 |n+1=>aXs (aI7 n)
def aJz(a_0:List Int)(b_1:List Int):Option (Bool):=
 (bif ((a_0.length:Int) !=(b_1.length:Int)) then
  some false
 else
  aI7 bC a_0 b_1 0)
theorem aQ1:K2 prog (vl (ci .u64)) (vl (ci .u64)) vb 33 aJz:=by
 intro a_0 b_1 r hm
 let I1:=((fun m s=> ∃a_0 b_1 i_5,s=⟨26,(aF (aF (aF fa 0 (vl (ci .u64) a_0)) 1 (vl (ci .u64) b_1)) 5 (vi i_5)),⟨bQ,64⟩⟩∧aI7 m a_0 b_1 i_5=some r):Nat→St→Prop)
 exact be 26 func33 (h:=G)
instance:Ct prog 33 (K2 prog (vl (ci .u64)) (vl (ci .u64)) vb 33 aJz):=⟨aQ1⟩
def mO(l:List dI):Option (List dI):=aW9 16 [] l
theorem aM5{r:List dI}(hm:some []=some r):kJ prog 69 [.v (.slice none 0 0)] 2 (r.flatMap dX) r.length:=by
 refine kJ.of_body func69 rfl (nR.fmdat r) ?_;simp only [ntmps69,List.length_cons,List.length_nil,Nat.reduceAdd,Nat.reduceSub,nB];refine sN 64 (pA ?_);refine fs (AWp.seq' (sN 128 (pA ?_)));refine pu rfl (aDa Z1 Z1 (aMg underlying27)) ?_;refine fs (AWp.condT Z1 ?_);refine sN 192 (pA ?_);refine fs (AWp.weaken (aHr 2 900002 2 Z1 Z5) ?_);refine AWp.ret (lA ?_);cases hm;exact aNh (.inr rfl) Tryz.results69 Z1 Z3 Z6
theorem aM6{a:Addr}{c:Nat}{r:List dI}(hm:((aW9 16 [] []).bind fun l2=>
some l2)=some r):kJ prog 69 [.v (.slice (some a) 0 c)] 2 (r.flatMap dX) r.length:=by
 refine kJ.of_body func69 rfl (nR.fmdat r) ?_;simp only [ntmps69,List.length_cons,List.length_nil,Nat.reduceAdd,Nat.reduceSub,nB];refine sN 64 (pA ?_);refine fs (AWp.seq' (sN 128 (pA ?_)));refine pu rfl (aDa Z1 Z1 (aKh underlying27)) ?_;refine fs (AWp.condF Z1 ?_);refine AWp.skip (aV (sN 192 (hp (id:=128) rfl rfl (qN nR (l:=[]) underlying27 bBc bBt Z5 Zd Zd Zd (by simp only [go_sem,Nat.reduceBEq];try rfl) (by kernel_rfl)) ?_)));refine pA ?_;obtain ⟨l2,h1,hm⟩:=bnd hm;refine hp (id:=130) rfl rfl (bFt nR underlying27 underlying27 rfl bGk bHe aQh (by rw [aQh];decide) bHg Zd Zd Z1 Z3 Z6 (aR4 Z1) rfl Z5 h1) ?_;refine pA ?_;refine fs (AWp.ret ?_);cases hm;exact aNh (.inr rfl) Tryz.results69 Z1 Z3 Z6
theorem aM7{x0:dI}{l0:List dI}{r:List dI}(hm:((aW9 16 [] (x0::l0)).bind fun l2=>
some l2)=some r):kJ prog 69 [.sl ((x0::l0).flatMap dX) (x0::l0).length false] 2 (r.flatMap dX) r.length:=by
 refine kJ.of_body func69 rfl (nR.fmdat r) ?_;simp only [ntmps69,List.length_cons,List.length_nil,Nat.reduceAdd,Nat.reduceSub,nB];refine sN 64 (pA ?_);refine fs (AWp.seq' (sN 128 (pA ?_)));refine pu rfl (aDa Z1 Z1 (aKg underlying27 (by simp))) ?_;refine fs (AWp.condF Z1 ?_);refine AWp.skip (aV (sN 192 (hp (id:=128) rfl rfl (qN nR (l:=[]) underlying27 bBc bBt Z5 Zd Zd Zd (by simp only [go_sem,Nat.reduceBEq];try rfl) (by kernel_rfl)) ?_)));refine pA ?_;obtain ⟨l2,h1,hm⟩:=bnd hm;refine hp (id:=130) rfl rfl (bFt nR underlying27 underlying27 rfl bGk bHe aQh (by rw [aQh];decide) bHg Zd Zd Z1 Z3 Z6 (aUr nR Z1 rfl) rfl Z5 h1) ?_;refine pA ?_;refine fs (AWp.ret ?_);cases hm;exact aNh (.inr rfl) Tryz.results69 Z1 Z3 Z6
theorem aNq{l r:List dI}(hm:mO l=some r):kJ prog 69 [.sl (l.flatMap dX) l.length false] 2 (r.flatMap dX) r.length:=by
 cases l with
 |nil=>
  have hr:r=[]:=by unfold mO aW9 at hm;simpa using hm.symm
  subst hr;exact kJ.nil_arg (aM5 (r:=[]) rfl) (fun a c=>aM6 (r:=[]) rfl)
 |cons x0 l0=>
  refine aM7 ?_;show (aW9 16 [] (x0::l0)).bind _=_;unfold mO at hm;rw [hm];rfl
theorem aNp{l r:List dI}(hm:mO l=some r):dU prog 69 [.sl (l.flatMap dX) l.length false] (.sl (r.flatMap dX) r.length false):=dU.of_fresh nR (aNq hm)
instance:Ct prog 69 (K1 prog (vl dX) (vl dX) 69 mO):=⟨fun hm=>aNp hm⟩
def vF(bOk:Int):Option (Bool):=
 some ((decide (0≤bOk))&&(decide (bOk≤16)))
theorem aLg:K1 prog vi vb 120 vF:=fun hm=>be 9 func120 (h:=G)
instance:Ct prog 120 (K1 prog vi vb 120 vF):=⟨aLg⟩
def zT(a_0:aH)(b_1:aH):Option (Bool):=
 some ((decide (a_0.U<b_1.U))||((a_0.U==b_1.U)&&(decide (a_0.V<b_1.V))))
theorem aSk:K2 prog aIo aIo vb 121 zT:=fun hm=>be 24 func121 (h:=G)
instance:Ct prog 121 (K2 prog aIo aIo vb 121 zT):=⟨aSk⟩
def aGk(rec1:Int→List aH→List aH→Int→Int→Option (Bool))(n_0:Int)(l_1:List aH)(t13:List aH)(t14:Int)(t15:Int):Option (Bool):=
 (bif (decide (t15<t14)) then
  ((idx t13 t15).bind fun x2=>
  ((fG ((((decide (x2.U<0))||(decide (x2.V≤x2.U)))||(decide (n_0≤x2.V)))==false) false (vF x2.Tier)).bind fun r4=>
  (bif ((((decide (x2.U<0))||(decide (x2.V≤x2.U)))||(decide (n_0≤x2.V)))||(!r4)) then
   some false
  else
   ((fG ((decide (0<t15))==true) (aH.mk 0 0 0) (idx l_1 (IntKind.i64.wrap (t15-1)))).bind fun x6=>
   ((fG ((decide (0<t15))==true) false (zT x6 x2)).bind fun r8=>
   (bif ((decide (0<t15))&&(!r8)) then
    some false
   else
    rec1 n_0 l_1 t13 t14 (IntKind.i64.wrap (t15+1))))))))
 else
  some true)
def zI:Nat→Int→List aH→List aH→Int→Int→Option (Bool)
 |0=>fun _ _ _ _ _=>none
 |n+1=>aGk (zI n)
def oE(n_0:Int)(l_1:List aH):Option (Bool):=
 (bif ((decide (n_0<0))||(decide (1024<n_0))) then
  some false
 else
  zI bC n_0 l_1 l_1 (l_1.length:Int) 0)
theorem aE6:K2 prog vi (vl bE) vb 89 oE:=by
 intro n_0 l_1 r hm
 let I1:=((fun m s=> ∃n_0 l_1 t13 t14 t15,s=⟨55,(aF (aF (aF (aF (aF fa 0 (vi n_0)) 1 (vl bE l_1)) 13 (vl bE t13)) 14 (vi t14)) 15 (vi t15)),⟨bQ,64⟩⟩∧zI m n_0 l_1 t13 t14 t15=some r):Nat→St→Prop)
 exact be 55 func89 (h:=G)
instance:Ct prog 89 (K2 prog vi (vl bE) vb 89 oE):=⟨aE6⟩
abbrev aF9(rec1:Int→List aH→List aH→Int→Int→Option ((List aH)))(aFa:Int)(aB0:List aH)(t14:List aH)(t15:Int)(t16:Int):Option ((List aH)):=
 rec1 aFa aB0 t14 t15 (IntKind.i64.wrap (t16+1))
def aF8(rec1:Int→List aH→List aH→Int→Int→Option ((List aH)))(aFa:Int)(aB0:List aH)(t14:List aH)(t15:Int)(t16:Int):Option ((List aH)):=
 (bif (decide (t16<t15)) then
  ((idx t14 t16).bind fun x4=>
  (bif ((decide (1≤x4.Tier))&&(decide (x4.Tier≤aFa))) then
   ((app aB0 [x4]).bind fun l6=>
   aF9 rec1 aFa l6 t14 t15 t16)
  else
   aF9 rec1 aFa aB0 t14 t15 t16))
 else
  some aB0)
def wP:Nat→Int→List aH→List aH→Int→Int→Option ((List aH))
 |0=>fun _ _ _ _ _=>none
 |n+1=>aF8 (wP n)
def nY(n_0:Int)(l_1:List aH)(aFa:Int):Option ((List aH)):=
 ((oE n_0 l_1).bind fun r2=>
 (bif (!r2) then
  some []
 else
  wP bC aFa [] l_1 (l_1.length:Int) 0))
theorem aLf:K3 prog vi (vl bE) vi (vl bE) 91 nY:=by
 intro n_0 l_1 aFa r hm
 let I1:=((fun m s=> ∃aFa aB0 t14 t15 t16,s=⟨35,(aF (aF (aF (aF (aF fa 2 (vi aFa)) 7 (.own 1 0 aB0.length)) 14 (vl bE t14)) 15 (vi t15)) 16 (vi t16)),⟨(upd bQ 1 (.cells 3 (aB0.flatMap bE) 0)),64⟩⟩∧wP m aFa aB0 t14 t15 t16=some r):Nat→St→Prop)
 exact be 35 func91 (h:=G)
instance:Ct prog 91 (K3 prog vi (vl bE) vi (vl bE) 91 nY):=⟨aLf⟩
def aI0(rec1:List Int→List Int→Int→Int→Option (Bool))(p_0:List Int)(t5:List Int)(t6:Int)(t7:Int):Option (Bool):=
 (bif (decide (t7<t6)) then
  ((idx t5 t7).bind fun x2=>
  ((nN (p_0.length:Int) x2).bind fun r4=>
  ((fG (((!r4)||(decide (t7<x2)))==false) 0 (idx p_0 x2)).bind fun x6=>
  (bif (((!r4)||(decide (t7<x2)))||(x6 !=x2)) then
   some false
  else
   rec1 p_0 t5 t6 (IntKind.i64.wrap (t7+1))))))
 else
  some true)
def aBb:Nat→List Int→List Int→Int→Int→Option (Bool)
 |0=>fun _ _ _ _=>none
 |n+1=>aI0 (aBb n)
def aAc(p_0:List Int):Option (Bool):=
 aBb bC p_0 p_0 (p_0.length:Int) 0
theorem bAq:K1 prog (vl (ci .i64)) vb 102 aAc:=by
 intro p_0 r hm
 let I1:=((fun m s=> ∃p_0 t5 t6 t7,s=⟨31,(aF (aF (aF (aF fa 0 (vl (ci .i64) p_0)) 5 (vl (ci .i64) t5)) 6 (vi t6)) 7 (vi t7)),⟨bQ,64⟩⟩∧aBb m p_0 t5 t6 t7=some r):Nat→St→Prop)
 exact be 31 func102 (h:=G)
instance:Ct prog 102 (K1 prog (vl (ci .i64)) vb 102 aAc):=⟨bAq⟩
abbrev aJu(rec1:Int→List Int→Int→Int→Option (Int))(aJk:Int)(t9:List Int)(t10:Int)(t11:Int):Option (Int):=
 rec1 aJk t9 t10 (IntKind.i64.wrap (t11+1))
def aJt(rec1:Int→List Int→Int→Int→Option (Int))(aJk:Int)(t9:List Int)(t10:Int)(t11:Int):Option (Int):=
 (bif (decide (t11<t10)) then
  ((idx t9 t11).bind fun x4=>
  (bif (t11==x4) then
   aJu rec1 (IntKind.i64.wrap (aJk+1)) t9 t10 t11
  else
   aJu rec1 aJk t9 t10 t11))
 else
  some aJk)
def aCv:Nat→Int→List Int→Int→Int→Option (Int)
 |0=>fun _ _ _ _=>none
 |n+1=>aJt (aCv n)
def aEy(p_0:List Int):Option (Int):=
 ((aAc p_0).bind fun r2=>
 (bif (!r2) then
  some 0
 else
  aCv bC 0 p_0 (p_0.length:Int) 0))
theorem bF3:K1 prog (vl (ci .i64)) vi 122 aEy:=by
 intro p_0 r hm
 let I1:=((fun m s=> ∃aJk t9 t10 t11,s=⟨23,(aF (aF (aF (aF fa 3 (vi aJk)) 9 (vl (ci .i64) t9)) 10 (vi t10)) 11 (vi t11)),⟨bQ,64⟩⟩∧aCv m aJk t9 t10 t11=some r):Nat→St→Prop)
 exact be 23 func122 (h:=G)
instance:Ct prog 122 (K1 prog (vl (ci .i64)) vi 122 aEy):=⟨bF3⟩
def tJ(n_0:Int)(l_1:List aH):Option (Bool):=
 ((yV n_0 l_1).bind fun ⟨r2,r3⟩=>
 ((fG ((r3==0)==true) 0 (aEy r2)).bind fun r5=>
 some ((r3==0)&&(r5==(IntKind.i64.wrap (n_0-(l_1.length:Int)))))))
theorem aMy:K2 prog vi (vl bE) vb 90 tJ:=fun hm=>be 24 func90 (h:=G)
instance:Ct prog 90 (K2 prog vi (vl bE) vb 90 tJ):=⟨aMy⟩
def aF1(rec2:aU→bY→List aH→Int→Int→Option (Bool))(g_1:aU)(c_3:bY)(t70:List aH)(t71:Int)(t72:Int):Option (Bool):=
 (bif (decide (t72<t71)) then
  ((idx t70 t72).bind fun x6=>
  (bif (decide (c_3.L<x6.Tier)) then
   some false
  else
   rec2 g_1 c_3 t70 t71 (IntKind.i64.wrap (t72+1))))
 else
  ((nY c_3.N g_1.Edges c_3.L).bind fun r8=>
  ((tJ c_3.N r8).bind fun r10=>
  some r10)))
def wE:Nat→aU→bY→List aH→Int→Int→Option (Bool)
 |0=>fun _ _ _ _ _=>none
 |n+1=>aF1 (wE n)
def aF0(rec1:aU→bY→List dI→Int→Int→Option (Bool))(g_1:aU)(c_3:bY)(t48:List dI)(t49:Int)(t50:Int):Option (Bool):=
 (bif (decide (t50<t49)) then
  ((idx t48 t50).bind fun x2=>
  (bif ((decide (2305843009213693951≤x2.A))||(decide (2305843009213693951≤x2.B))) then
   some false
  else
   rec1 g_1 c_3 t48 t49 (IntKind.i64.wrap (t50+1))))
 else
  ((oE c_3.N g_1.Edges).bind fun r4=>
  (bif (!r4) then
   some false
  else
   wE bC g_1 c_3 g_1.Edges (g_1.Edges.length:Int) 0)))
def wC:Nat→aU→bY→List dI→Int→Int→Option (Bool)
 |0=>fun _ _ _ _ _=>none
 |n+1=>aF0 (wC n)
def lV(g_0:aU):Option (Bool):=
 (bif ((((((decide (g_0.Config.N<1))||(decide (1024<g_0.Config.N)))||(decide (g_0.Config.L<1)))||(decide (16<g_0.Config.L)))||(decide (g_0.Config.R<1)))||(decide (8<g_0.Config.R))) then
  some false
 else
  (bif ((g_0.Hashes.length:Int) !=(IntKind.i64.wrap (g_0.Config.L*g_0.Config.R))) then
   some false
  else
   wC bC g_0 g_0.Config g_0.Hashes (g_0.Hashes.length:Int) 0))
theorem aUb:K1 prog fX vb 49 lV:=by
 intro g_0 r hm
 let I1:=((fun m s=> ∃g_1 c_3 t48 t49 t50,s=⟨92,(aF (aF (aF (aF (aF fa 1 (.adr 1 0)) 3 (.adr 2 0)) 48 (vl dX t48)) 49 (vi t49)) 50 (vi t50)),⟨(upd (upd bQ 1 (.cells 1 [vi g_1.Config.N,vi g_1.Config.L,vi g_1.Config.R,vl dX g_1.Hashes,vl bE g_1.Edges] 0)) 2 (.cells 1 [vi c_3.N,vi c_3.L,vi c_3.R] 0)),64⟩⟩∧wC m g_1 c_3 t48 t49 t50=some r):Nat→St→Prop)
 let I2:=((fun m s=> ∃g_1 c_3 t70 t71 t72,s=⟨92,(aF (aF (aF (aF (aF fa 1 (.adr 1 0)) 3 (.adr 2 0)) 70 (vl bE t70)) 71 (vi t71)) 72 (vi t72)),⟨(upd (upd bQ 1 (.cells 1 [vi g_1.Config.N,vi g_1.Config.L,vi g_1.Config.R,vl dX g_1.Hashes,vl bE g_1.Edges] 0)) 2 (.cells 1 [vi c_3.N,vi c_3.L,vi c_3.R] 0)),64⟩⟩∧wE m g_1 c_3 t70 t71 t72=some r):Nat→St→Prop)
 exact be 92 func49 (h:=G)
instance:Ct prog 49 (K1 prog fX vb 49 lV):=⟨aUb⟩
def aFc(c_0:bY)(bMp:List dI):Option (aU×Int):=
 ((mO bMp).bind fun r2=>
 ((lV (aU.mk c_0 r2 [])).bind fun r4=>
 (bif (!r4) then
  some ((aU.mk (bY.mk 0 0 0) [] []),1)
 else
  some ((aU.mk c_0 r2 []),0))))
theorem aTc:K2 prog aFd (vl dX) (t2 fX vi) 36 aFc:=fun hm=>be 16 func36 (h:=G)
instance:Ct prog 36 (K2 prog aFd (vl dX) (t2 fX vi) 36 aFc):=⟨aTc⟩
def wT(g_0:aU):Option ((List Int)):=
 ((lV g_0).bind fun r2=>
 (bif (!r2) then
  some []
 else
  ((nY g_0.Config.N g_0.Edges g_0.Config.L).bind fun r4=>
  ((yV g_0.Config.N r4).bind fun ⟨r6,r7⟩=>
  some r6))))
theorem bBh:K1 prog fX (vl (ci .i64)) 73 wT:=fun hm=>be 25 func73 (h:=G)
instance:Ct prog 73 (K1 prog fX (vl (ci .i64)) 73 wT):=⟨bBh⟩
def aJn(rec1:Int→Int→List aH→Int→Int→Option (Int×Bool))(u_1:Int)(v_2:Int)(t10:List aH)(t11:Int)(t12:Int):Option (Int×Bool):=
 (bif (decide (t12<t11)) then
  ((idx t10 t12).bind fun x2=>
  (bif (((x2.U==u_1)&&(x2.V==v_2))||((x2.U==v_2)&&(x2.V==u_1))) then
   some (t12,true)
  else
   rec1 u_1 v_2 t10 t11 (IntKind.i64.wrap (t12+1))))
 else
  some (0,false))
def aCt:Nat→Int→Int→List aH→Int→Int→Option (Int×Bool)
 |0=>fun _ _ _ _ _=>none
 |n+1=>aJn (aCt n)
def tR(l_0:List aH)(u_1:Int)(v_2:Int):Option (Int×Bool):=
 aCt bC u_1 v_2 l_0 (l_0.length:Int) 0
theorem aHv:K3 prog (vl bE) vi vi (t2 vi vb) 74 tR:=by
 intro l_0 u_1 v_2 r hm
 let I1:=((fun m s=> ∃u_1 v_2 t10 t11 t12,s=⟨41,(aF (aF (aF (aF (aF fa 1 (vi u_1)) 2 (vi v_2)) 10 (vl bE t10)) 11 (vi t11)) 12 (vi t12)),⟨bQ,64⟩⟩∧aCt m u_1 v_2 t10 t11 t12=some r):Nat→St→Prop)
 exact be 41 func74 (h:=G)
instance:Ct prog 74 (K3 prog (vl bE) vi vi (t2 vi vb) 74 tR):=⟨aHv⟩
abbrev aHy(rec1:List Int→Int→List Int→List Int→Int→Int→Option ((List Int)))(p_0:List Int)(v_1:Int)(aDt:List Int)(t18:List Int)(t19:Int)(t20:Int):Option ((List Int)):=
 rec1 p_0 v_1 aDt t18 t19 (IntKind.i64.wrap (t20+1))
def aHx(rec1:List Int→Int→List Int→List Int→Int→Int→Option ((List Int)))(p_0:List Int)(v_1:Int)(aDt:List Int)(t18:List Int)(t19:Int)(t20:Int):Option ((List Int)):=
 (bif (decide (t20<t19)) then
  ((idx t18 t20).bind fun x6=>
  ((idx p_0 v_1).bind fun x8=>
  (bif (x6==x8) then
   ((app aDt [t20]).bind fun l10=>
   aHy rec1 p_0 v_1 l10 t18 t19 t20)
  else
   aHy rec1 p_0 v_1 aDt t18 t19 t20)))
 else
  some aDt)
def aBa:Nat→List Int→Int→List Int→List Int→Int→Int→Option ((List Int))
 |0=>fun _ _ _ _ _ _=>none
 |n+1=>aHx (aBa n)
def wA(p_0:List Int)(v_1:Int):Option ((List Int)):=
 ((aAc p_0).bind fun r2=>
 ((fG ((!r2)==false) false (nN (p_0.length:Int) v_1)).bind fun r4=>
 (bif ((!r2)||(!r4)) then
  some []
 else
  aBa bC p_0 v_1 [] p_0 (p_0.length:Int) 0)))
theorem bAo:K2 prog (vl (ci .i64)) vi (vl (ci .i64)) 78 wA:=by
 intro p_0 v_1 r hm
 let I1:=((fun m s=> ∃p_0 v_1 aDt t18 t19 t20,s=⟨37,(aF (aF (aF (aF (aF (aF fa 0 (vl (ci .i64) p_0)) 1 (vi v_1)) 5 (.own 1 0 aDt.length)) 18 (vl (ci .i64) t18)) 19 (vi t19)) 20 (vi t20)),⟨(upd bQ 1 (.cells 1 (aDt.flatMap (ci .i64)) 0)),64⟩⟩∧aBa m p_0 v_1 aDt t18 t19 t20=some r):Nat→St→Prop)
 exact be 37 func78 (h:=G)
instance:Ct prog 78 (K2 prog (vl (ci .i64)) vi (vl (ci .i64)) 78 wA):=⟨bAo⟩
def aGp(g_0:aU):Option ((List Int)):=
 ((lV g_0).bind fun r2=>
 (bif (!r2) then
  some []
 else
  ((yV g_0.Config.N g_0.Edges).bind fun ⟨r4,r5⟩=>
  some r4)))
theorem bHq:K1 prog fX (vl (ci .i64)) 109 aGp:=fun hm=>be 18 func109 (h:=G)
instance:Ct prog 109 (K1 prog fX (vl (ci .i64)) 109 aGp):=⟨bHq⟩
def aBl(rec1:List Int→List Int→Int→Int→Option (Bool))(aU8:List Int)(aXy:List Int)(t12:Int)(t13:Int):Option (Bool):=
 (bif (decide (t13<t12)) then
  ((idx aU8 t13).bind fun x2=>
  ((idx aXy t13).bind fun x4=>
  (bif (x2 !=x4) then
   some false
  else
   rec1 aU8 aXy t12 (IntKind.i64.wrap (t13+1)))))
 else
  some true)
def rW:Nat→List Int→List Int→Int→Int→Option (Bool)
 |0=>fun _ _ _ _=>none
 |n+1=>aBl (rW n)
def sT(aU8:List Int)(aXy:List Int):Option (Bool):=
 (bif ((aU8.length:Int) !=(aXy.length:Int)) then
  some false
 else
  rW bC aU8 aXy (aU8.length:Int) 0)
theorem aOy:K2 prog (vl (ci .i64)) (vl (ci .i64)) vb 108 sT:=by
 intro aU8 aXy r hm
 let I1:=((fun m s=> ∃aU8 aXy t12 t13,s=⟨26,(aF (aF (aF (aF fa 0 (vl (ci .i64) aU8)) 1 (vl (ci .i64) aXy)) 12 (vi t12)) 13 (vi t13)),⟨bQ,64⟩⟩∧rW m aU8 aXy t12 t13=some r):Nat→St→Prop)
 exact be 26 func108 (h:=G)
instance:Ct prog 108 (K2 prog (vl (ci .i64)) (vl (ci .i64)) vb 108 sT):=⟨aOy⟩
def aAo(g_0:aU):Option (Bool):=
 ((lV g_0).bind fun r2=>
 ((fG (r2==true) [] (wT g_0)).bind fun r4=>
 ((fG (r2==true) [] (aGp g_0)).bind fun r6=>
 ((fG (r2==true) false (sT r4 r6)).bind fun r8=>
 some (r2&&r8)))))
theorem aWd:K1 prog fX vb 81 aAo:=fun hm=>be 12 func81 (h:=G)
instance:Ct prog 81 (K1 prog fX vb 81 aAo):=⟨aWd⟩
def mH(n_0:Int)(v_1:Int):Option (Bool):=
 some ((decide (0≤v_1))&&(decide (v_1<n_0)))
theorem sI:K2 prog vi vi vb 135 mH:=fun hm=>be 12 func135 (h:=G)
instance:Ct prog 135 (K2 prog vi vi vb 135 mH):=⟨sI⟩
abbrev aE5(rec1:Int→List Int→List aH→Int→Int→Option ((List Int)))(v_2:Int)(aGd:List Int)(t20:List aH)(t21:Int)(t22:Int):Option ((List Int)):=
 rec1 v_2 aGd t20 t21 (IntKind.i64.wrap (t22+1))
def aIm(rec1:Int→List Int→List aH→Int→Int→Option ((List Int)))(v_2:Int)(aGd:List Int)(t20:List aH)(t21:Int)(t22:Int):Option ((List Int)):=
 (bif (decide (t22<t21)) then
  ((idx t20 t22).bind fun x6=>
  (bif (v_2==x6.U) then
   ((app aGd [x6.V]).bind fun l8=>
   aE5 rec1 v_2 l8 t20 t21 t22)
  else
   (bif (v_2==x6.V) then
    ((app aGd [x6.U]).bind fun l10=>
    aE5 rec1 v_2 l10 t20 t21 t22)
   else
    aE5 rec1 v_2 aGd t20 t21 t22)))
 else
  some aGd)
def aBn:Nat→Int→List Int→List aH→Int→Int→Option ((List Int))
 |0=>fun _ _ _ _ _=>none
 |n+1=>aIm (aBn n)
def aG5(n_0:Int)(l_1:List aH)(v_2:Int):Option ((List Int)):=
 ((oE n_0 l_1).bind fun r2=>
 ((fG ((!r2)==false) false (mH n_0 v_2)).bind fun r4=>
 (bif ((!r2)||(!r4)) then
  some []
 else
  aBn bC v_2 [] l_1 (l_1.length:Int) 0)))
theorem bBe:K3 prog vi (vl bE) vi (vl (ci .i64)) 101 aG5:=by
 intro n_0 l_1 v_2 r hm
 let I1:=((fun m s=> ∃v_2 aGd t20 t21 t22,s=⟨47,(aF (aF (aF (aF (aF fa 2 (vi v_2)) 7 (.own 1 0 aGd.length)) 20 (vl bE t20)) 21 (vi t21)) 22 (vi t22)),⟨(upd bQ 1 (.cells 1 (aGd.flatMap (ci .i64)) 0)),64⟩⟩∧aBn m v_2 aGd t20 t21 t22=some r):Nat→St→Prop)
 exact be 47 func101 (h:=G)
instance:Ct prog 101 (K3 prog vi (vl bE) vi (vl (ci .i64)) 101 aG5):=⟨bBe⟩
def aAg(g_0:aU)(u_1:Int)(v_2:Int):Option (Bool):=
 ((lV g_0).bind fun r2=>
 some ((((r2&&(decide (0≤u_1)))&&(decide (u_1<g_0.Config.N)))&&(decide (0≤v_2)))&&(decide (v_2<g_0.Config.N))))
theorem bBg:K3 prog fX vi vi vb 115 aAg:=fun hm=>be 31 func115 (h:=G)
instance:Ct prog 115 (K3 prog fX vi vi vb 115 aAg):=⟨bBg⟩
abbrev rX(s_0:List aH):Option ((List aH)):=
 some s_0
abbrev vK(n_1:Int):Option ((List aH)):=
 (bif (decide (0<(IntKind.i64.wrap (n_1-(IntKind.i64.wrap (((0:Nat):Int)-((0:Nat):Int))))))) then
  ((chk (((0:Nat):Int)==0)).bind fun _=>
  ((chk (decide (0<(IntKind.i64.wrap (n_1-(IntKind.i64.wrap (((0:Nat):Int)-((0:Nat):Int))))))&&decide ((IntKind.i64.wrap (n_1-(IntKind.i64.wrap (((0:Nat):Int)-((0:Nat):Int)))))≤4294967296))).bind fun _=>
  ((chk (((0:Nat):Int)==0)).bind fun _=>
  rX [])))
 else
  rX [])
def sU(n_1:Int):Option ((List aH)):=
 (bif (decide (n_1<0)) then
  none
 else
  vK n_1)
theorem aOz{n_1:Int}{r:(List aH)}(hm:sU n_1=some r):kJ prog 167 [.v (.slice none 0 0),.v (.int .i64 n_1)] 3 (r.flatMap bE) r.length:=by
 refine kJ.of_body func167 rfl (dT.fmdat r) ?_;simp only [ntmps167,List.length_cons,List.length_nil,Nat.reduceAdd,Nat.reduceSub,nB];unfold sU at hm;refine sN 64 (pA ?_);refine fs (AWp.seqJ (fun s=> ∃(n_1:Int),s=(⟨27,(aF (aF (fun _=>AV.any) 0 (.v (.slice none 0 0))) 1 (.v (.int .i64 n_1))),⟨bQ,64⟩⟩:St)∧vK n_1=some r) ?_ ?_)
 ·
  refine sN 128 ?_
  iterate 2 refine pA ?_
  refine fs (AWp.condM hm Z1 (fun _ hm=>?_) (fun _ hm=>?_))
  · cases hm
  · refine AWp.skip (nG ?_);refine ⟨_,?_,n_1,rfl,hm⟩;exact jJ id (wV (wV mD)) aWv
 ·
  rintro s ⟨n_1,rfl,hm⟩;unfold vK at hm;refine AWp.seqJ (fun s=> ∃(s_0:List aH),s=(⟨27,(aF (fun _=>AV.any) 0 (.own 1 0 s_0.length)),⟨(upd bQ 1 (.cells 3 (s_0.flatMap bE) 0)),64⟩⟩:St)∧rX s_0=some r) ?_ ?_
  ·
   refine sN 128 ?_
   iterate 2 refine pA ?_
   refine pu rfl (bFw underlying28 Z1) ?_
   iterate 5 refine pA ?_
   refine fs (sN 192 ?_)
   iterate 2 refine pA ?_
   refine fs (AWp.condM hm Z1 (fun _ hm=>?_) (fun _ hm=>?_))
   ·
    refine AWp.reg 64 (N':=256) rfl ?_
    iterate 2 refine pA ?_
    refine pu rfl (bFw underlying28 Z1) ?_;obtain ⟨_,h3,hm⟩:=bnd hm;refine pu rfl (bL9 underlying28 aG3 Z1 Z1 (eq_of_beq (yM h3))) ?_;refine pA ?_;obtain ⟨_,h4,hm⟩:=bnd hm;refine hp (id:=197) rfl rfl (bOx underlying28 underlying3 rfl aZt bBk (by rw [aLh];decide) (by rw [aLh];decide) bBl Zd Zd Z1 Z1 Z5 h4) ?_
    iterate 2 refine pA ?_
    obtain ⟨_,h8,hm⟩:=bnd hm;refine pu rfl (bP3 underlying28 aG3 Z1 Z3 Z1 (eq_of_beq (yM h8))) ?_;refine pA ?_;refine aI.fin (nG ?_);refine ⟨_,?_,[],rfl,hm⟩;refine St.Le.trans (bRi 197 Z3) ?_;exact jJ (fun j=>bif j==1 then 197 else 0) (wO mD) (hW (eU dT mR))
   · refine AWp.skip (nG ?_);refine ⟨_,?_,[],rfl,hm⟩;refine St.Le.trans (aHr 0 900000 3 Z1 Z5) ?_;exact jJ (fun j=>bif j==1 then 900000 else 0) (wO mD) (hW (eU dT mR))
  ·
   rintro s ⟨s_0,rfl,hm⟩;unfold rX at hm;refine sN 128 ?_
   iterate 2 refine pA ?_
   refine fs (AWp.ret ?_);cases hm;exact aNh (.inr rfl) Tryz.results167 Z1 Z3 Z6
abbrev yI(rec1:List (List aH)→Int→List (List aH)→Int→Int→Option ((List aH)))(mT:List (List aH))(aC8:Int)(t9:List (List aH))(t10:Int)(t11:Int):Option ((List aH)):=
 rec1 mT aC8 t9 t10 (IntKind.i64.wrap (t11+1))
def yH(rec2:List aH→List (List aH)→Int→Int→Option ((List aH)))(zU:List aH)(t25:List (List aH))(t26:Int)(t27:Int):Option ((List aH)):=
 (bif (decide (t27<t26)) then
  ((idx t25 t27).bind fun x6=>
  ((app zU x6).bind fun l8=>
  rec2 l8 t25 t26 (IntKind.i64.wrap (t27+1))))
 else
  some zU)
def qM:Nat→List aH→List (List aH)→Int→Int→Option ((List aH))
 |0=>fun _ _ _ _=>none
 |n+1=>yH (qM n)
def yD(rec1:List (List aH)→Int→List (List aH)→Int→Int→Option ((List aH)))(mT:List (List aH))(aC8:Int)(t9:List (List aH))(t10:Int)(t11:Int):Option ((List aH)):=
 (bif (decide (t11<t10)) then
  ((idx t9 t11).bind fun x2=>
  (bif (decide ((IntKind.i64.wrap (aC8+(x2.length:Int)))<0)) then
   none
  else
   yI rec1 mT (IntKind.i64.wrap (aC8+(x2.length:Int))) t9 t10 t11))
 else
  ((sU aC8).bind fun r4=>
  qM bC r4 mT (mT.length:Int) 0))
def oG:Nat→List (List aH)→Int→List (List aH)→Int→Int→Option ((List aH))
 |0=>fun _ _ _ _ _=>none
 |n+1=>yD (oG n)
def oQ(mT:List (List aH)):Option ((List aH)):=
 oG bC mT 0 mT (mT.length:Int) 0
theorem zY{mT:List (List aH)}{r:(List aH)}(hm:oQ mT=some r):dU prog 140 [.sl (mT.flatMap (csl bE)) mT.length false] (vl bE r):=by
 refine bd 36 func140 ?_;refine W ?_;refine lp (fun m s=> ∃mT aC8 t9 t10 t11,s=⟨36,(aF (aF (aF (aF (aF fa 0 (.sl (mT.flatMap (csl bE)) mT.length false)) 3 (vi aC8)) 9 (.sl (t9.flatMap (csl bE)) t9.length false)) 10 (vi t10)) 11 (vi t11)),⟨bQ,64⟩⟩∧oG m mT aC8 t9 t10 t11=some r) L ?_;rintro n1 s ⟨mT,aC8,t9,t10,t11,rfl,hm⟩;refine W ?_;refine cm hm (fun hm=>?_) fun hm=>?_
 ·
  refine V ?_;refine AWp.seqJ (fun s=> ∃mT aC8 t9 t10 t11,s=⟨36,(aF (aF (aF (aF (aF fa 0 (.sl (mT.flatMap (csl bE)) mT.length false)) 3 (vi aC8)) 9 (.sl (t9.flatMap (csl bE)) t9.length false)) 10 (vi t10)) 11 (vi t11)),⟨bQ,64⟩⟩∧yI (oG n1) mT aC8 t9 t10 t11=some r) ?_ ?_
  ·
   obtain ⟨x2,h1,hm⟩:=bnd hm;refine W ?_;refine cm hm (fun hm=>?_) fun hm=>?_
   · cases hm
   exact L
  rintro s ⟨mT,aC8,t9,t10,t11,rfl,hm⟩;exact L
 obtain ⟨r4,h3,hm⟩:=bnd hm;refine W ?_;refine aI.callF (id:=129) Zd Z1 bWm (fun H=>(cV (cV .nil))) dT Z5 (aOz h3) ?_;refine W ?_;refine lp (fun m s=> ∃zU t25 t26 t27,s=⟨36,(aF (aF (aF (aF fa 6 (.own 1 0 zU.length)) 25 (.sl (t25.flatMap (csl bE)) t25.length false)) 26 (vi t26)) 27 (vi t27)),⟨(upd bQ 1 (.cells 3 (zU.flatMap bE) 0)),64⟩⟩∧qM m zU t25 t26 t27=some r) (Lr (fun j=>bif j==1 then 129 else 0)) ?_;rintro n2 s ⟨zU,t25,t26,t27,rfl,hm⟩;refine W ?_;refine cm hm (fun hm=>?_) fun hm=>?_
 · obtain ⟨x6,h5,hm⟩:=bnd hm;obtain ⟨l8,h7,hm⟩:=bnd hm;refine W ?_;exact Lr (fun j=>bif j==1 then 194 else 0)
 exact E
instance:Ct prog 140 (K1 prog (vl (csl bE)) (vl bE) 140 oQ):=⟨fun hm=>zY hm⟩
def aKc(rec1:List aH→aH→Int→Option ((List aH)×Int))(l_1:List aH)(lC:aH)(rS:Int):Option ((List aH)×Int):=
 ((fG ((decide (rS<(l_1.length:Int)))==true) (aH.mk 0 0 0) (idx l_1 rS)).bind fun x11=>
 ((fG ((decide (rS<(l_1.length:Int)))==true) false (zT x11 lC)).bind fun r13=>
 (bif ((decide (rS<(l_1.length:Int)))&&r13) then
  rec1 l_1 lC (IntKind.i64.wrap (rS+1))
 else
  ((slc l_1 0 rS).bind fun l15=>
  ((slc l_1 rS (l_1.length:Int)).bind fun l17=>
  ((oQ [l15,[lC],l17]).bind fun r19=>
  some (r19,0)))))))
def aD8:Nat→List aH→aH→Int→Option ((List aH)×Int)
 |0=>fun _ _ _=>none
 |n+1=>aKc (aD8 n)
def aF7(n_0:Int)(l_1:List aH)(u_2:Int)(v_3:Int):Option ((List aH)×Int):=
 ((oE n_0 l_1).bind fun r2=>
 ((fG ((!r2)==false) false (mH n_0 u_2)).bind fun r4=>
 ((fG (((!r2)||(!r4))==false) false (mH n_0 v_3)).bind fun r6=>
 (bif (((!r2)||(!r4))||(!r6)) then
  some (l_1,1)
 else
  (bif (u_2==v_3) then
   some (l_1,8)
  else
   ((tR l_1 u_2 v_3).bind fun ⟨r8,r9⟩=>
   (bif r9 then
    some (l_1,4)
   else
    aD8 bC l_1 (aH.mk (if v_3<u_2 then v_3 else u_2) (if u_2<v_3 then v_3 else u_2) 0) 0)))))))
theorem bFg{n_0:Int}{l_1:List aH}{u_2:Int}{v_3:Int}{r:(List aH)×Int}(hm:aF7 n_0 l_1 u_2 v_3=some r):dU prog 116 [vi n_0,vl bE l_1,vi u_2,vi v_3] (.tup [vl bE r.1,vi r.2]):=by
 refine bd 75 func116 ?_;obtain ⟨r2,h1,hm⟩:=bnd hm;refine W ?_;refine cq (aE6 h1) ?_;obtain ⟨r4,h3,hm⟩:=bnd hm;refine W ?_;refine cg (fun hb=>sI (bK h3 hb)) ?_;obtain ⟨r6,h5,hm⟩:=bnd hm;refine W ?_;refine cg (fun hb=>sI (bK h5 hb)) ?_;refine W ?_;refine cm hm (fun hm=>?_) fun hm=>?_
 · exact E
 refine W ?_;refine cm hm (fun hm=>?_) fun hm=>?_
 · exact E
 refine W ?_;obtain ⟨⟨r8,r9⟩,h7,hm⟩:=bnd hm;refine cq (aHv h7) ?_;refine W ?_;refine cm hm (fun hm=>?_) fun hm=>?_
 · exact E
 refine W ?_;refine bU (.agg [.v (.int .i64 (if v_3<u_2 then v_3 else u_2)),.v (.int .i64 (if u_2<v_3 then v_3 else u_2)),vi 0]) ?_;refine W ?_;refine lp (fun m s=> ∃l_1 lC rS,s=⟨75,(aF (aF (aF fa 1 (vl bE l_1)) 12 (.adr 1 0)) 13 (vi rS)),⟨(upd bQ 1 (.cells 1 [vi lC.U,vi lC.V,vi lC.Tier] 0)),64⟩⟩∧aD8 m l_1 lC rS=some r) (Lr (fun j=>bif j==1 then 327 else 0)) ?_;rintro n1 s ⟨l_1,lC,rS,rfl,hm⟩;obtain ⟨x11,h10,hm⟩:=bnd hm;obtain ⟨r13,h12,hm⟩:=bnd hm;refine W ?_;refine cg (fun hb=>aSk (bK h12 hb)) ?_;refine W ?_;refine cm hm (fun hm=>?_) fun hm=>?_
 · refine W ?_;exact Lr (fun j=>bif j==1 then 1 else 0)
 obtain ⟨l15,h14,hm⟩:=bnd hm
 iterate 10 refine S1 ?_
 refine aI.pop Zd (aFt (ps:=[(0,.agg [.v (.int .i64 lC.U),.v (.int .i64 lC.V),.v (.int .i64 lC.Tier)])]) (by simp only [go_sem,Nat.reduceBEq];try rfl) (aAx (.agg _ (dT.dat lC)) aR8)) (aNb dT (l:=[lC]) (xs:=[.v (.int .i64 lC.U),.v (.int .i64 lC.V),.v (.int .i64 lC.Tier)]) underlying28 aG3 aO2 Zd Zd Zd (ps:=[(0,.agg [.v (.int .i64 lC.U),.v (.int .i64 lC.V),.v (.int .i64 lC.Tier)])]) (by simp only [go_sem,Nat.reduceBEq];try rfl) (by kernel_rfl) (fun H=>(.cons (.data _ (.v _)) (.cons (.data _ (.v _)) (.cons (.data _ (.v _)) .nil))))) rfl ?_;obtain ⟨l17,h16,hm⟩:=bnd hm
 iterate 3 refine S1 ?_
 refine aI.pop Zd (aFt (ps:=[(0,.sl (l15.flatMap bE) l15.length (false&&(rS:Int).toNat==l_1.length)),(1,.sl (([lC]).flatMap bE) ([lC]).length false),(2,.sl (l17.flatMap bE) l17.length (false&&((l_1.length:Int):Int).toNat==l_1.length))]) (by simp only [go_sem,Nat.reduceBEq];try rfl) (aAx (dT.sl _ _ _) (aAx (dT.sl _ _ _) (aAx (dT.sl _ _ _) aR8)))) (aNb (CFl dT) (l:=[l15,[lC],l17]) (xs:=[.sl (l15.flatMap bE) l15.length (false&&(rS:Int).toNat==l_1.length),.sl (([lC]).flatMap bE) ([lC]).length false,.sl (l17.flatMap bE) l17.length (false&&((l_1.length:Int):Int).toNat==l_1.length)]) underlying225 bS1 bVb Zd Zd Zd (ps:=[(0,.sl (l15.flatMap bE) l15.length (false&&(rS:Int).toNat==l_1.length)),(1,.sl (([lC]).flatMap bE) ([lC]).length false),(2,.sl (l17.flatMap bE) l17.length (false&&((l_1.length:Int):Int).toNat==l_1.length))]) (by simp only [go_sem,Nat.reduceBEq];try rfl) (by kernel_rfl) (fun H=>(.cons (tdf rfl (dT.sl _ _ _)) (.cons (.data _ (dT.sl _ _ _)) (.cons (tdf rfl (dT.sl _ _ _)) .nil))))) rfl ?_;obtain ⟨r19,h18,hm⟩:=bnd hm;refine cq (zY h18) ?_;exact E
instance:Ct prog 116 (K4 prog vi (vl bE) vi vi (t2 (vl bE) vi) 116 aF7):=⟨fun hm=>bFg hm⟩
def zH(n_0:Int)(l_1:List aH)(u_2:Int)(v_3:Int):Option ((List aH)×Int):=
 ((oE n_0 l_1).bind fun r2=>
 ((fG ((!r2)==false) false (mH n_0 u_2)).bind fun r4=>
 ((fG (((!r2)||(!r4))==false) false (mH n_0 v_3)).bind fun r6=>
 (bif (((!r2)||(!r4))||(!r6)) then
  some (l_1,1)
 else
  ((tR l_1 u_2 v_3).bind fun ⟨r8,r9⟩=>
  (bif (!r9) then
   some (l_1,9)
  else
   ((slc l_1 0 r8).bind fun l11=>
   ((slc l_1 (IntKind.i64.wrap (r8+1)) (l_1.length:Int)).bind fun l13=>
   ((oQ [l11,l13]).bind fun r15=>
   some (r15,0))))))))))
theorem aUg{n_0:Int}{l_1:List aH}{u_2:Int}{v_3:Int}{r:(List aH)×Int}(hm:zH n_0 l_1 u_2 v_3=some r):dU prog 118 [vi n_0,vl bE l_1,vi u_2,vi v_3] (.tup [vl bE r.1,vi r.2]):=by
 refine bd 48 func118 ?_;obtain ⟨r2,h1,hm⟩:=bnd hm;refine W ?_;refine cq (aE6 h1) ?_;obtain ⟨r4,h3,hm⟩:=bnd hm;refine W ?_;refine cg (fun hb=>sI (bK h3 hb)) ?_;obtain ⟨r6,h5,hm⟩:=bnd hm;refine W ?_;refine cg (fun hb=>sI (bK h5 hb)) ?_;refine W ?_;refine cm hm (fun hm=>?_) fun hm=>?_
 · exact E
 refine W ?_;obtain ⟨⟨r8,r9⟩,h7,hm⟩:=bnd hm;refine cq (aHv h7) ?_;refine W ?_;refine cm hm (fun hm=>?_) fun hm=>?_
 · exact E
 obtain ⟨l11,h10,hm⟩:=bnd hm;obtain ⟨l13,h12,hm⟩:=bnd hm
 iterate 10 refine S1 ?_
 refine aI.pop Zd (aFt (ps:=[(0,.sl (l11.flatMap bE) l11.length (false&&(r8:Int).toNat==l_1.length)),(1,.sl (l13.flatMap bE) l13.length (false&&((l_1.length:Int):Int).toNat==l_1.length))]) (by simp only [go_sem,Nat.reduceBEq];try rfl) (aAx (dT.sl _ _ _) (aAx (dT.sl _ _ _) aR8))) (aNb (CFl dT) (l:=[l11,l13]) (xs:=[.sl (l11.flatMap bE) l11.length (false&&(r8:Int).toNat==l_1.length),.sl (l13.flatMap bE) l13.length (false&&((l_1.length:Int):Int).toNat==l_1.length)]) underlying225 bS1 bVb Zd Zd Zd (ps:=[(0,.sl (l11.flatMap bE) l11.length (false&&(r8:Int).toNat==l_1.length)),(1,.sl (l13.flatMap bE) l13.length (false&&((l_1.length:Int):Int).toNat==l_1.length))]) (by simp only [go_sem,Nat.reduceBEq];try rfl) (by kernel_rfl) (fun H=>(.cons (tdf rfl (dT.sl _ _ _)) (.cons (tdf rfl (dT.sl _ _ _)) .nil)))) rfl ?_;obtain ⟨r15,h14,hm⟩:=bnd hm;refine cq (zY h14) ?_;exact E
instance:Ct prog 118 (K4 prog vi (vl bE) vi vi (t2 (vl bE) vi) 118 zH):=⟨fun hm=>aUg hm⟩
def aDv(n_0:Int):Option (Int):=
 some (Int.tmod n_0 2305843009213693951)
theorem bRq:K1 prog vu vu 164 aDv:=fun hm=>be 5 func164 (h:=G)
instance:Ct prog 164 (K1 prog vu vu 164 aDv):=⟨bRq⟩
def aGx(a_0:Int)(b_1:Int):Option (Int):=
 ((aDv a_0).bind fun r2=>
 ((aDv b_1).bind fun r4=>
 some (Int.tmod (IntKind.u64.wrap (r2+r4)) 2305843009213693951)))
theorem bNo:K2 prog vu vu vu 138 aGx:=fun hm=>be 11 func138 (h:=G)
instance:Ct prog 138 (K2 prog vu vu vu 138 aGx):=⟨bNo⟩
def aCl(x_0:Int)(y_1:Int):Option (Int×Int):=
 some ((IntKind.u64.wrap ((IntKind.u64.wrap ((IntKind.u64.wrap ((shr .u64 x_0 32)*(shr .u64 y_1 32)))+(shr .u64 (IntKind.u64.wrap ((IntKind.u64.wrap ((shr .u64 x_0 32)*(yK .u64 y_1 4294967295)))+(shr .u64 (IntKind.u64.wrap ((yK .u64 x_0 4294967295)*(yK .u64 y_1 4294967295))) 32))) 32)))+(shr .u64 (IntKind.u64.wrap ((yK .u64 (IntKind.u64.wrap ((IntKind.u64.wrap ((shr .u64 x_0 32)*(yK .u64 y_1 4294967295)))+(shr .u64 (IntKind.u64.wrap ((yK .u64 x_0 4294967295)*(yK .u64 y_1 4294967295))) 32))) 4294967295)+(IntKind.u64.wrap ((yK .u64 x_0 4294967295)*(shr .u64 y_1 32))))) 32))),(IntKind.u64.wrap (x_0*y_1)))
theorem aZ3:K2 prog vu vu (t2 vu vu) 165 aCl:=fun hm=>be 51 func165 (h:=G)
instance:Ct prog 165 (K2 prog vu vu (t2 vu vu) 165 aCl):=⟨aZ3⟩
abbrev aMl(x_0:Int)(n_2:Int):Option (Int):=
 ((aSx bLr (IntKind.u8.wrap x_0)).bind fun b2=>
 some (IntKind.i64.wrap (n_2+(IntKind.i64.wrap b2))))
abbrev aMk(x_0:Int)(n_2:Int):Option (Int):=
 (bif (decide (256≤x_0)) then
  aMl (shr .u64 x_0 8) (IntKind.i64.wrap (n_2+8))
 else
  aMl x_0 n_2)
abbrev aMj(x_0:Int)(n_2:Int):Option (Int):=
 (bif (decide (65536≤x_0)) then
  aMk (shr .u64 x_0 16) (IntKind.i64.wrap (n_2+16))
 else
  aMk x_0 n_2)
def aFk(x_0:Int):Option (Int):=
 (bif (decide (4294967296≤x_0)) then
  aMj (shr .u64 x_0 32) 32
 else
  aMj x_0 0)
theorem aPh:K1 prog vu vi 155 aFk:=fun hm=>be 25 func155 (h:=G)
instance:Ct prog 155 (K1 prog vu vi 155 aFk):=⟨aPh⟩
def rQ(x_0:Int):Option (Int):=
 ((aFk x_0).bind fun r2=>
 some (IntKind.i64.wrap (64-r2)))
theorem aCk:K1 prog vu vi 196 rQ:=fun hm=>be 6 func196 (h:=G)
instance:Ct prog 196 (K1 prog vu vi 196 rQ):=⟨aCk⟩
abbrev aAp(y_2:Int)(s_8:Int)(oJ:Int)(qK:Int)(yB:Int)(aDq:Int):Option (Int×Int):=
 ((chk (decide (0≤s_8))).bind fun _=>
 some ((IntKind.u64.wrap ((IntKind.u64.wrap (qK*4294967296))+aDq)),(shr .u64 (IntKind.u64.wrap ((IntKind.u64.wrap ((IntKind.u64.wrap (yB*4294967296))+oJ))-(IntKind.u64.wrap (aDq*y_2)))) s_8)))
def aHb(rec1:Int→Int→Int→Int→Int→Int→Int→Int→Int→Option (Int×Int))(y_2:Int)(s_8:Int)(sW:Int)(sJ:Int)(oJ:Int)(qK:Int)(tV:Int)(yB:Int)(aDq:Int):Option (Int×Int):=
 (bif ((decide (4294967296≤aDq))||(decide ((IntKind.u64.wrap ((IntKind.u64.wrap (4294967296*tV))+oJ))<(IntKind.u64.wrap (aDq*sJ))))) then
  (bif (decide (4294967296≤(IntKind.u64.wrap (tV+sW)))) then
   aAp y_2 s_8 oJ qK yB (IntKind.u64.wrap (aDq-1))
  else
   rec1 y_2 s_8 sW sJ oJ qK (IntKind.u64.wrap (tV+sW)) yB (IntKind.u64.wrap (aDq-1)))
 else
  aAp y_2 s_8 oJ qK yB aDq)
def xC:Nat→Int→Int→Int→Int→Int→Int→Int→Int→Int→Option (Int×Int)
 |0=>fun _ _ _ _ _ _ _ _ _=>none
 |n+1=>aHb (xC n)
abbrev xB(y_2:Int)(s_8:Int)(sW:Int)(sJ:Int)(sM:Int)(wW:Int)(oJ:Int)(qK:Int):Option (Int×Int):=
 ((chk (sW !=0)).bind fun _=>
 xC bC y_2 s_8 sW sJ oJ qK (IntKind.u64.wrap ((IntKind.u64.wrap ((IntKind.u64.wrap ((IntKind.u64.wrap (sM*4294967296))+wW))-(IntKind.u64.wrap (qK*y_2))))-(IntKind.u64.wrap ((IntKind.u64.wrap (Int.tdiv (IntKind.u64.wrap ((IntKind.u64.wrap ((IntKind.u64.wrap (sM*4294967296))+wW))-(IntKind.u64.wrap (qK*y_2)))) sW))*sW)))) (IntKind.u64.wrap ((IntKind.u64.wrap ((IntKind.u64.wrap (sM*4294967296))+wW))-(IntKind.u64.wrap (qK*y_2)))) (IntKind.u64.wrap (Int.tdiv (IntKind.u64.wrap ((IntKind.u64.wrap ((IntKind.u64.wrap (sM*4294967296))+wW))-(IntKind.u64.wrap (qK*y_2)))) sW)))
def aHc(rec2:Int→Int→Int→Int→Int→Int→Int→Int→Int→Option (Int×Int))(y_2:Int)(s_8:Int)(sW:Int)(sJ:Int)(sM:Int)(wW:Int)(oJ:Int)(qK:Int)(tV:Int):Option (Int×Int):=
 (bif ((decide (4294967296≤qK))||(decide ((IntKind.u64.wrap ((IntKind.u64.wrap (4294967296*tV))+wW))<(IntKind.u64.wrap (qK*sJ))))) then
  (bif (decide (4294967296≤(IntKind.u64.wrap (tV+sW)))) then
   xB y_2 s_8 sW sJ sM wW oJ (IntKind.u64.wrap (qK-1))
  else
   rec2 y_2 s_8 sW sJ sM wW oJ (IntKind.u64.wrap (qK-1)) (IntKind.u64.wrap (tV+sW)))
 else
  xB y_2 s_8 sW sJ sM wW oJ qK)
def xG:Nat→Int→Int→Int→Int→Int→Int→Int→Int→Int→Option (Int×Int)
 |0=>fun _ _ _ _ _ _ _ _ _=>none
 |n+1=>aHc (xG n)
abbrev aHe(aEs:Int)(vH:Int)(y_2:Int):Option (Int×Int):=
 (bif (aEs==0) then
  ((chk (y_2 !=0)).bind fun _=>
  ((chk (y_2 !=0)).bind fun _=>
  some ((IntKind.u64.wrap (Int.tdiv vH y_2)),(Int.tmod vH y_2))))
 else
  ((rQ y_2).bind fun r4=>
  ((chk (decide (0≤(IntKind.u64.wrap r4)))).bind fun _=>
  ((chk (decide (0≤(IntKind.u64.wrap r4)))).bind fun _=>
  ((chk (decide (0≤(IntKind.u64.wrap (64-(IntKind.u64.wrap r4)))))).bind fun _=>
  ((chk (decide (0≤(IntKind.u64.wrap r4)))).bind fun _=>
  ((chk ((shr .u64 (shl .u64 y_2 (IntKind.u64.wrap r4)) 32) !=0)).bind fun _=>
  xG bC (shl .u64 y_2 (IntKind.u64.wrap r4)) (IntKind.u64.wrap r4) (shr .u64 (shl .u64 y_2 (IntKind.u64.wrap r4)) 32) (yK .u64 (shl .u64 y_2 (IntKind.u64.wrap r4)) 4294967295) (bor .u64 (shl .u64 aEs (IntKind.u64.wrap r4)) (shr .u64 vH (IntKind.u64.wrap (64-(IntKind.u64.wrap r4))))) (shr .u64 (shl .u64 vH (IntKind.u64.wrap r4)) 32) (yK .u64 (shl .u64 vH (IntKind.u64.wrap r4)) 4294967295) (IntKind.u64.wrap (Int.tdiv (bor .u64 (shl .u64 aEs (IntKind.u64.wrap r4)) (shr .u64 vH (IntKind.u64.wrap (64-(IntKind.u64.wrap r4))))) (shr .u64 (shl .u64 y_2 (IntKind.u64.wrap r4)) 32))) (IntKind.u64.wrap ((bor .u64 (shl .u64 aEs (IntKind.u64.wrap r4)) (shr .u64 vH (IntKind.u64.wrap (64-(IntKind.u64.wrap r4)))))-(IntKind.u64.wrap ((IntKind.u64.wrap (Int.tdiv (bor .u64 (shl .u64 aEs (IntKind.u64.wrap r4)) (shr .u64 vH (IntKind.u64.wrap (64-(IntKind.u64.wrap r4))))) (shr .u64 (shl .u64 y_2 (IntKind.u64.wrap r4)) 32)))*(shr .u64 (shl .u64 y_2 (IntKind.u64.wrap r4)) 32))))))))))))
abbrev aHd(aEs:Int)(vH:Int)(y_2:Int):Option (Int×Int):=
 (bif (decide (y_2≤aEs)) then
  none
 else
  aHe aEs vH y_2)
def aCj(aEs:Int)(vH:Int)(y_2:Int):Option (Int×Int):=
 (bif (y_2==0) then
  none
 else
  aHd aEs vH y_2)
theorem aZ2{aEs:Int}{vH:Int}{y_2:Int}{r:Int×Int}(hm:aCj aEs vH y_2=some r):dU prog 183 [vu aEs,vu vH,vu y_2] (.tup [vu r.1,vu r.2]):=by
 refine bd 135 func183 ?_;refine V ?_;refine AWp.seqJ (fun s=> ∃aEs vH y_2,s=⟨135,(aF (aF (aF fa 0 (vu aEs)) 1 (vu vH)) 2 (vu y_2)),⟨bQ,64⟩⟩∧aHd aEs vH y_2=some r) ?_ ?_
 ·
  refine W ?_;refine cm hm (fun hm=>?_) fun hm=>?_
  · cases hm
  exact L
 rintro s ⟨aEs,vH,y_2,rfl,hm⟩;refine AWp.seqJ (fun s=> ∃aEs vH y_2,s=⟨135,(aF (aF (aF fa 0 (vu aEs)) 1 (vu vH)) 2 (vu y_2)),⟨bQ,64⟩⟩∧aHe aEs vH y_2=some r) ?_ ?_
 ·
  refine W ?_;refine cm hm (fun hm=>?_) fun hm=>?_
  · cases hm
  exact L
 rintro s ⟨aEs,vH,y_2,rfl,hm⟩;refine W ?_;refine cm hm (fun hm=>?_) fun hm=>?_
 · obtain ⟨_,h1,hm⟩:=bnd hm;obtain ⟨_,h2,hm⟩:=bnd hm;exact E
 obtain ⟨r4,h3,hm⟩:=bnd hm;refine W ?_;refine cq (aCk h3) ?_;obtain ⟨_,h5,hm⟩:=bnd hm;obtain ⟨_,h6,hm⟩:=bnd hm;obtain ⟨_,h7,hm⟩:=bnd hm;obtain ⟨_,h8,hm⟩:=bnd hm;obtain ⟨_,h9,hm⟩:=bnd hm;refine V ?_;refine AWp.seqJ (fun s=> ∃y_2 s_8 sW sJ sM wW oJ qK,s=⟨135,(aF (aF (aF (aF (aF (aF (aF (aF fa 2 (vu y_2)) 8 (vu s_8)) 9 (vu sW)) 10 (vu sJ)) 11 (vu sM)) 13 (vu wW)) 14 (vu oJ)) 15 (vu qK)),⟨bQ,64⟩⟩∧xB y_2 s_8 sW sJ sM wW oJ qK=some r) ?_ ?_
 ·
  refine W ?_;refine lp (fun m s=> ∃y_2 s_8 sW sJ sM wW oJ qK tV,s=⟨135,(aF (aF (aF (aF (aF (aF (aF (aF (aF fa 2 (vu y_2)) 8 (vu s_8)) 9 (vu sW)) 10 (vu sJ)) 11 (vu sM)) 13 (vu wW)) 14 (vu oJ)) 15 (vu qK)) 16 (vu tV)),⟨bQ,64⟩⟩∧xG m y_2 s_8 sW sJ sM wW oJ qK tV=some r) L ?_;rintro n2 s ⟨y_2,s_8,sW,sJ,sM,wW,oJ,qK,tV,rfl,hm⟩;refine W ?_;refine cm hm (fun hm=>?_) fun hm=>?_
  ·
   refine W ?_;refine cm hm (fun hm=>?_) fun hm=>?_
   · refine W ?_;refine rG Zd ?_;exact L
   exact L
  exact L
 rintro s ⟨y_2,s_8,sW,sJ,sM,wW,oJ,qK,rfl,hm⟩;obtain ⟨_,h10,hm⟩:=bnd hm;refine V ?_;refine AWp.seqJ (fun s=> ∃y_2 s_8 oJ qK yB aDq,s=⟨135,(aF (aF (aF (aF (aF (aF fa 2 (vu y_2)) 8 (vu s_8)) 14 (vu oJ)) 15 (vu qK)) 17 (vu yB)) 18 (vu aDq)),⟨bQ,64⟩⟩∧aAp y_2 s_8 oJ qK yB aDq=some r) ?_ ?_
 ·
  refine W ?_;refine lp (fun m s=> ∃y_2 s_8 sW sJ oJ qK tV yB aDq,s=⟨135,(aF (aF (aF (aF (aF (aF (aF (aF (aF fa 2 (vu y_2)) 8 (vu s_8)) 9 (vu sW)) 10 (vu sJ)) 14 (vu oJ)) 15 (vu qK)) 16 (vu tV)) 17 (vu yB)) 18 (vu aDq)),⟨bQ,64⟩⟩∧xC m y_2 s_8 sW sJ oJ qK tV yB aDq=some r) L ?_;rintro n1 s ⟨y_2,s_8,sW,sJ,oJ,qK,tV,yB,aDq,rfl,hm⟩;refine W ?_;refine cm hm (fun hm=>?_) fun hm=>?_
  ·
   refine W ?_;refine cm hm (fun hm=>?_) fun hm=>?_
   · refine W ?_;refine rG Zd ?_;exact L
   exact L
  exact L
 rintro s ⟨y_2,s_8,oJ,qK,yB,aDq,rfl,hm⟩;obtain ⟨_,h11,hm⟩:=bnd hm;exact E
instance:Ct prog 183 (K3 prog vu vu vu (t2 vu vu) 183 aCj):=⟨fun hm=>aZ2 hm⟩
attribute [local semireducible] bC
end Go.Proofs.YtkdohhmacfoolaaGreat
