/- Facts. No condition. -/
import Derived.Test.YtkdohhmacfoolaaGreatNqOf
import Derived.Test.YtkdohhmacfoolaaGreatNqAmF
set_option linter.unusedVariables false
set_option linter.unusedSimpArgs false
set_option maxRecDepth 20000
set_option maxHeartbeats 4000000
namespace Go.Proofs.YtkdohhmacfoolaaGreat
open Go.Proofs.Tryz Go Go.AM
attribute [local irreducible] aZ
def bN8:ByteArray:=⟨#[0,1,2,2,3,3,3,3,4,4,4,4,4,4,4,4,5,5,5,5,5,5,5,5,5,5,5,5,5,5,5,5,6,6,6,6,6,6,6,6,6,6,6,6,6,6,6,6,6,6,6,6,6,6,6,6,6,6,6,6,6,6,6,6,7,7,7,7,7,7,7,7,7,7,7,7,7,7,7,7,7,7,7,7,7,7,7,7,7,7,7,7,7,7,7,7,7,7,7,7,7,7,7,7,7,7,7,7,7,7,7,7,7,7,7,7,7,7,7,7,7,7,7,7,7,7,7,7,8,8,8,8,8,8,8,8,8,8,8,8,8,8,8,8,8,8,8,8,8,8,8,8,8,8,8,8,8,8,8,8,8,8,8,8,8,8,8,8,8,8,8,8,8,8,8,8,8,8,8,8,8,8,8,8,8,8,8,8,8,8,8,8,8,8,8,8,8,8,8,8,8,8,8,8,8,8,8,8,8,8,8,8,8,8,8,8,8,8,8,8,8,8,8,8,8,8,8,8,8,8,8,8,8,8,8,8,8,8,8,8,8,8,8,8,8,8,8,8,8,8,8,8,8,8,8,8]⟩
structure dI where
 A:Int
 B:Int
deriving DecidableEq
def dW(e:dI):List AV:=[.v (.int .u64 e.A),.v (.int .u64 e.B)]
theorem nS:CF dW 2:=⟨fun _=>rfl,fun a x hx=>by
 simp only [dW,List.mem_cons,List.not_mem_nil,or_false] at hx;rcases hx with rfl|rfl
 · exact (.v _)
 · exact (.v _),fun _=>rfl⟩
instance:CC dW 2:=⟨nS⟩
abbrev aZc(e:dI):AV:= .agg [.v (.int .u64 e.A),vu e.B]
instance:CE prog 27 dW 2 (dI.mk 0 0):=⟨_,underlying27,bCf,bCx,inferInstance,nS,by decide,by decide⟩
@[go_sem] theorem bDl(e:dI)(r:List AV):dW e++r= .v (.int .u64 e.A):: .v (.int .u64 e.B)::r:=rfl
structure bZ where
 N:Int
 L:Int
 R:Int
deriving DecidableEq
def aH6(e:bZ):List AV:=[.v (.int .i64 e.N),.v (.int .i64 e.L),.v (.int .i64 e.R)]
theorem aP1:CF aH6 3:=⟨fun _=>rfl,fun a x hx=>by
 simp only [aH6,List.mem_cons,List.not_mem_nil,or_false] at hx;rcases hx with rfl|rfl|rfl
 · exact (.v _)
 · exact (.v _)
 · exact (.v _),fun _=>rfl⟩
instance:CC aH6 3:=⟨aP1⟩
abbrev aHl(e:bZ):AV:= .agg [.v (.int .i64 e.N),vi e.L,vi e.R]
@[go_sem] theorem aXg(e:bZ)(r:List AV):aH6 e++r= .v (.int .i64 e.N):: .v (.int .i64 e.L):: .v (.int .i64 e.R)::r:=rfl
structure aU where
 Config:bZ
 Hashes:List dI
 Edges:List aH
deriving DecidableEq
def aS4(e:aU):List AV:=[.v (.int .i64 e.Config.N),.v (.int .i64 e.Config.L),.v (.int .i64 e.Config.R),.sl (e.Hashes.flatMap dW) e.Hashes.length false,.sl (e.Edges.flatMap bE) e.Edges.length false]
theorem bM9:CF aS4 5:=⟨fun _=>rfl,fun a x hx=>by
 simp only [aS4,List.mem_cons,List.not_mem_nil,or_false] at hx;rcases hx with rfl|rfl|rfl|rfl|rfl
 · exact (.v _)
 · exact (.v _)
 · exact (.v _)
 · exact (nS.sl _ _ _)
 · exact (dU.sl _ _ _),fun _=>rfl⟩
instance:CC aS4 5:=⟨bM9⟩
abbrev fY(e:aU):AV:= .agg [.v (.int .i64 e.Config.N),vi e.Config.L,vi e.Config.R,vl dW e.Hashes,vl bE e.Edges]
@[go_sem] theorem bA5(e:aU)(r:List AV):aS4 e++r= .v (.int .i64 e.Config.N):: .v (.int .i64 e.Config.L):: .v (.int .i64 e.Config.R):: .sl (e.Hashes.flatMap dW) e.Hashes.length false:: .sl (e.Edges.flatMap bE) e.Edges.length false::r:=rfl
theorem bJg(x0 y0 x1 y1 x2 y2:Int):mG prog .eql 102 (.agg [.v (.int .i64 x0),.v (.int .i64 x1),.v (.int .i64 x2)]) (.agg [.v (.int .i64 y0),.v (.int .i64 y1),.v (.int .i64 y2)])=some (.v (.bool ((x0==y0)&&((x1==y1)&&(x2==y2))))):=
 (by kernel_rfl:mG prog .eql 102 (.agg [.v (.int .i64 x0),.v (.int .i64 x1),.v (.int .i64 x2)]) (.agg [.v (.int .i64 y0),.v (.int .i64 y1),.v (.int .i64 y2)])=some (.v (.bool ((x0==y0)&&((x1==y1)&&((x2==y2)&&true)))))).trans (by rw [Bool.and_true])
theorem bLo(x0 y0 x1 y1 x2 y2:Int):mG prog .neq 102 (.agg [.v (.int .i64 x0),.v (.int .i64 x1),.v (.int .i64 x2)]) (.agg [.v (.int .i64 y0),.v (.int .i64 y1),.v (.int .i64 y2)])=some (.v (.bool (!((x0==y0)&&((x1==y1)&&(x2==y2)))))):=
 (by kernel_rfl:mG prog .neq 102 (.agg [.v (.int .i64 x0),.v (.int .i64 x1),.v (.int .i64 x2)]) (.agg [.v (.int .i64 y0),.v (.int .i64 y1),.v (.int .i64 y2)])=some (.v (.bool (!((x0==y0)&&((x1==y1)&&((x2==y2)&&true))))))).trans (by rw [Bool.and_true])
attribute [go_sem] bJg bLo
theorem bJh(x0 y0 x1 y1:Int):mG prog .eql 120 (.agg [.v (.int .u64 x0),.v (.int .u64 x1)]) (.agg [.v (.int .u64 y0),.v (.int .u64 y1)])=some (.v (.bool ((x0==y0)&&(x1==y1)))):=
 (by kernel_rfl:mG prog .eql 120 (.agg [.v (.int .u64 x0),.v (.int .u64 x1)]) (.agg [.v (.int .u64 y0),.v (.int .u64 y1)])=some (.v (.bool ((x0==y0)&&((x1==y1)&&true))))).trans (by rw [Bool.and_true])
theorem bLp(x0 y0 x1 y1:Int):mG prog .neq 120 (.agg [.v (.int .u64 x0),.v (.int .u64 x1)]) (.agg [.v (.int .u64 y0),.v (.int .u64 y1)])=some (.v (.bool (!((x0==y0)&&(x1==y1))))):=
 (by kernel_rfl:mG prog .neq 120 (.agg [.v (.int .u64 x0),.v (.int .u64 x1)]) (.agg [.v (.int .u64 y0),.v (.int .u64 y1)])=some (.v (.bool (!((x0==y0)&&((x1==y1)&&true)))))).trans (by rw [Bool.and_true])
attribute [go_sem] bJh bLp
theorem bNl(x0 y0 x1 y1 x2 y2:Int):mG prog .eql 23 (.agg [.v (.int .i64 x0),.v (.int .i64 x1),.v (.int .i64 x2)]) (.agg [.v (.int .i64 y0),.v (.int .i64 y1),.v (.int .i64 y2)])=some (.v (.bool ((x0==y0)&&((x1==y1)&&(x2==y2))))):=
 (by kernel_rfl:mG prog .eql 23 (.agg [.v (.int .i64 x0),.v (.int .i64 x1),.v (.int .i64 x2)]) (.agg [.v (.int .i64 y0),.v (.int .i64 y1),.v (.int .i64 y2)])=some (.v (.bool ((x0==y0)&&((x1==y1)&&((x2==y2)&&true)))))).trans (by rw [Bool.and_true])
theorem bPa(x0 y0 x1 y1 x2 y2:Int):mG prog .neq 23 (.agg [.v (.int .i64 x0),.v (.int .i64 x1),.v (.int .i64 x2)]) (.agg [.v (.int .i64 y0),.v (.int .i64 y1),.v (.int .i64 y2)])=some (.v (.bool (!((x0==y0)&&((x1==y1)&&(x2==y2)))))):=
 (by kernel_rfl:mG prog .neq 23 (.agg [.v (.int .i64 x0),.v (.int .i64 x1),.v (.int .i64 x2)]) (.agg [.v (.int .i64 y0),.v (.int .i64 y1),.v (.int .i64 y2)])=some (.v (.bool (!((x0==y0)&&((x1==y1)&&((x2==y2)&&true))))))).trans (by rw [Bool.and_true])
attribute [go_sem] bNl bPa
@[go_sem] theorem bE7(xs:List AV):aO prog 102 (.ptr (xs)) 0=some (.ptr xs):=by kernel_rfl
@[go_sem] theorem bE8(x0:AV)(xs:List AV):aO prog 102 (.ptr (x0::xs)) 1=some (.ptr xs):=by kernel_rfl
@[go_sem] theorem bE9(x0:AV)(x1:AV)(xs:List AV):aO prog 102 (.ptr (x0::x1::xs)) 2=some (.ptr xs):=by kernel_rfl
@[go_sem] theorem bEl(i o:Nat):aO prog 102 (.adr i o) 0=some (.adr i (o+0)):=by kernel_rfl
@[go_sem] theorem bEr(i o:Nat):aO prog 102 (.adr i o) 1=some (.adr i (o+1)):=by kernel_rfl
@[go_sem] theorem bEx(i o:Nat):aO prog 102 (.adr i o) 2=some (.adr i (o+2)):=by kernel_rfl
@[go_sem] theorem bF5(i o:Nat):aO prog 120 (.adr i o) 0=some (.adr i (o+0)):=by kernel_rfl
@[go_sem] theorem bF8(i o:Nat):aO prog 120 (.adr i o) 1=some (.adr i (o+1)):=by kernel_rfl
@[go_sem] theorem bJl(i o:Nat):aO prog 23 (.adr i o) 0=some (.adr i (o+0)):=by kernel_rfl
@[go_sem] theorem bJs(i o:Nat):aO prog 23 (.adr i o) 1=some (.adr i (o+1)):=by kernel_rfl
@[go_sem] theorem bJz(i o:Nat):aO prog 23 (.adr i o) 2=some (.adr i (o+2)):=by kernel_rfl
@[go_sem] theorem bK5(i o:Nat):aO prog 30 (.adr i o) 0=some (.adr i (o+0)):=by kernel_rfl
@[go_sem] theorem bKb(i o:Nat):aO prog 30 (.adr i o) 1=some (.adr i (o+3)):=by kernel_rfl
@[go_sem] theorem bKf(i o:Nat):aO prog 30 (.adr i o) 2=some (.adr i (o+4)):=by kernel_rfl
@[go_sem] theorem bOd(H:aM)(x0 x1 x2:AV)(xs:List AV):cZ prog H 102 (.ptr (x0::x1::x2::xs))=some (.agg [x0,x1,x2]):=by kernel_rfl
@[go_sem] theorem bOm(H:aM)(x0 x1:AV)(xs:List AV):cZ prog H 120 (.ptr (x0::x1::xs))=some (.agg [x0,x1]):=by kernel_rfl
@[go_sem] theorem bRe(H:aM)(x0 x1 x2:AV)(xs:List AV):cZ prog H 23 (.ptr (x0::x1::x2::xs))=some (.agg [x0,x1,x2]):=by kernel_rfl
@[go_sem] theorem bRn(H:aM)(x:AV)(xs:List AV):cZ prog H 27 (.ptr (x::xs))=some x:=by kernel_rfl
@[go_sem] theorem bRr(H:aM)(x:AV)(xs:List AV):cZ prog H 28 (.ptr (x::xs))=some x:=by kernel_rfl
@[go_sem] theorem bVi(H:aM)(x:AV)(xs:List AV):cZ prog H 3 (.ptr (x::xs))=some x:=by kernel_rfl
@[go_sem] theorem bRx(H:aM)(x0 x1 x2 x3 x4:AV)(xs:List AV):cZ prog H 30 (.ptr (x0::x1::x2::x3::x4::xs))=some (.agg [x0,x1,x2,x3,x4]):=by kernel_rfl
@[go_sem] theorem bSi(H:aM)(x:AV)(xs:List AV):cZ prog H 43 (.ptr (x::xs))=some x:=by kernel_rfl
@[go_sem] theorem bDt(H:aM)(k:IntKind)(n:Int):rX prog H 3 198 (.v (.int k n))=some (.v (.int .u64 (IntKind.u64.wrap n))):=mH underlying3 underlying198
@[go_sem] theorem bNe(H:aM)(k:IntKind)(n:Int):rX prog H 5 3 (.v (.int k n))=some (.v (.int .i64 (IntKind.i64.wrap n))):=mH underlying5 underlying3
@[go_sem] theorem bJb(H:aM)(k:IntKind)(n:Int):rX prog H 43 5 (.v (.int k n))=some (.v (.int .u8 (IntKind.u8.wrap n))):=mH underlying43 underlying5
def aIt(rec1:List dI→List dI→Int→Option (Bool))(a_0:List dI)(b_1:List dI)(i_5:Int):Option (Bool):=
 (bif (decide (i_5<(a_0.length:Int))) then
  ((idx a_0 i_5).bind fun x2=>
  ((idx b_1 i_5).bind fun x4=>
  (bif (!((x2.A==x4.A)&&(x2.B==x4.B))) then
   some false
  else
   rec1 a_0 b_1 (IntKind.i64.wrap (i_5+1)))))
 else
  some true)
def aBm:Nat→List dI→List dI→Int→Option (Bool)
 |0=>fun _ _ _=>none
 |n+1=>aIt (aBm n)
def aDb(a_0:List dI)(b_1:List dI):Option (Bool):=
 (bif ((a_0.length:Int) !=(b_1.length:Int)) then
  some false
 else
  aBm aZ a_0 b_1 0)
theorem bC1:K2 prog (vl dW) (vl dW) vb 64 aDb:=by
 intro a_0 b_1 r hm
 let I1:=((fun m s=> ∃a_0 b_1 i_5,s=⟨26,(aG (aG (aG fa 0 (vl dW a_0)) 1 (vl dW b_1)) 5 (vi i_5)),⟨bR,64⟩⟩∧aBm m a_0 b_1 i_5=some r):Nat→St→Prop)
 exact be 26 func64 (h:=G)
instance:Ct prog 64 (K2 prog (vl dW) (vl dW) vb 64 aDb):=⟨bC1⟩
def aIq(rec1:List aH→List aH→Int→Option (Bool))(a_0:List aH)(b_1:List aH)(i_5:Int):Option (Bool):=
 (bif (decide (i_5<(a_0.length:Int))) then
  ((idx a_0 i_5).bind fun x2=>
  ((idx b_1 i_5).bind fun x4=>
  (bif (!((x2.U==x4.U)&&((x2.V==x4.V)&&(x2.Tier==x4.Tier)))) then
   some false
  else
   rec1 a_0 b_1 (IntKind.i64.wrap (i_5+1)))))
 else
  some true)
def aBj:Nat→List aH→List aH→Int→Option (Bool)
 |0=>fun _ _ _=>none
 |n+1=>aIq (aBj n)
def aD9(a_0:List aH)(b_1:List aH):Option (Bool):=
 (bif ((a_0.length:Int) !=(b_1.length:Int)) then
  some false
 else
  aBj aZ a_0 b_1 0)
theorem bBz:K2 prog (vl bE) (vl bE) vb 65 aD9:=by
 intro a_0 b_1 r hm
 let I1:=((fun m s=> ∃a_0 b_1 i_5,s=⟨26,(aG (aG (aG fa 0 (vl bE a_0)) 1 (vl bE b_1)) 5 (vi i_5)),⟨bR,64⟩⟩∧aBj m a_0 b_1 i_5=some r):Nat→St→Prop)
 exact be 26 func65 (h:=G)
instance:Ct prog 65 (K2 prog (vl bE) (vl bE) vb 65 aD9):=⟨bBz⟩
def aDc(a_0:aU)(b_1:aU):Option (Bool):=
 ((dX (((a_0.Config.N==b_1.Config.N)&&((a_0.Config.L==b_1.Config.L)&&(a_0.Config.R==b_1.Config.R)))==true) false (aDb a_0.Hashes b_1.Hashes)).bind fun r2=>
 ((dX ((((a_0.Config.N==b_1.Config.N)&&((a_0.Config.L==b_1.Config.L)&&(a_0.Config.R==b_1.Config.R)))&&r2)==true) false (aD9 a_0.Edges b_1.Edges)).bind fun r4=>
 some ((((a_0.Config.N==b_1.Config.N)&&((a_0.Config.L==b_1.Config.L)&&(a_0.Config.R==b_1.Config.R)))&&r2)&&r4)))
theorem bC2:K2 prog fY fY vb 24 aDc:=fun hm=>be 24 func24 (h:=G)
instance:Ct prog 24 (K2 prog fY fY vb 24 aDc):=⟨bC2⟩
def aIr(rec1:List Int→List Int→Int→Option (Bool))(a_0:List Int)(b_1:List Int)(i_5:Int):Option (Bool):=
 (bif (decide (i_5<(a_0.length:Int))) then
  ((idx a_0 i_5).bind fun x2=>
  ((idx b_1 i_5).bind fun x4=>
  (bif (x2 !=x4) then
   some false
  else
   rec1 a_0 b_1 (IntKind.i64.wrap (i_5+1)))))
 else
  some true)
def aBk:Nat→List Int→List Int→Int→Option (Bool)
 |0=>fun _ _ _=>none
 |n+1=>aIr (aBk n)
def aAl(a_0:List Int)(b_1:List Int):Option (Bool):=
 (bif ((a_0.length:Int) !=(b_1.length:Int)) then
  some false
 else
  aBk aZ a_0 b_1 0)
theorem aKj:K2 prog (vl (ci .u64)) (vl (ci .u64)) vb 33 aAl:=by
 intro a_0 b_1 r hm
 let I1:=((fun m s=> ∃a_0 b_1 i_5,s=⟨26,(aG (aG (aG fa 0 (vl (ci .u64) a_0)) 1 (vl (ci .u64) b_1)) 5 (vi i_5)),⟨bR,64⟩⟩∧aBk m a_0 b_1 i_5=some r):Nat→St→Prop)
 exact be 26 func33 (h:=G)
instance:Ct prog 33 (K2 prog (vl (ci .u64)) (vl (ci .u64)) vb 33 aAl):=⟨aKj⟩
def mP(l:List dI):Option (List dI):=aX9 16 [] l
theorem aMu{r:List dI}(hm:some []=some r):kL prog 69 [.v (.slice none 0 0)] 2 (r.flatMap dW) r.length:=by
 refine kL.of_body func69 rfl (nS.fmdat r) ?_;simp only [ntmps69,List.length_cons,List.length_nil,Nat.reduceAdd,Nat.reduceSub,nD];refine sN 64 (pA ?_);refine fs (AWp.seq' (sN 128 (pA ?_)));refine pu rfl (aDn Z1 Z1 (aN6 underlying27)) ?_;refine fs (AWp.condT Z1 ?_);refine sN 192 (pA ?_);refine fs (AWp.weaken (aIb 2 900002 2 Z1 Z5) ?_);refine AWp.ret (lD ?_);cases hm;exact aOc (.inr rfl) Tryz.results69 Z1 Z3 Z6
theorem aMv{a:Addr}{c:Nat}{r:List dI}(hm:((aX9 16 [] []).bind fun l2=>
some l2)=some r):kL prog 69 [.v (.slice (some a) 0 c)] 2 (r.flatMap dW) r.length:=by
 refine kL.of_body func69 rfl (nS.fmdat r) ?_;simp only [ntmps69,List.length_cons,List.length_nil,Nat.reduceAdd,Nat.reduceSub,nD];refine sN 64 (pA ?_);refine fs (AWp.seq' (sN 128 (pA ?_)));refine pu rfl (aDn Z1 Z1 (aL2 underlying27)) ?_;refine fs (AWp.condF Z1 ?_);refine AWp.skip (aV (sN 192 (hp (id:=128) rfl rfl (qU nS (l:=[]) underlying27 bCf bCx Z5 Zd Zd Zd (by simp only [go_sem,Nat.reduceBEq];try rfl) (by kernel_rfl)) ?_)));refine pA ?_;obtain ⟨l2,h1,hm⟩:=bnd hm;refine hp (id:=130) rfl rfl (bGy nS underlying27 underlying27 rfl bHq bIl aRc (by rw [aRc];decide) bIn Zd Zd Z1 Z3 Z6 (aS0 Z1) rfl Z5 h1) ?_;refine pA ?_;refine fs (AWp.ret ?_);cases hm;exact aOc (.inr rfl) Tryz.results69 Z1 Z3 Z6
theorem aMw{x0:dI}{l0:List dI}{r:List dI}(hm:((aX9 16 [] (x0::l0)).bind fun l2=>
some l2)=some r):kL prog 69 [.sl ((x0::l0).flatMap dW) (x0::l0).length false] 2 (r.flatMap dW) r.length:=by
 refine kL.of_body func69 rfl (nS.fmdat r) ?_;simp only [ntmps69,List.length_cons,List.length_nil,Nat.reduceAdd,Nat.reduceSub,nD];refine sN 64 (pA ?_);refine fs (AWp.seq' (sN 128 (pA ?_)));refine pu rfl (aDn Z1 Z1 (aL1 underlying27 (by simp))) ?_;refine fs (AWp.condF Z1 ?_);refine AWp.skip (aV (sN 192 (hp (id:=128) rfl rfl (qU nS (l:=[]) underlying27 bCf bCx Z5 Zd Zd Zd (by simp only [go_sem,Nat.reduceBEq];try rfl) (by kernel_rfl)) ?_)));refine pA ?_;obtain ⟨l2,h1,hm⟩:=bnd hm;refine hp (id:=130) rfl rfl (bGy nS underlying27 underlying27 rfl bHq bIl aRc (by rw [aRc];decide) bIn Zd Zd Z1 Z3 Z6 (aVq nS Z1 rfl) rfl Z5 h1) ?_;refine pA ?_;refine fs (AWp.ret ?_);cases hm;exact aOc (.inr rfl) Tryz.results69 Z1 Z3 Z6
theorem aOm{l r:List dI}(hm:mP l=some r):kL prog 69 [.sl (l.flatMap dW) l.length false] 2 (r.flatMap dW) r.length:=by
 cases l with
 |nil=>
  have hr:r=[]:=by unfold mP aX9 at hm;simpa using hm.symm
  subst hr;exact kL.nil_arg (aMu (r:=[]) rfl) (fun a c=>aMv (r:=[]) rfl)
 |cons x0 l0=>
  refine aMw ?_;show (aX9 16 [] (x0::l0)).bind _=_;unfold mP at hm;rw [hm];rfl
theorem aOl{l r:List dI}(hm:mP l=some r):dT prog 69 [.sl (l.flatMap dW) l.length false] (.sl (r.flatMap dW) r.length false):=dT.of_fresh nS (aOm hm)
instance:Ct prog 69 (K1 prog (vl dW) (vl dW) 69 mP):=⟨fun hm=>aOl hm⟩
def vQ(bPy:Int):Option (Bool):=
 some ((decide (0≤bPy))&&(decide (bPy≤16)))
theorem aM1:K1 prog vi vb 120 vQ:=fun hm=>be 9 func120 (h:=G)
instance:Ct prog 120 (K1 prog vi vb 120 vQ):=⟨aM1⟩
def aA2(a_0:aH)(b_1:aH):Option (Bool):=
 some ((decide (a_0.U<b_1.U))||((a_0.U==b_1.U)&&(decide (a_0.V<b_1.V))))
theorem aTi:K2 prog aJ8 aJ8 vb 121 aA2:=fun hm=>be 24 func121 (h:=G)
instance:Ct prog 121 (K2 prog aJ8 aJ8 vb 121 aA2):=⟨aTi⟩
def aH0(rec1:Int→List aH→List aH→Int→Int→Option (Bool))(n_0:Int)(l_1:List aH)(t13:List aH)(t14:Int)(t15:Int):Option (Bool):=
 (bif (decide (t15<t14)) then
  ((idx t13 t15).bind fun x2=>
  ((dX ((((decide (x2.U<0))||(decide (x2.V≤x2.U)))||(decide (n_0≤x2.V)))==false) false (vQ x2.Tier)).bind fun r4=>
  (bif ((((decide (x2.U<0))||(decide (x2.V≤x2.U)))||(decide (n_0≤x2.V)))||(!r4)) then
   some false
  else
   ((dX ((decide (0<t15))==true) (aH.mk 0 0 0) (idx l_1 (IntKind.i64.wrap (t15-1)))).bind fun x6=>
   ((dX ((decide (0<t15))==true) false (aA2 x6 x2)).bind fun r8=>
   (bif ((decide (0<t15))&&(!r8)) then
    some false
   else
    rec1 n_0 l_1 t13 t14 (IntKind.i64.wrap (t15+1))))))))
 else
  some true)
def zQ:Nat→Int→List aH→List aH→Int→Int→Option (Bool)
 |0=>fun _ _ _ _ _=>none
 |n+1=>aH0 (zQ n)
def oJ(n_0:Int)(l_1:List aH):Option (Bool):=
 (bif ((decide (n_0<0))||(decide (1024<n_0))) then
  some false
 else
  zQ aZ n_0 l_1 l_1 (l_1.length:Int) 0)
theorem aEk:K2 prog vi (vl bE) vb 89 oJ:=by
 intro n_0 l_1 r hm
 let I1:=((fun m s=> ∃n_0 l_1 t13 t14 t15,s=⟨55,(aG (aG (aG (aG (aG fa 0 (vi n_0)) 1 (vl bE l_1)) 13 (vl bE t13)) 14 (vi t14)) 15 (vi t15)),⟨bR,64⟩⟩∧zQ m n_0 l_1 t13 t14 t15=some r):Nat→St→Prop)
 exact be 55 func89 (h:=G)
instance:Ct prog 89 (K2 prog vi (vl bE) vb 89 oJ):=⟨aEk⟩
abbrev aFn(rec1:Int→List aH→List aH→Int→Int→Option ((List aH)))(aFo:Int)(aB7:List aH)(t14:List aH)(t15:Int)(t16:Int):Option ((List aH)):=
 rec1 aFo aB7 t14 t15 (IntKind.i64.wrap (t16+1))
def aFm(rec1:Int→List aH→List aH→Int→Int→Option ((List aH)))(aFo:Int)(aB7:List aH)(t14:List aH)(t15:Int)(t16:Int):Option ((List aH)):=
 (bif (decide (t16<t15)) then
  ((idx t14 t16).bind fun x4=>
  (bif ((decide (1≤x4.Tier))&&(decide (x4.Tier≤aFo))) then
   ((app aB7 [x4]).bind fun l6=>
   aFn rec1 aFo l6 t14 t15 t16)
  else
   aFn rec1 aFo aB7 t14 t15 t16))
 else
  some aB7)
def xC:Nat→Int→List aH→List aH→Int→Int→Option ((List aH))
 |0=>fun _ _ _ _ _=>none
 |n+1=>aFm (xC n)
def oB(n_0:Int)(l_1:List aH)(aFo:Int):Option ((List aH)):=
 ((oJ n_0 l_1).bind fun r2=>
 (bif (!r2) then
  some []
 else
  xC aZ aFo [] l_1 (l_1.length:Int) 0))
theorem aM0:K3 prog vi (vl bE) vi (vl bE) 91 oB:=by
 intro n_0 l_1 aFo r hm
 let I1:=((fun m s=> ∃aFo aB7 t14 t15 t16,s=⟨35,(aG (aG (aG (aG (aG fa 2 (vi aFo)) 7 (.own 1 0 aB7.length)) 14 (vl bE t14)) 15 (vi t15)) 16 (vi t16)),⟨(upd bR 1 (.cells 3 (aB7.flatMap bE) 0)),64⟩⟩∧xC m aFo aB7 t14 t15 t16=some r):Nat→St→Prop)
 exact be 35 func91 (h:=G)
instance:Ct prog 91 (K3 prog vi (vl bE) vi (vl bE) 91 oB):=⟨aM0⟩
def aIk(rec1:List Int→List Int→Int→Int→Option (Bool))(p_0:List Int)(t5:List Int)(t6:Int)(t7:Int):Option (Bool):=
 (bif (decide (t7<t6)) then
  ((idx t5 t7).bind fun x2=>
  ((nO (p_0.length:Int) x2).bind fun r4=>
  ((dX (((!r4)||(decide (t7<x2)))==false) 0 (idx p_0 x2)).bind fun x6=>
  (bif (((!r4)||(decide (t7<x2)))||(x6 !=x2)) then
   some false
  else
   rec1 p_0 t5 t6 (IntKind.i64.wrap (t7+1))))))
 else
  some true)
def aBi:Nat→List Int→List Int→Int→Int→Option (Bool)
 |0=>fun _ _ _ _=>none
 |n+1=>aIk (aBi n)
def aAj(p_0:List Int):Option (Bool):=
 aBi aZ p_0 p_0 (p_0.length:Int) 0
theorem bBr:K1 prog (vl (ci .i64)) vb 102 aAj:=by
 intro p_0 r hm
 let I1:=((fun m s=> ∃p_0 t5 t6 t7,s=⟨31,(aG (aG (aG (aG fa 0 (vl (ci .i64) p_0)) 5 (vl (ci .i64) t5)) 6 (vi t6)) 7 (vi t7)),⟨bR,64⟩⟩∧aBi m p_0 t5 t6 t7=some r):Nat→St→Prop)
 exact be 31 func102 (h:=G)
instance:Ct prog 102 (K1 prog (vl (ci .i64)) vb 102 aAj):=⟨bBr⟩
abbrev aKe(rec1:Int→List Int→Int→Int→Option (Int))(aK4:Int)(t9:List Int)(t10:Int)(t11:Int):Option (Int):=
 rec1 aK4 t9 t10 (IntKind.i64.wrap (t11+1))
def aKd(rec1:Int→List Int→Int→Int→Option (Int))(aK4:Int)(t9:List Int)(t10:Int)(t11:Int):Option (Int):=
 (bif (decide (t11<t10)) then
  ((idx t9 t11).bind fun x4=>
  (bif (t11==x4) then
   aKe rec1 (IntKind.i64.wrap (aK4+1)) t9 t10 t11
  else
   aKe rec1 aK4 t9 t10 t11))
 else
  some aK4)
def aD7:Nat→Int→List Int→Int→Int→Option (Int)
 |0=>fun _ _ _ _=>none
 |n+1=>aKd (aD7 n)
def aFb(p_0:List Int):Option (Int):=
 ((aAj p_0).bind fun r2=>
 (bif (!r2) then
  some 0
 else
  aD7 aZ 0 p_0 (p_0.length:Int) 0))
theorem bG7:K1 prog (vl (ci .i64)) vi 122 aFb:=by
 intro p_0 r hm
 let I1:=((fun m s=> ∃aK4 t9 t10 t11,s=⟨23,(aG (aG (aG (aG fa 3 (vi aK4)) 9 (vl (ci .i64) t9)) 10 (vi t10)) 11 (vi t11)),⟨bR,64⟩⟩∧aD7 m aK4 t9 t10 t11=some r):Nat→St→Prop)
 exact be 23 func122 (h:=G)
instance:Ct prog 122 (K1 prog (vl (ci .i64)) vi 122 aFb):=⟨bG7⟩
def tV(n_0:Int)(l_1:List aH):Option (Bool):=
 ((zE n_0 l_1).bind fun ⟨r2,r3⟩=>
 ((dX ((r3==0)==true) 0 (aFb r2)).bind fun r5=>
 some ((r3==0)&&(r5==(IntKind.i64.wrap (n_0-(l_1.length:Int)))))))
theorem aNr:K2 prog vi (vl bE) vb 90 tV:=fun hm=>be 24 func90 (h:=G)
instance:Ct prog 90 (K2 prog vi (vl bE) vb 90 tV):=⟨aNr⟩
def aFe(rec2:aU→bZ→List aH→Int→Int→Option (Bool))(g_1:aU)(c_3:bZ)(t70:List aH)(t71:Int)(t72:Int):Option (Bool):=
 (bif (decide (t72<t71)) then
  ((idx t70 t72).bind fun x6=>
  (bif (decide (c_3.L<x6.Tier)) then
   some false
  else
   rec2 g_1 c_3 t70 t71 (IntKind.i64.wrap (t72+1))))
 else
  ((oB c_3.N g_1.Edges c_3.L).bind fun r8=>
  ((tV c_3.N r8).bind fun r10=>
  some r10)))
def wQ:Nat→aU→bZ→List aH→Int→Int→Option (Bool)
 |0=>fun _ _ _ _ _=>none
 |n+1=>aFe (wQ n)
def aFd(rec1:aU→bZ→List dI→Int→Int→Option (Bool))(g_1:aU)(c_3:bZ)(t48:List dI)(t49:Int)(t50:Int):Option (Bool):=
 (bif (decide (t50<t49)) then
  ((idx t48 t50).bind fun x2=>
  (bif ((decide (2305843009213693951≤x2.A))||(decide (2305843009213693951≤x2.B))) then
   some false
  else
   rec1 g_1 c_3 t48 t49 (IntKind.i64.wrap (t50+1))))
 else
  ((oJ c_3.N g_1.Edges).bind fun r4=>
  (bif (!r4) then
   some false
  else
   wQ aZ g_1 c_3 g_1.Edges (g_1.Edges.length:Int) 0)))
def wP:Nat→aU→bZ→List dI→Int→Int→Option (Bool)
 |0=>fun _ _ _ _ _=>none
 |n+1=>aFd (wP n)
def lX(g_0:aU):Option (Bool):=
 (bif ((((((decide (g_0.Config.N<1))||(decide (1024<g_0.Config.N)))||(decide (g_0.Config.L<1)))||(decide (16<g_0.Config.L)))||(decide (g_0.Config.R<1)))||(decide (8<g_0.Config.R))) then
  some false
 else
  (bif ((g_0.Hashes.length:Int) !=(IntKind.i64.wrap (g_0.Config.L*g_0.Config.R))) then
   some false
  else
   wP aZ g_0 g_0.Config g_0.Hashes (g_0.Hashes.length:Int) 0))
theorem aV8:K1 prog fY vb 49 lX:=by
 intro g_0 r hm
 let I1:=((fun m s=> ∃g_1 c_3 t48 t49 t50,s=⟨92,(aG (aG (aG (aG (aG fa 1 (.adr 1 0)) 3 (.adr 2 0)) 48 (vl dW t48)) 49 (vi t49)) 50 (vi t50)),⟨(upd (upd bR 1 (.cells 1 [vi g_1.Config.N,vi g_1.Config.L,vi g_1.Config.R,vl dW g_1.Hashes,vl bE g_1.Edges] 0)) 2 (.cells 1 [vi c_3.N,vi c_3.L,vi c_3.R] 0)),64⟩⟩∧wP m g_1 c_3 t48 t49 t50=some r):Nat→St→Prop)
 let I2:=((fun m s=> ∃g_1 c_3 t70 t71 t72,s=⟨92,(aG (aG (aG (aG (aG fa 1 (.adr 1 0)) 3 (.adr 2 0)) 70 (vl bE t70)) 71 (vi t71)) 72 (vi t72)),⟨(upd (upd bR 1 (.cells 1 [vi g_1.Config.N,vi g_1.Config.L,vi g_1.Config.R,vl dW g_1.Hashes,vl bE g_1.Edges] 0)) 2 (.cells 1 [vi c_3.N,vi c_3.L,vi c_3.R] 0)),64⟩⟩∧wQ m g_1 c_3 t70 t71 t72=some r):Nat→St→Prop)
 exact be 92 func49 (h:=G)
instance:Ct prog 49 (K1 prog fY vb 49 lX):=⟨aV8⟩
def aFq(c_0:bZ)(bO4:List dI):Option (aU×Int):=
 ((mP bO4).bind fun r2=>
 ((lX (aU.mk c_0 r2 [])).bind fun r4=>
 (bif (!r4) then
  some ((aU.mk (bZ.mk 0 0 0) [] []),1)
 else
  some ((aU.mk c_0 r2 []),0))))
theorem aUb:K2 prog aHl (vl dW) (t2 fY vi) 36 aFq:=fun hm=>be 16 func36 (h:=G)
instance:Ct prog 36 (K2 prog aHl (vl dW) (t2 fY vi) 36 aFq):=⟨aUb⟩
def xH(g_0:aU):Option ((List Int)):=
 ((lX g_0).bind fun r2=>
 (bif (!r2) then
  some []
 else
  ((oB g_0.Config.N g_0.Edges g_0.Config.L).bind fun r4=>
  ((zE g_0.Config.N r4).bind fun ⟨r6,r7⟩=>
  some r6))))
theorem bCl:K1 prog fY (vl (ci .i64)) 73 xH:=fun hm=>be 25 func73 (h:=G)
instance:Ct prog 73 (K1 prog fY (vl (ci .i64)) 73 xH):=⟨bCl⟩
def aK7(rec1:Int→Int→List aH→Int→Int→Option (Int×Bool))(u_1:Int)(v_2:Int)(t10:List aH)(t11:Int)(t12:Int):Option (Int×Bool):=
 (bif (decide (t12<t11)) then
  ((idx t10 t12).bind fun x2=>
  (bif (((x2.U==u_1)&&(x2.V==v_2))||((x2.U==v_2)&&(x2.V==u_1))) then
   some (t12,true)
  else
   rec1 u_1 v_2 t10 t11 (IntKind.i64.wrap (t12+1))))
 else
  some (0,false))
def aD5:Nat→Int→Int→List aH→Int→Int→Option (Int×Bool)
 |0=>fun _ _ _ _ _=>none
 |n+1=>aK7 (aD5 n)
def uE(l_0:List aH)(u_1:Int)(v_2:Int):Option (Int×Bool):=
 aD5 aZ u_1 v_2 l_0 (l_0.length:Int) 0
theorem aIf:K3 prog (vl bE) vi vi (t2 vi vb) 74 uE:=by
 intro l_0 u_1 v_2 r hm
 let I1:=((fun m s=> ∃u_1 v_2 t10 t11 t12,s=⟨41,(aG (aG (aG (aG (aG fa 1 (vi u_1)) 2 (vi v_2)) 10 (vl bE t10)) 11 (vi t11)) 12 (vi t12)),⟨bR,64⟩⟩∧aD5 m u_1 v_2 t10 t11 t12=some r):Nat→St→Prop)
 exact be 41 func74 (h:=G)
instance:Ct prog 74 (K3 prog (vl bE) vi vi (t2 vi vb) 74 uE):=⟨aIf⟩
abbrev aIi(rec1:List Int→Int→List Int→List Int→Int→Int→Option ((List Int)))(p_0:List Int)(v_1:Int)(aE7:List Int)(t18:List Int)(t19:Int)(t20:Int):Option ((List Int)):=
 rec1 p_0 v_1 aE7 t18 t19 (IntKind.i64.wrap (t20+1))
def aIh(rec1:List Int→Int→List Int→List Int→Int→Int→Option ((List Int)))(p_0:List Int)(v_1:Int)(aE7:List Int)(t18:List Int)(t19:Int)(t20:Int):Option ((List Int)):=
 (bif (decide (t20<t19)) then
  ((idx t18 t20).bind fun x6=>
  ((idx p_0 v_1).bind fun x8=>
  (bif (x6==x8) then
   ((app aE7 [t20]).bind fun l10=>
   aIi rec1 p_0 v_1 l10 t18 t19 t20)
  else
   aIi rec1 p_0 v_1 aE7 t18 t19 t20)))
 else
  some aE7)
def aBh:Nat→List Int→Int→List Int→List Int→Int→Int→Option ((List Int))
 |0=>fun _ _ _ _ _ _=>none
 |n+1=>aIh (aBh n)
def wK(p_0:List Int)(v_1:Int):Option ((List Int)):=
 ((aAj p_0).bind fun r2=>
 ((dX ((!r2)==false) false (nO (p_0.length:Int) v_1)).bind fun r4=>
 (bif ((!r2)||(!r4)) then
  some []
 else
  aBh aZ p_0 v_1 [] p_0 (p_0.length:Int) 0)))
theorem bBp:K2 prog (vl (ci .i64)) vi (vl (ci .i64)) 78 wK:=by
 intro p_0 v_1 r hm
 let I1:=((fun m s=> ∃p_0 v_1 aE7 t18 t19 t20,s=⟨37,(aG (aG (aG (aG (aG (aG fa 0 (vl (ci .i64) p_0)) 1 (vi v_1)) 5 (.own 1 0 aE7.length)) 18 (vl (ci .i64) t18)) 19 (vi t19)) 20 (vi t20)),⟨(upd bR 1 (.cells 1 (aE7.flatMap (ci .i64)) 0)),64⟩⟩∧aBh m p_0 v_1 aE7 t18 t19 t20=some r):Nat→St→Prop)
 exact be 37 func78 (h:=G)
instance:Ct prog 78 (K2 prog (vl (ci .i64)) vi (vl (ci .i64)) 78 wK):=⟨bBp⟩
def aH5(g_0:aU):Option ((List Int)):=
 ((lX g_0).bind fun r2=>
 (bif (!r2) then
  some []
 else
  ((zE g_0.Config.N g_0.Edges).bind fun ⟨r4,r5⟩=>
  some r4)))
theorem bIw:K1 prog fY (vl (ci .i64)) 109 aH5:=fun hm=>be 18 func109 (h:=G)
instance:Ct prog 109 (K1 prog fY (vl (ci .i64)) 109 aH5):=⟨bIw⟩
def aBt(rec1:List Int→List Int→Int→Int→Option (Bool))(aV5:List Int)(aYx:List Int)(t12:Int)(t13:Int):Option (Bool):=
 (bif (decide (t13<t12)) then
  ((idx aV5 t13).bind fun x2=>
  ((idx aYx t13).bind fun x4=>
  (bif (x2 !=x4) then
   some false
  else
   rec1 aV5 aYx t12 (IntKind.i64.wrap (t13+1)))))
 else
  some true)
def sG:Nat→List Int→List Int→Int→Int→Option (Bool)
 |0=>fun _ _ _ _=>none
 |n+1=>aBt (sG n)
def tH(aV5:List Int)(aYx:List Int):Option (Bool):=
 (bif ((aV5.length:Int) !=(aYx.length:Int)) then
  some false
 else
  sG aZ aV5 aYx (aV5.length:Int) 0)
theorem aPv:K2 prog (vl (ci .i64)) (vl (ci .i64)) vb 108 tH:=by
 intro aV5 aYx r hm
 let I1:=((fun m s=> ∃aV5 aYx t12 t13,s=⟨26,(aG (aG (aG (aG fa 0 (vl (ci .i64) aV5)) 1 (vl (ci .i64) aYx)) 12 (vi t12)) 13 (vi t13)),⟨bR,64⟩⟩∧sG m aV5 aYx t12 t13=some r):Nat→St→Prop)
 exact be 26 func108 (h:=G)
instance:Ct prog 108 (K2 prog (vl (ci .i64)) (vl (ci .i64)) vb 108 tH):=⟨aPv⟩
def aAv(g_0:aU):Option (Bool):=
 ((lX g_0).bind fun r2=>
 ((dX (r2==true) [] (xH g_0)).bind fun r4=>
 ((dX (r2==true) [] (aH5 g_0)).bind fun r6=>
 ((dX (r2==true) false (tH r4 r6)).bind fun r8=>
 some (r2&&r8)))))
theorem aXd:K1 prog fY vb 81 aAv:=fun hm=>be 12 func81 (h:=G)
instance:Ct prog 81 (K1 prog fY vb 81 aAv):=⟨aXd⟩
def mI(n_0:Int)(v_1:Int):Option (Bool):=
 some ((decide (0≤v_1))&&(decide (v_1<n_0)))
theorem sT:K2 prog vi vi vb 135 mI:=fun hm=>be 12 func135 (h:=G)
instance:Ct prog 135 (K2 prog vi vi vb 135 mI):=⟨sT⟩
abbrev aEj(rec1:Int→List Int→List aH→Int→Int→Option ((List Int)))(v_2:Int)(aGu:List Int)(t20:List aH)(t21:Int)(t22:Int):Option ((List Int)):=
 rec1 v_2 aGu t20 t21 (IntKind.i64.wrap (t22+1))
def aJ6(rec1:Int→List Int→List aH→Int→Int→Option ((List Int)))(v_2:Int)(aGu:List Int)(t20:List aH)(t21:Int)(t22:Int):Option ((List Int)):=
 (bif (decide (t22<t21)) then
  ((idx t20 t22).bind fun x6=>
  (bif (v_2==x6.U) then
   ((app aGu [x6.V]).bind fun l8=>
   aEj rec1 v_2 l8 t20 t21 t22)
  else
   (bif (v_2==x6.V) then
    ((app aGu [x6.U]).bind fun l10=>
    aEj rec1 v_2 l10 t20 t21 t22)
   else
    aEj rec1 v_2 aGu t20 t21 t22)))
 else
  some aGu)
def aBv:Nat→Int→List Int→List aH→Int→Int→Option ((List Int))
 |0=>fun _ _ _ _ _=>none
 |n+1=>aJ6 (aBv n)
def aGk(n_0:Int)(l_1:List aH)(v_2:Int):Option ((List Int)):=
 ((oJ n_0 l_1).bind fun r2=>
 ((dX ((!r2)==false) false (mI n_0 v_2)).bind fun r4=>
 (bif ((!r2)||(!r4)) then
  some []
 else
  aBv aZ v_2 [] l_1 (l_1.length:Int) 0)))
theorem bCh:K3 prog vi (vl bE) vi (vl (ci .i64)) 101 aGk:=by
 intro n_0 l_1 v_2 r hm
 let I1:=((fun m s=> ∃v_2 aGu t20 t21 t22,s=⟨47,(aG (aG (aG (aG (aG fa 2 (vi v_2)) 7 (.own 1 0 aGu.length)) 20 (vl bE t20)) 21 (vi t21)) 22 (vi t22)),⟨(upd bR 1 (.cells 1 (aGu.flatMap (ci .i64)) 0)),64⟩⟩∧aBv m v_2 aGu t20 t21 t22=some r):Nat→St→Prop)
 exact be 47 func101 (h:=G)
instance:Ct prog 101 (K3 prog vi (vl bE) vi (vl (ci .i64)) 101 aGk):=⟨bCh⟩
def aAo(g_0:aU)(u_1:Int)(v_2:Int):Option (Bool):=
 ((lX g_0).bind fun r2=>
 some ((((r2&&(decide (0≤u_1)))&&(decide (u_1<g_0.Config.N)))&&(decide (0≤v_2)))&&(decide (v_2<g_0.Config.N))))
theorem bCk:K3 prog fY vi vi vb 115 aAo:=fun hm=>be 31 func115 (h:=G)
instance:Ct prog 115 (K3 prog fY vi vi vb 115 aAo):=⟨bCk⟩
abbrev sH(s_0:List aH):Option ((List aH)):=
 some s_0
abbrev vV(n_1:Int):Option ((List aH)):=
 (bif (decide (0<(IntKind.i64.wrap (n_1-(IntKind.i64.wrap (((0:Nat):Int)-((0:Nat):Int))))))) then
  ((chk (((0:Nat):Int)==0)).bind fun _=>
  ((chk (decide (0<(IntKind.i64.wrap (n_1-(IntKind.i64.wrap (((0:Nat):Int)-((0:Nat):Int))))))&&decide ((IntKind.i64.wrap (n_1-(IntKind.i64.wrap (((0:Nat):Int)-((0:Nat):Int)))))≤4294967296))).bind fun _=>
  ((chk (((0:Nat):Int)==0)).bind fun _=>
  sH [])))
 else
  sH [])
def tJ(n_1:Int):Option ((List aH)):=
 (bif (decide (n_1<0)) then
  none
 else
  vV n_1)
theorem aPw{n_1:Int}{r:(List aH)}(hm:tJ n_1=some r):kL prog 167 [.v (.slice none 0 0),.v (.int .i64 n_1)] 3 (r.flatMap bE) r.length:=by
 refine kL.of_body func167 rfl (dU.fmdat r) ?_;simp only [ntmps167,List.length_cons,List.length_nil,Nat.reduceAdd,Nat.reduceSub,nD];unfold tJ at hm;refine sN 64 (pA ?_);refine fs (AWp.seqJ (fun s=> ∃(n_1:Int),s=(⟨27,(aG (aG (fun _=>AV.any) 0 (.v (.slice none 0 0))) 1 (.v (.int .i64 n_1))),⟨bR,64⟩⟩:St)∧vV n_1=some r) ?_ ?_)
 ·
  refine sN 128 ?_
  iterate 2 refine pA ?_
  refine fs (AWp.condM hm Z1 (fun _ hm=>?_) (fun _ hm=>?_))
  · cases hm
  · refine AWp.skip (nH ?_);refine ⟨_,?_,n_1,rfl,hm⟩;exact jL id (wV (wV mF)) aXu
 ·
  rintro s ⟨n_1,rfl,hm⟩;unfold vV at hm;refine AWp.seqJ (fun s=> ∃(s_0:List aH),s=(⟨27,(aG (fun _=>AV.any) 0 (.own 1 0 s_0.length)),⟨(upd bR 1 (.cells 3 (s_0.flatMap bE) 0)),64⟩⟩:St)∧sH s_0=some r) ?_ ?_
  ·
   refine sN 128 ?_
   iterate 2 refine pA ?_
   refine pu rfl (bH1 underlying28 Z1) ?_
   iterate 5 refine pA ?_
   refine fs (sN 192 ?_)
   iterate 2 refine pA ?_
   refine fs (AWp.condM hm Z1 (fun _ hm=>?_) (fun _ hm=>?_))
   ·
    refine AWp.reg 64 (N':=256) rfl ?_
    iterate 2 refine pA ?_
    refine pu rfl (bH1 underlying28 Z1) ?_;obtain ⟨_,h3,hm⟩:=bnd hm;refine pu rfl (bMp underlying28 aGi Z1 Z1 (eq_of_beq (yU h3))) ?_;refine pA ?_;obtain ⟨_,h4,hm⟩:=bnd hm;refine hp (id:=197) rfl rfl (bQb underlying28 underlying3 rfl bAv bCo (by rw [aM2];decide) (by rw [aM2];decide) bCp Zd Zd Z1 Z1 Z5 h4) ?_
    iterate 2 refine pA ?_
    obtain ⟨_,h8,hm⟩:=bnd hm;refine pu rfl (bQh underlying28 aGi Z1 Z3 Z1 (eq_of_beq (yU h8))) ?_;refine pA ?_;refine aI.fin (nH ?_);refine ⟨_,?_,[],rfl,hm⟩;refine St.Le.trans (bT0 197 Z3) ?_;exact jL (fun j=>bif j==1 then 197 else 0) (wO mF) (hW (eU dU mT))
   · refine AWp.skip (nH ?_);refine ⟨_,?_,[],rfl,hm⟩;refine St.Le.trans (aIb 0 900000 3 Z1 Z5) ?_;exact jL (fun j=>bif j==1 then 900000 else 0) (wO mF) (hW (eU dU mT))
  ·
   rintro s ⟨s_0,rfl,hm⟩;unfold sH at hm;refine sN 128 ?_
   iterate 2 refine pA ?_
   refine fs (AWp.ret ?_);cases hm;exact aOc (.inr rfl) Tryz.results167 Z1 Z3 Z6
abbrev yQ(rec1:List (List aH)→Int→List (List aH)→Int→Int→Option ((List aH)))(mV:List (List aH))(aCi:Int)(t9:List (List aH))(t10:Int)(t11:Int):Option ((List aH)):=
 rec1 mV aCi t9 t10 (IntKind.i64.wrap (t11+1))
def yP(rec2:List aH→List (List aH)→Int→Int→Option ((List aH)))(aA3:List aH)(t25:List (List aH))(t26:Int)(t27:Int):Option ((List aH)):=
 (bif (decide (t27<t26)) then
  ((idx t25 t27).bind fun x6=>
  ((app aA3 x6).bind fun l8=>
  rec2 l8 t25 t26 (IntKind.i64.wrap (t27+1))))
 else
  some aA3)
def qS:Nat→List aH→List (List aH)→Int→Int→Option ((List aH))
 |0=>fun _ _ _ _=>none
 |n+1=>yP (qS n)
def yO(rec1:List (List aH)→Int→List (List aH)→Int→Int→Option ((List aH)))(mV:List (List aH))(aCi:Int)(t9:List (List aH))(t10:Int)(t11:Int):Option ((List aH)):=
 (bif (decide (t11<t10)) then
  ((idx t9 t11).bind fun x2=>
  (bif (decide ((IntKind.i64.wrap (aCi+(x2.length:Int)))<0)) then
   none
  else
   yQ rec1 mV (IntKind.i64.wrap (aCi+(x2.length:Int))) t9 t10 t11))
 else
  ((tJ aCi).bind fun r4=>
  qS aZ r4 mV (mV.length:Int) 0))
def oL:Nat→List (List aH)→Int→List (List aH)→Int→Int→Option ((List aH))
 |0=>fun _ _ _ _ _=>none
 |n+1=>yO (oL n)
def oW(mV:List (List aH)):Option ((List aH)):=
 oL aZ mV 0 mV (mV.length:Int) 0
theorem aA7{mV:List (List aH)}{r:(List aH)}(hm:oW mV=some r):dT prog 140 [.sl (mV.flatMap (csl bE)) mV.length false] (vl bE r):=by
 refine bd 36 func140 ?_;refine W ?_;refine lp (fun m s=> ∃mV aCi t9 t10 t11,s=⟨36,(aG (aG (aG (aG (aG fa 0 (.sl (mV.flatMap (csl bE)) mV.length false)) 3 (vi aCi)) 9 (.sl (t9.flatMap (csl bE)) t9.length false)) 10 (vi t10)) 11 (vi t11)),⟨bR,64⟩⟩∧oL m mV aCi t9 t10 t11=some r) L ?_;rintro n1 s ⟨mV,aCi,t9,t10,t11,rfl,hm⟩;refine W ?_;refine cm hm (fun hm=>?_) fun hm=>?_
 ·
  refine V ?_;refine AWp.seqJ (fun s=> ∃mV aCi t9 t10 t11,s=⟨36,(aG (aG (aG (aG (aG fa 0 (.sl (mV.flatMap (csl bE)) mV.length false)) 3 (vi aCi)) 9 (.sl (t9.flatMap (csl bE)) t9.length false)) 10 (vi t10)) 11 (vi t11)),⟨bR,64⟩⟩∧yQ (oL n1) mV aCi t9 t10 t11=some r) ?_ ?_
  ·
   obtain ⟨x2,h1,hm⟩:=bnd hm;refine W ?_;refine cm hm (fun hm=>?_) fun hm=>?_
   · cases hm
   exact L
  rintro s ⟨mV,aCi,t9,t10,t11,rfl,hm⟩;exact L
 obtain ⟨r4,h3,hm⟩:=bnd hm;refine W ?_;refine aI.callF (id:=129) Zd Z1 bY4 (fun H=>(cV (cV .nil))) dU Z5 (aPw h3) ?_;refine W ?_;refine lp (fun m s=> ∃aA3 t25 t26 t27,s=⟨36,(aG (aG (aG (aG fa 6 (.own 1 0 aA3.length)) 25 (.sl (t25.flatMap (csl bE)) t25.length false)) 26 (vi t26)) 27 (vi t27)),⟨(upd bR 1 (.cells 3 (aA3.flatMap bE) 0)),64⟩⟩∧qS m aA3 t25 t26 t27=some r) (Lr (fun j=>bif j==1 then 129 else 0)) ?_;rintro n2 s ⟨aA3,t25,t26,t27,rfl,hm⟩;refine W ?_;refine cm hm (fun hm=>?_) fun hm=>?_
 · obtain ⟨x6,h5,hm⟩:=bnd hm;obtain ⟨l8,h7,hm⟩:=bnd hm;refine W ?_;exact Lr (fun j=>bif j==1 then 194 else 0)
 exact E
instance:Ct prog 140 (K1 prog (vl (csl bE)) (vl bE) 140 oW):=⟨fun hm=>aA7 hm⟩
def aKx(rec1:List aH→aH→Int→Option ((List aH)×Int))(l_1:List aH)(lF:aH)(sC:Int):Option ((List aH)×Int):=
 ((dX ((decide (sC<(l_1.length:Int)))==true) (aH.mk 0 0 0) (idx l_1 sC)).bind fun x11=>
 ((dX ((decide (sC<(l_1.length:Int)))==true) false (aA2 x11 lF)).bind fun r13=>
 (bif ((decide (sC<(l_1.length:Int)))&&r13) then
  rec1 l_1 lF (IntKind.i64.wrap (sC+1))
 else
  ((slc l_1 0 sC).bind fun l15=>
  ((slc l_1 sC (l_1.length:Int)).bind fun l17=>
  ((oW [l15,[lF],l17]).bind fun r19=>
  some (r19,0)))))))
def aDk:Nat→List aH→aH→Int→Option ((List aH)×Int)
 |0=>fun _ _ _=>none
 |n+1=>aKx (aDk n)
def aFl(n_0:Int)(l_1:List aH)(u_2:Int)(v_3:Int):Option ((List aH)×Int):=
 ((oJ n_0 l_1).bind fun r2=>
 ((dX ((!r2)==false) false (mI n_0 u_2)).bind fun r4=>
 ((dX (((!r2)||(!r4))==false) false (mI n_0 v_3)).bind fun r6=>
 (bif (((!r2)||(!r4))||(!r6)) then
  some (l_1,1)
 else
  (bif (u_2==v_3) then
   some (l_1,8)
  else
   ((uE l_1 u_2 v_3).bind fun ⟨r8,r9⟩=>
   (bif r9 then
    some (l_1,4)
   else
    aDk aZ l_1 (aH.mk (if v_3<u_2 then v_3 else u_2) (if u_2<v_3 then v_3 else u_2) 0) 0)))))))
theorem bGk{n_0:Int}{l_1:List aH}{u_2:Int}{v_3:Int}{r:(List aH)×Int}(hm:aFl n_0 l_1 u_2 v_3=some r):dT prog 116 [vi n_0,vl bE l_1,vi u_2,vi v_3] (.tup [vl bE r.1,vi r.2]):=by
 refine bd 75 func116 ?_;obtain ⟨r2,h1,hm⟩:=bnd hm;refine W ?_;refine cq (aEk h1) ?_;obtain ⟨r4,h3,hm⟩:=bnd hm;refine W ?_;refine cg (fun hb=>sT (bI h3 hb)) ?_;obtain ⟨r6,h5,hm⟩:=bnd hm;refine W ?_;refine cg (fun hb=>sT (bI h5 hb)) ?_;refine W ?_;refine cm hm (fun hm=>?_) fun hm=>?_
 · exact E
 refine W ?_;refine cm hm (fun hm=>?_) fun hm=>?_
 · exact E
 refine W ?_;obtain ⟨⟨r8,r9⟩,h7,hm⟩:=bnd hm;refine cq (aIf h7) ?_;refine W ?_;refine cm hm (fun hm=>?_) fun hm=>?_
 · exact E
 refine W ?_;refine bU (.agg [.v (.int .i64 (if v_3<u_2 then v_3 else u_2)),.v (.int .i64 (if u_2<v_3 then v_3 else u_2)),vi 0]) ?_;refine W ?_;refine lp (fun m s=> ∃l_1 lF sC,s=⟨75,(aG (aG (aG fa 1 (vl bE l_1)) 12 (.adr 1 0)) 13 (vi sC)),⟨(upd bR 1 (.cells 1 [vi lF.U,vi lF.V,vi lF.Tier] 0)),64⟩⟩∧aDk m l_1 lF sC=some r) (Lr (fun j=>bif j==1 then 327 else 0)) ?_;rintro n1 s ⟨l_1,lF,sC,rfl,hm⟩;obtain ⟨x11,h10,hm⟩:=bnd hm;obtain ⟨r13,h12,hm⟩:=bnd hm;refine W ?_;refine cg (fun hb=>aTi (bI h12 hb)) ?_;refine W ?_;refine cm hm (fun hm=>?_) fun hm=>?_
 · refine W ?_;exact Lr (fun j=>bif j==1 then 1 else 0)
 obtain ⟨l15,h14,hm⟩:=bnd hm
 iterate 10 refine S1 ?_
 refine aI.pop Zd (aG8 (ps:=[(0,.agg [.v (.int .i64 lF.U),.v (.int .i64 lF.V),.v (.int .i64 lF.Tier)])]) (by simp only [go_sem,Nat.reduceBEq];try rfl) (aB4 (.agg _ (dU.dat lF)) aS5)) (aO6 dU (l:=[lF]) (xs:=[.v (.int .i64 lF.U),.v (.int .i64 lF.V),.v (.int .i64 lF.Tier)]) underlying28 aGi aOz Zd Zd Zd (ps:=[(0,.agg [.v (.int .i64 lF.U),.v (.int .i64 lF.V),.v (.int .i64 lF.Tier)])]) (by simp only [go_sem,Nat.reduceBEq];try rfl) (by kernel_rfl) (fun H=>(.cons (.data _ (.v _)) (.cons (.data _ (.v _)) (.cons (.data _ (.v _)) .nil))))) rfl ?_;obtain ⟨l17,h16,hm⟩:=bnd hm
 iterate 3 refine S1 ?_
 refine aI.pop Zd (aG8 (ps:=[(0,.sl (l15.flatMap bE) l15.length (false&&(sC:Int).toNat==l_1.length)),(1,.sl (([lF]).flatMap bE) ([lF]).length false),(2,.sl (l17.flatMap bE) l17.length (false&&((l_1.length:Int):Int).toNat==l_1.length))]) (by simp only [go_sem,Nat.reduceBEq];try rfl) (aB4 (dU.sl _ _ _) (aB4 (dU.sl _ _ _) (aB4 (dU.sl _ _ _) aS5)))) (aO6 (CFl dU) (l:=[l15,[lF],l17]) (xs:=[.sl (l15.flatMap bE) l15.length (false&&(sC:Int).toNat==l_1.length),.sl (([lF]).flatMap bE) ([lF]).length false,.sl (l17.flatMap bE) l17.length (false&&((l_1.length:Int):Int).toNat==l_1.length)]) underlying225 bTi bWr Zd Zd Zd (ps:=[(0,.sl (l15.flatMap bE) l15.length (false&&(sC:Int).toNat==l_1.length)),(1,.sl (([lF]).flatMap bE) ([lF]).length false),(2,.sl (l17.flatMap bE) l17.length (false&&((l_1.length:Int):Int).toNat==l_1.length))]) (by simp only [go_sem,Nat.reduceBEq];try rfl) (by kernel_rfl) (fun H=>(.cons (tdf rfl (dU.sl _ _ _)) (.cons (.data _ (dU.sl _ _ _)) (.cons (tdf rfl (dU.sl _ _ _)) .nil))))) rfl ?_;obtain ⟨r19,h18,hm⟩:=bnd hm;refine cq (aA7 h18) ?_;exact E
instance:Ct prog 116 (K4 prog vi (vl bE) vi vi (t2 (vl bE) vi) 116 aFl):=⟨fun hm=>bGk hm⟩
def zP(n_0:Int)(l_1:List aH)(u_2:Int)(v_3:Int):Option ((List aH)×Int):=
 ((oJ n_0 l_1).bind fun r2=>
 ((dX ((!r2)==false) false (mI n_0 u_2)).bind fun r4=>
 ((dX (((!r2)||(!r4))==false) false (mI n_0 v_3)).bind fun r6=>
 (bif (((!r2)||(!r4))||(!r6)) then
  some (l_1,1)
 else
  ((uE l_1 u_2 v_3).bind fun ⟨r8,r9⟩=>
  (bif (!r9) then
   some (l_1,9)
  else
   ((slc l_1 0 r8).bind fun l11=>
   ((slc l_1 (IntKind.i64.wrap (r8+1)) (l_1.length:Int)).bind fun l13=>
   ((oW [l11,l13]).bind fun r15=>
   some (r15,0))))))))))
theorem aVe{n_0:Int}{l_1:List aH}{u_2:Int}{v_3:Int}{r:(List aH)×Int}(hm:zP n_0 l_1 u_2 v_3=some r):dT prog 118 [vi n_0,vl bE l_1,vi u_2,vi v_3] (.tup [vl bE r.1,vi r.2]):=by
 refine bd 48 func118 ?_;obtain ⟨r2,h1,hm⟩:=bnd hm;refine W ?_;refine cq (aEk h1) ?_;obtain ⟨r4,h3,hm⟩:=bnd hm;refine W ?_;refine cg (fun hb=>sT (bI h3 hb)) ?_;obtain ⟨r6,h5,hm⟩:=bnd hm;refine W ?_;refine cg (fun hb=>sT (bI h5 hb)) ?_;refine W ?_;refine cm hm (fun hm=>?_) fun hm=>?_
 · exact E
 refine W ?_;obtain ⟨⟨r8,r9⟩,h7,hm⟩:=bnd hm;refine cq (aIf h7) ?_;refine W ?_;refine cm hm (fun hm=>?_) fun hm=>?_
 · exact E
 obtain ⟨l11,h10,hm⟩:=bnd hm;obtain ⟨l13,h12,hm⟩:=bnd hm
 iterate 10 refine S1 ?_
 refine aI.pop Zd (aG8 (ps:=[(0,.sl (l11.flatMap bE) l11.length (false&&(r8:Int).toNat==l_1.length)),(1,.sl (l13.flatMap bE) l13.length (false&&((l_1.length:Int):Int).toNat==l_1.length))]) (by simp only [go_sem,Nat.reduceBEq];try rfl) (aB4 (dU.sl _ _ _) (aB4 (dU.sl _ _ _) aS5))) (aO6 (CFl dU) (l:=[l11,l13]) (xs:=[.sl (l11.flatMap bE) l11.length (false&&(r8:Int).toNat==l_1.length),.sl (l13.flatMap bE) l13.length (false&&((l_1.length:Int):Int).toNat==l_1.length)]) underlying225 bTi bWr Zd Zd Zd (ps:=[(0,.sl (l11.flatMap bE) l11.length (false&&(r8:Int).toNat==l_1.length)),(1,.sl (l13.flatMap bE) l13.length (false&&((l_1.length:Int):Int).toNat==l_1.length))]) (by simp only [go_sem,Nat.reduceBEq];try rfl) (by kernel_rfl) (fun H=>(.cons (tdf rfl (dU.sl _ _ _)) (.cons (tdf rfl (dU.sl _ _ _)) .nil)))) rfl ?_;obtain ⟨r15,h14,hm⟩:=bnd hm;refine cq (aA7 h14) ?_;exact E
instance:Ct prog 118 (K4 prog vi (vl bE) vi vi (t2 (vl bE) vi) 118 zP):=⟨fun hm=>aVe hm⟩
def aEa(n_0:Int):Option (Int):=
 some (Int.tmod n_0 2305843009213693951)
theorem bT8:K1 prog vu vu 164 aEa:=fun hm=>be 5 func164 (h:=G)
instance:Ct prog 164 (K1 prog vu vu 164 aEa):=⟨bT8⟩
def aHe(a_0:Int)(b_1:Int):Option (Int):=
 ((aEa a_0).bind fun r2=>
 ((aEa b_1).bind fun r4=>
 some (Int.tmod (IntKind.u64.wrap (r2+r4)) 2305843009213693951)))
theorem bP4:K2 prog vu vu vu 138 aHe:=fun hm=>be 11 func138 (h:=G)
instance:Ct prog 138 (K2 prog vu vu vu 138 aHe):=⟨bP4⟩
def aCx(x_0:Int)(y_1:Int):Option (Int×Int):=
 some ((IntKind.u64.wrap ((IntKind.u64.wrap ((IntKind.u64.wrap ((shr .u64 x_0 32)*(shr .u64 y_1 32)))+(shr .u64 (IntKind.u64.wrap ((IntKind.u64.wrap ((shr .u64 x_0 32)*(yS .u64 y_1 4294967295)))+(shr .u64 (IntKind.u64.wrap ((yS .u64 x_0 4294967295)*(yS .u64 y_1 4294967295))) 32))) 32)))+(shr .u64 (IntKind.u64.wrap ((yS .u64 (IntKind.u64.wrap ((IntKind.u64.wrap ((shr .u64 x_0 32)*(yS .u64 y_1 4294967295)))+(shr .u64 (IntKind.u64.wrap ((yS .u64 x_0 4294967295)*(yS .u64 y_1 4294967295))) 32))) 4294967295)+(IntKind.u64.wrap ((yS .u64 x_0 4294967295)*(shr .u64 y_1 32))))) 32))),(IntKind.u64.wrap (x_0*y_1)))
theorem bA3:K2 prog vu vu (t2 vu vu) 165 aCx:=fun hm=>be 51 func165 (h:=G)
instance:Ct prog 165 (K2 prog vu vu (t2 vu vu) 165 aCx):=⟨bA3⟩
abbrev aNb(x_0:Int)(n_2:Int):Option (Int):=
 ((aTw bN8 (IntKind.u8.wrap x_0)).bind fun b2=>
 some (IntKind.i64.wrap (n_2+(IntKind.i64.wrap b2))))
abbrev aNa(x_0:Int)(n_2:Int):Option (Int):=
 (bif (decide (256≤x_0)) then
  aNb (shr .u64 x_0 8) (IntKind.i64.wrap (n_2+8))
 else
  aNb x_0 n_2)
abbrev aN9(x_0:Int)(n_2:Int):Option (Int):=
 (bif (decide (65536≤x_0)) then
  aNa (shr .u64 x_0 16) (IntKind.i64.wrap (n_2+16))
 else
  aNa x_0 n_2)
def aFy(x_0:Int):Option (Int):=
 (bif (decide (4294967296≤x_0)) then
  aN9 (shr .u64 x_0 32) 32
 else
  aN9 x_0 0)
theorem aQd:K1 prog vu vi 155 aFy:=fun hm=>be 25 func155 (h:=G)
instance:Ct prog 155 (K1 prog vu vi 155 aFy):=⟨aQd⟩
def rZ(x_0:Int):Option (Int):=
 ((aFy x_0).bind fun r2=>
 some (IntKind.i64.wrap (64-r2)))
theorem aCw:K1 prog vu vi 196 rZ:=fun hm=>be 6 func196 (h:=G)
instance:Ct prog 196 (K1 prog vu vi 196 rZ):=⟨aCw⟩
abbrev aAw(y_2:Int)(s_8:Int)(oP:Int)(qQ:Int)(yM:Int)(aE4:Int):Option (Int×Int):=
 ((chk (decide (0≤s_8))).bind fun _=>
 some ((IntKind.u64.wrap ((IntKind.u64.wrap (qQ*4294967296))+aE4)),(shr .u64 (IntKind.u64.wrap ((IntKind.u64.wrap ((IntKind.u64.wrap (yM*4294967296))+oP))-(IntKind.u64.wrap (aE4*y_2)))) s_8)))
def aHu(rec1:Int→Int→Int→Int→Int→Int→Int→Int→Int→Option (Int×Int))(y_2:Int)(s_8:Int)(tL:Int)(sU:Int)(oP:Int)(qQ:Int)(uG:Int)(yM:Int)(aE4:Int):Option (Int×Int):=
 (bif ((decide (4294967296≤aE4))||(decide ((IntKind.u64.wrap ((IntKind.u64.wrap (4294967296*uG))+oP))<(IntKind.u64.wrap (aE4*sU))))) then
  (bif (decide (4294967296≤(IntKind.u64.wrap (uG+tL)))) then
   aAw y_2 s_8 oP qQ yM (IntKind.u64.wrap (aE4-1))
  else
   rec1 y_2 s_8 tL sU oP qQ (IntKind.u64.wrap (uG+tL)) yM (IntKind.u64.wrap (aE4-1)))
 else
  aAw y_2 s_8 oP qQ yM aE4)
def xQ:Nat→Int→Int→Int→Int→Int→Int→Int→Int→Int→Option (Int×Int)
 |0=>fun _ _ _ _ _ _ _ _ _=>none
 |n+1=>aHu (xQ n)
abbrev xP(y_2:Int)(s_8:Int)(tL:Int)(sU:Int)(sW:Int)(xJ:Int)(oP:Int)(qQ:Int):Option (Int×Int):=
 ((chk (tL !=0)).bind fun _=>
 xQ aZ y_2 s_8 tL sU oP qQ (IntKind.u64.wrap ((IntKind.u64.wrap ((IntKind.u64.wrap ((IntKind.u64.wrap (sW*4294967296))+xJ))-(IntKind.u64.wrap (qQ*y_2))))-(IntKind.u64.wrap ((IntKind.u64.wrap (Int.tdiv (IntKind.u64.wrap ((IntKind.u64.wrap ((IntKind.u64.wrap (sW*4294967296))+xJ))-(IntKind.u64.wrap (qQ*y_2)))) tL))*tL)))) (IntKind.u64.wrap ((IntKind.u64.wrap ((IntKind.u64.wrap (sW*4294967296))+xJ))-(IntKind.u64.wrap (qQ*y_2)))) (IntKind.u64.wrap (Int.tdiv (IntKind.u64.wrap ((IntKind.u64.wrap ((IntKind.u64.wrap (sW*4294967296))+xJ))-(IntKind.u64.wrap (qQ*y_2)))) tL)))
def aHv(rec2:Int→Int→Int→Int→Int→Int→Int→Int→Int→Option (Int×Int))(y_2:Int)(s_8:Int)(tL:Int)(sU:Int)(sW:Int)(xJ:Int)(oP:Int)(qQ:Int)(uG:Int):Option (Int×Int):=
 (bif ((decide (4294967296≤qQ))||(decide ((IntKind.u64.wrap ((IntKind.u64.wrap (4294967296*uG))+xJ))<(IntKind.u64.wrap (qQ*sU))))) then
  (bif (decide (4294967296≤(IntKind.u64.wrap (uG+tL)))) then
   xP y_2 s_8 tL sU sW xJ oP (IntKind.u64.wrap (qQ-1))
  else
   rec2 y_2 s_8 tL sU sW xJ oP (IntKind.u64.wrap (qQ-1)) (IntKind.u64.wrap (uG+tL)))
 else
  xP y_2 s_8 tL sU sW xJ oP qQ)
def xR:Nat→Int→Int→Int→Int→Int→Int→Int→Int→Int→Option (Int×Int)
 |0=>fun _ _ _ _ _ _ _ _ _=>none
 |n+1=>aHv (xR n)
abbrev aHx(aF5:Int)(vS:Int)(y_2:Int):Option (Int×Int):=
 (bif (aF5==0) then
  ((chk (y_2 !=0)).bind fun _=>
  ((chk (y_2 !=0)).bind fun _=>
  some ((IntKind.u64.wrap (Int.tdiv vS y_2)),(Int.tmod vS y_2))))
 else
  ((rZ y_2).bind fun r4=>
  ((chk (decide (0≤(IntKind.u64.wrap r4)))).bind fun _=>
  ((chk (decide (0≤(IntKind.u64.wrap r4)))).bind fun _=>
  ((chk (decide (0≤(IntKind.u64.wrap (64-(IntKind.u64.wrap r4)))))).bind fun _=>
  ((chk (decide (0≤(IntKind.u64.wrap r4)))).bind fun _=>
  ((chk ((shr .u64 (shl .u64 y_2 (IntKind.u64.wrap r4)) 32) !=0)).bind fun _=>
  xR aZ (shl .u64 y_2 (IntKind.u64.wrap r4)) (IntKind.u64.wrap r4) (shr .u64 (shl .u64 y_2 (IntKind.u64.wrap r4)) 32) (yS .u64 (shl .u64 y_2 (IntKind.u64.wrap r4)) 4294967295) (bor .u64 (shl .u64 aF5 (IntKind.u64.wrap r4)) (shr .u64 vS (IntKind.u64.wrap (64-(IntKind.u64.wrap r4))))) (shr .u64 (shl .u64 vS (IntKind.u64.wrap r4)) 32) (yS .u64 (shl .u64 vS (IntKind.u64.wrap r4)) 4294967295) (IntKind.u64.wrap (Int.tdiv (bor .u64 (shl .u64 aF5 (IntKind.u64.wrap r4)) (shr .u64 vS (IntKind.u64.wrap (64-(IntKind.u64.wrap r4))))) (shr .u64 (shl .u64 y_2 (IntKind.u64.wrap r4)) 32))) (IntKind.u64.wrap ((bor .u64 (shl .u64 aF5 (IntKind.u64.wrap r4)) (shr .u64 vS (IntKind.u64.wrap (64-(IntKind.u64.wrap r4)))))-(IntKind.u64.wrap ((IntKind.u64.wrap (Int.tdiv (bor .u64 (shl .u64 aF5 (IntKind.u64.wrap r4)) (shr .u64 vS (IntKind.u64.wrap (64-(IntKind.u64.wrap r4))))) (shr .u64 (shl .u64 y_2 (IntKind.u64.wrap r4)) 32)))*(shr .u64 (shl .u64 y_2 (IntKind.u64.wrap r4)) 32))))))))))))
abbrev aHw(aF5:Int)(vS:Int)(y_2:Int):Option (Int×Int):=
 (bif (decide (y_2≤aF5)) then
  none
 else
  aHx aF5 vS y_2)
def aCv(aF5:Int)(vS:Int)(y_2:Int):Option (Int×Int):=
 (bif (y_2==0) then
  none
 else
  aHw aF5 vS y_2)
theorem bA2{aF5:Int}{vS:Int}{y_2:Int}{r:Int×Int}(hm:aCv aF5 vS y_2=some r):dT prog 183 [vu aF5,vu vS,vu y_2] (.tup [vu r.1,vu r.2]):=by
 refine bd 135 func183 ?_;refine V ?_;refine AWp.seqJ (fun s=> ∃aF5 vS y_2,s=⟨135,(aG (aG (aG fa 0 (vu aF5)) 1 (vu vS)) 2 (vu y_2)),⟨bR,64⟩⟩∧aHw aF5 vS y_2=some r) ?_ ?_
 ·
  refine W ?_;refine cm hm (fun hm=>?_) fun hm=>?_
  · cases hm
  exact L
 rintro s ⟨aF5,vS,y_2,rfl,hm⟩;refine AWp.seqJ (fun s=> ∃aF5 vS y_2,s=⟨135,(aG (aG (aG fa 0 (vu aF5)) 1 (vu vS)) 2 (vu y_2)),⟨bR,64⟩⟩∧aHx aF5 vS y_2=some r) ?_ ?_
 ·
  refine W ?_;refine cm hm (fun hm=>?_) fun hm=>?_
  · cases hm
  exact L
 rintro s ⟨aF5,vS,y_2,rfl,hm⟩;refine W ?_;refine cm hm (fun hm=>?_) fun hm=>?_
 · obtain ⟨_,h1,hm⟩:=bnd hm;obtain ⟨_,h2,hm⟩:=bnd hm;exact E
 obtain ⟨r4,h3,hm⟩:=bnd hm;refine W ?_;refine cq (aCw h3) ?_;obtain ⟨_,h5,hm⟩:=bnd hm;obtain ⟨_,h6,hm⟩:=bnd hm;obtain ⟨_,h7,hm⟩:=bnd hm;obtain ⟨_,h8,hm⟩:=bnd hm;obtain ⟨_,h9,hm⟩:=bnd hm;refine V ?_;refine AWp.seqJ (fun s=> ∃y_2 s_8 tL sU sW xJ oP qQ,s=⟨135,(aG (aG (aG (aG (aG (aG (aG (aG fa 2 (vu y_2)) 8 (vu s_8)) 9 (vu tL)) 10 (vu sU)) 11 (vu sW)) 13 (vu xJ)) 14 (vu oP)) 15 (vu qQ)),⟨bR,64⟩⟩∧xP y_2 s_8 tL sU sW xJ oP qQ=some r) ?_ ?_
 ·
  refine W ?_;refine lp (fun m s=> ∃y_2 s_8 tL sU sW xJ oP qQ uG,s=⟨135,(aG (aG (aG (aG (aG (aG (aG (aG (aG fa 2 (vu y_2)) 8 (vu s_8)) 9 (vu tL)) 10 (vu sU)) 11 (vu sW)) 13 (vu xJ)) 14 (vu oP)) 15 (vu qQ)) 16 (vu uG)),⟨bR,64⟩⟩∧xR m y_2 s_8 tL sU sW xJ oP qQ uG=some r) L ?_;rintro n2 s ⟨y_2,s_8,tL,sU,sW,xJ,oP,qQ,uG,rfl,hm⟩;refine W ?_;refine cm hm (fun hm=>?_) fun hm=>?_
  ·
   refine W ?_;refine cm hm (fun hm=>?_) fun hm=>?_
   · refine W ?_;refine rQ Zd ?_;exact L
   exact L
  exact L
 rintro s ⟨y_2,s_8,tL,sU,sW,xJ,oP,qQ,rfl,hm⟩;obtain ⟨_,h10,hm⟩:=bnd hm;refine V ?_;refine AWp.seqJ (fun s=> ∃y_2 s_8 oP qQ yM aE4,s=⟨135,(aG (aG (aG (aG (aG (aG fa 2 (vu y_2)) 8 (vu s_8)) 14 (vu oP)) 15 (vu qQ)) 17 (vu yM)) 18 (vu aE4)),⟨bR,64⟩⟩∧aAw y_2 s_8 oP qQ yM aE4=some r) ?_ ?_
 ·
  refine W ?_;refine lp (fun m s=> ∃y_2 s_8 tL sU oP qQ uG yM aE4,s=⟨135,(aG (aG (aG (aG (aG (aG (aG (aG (aG fa 2 (vu y_2)) 8 (vu s_8)) 9 (vu tL)) 10 (vu sU)) 14 (vu oP)) 15 (vu qQ)) 16 (vu uG)) 17 (vu yM)) 18 (vu aE4)),⟨bR,64⟩⟩∧xQ m y_2 s_8 tL sU oP qQ uG yM aE4=some r) L ?_;rintro n1 s ⟨y_2,s_8,tL,sU,oP,qQ,uG,yM,aE4,rfl,hm⟩;refine W ?_;refine cm hm (fun hm=>?_) fun hm=>?_
  ·
   refine W ?_;refine cm hm (fun hm=>?_) fun hm=>?_
   · refine W ?_;refine rQ Zd ?_;exact L
   exact L
  exact L
 rintro s ⟨y_2,s_8,oP,qQ,yM,aE4,rfl,hm⟩;obtain ⟨_,h11,hm⟩:=bnd hm;exact E
instance:Ct prog 183 (K3 prog vu vu vu (t2 vu vu) 183 aCv):=⟨fun hm=>bA2 hm⟩
attribute [local semireducible] aZ
end Go.Proofs.YtkdohhmacfoolaaGreat
