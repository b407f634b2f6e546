/- Facts. No condition. -/
import Derived.Test.YtkdohhmacfoolaaGreatNpAmU
set_option linter.unusedVariables false
set_option linter.unusedSimpArgs false
set_option maxRecDepth 20000
set_option maxHeartbeats 4000000
namespace Go.Proofs.YtkdohhmacfoolaaGreat
open Go.Proofs.Tryz Go Go.AM
attribute [local irreducible] bC
structure dC where
 Do:Int
 A:Int
 B:Int
 Text:ByteArray
deriving DecidableEq
def mF(e:dC):List AV:=[.v (.int .i64 e.Do),.v (.int .u64 e.A),.v (.int .u64 e.B),.v (.string e.Text)]
theorem aIr:CF mF 4:=⟨fun _=>rfl,fun a x hx=>by
 simp only [mF,List.mem_cons,List.not_mem_nil,or_false] at hx;rcases hx with rfl|rfl|rfl|rfl
 · exact (.v _)
 · exact (.v _)
 · exact (.v _)
 · exact (.v _),fun _=>rfl⟩
instance:CC mF 4:=⟨aIr⟩
abbrev aBo(e:dC):AV:= .agg [.v (.int .i64 e.Do),vu e.A,vu e.B,.v (.string e.Text)]
@[go_sem] theorem aLl(e:dC)(r:List AV):mF e++r= .v (.int .i64 e.Do):: .v (.int .u64 e.A):: .v (.int .u64 e.B):: .v (.string e.Text)::r:=rfl
structure cL where
 List:List Int
 At:Int
deriving DecidableEq
def aFm(e:cL):List AV:=[.sl (e.List.flatMap (ci .u64)) e.List.length false,.v (.int .i64 e.At)]
theorem aW0:CF aFm 2:=⟨fun _=>rfl,fun a x hx=>by
 simp only [aFm,List.mem_cons,List.not_mem_nil,or_false] at hx;rcases hx with rfl|rfl
 · exact ((CFi .u64).sl _ _ _)
 · exact (.v _),fun _=>rfl⟩
instance:CC aFm 2:=⟨aW0⟩
abbrev qY(e:cL):AV:= .agg [vl (ci .u64) e.List,vi e.At]
@[go_sem] theorem aQn(e:cL)(r:List AV):aFm e++r= .sl (e.List.flatMap (ci .u64)) e.List.length false:: .v (.int .i64 e.At)::r:=rfl
structure aR where
 Used:Bool
 Key:Int
deriving DecidableEq
def bH(e:aR):List AV:=[.v (.bool e.Used),.v (.int .u64 e.Key)]
theorem eX:CF bH 2:=⟨fun _=>rfl,fun a x hx=>by
 simp only [bH,List.mem_cons,List.not_mem_nil,or_false] at hx;rcases hx with rfl|rfl
 · exact (.v _)
 · exact (.v _),fun _=>rfl⟩
instance:CC bH 2:=⟨eX⟩
abbrev aQi(e:aR):AV:= .agg [.v (.bool e.Used),vu e.Key]
instance:CE prog 31 bH 2 (aR.mk false 0):=⟨_,underlying31,bBb,bBs,inferInstance,eX,by decide,by decide⟩
@[go_sem] theorem aQp(e:aR)(r:List AV):bH e++r= .v (.bool e.Used):: .v (.int .u64 e.Key)::r:=rfl
structure aG where
 Graph:aU
 Slots:List aR
deriving DecidableEq
def aFn(e:aG):List AV:=[.v (.int .i64 e.Graph.Config.N),.v (.int .i64 e.Graph.Config.L),.v (.int .i64 e.Graph.Config.R),.sl (e.Graph.Hashes.flatMap dX) e.Graph.Hashes.length false,.sl (e.Graph.Edges.flatMap bE) e.Graph.Edges.length false,.sl (e.Slots.flatMap bH) e.Slots.length false]
theorem aH3:CF aFn 6:=⟨fun _=>rfl,fun a x hx=>by
 simp only [aFn,List.mem_cons,List.not_mem_nil,or_false] at hx;rcases hx with rfl|rfl|rfl|rfl|rfl|rfl
 · exact (.v _)
 · exact (.v _)
 · exact (.v _)
 · exact (nR.sl _ _ _)
 · exact (dT.sl _ _ _)
 · exact (eX.sl _ _ _),fun _=>rfl⟩
instance:CC aFn 6:=⟨aH3⟩
abbrev eJ(e:aG):AV:= .agg [.v (.int .i64 e.Graph.Config.N),vi e.Graph.Config.L,vi e.Graph.Config.R,vl dX e.Graph.Hashes,vl bE e.Graph.Edges,vl bH e.Slots]
@[go_sem] theorem aQo(e:aG)(r:List AV):aFn e++r= .v (.int .i64 e.Graph.Config.N):: .v (.int .i64 e.Graph.Config.L):: .v (.int .i64 e.Graph.Config.R):: .sl (e.Graph.Hashes.flatMap dX) e.Graph.Hashes.length false:: .sl (e.Graph.Edges.flatMap bE) e.Graph.Edges.length false:: .sl (e.Slots.flatMap bH) e.Slots.length false::r:=rfl
structure dF where
 Key:Int
 N:Int
deriving DecidableEq
def aBy(e:dF):List AV:=[.v (.int .u64 e.Key),.v (.int .i64 e.N)]
theorem mI:CF aBy 2:=⟨fun _=>rfl,fun a x hx=>by
 simp only [aBy,List.mem_cons,List.not_mem_nil,or_false] at hx;rcases hx with rfl|rfl
 · exact (.v _)
 · exact (.v _),fun _=>rfl⟩
instance:CC aBy 2:=⟨mI⟩
abbrev aFe(e:dF):AV:= .agg [.v (.int .u64 e.Key),vi e.N]
@[go_sem] theorem aRs(e:dF)(r:List AV):aBy e++r= .v (.int .u64 e.Key):: .v (.int .i64 e.N)::r:=rfl
inductive aE where
 |nil
 |mk (ahead:aE) (behind:aE) (thing:dF) (height:Int) (size:Int)
def aE.ahead:aE→aE
 | .nil=>aE.nil
 | .mk ahead behind thing height size=>ahead
def aE.behind:aE→aE
 | .nil=>aE.nil
 | .mk ahead behind thing height size=>behind
def aE.thing:aE→dF
 | .nil=>(dF.mk 0 0)
 | .mk ahead behind thing height size=>thing
def aE.height:aE→Int
 | .nil=>0
 | .mk ahead behind thing height size=>height
def aE.size:aE→Int
 | .nil=>0
 | .mk ahead behind thing height size=>size
def aE.nn:aE→Bool
 | .nil=>false
 | .mk _ _ _ _ _=>true
def aE.av:aE→AV
 | .nil=> .v (.pointer none)
 | .mk ahead behind thing height size=> .ptr [ahead.av,behind.av,.v (.int .u64 thing.Key),.v (.int .i64 thing.N),.v (.int .i64 height),.v (.int .i64 size)]
theorem aE.data:(e:aE)→AM.Data e.av
 | .nil=> .v _
 | .mk ahead behind thing height size=> .ptr _ (fun a hx=>by
  simp only [List.mem_cons,List.not_mem_nil,or_false] at hx;rcases hx with rfl|rfl|rfl|rfl|rfl|rfl
  · exact ahead.data
  · exact behind.data
  · exact (.v _)
  · exact (.v _)
  · exact (.v _)
  · exact (.v _))
theorem aE.av_nn{e:aE}(h:e.nn=true):e.av= .ptr [aE.av e.ahead,aE.av e.behind,.v (.int .u64 e.thing.Key),.v (.int .i64 e.thing.N),.v (.int .i64 e.height),.v (.int .i64 e.size)]:=by
 cases e with
 |nil=>cases h
 |mk ahead behind thing height size=>rfl
theorem aE.isn(e:aE):((!e.nn)=true∧e.av= .v (.pointer none))∨((!e.nn)=false∧ ∃xs,e.av= .ptr xs):=by
 cases e with
 |nil=>exact .inl ⟨rfl,rfl⟩
 |mk ahead behind thing height size=>exact .inr ⟨rfl,_,rfl⟩
theorem aE.cells(e:aE):e.av.cells? =some [e.av]:=by cases e<;>rfl
theorem aE.one(e:aE):e.av.one=true:=by cases e<;>rfl
structure dQ where
 s:aE
def aEk(e:dQ):List AV:=[aE.av e.s]
theorem aFi:CF aEk 1:=⟨fun _=>rfl,fun a x hx=>by
 simp only [aEk,List.mem_cons,List.not_mem_nil,or_false] at hx;rcases hx with rfl
 · exact (aE.data a.s),fun e=>by unfold aEk;simp only [List.all_cons,List.all_nil,Bool.and_true,aE.one];try rfl⟩
instance:CC aEk 1:=⟨aFi⟩
abbrev aA2(e:dQ):AV:= .agg [aE.av e.s]
@[go_sem] theorem aRr(e:dQ)(r:List AV):aEk e++r=aE.av e.s::r:=rfl
theorem bLe{a0:AV}(a0h:a0.cells? =some [a0]):aBv prog 130 [(0,a0)]=some (.agg [a0]):=by
 unfold aBv;rw [bT7,underlying130];simp only [];rw [(by kernel_rfl:placesOf prog _=some [(0,1)])];simp only [];simp [rP,a0h,aUt,aUu,aRw]
theorem bLf{a0:AV}{a1:AV}{a2_Key:Int}{a2_N:Int}{a3:Int}{a4:Int}(a0h:a0.cells? =some [a0])(a1h:a1.cells? =some [a1]):aBv prog 192 [(0,a0),(1,a1),(2,.agg [.v (.int .u64 a2_Key),.v (.int .i64 a2_N)]),(3,.v (.int .i64 a3)),(4,.v (.int .i64 a4))]=some (.agg [a0,a1,.v (.int .u64 a2_Key),.v (.int .i64 a2_N),.v (.int .i64 a3),.v (.int .i64 a4)]):=by
 unfold aBv;rw [cCz,underlying192];simp only [];rw [(by kernel_rfl:placesOf prog _=some [(0,1),(1,1),(2,2),(4,1),(5,1)])];simp only [];simp [rP,a0h,a1h,aUt,aUu,aRw]
@[go_sem] theorem bD6(xs:List AV):aO prog 104 (.ptr (xs)) 0=some (.ptr xs):=by kernel_rfl
@[go_sem] theorem bDa(xs:List AV):aO prog 130 (.ptr (xs)) 0=some (.ptr xs):=by kernel_rfl
@[go_sem] theorem bDb(xs:List AV):aO prog 192 (.ptr (xs)) 0=some (.ptr xs):=by kernel_rfl
@[go_sem] theorem bDc(x0:AV)(xs:List AV):aO prog 192 (.ptr (x0::xs)) 1=some (.ptr xs):=by kernel_rfl
@[go_sem] theorem bDd(x0:AV)(x1:AV)(xs:List AV):aO prog 192 (.ptr (x0::x1::xs)) 2=some (.ptr xs):=by kernel_rfl
@[go_sem] theorem bDe(x0:AV)(x1:AV)(x2:AV)(x3:AV)(xs:List AV):aO prog 192 (.ptr (x0::x1::x2::x3::xs)) 3=some (.ptr xs):=by kernel_rfl
@[go_sem] theorem bDf(x0:AV)(x1:AV)(x2:AV)(x3:AV)(x4:AV)(xs:List AV):aO prog 192 (.ptr (x0::x1::x2::x3::x4::xs)) 4=some (.ptr xs):=by kernel_rfl
@[go_sem] theorem bDl(i o:Nat):aO prog 102 (.adr i o) 0=some (.adr i (o+0)):=by kernel_rfl
@[go_sem] theorem bDr(i o:Nat):aO prog 102 (.adr i o) 1=some (.adr i (o+1)):=by kernel_rfl
@[go_sem] theorem bDy(i o:Nat):aO prog 104 (.adr i o) 0=some (.adr i (o+0)):=by kernel_rfl
@[go_sem] theorem bE0(i o:Nat):aO prog 104 (.adr i o) 1=some (.adr i (o+1)):=by kernel_rfl
@[go_sem] theorem bE8(i o:Nat):aO prog 130 (.adr i o) 0=some (.adr i (o+0)):=by kernel_rfl
@[go_sem] theorem bEb(i o:Nat):aO prog 158 (.adr i o) 0=some (.adr i (o+0)):=by kernel_rfl
@[go_sem] theorem bEc(i o:Nat):aO prog 158 (.adr i o) 1=some (.adr i (o+1)):=by kernel_rfl
@[go_sem] theorem bIi(i o:Nat):aO prog 23 (.adr i o) 0=some (.adr i (o+0)):=by kernel_rfl
@[go_sem] theorem bIp(i o:Nat):aO prog 23 (.adr i o) 1=some (.adr i (o+1)):=by kernel_rfl
@[go_sem] theorem bIu(i o:Nat):aO prog 23 (.adr i o) 2=some (.adr i (o+2)):=by kernel_rfl
@[go_sem] theorem bJ0(i o:Nat):aO prog 30 (.adr i o) 0=some (.adr i (o+0)):=by kernel_rfl
@[go_sem] theorem bJa(i o:Nat):aO prog 30 (.adr i o) 2=some (.adr i (o+4)):=by kernel_rfl
@[go_sem] theorem bJd(i o:Nat):aO prog 33 (.adr i o) 0=some (.adr i (o+0)):=by kernel_rfl
@[go_sem] theorem bJg(i o:Nat):aO prog 33 (.adr i o) 1=some (.adr i (o+5)):=by kernel_rfl
@[go_sem] theorem bJk(i o:Nat):aO prog 35 (.adr i o) 0=some (.adr i (o+0)):=by kernel_rfl
@[go_sem] theorem bJl(i o:Nat):aO prog 35 (.adr i o) 1=some (.adr i (o+1)):=by kernel_rfl
@[go_sem] theorem bJy(i o:Nat):aO prog 45 (.adr i o) 3=some (.adr i (o+3)):=by kernel_rfl
@[go_sem] theorem bN1(H:aM)(x0 x1 x2:AV)(xs:List AV):dD prog H 102 (.ptr (x0::x1::x2::xs))=some (.agg [x0,x1,x2]):=by kernel_rfl
@[go_sem] theorem bN4(H:aM)(x0 x1:AV)(xs:List AV):dD prog H 104 (.ptr (x0::x1::xs))=some (.agg [x0,x1]):=by kernel_rfl
@[go_sem] theorem bNa(H:aM)(x:AV)(xs:List AV):dD prog H 128 (.ptr (x::xs))=some x:=by kernel_rfl
@[go_sem] theorem bNb(H:aM)(x0:AV)(xs:List AV):dD prog H 130 (.ptr (x0::xs))=some (.agg [x0]):=by kernel_rfl
@[go_sem] theorem bNf(H:aM)(x0 x1:AV)(xs:List AV):dD prog H 158 (.ptr (x0::x1::xs))=some (.agg [x0,x1]):=by kernel_rfl
@[go_sem] theorem bQ0(H:aM)(x0 x1 x2:AV)(xs:List AV):dD prog H 23 (.ptr (x0::x1::x2::xs))=some (.agg [x0,x1,x2]):=by kernel_rfl
@[go_sem] theorem bNg(H:aM)(x:AV)(xs:List AV):dD prog H 231 (.ptr (x::xs))=some x:=by kernel_rfl
@[go_sem] theorem bQ5(H:aM)(x:AV)(xs:List AV):dD prog H 24 (.ptr (x::xs))=some x:=by kernel_rfl
@[go_sem] theorem bQf(H:aM)(x:AV)(xs:List AV):dD prog H 28 (.ptr (x::xs))=some x:=by kernel_rfl
@[go_sem] theorem bU3(H:aM)(x:AV)(xs:List AV):dD prog H 3 (.ptr (x::xs))=some x:=by kernel_rfl
@[go_sem] theorem bQl(H:aM)(x0 x1 x2 x3 x4:AV)(xs:List AV):dD prog H 30 (.ptr (x0::x1::x2::x3::x4::xs))=some (.agg [x0,x1,x2,x3,x4]):=by kernel_rfl
@[go_sem] theorem bQo(H:aM)(x:AV)(xs:List AV):dD prog H 31 (.ptr (x::xs))=some x:=by kernel_rfl
@[go_sem] theorem bQs(H:aM)(x0 x1 x2 x3 x4 x5:AV)(xs:List AV):dD prog H 33 (.ptr (x0::x1::x2::x3::x4::x5::xs))=some (.agg [x0,x1,x2,x3,x4,x5]):=by kernel_rfl
@[go_sem] theorem bQw(H:aM)(x0 x1:AV)(xs:List AV):dD prog H 35 (.ptr (x0::x1::xs))=some (.agg [x0,x1]):=by kernel_rfl
@[go_sem] theorem bUa(H:aM)(x:AV)(xs:List AV):dD prog H 4 (.ptr (x::xs))=some x:=by kernel_rfl
@[go_sem] theorem bR4(H:aM)(x:AV)(xs:List AV):dD prog H 43 (.ptr (x::xs))=some x:=by kernel_rfl
@[go_sem] theorem bR9(H:aM)(x0 x1 x2 x3:AV)(xs:List AV):dD prog H 45 (.ptr (x0::x1::x2::x3::xs))=some (.agg [x0,x1,x2,x3]):=by kernel_rfl
@[go_sem] theorem bUe(H:aM)(x:AV)(xs:List AV):dD prog H 9 (.ptr (x::xs))=some x:=by kernel_rfl
@[go_sem] theorem bCr(H:aM)(k:IntKind)(n:Int):rO prog H 3 198 (.v (.int k n))=some (.v (.int .u64 (IntKind.u64.wrap n))):=mG underlying3 underlying198
@[go_sem] theorem bCu(H:aM)(k:IntKind)(n:Int):rO prog H 3 231 (.v (.int k n))=some (.v (.int .u64 (IntKind.u64.wrap n))):=mG underlying3 underlying231
@[go_sem] theorem bCm(H:aM)(k:IntKind)(n:Int):rO prog H 198 3 (.v (.int k n))=some (.v (.int .i64 (IntKind.i64.wrap n))):=mG underlying198 underlying3
def aCq(rec1:Int→List dC→Int→Int→Option (Int))(n_7:Int)(t29:List dC)(t30:Int)(t31:Int):Option (Int):=
 (bif (decide (t31<t30)) then
  ((idx t29 t31).bind fun x4=>
  (bif (decide (1000<(x4.Text.size:Int))) then
   some (-1)
  else
   rec1 n_7 t29 t30 (IntKind.i64.wrap (t31+1))))
 else
  some n_7)
def vX:Nat→Int→List dC→Int→Int→Option (Int)
 |0=>fun _ _ _ _=>none
 |n+1=>aCq (vX n)
def tN(c_0:bY)(l_1:List dC)(aSi:Int):Option (Int):=
 (bif (((decide (10<c_0.N))||(decide (4<c_0.L)))||(decide (3<c_0.R))) then
  some (-1)
 else
  ((slc l_1 0 (if aSi<(l_1.length:Int) then aSi else (l_1.length:Int))).bind fun l2=>
  vX bC (if aSi<(l_1.length:Int) then aSi else (l_1.length:Int)) l2 (l2.length:Int) 0))
theorem bEt:K3 prog aFd (vl mF) vi vi 12 tN:=by
 intro c_0 l_1 aSi r hm
 let I1:=((fun m s=> ∃n_7 t29 t30 t31,s=⟨41,(aF (aF (aF (aF fa 7 (vi n_7)) 29 (vl mF t29)) 30 (vi t30)) 31 (vi t31)),⟨bQ,64⟩⟩∧vX m n_7 t29 t30 t31=some r):Nat→St→Prop)
 exact be 41 func12 (h:=G)
instance:Ct prog 12 (K3 prog aFd (vl mF) vi vi 12 tN):=⟨bEt⟩
def vT(w_0:cL):Option (Bool):=
 some ((decide (0≤w_0.At))&&(decide (w_0.At≤(w_0.List.length:Int))))
theorem aPp:K1 prog qY vb 67 vT:=fun hm=>be 14 func67 (h:=G)
instance:Ct prog 67 (K1 prog qY vb 67 vT):=⟨aPp⟩
def aHk(rec1:cL→cL→Int→Option (Int×cL×Int))(w_1:cL)(t3:cL)(aMi:Int):Option (Int×cL×Int):=
 (bif (decide (aMi<(w_1.List.length:Int))) then
  ((idx w_1.List aMi).bind fun x4=>
  (bif (decide ((yK .u64 x4 2305843009213693951)<2305843009213693951)) then
   some ((yK .u64 x4 2305843009213693951),(cL.mk w_1.List (IntKind.i64.wrap (aMi+1))),0)
  else
   rec1 w_1 t3 (IntKind.i64.wrap (aMi+1))))
 else
  some (0,w_1,5))
def aAy:Nat→cL→cL→Int→Option (Int×cL×Int)
 |0=>fun _ _ _=>none
 |n+1=>aHk (aAy n)
def aA6(w_0:cL):Option (Int×cL×Int):=
 ((vT w_0).bind fun r2=>
 (bif (!r2) then
  some (0,w_0,1)
 else
  aAy bC w_0 (cL.mk [] 0) w_0.At))
theorem aZd{w_0:cL}{r:Int×cL×Int}(hm:aA6 w_0=some r):dU prog 68 [.agg [vl (ci .u64) w_0.List,vi w_0.At]] (.tup [vu r.1,.agg [vl (ci .u64) r.2.1.List,vi r.2.1.At],vi r.2.2]):=by
 refine bd 35 func68 ?_;obtain ⟨r2,h1,hm⟩:=bnd hm;refine W ?_;refine cq (aPp h1) ?_;refine W ?_;refine cm hm (fun hm=>?_) fun hm=>?_
 · exact E
 refine W ?_;refine lp (fun m s=> ∃w_1 t3 aMi,s=⟨35,(aF (aF (aF fa 1 (.adr 1 0)) 3 (.adr 2 0)) 5 (vi aMi)),⟨(upd (upd bQ 1 (.cells 1 [vl (ci .u64) w_1.List,vi w_1.At] 0)) 2 (.cells 1 [vl (ci .u64) t3.List,vi t3.At] 0)),64⟩⟩∧aAy m w_1 t3 aMi=some r) ?_ ?_
 · refine ⟨_,?_,w_0,(cL.mk [] 0),w_0.At,rfl,hm⟩;refine St.Le.trans (bA5 2 (ys:=[.sl (((cL.mk [] 0).List).flatMap (ci .u64)) ((cL.mk [] 0).List).length false,.v (.int .i64 ((cL.mk [] 0).At))]) Z3 (.cons (.nil false) (.cons (.data _ (.v _)) .nil))) ?_;exact cn (fun j=>bif j==1 then 0 else bif j==2 then 2 else 0)
 rintro n1 s ⟨w_1,t3,aMi,rfl,hm⟩;refine W ?_;refine cm hm (fun hm=>?_) fun hm=>?_
 ·
  obtain ⟨x4,h3,hm⟩:=bnd hm;refine W ?_;refine cm hm (fun hm=>?_) fun hm=>?_
  · refine W ?_;refine bU (.agg [vl (ci .u64) w_1.List,.v (.int .i64 (IntKind.i64.wrap (aMi+1)))]) ?_;exact E
  refine W ?_;exact Lr (fun j=>bif j==1 then 1 else bif j==2 then 2 else 0)
 exact E
instance:Ct prog 68 (K1 prog qY (t3 vu qY vi) 68 aA6):=⟨fun hm=>aZd hm⟩
def yN(rec1:cL→cL→List dI→cL→Int→Int→Option ((List dI)×cL×Int))(w_2:cL)(t5:cL)(aEr:List dI)(aOt:cL)(t31:Int)(t32:Int):Option ((List dI)×cL×Int):=
 (bif (decide (t32<t31)) then
  ((aA6 aOt).bind fun ⟨r6,r7,r8⟩=>
  (bif (r8 !=0) then
   some ([],w_2,r8)
  else
   ((aA6 r7).bind fun ⟨r10,r11,r12⟩=>
   (bif (r12 !=0) then
    some ([],w_2,r12)
   else
    ((idx aEr t32).bind fun x14=>
    ((stt aEr t32 (dI.mk r6 r10)).bind fun l16=>
    rec1 w_2 t5 l16 r11 t31 (IntKind.i64.wrap (t32+1))))))))
 else
  some (aEr,aOt,0))
def uO:Nat→cL→cL→List dI→cL→Int→Int→Option ((List dI)×cL×Int)
 |0=>fun _ _ _ _ _ _=>none
 |n+1=>yN (uO n)
def xJ(w_0:cL)(n_1:Int):Option ((List dI)×cL×Int):=
 ((vT w_0).bind fun r2=>
 (bif (((!r2)||(decide (n_1<0)))||(decide (128<n_1))) then
  some ([],w_0,1)
 else
  ((mkc n_1 n_1 (dI.mk 0 0)).bind fun l4=>
  uO bC w_0 (cL.mk [] 0) l4 w_0 (l4.length:Int) 0)))
theorem aMs:K2 prog qY vi (t3 (vl dX) qY vi) 35 xJ:=by
 intro w_0 n_1 r hm
 let I1:=((fun m s=> ∃w_2 t5 aEr aOt t31 t32,s=⟨65,(aF (aF (aF (aF (aF (aF fa 2 (.adr 1 0)) 5 (.adr 2 0)) 7 (.own 3 0 aEr.length)) 8 (.adr 4 0)) 31 (vi t31)) 32 (vi t32)),⟨(upd (upd (upd (upd bQ 1 (.cells 1 [vl (ci .u64) w_2.List,vi w_2.At] 0)) 2 (.cells 1 [vl (ci .u64) t5.List,vi t5.At] 0)) 3 (.cells 2 (aEr.flatMap dX) 0)) 4 (.cells 1 [vl (ci .u64) aOt.List,vi aOt.At] 0)),64⟩⟩∧uO m w_2 t5 aEr aOt t31 t32=some r):Nat→St→Prop)
 exact be 65 func35 (h:=G)
instance:Ct prog 35 (K2 prog qY vi (t3 (vl dX) qY vi) 35 xJ):=⟨aMs⟩
def uB(n_0:Int):Option (Bool):=
 some ((decide (1≤n_0))&&(decide (n_0≤1024)))
theorem aYf:K1 prog vi vb 70 uB:=fun hm=>be 9 func70 (h:=G)
instance:Ct prog 70 (K1 prog vi vb 70 uB):=⟨aYf⟩
def aIq(n_0:Int):Option ((List aR)×Int):=
 ((uB n_0).bind fun r2=>
 (bif (!r2) then
  some ([],1)
 else
  ((mkc n_0 n_0 (aR.mk false 0)).bind fun l4=>
  some (l4,0))))
theorem aTf:K1 prog vi (t2 (vl bH) vi) 37 aIq:=fun hm=>be 9 func37 (h:=G)
instance:Ct prog 37 (K1 prog vi (t2 (vl bH) vi) 37 aIq):=⟨aTf⟩
def sE(c_0:bY)(w_1:cL):Option (aG×cL×Int):=
 (bif ((((((decide (c_0.N<1))||(decide (1024<c_0.N)))||(decide (c_0.L<1)))||(decide (16<c_0.L)))||(decide (c_0.R<1)))||(decide (8<c_0.R))) then
  some ((aG.mk (aU.mk (bY.mk 0 0 0) [] []) []),w_1,1)
 else
  ((xJ w_1 (IntKind.i64.wrap (c_0.L*c_0.R))).bind fun ⟨r2,r3,r4⟩=>
  (bif (r4 !=0) then
   some ((aG.mk (aU.mk (bY.mk 0 0 0) [] []) []),w_1,r4)
  else
   ((aFc c_0 r2).bind fun ⟨r6,r7⟩=>
   (bif (r7 !=0) then
    some ((aG.mk (aU.mk (bY.mk 0 0 0) [] []) []),w_1,r7)
   else
    ((aIq c_0.N).bind fun ⟨r9,r10⟩=>
    (bif (r10 !=0) then
     some ((aG.mk (aU.mk (bY.mk 0 0 0) [] []) []),w_1,r10)
    else
     some ((aG.mk r6 r9),r3,0))))))))
theorem aSb{c_0:bY}{w_1:cL}{r:aG×cL×Int}(hm:sE c_0 w_1=some r):dU prog 13 [.agg [vi c_0.N,vi c_0.L,vi c_0.R],.agg [vl (ci .u64) w_1.List,vi w_1.At]] (.tup [.agg [vi r.1.Graph.Config.N,vi r.1.Graph.Config.L,vi r.1.Graph.Config.R,vl dX r.1.Graph.Hashes,vl bE r.1.Graph.Edges,vl bH r.1.Slots],.agg [vl (ci .u64) r.2.1.List,vi r.2.1.At],vi r.2.2]):=by
 refine bd 84 func13 ?_;refine W ?_;refine cm hm (fun hm=>?_) fun hm=>?_
 · refine W ?_;refine AWp.regV [(3,1),(4,2),(5,3)] 64 mix (by kernel_rfl) (by kernel_rfl) (IV.cons (off:=0) Z1 (IV.cons (off:=0) Z1 (IV.cons (off:=0) Z1 IV.nil))) (N':=192) rfl ?_;refine bU (.agg [vi 0,vi 0,vi 0,.v (.slice none 0 0),.v (.slice none 0 0),.v (.slice none 0 0)]) ?_;exact E
 refine W ?_;obtain ⟨⟨r2,r3,r4⟩,h1,hm⟩:=bnd hm;refine cq (aMs h1) ?_;refine W ?_;refine cm hm (fun hm=>?_) fun hm=>?_
 · refine W ?_;refine AWp.regV [(3,1),(4,2),(5,3)] 64 mix (by kernel_rfl) (by kernel_rfl) (IV.cons (off:=0) Z1 (IV.cons (off:=0) Z1 (IV.cons (off:=0) Z1 IV.nil))) (N':=320) rfl ?_;refine bU (.agg [vi 0,vi 0,vi 0,.v (.slice none 0 0),.v (.slice none 0 0),.v (.slice none 0 0)]) ?_;exact E
 refine W ?_;obtain ⟨⟨r6,r7⟩,h5,hm⟩:=bnd hm;refine cq (aTc h5) ?_;refine W ?_;refine cm hm (fun hm=>?_) fun hm=>?_
 · refine W ?_;refine AWp.regV [(3,1),(4,2),(5,3)] 64 mix (by kernel_rfl) (by kernel_rfl) (IV.cons (off:=0) Z1 (IV.cons (off:=0) Z1 (IV.cons (off:=0) Z1 IV.nil))) (N':=448) rfl ?_;refine bU (.agg [vi 0,vi 0,vi 0,.v (.slice none 0 0),.v (.slice none 0 0),.v (.slice none 0 0)]) ?_;exact E
 refine W ?_;obtain ⟨⟨r9,r10⟩,h8,hm⟩:=bnd hm;refine cq (aTf h8) ?_;refine W ?_;refine cm hm (fun hm=>?_) fun hm=>?_
 · refine W ?_;refine AWp.regV [(3,1),(4,2),(5,3)] 64 mix (by kernel_rfl) (by kernel_rfl) (IV.cons (off:=0) Z1 (IV.cons (off:=0) Z1 (IV.cons (off:=0) Z1 IV.nil))) (N':=576) rfl ?_;refine bU (.agg [vi 0,vi 0,vi 0,.v (.slice none 0 0),.v (.slice none 0 0),.v (.slice none 0 0)]) ?_;exact E
 refine W ?_;refine AWp.regV [(4,2),(5,3),(8,139),(10,262)] 64 mix (by kernel_rfl) (by kernel_rfl) (IV.cons (off:=0) Z1 (IV.cons (off:=0) Z1 (IV.cons (off:=0) Z1 (IV.cons (off:=0) Z1 IV.nil)))) (N':=576) rfl ?_;refine W ?_;refine bU (.agg [vi r6.Config.N,vi r6.Config.L,vi r6.Config.R,vl dX r6.Hashes,vl bE r6.Edges,vl bH r9]) ?_;exact E
instance:Ct prog 13 (K2 prog aFd qY (t3 eJ qY vi) 13 sE):=⟨fun hm=>aSb hm⟩
def oC(s_0:aE):Option (Int):=
 (bif (!s_0.nn) then
  some 0
 else
  ((chk s_0.nn).bind fun _=>
  some s_0.size))
theorem xW:K1 prog aE.av vi 128 oC:=fun hm=>be 9 func128 (h:=G)
instance:Ct prog 128 (K1 prog aE.av vi 128 oC):=⟨xW⟩
def aIg(rec1:aE→Int→dF→Option (dF×Bool))(s_0:aE)(i_1:Int)(t4:dF):Option (dF×Bool):=
 ((chk s_0.nn).bind fun _=>
 ((oC s_0.ahead).bind fun r5=>
 (bif (decide (i_1<r5)) then
  ((chk s_0.nn).bind fun _=>
  rec1 s_0.ahead i_1 t4)
 else
  (bif (decide (r5<i_1)) then
   ((chk s_0.nn).bind fun _=>
   rec1 s_0.behind (IntKind.i64.wrap (i_1-(IntKind.i64.wrap (r5+1)))) t4)
  else
   ((chk s_0.nn).bind fun _=>
   some (s_0.thing,true))))))
def aBi:Nat→aE→Int→dF→Option (dF×Bool)
 |0=>fun _ _ _=>none
 |n+1=>aIg (aBi n)
def tD(s_0:aE)(i_1:Int):Option (dF×Bool):=
 ((fG ((decide (i_1<0))==false) 0 (oC s_0)).bind fun r2=>
 (bif ((decide (i_1<0))||(decide (r2≤i_1))) then
  some ((dF.mk 0 0),false)
 else
  aBi bC s_0 i_1 (dF.mk 0 0)))
theorem aFy:K2 prog aE.av vi (t2 aFe vb) 97 tD:=by
 intro s_0 i_1 r hm
 let I1:=((fun m s=> ∃s_0 i_1 t4,s=⟨46,(aF (aF (aF fa 0 (aE.av s_0)) 1 (vi i_1)) 4 (.adr 1 0)),⟨(upd bQ 1 (.cells 1 [vu t4.Key,vi t4.N] 0)),64⟩⟩∧aBi m s_0 i_1 t4=some r):Nat→St→Prop)
 exact be 46 func97 (h:=G)
instance:Ct prog 97 (K2 prog aE.av vi (t2 aFe vb) 97 tD):=⟨aFy⟩
def aAw(i_0:Int)(t1:dQ)(t2:Int):Option (Bool):=
 ((tD t1.s i_0).bind fun ⟨r2,r3⟩=>
 some (decide (t2≤r2.Key)))
theorem aWl{i_0:Int}{t1:dQ}{t2:Int}{r:Bool}(hm:aAw i_0 t1 t2=some r):dU prog 130 [vi i_0,.ptr [aE.av t1.s],.ptr [vu t2]] (vb r):=by
 refine bd 18 func130 ?_;refine W ?_;obtain ⟨⟨r2,r3⟩,h1,hm⟩:=bnd hm;refine cq (aFy h1) ?_;exact E
def aGi(f_1:(Int→Option (Bool)))(rec1:Int→Int→Option (Int))(i_5:Int)(j_6:Int):Option (Int):=
 (bif (decide (i_5<j_6)) then
  ((f_1 (IntKind.i64.wrap (shr .u64 (IntKind.u64.wrap (IntKind.i64.wrap (i_5+j_6))) 1))).bind fun r2=>
  (bif (!r2) then
   rec1 (IntKind.i64.wrap ((IntKind.i64.wrap (shr .u64 (IntKind.u64.wrap (IntKind.i64.wrap (i_5+j_6))) 1))+1)) j_6
  else
   rec1 i_5 (IntKind.i64.wrap (shr .u64 (IntKind.u64.wrap (IntKind.i64.wrap (i_5+j_6))) 1))))
 else
  some i_5)
def zG(f_1:(Int→Option (Bool))):Nat→Int→Int→Option (Int)
 |0=>fun _ _=>none
 |n+1=>aGi f_1 (zG f_1 n)
def aIj(n_0:Int)(f_1:(Int→Option (Bool))):Option (Int):=
 zG f_1 bC 0 n_0
theorem aY9{n_0:Int}{f_1:(Int→Option (Bool))}{r:Int}(hm:aIj n_0 f_1=some r){aMv:FuncId}{aDr:List AV}(aS6: ∀a,a∈aDr→AM.Data a)(bEh:(Program.funcs prog)[aMv]?.any (fun fn=>fn.body.isSome&&fn.name != "runtime.NumGoroutine")=true)(bEj: ∀ {x0 r},f_1 x0=some r→dU prog aMv ([vi x0]++aDr) (vb r)):dU prog 129 [vi n_0,.clo (.func aMv) [] aDr] (vi r):=by
 refine bd 26 func129 ?_;refine W ?_;refine lp (fun m s=> ∃i_5 j_6,s=⟨26,(aF (aF (aF fa 1 (.clo (.func aMv) [] aDr)) 5 (vi i_5)) 6 (vi j_6)),⟨bQ,64⟩⟩∧zG f_1 m i_5 j_6=some r) L ?_;rintro n1 s ⟨i_5,j_6,rfl,hm⟩;refine W ?_;refine cm hm (fun hm=>?_) fun hm=>?_
 ·
  obtain ⟨r2,h1,hm⟩:=bnd hm;refine W ?_;refine aI.callQC (r:= .v (.bool r2)) Zd Z1 aS6 bEh (fun H=>(cV .nil)) (bEj h1) ?_;refine W ?_;refine cm hm (fun hm=>?_) fun hm=>?_
  · exact L
  exact L
 exact E
def aBz(d_0:dQ)(nV:Int):Option (Int):=
 ((oC d_0.s).bind fun r2=>
 ((aIj r2 (fun x0=>aAw x0 d_0 nV)).bind fun r4=>
 some r4))
theorem aRz{d_0:dQ}{nV:Int}{r:Int}(hm:aBz d_0 nV=some r):dU prog 98 [.agg [aE.av d_0.s],vu nV] (vi r):=by
 refine bd 10 func98 ?_;refine S1 ?_;refine aI.pop Zd (aXj Z1 (.agg _ (aFi.dat d_0))) (aXo (ys:=[aE.av d_0.s]) Z1 (fun H=>(.cons (.data _ (aE.data d_0.s)) .nil))) rfl ?_;refine aI.pop Zd (aXj Z1 (.v _)) (aXo (ys:=[.v (.int .u64 nV)]) Z1 (fun H=>(.cons (.data _ (.v _)) .nil))) rfl ?_;obtain ⟨r2,h1,hm⟩:=bnd hm;refine W ?_;refine cq (xW h1) ?_;obtain ⟨r4,h3,hm⟩:=bnd hm;refine W ?_;refine aI.callQ (r:= .v (.int .i64 r4)) Zd Z1 bW3 (fun H=>(cV (.cons (td Z1 (bI8 (zO (.ptr _ (aFi.dat d_0)) (zO (.ptr _ ((CFi .u64).dat nV)) aLq)))) .nil))) (aY9 h3 (zO (.ptr _ (aFi.dat d_0)) (zO (.ptr _ ((CFi .u64).dat nV)) aLq)) bW4 (fun h=>aWl h)) ?_;exact E
instance:Ct prog 98 (K2 prog aA2 vu vi 98 aBz):=⟨fun hm=>aRz hm⟩
def aA5(d_0:dQ)(nV:Int):Option (Int×Bool):=
 ((aBz d_0 nV).bind fun r2=>
 ((tD d_0.s r2).bind fun ⟨r4,r5⟩=>
 (bif ((!r5)||(r4.Key !=nV)) then
  some (0,false)
 else
  some (r4.N,true))))
theorem aOi:K2 prog aA2 vu (t2 vi vb) 72 aA5:=fun hm=>be 27 func72 (h:=G)
instance:Ct prog 72 (K2 prog aA2 vu (t2 vi vb) 72 aA5):=⟨aOi⟩
def fF(s_0:aE):Option (Int):=
 (bif (!s_0.nn) then
  some 0
 else
  ((chk s_0.nn).bind fun _=>
  some s_0.height))
theorem qD:K1 prog aE.av vi 173 fF:=fun hm=>be 9 func173 (h:=G)
instance:Ct prog 173 (K1 prog aE.av vi 173 fF):=⟨qD⟩
def iN(dP:aE)(kP:dF)(cM:aE):Option (aE):=
 ((fF dP).bind fun r2=>
 ((fF cM).bind fun r4=>
 ((oC dP).bind fun r6=>
 ((oC cM).bind fun r8=>
 some (aE.mk dP cM kP (IntKind.i64.wrap ((if r2<r4 then r4 else r2)+1)) (IntKind.i64.wrap ((IntKind.i64.wrap (r6+1))+r8)))))))
theorem aGg{dP:aE}{kP:dF}{cM:aE}{r:aE}(hm:iN dP kP cM=some r):dU prog 144 [aE.av dP,.agg [vu kP.Key,vi kP.N],aE.av cM] (aE.av r):=by
 refine bd 24 func144 ?_;obtain ⟨r2,h1,hm⟩:=bnd hm;refine W ?_;refine cq (qD h1) ?_;obtain ⟨r4,h3,hm⟩:=bnd hm;refine W ?_;refine cq (qD h3) ?_;obtain ⟨r6,h5,hm⟩:=bnd hm;refine W ?_;refine cq (xW h5) ?_;obtain ⟨r8,h7,hm⟩:=bnd hm;refine W ?_;refine cq (xW h7) ?_;refine W ?_;refine pu rfl (by simp only [go_sem,Nat.reduceBEq];exact bLf (aE.cells _) (aE.cells _)) ?_;refine aI.pop Zd (aXj Z1 (.agg _ (zO (aE.data dP) (zO (aE.data cM) (zO (.v _) (zO (.v _) (zO (.v _) (zO (.v _) aLq)))))))) (aXo (ys:=[aE.av ((aE.mk dP cM kP (IntKind.i64.wrap ((if r2<r4 then r4 else r2)+1)) (IntKind.i64.wrap ((IntKind.i64.wrap (r6+1))+r8))).ahead),aE.av ((aE.mk dP cM kP (IntKind.i64.wrap ((if r2<r4 then r4 else r2)+1)) (IntKind.i64.wrap ((IntKind.i64.wrap (r6+1))+r8))).behind),.v (.int .u64 (((aE.mk dP cM kP (IntKind.i64.wrap ((if r2<r4 then r4 else r2)+1)) (IntKind.i64.wrap ((IntKind.i64.wrap (r6+1))+r8))).thing).Key)),.v (.int .i64 (((aE.mk dP cM kP (IntKind.i64.wrap ((if r2<r4 then r4 else r2)+1)) (IntKind.i64.wrap ((IntKind.i64.wrap (r6+1))+r8))).thing).N)),.v (.int .i64 ((aE.mk dP cM kP (IntKind.i64.wrap ((if r2<r4 then r4 else r2)+1)) (IntKind.i64.wrap ((IntKind.i64.wrap (r6+1))+r8))).height)),.v (.int .i64 ((aE.mk dP cM kP (IntKind.i64.wrap ((if r2<r4 then r4 else r2)+1)) (IntKind.i64.wrap ((IntKind.i64.wrap (r6+1))+r8))).size))]) Z1 (fun H=>(.cons (.data _ (aE.data dP)) (.cons (.data _ (aE.data cM)) (.cons (.data _ (.v _)) (.cons (.data _ (.v _)) (.cons (.data _ (.v _)) (.cons (.data _ (.v _)) .nil)))))))) rfl ?_;exact E
instance:Ct prog 144 (K3 prog aE.av aFe aE.av aE.av 144 iN):=⟨fun hm=>aGg hm⟩
def rL(dP:aE)(kP:dF)(cM:aE):Option (aE):=
 ((fF dP).bind fun r2=>
 ((fF cM).bind fun r4=>
 (bif (decide ((IntKind.i64.wrap (r4+1))<r2)) then
  ((chk dP.nn).bind fun _=>
  ((fF dP.ahead).bind fun r7=>
  ((chk dP.nn).bind fun _=>
  ((fF dP.behind).bind fun r10=>
  (bif (decide (r10≤r7)) then
   ((chk dP.nn).bind fun _=>
   ((chk dP.nn).bind fun _=>
   ((chk dP.nn).bind fun _=>
   ((iN dP.behind kP cM).bind fun r15=>
   ((iN dP.ahead dP.thing r15).bind fun r17=>
   some r17)))))
  else
   ((chk dP.nn).bind fun _=>
   ((chk dP.nn).bind fun _=>
   ((chk dP.nn).bind fun _=>
   ((chk dP.behind.nn).bind fun _=>
   ((iN dP.ahead dP.thing dP.behind.ahead).bind fun r23=>
   ((chk dP.behind.nn).bind fun _=>
   ((chk dP.behind.nn).bind fun _=>
   ((iN dP.behind.behind kP cM).bind fun r27=>
   ((iN r23 dP.behind.thing r27).bind fun r29=>
   some r29))))))))))))))
 else
  ((fF cM).bind fun r31=>
  ((fF dP).bind fun r33=>
  (bif (decide ((IntKind.i64.wrap (r33+1))<r31)) then
   ((chk cM.nn).bind fun _=>
   ((fF cM.behind).bind fun r36=>
   ((chk cM.nn).bind fun _=>
   ((fF cM.ahead).bind fun r39=>
   (bif (decide (r39≤r36)) then
    ((chk cM.nn).bind fun _=>
    ((iN dP kP cM.ahead).bind fun r42=>
    ((chk cM.nn).bind fun _=>
    ((chk cM.nn).bind fun _=>
    ((iN r42 cM.thing cM.behind).bind fun r46=>
    some r46)))))
   else
    ((chk cM.nn).bind fun _=>
    ((chk cM.ahead.nn).bind fun _=>
    ((iN dP kP cM.ahead.ahead).bind fun r50=>
    ((chk cM.ahead.nn).bind fun _=>
    ((chk cM.ahead.nn).bind fun _=>
    ((chk cM.nn).bind fun _=>
    ((chk cM.nn).bind fun _=>
    ((iN cM.ahead.behind cM.thing cM.behind).bind fun r56=>
    ((iN r50 cM.ahead.thing r56).bind fun r58=>
    some r58))))))))))))))
  else
   ((iN dP kP cM).bind fun r60=>
   some r60)))))))
theorem aDk:K3 prog aE.av aFe aE.av aE.av 174 rL:=fun hm=>be 139 func174 (h:=G)
instance:Ct prog 174 (K3 prog aE.av aFe aE.av aE.av 174 rL):=⟨aDk⟩
def uE(recf:aE→dF→aE→Option (aE))(dP:aE)(kP:dF)(cM:aE):Option (aE):=
 ((fF dP).bind fun r2=>
 ((fF cM).bind fun r4=>
 (bif (decide ((IntKind.i64.wrap (r4+1))<r2)) then
  ((chk dP.nn).bind fun _=>
  ((chk dP.nn).bind fun _=>
  ((chk dP.nn).bind fun _=>
  ((recf dP.behind kP cM).bind fun r9=>
  ((rL dP.ahead dP.thing r9).bind fun r11=>
  some r11)))))
 else
  ((fF cM).bind fun r13=>
  ((fF dP).bind fun r15=>
  (bif (decide ((IntKind.i64.wrap (r15+1))<r13)) then
   ((chk cM.nn).bind fun _=>
   ((recf dP kP cM.ahead).bind fun r18=>
   ((chk cM.nn).bind fun _=>
   ((chk cM.nn).bind fun _=>
   ((rL r18 cM.thing cM.behind).bind fun r22=>
   some r22)))))
  else
   ((iN dP kP cM).bind fun r24=>
   some r24)))))))
def rK:Nat→aE→dF→aE→Option (aE)
 |0=>fun _ _ _=>none
 |n+1=>uE (rK n)
def uF(dP:aE)(kP:dF)(cM:aE):Option (aE):=rK bC dP kP cM
theorem aOw: ∀(nn:Nat) {dP:aE} {kP:dF} {cM:aE} {r:aE} (hm:rK nn dP kP cM=some r),dU prog 143 [aE.av dP,.agg [.v (.int .u64 kP.Key),.v (.int .i64 kP.N)],aE.av cM] (aE.av r):=by
 intro nn
 induction nn with
 |zero=>
  intro dP kP cM r hm;replace hm:none=some r:=hm;cases hm
 |succ nn ih=>
  intro dP kP cM r hm;replace hm:uE (rK nn) dP kP cM=some r:=hm;refine dU.of_body func143 rfl ?_;simp only [ntmps143,List.length_cons,List.length_nil,Nat.reduceAdd,Nat.reduceSub,nB];unfold uE at hm;refine sN 64 (hp (id:=0) rfl rfl (aUq Z1 Z5) ?_);refine pA ?_;refine fs (AWp.seq' (AWp.block (sN 128 (pA ?_))));obtain ⟨r2,h1,hm⟩:=bnd hm;refine aI.callQ (r:= .v (.int .i64 r2)) Zd Z1 bGf (fun H=>(cD (aE.data _) .nil)) (qD h1) ?_;refine pA ?_;obtain ⟨r4,h3,hm⟩:=bnd hm;refine aI.callQ (r:= .v (.int .i64 r4)) Zd Z1 bGf (fun H=>(cD (aE.data _) .nil)) (qD h3) ?_
  iterate 3 refine pA ?_
  refine fs (AWp.condM hm Z1 (fun _ hm=>?_) (fun _ hm=>?_))
  ·
   refine sd mix (by kernel_rfl) (N':=192) rfl ?_;refine pA ?_;obtain ⟨_,h5,hm⟩:=bnd hm;refine pu rfl (aAn Z1 (aE.av_nn (yM h5))) ?_
   iterate 3 refine pA ?_
   obtain ⟨_,h6,hm⟩:=bnd hm;refine pu rfl (aAn Z1 (aE.av_nn (yM h6))) ?_
   iterate 3 refine pA ?_
   obtain ⟨_,h7,hm⟩:=bnd hm;refine pu rfl (aAn Z1 (aE.av_nn (yM h7))) ?_
   iterate 2 refine pA ?_
   refine pu rfl (lD Z1 Z3 Z2) ?_;refine pA ?_;obtain ⟨r9,h8,hm⟩:=bnd hm;refine aI.callQ (r:=aE.av r9) Zd Z1 bGe (fun H=>(cD (aE.data _) (cD (.agg _ (mI.dat _)) (cD (aE.data _) .nil)))) (ih h8) ?_;obtain ⟨r11,h10,hm⟩:=bnd hm;refine aI.callQ (r:=aE.av r11) Zd Z1 bSk (fun H=>(cD (aE.data _) (cD (.agg _ (mI.dat _)) (cD (aE.data _) .nil)))) (aDk h10) ?_;refine pA ?_;refine fs (AWp.ret (pO (lA ?_)));cases hm;exact aNf (.inr rfl) Tryz.results143 (td Z1 (aE.data _))
  ·
   refine sN 192 (pA ?_);obtain ⟨r13,h12,hm⟩:=bnd hm;refine aI.callQ (r:= .v (.int .i64 r13)) Zd Z1 bGf (fun H=>(cD (aE.data _) .nil)) (qD h12) ?_;refine pA ?_;obtain ⟨r15,h14,hm⟩:=bnd hm;refine aI.callQ (r:= .v (.int .i64 r15)) Zd Z1 bGf (fun H=>(cD (aE.data _) .nil)) (qD h14) ?_
   iterate 3 refine pA ?_
   refine fs (AWp.condM hm Z1 (fun _ hm=>?_) (fun _ hm=>?_))
   ·
    refine sd mix (by kernel_rfl) (N':=256) rfl ?_;refine pA ?_;refine pu rfl (lD Z1 Z3 Z2) ?_;refine pA ?_;obtain ⟨_,h16,hm⟩:=bnd hm;refine pu rfl (aAn Z1 (aE.av_nn (yM h16))) ?_
    iterate 2 refine pA ?_
    obtain ⟨r18,h17,hm⟩:=bnd hm;refine aI.callQ (r:=aE.av r18) Zd Z1 bGe (fun H=>(cD (aE.data _) (cD (.agg _ (mI.dat _)) (cD (aE.data _) .nil)))) (ih h17) ?_;refine pA ?_;obtain ⟨_,h19,hm⟩:=bnd hm;refine pu rfl (aAn Z1 (aE.av_nn (yM h19))) ?_
    iterate 3 refine pA ?_
    obtain ⟨_,h20,hm⟩:=bnd hm;refine pu rfl (aAn Z1 (aE.av_nn (yM h20))) ?_
    iterate 2 refine pA ?_
    obtain ⟨r22,h21,hm⟩:=bnd hm;refine aI.callQ (r:=aE.av r22) Zd Z1 bSk (fun H=>(cD (aE.data _) (cD (.agg _ (mI.dat _)) (cD (aE.data _) .nil)))) (aDk h21) ?_;refine pA ?_;refine fs (AWp.ret (pO (lA ?_)));cases hm;exact aNf (.inr rfl) Tryz.results143 (td Z1 (aE.data _))
   · refine AWp.skip (eR (aV (sN 256 (pA ?_))));refine pu rfl (lD Z1 Z3 Z2) ?_;refine pA ?_;obtain ⟨r24,h23,hm⟩:=bnd hm;refine aI.callQ (r:=aE.av r24) Zd Z1 bSj (fun H=>(cD (aE.data _) (cD (.agg _ (mI.dat _)) (cD (aE.data _) .nil)))) (aGg h23) ?_;refine pA ?_;refine fs (AWp.ret ?_);cases hm;exact aNf (.inr rfl) Tryz.results143 (td Z1 (aE.data _))
theorem aDj{dP:aE}{kP:dF}{cM:aE}{r:aE}(hm:uF dP kP cM=some r):dU prog 143 [aE.av dP,.agg [.v (.int .u64 kP.Key),.v (.int .i64 kP.N)],aE.av cM] (aE.av r):=aOw bC hm
def wH(recf:aE→Int→Option (aE×aE))(s_0:aE)(aBs:Int):Option (aE×aE):=
 (bif (decide (aBs≤0)) then
  some (aE.nil,s_0)
 else
  ((oC s_0).bind fun r2=>
  (bif (decide (r2≤aBs)) then
   some (s_0,aE.nil)
  else
   ((chk s_0.nn).bind fun _=>
   ((oC s_0.ahead).bind fun r5=>
   (bif (decide (aBs≤r5)) then
    ((chk s_0.nn).bind fun _=>
    ((recf s_0.ahead aBs).bind fun ⟨r8,r9⟩=>
    ((chk s_0.nn).bind fun _=>
    ((chk s_0.nn).bind fun _=>
    ((uF r9 s_0.thing s_0.behind).bind fun r13=>
    some (r8,r13))))))
   else
    ((chk s_0.nn).bind fun _=>
    ((recf s_0.behind (IntKind.i64.wrap ((IntKind.i64.wrap (aBs-r5))-1))).bind fun ⟨r16,r17⟩=>
    ((chk s_0.nn).bind fun _=>
    ((chk s_0.nn).bind fun _=>
    ((uF s_0.ahead s_0.thing r16).bind fun r21=>
    some (r21,r17))))))))))))
def sS:Nat→aE→Int→Option (aE×aE)
 |0=>fun _ _=>none
 |n+1=>wH (sS n)
def wI(s_0:aE)(aBs:Int):Option (aE×aE):=sS bC s_0 aBs
theorem aR2: ∀(nn:Nat) {s_0:aE} {aBs:Int} {r:aE×aE} (hm:sS nn s_0 aBs=some r),dU prog 125 [aE.av s_0,.v (.int .i64 aBs)] (.tup [aE.av r.1,aE.av r.2]):=by
 intro nn
 induction nn with
 |zero=>
  intro s_0 aBs r hm;replace hm:none=some r:=hm;cases hm
 |succ nn ih=>
  intro s_0 aBs r hm;replace hm:wH (sS nn) s_0 aBs=some r:=hm;refine dU.of_body func125 rfl ?_;simp only [ntmps125,List.length_cons,List.length_nil,Nat.reduceAdd,Nat.reduceSub,nB];unfold wH at hm;refine sN 64 ?_
  iterate 2 refine pA ?_
  refine fs (AWp.seq' (sN 128 ?_))
  iterate 2 refine pA ?_
  refine fs (AWp.condM hm Z1 (fun _ hm=>?_) (fun _ hm=>?_))
  ·
   refine sN 192 ?_
   iterate 3 refine pA ?_
   refine fs (AWp.ret (lA ?_));cases hm;exact aNg (.inr rfl) Tryz.results125 (td Z1 (aE.data _)) (td Z1 (aE.data _))
  ·
   refine AWp.skip (aV (AWp.seq' (sN 192 ?_)))
   iterate 2 refine pA ?_
   obtain ⟨r2,h1,hm⟩:=bnd hm;refine aI.callQ (r:= .v (.int .i64 r2)) Zd Z1 bSg (fun H=>(cD (aE.data _) .nil)) (xW h1) ?_;refine pA ?_;refine fs (AWp.condM hm Z1 (fun _ hm=>?_) (fun _ hm=>?_))
   ·
    refine sN 256 ?_
    iterate 3 refine pA ?_
    refine fs (AWp.ret (lA ?_));cases hm;exact aNg (.inr rfl) Tryz.results125 (td Z1 (aE.data _)) (td Z1 (aE.data _))
   ·
    refine AWp.skip (aV (sN 256 (pA ?_)));obtain ⟨_,h3,hm⟩:=bnd hm;refine pu rfl (aAn Z1 (aE.av_nn (yM h3))) ?_
    iterate 2 refine pA ?_
    obtain ⟨r5,h4,hm⟩:=bnd hm;refine aI.callQ (r:= .v (.int .i64 r5)) Zd Z1 bSg (fun H=>(cD (aE.data _) .nil)) (xW h4) ?_;refine pA ?_;refine fs (AWp.seq' (sN 320 ?_))
    iterate 3 refine pA ?_
    refine fs (AWp.condM hm Z1 (fun _ hm=>?_) (fun _ hm=>?_))
    ·
     refine sN 384 (pA ?_);obtain ⟨_,h6,hm⟩:=bnd hm;refine pu rfl (aAn Z1 (aE.av_nn (yM h6))) ?_
     iterate 3 refine pA ?_
     obtain ⟨⟨r8,r9⟩,h7,hm⟩:=bnd hm;refine aI.callQ (r:= .tup [aE.av r8,aE.av r9]) Zd Z1 bSf (fun H=>(cD (aE.data _) (cV .nil))) (ih h7) ?_
     iterate 5 refine pA ?_
     refine fs (sd mix (by kernel_rfl) (N':=448) rfl ?_)
     iterate 3 refine pA ?_
     obtain ⟨_,h10,hm⟩:=bnd hm;refine pu rfl (aAn Z1 (aE.av_nn (yM h10))) ?_
     iterate 3 refine pA ?_
     obtain ⟨_,h11,hm⟩:=bnd hm;refine pu rfl (aAn Z1 (aE.av_nn (yM h11))) ?_
     iterate 2 refine pA ?_
     obtain ⟨r13,h12,hm⟩:=bnd hm;refine aI.callQ (r:=aE.av r13) Zd Z1 bGe (fun H=>(cD (aE.data _) (cD (.agg _ (mI.dat _)) (cD (aE.data _) .nil)))) (aDj h12) ?_
     iterate 2 refine pA ?_
     refine fs (AWp.ret (lA ?_));cases hm;exact aNg (.inr rfl) Tryz.results125 (td Z1 (aE.data _)) (td Z1 (aE.data _))
    ·
     refine AWp.skip (aV (sN 384 (pA ?_)));obtain ⟨_,h14,hm⟩:=bnd hm;refine pu rfl (aAn Z1 (aE.av_nn (yM h14))) ?_
     iterate 6 refine pA ?_
     obtain ⟨⟨r16,r17⟩,h15,hm⟩:=bnd hm;refine aI.callQ (r:= .tup [aE.av r16,aE.av r17]) Zd Z1 bSf (fun H=>(cD (aE.data _) (cV .nil))) (ih h15) ?_
     iterate 5 refine pA ?_
     refine fs (sd mix (by kernel_rfl) (N':=448) rfl ?_);refine pA ?_;obtain ⟨_,h18,hm⟩:=bnd hm;refine pu rfl (aAn Z1 (aE.av_nn (yM h18))) ?_
     iterate 3 refine pA ?_
     obtain ⟨_,h19,hm⟩:=bnd hm;refine pu rfl (aAn Z1 (aE.av_nn (yM h19))) ?_
     iterate 3 refine pA ?_
     obtain ⟨r21,h20,hm⟩:=bnd hm;refine aI.callQ (r:=aE.av r21) Zd Z1 bGe (fun H=>(cD (aE.data _) (cD (.agg _ (mI.dat _)) (cD (aE.data _) .nil)))) (aDj h20) ?_
     iterate 3 refine pA ?_
     refine fs (AWp.ret ?_);cases hm;exact aNg (.inr rfl) Tryz.results125 (td Z1 (aE.data _)) (td Z1 (aE.data _))
theorem aF2{s_0:aE}{aBs:Int}{r:aE×aE}(hm:wI s_0 aBs=some r):dU prog 125 [aE.av s_0,.v (.int .i64 aBs)] (.tup [aE.av r.1,aE.av r.2]):=aR2 bC hm
def wG(recf:(List dF)→Option (aE))(l_0:List dF):Option (aE):=
 (bif ((l_0.length:Int)==0) then
  some aE.nil
 else
  ((slc l_0 0 (IntKind.i64.wrap (Int.tdiv (l_0.length:Int) 2))).bind fun l2=>
  ((recf l2).bind fun r4=>
  ((idx l_0 (IntKind.i64.wrap (Int.tdiv (l_0.length:Int) 2))).bind fun x6=>
  ((slc l_0 (IntKind.i64.wrap ((IntKind.i64.wrap (Int.tdiv (l_0.length:Int) 2))+1)) (l_0.length:Int)).bind fun l8=>
  ((recf l8).bind fun r10=>
  ((iN r4 x6 r10).bind fun r12=>
  some r12)))))))
def aAe:Nat→(List dF)→Option (aE)
 |0=>fun _=>none
 |n+1=>wG (aAe n)
def aFz(l_0:List dF):Option (aE):=aAe bC l_0
theorem aY3: ∀(nn:Nat) {l_0:List dF} {r:aE} (hm:aAe nn l_0=some r),dU prog 127 [.sl (l_0.flatMap aBy) l_0.length false] (aE.av r):=by
 intro nn
 induction nn with
 |zero=>
  intro l_0 r hm;replace hm:none=some r:=hm;cases hm
 |succ nn ih=>
  intro l_0 r hm;replace hm:wG (aAe nn) l_0=some r:=hm;refine dU.of_body func127 rfl ?_;simp only [ntmps127,List.length_cons,List.length_nil,Nat.reduceAdd,Nat.reduceSub,nB];unfold wG at hm;refine sN 64 (pA ?_);refine fs (AWp.seq' (sN 128 ?_))
  iterate 3 refine pA ?_
  refine fs (AWp.condM hm Z1 (fun _ hm=>?_) (fun _ hm=>?_))
  · refine sN 192 (pA ?_);refine fs (AWp.ret (lA ?_));cases hm;exact aNf (.inr rfl) Tryz.results127 (td Z1 (aE.data _))
  ·
   refine AWp.skip (aV (sN 192 ?_))
   iterate 4 refine pu rfl Zj ?_
   refine fs (sd mix (by kernel_rfl) (N':=256) rfl ?_)
   iterate 2 refine pA ?_
   obtain ⟨l2,h1,hm⟩:=bnd hm;refine pu rfl (bC8 mI underlying204 bH9 Z1 rfl aYk (aR3 Z1 (bH6 h1).2) h1) ?_;obtain ⟨r4,h3,hm⟩:=bnd hm;refine aI.callQ (r:=aE.av r4) Zd Z1 bM9 (fun H=>(.cons (tdf Z1 (mI.sl _ _ _)) .nil)) (ih h3) ?_
   iterate 2 refine pA ?_
   obtain ⟨x6,h5,hm⟩:=bnd hm;refine pu rfl (aEi mI Zd underlying204 bH9 Z1 rfl Z1 h5) ?_
   iterate 4 refine pA ?_
   obtain ⟨l8,h7,hm⟩:=bnd hm;refine pu rfl (bC8 mI underlying204 bH9 Z1 rfl (aR3 Z1 (bH6 h7).1) (bFr _) h7) ?_;obtain ⟨r10,h9,hm⟩:=bnd hm;refine aI.callQ (r:=aE.av r10) Zd Z1 bM9 (fun H=>(.cons (tdf Z1 (mI.sl _ _ _)) .nil)) (ih h9) ?_;obtain ⟨r12,h11,hm⟩:=bnd hm;refine aI.callQ (r:=aE.av r12) Zd Z1 bSj (fun H=>(cD (aE.data _) (cD (.agg _ (mI.dat _)) (cD (aE.data _) .nil)))) (aGg h11) ?_;refine pA ?_;refine fs (AWp.ret ?_);cases hm;exact aNf (.inr rfl) Tryz.results127 (td Z1 (aE.data _))
theorem bB7{l_0:List dF}{r:aE}(hm:aFz l_0=some r):dU prog 127 [.sl (l_0.flatMap aBy) l_0.length false] (aE.av r):=aY3 bC hm
def uT(a_0:aE)(b_1:aE):Option (aE):=
 ((tD b_1 0).bind fun ⟨r2,r3⟩=>
 (bif (!r3) then
  some a_0
 else
  ((wI b_1 1).bind fun ⟨r5,r6⟩=>
  ((uF a_0 r2 r6).bind fun r8=>
  some r8))))
theorem aGf{a_0:aE}{b_1:aE}{r:aE}(hm:uT a_0 b_1=some r):dU prog 126 [aE.av a_0,aE.av b_1] (aE.av r):=by
 refine bd 26 func126 ?_;refine W ?_;obtain ⟨⟨r2,r3⟩,h1,hm⟩:=bnd hm;refine cq (aFy h1) ?_;refine W ?_;refine cm hm (fun hm=>?_) fun hm=>?_
 · exact E
 refine W ?_;obtain ⟨⟨r5,r6⟩,h4,hm⟩:=bnd hm;refine cq (aF2 h4) ?_;obtain ⟨r8,h7,hm⟩:=bnd hm;refine W ?_;refine cq (aDj h7) ?_;exact E
instance:Ct prog 126 (K2 prog aE.av aE.av aE.av 126 uT):=⟨fun hm=>aGf hm⟩
abbrev aHj(nV:Int)(n_2:Int)(t6:dQ)(aSf:aE)(aJr:aE):Option (dQ):=
 ((aFz [(dF.mk nV n_2)]).bind fun r7=>
 ((uT r7 aJr).bind fun r9=>
 ((uT aSf r9).bind fun r11=>
 some (dQ.mk r11))))
def aGt(d_0:dQ)(nV:Int)(n_2:Int):Option (dQ):=
 ((aBz d_0 nV).bind fun r2=>
 ((wI d_0.s r2).bind fun ⟨r4,r5⟩=>
 ((tD r5 0).bind fun ⟨r13,r14⟩=>
 (bif (r14&&(r13.Key==nV)) then
  ((wI r5 1).bind fun ⟨r16,r17⟩=>
  aHj nV n_2 (dQ.mk aE.nil) r4 r17)
 else
  aHj nV n_2 (dQ.mk aE.nil) r4 r5))))
theorem bI9{d_0:dQ}{nV:Int}{n_2:Int}{r:dQ}(hm:aGt d_0 nV n_2=some r):dU prog 96 [.agg [aE.av d_0.s],vu nV,vi n_2] (.agg [aE.av r.s]):=by
 refine bd 47 func96 ?_;obtain ⟨r2,h1,hm⟩:=bnd hm;refine W ?_;refine cq (aRz h1) ?_;obtain ⟨⟨r4,r5⟩,h3,hm⟩:=bnd hm;refine cq (aF2 h3) ?_;refine V ?_;refine AWp.seqJ (fun s=> ∃nV n_2 t6 aSf aJr,s=⟨47,(aF (aF (aF (aF (aF fa 1 (vu nV)) 2 (vi n_2)) 6 (.adr 1 0)) 7 (aE.av aSf)) 8 (aE.av aJr)),⟨(upd bQ 1 (.cells 1 [aE.av t6.s] 0)),64⟩⟩∧aHj nV n_2 t6 aSf aJr=some r) ?_ ?_
 ·
  refine W ?_;obtain ⟨⟨r13,r14⟩,h12,hm⟩:=bnd hm;refine cq (aFy h12) ?_;refine W ?_;refine cm hm (fun hm=>?_) fun hm=>?_
  · refine W ?_;obtain ⟨⟨r16,r17⟩,h15,hm⟩:=bnd hm;refine cq (aF2 h15) ?_;refine W ?_;exact Lr (fun j=>bif j==1 then 1 else 0)
  refine W ?_;exact Lr (fun j=>bif j==1 then 1 else 0)
 rintro s ⟨nV,n_2,t6,aSf,aJr,rfl,hm⟩;refine W ?_;refine bU (.agg [vu nV,vi n_2]) ?_;refine aL mI [(dF.mk nV n_2)] ?_;obtain ⟨r7,h6,hm⟩:=bnd hm;refine aI.callL1 (r:=aE.av r7) (id:=68) Zd Z1 bM9 Z3 (.cons (tdl mI Z1 Z3 (by simp) Z6) .nil) (bB7 h6) ?_;obtain ⟨r9,h8,hm⟩:=bnd hm;refine W ?_;refine cq (aGf h8) ?_;obtain ⟨r11,h10,hm⟩:=bnd hm;refine cq (aGf h10) ?_;refine pu rfl (by simp only [go_sem,Nat.reduceBEq];exact bLe (aE.cells _)) ?_;exact E
instance:Ct prog 96 (K3 prog aA2 vu vi aA2 96 aGt):=⟨fun hm=>bI9 hm⟩
abbrev aGm(rec1:dQ→dQ→List aR→Int→Int→Option (dQ×Bool))(t2:dQ)(uA:dQ)(t14:List aR)(t15:Int)(t16:Int):Option (dQ×Bool):=
 rec1 t2 uA t14 t15 (IntKind.i64.wrap (t16+1))
def aGl(rec1:dQ→dQ→List aR→Int→Int→Option (dQ×Bool))(t2:dQ)(uA:dQ)(t14:List aR)(t15:Int)(t16:Int):Option (dQ×Bool):=
 (bif (decide (t16<t15)) then
  ((idx t14 t16).bind fun x4=>
  (bif (!x4.Used) then
   (bif (x4.Key !=0) then
    some ((dQ.mk aE.nil),false)
   else
    aGm rec1 t2 uA t14 t15 t16)
  else
   ((aA5 uA x4.Key).bind fun ⟨r6,r7⟩=>
   (bif r7 then
    some ((dQ.mk aE.nil),false)
   else
    ((aGt uA x4.Key t16).bind fun r9=>
    aGm rec1 t2 r9 t14 t15 t16)))))
 else
  some (uA,true))
def zM:Nat→dQ→dQ→List aR→Int→Int→Option (dQ×Bool)
 |0=>fun _ _ _ _ _=>none
 |n+1=>aGl (zM n)
def rZ(l_0:List aR):Option (dQ×Bool):=
 ((uB (l_0.length:Int)).bind fun r2=>
 (bif (!r2) then
  some ((dQ.mk aE.nil),false)
 else
  zM bC (dQ.mk aE.nil) (dQ.mk aE.nil) l_0 (l_0.length:Int) 0))
theorem aIp:K1 prog (vl bH) (t2 aA2 vb) 71 rZ:=by
 intro l_0 r hm
 let I1:=((fun m s=> ∃t2 uA t14 t15 t16,s=⟨44,(aF (aF (aF (aF (aF fa 2 (.adr 1 0)) 4 (.adr 2 0)) 14 (vl bH t14)) 15 (vi t15)) 16 (vi t16)),⟨(upd (upd bQ 1 (.cells 1 [aE.av t2.s] 0)) 2 (.cells 1 [aE.av uA.s] 0)),64⟩⟩∧zM m t2 uA t14 t15 t16=some r):Nat→St→Prop)
 exact be 44 func71 (h:=G)
instance:Ct prog 71 (K1 prog (vl bH) (t2 aA2 vb) 71 rZ):=⟨aIp⟩
def aBp(l_0:List aR):Option (Bool):=
 ((rZ l_0).bind fun ⟨r2,r3⟩=>
 some r3)
theorem aYe:K1 prog (vl bH) vb 50 aBp:=fun hm=>be 11 func50 (h:=G)
instance:Ct prog 50 (K1 prog (vl bH) vb 50 aBp):=⟨aYe⟩
def aIi(rec1:aG→List aH→Int→Int→Option (Bool))(s_1:aG)(t27:List aH)(t28:Int)(t29:Int):Option (Bool):=
 (bif (decide (t29<t28)) then
  ((idx t27 t29).bind fun x6=>
  ((idx s_1.Slots x6.U).bind fun x8=>
  ((fG ((!x8.Used)==false) (aR.mk false 0) (idx s_1.Slots x6.V)).bind fun x10=>
  (bif ((!x8.Used)||(!x10.Used)) then
   some false
  else
   rec1 s_1 t27 t28 (IntKind.i64.wrap (t29+1))))))
 else
  some true)
def aBm:Nat→aG→List aH→Int→Int→Option (Bool)
 |0=>fun _ _ _ _=>none
 |n+1=>aIi (aBm n)
def qW(s_0:aG):Option (Bool):=
 ((lV s_0.Graph).bind fun r2=>
 ((fG ((!r2)==false) false (aBp s_0.Slots)).bind fun r4=>
 (bif (((!r2)||(!r4))||((s_0.Slots.length:Int) !=s_0.Graph.Config.N)) then
  some false
 else
  aBm bC s_0 s_0.Graph.Edges (s_0.Graph.Edges.length:Int) 0)))
theorem aQb:K1 prog eJ vb 19 qW:=by
 intro s_0 r hm
 let I1:=((fun m s=> ∃s_1 t27 t28 t29,s=⟨52,(aF (aF (aF (aF fa 1 (.adr 1 0)) 27 (vl bE t27)) 28 (vi t28)) 29 (vi t29)),⟨(upd bQ 1 (.cells 1 [vi s_1.Graph.Config.N,vi s_1.Graph.Config.L,vi s_1.Graph.Config.R,vl dX s_1.Graph.Hashes,vl bE s_1.Graph.Edges,vl bH s_1.Slots] 0)),64⟩⟩∧aBm m s_1 t27 t28 t29=some r):Nat→St→Prop)
 exact be 52 func19 (h:=G)
instance:Ct prog 19 (K1 prog eJ vb 19 qW):=⟨aQb⟩
def wX(l_0:List aR)(nV:Int):Option (Int×Bool):=
 ((rZ l_0).bind fun ⟨r2,r3⟩=>
 (bif (!r3) then
  some (0,false)
 else
  ((aA5 r2 nV).bind fun ⟨r5,r6⟩=>
  some (r5,r6))))
theorem bBp:K2 prog (vl bH) vu (t2 vi vb) 39 wX:=fun hm=>be 20 func39 (h:=G)
instance:Ct prog 39 (K2 prog (vl bH) vu (t2 vi vb) 39 wX):=⟨bBp⟩
def tK(aZc:Int):Option (Bool):=
 some (((decide (2≤aZc))&&(decide (aZc≤11)))&&(aZc !=10))
theorem aWy:K1 prog vi vb 40 tK:=fun hm=>be 13 func40 (h:=G)
instance:Ct prog 40 (K1 prog vi vb 40 tK):=⟨aWy⟩
def tL(aZc:Int):Option (Bool):=
 some ((((aZc==3)||(aZc==4))||(aZc==5))||(aZc==8))
theorem aWz:K1 prog vi vb 41 tL:=fun hm=>be 17 func41 (h:=G)
instance:Ct prog 41 (K1 prog vi vb 41 tL):=⟨aWz⟩
def aAa(s_0:aG)(v_1:Int):Option ((List Int)):=
 ((aG5 s_0.Graph.Config.N s_0.Graph.Edges v_1).bind fun r2=>
 some r2)
theorem aZz:K2 prog eJ vi (vl (ci .i64)) 77 aAa:=fun hm=>be 14 func77 (h:=G)
instance:Ct prog 77 (K2 prog eJ vi (vl (ci .i64)) 77 aAa):=⟨aZz⟩
def uP(s_0:aG)(v_1:Int):Option (Int):=
 ((aAa s_0 v_1).bind fun r2=>
 some (r2.length:Int))
theorem aTy:K2 prog eJ vi vi 75 uP:=fun hm=>be 9 func75 (h:=G)
instance:Ct prog 75 (K2 prog eJ vi vi 75 uP):=⟨aTy⟩
def mW(x_0:Int):Option (Bool):=
 some (x_0 !=x_0)
theorem aOe:K1 prog vu vb 137 mW:=fun hm=>be 6 func137 (h:=G)
instance:Ct prog 137 (K1 prog vu vb 137 mW):=⟨aOe⟩
def fE(x_0:Int)(y_1:Int):Option (Bool):=
 ((mW x_0).bind fun r2=>
 ((fG (r2==true) false (mW y_1)).bind fun r4=>
 some ((r2&&(!r4))||(decide (x_0<y_1)))))
theorem gV:K2 prog vu vu vb 151 fE:=fun hm=>be 17 func151 (h:=G)
instance:Ct prog 151 (K2 prog vu vu vb 151 fE):=⟨gV⟩
def iT(rec1:List Int→Int→Int→Int→Option (List Int))(rec2:List Int→Int→Int→Int→Int→Option (List Int))(aB:List Int)(a_1:Int)(b_2:Int)(i_6:Int)(j_7:Int):Option (List Int):=
 ((fG ((decide (a_1<j_7))==true) 0 (idx aB j_7)).bind fun x2=>
 ((fG ((decide (a_1<j_7))==true) 0 (idx aB (IntKind.i64.wrap (j_7-1)))).bind fun x4=>
 ((fG ((decide (a_1<j_7))==true) false (fE x2 x4)).bind fun r6=>
 (bif ((decide (a_1<j_7))&&r6) then
  ((idx aB (IntKind.i64.wrap (j_7-1))).bind fun x8=>
  ((idx aB j_7).bind fun x10=>
  ((idx aB j_7).bind fun x12=>
  ((stt aB j_7 x8).bind fun l14=>
  ((idx l14 (IntKind.i64.wrap (j_7-1))).bind fun x16=>
  ((stt l14 (IntKind.i64.wrap (j_7-1)) x10).bind fun l18=>
  rec2 l18 a_1 b_2 i_6 (IntKind.i64.wrap (j_7-1))))))))
 else
  rec1 aB a_1 b_2 (IntKind.i64.wrap (i_6+1))))))
def gN(rec1:List Int→Int→Int→Int→Option (List Int)):Nat→List Int→Int→Int→Int→Int→Option (List Int)
 |0=>fun _ _ _ _ _=>none
 |n+1=>iT rec1 (gN rec1 n)
def iS(rec1:List Int→Int→Int→Int→Option (List Int))(aB:List Int)(a_1:Int)(b_2:Int)(i_6:Int):Option (List Int):=
 (bif (decide (i_6<b_2)) then
  gN rec1 bC aB a_1 b_2 i_6 i_6
 else
  some aB)
def dO:Nat→List Int→Int→Int→Int→Option (List Int)
 |0=>fun _ _ _ _=>none
 |n+1=>iS (dO n)
def jN(aB:List Int)(a_1:Int)(b_2:Int):Option (List Int):=
 dO bC aB a_1 b_2 (IntKind.i64.wrap (a_1+1))
theorem aA0{aB:List Int}{a_1:Int}{b_2:Int}{r:List Int}(hm:jN aB a_1 b_2=some r){H:aM}{i0:Nat}(he:H.ent i0= .cells 1 (aB.flatMap (ci .u64)) 0):dR prog 145 [.own i0 0 aB.length,.v (.int .i64 a_1),.v (.int .i64 b_2)] H (.tup []) (H.put i0 (.cells 1 (r.flatMap (ci .u64)) 0)):=by
 refine dR.of_bodyM func145 rfl he ?_;generalize H.ent=h0;simp only [ntmps145,List.length_cons,List.length_nil,Nat.reduceAdd,Nat.reduceSub];unfold jN at hm;refine sN 64 ?_
 iterate 3 refine pA ?_
 refine fs (AWp.block (AWp.loopM (fun m s=> ∃(aB:List Int) (a_1:Int) (b_2:Int) (i_6:Int),s=(⟨49,(aF (aF (aF (aF (fun _=>AV.any) 0 (.own i0 0 aB.length)) 1 (.v (.int .i64 a_1))) 2 (.v (.int .i64 b_2))) 6 (.v (.int .i64 i_6))),⟨(upd h0 i0 (.cells 1 (aB.flatMap (ci .u64)) 0)),64⟩⟩:St)∧dO m aB a_1 b_2 i_6=some r) bC ?_ ?_ ?_))
 · rintro s ⟨_,_,_,_,_,h⟩;cases h
 · refine ⟨_,?_,aB,a_1,b_2,(IntKind.i64.wrap (a_1+1)),rfl,hm⟩;exact bM (aD 6 _ Z1 (aD 2 _ Z1 (aD 1 _ Z1 (aD 0 _ (bN Z1 Z6) bF)))) Zc
 ·
  rintro n1 s ⟨aB,a_1,b_2,i_6,rfl,hm⟩;replace hm:iS (dO n1) aB a_1 b_2 i_6=some r:=hm;unfold iS at hm;refine AWp.seq' (sN 128 ?_)
  iterate 3 refine pA ?_
  refine fs (AWp.condM hm Z1 (fun _ hm=>?_) (fun _ hm=>?_))
  ·
   refine AWp.skip (aV (AWp.seq' (AWp.block (sN 192 ?_))))
   iterate 2 refine pA ?_
   refine fs (AWp.block (AWp.loopM (fun m s=> ∃(aB:List Int) (a_1:Int) (b_2:Int) (i_6:Int) (j_7:Int),s=(⟨49,(aF (aF (aF (aF (aF (fun _=>AV.any) 0 (.own i0 0 aB.length)) 1 (.v (.int .i64 a_1))) 2 (.v (.int .i64 b_2))) 6 (.v (.int .i64 i_6))) 7 (.v (.int .i64 j_7))),⟨(upd h0 i0 (.cells 1 (aB.flatMap (ci .u64)) 0)),64⟩⟩:St)∧gN (dO n1) m aB a_1 b_2 i_6 j_7=some r) bC ?_ ?_ ?_))
   · rintro s ⟨_,_,_,_,_,_,h⟩;cases h
   · refine ⟨_,?_,aB,a_1,b_2,i_6,i_6,rfl,hm⟩;exact bM (aD 7 _ Z1 (aD 6 _ Z1 (aD 2 _ Z1 (aD 1 _ Z1 (aD 0 _ (bN Z1 Z6) bF))))) Zc
   ·
    rintro n2 s ⟨aB,a_1,b_2,i_6,j_7,rfl,hm⟩;replace hm:iT (dO n1) (gN (dO n1) n2) aB a_1 b_2 i_6 j_7=some r:=hm;unfold iT at hm;refine AWp.seq' (sd mix (by kernel_rfl) (N':=128) rfl ?_)
    iterate 6 first|refine pA ?_|refine pB ?_
    obtain ⟨x2,h1,hm⟩:=bnd hm;refine pg rfl rfl Z2 (fun hb=>(aN underlying24 fD (Zh hb) Za Z6 (Zh hb) (bK h1 hb))) ?_;refine pg rfl rfl Z2 (fun hb=>(bL (CFi .u64) (Zh hb) Za (bK h1 hb) Zb)) ?_
    iterate 3 refine pB ?_
    obtain ⟨x4,h3,hm⟩:=bnd hm;refine pg rfl rfl Z2 (fun hb=>(aN underlying24 fD (Zh hb) Za Z6 (Zh hb) (bK h3 hb))) ?_;refine pg rfl rfl Z2 (fun hb=>(bL (CFi .u64) (Zh hb) Za (bK h3 hb) Zb)) ?_;obtain ⟨r6,h5,hm⟩:=bnd hm;refine aI.callQG (r:= .v (.bool r6)) Zd rfl Z2 Z1 aFp (fun hb H=>(.cons (td (Zh hb) (.v _)) (.cons (td (Zh hb) (.v _)) .nil))) (fun hb=>gV (bK h5 hb)) ?_;refine pA ?_;refine fs (AWp.condM hm Z1 (fun _ hm=>?_) (fun _ hm=>?_))
    ·
     refine AWp.skip (aV (AWp.seq' (AWp.block (AWp.regD 64 mix (by kernel_rfl) (N':=192) rfl ?_))))
     iterate 8 refine pA ?_
     obtain ⟨x8,h7,hm⟩:=bnd hm;refine pu rfl (aN underlying24 fD Z1 Za Z6 Z1 h7) ?_;refine pu rfl (bL (CFi .u64) Z1 Za h7 Zb) ?_
     iterate 2 refine pA ?_
     obtain ⟨x10,h9,hm⟩:=bnd hm;refine pu rfl (aN underlying24 fD Z1 Za Z6 Z1 h9) ?_;refine pu rfl (bL (CFi .u64) Z1 Za h9 Zb) ?_;obtain ⟨x12,h11,hm⟩:=bnd hm;refine pu rfl (aN underlying24 fD Z1 Za Z6 Z1 h11) ?_;obtain ⟨l14,h13,hm⟩:=bnd hm;have qh13:=cX h13;refine aI.heap0 (id:=143) rfl (eP (CFi .u64) fD Z1 Z1 Za rfl h13) ?_;obtain ⟨x16,h15,hm⟩:=bnd hm;refine pu rfl (aN underlying24 fD Z1 Za Z6 Z1 h15) ?_;obtain ⟨l18,h17,hm⟩:=bnd hm;have qh17:=cX h17;refine aI.heap0 (id:=145) rfl (eP (CFi .u64) fD Z1 Z1 Za rfl h17) ?_;refine aI.fin (eR (aV (AWp.reg 64 (N':=256) rfl ?_)))
     iterate 3 refine pA ?_
     refine aI.fin (cN ?_);refine ⟨_,?_,l18,a_1,b_2,i_6,(IntKind.i64.wrap (j_7-1)),rfl,hm⟩;exact bM (aD 7 _ Z1 (aD 6 _ Z1 (aD 2 _ Z1 (aD 1 _ Z1 (aD 0 _ (bN Z1 Z6) bF))))) Zc
    ·
     refine AWp.exit (dJ (cY (cU (eR (aV (AWp.reg 64 (N':=192) rfl ?_))))))
     iterate 3 refine pA ?_
     refine aI.fin (cN ?_);refine ⟨_,?_,aB,a_1,b_2,(IntKind.i64.wrap (i_6+1)),rfl,hm⟩;exact bM (aD 6 _ Z1 (aD 2 _ Z1 (aD 1 _ Z1 (aD 0 _ (bN Z1 Z6) bF)))) Zc
  · refine AWp.exit (dJ (cY (cU ?_)));cases hm;exact aL8 (.inl rfl) Tryz.results145 Zc
abbrev jF(rec1:List Int→Int→Int→Int→Option (List Int))(aB:List Int)(oL:Int)(dK:Int)(oB:Int)(aCf:Int):Option (List Int):=
 ((idx aB (IntKind.i64.wrap (dK+oB))).bind fun x2=>
 ((idx aB (IntKind.i64.wrap (dK+aCf))).bind fun x4=>
 ((fE x2 x4).bind fun r6=>
 (bif (!r6) then
  some aB
 else
  ((idx aB (IntKind.i64.wrap (dK+aCf))).bind fun x8=>
  ((idx aB (IntKind.i64.wrap (dK+oB))).bind fun x10=>
  ((idx aB (IntKind.i64.wrap (dK+oB))).bind fun x12=>
  ((stt aB (IntKind.i64.wrap (dK+oB)) x8).bind fun l14=>
  ((idx l14 (IntKind.i64.wrap (dK+aCf))).bind fun x16=>
  ((stt l14 (IntKind.i64.wrap (dK+aCf)) x10).bind fun l18=>
  rec1 l18 oL dK aCf))))))))))
def lR(rec1:List Int→Int→Int→Int→Option (List Int))(aB:List Int)(oL:Int)(dK:Int)(oB:Int):Option (List Int):=
 (bif (decide (oL≤(IntKind.i64.wrap ((IntKind.i64.wrap (2*oB))+1)))) then
  some aB
 else
  ((fG ((decide ((IntKind.i64.wrap ((IntKind.i64.wrap ((IntKind.i64.wrap (2*oB))+1))+1))<oL))==true) 0 (idx aB (IntKind.i64.wrap (dK+(IntKind.i64.wrap ((IntKind.i64.wrap (2*oB))+1)))))).bind fun x20=>
  ((fG ((decide ((IntKind.i64.wrap ((IntKind.i64.wrap ((IntKind.i64.wrap (2*oB))+1))+1))<oL))==true) 0 (idx aB (IntKind.i64.wrap ((IntKind.i64.wrap (dK+(IntKind.i64.wrap ((IntKind.i64.wrap (2*oB))+1))))+1)))).bind fun x22=>
  ((fG ((decide ((IntKind.i64.wrap ((IntKind.i64.wrap ((IntKind.i64.wrap (2*oB))+1))+1))<oL))==true) false (fE x20 x22)).bind fun r24=>
  (bif ((decide ((IntKind.i64.wrap ((IntKind.i64.wrap ((IntKind.i64.wrap (2*oB))+1))+1))<oL))&&r24) then
   jF rec1 aB oL dK oB (IntKind.i64.wrap ((IntKind.i64.wrap ((IntKind.i64.wrap (2*oB))+1))+1))
  else
   jF rec1 aB oL dK oB (IntKind.i64.wrap ((IntKind.i64.wrap (2*oB))+1)))))))
def fC:Nat→List Int→Int→Int→Int→Option (List Int)
 |0=>fun _ _ _ _=>none
 |n+1=>lR (fC n)
def kA(aB:List Int)(vH:Int)(oL:Int)(dK:Int):Option (List Int):=
 fC bC aB oL dK vH
theorem tF{aB:List Int}{vH:Int}{oL:Int}{dK:Int}{r:List Int}(hm:kA aB vH oL dK=some r){H:aM}{i0:Nat}(he:H.ent i0= .cells 1 (aB.flatMap (ci .u64)) 0):dR prog 175 [.own i0 0 aB.length,.v (.int .i64 vH),.v (.int .i64 oL),.v (.int .i64 dK)] H (.tup []) (H.put i0 (.cells 1 (r.flatMap (ci .u64)) 0)):=by
 refine dR.of_bodyM func175 rfl he ?_;generalize H.ent=h0;simp only [ntmps175,List.length_cons,List.length_nil,Nat.reduceAdd,Nat.reduceSub];unfold kA at hm;refine sN 64 ?_
 iterate 2 refine pA ?_
 refine fs (AWp.block (AWp.loopM (fun m s=> ∃(aB:List Int) (oL:Int) (dK:Int) (oB:Int),s=(⟨76,(aF (aF (aF (aF (fun _=>AV.any) 0 (.own i0 0 aB.length)) 2 (.v (.int .i64 oL))) 3 (.v (.int .i64 dK))) 8 (.v (.int .i64 oB))),⟨(upd h0 i0 (.cells 1 (aB.flatMap (ci .u64)) 0)),64⟩⟩:St)∧fC m aB oL dK oB=some r) bC ?_ ?_ ?_))
 · rintro s ⟨_,_,_,_,_,h⟩;cases h
 · refine ⟨_,?_,aB,oL,dK,vH,rfl,hm⟩;exact bM (aD 8 _ Z1 (aD 3 _ Z1 (aD 2 _ Z1 (aD 0 _ (bN Z1 Z6) bF)))) Zc
 ·
  rintro n1 s ⟨aB,oL,dK,oB,rfl,hm⟩;replace hm:lR (fC n1) aB oL dK oB=some r:=hm;unfold lR at hm;refine AWp.block (sN 128 ?_)
  iterate 4 refine pA ?_
  refine fs (AWp.seq' (sN 192 ?_))
  iterate 3 refine pA ?_
  refine fs (AWp.condM hm Z1 (fun _ hm=>?_) (fun _ hm=>?_))
  · refine AWp.exit (dJ (rG Zd ?_));refine cY (cU ?_);cases hm;exact aL8 (.inl rfl) Tryz.results175 Zc
  ·
   refine AWp.skip (aV (AWp.seqJ (fun s=> ∃(aB:List Int) (oL:Int) (dK:Int) (oB:Int) (aCf:Int),s=(⟨76,(aF (aF (aF (aF (aF (fun _=>AV.any) 0 (.own i0 0 aB.length)) 2 (.v (.int .i64 oL))) 3 (.v (.int .i64 dK))) 8 (.v (.int .i64 oB))) 9 (.v (.int .i64 aCf))),⟨(upd h0 i0 (.cells 1 (aB.flatMap (ci .u64)) 0)),64⟩⟩:St)∧jF (fC n1) aB oL dK oB aCf=some r) ?_ ?_))
   ·
    refine sd mix (by kernel_rfl) (N':=256) rfl ?_
    iterate 9 first|refine pA ?_|refine pB ?_
    obtain ⟨x20,h19,hm⟩:=bnd hm;refine pg rfl rfl Z2 (fun hb=>(aN underlying24 fD (Zh hb) Za Z6 (Zh hb) (bK h19 hb))) ?_;refine pg rfl rfl Z2 (fun hb=>(bL (CFi .u64) (Zh hb) Za (bK h19 hb) Zb)) ?_
    iterate 5 refine pB ?_
    obtain ⟨x22,h21,hm⟩:=bnd hm;refine pg rfl rfl Z2 (fun hb=>(aN underlying24 fD (Zh hb) Za Z6 (Zh hb) (bK h21 hb))) ?_;refine pg rfl rfl Z2 (fun hb=>(bL (CFi .u64) (Zh hb) Za (bK h21 hb) Zb)) ?_;obtain ⟨r24,h23,hm⟩:=bnd hm;refine aI.callQG (r:= .v (.bool r24)) Zd rfl Z2 Z1 aFp (fun hb H=>(.cons (td (Zh hb) (.v _)) (.cons (td (Zh hb) (.v _)) .nil))) (fun hb=>gV (bK h23 hb)) ?_;refine pA ?_;refine fs (AWp.condM hm Z1 (fun _ hm=>?_) (fun _ hm=>?_))
    ·
     refine AWp.reg 64 (N':=320) rfl ?_
     iterate 3 refine pA ?_
     refine aI.fin (nG ?_);refine ⟨_,?_,aB,oL,dK,oB,(IntKind.i64.wrap ((IntKind.i64.wrap ((IntKind.i64.wrap (2*oB))+1))+1)),rfl,hm⟩;exact bM (aD 9 _ Z1 (aD 8 _ Z1 (aD 3 _ Z1 (aD 2 _ Z1 (aD 0 _ (bN Z1 Z6) bF))))) Zc
    · refine AWp.skip (nG ?_);refine ⟨_,?_,aB,oL,dK,oB,(IntKind.i64.wrap ((IntKind.i64.wrap (2*oB))+1)),rfl,hm⟩;exact bM (aD 9 _ Z1 (aD 8 _ Z1 (aD 3 _ Z1 (aD 2 _ Z1 (aD 0 _ (bN Z1 Z6) bF))))) Zc
   ·
    rintro s ⟨aB,oL,dK,oB,aCf,rfl,hm⟩;unfold jF at hm;refine AWp.seq' (sd mix (by kernel_rfl) (N':=128) rfl ?_)
    iterate 4 refine pA ?_
    obtain ⟨x2,h1,hm⟩:=bnd hm;refine pu rfl (aN underlying24 fD Z1 Za Z6 Z1 h1) ?_;refine pu rfl (bL (CFi .u64) Z1 Za h1 Zb) ?_
    iterate 4 refine pA ?_
    obtain ⟨x4,h3,hm⟩:=bnd hm;refine pu rfl (aN underlying24 fD Z1 Za Z6 Z1 h3) ?_;refine pu rfl (bL (CFi .u64) Z1 Za h3 Zb) ?_;obtain ⟨r6,h5,hm⟩:=bnd hm;refine aI.callQ (r:= .v (.bool r6)) Zd Z1 aFp (fun H=>(cV (cV .nil))) (gV h5) ?_;refine pA ?_;refine fs (AWp.condM hm Z1 (fun _ hm=>?_) (fun _ hm=>?_))
    · refine AWp.ret (lA (pO (qQ (pO ?_))));cases hm;exact aL8 (.inr rfl) Tryz.results175 Zc
    ·
     refine AWp.skip (aV (sd mix (by kernel_rfl) (N':=192) rfl ?_))
     iterate 12 refine pA ?_
     obtain ⟨x8,h7,hm⟩:=bnd hm;refine pu rfl (aN underlying24 fD Z1 Za Z6 Z1 h7) ?_;refine pu rfl (bL (CFi .u64) Z1 Za h7 Zb) ?_
     iterate 4 refine pA ?_
     obtain ⟨x10,h9,hm⟩:=bnd hm;refine pu rfl (aN underlying24 fD Z1 Za Z6 Z1 h9) ?_;refine pu rfl (bL (CFi .u64) Z1 Za h9 Zb) ?_;obtain ⟨x12,h11,hm⟩:=bnd hm;refine pu rfl (aN underlying24 fD Z1 Za Z6 Z1 h11) ?_;obtain ⟨l14,h13,hm⟩:=bnd hm;have qh13:=cX h13;refine aI.heap0 (id:=149) rfl (eP (CFi .u64) fD Z1 Z1 Za rfl h13) ?_;obtain ⟨x16,h15,hm⟩:=bnd hm;refine pu rfl (aN underlying24 fD Z1 Za Z6 Z1 h15) ?_;obtain ⟨l18,h17,hm⟩:=bnd hm;have qh17:=cX h17;refine aI.heap0 (id:=151) rfl (eP (CFi .u64) fD Z1 Z1 Za rfl h17) ?_;refine fs (AWp.reg 64 (N':=256) rfl ?_)
     iterate 2 refine pA ?_
     refine aI.fin (eR (cN ?_));refine ⟨_,?_,l18,oL,dK,aCf,rfl,hm⟩;exact bM (aD 8 _ Z1 (aD 3 _ Z1 (aD 2 _ Z1 (aD 0 _ (bN Z1 Z6) bF)))) Zc
def lN(rec2:List Int→Int→Int→Int→Option (List Int))(aB:List Int)(nJ:Int)(aIz:Int)(kB:Int):Option (List Int):=
 (bif (decide (0≤kB)) then
  ((idx aB (IntKind.i64.wrap (nJ+kB))).bind fun x4=>
  ((idx aB nJ).bind fun x6=>
  ((idx aB nJ).bind fun x8=>
  ((stt aB nJ x4).bind fun l10=>
  ((idx l10 (IntKind.i64.wrap (nJ+kB))).bind fun x12=>
  ((stt l10 (IntKind.i64.wrap (nJ+kB)) x6).bind fun l14=>
  ((sX (fun x=>x.length) l14.length (kA l14 aIz kB nJ)).bind fun l16=>
  rec2 l16 nJ aIz (IntKind.i64.wrap (kB-1)))))))))
 else
  some aB)
def jD:Nat→List Int→Int→Int→Int→Option (List Int)
 |0=>fun _ _ _ _=>none
 |n+1=>lN (jD n)
def lM(rec1:List Int→Int→Int→Int→Int→Option (List Int))(aB:List Int)(nJ:Int)(aIz:Int)(aTv:Int)(i_9:Int):Option (List Int):=
 (bif (decide (0≤i_9)) then
  ((sX (fun x=>x.length) aB.length (kA aB i_9 aTv nJ)).bind fun l2=>
  rec1 l2 nJ aIz aTv (IntKind.i64.wrap (i_9-1)))
 else
  jD bC aB nJ aIz (IntKind.i64.wrap (aTv-1)))
def jC:Nat→List Int→Int→Int→Int→Int→Option (List Int)
 |0=>fun _ _ _ _ _=>none
 |n+1=>lM (jC n)
def lZ(aB:List Int)(a_1:Int)(b_2:Int):Option (List Int):=
 jC bC aB a_1 0 (IntKind.i64.wrap (b_2-a_1)) (IntKind.i64.wrap (Int.tdiv (IntKind.i64.wrap ((IntKind.i64.wrap (b_2-a_1))-1)) 2))
theorem aD3{aB:List Int}{a_1:Int}{b_2:Int}{r:List Int}(hm:lZ aB a_1 b_2=some r){H:aM}{i0:Nat}(he:H.ent i0= .cells 1 (aB.flatMap (ci .u64)) 0):dR prog 146 [.own i0 0 aB.length,.v (.int .i64 a_1),.v (.int .i64 b_2)] H (.tup []) (H.put i0 (.cells 1 (r.flatMap (ci .u64)) 0)):=by
 refine dR.of_bodyM func146 rfl he ?_;generalize H.ent=h0;simp only [ntmps146,List.length_cons,List.length_nil,Nat.reduceAdd,Nat.reduceSub];unfold lZ at hm;refine sN 64 ?_
 iterate 2 refine pA ?_
 refine fs (sN 128 (pA ?_));refine fs (sN 192 ?_)
 iterate 4 refine pA ?_
 refine fs (AWp.seq' (sN 256 ?_))
 iterate 4 refine pu rfl Zj ?_
 refine fs (AWp.block (AWp.loopM (fun m s=> ∃(aB:List Int) (nJ:Int) (aIz:Int) (aTv:Int) (i_9:Int),s=(⟨56,(aF (aF (aF (aF (aF (fun _=>AV.any) 0 (.own i0 0 aB.length)) 6 (.v (.int .i64 nJ))) 7 (.v (.int .i64 aIz))) 8 (.v (.int .i64 aTv))) 9 (.v (.int .i64 i_9))),⟨(upd h0 i0 (.cells 1 (aB.flatMap (ci .u64)) 0)),64⟩⟩:St)∧jC m aB nJ aIz aTv i_9=some r) bC ?_ ?_ ?_))
 · rintro s ⟨_,_,_,_,_,_,h⟩;cases h
 · refine ⟨_,?_,aB,a_1,0,(IntKind.i64.wrap (b_2-a_1)),(IntKind.i64.wrap (Int.tdiv (IntKind.i64.wrap ((IntKind.i64.wrap (b_2-a_1))-1)) 2)),rfl,hm⟩;exact bM (aD 9 _ Z1 (aD 8 _ Z1 (aD 7 _ Z1 (aD 6 _ Z1 (aD 0 _ (bN Z1 Z6) bF))))) Zc
 ·
  rintro n1 s ⟨aB,nJ,aIz,aTv,i_9,rfl,hm⟩;replace hm:lM (jC n1) aB nJ aIz aTv i_9=some r:=hm;unfold lM at hm;refine AWp.seq' (sN 128 ?_)
  iterate 2 refine pA ?_
  refine fs (AWp.condM hm Z1 (fun _ hm=>?_) (fun _ hm=>?_))
  ·
   refine AWp.skip (aV (AWp.seq' (AWp.block (AWp.reg 64 (N':=192) rfl ?_))))
   iterate 4 refine pA ?_
   obtain ⟨l2,h1,hm⟩:=bnd hm;have qh1:=oZ h1;refine aI.callM Zd Z1 bSl ?_ (tF (oO h1) (i0:=i0) Za) ?_
   ·
    try simp only [go_sem,Nat.reduceBEq]
    first|done|rfl|(congr 2<;>omega)
   refine aI.fin (eR (aV (AWp.reg 64 (N':=256) rfl ?_)))
   iterate 3 refine pA ?_
   refine aI.fin (cN ?_);refine ⟨_,?_,l2,nJ,aIz,aTv,(IntKind.i64.wrap (i_9-1)),rfl,hm⟩;exact bM (aD 9 _ Z1 (aD 8 _ Z1 (aD 7 _ Z1 (aD 6 _ Z1 (aD 0 _ (bN Z1 Z6) bF))))) Zc
  ·
   refine AWp.exit (dJ (cY (cU (aV (sN 192 ?_)))))
   iterate 3 refine pA ?_
   refine fs (AWp.block (AWp.loopM (fun m s=> ∃(aB:List Int) (nJ:Int) (aIz:Int) (kB:Int),s=(⟨56,(aF (aF (aF (aF (fun _=>AV.any) 0 (.own i0 0 aB.length)) 6 (.v (.int .i64 nJ))) 7 (.v (.int .i64 aIz))) 10 (.v (.int .i64 kB))),⟨(upd h0 i0 (.cells 1 (aB.flatMap (ci .u64)) 0)),64⟩⟩:St)∧jD m aB nJ aIz kB=some r) bC ?_ ?_ ?_))
   · rintro s ⟨_,_,_,_,_,h⟩;cases h
   · refine ⟨_,?_,aB,nJ,aIz,(IntKind.i64.wrap (aTv-1)),rfl,hm⟩;exact bM (aD 10 _ Z1 (aD 7 _ Z1 (aD 6 _ Z1 (aD 0 _ (bN Z1 Z6) bF)))) Zc
   ·
    rintro n2 s ⟨aB,nJ,aIz,kB,rfl,hm⟩;replace hm:lN (jD n2) aB nJ aIz kB=some r:=hm;unfold lN at hm;refine AWp.seq' (sN 128 ?_)
    iterate 2 refine pA ?_
    refine fs (AWp.condM hm Z1 (fun _ hm=>?_) (fun _ hm=>?_))
    ·
     refine AWp.skip (aV (AWp.seq' (AWp.block (sd mix (by kernel_rfl) (N':=192) rfl ?_))))
     iterate 10 refine pA ?_
     obtain ⟨x4,h3,hm⟩:=bnd hm;refine pu rfl (aN underlying24 fD Z1 Za Z6 Z1 h3) ?_;refine pu rfl (bL (CFi .u64) Z1 Za h3 Zb) ?_
     iterate 2 refine pA ?_
     obtain ⟨x6,h5,hm⟩:=bnd hm;refine pu rfl (aN underlying24 fD Z1 Za Z6 Z1 h5) ?_;refine pu rfl (bL (CFi .u64) Z1 Za h5 Zb) ?_;obtain ⟨x8,h7,hm⟩:=bnd hm;refine pu rfl (aN underlying24 fD Z1 Za Z6 Z1 h7) ?_;obtain ⟨l10,h9,hm⟩:=bnd hm;have qh9:=cX h9;refine aI.heap0 (id:=145) rfl (eP (CFi .u64) fD Z1 Z1 Za rfl h9) ?_;obtain ⟨x12,h11,hm⟩:=bnd hm;refine pu rfl (aN underlying24 fD Z1 Za Z6 Z1 h11) ?_;obtain ⟨l14,h13,hm⟩:=bnd hm;have qh13:=cX h13;refine aI.heap0 (id:=147) rfl (eP (CFi .u64) fD Z1 Z1 Za rfl h13) ?_;refine fs (AWp.reg 64 (N':=256) rfl ?_)
     iterate 4 refine pA ?_
     obtain ⟨l16,h15,hm⟩:=bnd hm;have qh15:=oZ h15;refine aI.callM Zd Z1 bSl ?_ (tF (oO h15) (i0:=i0) Za) ?_
     ·
      try simp only [go_sem,Nat.reduceBEq]
      first|done|rfl|(congr 2<;>omega)
     refine aI.fin (eR (aV (AWp.reg 64 (N':=320) rfl ?_)))
     iterate 3 refine pA ?_
     refine aI.fin (cN ?_);refine ⟨_,?_,l16,nJ,aIz,(IntKind.i64.wrap (kB-1)),rfl,hm⟩;exact bM (aD 10 _ Z1 (aD 7 _ Z1 (aD 6 _ Z1 (aD 0 _ (bN Z1 Z6) bF)))) Zc
    · refine AWp.exit (dJ (cY (cU ?_)));cases hm;exact aL8 (.inl rfl) Tryz.results146 Zc
def mZ(aN3:Int):Option (Int):=
 ((xH (IntKind.u64.wrap aN3)).bind fun r2=>
 ((chk (decide (0≤r2))).bind fun _=>
 some (shl .u64 1 r2)))
theorem tY{aN3:Int}{r:Int}(hm:mZ aN3=some r):dU prog 176 [vi aN3] (vu r):=by
 refine bd 7 func176 ?_;obtain ⟨r2,h1,hm⟩:=bnd hm;refine W ?_;refine cq (aKi h1) ?_;obtain ⟨_,h3,hm⟩:=bnd hm;exact E
instance:Ct prog 176 (K1 prog vi vu 176 mZ):=⟨fun hm=>tY hm⟩
def xX(r_0:Int):Option (Int×Int):=
 some ((aBx .u64 (aBx .u64 (aBx .u64 r_0 (shl .u64 r_0 13)) (shr .u64 (aBx .u64 r_0 (shl .u64 r_0 13)) 7)) (shl .u64 (aBx .u64 (aBx .u64 r_0 (shl .u64 r_0 13)) (shr .u64 (aBx .u64 r_0 (shl .u64 r_0 13)) 7)) 17)),(aBx .u64 (aBx .u64 (aBx .u64 r_0 (shl .u64 r_0 13)) (shr .u64 (aBx .u64 r_0 (shl .u64 r_0 13)) 7)) (shl .u64 (aBx .u64 (aBx .u64 r_0 (shl .u64 r_0 13)) (shr .u64 (aBx .u64 r_0 (shl .u64 r_0 13)) 7)) 17)))
theorem aH1{r_0:Int}{r:Int×Int}(hm:xX r_0=some r){H:aM}{i0:Nat}(he:H.ent i0= .cells 1 [.v (.int .u64 r_0)] 0):dR prog 177 [.adr i0 0] H (.v (.int .u64 r.1)) (H.put i0 (.cells 1 [.v (.int .u64 r.2)] 0)):=by
 refine dR.of_bodyM func177 rfl he ?_;generalize H.ent=h0;simp only [ntmps177,List.length_cons,List.length_nil,Nat.reduceAdd,Nat.reduceSub];unfold xX at hm;refine sN 64 (pA ?_);refine fs (sd mix (by kernel_rfl) (N':=128) rfl ?_)
 iterate 2 refine pA ?_
 refine pu rfl (lD Z1 Za Z2) ?_
 iterate 2 refine pA ?_
 refine pu rfl (lD Z1 Za Z2) ?_
 iterate 3 refine pu rfl Zj ?_
 refine aI.heap0 (id:=73) rfl (rC (ys:=[.v (.int .u64 (aBx .u64 r_0 (shl .u64 r_0 13)))]) aVu Z1 Z1 Za rfl (lB rfl) Z9 rfl) ?_;refine fs (sd mix (by kernel_rfl) (N':=192) rfl ?_)
 iterate 2 refine pA ?_
 refine pu rfl (lD Z1 Za Z2) ?_
 iterate 2 refine pA ?_
 refine pu rfl (lD Z1 Za Z2) ?_
 iterate 3 refine pu rfl Zj ?_
 refine aI.heap0 (id:=137) rfl (rC (ys:=[.v (.int .u64 (aBx .u64 (aBx .u64 r_0 (shl .u64 r_0 13)) (shr .u64 (aBx .u64 r_0 (shl .u64 r_0 13)) 7)))]) aVu Z1 Z1 Za rfl (lB rfl) Z9 rfl) ?_;refine fs (sd mix (by kernel_rfl) (N':=256) rfl ?_)
 iterate 2 refine pA ?_
 refine pu rfl (lD Z1 Za Z2) ?_
 iterate 2 refine pA ?_
 refine pu rfl (lD Z1 Za Z2) ?_
 iterate 3 refine pu rfl Zj ?_
 refine aI.heap0 (id:=201) rfl (rC (ys:=[.v (.int .u64 (aBx .u64 (aBx .u64 (aBx .u64 r_0 (shl .u64 r_0 13)) (shr .u64 (aBx .u64 r_0 (shl .u64 r_0 13)) 7)) (shl .u64 (aBx .u64 (aBx .u64 r_0 (shl .u64 r_0 13)) (shr .u64 (aBx .u64 r_0 (shl .u64 r_0 13)) 7)) 17)))]) aVu Z1 Z1 Za rfl (lB rfl) Z9 rfl) ?_;refine fs (sN 320 ?_)
 iterate 2 refine pA ?_
 refine pu rfl (lD Z1 Za Z2) ?_;refine pA ?_;refine fs (AWp.ret ?_);cases hm;exact aFx (.inr rfl) Tryz.results177 Z1 Zc
abbrev lX(rec1:List Int→Int→Int→Int→Int→Int→Option (List Int))(aB:List Int)(a_1:Int)(lI:Int)(nO:Int)(iB:Int)(sP:Int):Option (List Int):=
 rec1 aB a_1 lI nO iB (IntKind.i64.wrap (sP+1))
abbrev gK(rec1:List Int→Int→Int→Int→Int→Int→Option (List Int))(aB:List Int)(a_1:Int)(lI:Int)(nO:Int)(iB:Int)(sP:Int)(aEw:Int):Option (List Int):=
 ((idx aB (IntKind.i64.wrap (a_1+aEw))).bind fun x7=>
 ((idx aB sP).bind fun x9=>
 ((idx aB sP).bind fun x11=>
 ((stt aB sP x7).bind fun l13=>
 ((idx l13 (IntKind.i64.wrap (a_1+aEw))).bind fun x15=>
 ((stt l13 (IntKind.i64.wrap (a_1+aEw)) x9).bind fun l17=>
 lX rec1 l17 a_1 lI nO iB sP))))))
def iP(rec1:List Int→Int→Int→Int→Int→Int→Option (List Int))(aB:List Int)(a_1:Int)(lI:Int)(nO:Int)(iB:Int)(sP:Int):Option (List Int):=
 (bif (decide (sP≤(IntKind.i64.wrap ((IntKind.i64.wrap (a_1+(IntKind.i64.wrap ((IntKind.i64.wrap (Int.tdiv lI 4))*2))))+1)))) then
  ((xX nO).bind fun ⟨r5,x4⟩=>
  (bif (decide (lI≤(IntKind.i64.wrap (yK .u64 r5 (IntKind.u64.wrap (iB-1)))))) then
   gK rec1 aB a_1 lI x4 iB sP (IntKind.i64.wrap ((IntKind.i64.wrap (yK .u64 r5 (IntKind.u64.wrap (iB-1))))-lI))
  else
   gK rec1 aB a_1 lI x4 iB sP (IntKind.i64.wrap (yK .u64 r5 (IntKind.u64.wrap (iB-1))))))
 else
  some aB)
def dM:Nat→List Int→Int→Int→Int→Int→Int→Option (List Int)
 |0=>fun _ _ _ _ _ _=>none
 |n+1=>iP (dM n)
def jL(aB:List Int)(a_1:Int)(b_2:Int):Option (List Int):=
 (bif (decide (8≤(IntKind.i64.wrap (b_2-a_1)))) then
  ((mZ (IntKind.i64.wrap (b_2-a_1))).bind fun r2=>
  dM bC aB a_1 (IntKind.i64.wrap (b_2-a_1)) (IntKind.u64.wrap (IntKind.i64.wrap (b_2-a_1))) r2 (IntKind.i64.wrap ((IntKind.i64.wrap (a_1+(IntKind.i64.wrap ((IntKind.i64.wrap (Int.tdiv (IntKind.i64.wrap (b_2-a_1)) 4))*2))))-1)))
 else
  some aB)
theorem zX{aB:List Int}{a_1:Int}{b_2:Int}{r:List Int}(hm:jL aB a_1 b_2=some r){H:aM}{i0:Nat}(he:H.ent i0= .cells 1 (aB.flatMap (ci .u64)) 0)(hk: ∀id,3000000≤id→H.ent id= .fresh)(hD: ∀id,aD9 (H.ent id))(hi:i0<3000000):dR prog 147 [.own i0 0 aB.length,.v (.int .i64 a_1),.v (.int .i64 b_2)] H (.tup []) (H.put i0 (.cells 1 (r.flatMap (ci .u64)) 0)):=by
 refine dR.of_bodyK func147 rfl he hk ?_;clear he;generalize H.ent=h0 at hk hD⊢;have hne1: ∀ {k:Nat},3000000≤k→(k==i0)=false:=fun hh=>by simp;omega
 have hne2: ∀ {k:Nat},3000000≤k→(i0==k)=false:=fun hh=>by simp;omega
 simp only [ntmps147,List.length_cons,List.length_nil,Nat.reduceAdd,Nat.reduceSub];unfold jL at hm;refine AWp.behind ?_;refine sN 3000064 ?_
 iterate 4 refine pA ?_
 refine fs (sN 3000128 ?_)
 iterate 2 refine pA ?_
 refine fs (AWp.condM hm Z1 (fun _ hm=>?_) (fun _ hm=>?_))
 ·
  refine sN 3000192 ?_
  iterate 2 refine pA ?_
  refine hp (id:=3000130) rfl rfl (qO bT8 (by simp only [fY,hne1,Nat.reduceLeDiff,Nat.reduceBEq,cond_true,cond_false];exact frK hk Zd)) ?_;refine aI.heap0 (id:=3000131) rfl (rC (ys:=[.v (.int .u64 (IntKind.u64.wrap (IntKind.i64.wrap (b_2-a_1))))]) aVu Z1 Z1 Ze rfl (lB rfl) Z9 rfl) ?_;refine fs (sN 3000256 (pA ?_));obtain ⟨r2,h1,hm⟩:=bnd hm;refine aI.callQ (r:= .v (.int .u64 r2)) Zd Z1 bSm (fun H=>(cV .nil)) (tY h1) ?_;refine pA ?_;refine fs (sN 3000320 ?_)
  iterate 7 refine pu rfl Zj ?_
  refine fs (AWp.block (AWp.loopM (fun m s=> ∃(aB:List Int) (a_1:Int) (lI:Int) (nO:Int) (iB:Int) (sP:Int),s=(⟨65,(aF (aF (aF (aF (aF (aF (fun _=>AV.any) 0 (.own i0 0 aB.length)) 1 (.v (.int .i64 a_1))) 6 (.v (.int .i64 lI))) 7 (.adr 3000130 0)) 8 (.v (.int .u64 iB))) 9 (.v (.int .i64 sP))),⟨(upd (upd h0 i0 (.cells 1 (aB.flatMap (ci .u64)) 0)) 3000130 (.cells 1 [.v (.int .u64 nO)] 0)),64⟩⟩:St)∧dM m aB a_1 lI nO iB sP=some r) bC ?_ ?_ ?_))
  · rintro s ⟨_,_,_,_,_,_,_,h⟩;cases h
  · refine ⟨_,?_,aB,a_1,(IntKind.i64.wrap (b_2-a_1)),(IntKind.u64.wrap (IntKind.i64.wrap (b_2-a_1))),r2,(IntKind.i64.wrap ((IntKind.i64.wrap (a_1+(IntKind.i64.wrap ((IntKind.i64.wrap (Int.tdiv (IntKind.i64.wrap (b_2-a_1)) 4))*2))))-1)),rfl,hm⟩;exact bM (aD 9 _ Z1 (aD 8 _ Z1 (aD 7 _ Z1 (aD 6 _ Z1 (aD 1 _ Z1 (aD 0 _ (bN Z1 Z6) bF)))))) Zi
  ·
   rintro n1 s ⟨aB,a_1,lI,nO,iB,sP,rfl,hm⟩;replace hm:iP (dM n1) aB a_1 lI nO iB sP=some r:=hm;unfold iP at hm;refine AWp.seq' (sN 128 ?_)
   iterate 8 refine pu rfl Zj ?_
   refine fs (AWp.condM hm Z1 (fun _ hm=>?_) (fun _ hm=>?_))
   ·
    refine AWp.skip (aV (AWp.seqJ (fun s=> ∃(aB:List Int) (a_1:Int) (lI:Int) (nO:Int) (iB:Int) (sP:Int),s=(⟨65,(aF (aF (aF (aF (aF (aF (fun _=>AV.any) 0 (.own i0 0 aB.length)) 1 (.v (.int .i64 a_1))) 6 (.v (.int .i64 lI))) 7 (.adr 3000130 0)) 8 (.v (.int .u64 iB))) 9 (.v (.int .i64 sP))),⟨(upd (upd h0 i0 (.cells 1 (aB.flatMap (ci .u64)) 0)) 3000130 (.cells 1 [.v (.int .u64 nO)] 0)),64⟩⟩:St)∧lX (dM n1) aB a_1 lI nO iB sP=some r) ?_ ?_))
    ·
     refine AWp.block (sN 192 ?_);obtain ⟨⟨r5,x4⟩,h3,hm⟩:=bnd hm;refine aI.callM Zd Z1 bSn Z1 (aH1 h3 Ze) ?_
     iterate 5 refine pA ?_
     refine fs (AWp.seqJ (fun s=> ∃(aB:List Int) (a_1:Int) (lI:Int) (nO:Int) (iB:Int) (sP:Int) (aEw:Int),s=(⟨65,(aF (aF (aF (aF (aF (aF (aF (fun _=>AV.any) 0 (.own i0 0 aB.length)) 1 (.v (.int .i64 a_1))) 6 (.v (.int .i64 lI))) 7 (.adr 3000130 0)) 8 (.v (.int .u64 iB))) 9 (.v (.int .i64 sP))) 10 (.v (.int .i64 aEw))),⟨(upd (upd h0 i0 (.cells 1 (aB.flatMap (ci .u64)) 0)) 3000130 (.cells 1 [.v (.int .u64 nO)] 0)),64⟩⟩:St)∧gK (dM n1) aB a_1 lI nO iB sP aEw=some r) ?_ ?_)
     ·
      refine sN 256 ?_
      iterate 3 refine pA ?_
      refine fs (AWp.condM hm Z1 (fun _ hm=>?_) (fun _ hm=>?_))
      ·
       refine AWp.reg 64 (N':=320) rfl ?_
       iterate 4 refine pA ?_
       refine aI.fin (nG ?_);refine ⟨_,?_,aB,a_1,lI,x4,iB,sP,(IntKind.i64.wrap ((IntKind.i64.wrap (yK .u64 r5 (IntKind.u64.wrap (iB-1))))-lI)),rfl,hm⟩;exact bM (aD 10 _ Z1 (aD 9 _ Z1 (aD 8 _ Z1 (aD 7 _ Z1 (aD 6 _ Z1 (aD 1 _ Z1 (aD 0 _ (bN Z1 Z6) bF))))))) Zi
      · refine AWp.skip (nG ?_);refine ⟨_,?_,aB,a_1,lI,x4,iB,sP,(IntKind.i64.wrap (yK .u64 r5 (IntKind.u64.wrap (iB-1)))),rfl,hm⟩;exact bM (aD 10 _ Z1 (aD 9 _ Z1 (aD 8 _ Z1 (aD 7 _ Z1 (aD 6 _ Z1 (aD 1 _ Z1 (aD 0 _ (bN Z1 Z6) bF))))))) Zi
     ·
      rintro s ⟨aB,a_1,lI,nO,iB,sP,aEw,rfl,hm⟩;unfold gK at hm;refine AWp.regD 64 mix (by kernel_rfl) (N':=128) rfl ?_
      iterate 10 refine pA ?_
      obtain ⟨x7,h6,hm⟩:=bnd hm;refine pu rfl (aN underlying24 fD Z1 Ze Z6 Z1 h6) ?_;refine pu rfl (bL (CFi .u64) Z1 Ze h6 Zb) ?_
      iterate 2 refine pA ?_
      obtain ⟨x9,h8,hm⟩:=bnd hm;refine pu rfl (aN underlying24 fD Z1 Ze Z6 Z1 h8) ?_;refine pu rfl (bL (CFi .u64) Z1 Ze h8 Zb) ?_;obtain ⟨x11,h10,hm⟩:=bnd hm;refine pu rfl (aN underlying24 fD Z1 Ze Z6 Z1 h10) ?_;obtain ⟨l13,h12,hm⟩:=bnd hm;have qh12:=cX h12;refine aI.heap0 (id:=81) rfl (eP (CFi .u64) fD Z1 Z1 Ze rfl h12) ?_;obtain ⟨x15,h14,hm⟩:=bnd hm;refine pu rfl (aN underlying24 fD Z1 Ze Z6 Z1 h14) ?_;obtain ⟨l17,h16,hm⟩:=bnd hm;have qh16:=cX h16;refine aI.heap0 (id:=83) rfl (eP (CFi .u64) fD Z1 Z1 Ze rfl h16) ?_;refine aI.fin (eR (nG ?_));refine ⟨_,?_,l17,a_1,lI,nO,iB,sP,rfl,hm⟩;exact bM (aD 9 _ Z1 (aD 8 _ Z1 (aD 7 _ Z1 (aD 6 _ Z1 (aD 1 _ Z1 (aD 0 _ (bN Z1 Z6) bF)))))) Zi
    ·
     rintro s ⟨aB,a_1,lI,nO,iB,sP,rfl,hm⟩;unfold lX at hm;refine AWp.reg 64 (N':=128) rfl ?_
     iterate 3 refine pA ?_
     refine aI.fin (cN ?_);refine ⟨_,?_,aB,a_1,lI,nO,iB,(IntKind.i64.wrap (sP+1)),rfl,hm⟩;exact bM (aD 9 _ Z1 (aD 8 _ Z1 (aD 7 _ Z1 (aD 6 _ Z1 (aD 1 _ Z1 (aD 0 _ (bN Z1 Z6) bF)))))) Zi
   · refine AWp.exit (dJ (cY (cU ?_)));cases hm;exact aIw (.inl rfl) Tryz.results147 (by intro q hq;simp only [upd];all_goals ((repeat' split)<;>first|rfl|omega)) (fun q hq=>by rw [upd_ne _ _ _ _ om];exact hk q hq) (nL (vS (CFi .u64)) hD)
 · refine AWp.skip ?_;cases hm;exact aIw (.inl rfl) Tryz.results147 (by intro q hq;simp only [upd];all_goals ((repeat' split)<;>first|rfl|omega)) (fun q hq=>by rw [upd_ne _ _ _ _ om];exact hk q hq) (nL (vS (CFi .u64)) hD)
def iM(aB:List Int)(a_1:Int)(b_2:Int)(yA:Int):Option (Int×Int×Int):=
 ((idx aB b_2).bind fun x2=>
 ((idx aB a_1).bind fun x4=>
 ((fE x2 x4).bind fun r6=>
 (bif r6 then
  some (b_2,a_1,(IntKind.i64.wrap (yA+1)))
 else
  some (a_1,b_2,yA)))))
theorem qS{aB:List Int}{a_1:Int}{b_2:Int}{yA:Int}{r:Int×Int×Int}(hm:iM aB a_1 b_2 yA=some r){H:aM}{i0:Nat}(he:H.ent i0= .cells 1 [.v (.int .i64 yA)] 0):dR prog 194 [.sl (aB.flatMap (ci .u64)) aB.length false,.v (.int .i64 a_1),.v (.int .i64 b_2),.adr i0 0] H (.tup [.v (.int .i64 r.1),.v (.int .i64 r.2.1)]) (H.put i0 (.cells 1 [.v (.int .i64 r.2.2)] 0)):=by
 refine dR.of_bodyM func194 rfl he ?_;generalize H.ent=h0;simp only [ntmps194,List.length_cons,List.length_nil,Nat.reduceAdd,Nat.reduceSub];unfold iM at hm;refine sN 64 ?_
 iterate 2 refine pA ?_
 refine fs (AWp.seq' (sd mix (by kernel_rfl) (N':=128) rfl ?_))
 iterate 2 refine pA ?_
 obtain ⟨x2,h1,hm⟩:=bnd hm;refine pu rfl (aEi (CFi .u64) Zd underlying24 fD Z1 rfl Z1 h1) ?_
 iterate 3 refine pA ?_
 obtain ⟨x4,h3,hm⟩:=bnd hm;refine pu rfl (aEi (CFi .u64) Zd underlying24 fD Z1 rfl Z1 h3) ?_;refine pA ?_;obtain ⟨r6,h5,hm⟩:=bnd hm;refine aI.callQ (r:= .v (.bool r6)) Zd Z1 aFp (fun H=>(cV (cV .nil))) (gV h5) ?_;refine fs (AWp.condM hm Z1 (fun _ hm=>?_) (fun _ hm=>?_))
 ·
  refine sN 192 ?_
  iterate 2 refine pA ?_
  refine pu rfl (lD Z1 Za Z2) ?_
  iterate 2 refine pA ?_
  refine aI.heap0 (id:=133) rfl (rC (ys:=[.v (.int .i64 (IntKind.i64.wrap (yA+1)))]) sz3 Z1 Z1 Za rfl (lB rfl) Z9 rfl) ?_;refine fs (sN 256 ?_)
  iterate 4 refine pA ?_
  refine fs (AWp.ret (lA ?_));cases hm;exact aQ6 (.inr rfl) Tryz.results194 Z1 Z1 Zc
 ·
  refine AWp.skip (aV (sN 192 ?_))
  iterate 4 refine pA ?_
  refine fs (AWp.ret ?_);cases hm;exact aQ6 (.inr rfl) Tryz.results194 Z1 Z1 Zc
def kO(aB:List Int)(a_1:Int)(b_2:Int)(c_3:Int)(aE3:Int):Option (Int×Int):=
 ((iM aB a_1 b_2 aE3).bind fun ⟨r3,r4,x2⟩=>
 ((iM aB r4 c_3 x2).bind fun ⟨r7,r8,x6⟩=>
 ((iM aB r3 r7 x6).bind fun ⟨r11,r12,x10⟩=>
 some (r12,x10))))
theorem vM{aB:List Int}{a_1:Int}{b_2:Int}{c_3:Int}{aE3:Int}{r:Int×Int}(hm:kO aB a_1 b_2 c_3 aE3=some r){H:aM}{i0:Nat}(he:H.ent i0= .cells 1 [.v (.int .i64 aE3)] 0):dR prog 179 [.sl (aB.flatMap (ci .u64)) aB.length false,.v (.int .i64 a_1),.v (.int .i64 b_2),.v (.int .i64 c_3),.adr i0 0] H (.v (.int .i64 r.1)) (H.put i0 (.cells 1 [.v (.int .i64 r.2)] 0)):=by
 refine dR.of_bodyM func179 rfl he ?_;generalize H.ent=h0;simp only [ntmps179,List.length_cons,List.length_nil,Nat.reduceAdd,Nat.reduceSub];unfold kO at hm;refine sN 64 (pA ?_);refine fs (sN 128 ?_)
 iterate 4 refine pA ?_
 obtain ⟨⟨r3,r4,x2⟩,h1,hm⟩:=bnd hm;refine aI.callM Zd Z1 bMe Z1 (qS h1 Za) ?_
 iterate 5 refine pA ?_
 refine fs (sN 192 ?_)
 iterate 4 refine pA ?_
 obtain ⟨⟨r7,r8,x6⟩,h5,hm⟩:=bnd hm;refine aI.callM Zd Z1 bMe Z1 (qS h5 Za) ?_
 iterate 5 refine pA ?_
 refine fs (sN 256 ?_)
 iterate 4 refine pA ?_
 obtain ⟨⟨r11,r12,x10⟩,h9,hm⟩:=bnd hm;refine aI.callM Zd Z1 bMe Z1 (qS h9 Za) ?_
 iterate 5 refine pA ?_
 refine fs (sN 320 ?_)
 iterate 2 refine pA ?_
 refine fs (AWp.ret ?_);cases hm;exact aFx (.inr rfl) Tryz.results179 Z1 Zc
def eW(aB:List Int)(a_1:Int)(aE2:Int):Option (Int×Int):=
 ((kO aB (IntKind.i64.wrap (a_1-1)) a_1 (IntKind.i64.wrap (a_1+1)) aE2).bind fun ⟨r3,x2⟩=>
 some (r3,x2))
theorem nI{aB:List Int}{a_1:Int}{aE2:Int}{r:Int×Int}(hm:eW aB a_1 aE2=some r){H:aM}{i0:Nat}(he:H.ent i0= .cells 1 [.v (.int .i64 aE2)] 0):dR prog 178 [.sl (aB.flatMap (ci .u64)) aB.length false,.v (.int .i64 a_1),.adr i0 0] H (.v (.int .i64 r.1)) (H.put i0 (.cells 1 [.v (.int .i64 r.2)] 0)):=by
 refine dR.of_bodyM func178 rfl he ?_;generalize H.ent=h0;simp only [ntmps178,List.length_cons,List.length_nil,Nat.reduceAdd,Nat.reduceSub];unfold eW at hm;refine sN 64 (pA ?_);refine fs (sN 128 ?_)
 iterate 7 refine pA ?_
 obtain ⟨⟨r3,x2⟩,h1,hm⟩:=bnd hm;refine aI.callM Zd Z1 bSo Z1 (vM h1 Za) ?_;refine pA ?_;refine fs (AWp.ret ?_);cases hm;exact aFx (.inr rfl) Tryz.results178 Z1 Zc
attribute [local semireducible] bC
end Go.Proofs.YtkdohhmacfoolaaGreat
