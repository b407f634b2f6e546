/- Facts. No condition. -/
import Derived.Test.YtkdohhmacfoolaaGreatNpGI3
set_option linter.unusedVariables false
set_option linter.unusedSimpArgs false
set_option maxRecDepth 20000
set_option maxHeartbeats 4000000
namespace Go.Proofs.YtkdohhmacfoolaaGreat
open Go.Proofs.Tryz Go Go.AM
attribute [local irreducible] bC
structure bR where
 Used:Bool
 Key:Int
deriving DecidableEq
def dV(e:bR):List AV:=[.v (.bool e.Used),.v (.int .u64 e.Key)]
theorem oW:CF dV 2:=⟨fun _=>rfl,fun a x hx=>by
 simp only [dV,List.mem_cons,List.not_mem_nil,or_false] at hx;rcases hx with rfl|rfl
 · exact (.v _)
 · exact (.v _),fun _=>rfl⟩
instance:CC dV 2:=⟨oW⟩
@[go_sem] theorem aGr(e:bR)(r:List AV):dV e++r= .v (.bool e.Used):: .v (.int .u64 e.Key)::r:=rfl
structure nD where
 Graph:aU
 Slots:List bR
deriving DecidableEq
def rR(e:nD):List AV:=[.v (.int .i64 e.Graph.Config.N),.v (.int .i64 e.Graph.Config.L),.v (.int .i64 e.Graph.Config.R),.sl (e.Graph.Hashes.flatMap dX) e.Graph.Hashes.length false,.sl (e.Graph.Edges.flatMap bE) e.Graph.Edges.length false,.sl (e.Slots.flatMap dV) e.Slots.length false]
theorem aIx:CF rR 6:=⟨fun _=>rfl,fun a x hx=>by
 simp only [rR,List.mem_cons,List.not_mem_nil,or_false] at hx;rcases hx with rfl|rfl|rfl|rfl|rfl|rfl
 · exact (.v _)
 · exact (.v _)
 · exact (.v _)
 · exact (nR.sl _ _ _)
 · exact (dT.sl _ _ _)
 · exact (oW.sl _ _ _),fun _=>rfl⟩
instance:CC rR 6:=⟨aIx⟩
abbrev nQ(e:nD):AV:= .agg [.v (.int .i64 e.Graph.Config.N),vi e.Graph.Config.L,vi e.Graph.Config.R,vl dX e.Graph.Hashes,vl bE e.Graph.Edges,vl dV e.Slots]
@[go_sem] theorem aG9(e:nD)(r:List AV):rR e++r= .v (.int .i64 e.Graph.Config.N):: .v (.int .i64 e.Graph.Config.L):: .v (.int .i64 e.Graph.Config.R):: .sl (e.Graph.Hashes.flatMap dX) e.Graph.Hashes.length false:: .sl (e.Graph.Edges.flatMap bE) e.Graph.Edges.length false:: .sl (e.Slots.flatMap dV) e.Slots.length false::r:=rfl
structure aT where
 Most:Int
 Keys:List Int
 Pairs:List aC
deriving DecidableEq
def aJ6(e:aT):List AV:=[.v (.int .i64 e.Most),.sl (e.Keys.flatMap (ci .u64)) e.Keys.length false,.sl (e.Pairs.flatMap bS) e.Pairs.length false]
@[go_sem] theorem aGa(e:aT)(r:List AV):aJ6 e++r= .v (.int .i64 e.Most):: .sl (e.Keys.flatMap (ci .u64)) e.Keys.length false:: .sl (e.Pairs.flatMap bS) e.Pairs.length false::r:=rfl
@[go_sem] theorem bE9(i o:Nat):aO prog 151 (.adr i o) 0=some (.adr i (o+0)):=by kernel_rfl
@[go_sem] theorem bEa(i o:Nat):aO prog 151 (.adr i o) 1=some (.adr i (o+1)):=by kernel_rfl
@[go_sem] theorem bIk(i o:Nat):aO prog 23 (.adr i o) 0=some (.adr i (o+0)):=by kernel_rfl
@[go_sem] theorem bIr(i o:Nat):aO prog 23 (.adr i o) 1=some (.adr i (o+1)):=by kernel_rfl
@[go_sem] theorem bIw(i o:Nat):aO prog 23 (.adr i o) 2=some (.adr i (o+2)):=by kernel_rfl
@[go_sem] theorem bJ2(i o:Nat):aO prog 30 (.adr i o) 0=some (.adr i (o+0)):=by kernel_rfl
@[go_sem] theorem bJ6(i o:Nat):aO prog 30 (.adr i o) 1=some (.adr i (o+3)):=by kernel_rfl
@[go_sem] theorem bJc(i o:Nat):aO prog 30 (.adr i o) 2=some (.adr i (o+4)):=by kernel_rfl
@[go_sem] theorem bJf(i o:Nat):aO prog 33 (.adr i o) 0=some (.adr i (o+0)):=by kernel_rfl
@[go_sem] theorem bJj(i o:Nat):aO prog 33 (.adr i o) 1=some (.adr i (o+5)):=by kernel_rfl
@[go_sem] theorem bJm(i o:Nat):aO prog 35 (.adr i o) 1=some (.adr i (o+1)):=by kernel_rfl
@[go_sem] theorem bJn(i o:Nat):aO prog 42 (.adr i o) 0=some (.adr i (o+0)):=by kernel_rfl
@[go_sem] theorem bJo(i o:Nat):aO prog 42 (.adr i o) 1=some (.adr i (o+1)):=by kernel_rfl
@[go_sem] theorem bJq(i o:Nat):aO prog 42 (.adr i o) 2=some (.adr i (o+2)):=by kernel_rfl
@[go_sem] theorem bJs(i o:Nat):aO prog 45 (.adr i o) 0=some (.adr i (o+0)):=by kernel_rfl
@[go_sem] theorem bJu(i o:Nat):aO prog 45 (.adr i o) 1=some (.adr i (o+1)):=by kernel_rfl
@[go_sem] theorem bJw(i o:Nat):aO prog 45 (.adr i o) 2=some (.adr i (o+2)):=by kernel_rfl
@[go_sem] theorem bJz(i o:Nat):aO prog 45 (.adr i o) 3=some (.adr i (o+3)):=by kernel_rfl
@[go_sem] theorem bK0(i o:Nat):aO prog 56 (.adr i o) 0=some (.adr i (o+0)):=by kernel_rfl
@[go_sem] theorem bK1(i o:Nat):aO prog 56 (.adr i o) 1=some (.adr i (o+5)):=by kernel_rfl
theorem bK3(i o:Nat)(k:IntKind):pY prog 69 (.adr i o) (.v (.int k 0))=some (.adr i o):=by kernel_rfl
theorem bK5(i o:Nat)(k:IntKind):pY prog 69 (.adr i o) (.v (.int k 1))=some (.adr i (o+1)):=by kernel_rfl
attribute [go_sem] bK3 bK5
@[go_sem] theorem bN3(H:aM)(x0 x1 x2:AV)(xs:List AV):dD prog H 102 (.ptr (x0::x1::x2::xs))=some (.agg [x0,x1,x2]):=by kernel_rfl
@[go_sem] theorem bN6(H:aM)(x0 x1:AV)(xs:List AV):dD prog H 104 (.ptr (x0::x1::xs))=some (.agg [x0,x1]):=by kernel_rfl
@[go_sem] theorem bNd(H:aM)(x0:AV)(xs:List AV):dD prog H 130 (.ptr (x0::xs))=some (.agg [x0]):=by kernel_rfl
@[go_sem] theorem bNe(H:aM)(x0 x1:AV)(xs:List AV):dD prog H 151 (.ptr (x0::x1::xs))=some (.agg [x0,x1]):=by kernel_rfl
@[go_sem] theorem bQ2(H:aM)(x0 x1 x2:AV)(xs:List AV):dD prog H 23 (.ptr (x0::x1::x2::xs))=some (.agg [x0,x1,x2]):=by kernel_rfl
@[go_sem] theorem bQ6(H:aM)(x:AV)(xs:List AV):dD prog H 24 (.ptr (x::xs))=some x:=by kernel_rfl
@[go_sem] theorem bQb(H:aM)(x:AV)(xs:List AV):dD prog H 27 (.ptr (x::xs))=some x:=by kernel_rfl
@[go_sem] theorem bQh(H:aM)(x:AV)(xs:List AV):dD prog H 28 (.ptr (x::xs))=some x:=by kernel_rfl
@[go_sem] theorem bU6(H:aM)(x:AV)(xs:List AV):dD prog H 3 (.ptr (x::xs))=some x:=by kernel_rfl
@[go_sem] theorem bQn(H:aM)(x0 x1 x2 x3 x4:AV)(xs:List AV):dD prog H 30 (.ptr (x0::x1::x2::x3::x4::xs))=some (.agg [x0,x1,x2,x3,x4]):=by kernel_rfl
@[go_sem] theorem bQr(H:aM)(x:AV)(xs:List AV):dD prog H 31 (.ptr (x::xs))=some x:=by kernel_rfl
@[go_sem] theorem bQu(H:aM)(x0 x1 x2 x3 x4 x5:AV)(xs:List AV):dD prog H 33 (.ptr (x0::x1::x2::x3::x4::x5::xs))=some (.agg [x0,x1,x2,x3,x4,x5]):=by kernel_rfl
@[go_sem] theorem bUd(H:aM)(x:AV)(xs:List AV):dD prog H 4 (.ptr (x::xs))=some x:=by kernel_rfl
@[go_sem] theorem bQy(H:aM)(x:AV)(xs:List AV):dD prog H 40 (.ptr (x::xs))=some x:=by kernel_rfl
@[go_sem] theorem bR0(H:aM)(x0 x1 x2:AV)(xs:List AV):dD prog H 42 (.ptr (x0::x1::x2::xs))=some (.agg [x0,x1,x2]):=by kernel_rfl
@[go_sem] theorem bR7(H:aM)(x:AV)(xs:List AV):dD prog H 43 (.ptr (x::xs))=some x:=by kernel_rfl
@[go_sem] theorem bRa(H:aM)(x0 x1 x2 x3:AV)(xs:List AV):dD prog H 45 (.ptr (x0::x1::x2::x3::xs))=some (.agg [x0,x1,x2,x3]):=by kernel_rfl
@[go_sem] theorem bRc(H:aM)(x:AV)(xs:List AV):dD prog H 54 (.ptr (x::xs))=some x:=by kernel_rfl
@[go_sem] theorem bRd(H:aM)(x0 x1 x2 x3 x4 x5:AV)(xs:List AV):dD prog H 56 (.ptr (x0::x1::x2::x3::x4::x5::xs))=some (.agg [x0,x1,x2,x3,x4,x5]):=by kernel_rfl
@[go_sem] theorem bRg(H:aM)(x0 x1:AV)(xs:List AV):dD prog H 69 (.ptr (x0::x1::xs))=some (.agg [x0,x1]):=by kernel_rfl
@[go_sem] theorem bUf(H:aM)(x:AV)(xs:List AV):dD prog H 9 (.ptr (x::xs))=some x:=by kernel_rfl
@[go_sem] theorem bI2(H:aM)(k:IntKind)(n:Int):rO prog H 3 43 (.v (.int k n))=some (.v (.int .u64 (IntKind.u64.wrap n))):=mG underlying3 underlying43
@[go_sem] theorem bLz(H:aM)(k:IntKind)(n:Int):rO prog H 5 3 (.v (.int k n))=some (.v (.int .i64 (IntKind.i64.wrap n))):=mG underlying5 underlying3
@[go_sem] theorem bI7(H:aM)(k:IntKind)(n:Int):rO prog H 5 43 (.v (.int k n))=some (.v (.int .u64 (IntKind.u64.wrap n))):=mG underlying5 underlying43
@[go_sem] theorem bI4(H:aM)(k:IntKind)(n:Int):rO prog H 43 3 (.v (.int k n))=some (.v (.int .i64 (IntKind.i64.wrap n))):=mG underlying43 underlying3
def zN(l_0:List aR)(nV:Int):Option ((List aR)×Int):=
 ((rZ l_0).bind fun ⟨r2,r3⟩=>
 (bif (!r3) then
  some (l_0,1)
 else
  ((aA5 r2 nV).bind fun ⟨r5,r6⟩=>
  (bif (!r6) then
   some (l_0,7)
  else
   ((oD l_0).bind fun r8=>
   ((idx r8 r5).bind fun x10=>
   ((stt r8 r5 (aR.mk false 0)).bind fun l12=>
   some (l12,0))))))))
theorem aUl{l_0:List aR}{nV:Int}{r:(List aR)×Int}(hm:zN l_0 nV=some r):dU prog 84 [vl bH l_0,vu nV] (.tup [vl bH r.1,vi r.2]):=by
 refine bd 35 func84 ?_;refine W ?_;obtain ⟨⟨r2,r3⟩,h1,hm⟩:=bnd hm;refine cq (aIp h1) ?_;refine W ?_;refine cm hm (fun hm=>?_) fun hm=>?_
 · exact E
 refine W ?_;obtain ⟨⟨r5,r6⟩,h4,hm⟩:=bnd hm;refine cq (aOi h4) ?_;refine W ?_;refine cm hm (fun hm=>?_) fun hm=>?_
 · exact E
 obtain ⟨r8,h7,hm⟩:=bnd hm;refine W ?_;refine aI.callF (id:=321) Zd Z1 bSe (fun H=>(cD (eX.sl _ _ _) .nil)) eX Z5 (aG2 h7) ?_;refine W ?_;refine bU (.agg [vb false,vu 0]) ?_;obtain ⟨x10,h9,hm⟩:=bnd hm;obtain ⟨l12,h11,hm⟩:=bnd hm;refine W ?_;have qh11:=cX h11;refine aS h11 ?_;exact E
instance:Ct prog 84 (K2 prog (vl bH) vu (t2 (vl bH) vi) 84 zN):=⟨fun hm=>aUl hm⟩
def bFc(rec1:ByteArray→Int→Int→Int→Option (Int))(b_0:ByteArray)(aBs:Int)(n_7:Int)(i_8:Int):Option (Int):=
 (bif (decide (0≤i_8)) then
  ((aSx b_0 (IntKind.i64.wrap (aBs+i_8))).bind fun b2=>
  rec1 b_0 aBs (bor .u64 (shl .u64 n_7 8) (IntKind.u64.wrap b2)) (IntKind.i64.wrap (i_8-1)))
 else
  some n_7)
def aF5:Nat→ByteArray→Int→Int→Int→Option (Int)
 |0=>fun _ _ _ _=>none
 |n+1=>bFc (aF5 n)
def lS(b_0:ByteArray)(aBs:Int)(aR6:Int):Option (Int):=
 aF5 bC b_0 aBs 0 (IntKind.i64.wrap (aR6-1))
theorem uX{b_0:ByteArray}{aBs:Int}{aR6:Int}{r:Int}(hm:lS b_0 aBs aR6=some r):dU prog 142 [.v (.string b_0),vi aBs,vi aR6] (vu r):=by
 refine bd 25 func142 ?_;refine W ?_;refine lp (fun m s=> ∃b_0 aBs n_7 i_8,s=⟨25,(aF (aF (aF (aF fa 0 (.v (.string b_0))) 1 (vi aBs)) 7 (vu n_7)) 8 (vi i_8)),⟨bQ,64⟩⟩∧aF5 m b_0 aBs n_7 i_8=some r) L ?_;rintro n1 s ⟨b_0,aBs,n_7,i_8,rfl,hm⟩;refine W ?_;refine cm hm (fun hm=>?_) fun hm=>?_
 · obtain ⟨b2,h1,hm⟩:=bnd hm;exact L
 exact E
instance:Ct prog 142 (K3 prog vs vi vi vu 142 lS):=⟨fun hm=>uX hm⟩
def zF(rec3:ByteArray→aG→aG→Int→Int→Int→Option (aG×Bool))(b_0:ByteArray)(t2:aG)(s_4:aG)(wZ:Int)(t127:Int)(t128:Int):Option (aG×Bool):=
 (bif (decide (t128<t127)) then
  ((lS b_0 wZ 2).bind fun r22=>
  ((lS b_0 (IntKind.i64.wrap (wZ+2)) 2).bind fun r24=>
  ((aSx b_0 (IntKind.i64.wrap (wZ+4))).bind fun b26=>
  ((app s_4.Graph.Edges [(aH.mk (IntKind.i64.wrap r22) (IntKind.i64.wrap r24) (IntKind.i64.wrap b26))]).bind fun l28=>
  rec3 b_0 (aG.mk (aU.mk t2.Graph.Config [] []) []) (aG.mk (aU.mk s_4.Graph.Config s_4.Graph.Hashes l28) s_4.Slots) (IntKind.i64.wrap (wZ+5)) t127 (IntKind.i64.wrap (t128+1))))))
 else
  some ((aG.mk (aU.mk s_4.Graph.Config s_4.Graph.Hashes s_4.Graph.Edges) s_4.Slots),true))
def vC:Nat→ByteArray→aG→aG→Int→Int→Int→Option (aG×Bool)
 |0=>fun _ _ _ _ _ _=>none
 |n+1=>zF (vC n)
def zE(rec2:ByteArray→aG→aG→Int→Int→Int→Int→Option (aG×Bool))(b_0:ByteArray)(t2:aG)(s_4:aG)(tU:Int)(wZ:Int)(t104:Int)(t105:Int):Option (aG×Bool):=
 (bif (decide (t105<t104)) then
  ((aSx b_0 wZ).bind fun b16=>
  ((lS b_0 (IntKind.i64.wrap (wZ+1)) 8).bind fun r18=>
  ((app s_4.Slots [(aR.mk (b16==1) r18)]).bind fun l20=>
  rec2 b_0 (aG.mk (aU.mk t2.Graph.Config [] []) []) (aG.mk (aU.mk s_4.Graph.Config s_4.Graph.Hashes []) l20) tU (IntKind.i64.wrap (wZ+9)) t104 (IntKind.i64.wrap (t105+1)))))
 else
  vC bC b_0 (aG.mk (aU.mk t2.Graph.Config [] []) []) (aG.mk (aU.mk s_4.Graph.Config s_4.Graph.Hashes []) s_4.Slots) (IntKind.i64.wrap (wZ+4)) (IntKind.i64.wrap (Int.tdiv tU 5)) 0)
def uZ:Nat→ByteArray→aG→aG→Int→Int→Int→Int→Option (aG×Bool)
 |0=>fun _ _ _ _ _ _ _=>none
 |n+1=>zE (uZ n)
def zD(rec1:ByteArray→aG→aG→bY→Int→Int→Int→Int→Option (aG×Bool))(b_0:ByteArray)(t2:aG)(s_4:aG)(c_5:bY)(tU:Int)(wZ:Int)(t82:Int)(t83:Int):Option (aG×Bool):=
 (bif (decide (t83<t82)) then
  ((lS b_0 wZ 8).bind fun r10=>
  ((lS b_0 (IntKind.i64.wrap (wZ+8)) 8).bind fun r12=>
  ((app s_4.Graph.Hashes [(dI.mk r10 r12)]).bind fun l14=>
  rec1 b_0 (aG.mk (aU.mk t2.Graph.Config [] []) []) (aG.mk (aU.mk s_4.Graph.Config l14 []) []) c_5 tU (IntKind.i64.wrap (wZ+16)) t82 (IntKind.i64.wrap (t83+1)))))
 else
  uZ bC b_0 (aG.mk (aU.mk t2.Graph.Config [] []) []) (aG.mk (aU.mk s_4.Graph.Config s_4.Graph.Hashes []) []) tU wZ c_5.N 0)
def uY:Nat→ByteArray→aG→aG→bY→Int→Int→Int→Int→Option (aG×Bool)
 |0=>fun _ _ _ _ _ _ _ _=>none
 |n+1=>zD (uY n)
def tZ(b_0:ByteArray):Option (aG×Bool):=
 (bif (decide ((b_0.size:Int)<10)) then
  some ((aG.mk (aU.mk (bY.mk 0 0 0) [] []) []),false)
 else
  ((lS b_0 4 2).bind fun r2=>
  ((lS b_0 6 2).bind fun r4=>
  ((lS b_0 8 2).bind fun r6=>
  (bif (((decide (1024<(IntKind.i64.wrap r2)))||(decide (16<(IntKind.i64.wrap r4))))||(decide (8<(IntKind.i64.wrap r6)))) then
   some ((aG.mk (aU.mk (bY.mk 0 0 0) [] []) []),false)
  else
   (bif (decide ((b_0.size:Int)<(IntKind.i64.wrap ((IntKind.i64.wrap ((IntKind.i64.wrap ((IntKind.i64.wrap (10+(IntKind.i64.wrap ((IntKind.i64.wrap ((IntKind.i64.wrap r4)*(IntKind.i64.wrap r6)))*16))))+(IntKind.i64.wrap ((IntKind.i64.wrap r2)*9))))+4))+8)))) then
    some ((aG.mk (aU.mk (bY.mk 0 0 0) [] []) []),false)
   else
    ((fG (((Int.tmod (IntKind.i64.wrap ((IntKind.i64.wrap ((b_0.size:Int)-(IntKind.i64.wrap ((IntKind.i64.wrap ((IntKind.i64.wrap (10+(IntKind.i64.wrap ((IntKind.i64.wrap ((IntKind.i64.wrap r4)*(IntKind.i64.wrap r6)))*16))))+(IntKind.i64.wrap ((IntKind.i64.wrap r2)*9))))+4))))-8)) 5) !=0)==false) 0 (lS b_0 (IntKind.i64.wrap ((IntKind.i64.wrap ((IntKind.i64.wrap ((IntKind.i64.wrap (10+(IntKind.i64.wrap ((IntKind.i64.wrap ((IntKind.i64.wrap r4)*(IntKind.i64.wrap r6)))*16))))+(IntKind.i64.wrap ((IntKind.i64.wrap r2)*9))))+4))-4)) 4)).bind fun r8=>
    (bif (((Int.tmod (IntKind.i64.wrap ((IntKind.i64.wrap ((b_0.size:Int)-(IntKind.i64.wrap ((IntKind.i64.wrap ((IntKind.i64.wrap (10+(IntKind.i64.wrap ((IntKind.i64.wrap ((IntKind.i64.wrap r4)*(IntKind.i64.wrap r6)))*16))))+(IntKind.i64.wrap ((IntKind.i64.wrap r2)*9))))+4))))-8)) 5) !=0)||(r8 !=(IntKind.u64.wrap (IntKind.i64.wrap (Int.tdiv (IntKind.i64.wrap ((IntKind.i64.wrap ((b_0.size:Int)-(IntKind.i64.wrap ((IntKind.i64.wrap ((IntKind.i64.wrap (10+(IntKind.i64.wrap ((IntKind.i64.wrap ((IntKind.i64.wrap r4)*(IntKind.i64.wrap r6)))*16))))+(IntKind.i64.wrap ((IntKind.i64.wrap r2)*9))))+4))))-8)) 5))))) then
     some ((aG.mk (aU.mk (bY.mk 0 0 0) [] []) []),false)
    else
     uY bC b_0 (aG.mk (aU.mk (bY.mk 0 0 0) [] []) []) (aG.mk (aU.mk (bY.mk (IntKind.i64.wrap r2) (IntKind.i64.wrap r4) (IntKind.i64.wrap r6)) [] []) []) (bY.mk (IntKind.i64.wrap r2) (IntKind.i64.wrap r4) (IntKind.i64.wrap r6)) (IntKind.i64.wrap ((IntKind.i64.wrap ((b_0.size:Int)-(IntKind.i64.wrap ((IntKind.i64.wrap ((IntKind.i64.wrap (10+(IntKind.i64.wrap ((IntKind.i64.wrap ((IntKind.i64.wrap r4)*(IntKind.i64.wrap r6)))*16))))+(IntKind.i64.wrap ((IntKind.i64.wrap r2)*9))))+4))))-8)) 10 (IntKind.i64.wrap ((IntKind.i64.wrap r4)*(IntKind.i64.wrap r6))) 0))))))))
theorem aNr{b_0:ByteArray}{r:aG×Bool}(hm:tZ b_0=some r):dU prog 119 [.v (.string b_0)] (.tup [.agg [.v (.int .i64 r.1.Graph.Config.N),.v (.int .i64 r.1.Graph.Config.L),.v (.int .i64 r.1.Graph.Config.R),.sl (r.1.Graph.Hashes.flatMap dX) r.1.Graph.Hashes.length false,.sl (r.1.Graph.Edges.flatMap bE) r.1.Graph.Edges.length false,.sl (r.1.Slots.flatMap bH) r.1.Slots.length false],.v (.bool r.2)]):=by
 refine dU.of_body func119 rfl ?_;simp only [ntmps119,List.length_cons,List.length_nil,Nat.reduceAdd,Nat.reduceSub,nB];unfold tZ at hm;refine sr (N':=64) rfl ?_;refine hp (id:=0) rfl rfl (qO bVc Z5) ?_;refine pA ?_;refine fs ?_;refine sr (N':=128) rfl ?_;refine hp (id:=64) rfl rfl (qO bVc Z5) ?_;refine fs ?_;refine AWp.seq' ?_;refine sr (N':=192) rfl ?_
 iterate 3 refine pA ?_
 refine fs ?_;refine AWp.condM hm Z1 (fun _ hm=>?_) (fun _ hm=>?_)
 · refine sr (N':=256) rfl ?_;refine pu rfl (lD Z1 Z3 Z2) ?_;refine aI.heap0 (id:=193) rfl (rC (ys:=[.v (.int .i64 0),.v (.int .i64 0),.v (.int .i64 0),.v (.slice none 0 0),.v (.slice none 0 0),.v (.slice none 0 0)]) bKn Z1 Z1 Z3 rfl (Nat.le_of_ble_eq_true rfl) Z9 rfl) ?_;refine pA ?_;refine fs ?_;refine AWp.ret ?_;refine lA ?_;cases hm;exact bF9 (.inr rfl) (by rw [Tryz.results119]) (.cell (aH7 Z1 Z3 Z2) (.tmp Z1 .nil)) rfl (tdt (.cons (tda rfl (.cons (.data _ (.v _)) (.cons (.data _ (.v _)) (.cons (.data _ (.v _)) (.cons (.nil false) (.cons (.nil false) (.cons (.nil false) .nil))))))) (.cons (td rfl (.v _)) .nil)))
 ·
  refine AWp.skip ?_;refine aV ?_;refine sr (N':=256) rfl ?_;refine pA ?_;obtain ⟨r2,h1,hm⟩:=bnd hm;refine aI.callQ (r:= .v (.int .u64 r2)) Zd Z1 aMt (fun H=>(cV (cV (cV .nil)))) (uX h1) ?_
  iterate 2 refine pA ?_
  obtain ⟨r4,h3,hm⟩:=bnd hm;refine aI.callQ (r:= .v (.int .u64 r4)) Zd Z1 aMt (fun H=>(cV (cV (cV .nil)))) (uX h3) ?_
  iterate 2 refine pA ?_
  obtain ⟨r6,h5,hm⟩:=bnd hm;refine aI.callQ (r:= .v (.int .u64 r6)) Zd Z1 aMt (fun H=>(cV (cV (cV .nil)))) (uX h5) ?_;refine pA ?_;refine pu rfl (by simp only [go_sem,Nat.reduceBEq];exact (by kernel_rfl:aBv prog 23 [(0,.v (.int .i64 (IntKind.i64.wrap r2))),(1,.v (.int .i64 (IntKind.i64.wrap r4))),(2,.v (.int .i64 (IntKind.i64.wrap r6)))]=some (.agg [.v (.int .i64 (IntKind.i64.wrap r2)),.v (.int .i64 (IntKind.i64.wrap r4)),.v (.int .i64 (IntKind.i64.wrap r6))]))) ?_;refine hp (id:=202) rfl rfl (qO cD0 Z5) ?_;refine aI.heap0 (id:=203) rfl (rC (ys:=[.v (.int .i64 (IntKind.i64.wrap r2)),.v (.int .i64 (IntKind.i64.wrap r4)),.v (.int .i64 (IntKind.i64.wrap r6))]) bV1 Z1 Z1 Z3 rfl (Nat.le_of_ble_eq_true rfl) Z9 rfl) ?_;refine fs ?_;refine AWp.seq' ?_;refine sr (N':=320) rfl ?_;refine pA ?_;refine pu rfl (lD Z1 Z3 Z4) ?_
  iterate 3 first|refine pA ?_|refine pB ?_
  refine pg rfl rfl Z2 (fun hb=>(lD (Zh hb) Z3 Z4)) ?_
  iterate 4 first|refine pA ?_|refine pB ?_
  refine pg rfl rfl Z2 (fun hb=>(lD (Zh hb) Z3 Z4)) ?_
  iterate 2 first|refine pA ?_|refine pB ?_
  refine fs ?_;refine AWp.condM hm Z1 (fun _ hm=>?_) (fun _ hm=>?_)
  · refine sr (N':=384) rfl ?_;refine pu rfl (lD Z1 Z3 Z2) ?_;refine aI.heap0 (id:=321) rfl (rC (ys:=[.v (.int .i64 0),.v (.int .i64 0),.v (.int .i64 0),.v (.slice none 0 0),.v (.slice none 0 0),.v (.slice none 0 0)]) bKn Z1 Z1 Z3 rfl (Nat.le_of_ble_eq_true rfl) Z9 rfl) ?_;refine pA ?_;refine fs ?_;refine AWp.ret ?_;refine lA ?_;cases hm;exact bF9 (.inr rfl) (by rw [Tryz.results119]) (.cell (aH7 Z1 Z3 Z2) (.tmp Z1 .nil)) rfl (tdt (.cons (tda rfl (.cons (.data _ (.v _)) (.cons (.data _ (.v _)) (.cons (.data _ (.v _)) (.cons (.nil false) (.cons (.nil false) (.cons (.nil false) .nil))))))) (.cons (td rfl (.v _)) .nil)))
  ·
   refine AWp.skip ?_;refine aV ?_;refine sr (N':=384) rfl ?_;refine pA ?_;refine pu rfl (lD Z1 Z3 Z4) ?_;refine pA ?_;refine pu rfl (lD Z1 Z3 Z4) ?_
   iterate 4 refine pA ?_
   refine pu rfl (lD Z1 Z3 Z4) ?_
   iterate 4 refine pA ?_
   refine fs ?_;refine AWp.seq' ?_;refine sr (N':=448) rfl ?_
   iterate 5 refine pA ?_
   refine fs ?_;refine AWp.condM hm Z1 (fun _ hm=>?_) (fun _ hm=>?_)
   · refine sr (N':=512) rfl ?_;refine pu rfl (lD Z1 Z3 Z2) ?_;refine aI.heap0 (id:=449) rfl (rC (ys:=[.v (.int .i64 0),.v (.int .i64 0),.v (.int .i64 0),.v (.slice none 0 0),.v (.slice none 0 0),.v (.slice none 0 0)]) bKn Z1 Z1 Z3 rfl (Nat.le_of_ble_eq_true rfl) Z9 rfl) ?_;refine pA ?_;refine fs ?_;refine AWp.ret ?_;refine lA ?_;cases hm;exact bF9 (.inr rfl) (by rw [Tryz.results119]) (.cell (aH7 Z1 Z3 Z2) (.tmp Z1 .nil)) rfl (tdt (.cons (tda rfl (.cons (.data _ (.v _)) (.cons (.data _ (.v _)) (.cons (.data _ (.v _)) (.cons (.nil false) (.cons (.nil false) (.cons (.nil false) .nil))))))) (.cons (td rfl (.v _)) .nil)))
   ·
    refine AWp.skip ?_;refine aV ?_;refine sr (N':=512) rfl ?_
    iterate 6 refine pA ?_
    refine fs ?_;refine AWp.seq' ?_;refine sr (N':=576) rfl ?_
    iterate 7 (first|refine pu rfl Zj ?_|refine pg rfl rfl Zj (by intro hb;simp only [go_sem,Nat.reduceBEq,Int.reduceEq,Int.reduceLE,hb,Bool.true_and];try with_reducible rfl) ?_)
    obtain ⟨r8,h7,hm⟩:=bnd hm;refine aI.callQG (r:= .v (.int .u64 r8)) Zd rfl Z2 Z1 aMt (fun hb H=>(.cons (td (Zh hb) (.v _)) (.cons (td (Zh hb) (.v _)) (.cons (td (Zh hb) (.v _)) .nil)))) (fun hb=>uX (bK h7 hb)) ?_
    iterate 5 (first|refine pu rfl Zj ?_|refine pg rfl rfl Zj (by intro hb;simp only [go_sem,Nat.reduceBEq,Int.reduceEq,Int.reduceLE,hb,Bool.true_and];try with_reducible rfl) ?_)
    refine fs ?_;refine AWp.condM hm Z1 (fun _ hm=>?_) (fun _ hm=>?_)
    · refine sr (N':=640) rfl ?_;refine pu rfl (lD Z1 Z3 Z2) ?_;refine aI.heap0 (id:=577) rfl (rC (ys:=[.v (.int .i64 0),.v (.int .i64 0),.v (.int .i64 0),.v (.slice none 0 0),.v (.slice none 0 0),.v (.slice none 0 0)]) bKn Z1 Z1 Z3 rfl (Nat.le_of_ble_eq_true rfl) Z9 rfl) ?_;refine pA ?_;refine fs ?_;refine AWp.ret ?_;refine lA ?_;cases hm;exact bF9 (.inr rfl) (by rw [Tryz.results119]) (.cell (aH7 Z1 Z3 Z2) (.tmp Z1 .nil)) rfl (tdt (.cons (tda rfl (.cons (.data _ (.v _)) (.cons (.data _ (.v _)) (.cons (.data _ (.v _)) (.cons (.nil false) (.cons (.nil false) (.cons (.nil false) .nil))))))) (.cons (td rfl (.v _)) .nil)))
    ·
     refine AWp.skip ?_;refine aV ?_;refine sr (N':=640) rfl ?_;refine pu rfl (lD Z1 Z3 Z2) ?_
     iterate 2 refine pA ?_
     refine aI.heap0 (id:=579) rfl (rC (ys:=[.v (.int .i64 (IntKind.i64.wrap r2)),.v (.int .i64 (IntKind.i64.wrap r4)),.v (.int .i64 (IntKind.i64.wrap r6)),.v (.slice none 0 0),.v (.slice none 0 0),.v (.slice none 0 0)]) bV1 Z1 Z1 Z3 rfl (Nat.le_of_ble_eq_true rfl) Z9 rfl) ?_;refine fs ?_;refine sr (N':=704) rfl ?_;refine pA ?_;refine fs ?_;refine AWp.seq' ?_;refine sr (N':=768) rfl ?_;refine pA ?_;refine pu rfl (lD Z1 Z3 Z4) ?_;refine pA ?_;refine pu rfl (lD Z1 Z3 Z4) ?_
     iterate 2 refine pA ?_
     refine fs ?_;refine AWp.block ?_;refine AWp.loopM (fun m s=> ∃(b_0:ByteArray) (t2:aG) (s_4:aG) (c_5:bY) (tU:Int) (wZ:Int) (t82:Int) (t83:Int),s=(⟨157,(aF (aF (aF (aF (aF (aF (aF (aF (fun _=>AV.any) 0 (.v (.string b_0))) 2 (.adr 1 0)) 4 (.adr 2 0)) 5 (.adr 4 0)) 7 (.v (.int .i64 tU))) 8 (.v (.int .i64 wZ))) 82 (.v (.int .i64 t82))) 83 (.v (.int .i64 t83))),⟨(upd (upd (upd (upd bQ 1 (.cells 1 [.v (.int .i64 t2.Graph.Config.N),.v (.int .i64 t2.Graph.Config.L),.v (.int .i64 t2.Graph.Config.R),.v (.slice none 0 0),.v (.slice none 0 0),.v (.slice none 0 0)] 0)) 2 (.cells 1 [.v (.int .i64 s_4.Graph.Config.N),.v (.int .i64 s_4.Graph.Config.L),.v (.int .i64 s_4.Graph.Config.R),.own 3 0 s_4.Graph.Hashes.length,.v (.slice none 0 0),.v (.slice none 0 0)] 0)) 3 (.cells 2 (s_4.Graph.Hashes.flatMap dX) 0)) 4 (.cells 1 [.v (.int .i64 c_5.N),.v (.int .i64 c_5.L),.v (.int .i64 c_5.R)] 0)),64⟩⟩:St)∧uY m b_0 t2 s_4 c_5 tU wZ t82 t83=some r) bC ?_ ?_ ?_
     · rintro s ⟨_,_,_,_,_,_,_,_,_,h⟩;cases h
     · refine ⟨_,?_,b_0,(aG.mk (aU.mk (bY.mk 0 0 0) [] []) []),(aG.mk (aU.mk (bY.mk (IntKind.i64.wrap r2) (IntKind.i64.wrap r4) (IntKind.i64.wrap r6)) [] []) []),(bY.mk (IntKind.i64.wrap r2) (IntKind.i64.wrap r4) (IntKind.i64.wrap r6)),(IntKind.i64.wrap ((IntKind.i64.wrap ((b_0.size:Int)-(IntKind.i64.wrap ((IntKind.i64.wrap ((IntKind.i64.wrap (10+(IntKind.i64.wrap ((IntKind.i64.wrap ((IntKind.i64.wrap r4)*(IntKind.i64.wrap r6)))*16))))+(IntKind.i64.wrap ((IntKind.i64.wrap r2)*9))))+4))))-8)),10,(IntKind.i64.wrap ((IntKind.i64.wrap r4)*(IntKind.i64.wrap r6))),0,rfl,hm⟩;refine St.Le.trans (aX7 64 3 910400 2 (ys:=[.v (.int .i64 (IntKind.i64.wrap r2)),.v (.int .i64 (IntKind.i64.wrap r4)),.v (.int .i64 (IntKind.i64.wrap r6)),.own 910400 0 0,.v (.slice none 0 0),.v (.slice none 0 0)]) Z3 (by rfl) Z5 (by rfl)) ?_;exact jJ (fun j=>bif j==1 then 0 else bif j==2 then 64 else bif j==3 then 910400 else bif j==4 then 202 else 0) (wV (wV (wV (wV (dB _ _ (aA3 Z1 rfl Z7) (dB _ _ (aA3 Z1 rfl Z7) (dB _ _ (aA3 Z1 rfl Z7) (wV mD)))))))) (lG _ (gU (sA Z3 (Nat.le_refl _) (Nat.zero_le _) (aO4.dat (bY.mk (IntKind.i64.wrap r2) (IntKind.i64.wrap r4) (IntKind.i64.wrap r6)))) (eU nR (gU (nM Z3 rfl (.cons (.data _ (.v _)) (.cons (.data _ (.v _)) (.cons (.data _ (.v _)) (.cons (yC (by first|rfl|omega|(dsimp only;omega)) rfl Z7) (.cons (.data _ (.v _)) (.cons (.data _ (.v _)) .nil))))))) (gU (nM Z3 rfl (.cons (.data _ (.v _)) (.cons (.data _ (.v _)) (.cons (.data _ (.v _)) (.cons (.data _ (.v _)) (.cons (.data _ (.v _)) (.cons (.data _ (.v _)) .nil))))))) mR)))) Z8)
     ·
      rintro n1 s ⟨b_0,t2,s_4,c_5,tU,wZ,t82,t83,rfl,hm⟩;replace hm:zD (uY n1) b_0 t2 s_4 c_5 tU wZ t82 t83=some r:=hm;unfold zD at hm;refine sr (N':=128) rfl ?_;refine pA ?_;refine fs ?_;refine AWp.seq' ?_;refine AWp.condM hm Z1 (fun _ hm=>?_) (fun _ hm=>?_)
      ·
       refine AWp.skip ?_;refine aV ?_;refine AWp.seq' ?_;refine AWp.block ?_;refine sd mix (by kernel_rfl) (N':=192) rfl ?_
       iterate 2 refine pA ?_
       refine pu rfl (lD Z1 Z3 Z4) ?_
       iterate 2 refine pA ?_
       obtain ⟨r10,h9,hm⟩:=bnd hm;refine aI.callQ (r:= .v (.int .u64 r10)) Zd Z1 aMt (fun H=>(cV (cV (cV .nil)))) (uX h9) ?_
       iterate 3 refine pA ?_
       obtain ⟨r12,h11,hm⟩:=bnd hm;refine aI.callQ (r:= .v (.int .u64 r12)) Zd Z1 aMt (fun H=>(cV (cV (cV .nil)))) (uX h11) ?_;refine pu rfl (by simp only [go_sem,Nat.reduceBEq];exact (by kernel_rfl:aBv prog 120 [(0,.v (.int .u64 r10)),(1,.v (.int .u64 r12))]=some (.agg [.v (.int .u64 r10),.v (.int .u64 r12)]))) ?_;refine hp (id:=139) rfl rfl (qN nR (l:=[(dI.mk r10 r12)]) underlying27 bBc bBt Z5 Zd Zd Zd (by simp only [go_sem,Nat.reduceBEq];try rfl) (by kernel_rfl)) ?_;obtain ⟨l14,h13,hm⟩:=bnd hm;refine hp (id:=140) rfl rfl (aEh nR underlying27 underlying27 rfl bGk bHe (by rw [aQh];decide) (by rw [aQh];decide) bHg Zd Zd Z1 Z3 Z6 (aHa nR Z1 Z3 Z6) rfl Z5 h13) ?_
       iterate 2 refine pA ?_
       refine aI.heap0 (id:=143) rfl (rC (ys:=[.v (.int .i64 s_4.Graph.Config.N),.v (.int .i64 s_4.Graph.Config.L),.v (.int .i64 s_4.Graph.Config.R),.own 140 0 l14.length,.v (.slice none 0 0),.v (.slice none 0 0)]) cBz Z1 Z1 Z3 rfl (Nat.le_of_ble_eq_true rfl) Z9 rfl) ?_;refine fs ?_;refine AWp.reg 64 (N':=256) rfl ?_
       iterate 3 refine pA ?_
       refine aI.fin ?_;refine eR ?_;refine aV ?_;refine AWp.reg 64 (N':=320) rfl ?_
       iterate 2 refine pA ?_
       refine aI.fin ?_;refine cN ?_;refine ⟨_,?_,b_0,(aG.mk (aU.mk t2.Graph.Config [] []) []),(aG.mk (aU.mk s_4.Graph.Config l14 []) []),c_5,tU,(IntKind.i64.wrap (wZ+16)),t82,(IntKind.i64.wrap (t83+1)),rfl,hm⟩;exact jJ (fun j=>bif j==1 then 1 else bif j==2 then 2 else bif j==3 then 140 else bif j==4 then 4 else 0) (wV (wV (wV (wV (dB _ _ (aA3 Z1 rfl Z7) (dB _ _ (aA3 Z1 rfl Z7) (dB _ _ (aA3 Z1 rfl Z7) (wV mD)))))))) (lG _ (gU (sA Z3 (Nat.le_refl _) (Nat.zero_le _) (aO4.dat c_5)) (eU nR (gU (nM Z3 rfl (.cons (.data _ (.v _)) (.cons (.data _ (.v _)) (.cons (.data _ (.v _)) (.cons (yC (by first|rfl|omega|(dsimp only;omega)) rfl Z7) (.cons (.data _ (.v _)) (.cons (.data _ (.v _)) .nil))))))) (gU (nM Z3 rfl (.cons (.data _ (.v _)) (.cons (.data _ (.v _)) (.cons (.data _ (.v _)) (.cons (.data _ (.v _)) (.cons (.data _ (.v _)) (.cons (.data _ (.v _)) .nil))))))) mR)))) Z8)
      ·
       refine AWp.exit ?_;refine dJ ?_;refine cY ?_;refine cU ?_;refine aV ?_;refine AWp.seq' ?_;refine sr (N':=192) rfl ?_;refine pA ?_;refine pu rfl (lD Z1 Z3 Z4) ?_;refine pA ?_;refine fs ?_;refine AWp.block ?_;refine AWp.loopM (fun m s=> ∃(b_0:ByteArray) (t2:aG) (s_4:aG) (tU:Int) (wZ:Int) (t104:Int) (t105:Int),s=(⟨157,(aF (aF (aF (aF (aF (aF (aF (fun _=>AV.any) 0 (.v (.string b_0))) 2 (.adr 1 0)) 4 (.adr 2 0)) 7 (.v (.int .i64 tU))) 8 (.v (.int .i64 wZ))) 104 (.v (.int .i64 t104))) 105 (.v (.int .i64 t105))),⟨(upd (upd (upd (upd bQ 1 (.cells 1 [.v (.int .i64 t2.Graph.Config.N),.v (.int .i64 t2.Graph.Config.L),.v (.int .i64 t2.Graph.Config.R),.v (.slice none 0 0),.v (.slice none 0 0),.v (.slice none 0 0)] 0)) 2 (.cells 1 [.v (.int .i64 s_4.Graph.Config.N),.v (.int .i64 s_4.Graph.Config.L),.v (.int .i64 s_4.Graph.Config.R),.own 3 0 s_4.Graph.Hashes.length,.v (.slice none 0 0),.own 4 0 s_4.Slots.length] 0)) 3 (.cells 2 (s_4.Graph.Hashes.flatMap dX) 0)) 4 (.cells 2 (s_4.Slots.flatMap bH) 0)),64⟩⟩:St)∧uZ m b_0 t2 s_4 tU wZ t104 t105=some r) bC ?_ ?_ ?_
       · rintro s ⟨_,_,_,_,_,_,_,_,h⟩;cases h
       · refine ⟨_,?_,b_0,(aG.mk (aU.mk t2.Graph.Config [] []) []),(aG.mk (aU.mk s_4.Graph.Config s_4.Graph.Hashes []) []),tU,wZ,c_5.N,0,rfl,hm⟩;refine St.Le.trans (aX7 2 5 910401 2 (ys:=[.v (.int .i64 s_4.Graph.Config.N),.v (.int .i64 s_4.Graph.Config.L),.v (.int .i64 s_4.Graph.Config.R),.own 3 0 s_4.Graph.Hashes.length,.v (.slice none 0 0),.own 910401 0 0]) Z3 (by rfl) Z5 (by rfl)) ?_;exact jJ (fun j=>bif j==1 then 1 else bif j==2 then 2 else bif j==3 then 3 else bif j==4 then 910401 else 0) (wV (wV (wV (wV (dB _ _ (aA3 Z1 rfl Z7) (dB _ _ (aA3 Z1 rfl Z7) (wV mD))))))) (lG _ (eU eX (eU nR (gU (nM Z3 rfl (.cons (.data _ (.v _)) (.cons (.data _ (.v _)) (.cons (.data _ (.v _)) (.cons (yC (by first|rfl|omega|(dsimp only;omega)) rfl Z7) (.cons (.data _ (.v _)) (.cons (yC (by first|rfl|omega|(dsimp only;omega)) rfl Z7) .nil))))))) (gU (nM Z3 rfl (.cons (.data _ (.v _)) (.cons (.data _ (.v _)) (.cons (.data _ (.v _)) (.cons (.data _ (.v _)) (.cons (.data _ (.v _)) (.cons (.data _ (.v _)) .nil))))))) mR)))) Z8)
       ·
        rintro n2 s ⟨b_0,t2,s_4,tU,wZ,t104,t105,rfl,hm⟩;replace hm:zE (uZ n2) b_0 t2 s_4 tU wZ t104 t105=some r:=hm;unfold zE at hm;refine sr (N':=128) rfl ?_;refine pA ?_;refine fs ?_;refine AWp.seq' ?_;refine AWp.condM hm Z1 (fun _ hm=>?_) (fun _ hm=>?_)
        ·
         refine AWp.skip ?_;refine aV ?_;refine AWp.seq' ?_;refine AWp.block ?_;refine sd mix (by kernel_rfl) (N':=192) rfl ?_;refine pA ?_;refine pu rfl (lD Z1 Z3 Z4) ?_
         iterate 2 refine pA ?_
         obtain ⟨b16,h15,hm⟩:=bnd hm;refine pu rfl (aW8 underlying9 Z1 Z1 h15) ?_
         iterate 4 refine pA ?_
         obtain ⟨r18,h17,hm⟩:=bnd hm;refine aI.callQ (r:= .v (.int .u64 r18)) Zd Z1 aMt (fun H=>(cV (cV (cV .nil)))) (uX h17) ?_;refine pu rfl (by simp only [go_sem,Nat.reduceBEq];exact (by kernel_rfl:aBv prog 104 [(0,.v (.bool (b16==1))),(1,.v (.int .u64 r18))]=some (.agg [.v (.bool (b16==1)),.v (.int .u64 r18)]))) ?_;refine hp (id:=139) rfl rfl (qN eX (l:=[(aR.mk (b16==1) r18)]) underlying31 bBb bBs Z5 Zd Zd Zd (by simp only [go_sem,Nat.reduceBEq];try rfl) (by kernel_rfl)) ?_;obtain ⟨l20,h19,hm⟩:=bnd hm;refine hp (id:=140) rfl rfl (aEh eX underlying31 underlying31 rfl bGj bHd (by rw [aQg];decide) (by rw [aQg];decide) bHf Zd Zd Z1 Z3 Z6 (aHa eX Z1 Z3 Z6) rfl Z5 h19) ?_;refine pA ?_;refine aI.heap0 (id:=142) rfl (rC (ys:=[.v (.int .i64 s_4.Graph.Config.N),.v (.int .i64 s_4.Graph.Config.L),.v (.int .i64 s_4.Graph.Config.R),.own 3 0 s_4.Graph.Hashes.length,.v (.slice none 0 0),.own 140 0 l20.length]) cCi Z1 Z1 Z3 rfl (Nat.le_of_ble_eq_true rfl) Z9 rfl) ?_;refine fs ?_;refine AWp.reg 64 (N':=256) rfl ?_
         iterate 3 refine pA ?_
         refine aI.fin ?_;refine eR ?_;refine aV ?_;refine AWp.reg 64 (N':=320) rfl ?_
         iterate 2 refine pA ?_
         refine aI.fin ?_;refine cN ?_;refine ⟨_,?_,b_0,(aG.mk (aU.mk t2.Graph.Config [] []) []),(aG.mk (aU.mk s_4.Graph.Config s_4.Graph.Hashes []) l20),tU,(IntKind.i64.wrap (wZ+9)),t104,(IntKind.i64.wrap (t105+1)),rfl,hm⟩;exact jJ (fun j=>bif j==1 then 1 else bif j==2 then 2 else bif j==3 then 3 else bif j==4 then 140 else 0) (wV (wV (wV (wV (dB _ _ (aA3 Z1 rfl Z7) (dB _ _ (aA3 Z1 rfl Z7) (wV mD))))))) (lG _ (eU eX (eU nR (gU (nM Z3 rfl (.cons (.data _ (.v _)) (.cons (.data _ (.v _)) (.cons (.data _ (.v _)) (.cons (yC (by first|rfl|omega|(dsimp only;omega)) rfl Z7) (.cons (.data _ (.v _)) (.cons (yC (by first|rfl|omega|(dsimp only;omega)) rfl Z7) .nil))))))) (gU (nM Z3 rfl (.cons (.data _ (.v _)) (.cons (.data _ (.v _)) (.cons (.data _ (.v _)) (.cons (.data _ (.v _)) (.cons (.data _ (.v _)) (.cons (.data _ (.v _)) .nil))))))) mR)))) Z8)
        ·
         refine AWp.exit ?_;refine dJ ?_;refine cY ?_;refine cU ?_;refine aV ?_;refine sr (N':=192) rfl ?_
         iterate 3 refine pA ?_
         refine fs ?_;refine AWp.seq' ?_;refine sr (N':=256) rfl ?_
         iterate 3 refine pu rfl Zj ?_
         refine fs ?_;refine AWp.block ?_;refine AWp.loopM (fun m s=> ∃(b_0:ByteArray) (t2:aG) (s_4:aG) (wZ:Int) (t127:Int) (t128:Int),s=(⟨157,(aF (aF (aF (aF (aF (aF (fun _=>AV.any) 0 (.v (.string b_0))) 2 (.adr 1 0)) 4 (.adr 2 0)) 8 (.v (.int .i64 wZ))) 127 (.v (.int .i64 t127))) 128 (.v (.int .i64 t128))),⟨(upd (upd (upd (upd (upd bQ 1 (.cells 1 [.v (.int .i64 t2.Graph.Config.N),.v (.int .i64 t2.Graph.Config.L),.v (.int .i64 t2.Graph.Config.R),.v (.slice none 0 0),.v (.slice none 0 0),.v (.slice none 0 0)] 0)) 2 (.cells 1 [.v (.int .i64 s_4.Graph.Config.N),.v (.int .i64 s_4.Graph.Config.L),.v (.int .i64 s_4.Graph.Config.R),.own 3 0 s_4.Graph.Hashes.length,.own 4 0 s_4.Graph.Edges.length,.own 5 0 s_4.Slots.length] 0)) 3 (.cells 2 (s_4.Graph.Hashes.flatMap dX) 0)) 4 (.cells 3 (s_4.Graph.Edges.flatMap bE) 0)) 5 (.cells 2 (s_4.Slots.flatMap bH) 0)),64⟩⟩:St)∧vC m b_0 t2 s_4 wZ t127 t128=some r) bC ?_ ?_ ?_
         · rintro s ⟨_,_,_,_,_,_,_,h⟩;cases h
         · refine ⟨_,?_,b_0,(aG.mk (aU.mk t2.Graph.Config [] []) []),(aG.mk (aU.mk s_4.Graph.Config s_4.Graph.Hashes []) s_4.Slots),(IntKind.i64.wrap (wZ+4)),(IntKind.i64.wrap (Int.tdiv tU 5)),0,rfl,hm⟩;refine St.Le.trans (aX7 2 4 910401 3 (ys:=[.v (.int .i64 s_4.Graph.Config.N),.v (.int .i64 s_4.Graph.Config.L),.v (.int .i64 s_4.Graph.Config.R),.own 3 0 s_4.Graph.Hashes.length,.own 910401 0 0,.own 4 0 s_4.Slots.length]) Z3 (by rfl) Z5 (by rfl)) ?_;exact jJ (fun j=>bif j==1 then 1 else bif j==2 then 2 else bif j==3 then 3 else bif j==4 then 910401 else bif j==5 then 4 else 0) (wV (wV (wV (dB _ _ (aA3 Z1 rfl Z7) (dB _ _ (aA3 Z1 rfl Z7) (wV mD)))))) (lG _ (eU eX (eU dT (eU nR (gU (nM Z3 rfl (.cons (.data _ (.v _)) (.cons (.data _ (.v _)) (.cons (.data _ (.v _)) (.cons (yC (by first|rfl|omega|(dsimp only;omega)) rfl Z7) (.cons (yC (by first|rfl|omega|(dsimp only;omega)) rfl Z7) (.cons (yC (by first|rfl|omega|(dsimp only;omega)) rfl Z7) .nil))))))) (gU (nM Z3 rfl (.cons (.data _ (.v _)) (.cons (.data _ (.v _)) (.cons (.data _ (.v _)) (.cons (.data _ (.v _)) (.cons (.data _ (.v _)) (.cons (.data _ (.v _)) .nil))))))) mR))))) Z8)
         ·
          rintro n3 s ⟨b_0,t2,s_4,wZ,t127,t128,rfl,hm⟩;replace hm:zF (vC n3) b_0 t2 s_4 wZ t127 t128=some r:=hm;unfold zF at hm;refine sr (N':=128) rfl ?_;refine pA ?_;refine fs ?_;refine AWp.seq' ?_;refine AWp.condM hm Z1 (fun _ hm=>?_) (fun _ hm=>?_)
          ·
           refine AWp.skip ?_;refine aV ?_;refine AWp.seq' ?_;refine AWp.block ?_;refine sd mix (by kernel_rfl) (N':=192) rfl ?_
           iterate 2 refine pA ?_
           obtain ⟨r22,h21,hm⟩:=bnd hm;refine aI.callQ (r:= .v (.int .u64 r22)) Zd Z1 aMt (fun H=>(cV (cV (cV .nil)))) (uX h21) ?_
           iterate 4 refine pA ?_
           obtain ⟨r24,h23,hm⟩:=bnd hm;refine aI.callQ (r:= .v (.int .u64 r24)) Zd Z1 aMt (fun H=>(cV (cV (cV .nil)))) (uX h23) ?_
           iterate 4 refine pA ?_
           obtain ⟨b26,h25,hm⟩:=bnd hm;refine pu rfl (aW8 underlying9 Z1 Z1 h25) ?_;refine pA ?_;refine pu rfl (by simp only [go_sem,Nat.reduceBEq];exact (by kernel_rfl:aBv prog 102 [(0,.v (.int .i64 (IntKind.i64.wrap r22))),(1,.v (.int .i64 (IntKind.i64.wrap r24))),(2,.v (.int .i64 (IntKind.i64.wrap b26)))]=some (.agg [.v (.int .i64 (IntKind.i64.wrap r22)),.v (.int .i64 (IntKind.i64.wrap r24)),.v (.int .i64 (IntKind.i64.wrap b26))]))) ?_;refine hp (id:=143) rfl rfl (qO aO2 Z5) ?_;refine aI.heap0 (id:=144) rfl (rC (ys:=[.v (.int .i64 (IntKind.i64.wrap r22)),.v (.int .i64 (IntKind.i64.wrap r24)),.v (.int .i64 (IntKind.i64.wrap b26))]) aG3 Z1 Z1 Z3 rfl (Nat.le_of_ble_eq_true rfl) Z9 rfl) ?_;refine fs ?_;refine sr (N':=256) rfl ?_
           iterate 2 refine pA ?_
           refine pu rfl (lD Z1 Z3 Z4) ?_;refine pu rfl (lD Z1 Z3 Z2) ?_;refine hp (id:=196) rfl rfl (qN dT (l:=[(aH.mk (IntKind.i64.wrap r22) (IntKind.i64.wrap r24) (IntKind.i64.wrap b26))]) underlying28 aG3 aO2 Z5 Zd Zd Zd (by simp only [go_sem,Nat.reduceBEq];try rfl) (by kernel_rfl)) ?_;obtain ⟨l28,h27,hm⟩:=bnd hm;refine hp (id:=197) rfl rfl (aEh dT underlying28 underlying28 rfl aZt bBk (by rw [aLh];decide) (by rw [aLh];decide) bBl Zd Zd Z1 Z3 Z6 (aHa dT Z1 Z3 Z6) rfl Z5 h27) ?_
           iterate 2 refine pA ?_
           refine aI.heap0 (id:=200) rfl (rC (ys:=[.v (.int .i64 s_4.Graph.Config.N),.v (.int .i64 s_4.Graph.Config.L),.v (.int .i64 s_4.Graph.Config.R),.own 3 0 s_4.Graph.Hashes.length,.own 197 0 l28.length,.own 5 0 s_4.Slots.length]) bS1 Z1 Z1 Z3 rfl (Nat.le_of_ble_eq_true rfl) Z9 rfl) ?_;refine fs ?_;refine AWp.reg 64 (N':=320) rfl ?_
           iterate 3 refine pA ?_
           refine aI.fin ?_;refine eR ?_;refine aV ?_;refine AWp.reg 64 (N':=384) rfl ?_
           iterate 2 refine pA ?_
           refine aI.fin ?_;refine cN ?_;refine ⟨_,?_,b_0,(aG.mk (aU.mk t2.Graph.Config [] []) []),(aG.mk (aU.mk s_4.Graph.Config s_4.Graph.Hashes l28) s_4.Slots),(IntKind.i64.wrap (wZ+5)),t127,(IntKind.i64.wrap (t128+1)),rfl,hm⟩;exact jJ (fun j=>bif j==1 then 1 else bif j==2 then 2 else bif j==3 then 3 else bif j==4 then 197 else bif j==5 then 5 else 0) (wV (wV (wV (dB _ _ (aA3 Z1 rfl Z7) (dB _ _ (aA3 Z1 rfl Z7) (wV mD)))))) (lG _ (eU eX (eU dT (eU nR (gU (nM Z3 rfl (.cons (.data _ (.v _)) (.cons (.data _ (.v _)) (.cons (.data _ (.v _)) (.cons (yC (by first|rfl|omega|(dsimp only;omega)) rfl Z7) (.cons (yC (by first|rfl|omega|(dsimp only;omega)) rfl Z7) (.cons (yC (by first|rfl|omega|(dsimp only;omega)) rfl Z7) .nil))))))) (gU (nM Z3 rfl (.cons (.data _ (.v _)) (.cons (.data _ (.v _)) (.cons (.data _ (.v _)) (.cons (.data _ (.v _)) (.cons (.data _ (.v _)) (.cons (.data _ (.v _)) .nil))))))) mR))))) Z8)
          · refine AWp.exit ?_;refine dJ ?_;refine cY ?_;refine cU ?_;refine aV ?_;refine sr (N':=192) rfl ?_;refine pu rfl (lD Z1 Z3 Z2) ?_;refine aI.heap0 (id:=129) rfl (rC (ys:=[.v (.int .i64 s_4.Graph.Config.N),.v (.int .i64 s_4.Graph.Config.L),.v (.int .i64 s_4.Graph.Config.R),.own 3 0 s_4.Graph.Hashes.length,.own 4 0 s_4.Graph.Edges.length,.own 5 0 s_4.Slots.length]) bKn Z1 Z1 Z3 rfl (Nat.le_of_ble_eq_true rfl) Z9 rfl) ?_;refine pA ?_;refine fs ?_;refine AWp.ret ?_;cases hm;exact bF9 (.inr rfl) (by rw [Tryz.results119]) (.cell (aH7 Z1 Z3 Z2) (.tmp Z1 .nil)) rfl (tdt (.cons (tda rfl (.cons (.data _ (.v _)) (.cons (.data _ (.v _)) (.cons (.data _ (.v _)) (.cons (tdo nR rfl Z3 Z6) (.cons (tdo dT rfl Z3 Z6) (.cons (tdo eX rfl Z3 Z6) .nil))))))) (.cons (td rfl (.v _)) .nil)))
instance:Ct prog 119 (K1 prog vs (t2 eJ vb) 119 tZ):=⟨fun hm=>aNr hm⟩
def vE(b_0:ByteArray):Option (aG×Int):=
 ((tZ b_0).bind fun ⟨r2,r3⟩=>
 (bif (!r3) then
  some ((aG.mk (aU.mk (bY.mk 0 0 0) [] []) []),12)
 else
  ((sG r2).bind fun ⟨r5,r6⟩=>
  (bif ((r6 !=0)||(!decide (r5=b_0))) then
   some ((aG.mk (aU.mk (bY.mk 0 0 0) [] []) []),12)
  else
   some (r2,0)))))
theorem aUe{b_0:ByteArray}{r:aG×Int}(hm:vE b_0=some r):dU prog 87 [.v (.string b_0)] (.tup [.agg [vi r.1.Graph.Config.N,vi r.1.Graph.Config.L,vi r.1.Graph.Config.R,vl dX r.1.Graph.Hashes,vl bE r.1.Graph.Edges,vl bH r.1.Slots],vi r.2]):=by
 refine bd 30 func87 ?_;refine W ?_;obtain ⟨⟨r2,r3⟩,h1,hm⟩:=bnd hm;refine cq (aNr h1) ?_;refine W ?_;refine cm hm (fun hm=>?_) fun hm=>?_
 · refine W ?_;refine bU (.agg [vi 0,vi 0,vi 0,.v (.slice none 0 0),.v (.slice none 0 0),.v (.slice none 0 0)]) ?_;exact E
 refine W ?_;obtain ⟨⟨r5,r6⟩,h4,hm⟩:=bnd hm;refine cq (aT1 h4) ?_;refine W ?_;refine cm hm (fun hm=>?_) fun hm=>?_
 · refine W ?_;refine bU (.agg [vi 0,vi 0,vi 0,.v (.slice none 0 0),.v (.slice none 0 0),.v (.slice none 0 0)]) ?_;exact E
 exact E
instance:Ct prog 87 (K1 prog vs (t2 eJ vi) 87 vE):=⟨fun hm=>aUe hm⟩
abbrev oA(s_4:aG)(t8:aG)(bTt:Int):Option (aG×Int):=
 some (s_4,bTt)
def oT(s_0:aG)(c_1:dC)(u_2:Int)(v_3:Int):Option (aG×Int):=
 (bif (c_1.Do==1) then
  ((aFf s_0.Slots c_1.A).bind fun ⟨r2,r3,r4⟩=>
  oA (aG.mk s_0.Graph r2) (aG.mk (aU.mk (bY.mk 0 0 0) [] []) []) r4)
 else
  (bif (c_1.Do==2) then
   ((uP s_0 u_2).bind fun r6=>
   (bif (decide (0<r6)) then
    some (s_0,11)
   else
    ((zN s_0.Slots c_1.A).bind fun ⟨r8,r9⟩=>
    oA (aG.mk s_0.Graph r8) (aG.mk (aU.mk (bY.mk 0 0 0) [] []) []) r9)))
  else
   (bif (c_1.Do==3) then
    ((zK s_0.Graph u_2 v_3).bind fun ⟨r11,r12⟩=>
    oA (aG.mk r11 s_0.Slots) (aG.mk (aU.mk (bY.mk 0 0 0) [] []) []) r12)
   else
    (bif (c_1.Do==4) then
     (bif (u_2==v_3) then
      some (s_0,9)
     else
      ((zJ s_0.Graph u_2 v_3).bind fun ⟨r14,r15⟩=>
      oA (aG.mk r14 s_0.Slots) (aG.mk (aU.mk (bY.mk 0 0 0) [] []) []) r15))
    else
     (bif (c_1.Do==15) then
      ((vE c_1.Text).bind fun ⟨r17,r18⟩=>
      some (r17,r18))
     else
      oA s_0 (aG.mk (aU.mk (bY.mk 0 0 0) [] []) []) 0)))))
theorem aTx:K4 prog eJ aBo vi vi (t2 eJ vi) 43 oT:=fun hm=>be 76 func43 (h:=G)
instance:Ct prog 43 (K4 prog eJ aBo vi vi (t2 eJ vi) 43 oT):=⟨aTx⟩
def nF(s_0:aG)(c_1:dC):Option (aG×GA):=
 ((fG (((decide (c_1.Do<1))||(decide (15<c_1.Do)))==false) false (qW s_0)).bind fun r2=>
 (bif (((decide (c_1.Do<1))||(decide (15<c_1.Do)))||(!r2)) then
  some (s_0,(GA.i 36 .i64 1))
 else
  ((wX s_0.Slots c_1.A).bind fun ⟨r4,r5⟩=>
  ((wX s_0.Slots c_1.B).bind fun ⟨r7,r8⟩=>
  ((tK c_1.Do).bind fun r10=>
  ((fG ((r10&&(!r5))==false) false (tL c_1.Do)).bind fun r12=>
  (bif ((r10&&(!r5))||(r12&&(!r8))) then
   some (s_0,(GA.i 36 .i64 7))
  else
   (bif ((decide (4<c_1.Do))&&(c_1.Do !=15)) then
    ((sD s_0 c_1.Do r4 r7).bind fun r14=>
    some (s_0,r14))
   else
    ((oT s_0 c_1 r4 r7).bind fun ⟨r16,r17⟩=>
    (bif (r17 !=0) then
     some (s_0,(GA.i 36 .i64 r17))
    else
     some (r16,(GA.i 36 .i64 0))))))))))))
theorem aA9:K2 prog eJ aBo (t2 eJ GA.av) 15 nF:=fun hm=>be 91 func15 (h:=G)
instance:Ct prog 15 (K2 prog eJ aBo (t2 eJ GA.av) 15 nF):=⟨aA9⟩
def aC4(aDz:GA):Option (Int):=
 ((aOk .i64 36 aDz).bind fun r2=>
 some r2)
theorem aGv{aDz:GA}{r:Int}(hm:aC4 aDz=some r):dU prog 38 [GA.av aDz] (vi r):=by
 refine bd 5 func38 ?_;obtain ⟨r2,h1,hm⟩:=bnd hm;refine W ?_;refine pu rfl (bHo underlying36 Z1 h1) ?_;exact E
instance:Ct prog 38 (K1 prog GA.av vi 38 aC4):=⟨fun hm=>aGv hm⟩
def aB5:Option (Bool):=
 ((sE (bY.mk 2 1 1) (cL.mk [3,4,5] 0)).bind fun ⟨r2,r3,r4⟩=>
 ((nF r2 (dC.mk 1 9 0 ⟨#[]⟩)).bind fun ⟨r6,r7⟩=>
 ((nF r6 (dC.mk 1 7 0 ⟨#[]⟩)).bind fun ⟨r9,r10⟩=>
 ((nF r9 (dC.mk 3 7 9 ⟨#[]⟩)).bind fun ⟨r12,r13⟩=>
 ((nF r12 (dC.mk 11 9 0 ⟨#[]⟩)).bind fun ⟨r15,r16⟩=>
 ((nF r12 (dC.mk 2 9 0 ⟨#[]⟩)).bind fun ⟨r18,r19⟩=>
 ((nF r12 (dC.mk 5 9 8 ⟨#[]⟩)).bind fun ⟨r21,r22⟩=>
 ((nF r12 (dC.mk 0 0 0 ⟨#[]⟩)).bind fun ⟨r24,r25⟩=>
 ((bTw 24 r16).bind fun ⟨r27,r28⟩=>
 ((fG (((r4==0)&&(r3.At==2))==true) false (aMw r7 36 .i64 0)).bind fun b30=>
 ((fG ((((r4==0)&&(r3.At==2))&&b30)==true) false (aMw r10 36 .i64 0)).bind fun b32=>
 ((fG (((((r4==0)&&(r3.At==2))&&b30)&&b32)==true) false (aMw r13 36 .i64 0)).bind fun b34=>
 (bif ((((((r4==0)&&(r3.At==2))&&b30)&&b32)&&b34)&&r28) then
  ((aJz r27 [7,9]).bind fun r37=>
  ((fG (r37==true) false (aMw r19 36 .i64 11)).bind fun b39=>
  ((fG ((r37&&b39)==true) false (aMw r22 36 .i64 7)).bind fun b41=>
  ((fG (((r37&&b39)&&b41)==true) false (aMw r25 36 .i64 1)).bind fun b43=>
  ((fG ((bif (((r37&&b39)&&b41)&&b43) then true else false)==true) 0 (aC4 r25)).bind fun r45=>
  some ((bif (((r37&&b39)&&b41)&&b43) then true else false)&&(r45==1)))))))
 else
  some false)))))))))))))
theorem aX3{r:Bool}(hm:aB5=some r):dU prog 14 [] (vb r):=by
 refine bd 124 func14 ?_;refine W ?_;refine bU (.agg [vi 2,vi 1,vi 1]) ?_;refine aI.pop Zd (aFt (ps:=[(0,.v (.int .u64 3)),(1,.v (.int .u64 4)),(2,.v (.int .u64 5))]) (by simp only [go_sem,Nat.reduceBEq];try rfl) (aAx (.v _) (aAx (.v _) (aAx (.v _) aR8)))) (aNb (CFi .u64) (l:=[3,4,5]) (xs:=[.v (.int .u64 3),.v (.int .u64 4),.v (.int .u64 5)]) underlying24 fD bKs Zd Zd Zd (ps:=[(0,.v (.int .u64 3)),(1,.v (.int .u64 4)),(2,.v (.int .u64 5))]) (by simp only [go_sem,Nat.reduceBEq];try rfl) (by kernel_rfl) (fun H=>(.cons (.data _ (.v _)) (.cons (.data _ (.v _)) (.cons (.data _ (.v _)) .nil))))) rfl ?_;refine bU (.agg [.sl (([3,4,5]).flatMap (ci .u64)) ([3,4,5]).length false,vi 0]) ?_;obtain ⟨⟨r2,r3,r4⟩,h1,hm⟩:=bnd hm;refine cq (aSb h1) ?_;refine W ?_;refine bU (.agg [vi 1,vu 9,vu 0,.v (.string ⟨#[]⟩)]) ?_;obtain ⟨⟨r6,r7⟩,h5,hm⟩:=bnd hm;refine cq (aA9 h5) ?_;refine W ?_;refine bU (.agg [vi 1,vu 7,vu 0,.v (.string ⟨#[]⟩)]) ?_;obtain ⟨⟨r9,r10⟩,h8,hm⟩:=bnd hm;refine cq (aA9 h8) ?_;refine W ?_;refine bU (.agg [vi 3,vu 7,vu 9,.v (.string ⟨#[]⟩)]) ?_;obtain ⟨⟨r12,r13⟩,h11,hm⟩:=bnd hm;refine cq (aA9 h11) ?_;refine W ?_;refine bU (.agg [vi 11,vu 9,vu 0,.v (.string ⟨#[]⟩)]) ?_;obtain ⟨⟨r15,r16⟩,h14,hm⟩:=bnd hm;refine cq (aA9 h14) ?_;refine W ?_;refine bU (.agg [vi 2,vu 9,vu 0,.v (.string ⟨#[]⟩)]) ?_;obtain ⟨⟨r18,r19⟩,h17,hm⟩:=bnd hm;refine cq (aA9 h17) ?_;refine W ?_;refine bU (.agg [vi 5,vu 9,vu 8,.v (.string ⟨#[]⟩)]) ?_;obtain ⟨⟨r21,r22⟩,h20,hm⟩:=bnd hm;refine cq (aA9 h20) ?_;refine W ?_;refine bU (.agg [vi 0,vu 0,vu 0,.v (.string ⟨#[]⟩)]) ?_;obtain ⟨⟨r24,r25⟩,h23,hm⟩:=bnd hm;refine cq (aA9 h23) ?_;refine W ?_;obtain ⟨⟨r27,r28⟩,h26,hm⟩:=bnd hm;refine aI.pop Zd (aXj Z1 (GA.data _)) (bO3 underlying24 bWt cCr Z1 h26) rfl ?_;obtain ⟨b30,h29,hm⟩:=bnd hm
 iterate 17 refine S1 ?_
 refine aI.popG Zd rfl Z2 (fun hb=>(aLw (Zh hb) (Zh hb) (GA.data _) (.ifc _ _ (.v _)))) (fun hb=>(aEb underlying20 underlying36 aZu (by kernel_rfl) (Zh hb) (Zh hb) (bK h29 hb))) rfl ?_;obtain ⟨b32,h31,hm⟩:=bnd hm
 iterate 4 refine S1 ?_
 refine aI.popG Zd rfl Z2 (fun hb=>(aLw (Zh hb) (Zh hb) (GA.data _) (.ifc _ _ (.v _)))) (fun hb=>(aEb underlying20 underlying36 aZu (by kernel_rfl) (Zh hb) (Zh hb) (bK h31 hb))) rfl ?_;obtain ⟨b34,h33,hm⟩:=bnd hm
 iterate 4 refine S1 ?_
 refine aI.popG Zd rfl Z2 (fun hb=>(aLw (Zh hb) (Zh hb) (GA.data _) (.ifc _ _ (.v _)))) (fun hb=>(aEb underlying20 underlying36 aZu (by kernel_rfl) (Zh hb) (Zh hb) (bK h33 hb))) rfl ?_;refine W ?_;refine bRy hm (fun h35 hm=>?_) (fun h35 hm=>?_)
 ·
  refine aI.heapG Zd rfl (by simp only [go_sem,Nat.reduceBEq,h35];try with_reducible rfl) (id:=667) rfl (qN (CFi .u64) (l:=[7,9]) underlying24 fD bKs Z5 Zd Zd Zd (by simp only [go_sem,Nat.reduceBEq,h35];try rfl) (by kernel_rfl)) ?_;obtain ⟨r37,h36,hm⟩:=bnd hm;refine aI.callBG (r:= .v (.bool r37)) Zd rfl (by simp only [go_sem,Nat.reduceBEq,h35];try with_reducible rfl) (by try simp only [go_sem,Nat.reduceBEq,h35];try rfl) cD9 (fun hb=>(.cons (ltd fun H=>(td (by try simp only [go_sem,Nat.reduceBEq,h35];try rfl) ((CFi .u64).sl _ _ _))) (.cons (lto (CFi .u64) (by try simp only [go_sem,Nat.reduceBEq,h35];try rfl) Z3 Z6) aRj.nil))) bSz (fun hb=>aQ1 h36) ?_
  iterate 4 (first|refine pu rfl (by simp only [go_sem,Nat.reduceBEq,h35];try with_reducible rfl) ?_|refine pg rfl rfl (by simp only [go_sem,Nat.reduceBEq,h35];try with_reducible rfl) (by intro hb;simp only [go_sem,Nat.reduceBEq,h35,hb,Bool.true_and];try with_reducible rfl) ?_)
  obtain ⟨b39,h38,hm⟩:=bnd hm;refine aI.popG Zd rfl (by simp only [go_sem,Nat.reduceBEq,h35];try with_reducible rfl) (fun hb=>(aLw (by try simp only [go_sem,Nat.reduceBEq,h35,hb,Bool.true_and];try rfl) (by try simp only [go_sem,Nat.reduceBEq,h35,hb,Bool.true_and];try rfl) (GA.data _) (.ifc _ _ (.v _)))) (fun hb=>(aEb underlying20 underlying36 aZu (by kernel_rfl) (by try simp only [go_sem,Nat.reduceBEq,h35,hb,Bool.true_and];try rfl) (by try simp only [go_sem,Nat.reduceBEq,h35,hb,Bool.true_and];try rfl) (bK h38 hb))) rfl ?_
  iterate 4 (first|refine pu rfl (by simp only [go_sem,Nat.reduceBEq,h35];try with_reducible rfl) ?_|refine pg rfl rfl (by simp only [go_sem,Nat.reduceBEq,h35];try with_reducible rfl) (by intro hb;simp only [go_sem,Nat.reduceBEq,h35,hb,Bool.true_and];try with_reducible rfl) ?_)
  obtain ⟨b41,h40,hm⟩:=bnd hm;refine aI.popG Zd rfl (by simp only [go_sem,Nat.reduceBEq,h35];try with_reducible rfl) (fun hb=>(aLw (by try simp only [go_sem,Nat.reduceBEq,h35,hb,Bool.true_and];try rfl) (by try simp only [go_sem,Nat.reduceBEq,h35,hb,Bool.true_and];try rfl) (GA.data _) (.ifc _ _ (.v _)))) (fun hb=>(aEb underlying20 underlying36 aZu (by kernel_rfl) (by try simp only [go_sem,Nat.reduceBEq,h35,hb,Bool.true_and];try rfl) (by try simp only [go_sem,Nat.reduceBEq,h35,hb,Bool.true_and];try rfl) (bK h40 hb))) rfl ?_
  iterate 4 (first|refine pu rfl (by simp only [go_sem,Nat.reduceBEq,h35];try with_reducible rfl) ?_|refine pg rfl rfl (by simp only [go_sem,Nat.reduceBEq,h35];try with_reducible rfl) (by intro hb;simp only [go_sem,Nat.reduceBEq,h35,hb,Bool.true_and];try with_reducible rfl) ?_)
  obtain ⟨b43,h42,hm⟩:=bnd hm;refine aI.popG Zd rfl (by simp only [go_sem,Nat.reduceBEq,h35];try with_reducible rfl) (fun hb=>(aLw (by try simp only [go_sem,Nat.reduceBEq,h35,hb,Bool.true_and];try rfl) (by try simp only [go_sem,Nat.reduceBEq,h35,hb,Bool.true_and];try rfl) (GA.data _) (.ifc _ _ (.v _)))) (fun hb=>(aEb underlying20 underlying36 aZu (by kernel_rfl) (by try simp only [go_sem,Nat.reduceBEq,h35,hb,Bool.true_and];try rfl) (by try simp only [go_sem,Nat.reduceBEq,h35,hb,Bool.true_and];try rfl) (bK h42 hb))) rfl ?_
  iterate 5 (first|refine pu rfl (by simp only [go_sem,Nat.reduceBEq,h35];try with_reducible rfl) ?_|refine pg rfl rfl (by simp only [go_sem,Nat.reduceBEq,h35];try with_reducible rfl) (by intro hb;simp only [go_sem,Nat.reduceBEq,h35,hb,Bool.true_and];try with_reducible rfl) ?_)
  obtain ⟨r45,h44,hm⟩:=bnd hm;refine aI.callQG (r:= .v (.int .i64 r45)) Zd rfl (by simp only [go_sem,Nat.reduceBEq,h35];try with_reducible rfl) (by try simp only [go_sem,Nat.reduceBEq,h35];try rfl) cDa (fun hb H=>(.cons (td (by try simp only [go_sem,Nat.reduceBEq,h35,hb,Bool.true_and];try rfl) (GA.data _)) .nil)) (fun hb=>aGv (bK h44 hb)) ?_
  iterate 3 (first|refine pu rfl (by simp only [go_sem,Nat.reduceBEq,h35];try with_reducible rfl) ?_|refine pg rfl rfl (by simp only [go_sem,Nat.reduceBEq,h35];try with_reducible rfl) (by intro hb;simp only [go_sem,Nat.reduceBEq,h35,hb,Bool.true_and];try with_reducible rfl) ?_)
  exact E
 refine aI.skipG Zd rfl (by simp only [go_sem,Nat.reduceBEq,h35];try with_reducible rfl) ?_;refine aI.skipG Zd rfl (by simp only [go_sem,Nat.reduceBEq,h35];try with_reducible rfl) ?_
 iterate 2 refine pu rfl (by simp only [go_sem,Nat.reduceBEq,h35];try with_reducible rfl) ?_
 refine aI.skipG Zd rfl (by simp only [go_sem,Nat.reduceBEq,h35];try with_reducible rfl) ?_;refine aI.skipG Zd rfl (by simp only [go_sem,Nat.reduceBEq,h35];try with_reducible rfl) ?_;refine aI.skipG Zd rfl (by simp only [go_sem,Nat.reduceBEq,h35];try with_reducible rfl) ?_
 iterate 2 refine pu rfl (by simp only [go_sem,Nat.reduceBEq,h35];try with_reducible rfl) ?_
 refine aI.skipG Zd rfl (by simp only [go_sem,Nat.reduceBEq,h35];try with_reducible rfl) ?_;refine aI.skipG Zd rfl (by simp only [go_sem,Nat.reduceBEq,h35];try with_reducible rfl) ?_;refine aI.skipG Zd rfl (by simp only [go_sem,Nat.reduceBEq,h35];try with_reducible rfl) ?_
 iterate 2 refine pu rfl (by simp only [go_sem,Nat.reduceBEq,h35];try with_reducible rfl) ?_
 refine aI.skipG Zd rfl (by simp only [go_sem,Nat.reduceBEq,h35];try with_reducible rfl) ?_;refine aI.skipG Zd rfl (by simp only [go_sem,Nat.reduceBEq,h35];try with_reducible rfl) ?_;refine aI.skipG Zd rfl (by simp only [go_sem,Nat.reduceBEq,h35];try with_reducible rfl) ?_
 iterate 4 refine pu rfl (by simp only [go_sem,Nat.reduceBEq,h35];try with_reducible rfl) ?_
 refine aI.skipG Zd rfl (by simp only [go_sem,Nat.reduceBEq,h35];try with_reducible rfl) ?_;refine aI.skipG Zd rfl (by simp only [go_sem,Nat.reduceBEq,h35];try with_reducible rfl) ?_;refine aI.skipG Zd rfl (by simp only [go_sem,Nat.reduceBEq,h35];try with_reducible rfl) ?_
 iterate 2 refine pu rfl (by simp only [go_sem,Nat.reduceBEq,h35];try with_reducible rfl) ?_
 exact E
instance:Ct prog 14 (K0 prog vb 14 aB5):=⟨fun hm=>aX3 hm⟩
def xP(aDz:GA):Option (Int):=
 ((bMj .i64 36 aDz).bind fun ⟨r5,r6⟩=>
 (bif r6 then
  some r5
 else
  some (-1)))
theorem aX4{aDz:GA}{r:Int}(hm:xP aDz=some r):dU prog 16 [GA.av aDz] (vi r):=by
 refine bd 12 func16 ?_;refine W ?_;obtain ⟨⟨r5,r6⟩,h4,hm⟩:=bnd hm;refine pu rfl (bL7 underlying36 aZu cCs Z1 h4) ?_;refine W ?_;refine cm hm (fun hm=>?_) fun hm=>?_
 · exact E
 exact E
instance:Ct prog 16 (K1 prog GA.av vi 16 xP):=⟨fun hm=>aX4 hm⟩
def aHq(rec1:List bR→List aR→Int→Int→Option ((List bR)))(aSo:List bR)(t6:List aR)(t7:Int)(t8:Int):Option ((List bR)):=
 (bif (decide (t8<t7)) then
  ((idx t6 t8).bind fun x2=>
  ((app aSo [(bR.mk x2.Used x2.Key)]).bind fun l4=>
  rec1 l4 t6 t7 (IntKind.i64.wrap (t8+1))))
 else
  some aSo)
def aB4:Nat→List bR→List aR→Int→Int→Option ((List bR))
 |0=>fun _ _ _ _=>none
 |n+1=>aHq (aB4 n)
def aFr(l_0:List aR):Option ((List bR)):=
 aB4 bC [] l_0 (l_0.length:Int) 0
theorem bA3{l_0:List aR}{r:(List bR)}(hm:aFr l_0=some r):dU prog 61 [vl bH l_0] (vl dV r):=by
 refine bd 18 func61 ?_;refine W ?_;refine lp (fun m s=> ∃aSo t6 t7 t8,s=⟨18,(aF (aF (aF (aF fa 3 (.own 1 0 aSo.length)) 6 (vl bH t6)) 7 (vi t7)) 8 (vi t8)),⟨(upd bQ 1 (.cells 2 (aSo.flatMap dV) 0)),64⟩⟩∧aB4 m aSo t6 t7 t8=some r) ?_ ?_
 · refine ⟨_,?_,[],l_0,(l_0.length:Int),0,rfl,hm⟩;refine St.Le.trans (aHr 3 900003 2 Z1 Z5) ?_;exact cn (fun j=>bif j==1 then 900003 else 0)
 rintro n1 s ⟨aSo,t6,t7,t8,rfl,hm⟩;refine W ?_;refine cm hm (fun hm=>?_) fun hm=>?_
 · obtain ⟨x2,h1,hm⟩:=bnd hm;refine W ?_;refine aL oW [(bR.mk x2.Used x2.Key)] ?_;obtain ⟨l4,h3,hm⟩:=bnd hm;refine W ?_;exact Lr (fun j=>bif j==1 then 195 else 0)
 exact E
instance:Ct prog 61 (K1 prog (vl bH) (vl dV) 61 aFr):=⟨fun hm=>bA3 hm⟩
def aEu(s_0:aG):Option (nD):=
 ((aFr s_0.Slots).bind fun r2=>
 some (nD.mk s_0.Graph r2))
theorem bEs:K1 prog eJ nQ 21 aEu:=fun hm=>be 9 func21 (h:=G)
instance:Ct prog 21 (K1 prog eJ nQ 21 aEu):=⟨bEs⟩
def aI8(rec1:List bR→List bR→Int→Option (Bool))(a_0:List bR)(b_1:List bR)(i_5:Int):Option (Bool):=
 (bif (decide (i_5<(a_0.length:Int))) then
  ((idx a_0 i_5).bind fun x2=>
  ((idx b_1 i_5).bind fun x4=>
  (bif (!((x2.Used==x4.Used)&&((x2.Key==x4.Key)&&true))) then
   some false
  else
   rec1 a_0 b_1 (IntKind.i64.wrap (i_5+1)))))
 else
  some true)
def aBd:Nat→List bR→List bR→Int→Option (Bool)
 |0=>fun _ _ _=>none
 |n+1=>aI8 (aBd n)
def aCy(a_0:List bR)(b_1:List bR):Option (Bool):=
 (bif ((a_0.length:Int) !=(b_1.length:Int)) then
  some false
 else
  aBd bC a_0 b_1 0)
theorem bAz{a_0:List bR}{b_1:List bR}{r:Bool}(hm:aCy a_0 b_1=some r):dU prog 88 [vl dV a_0,vl dV b_1] (vb r):=by
 refine bd 26 func88 ?_;refine W ?_;refine cm hm (fun hm=>?_) fun hm=>?_
 · exact E
 refine W ?_;refine lp (fun m s=> ∃a_0 b_1 i_5,s=⟨26,(aF (aF (aF fa 0 (vl dV a_0)) 1 (vl dV b_1)) 5 (vi i_5)),⟨bQ,64⟩⟩∧aBd m a_0 b_1 i_5=some r) L ?_;rintro n1 s ⟨a_0,b_1,i_5,rfl,hm⟩;refine W ?_;refine cm hm (fun hm=>?_) fun hm=>?_
 ·
  obtain ⟨x2,h1,hm⟩:=bnd hm;obtain ⟨x4,h3,hm⟩:=bnd hm
  iterate 2 refine S1 ?_
  refine AWp.seq' ?_
  iterate 10 refine S1 ?_
  refine aI.pop Zd (aLw Z1 Z1 (.agg _ (oW.dat x2)) (.agg _ (oW.dat x4))) (bKd (xs:=[.v (.bool x2.Used),.v (.int .u64 x2.Key)]) (ys:=[.v (.bool x4.Used),.v (.int .u64 x4.Key)]) (b:=((x2.Used==x4.Used)&&((x2.Key==x4.Key)&&true))) underlying151 (by kernel_rfl) (by kernel_rfl) Z1 Z1 (by kernel_rfl)) rfl ?_;refine W ?_;refine cm hm (fun hm=>?_) fun hm=>?_
  · exact E
  exact L
 exact E
instance:Ct prog 88 (K2 prog (vl dV) (vl dV) vb 88 aCy):=⟨fun hm=>bAz hm⟩
def aFw(a_0:nD)(b_1:nD):Option (Bool):=
 ((aD0 a_0.Graph b_1.Graph).bind fun r2=>
 ((aCy a_0.Slots b_1.Slots).bind fun r4=>
 some (r2&&r4)))
theorem bB2:K2 prog nQ nQ vb 44 aFw:=fun hm=>be 21 func44 (h:=G)
instance:Ct prog 44 (K2 prog nQ nQ vb 44 aFw):=⟨bB2⟩
def aAb(a_0:aG)(b_1:aG):Option (Bool):=
 ((aEu a_0).bind fun r2=>
 ((aEu b_1).bind fun r4=>
 ((aFw r2 r4).bind fun r6=>
 some r6)))
theorem bA4:K2 prog eJ eJ vb 17 aAb:=fun hm=>be 10 func17 (h:=G)
instance:Ct prog 17 (K2 prog eJ eJ vb 17 aAb):=⟨bA4⟩
def aIb(rec1:List Int→Int→Int→Option (Int))(l_0:List Int)(k_1:Int)(i_5:Int):Option (Int):=
 (bif (decide (i_5<(l_0.length:Int))) then
  ((idx l_0 i_5).bind fun x2=>
  (bif (x2==k_1) then
   some i_5
  else
   rec1 l_0 k_1 (IntKind.i64.wrap (i_5+1))))
 else
  some (-1))
def aDw:Nat→List Int→Int→Int→Option (Int)
 |0=>fun _ _ _=>none
 |n+1=>aIb (aDw n)
def aK0(l_0:List Int)(k_1:Int):Option (Int):=
 aDw bC l_0 k_1 0
abbrev aDx(rec1:Int→aT→List Int→Int→Option ((List Int)))(a_1:Int)(m_2:aT)(nW:List Int)(i_6:Int):Option ((List Int)):=
 rec1 a_1 m_2 nW (IntKind.i64.wrap (i_6+1))
def aId(rec1:Int→aT→List Int→Int→Option ((List Int)))(rec2:Int→aT→List Int→Int→Int→Int→Option ((List Int)))(a_1:Int)(m_2:aT)(nW:List Int)(i_6:Int)(aXk:Int)(k_9:Int):Option ((List Int)):=
 ((fG ((decide (k_9<(nW.length:Int)))==true) 0 (idx nW k_9)).bind fun x4=>
 (bif ((decide (k_9<(nW.length:Int)))&&(decide (x4<aXk))) then
  rec2 a_1 m_2 nW i_6 aXk (IntKind.i64.wrap (k_9+1))
 else
  ((slc nW 0 k_9).bind fun l6=>
  ((app [] l6).bind fun l8=>
  ((app l8 [aXk]).bind fun l10=>
  ((slc nW k_9 (nW.length:Int)).bind fun l12=>
  ((app l10 l12).bind fun l14=>
  aDx rec1 a_1 m_2 l14 i_6)))))))
def aDy(rec1:Int→aT→List Int→Int→Option ((List Int))):Nat→Int→aT→List Int→Int→Int→Int→Option ((List Int))
 |0=>fun _ _ _ _ _ _=>none
 |n+1=>aId rec1 (aDy rec1 n)
def aIc(rec1:Int→aT→List Int→Int→Option ((List Int)))(a_1:Int)(m_2:aT)(nW:List Int)(i_6:Int):Option ((List Int)):=
 (bif (decide (i_6<(m_2.Pairs.length:Int))) then
  ((idx m_2.Pairs i_6).bind fun x2=>
  (bif ((x2.x0 !=a_1)&&(x2.x1 !=a_1)) then
   aDx rec1 a_1 m_2 nW i_6
  else
   aDy rec1 bC a_1 m_2 nW i_6 (IntKind.u64.wrap ((IntKind.u64.wrap (x2.x0+x2.x1))-a_1)) 0))
 else
  some nW)
def aBf:Nat→Int→aT→List Int→Int→Option ((List Int))
 |0=>fun _ _ _ _=>none
 |n+1=>aIc (aBf n)
def aQ5(m_0:aT)(a_1:Int):Option ((List Int)):=
 aBf bC a_1 m_0 [] 0
abbrev aNe(a_0:Int)(b_1:Int)(t4:aC):Option (aC):=
 some (aC.mk a_0 b_1)
def aK2(a_0:Int)(b_1:Int):Option (aC):=
 (bif (decide (b_1<a_0)) then
  aNe b_1 a_0 (aC.mk 0 0)
 else
  aNe a_0 b_1 (aC.mk 0 0))
def aLz(rec1:List aC→aC→Int→Option (Int))(l_0:List aC)(p_3:aC)(i_5:Int):Option (Int):=
 (bif (decide (i_5<(l_0.length:Int))) then
  ((idx l_0 i_5).bind fun x2=>
  (bif (bCy x2 p_3) then
   some i_5
  else
   rec1 l_0 p_3 (IntKind.i64.wrap (i_5+1))))
 else
  some (-1))
def aIa:Nat→List aC→aC→Int→Option (Int)
 |0=>fun _ _ _=>none
 |n+1=>aLz (aIa n)
def aOs(l_0:List aC)(p_1:aC):Option (Int):=
 aIa bC l_0 p_1 0
def mV(m_0:aT)(aLr:Int)(a_2:Int)(b_3:Int):Option (aT×Int):=
 ((aK0 m_0.Keys a_2).bind fun r2=>
 (bif (aLr==1) then
  (bif (decide (0≤r2)) then
   some (m_0,4)
  else
   (bif (decide (m_0.Most≤(m_0.Keys.length:Int))) then
    some (m_0,10)
   else
    ((app [] m_0.Keys).bind fun l4=>
    ((app l4 [a_2]).bind fun l6=>
    some ((aT.mk m_0.Most l6 m_0.Pairs),0)))))
 else
  ((fG (((decide (r2<0))==false)&&((decide (2<aLr))==true)) 0 (aK0 m_0.Keys b_3)).bind fun r8=>
  (bif ((decide (r2<0))||((decide (2<aLr))&&(decide (r8<0)))) then
   some (m_0,7)
  else
   (bif (aLr==2) then
    ((aQ5 m_0 a_2).bind fun r10=>
    (bif (decide (0<(r10.length:Int))) then
     some (m_0,11)
    else
     ((slc m_0.Keys 0 r2).bind fun l12=>
     ((app [] l12).bind fun l14=>
     ((slc m_0.Keys (IntKind.i64.wrap (r2+1)) (m_0.Keys.length:Int)).bind fun l16=>
     ((app l14 l16).bind fun l18=>
     some ((aT.mk m_0.Most l18 m_0.Pairs),0)))))))
   else
    ((aK2 a_2 b_3).bind fun r20=>
    ((aOs m_0.Pairs r20).bind fun r22=>
    (bif (aLr==4) then
     (bif (decide (r22<0)) then
      some (m_0,9)
     else
      ((slc m_0.Pairs 0 r22).bind fun l24=>
      ((app [] l24).bind fun l26=>
      ((slc m_0.Pairs (IntKind.i64.wrap (r22+1)) (m_0.Pairs.length:Int)).bind fun l28=>
      ((app l26 l28).bind fun l30=>
      some ((aT.mk m_0.Most m_0.Keys l30),0))))))
    else
     (bif (a_2==b_3) then
      some (m_0,8)
     else
      (bif (decide (0≤r22)) then
       some (m_0,4)
      else
       ((app [] m_0.Pairs).bind fun l32=>
       ((app l32 [r20]).bind fun l34=>
       some ((aT.mk m_0.Most m_0.Keys l34),0)))))))))))))
attribute [local semireducible] bC
end Go.Proofs.YtkdohhmacfoolaaGreat
