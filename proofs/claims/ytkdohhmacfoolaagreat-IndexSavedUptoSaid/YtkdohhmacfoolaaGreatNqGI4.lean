/- Facts. No condition. -/
import Derived.Test.YtkdohhmacfoolaaGreatNqGI3
set_option linter.unusedVariables false
set_option linter.unusedSimpArgs false
set_option maxRecDepth 20000
set_option maxHeartbeats 4000000
namespace Go.Proofs.YtkdohhmacfoolaaGreat
open Go.Proofs.Tryz Go Go.AM
attribute [local irreducible] aZ
structure bS where
 Used:Bool
 Key:Int
deriving DecidableEq
def dV(e:bS):List AV:=[.v (.bool e.Used),.v (.int .u64 e.Key)]
theorem pF:CF dV 2:=⟨fun _=>rfl,fun a x hx=>by
 simp only [dV,List.mem_cons,List.not_mem_nil,or_false] at hx;rcases hx with rfl|rfl
 · exact (.v _)
 · exact (.v _),fun _=>rfl⟩
instance:CC dV 2:=⟨pF⟩
@[go_sem] theorem aH7(e:bS)(r:List AV):dV e++r= .v (.bool e.Used):: .v (.int .u64 e.Key)::r:=rfl
structure nF where
 Graph:aU
 Slots:List bS
deriving DecidableEq
def sA(e:nF):List AV:=[.v (.int .i64 e.Graph.Config.N),.v (.int .i64 e.Graph.Config.L),.v (.int .i64 e.Graph.Config.R),.sl (e.Graph.Hashes.flatMap dW) e.Graph.Hashes.length false,.sl (e.Graph.Edges.flatMap bE) e.Graph.Edges.length false,.sl (e.Slots.flatMap dV) e.Slots.length false]
theorem aJf:CF sA 6:=⟨fun _=>rfl,fun a x hx=>by
 simp only [sA,List.mem_cons,List.not_mem_nil,or_false] at hx;rcases hx with rfl|rfl|rfl|rfl|rfl|rfl
 · exact (.v _)
 · exact (.v _)
 · exact (.v _)
 · exact (nS.sl _ _ _)
 · exact (dU.sl _ _ _)
 · exact (pF.sl _ _ _),fun _=>rfl⟩
instance:CC sA 6:=⟨aJf⟩
abbrev nR(e:nF):AV:= .agg [.v (.int .i64 e.Graph.Config.N),vi e.Graph.Config.L,vi e.Graph.Config.R,vl dW e.Graph.Hashes,vl bE e.Graph.Edges,vl dV e.Slots]
@[go_sem] theorem aGq(e:nF)(r:List AV):sA e++r= .v (.int .i64 e.Graph.Config.N):: .v (.int .i64 e.Graph.Config.L):: .v (.int .i64 e.Graph.Config.R):: .sl (e.Graph.Hashes.flatMap dW) e.Graph.Hashes.length false:: .sl (e.Graph.Edges.flatMap bE) e.Graph.Edges.length false:: .sl (e.Slots.flatMap dV) e.Slots.length false::r:=rfl
structure aT where
 Most:Int
 Keys:List Int
 Pairs:List aC
deriving DecidableEq
def aJo(e:aT):List AV:=[.v (.int .i64 e.Most),.sl (e.Keys.flatMap (ci .u64)) e.Keys.length false,.sl (e.Pairs.flatMap bT) e.Pairs.length false]
@[go_sem] theorem aGr(e:aT)(r:List AV):aJo e++r= .v (.int .i64 e.Most):: .sl (e.Keys.flatMap (ci .u64)) e.Keys.length false:: .sl (e.Pairs.flatMap bT) e.Pairs.length false::r:=rfl
@[go_sem] theorem bFc(i o:Nat):aO prog 151 (.adr i o) 0=some (.adr i (o+0)):=by kernel_rfl
@[go_sem] theorem bFd(i o:Nat):aO prog 151 (.adr i o) 1=some (.adr i (o+1)):=by kernel_rfl
@[go_sem] theorem bJq(i o:Nat):aO prog 23 (.adr i o) 0=some (.adr i (o+0)):=by kernel_rfl
@[go_sem] theorem bJx(i o:Nat):aO prog 23 (.adr i o) 1=some (.adr i (o+1)):=by kernel_rfl
@[go_sem] theorem bK3(i o:Nat):aO prog 23 (.adr i o) 2=some (.adr i (o+2)):=by kernel_rfl
@[go_sem] theorem bKa(i o:Nat):aO prog 30 (.adr i o) 0=some (.adr i (o+0)):=by kernel_rfl
@[go_sem] theorem bKe(i o:Nat):aO prog 30 (.adr i o) 1=some (.adr i (o+3)):=by kernel_rfl
@[go_sem] theorem bKk(i o:Nat):aO prog 30 (.adr i o) 2=some (.adr i (o+4)):=by kernel_rfl
@[go_sem] theorem bKn(i o:Nat):aO prog 33 (.adr i o) 0=some (.adr i (o+0)):=by kernel_rfl
@[go_sem] theorem bKs(i o:Nat):aO prog 33 (.adr i o) 1=some (.adr i (o+5)):=by kernel_rfl
@[go_sem] theorem bKw(i o:Nat):aO prog 35 (.adr i o) 1=some (.adr i (o+1)):=by kernel_rfl
@[go_sem] theorem bKy(i o:Nat):aO prog 42 (.adr i o) 0=some (.adr i (o+0)):=by kernel_rfl
@[go_sem] theorem bKz(i o:Nat):aO prog 42 (.adr i o) 1=some (.adr i (o+1)):=by kernel_rfl
@[go_sem] theorem bL1(i o:Nat):aO prog 42 (.adr i o) 2=some (.adr i (o+2)):=by kernel_rfl
@[go_sem] theorem bL2(i o:Nat):aO prog 45 (.adr i o) 0=some (.adr i (o+0)):=by kernel_rfl
@[go_sem] theorem bL4(i o:Nat):aO prog 45 (.adr i o) 1=some (.adr i (o+1)):=by kernel_rfl
@[go_sem] theorem bL6(i o:Nat):aO prog 45 (.adr i o) 2=some (.adr i (o+2)):=by kernel_rfl
@[go_sem] theorem bL9(i o:Nat):aO prog 45 (.adr i o) 3=some (.adr i (o+3)):=by kernel_rfl
@[go_sem] theorem bLa(i o:Nat):aO prog 56 (.adr i o) 0=some (.adr i (o+0)):=by kernel_rfl
@[go_sem] theorem bLb(i o:Nat):aO prog 56 (.adr i o) 1=some (.adr i (o+5)):=by kernel_rfl
theorem bLg(i o:Nat)(k:IntKind):oC prog 69 (.adr i o) (.v (.int k 0))=some (.adr i o):=by kernel_rfl
theorem bLj(i o:Nat)(k:IntKind):oC prog 69 (.adr i o) (.v (.int k 1))=some (.adr i (o+1)):=by kernel_rfl
attribute [go_sem] bLg bLj
@[go_sem] theorem bOi(H:aM)(x0 x1 x2:AV)(xs:List AV):cZ prog H 102 (.ptr (x0::x1::x2::xs))=some (.agg [x0,x1,x2]):=by kernel_rfl
@[go_sem] theorem bOl(H:aM)(x0 x1:AV)(xs:List AV):cZ prog H 104 (.ptr (x0::x1::xs))=some (.agg [x0,x1]):=by kernel_rfl
@[go_sem] theorem bOs(H:aM)(x0:AV)(xs:List AV):cZ prog H 130 (.ptr (x0::xs))=some (.agg [x0]):=by kernel_rfl
@[go_sem] theorem bOt(H:aM)(x0 x1:AV)(xs:List AV):cZ prog H 151 (.ptr (x0::x1::xs))=some (.agg [x0,x1]):=by kernel_rfl
@[go_sem] theorem bRh(H:aM)(x0 x1 x2:AV)(xs:List AV):cZ prog H 23 (.ptr (x0::x1::x2::xs))=some (.agg [x0,x1,x2]):=by kernel_rfl
@[go_sem] theorem bRl(H:aM)(x:AV)(xs:List AV):cZ prog H 24 (.ptr (x::xs))=some x:=by kernel_rfl
@[go_sem] theorem bRq(H:aM)(x:AV)(xs:List AV):cZ prog H 27 (.ptr (x::xs))=some x:=by kernel_rfl
@[go_sem] theorem bRw(H:aM)(x:AV)(xs:List AV):cZ prog H 28 (.ptr (x::xs))=some x:=by kernel_rfl
@[go_sem] theorem bVo(H:aM)(x:AV)(xs:List AV):cZ prog H 3 (.ptr (x::xs))=some x:=by kernel_rfl
@[go_sem] theorem bS2(H:aM)(x0 x1 x2 x3 x4:AV)(xs:List AV):cZ prog H 30 (.ptr (x0::x1::x2::x3::x4::xs))=some (.agg [x0,x1,x2,x3,x4]):=by kernel_rfl
@[go_sem] theorem bS7(H:aM)(x:AV)(xs:List AV):cZ prog H 31 (.ptr (x::xs))=some x:=by kernel_rfl
@[go_sem] theorem bSb(H:aM)(x0 x1 x2 x3 x4 x5:AV)(xs:List AV):cZ prog H 33 (.ptr (x0::x1::x2::x3::x4::x5::xs))=some (.agg [x0,x1,x2,x3,x4,x5]):=by kernel_rfl
@[go_sem] theorem bVv(H:aM)(x:AV)(xs:List AV):cZ prog H 4 (.ptr (x::xs))=some x:=by kernel_rfl
@[go_sem] theorem bSf(H:aM)(x:AV)(xs:List AV):cZ prog H 40 (.ptr (x::xs))=some x:=by kernel_rfl
@[go_sem] theorem bSg(H:aM)(x0 x1 x2:AV)(xs:List AV):cZ prog H 42 (.ptr (x0::x1::x2::xs))=some (.agg [x0,x1,x2]):=by kernel_rfl
@[go_sem] theorem bSn(H:aM)(x:AV)(xs:List AV):cZ prog H 43 (.ptr (x::xs))=some x:=by kernel_rfl
@[go_sem] theorem bSq(H:aM)(x0 x1 x2 x3:AV)(xs:List AV):cZ prog H 45 (.ptr (x0::x1::x2::x3::xs))=some (.agg [x0,x1,x2,x3]):=by kernel_rfl
@[go_sem] theorem bSs(H:aM)(x:AV)(xs:List AV):cZ prog H 54 (.ptr (x::xs))=some x:=by kernel_rfl
@[go_sem] theorem bSt(H:aM)(x0 x1 x2 x3 x4 x5:AV)(xs:List AV):cZ prog H 56 (.ptr (x0::x1::x2::x3::x4::x5::xs))=some (.agg [x0,x1,x2,x3,x4,x5]):=by kernel_rfl
@[go_sem] theorem bSx(H:aM)(x0 x1:AV)(xs:List AV):cZ prog H 69 (.ptr (x0::x1::xs))=some (.agg [x0,x1]):=by kernel_rfl
@[go_sem] theorem bVx(H:aM)(x:AV)(xs:List AV):cZ prog H 9 (.ptr (x::xs))=some x:=by kernel_rfl
@[go_sem] theorem bJ8(H:aM)(k:IntKind)(n:Int):rX prog H 3 43 (.v (.int k n))=some (.v (.int .u64 (IntKind.u64.wrap n))):=mH underlying3 underlying43
@[go_sem] theorem bNg(H:aM)(k:IntKind)(n:Int):rX prog H 5 3 (.v (.int k n))=some (.v (.int .i64 (IntKind.i64.wrap n))):=mH underlying5 underlying3
@[go_sem] theorem bJd(H:aM)(k:IntKind)(n:Int):rX prog H 5 43 (.v (.int k n))=some (.v (.int .u64 (IntKind.u64.wrap n))):=mH underlying5 underlying43
@[go_sem] theorem bJa(H:aM)(k:IntKind)(n:Int):rX prog H 43 3 (.v (.int k n))=some (.v (.int .i64 (IntKind.i64.wrap n))):=mH underlying43 underlying3
def zV(l_0:List aR)(nX:Int):Option ((List aR)×Int):=
 ((sK l_0).bind fun ⟨r2,r3⟩=>
 (bif (!r3) then
  some (l_0,1)
 else
  ((aAe r2 nX).bind fun ⟨r5,r6⟩=>
  (bif (!r6) then
   some (l_0,7)
  else
   ((oI l_0).bind fun r8=>
   ((idx r8 r5).bind fun x10=>
   ((stt r8 r5 (aR.mk false 0)).bind fun l12=>
   some (l12,0))))))))
theorem aVj{l_0:List aR}{nX:Int}{r:(List aR)×Int}(hm:zV l_0 nX=some r):dT prog 84 [vl bH l_0,vu nX] (.tup [vl bH r.1,vi r.2]):=by
 refine bd 35 func84 ?_;refine W ?_;obtain ⟨⟨r2,r3⟩,h1,hm⟩:=bnd hm;refine cq (aJ9 h1) ?_;refine W ?_;refine cm hm (fun hm=>?_) fun hm=>?_
 · exact E
 refine W ?_;obtain ⟨⟨r5,r6⟩,h4,hm⟩:=bnd hm;refine cq (aPf h4) ?_;refine W ?_;refine cm hm (fun hm=>?_) fun hm=>?_
 · exact E
 obtain ⟨r8,h7,hm⟩:=bnd hm;refine W ?_;refine aI.callF (id:=321) Zd Z1 bTx (fun H=>(cD (eZ.sl _ _ _) .nil)) eZ Z5 (aGh h7) ?_;refine W ?_;refine bU (.agg [vb false,vu 0]) ?_;obtain ⟨x10,h9,hm⟩:=bnd hm;obtain ⟨l12,h11,hm⟩:=bnd hm;refine W ?_;have qh11:=cY h11;refine aS h11 ?_;exact E
instance:Ct prog 84 (K2 prog (vl bH) vu (t2 (vl bH) vi) 84 zV):=⟨fun hm=>aVj hm⟩
def bGg(rec1:ByteArray→Int→Int→Int→Option (Int))(b_0:ByteArray)(aC2:Int)(n_7:Int)(i_8:Int):Option (Int):=
 (bif (decide (0≤i_8)) then
  ((aTw b_0 (IntKind.i64.wrap (aC2+i_8))).bind fun b2=>
  rec1 b_0 aC2 (bor .u64 (shl .u64 n_7 8) (IntKind.u64.wrap b2)) (IntKind.i64.wrap (i_8-1)))
 else
  some n_7)
def aFj:Nat→ByteArray→Int→Int→Int→Option (Int)
 |0=>fun _ _ _ _=>none
 |n+1=>bGg (aFj n)
def lU(b_0:ByteArray)(aC2:Int)(aS3:Int):Option (Int):=
 aFj aZ b_0 aC2 0 (IntKind.i64.wrap (aS3-1))
theorem vK{b_0:ByteArray}{aC2:Int}{aS3:Int}{r:Int}(hm:lU b_0 aC2 aS3=some r):dT prog 142 [.v (.string b_0),vi aC2,vi aS3] (vu r):=by
 refine bd 25 func142 ?_;refine W ?_;refine lp (fun m s=> ∃b_0 aC2 n_7 i_8,s=⟨25,(aG (aG (aG (aG fa 0 (.v (.string b_0))) 1 (vi aC2)) 7 (vu n_7)) 8 (vi i_8)),⟨bR,64⟩⟩∧aFj m b_0 aC2 n_7 i_8=some r) L ?_;rintro n1 s ⟨b_0,aC2,n_7,i_8,rfl,hm⟩;refine W ?_;refine cm hm (fun hm=>?_) fun hm=>?_
 · obtain ⟨b2,h1,hm⟩:=bnd hm;exact L
 exact E
instance:Ct prog 142 (K3 prog vs vi vi vu 142 lU):=⟨fun hm=>vK hm⟩
def zN(rec3:ByteArray→aF→aF→Int→Int→Int→Option (aF×Bool))(b_0:ByteArray)(t2:aF)(s_4:aF)(xM:Int)(t127:Int)(t128:Int):Option (aF×Bool):=
 (bif (decide (t128<t127)) then
  ((lU b_0 xM 2).bind fun r22=>
  ((lU b_0 (IntKind.i64.wrap (xM+2)) 2).bind fun r24=>
  ((aTw b_0 (IntKind.i64.wrap (xM+4))).bind fun b26=>
  ((app s_4.Graph.Edges [(aH.mk (IntKind.i64.wrap r22) (IntKind.i64.wrap r24) (IntKind.i64.wrap b26))]).bind fun l28=>
  rec3 b_0 (aF.mk (aU.mk t2.Graph.Config [] []) []) (aF.mk (aU.mk s_4.Graph.Config s_4.Graph.Hashes l28) s_4.Slots) (IntKind.i64.wrap (xM+5)) t127 (IntKind.i64.wrap (t128+1))))))
 else
  some ((aF.mk (aU.mk s_4.Graph.Config s_4.Graph.Hashes s_4.Graph.Edges) s_4.Slots),true))
def vN:Nat→ByteArray→aF→aF→Int→Int→Int→Option (aF×Bool)
 |0=>fun _ _ _ _ _ _=>none
 |n+1=>zN (vN n)
def zM(rec2:ByteArray→aF→aF→Int→Int→Int→Int→Option (aF×Bool))(b_0:ByteArray)(t2:aF)(s_4:aF)(uF:Int)(xM:Int)(t104:Int)(t105:Int):Option (aF×Bool):=
 (bif (decide (t105<t104)) then
  ((aTw b_0 xM).bind fun b16=>
  ((lU b_0 (IntKind.i64.wrap (xM+1)) 8).bind fun r18=>
  ((app s_4.Slots [(aR.mk (b16==1) r18)]).bind fun l20=>
  rec2 b_0 (aF.mk (aU.mk t2.Graph.Config [] []) []) (aF.mk (aU.mk s_4.Graph.Config s_4.Graph.Hashes []) l20) uF (IntKind.i64.wrap (xM+9)) t104 (IntKind.i64.wrap (t105+1)))))
 else
  vN aZ b_0 (aF.mk (aU.mk t2.Graph.Config [] []) []) (aF.mk (aU.mk s_4.Graph.Config s_4.Graph.Hashes []) s_4.Slots) (IntKind.i64.wrap (xM+4)) (IntKind.i64.wrap (Int.tdiv uF 5)) 0)
def vM:Nat→ByteArray→aF→aF→Int→Int→Int→Int→Option (aF×Bool)
 |0=>fun _ _ _ _ _ _ _=>none
 |n+1=>zM (vM n)
def zL(rec1:ByteArray→aF→aF→bZ→Int→Int→Int→Int→Option (aF×Bool))(b_0:ByteArray)(t2:aF)(s_4:aF)(c_5:bZ)(uF:Int)(xM:Int)(t82:Int)(t83:Int):Option (aF×Bool):=
 (bif (decide (t83<t82)) then
  ((lU b_0 xM 8).bind fun r10=>
  ((lU b_0 (IntKind.i64.wrap (xM+8)) 8).bind fun r12=>
  ((app s_4.Graph.Hashes [(dI.mk r10 r12)]).bind fun l14=>
  rec1 b_0 (aF.mk (aU.mk t2.Graph.Config [] []) []) (aF.mk (aU.mk s_4.Graph.Config l14 []) []) c_5 uF (IntKind.i64.wrap (xM+16)) t82 (IntKind.i64.wrap (t83+1)))))
 else
  vM aZ b_0 (aF.mk (aU.mk t2.Graph.Config [] []) []) (aF.mk (aU.mk s_4.Graph.Config s_4.Graph.Hashes []) []) uF xM c_5.N 0)
def vL:Nat→ByteArray→aF→aF→bZ→Int→Int→Int→Int→Option (aF×Bool)
 |0=>fun _ _ _ _ _ _ _ _=>none
 |n+1=>zL (vL n)
def sI(b_0:ByteArray):Option (aF×Bool):=
 (bif (decide ((b_0.size:Int)<10)) then
  some ((aF.mk (aU.mk (bZ.mk 0 0 0) [] []) []),false)
 else
  ((lU b_0 4 2).bind fun r2=>
  ((lU b_0 6 2).bind fun r4=>
  ((lU b_0 8 2).bind fun r6=>
  (bif (((decide (1024<(IntKind.i64.wrap r2)))||(decide (16<(IntKind.i64.wrap r4))))||(decide (8<(IntKind.i64.wrap r6)))) then
   some ((aF.mk (aU.mk (bZ.mk 0 0 0) [] []) []),false)
  else
   (bif (decide ((b_0.size:Int)<(IntKind.i64.wrap ((IntKind.i64.wrap ((IntKind.i64.wrap ((IntKind.i64.wrap (10+(IntKind.i64.wrap ((IntKind.i64.wrap ((IntKind.i64.wrap r4)*(IntKind.i64.wrap r6)))*16))))+(IntKind.i64.wrap ((IntKind.i64.wrap r2)*9))))+4))+8)))) then
    some ((aF.mk (aU.mk (bZ.mk 0 0 0) [] []) []),false)
   else
    ((dX (((Int.tmod (IntKind.i64.wrap ((IntKind.i64.wrap ((b_0.size:Int)-(IntKind.i64.wrap ((IntKind.i64.wrap ((IntKind.i64.wrap (10+(IntKind.i64.wrap ((IntKind.i64.wrap ((IntKind.i64.wrap r4)*(IntKind.i64.wrap r6)))*16))))+(IntKind.i64.wrap ((IntKind.i64.wrap r2)*9))))+4))))-8)) 5) !=0)==false) 0 (lU b_0 (IntKind.i64.wrap ((IntKind.i64.wrap ((IntKind.i64.wrap ((IntKind.i64.wrap (10+(IntKind.i64.wrap ((IntKind.i64.wrap ((IntKind.i64.wrap r4)*(IntKind.i64.wrap r6)))*16))))+(IntKind.i64.wrap ((IntKind.i64.wrap r2)*9))))+4))-4)) 4)).bind fun r8=>
    (bif (((Int.tmod (IntKind.i64.wrap ((IntKind.i64.wrap ((b_0.size:Int)-(IntKind.i64.wrap ((IntKind.i64.wrap ((IntKind.i64.wrap (10+(IntKind.i64.wrap ((IntKind.i64.wrap ((IntKind.i64.wrap r4)*(IntKind.i64.wrap r6)))*16))))+(IntKind.i64.wrap ((IntKind.i64.wrap r2)*9))))+4))))-8)) 5) !=0)||(r8 !=(IntKind.u64.wrap (IntKind.i64.wrap (Int.tdiv (IntKind.i64.wrap ((IntKind.i64.wrap ((b_0.size:Int)-(IntKind.i64.wrap ((IntKind.i64.wrap ((IntKind.i64.wrap (10+(IntKind.i64.wrap ((IntKind.i64.wrap ((IntKind.i64.wrap r4)*(IntKind.i64.wrap r6)))*16))))+(IntKind.i64.wrap ((IntKind.i64.wrap r2)*9))))+4))))-8)) 5))))) then
     some ((aF.mk (aU.mk (bZ.mk 0 0 0) [] []) []),false)
    else
     vL aZ b_0 (aF.mk (aU.mk (bZ.mk 0 0 0) [] []) []) (aF.mk (aU.mk (bZ.mk (IntKind.i64.wrap r2) (IntKind.i64.wrap r4) (IntKind.i64.wrap r6)) [] []) []) (bZ.mk (IntKind.i64.wrap r2) (IntKind.i64.wrap r4) (IntKind.i64.wrap r6)) (IntKind.i64.wrap ((IntKind.i64.wrap ((b_0.size:Int)-(IntKind.i64.wrap ((IntKind.i64.wrap ((IntKind.i64.wrap (10+(IntKind.i64.wrap ((IntKind.i64.wrap ((IntKind.i64.wrap r4)*(IntKind.i64.wrap r6)))*16))))+(IntKind.i64.wrap ((IntKind.i64.wrap r2)*9))))+4))))-8)) 10 (IntKind.i64.wrap ((IntKind.i64.wrap r4)*(IntKind.i64.wrap r6))) 0))))))))
theorem aOn{b_0:ByteArray}{r:aF×Bool}(hm:sI b_0=some r):dT prog 119 [.v (.string b_0)] (.tup [.agg [.v (.int .i64 r.1.Graph.Config.N),.v (.int .i64 r.1.Graph.Config.L),.v (.int .i64 r.1.Graph.Config.R),.sl (r.1.Graph.Hashes.flatMap dW) r.1.Graph.Hashes.length false,.sl (r.1.Graph.Edges.flatMap bE) r.1.Graph.Edges.length false,.sl (r.1.Slots.flatMap bH) r.1.Slots.length false],.v (.bool r.2)]):=by
 refine dT.of_body func119 rfl ?_;simp only [ntmps119,List.length_cons,List.length_nil,Nat.reduceAdd,Nat.reduceSub,nD];unfold sI at hm;refine sr (N':=64) rfl ?_;refine hp (id:=0) rfl rfl (qV bWs Z5) ?_;refine pA ?_;refine fs ?_;refine sr (N':=128) rfl ?_;refine hp (id:=64) rfl rfl (qV bWs Z5) ?_;refine fs ?_;refine AWp.seq' ?_;refine sr (N':=192) rfl ?_
 iterate 3 refine pA ?_
 refine fs ?_;refine AWp.condM hm Z1 (fun _ hm=>?_) (fun _ hm=>?_)
 · refine sr (N':=256) rfl ?_;refine pu rfl (lG Z1 Z3 Z2) ?_;refine aI.heap0 (id:=193) rfl (rK (ys:=[.v (.int .i64 0),.v (.int .i64 0),.v (.int .i64 0),.v (.slice none 0 0),.v (.slice none 0 0),.v (.slice none 0 0)]) bM3 Z1 Z1 Z3 rfl (Nat.le_of_ble_eq_true rfl) Z9 rfl) ?_;refine pA ?_;refine fs ?_;refine AWp.ret ?_;refine lD ?_;cases hm;exact bGd (.inr rfl) (by rw [Tryz.results119]) (.cell (aHq Z1 Z3 Z2) (.tmp Z1 .nil)) rfl (tdt (.cons (tda rfl (.cons (.data _ (.v _)) (.cons (.data _ (.v _)) (.cons (.data _ (.v _)) (.cons (.nil false) (.cons (.nil false) (.cons (.nil false) .nil))))))) (.cons (td rfl (.v _)) .nil)))
 ·
  refine AWp.skip ?_;refine aV ?_;refine sr (N':=256) rfl ?_;refine pA ?_;obtain ⟨r2,h1,hm⟩:=bnd hm;refine aI.callQ (r:= .v (.int .u64 r2)) Zd Z1 aNl (fun H=>(cV (cV (cV .nil)))) (vK h1) ?_
  iterate 2 refine pA ?_
  obtain ⟨r4,h3,hm⟩:=bnd hm;refine aI.callQ (r:= .v (.int .u64 r4)) Zd Z1 aNl (fun H=>(cV (cV (cV .nil)))) (vK h3) ?_
  iterate 2 refine pA ?_
  obtain ⟨r6,h5,hm⟩:=bnd hm;refine aI.callQ (r:= .v (.int .u64 r6)) Zd Z1 aNl (fun H=>(cV (cV (cV .nil)))) (vK h5) ?_;refine pA ?_;refine pu rfl (by simp only [go_sem,Nat.reduceBEq];exact (by kernel_rfl:aC4 prog 23 [(0,.v (.int .i64 (IntKind.i64.wrap r2))),(1,.v (.int .i64 (IntKind.i64.wrap r4))),(2,.v (.int .i64 (IntKind.i64.wrap r6)))]=some (.agg [.v (.int .i64 (IntKind.i64.wrap r2)),.v (.int .i64 (IntKind.i64.wrap r4)),.v (.int .i64 (IntKind.i64.wrap r6))]))) ?_;refine hp (id:=202) rfl rfl (qV cEl Z5) ?_;refine aI.heap0 (id:=203) rfl (rK (ys:=[.v (.int .i64 (IntKind.i64.wrap r2)),.v (.int .i64 (IntKind.i64.wrap r4)),.v (.int .i64 (IntKind.i64.wrap r6))]) bWh Z1 Z1 Z3 rfl (Nat.le_of_ble_eq_true rfl) Z9 rfl) ?_;refine fs ?_;refine AWp.seq' ?_;refine sr (N':=320) rfl ?_;refine pA ?_;refine pu rfl (lG Z1 Z3 Z4) ?_
  iterate 3 first|refine pA ?_|refine pB ?_
  refine pg rfl rfl Z2 (fun hb=>(lG (Zh hb) Z3 Z4)) ?_
  iterate 4 first|refine pA ?_|refine pB ?_
  refine pg rfl rfl Z2 (fun hb=>(lG (Zh hb) Z3 Z4)) ?_
  iterate 2 first|refine pA ?_|refine pB ?_
  refine fs ?_;refine AWp.condM hm Z1 (fun _ hm=>?_) (fun _ hm=>?_)
  · refine sr (N':=384) rfl ?_;refine pu rfl (lG Z1 Z3 Z2) ?_;refine aI.heap0 (id:=321) rfl (rK (ys:=[.v (.int .i64 0),.v (.int .i64 0),.v (.int .i64 0),.v (.slice none 0 0),.v (.slice none 0 0),.v (.slice none 0 0)]) bM3 Z1 Z1 Z3 rfl (Nat.le_of_ble_eq_true rfl) Z9 rfl) ?_;refine pA ?_;refine fs ?_;refine AWp.ret ?_;refine lD ?_;cases hm;exact bGd (.inr rfl) (by rw [Tryz.results119]) (.cell (aHq Z1 Z3 Z2) (.tmp Z1 .nil)) rfl (tdt (.cons (tda rfl (.cons (.data _ (.v _)) (.cons (.data _ (.v _)) (.cons (.data _ (.v _)) (.cons (.nil false) (.cons (.nil false) (.cons (.nil false) .nil))))))) (.cons (td rfl (.v _)) .nil)))
  ·
   refine AWp.skip ?_;refine aV ?_;refine sr (N':=384) rfl ?_;refine pA ?_;refine pu rfl (lG Z1 Z3 Z4) ?_;refine pA ?_;refine pu rfl (lG Z1 Z3 Z4) ?_
   iterate 4 refine pA ?_
   refine pu rfl (lG Z1 Z3 Z4) ?_
   iterate 4 refine pA ?_
   refine fs ?_;refine AWp.seq' ?_;refine sr (N':=448) rfl ?_
   iterate 5 refine pA ?_
   refine fs ?_;refine AWp.condM hm Z1 (fun _ hm=>?_) (fun _ hm=>?_)
   · refine sr (N':=512) rfl ?_;refine pu rfl (lG Z1 Z3 Z2) ?_;refine aI.heap0 (id:=449) rfl (rK (ys:=[.v (.int .i64 0),.v (.int .i64 0),.v (.int .i64 0),.v (.slice none 0 0),.v (.slice none 0 0),.v (.slice none 0 0)]) bM3 Z1 Z1 Z3 rfl (Nat.le_of_ble_eq_true rfl) Z9 rfl) ?_;refine pA ?_;refine fs ?_;refine AWp.ret ?_;refine lD ?_;cases hm;exact bGd (.inr rfl) (by rw [Tryz.results119]) (.cell (aHq Z1 Z3 Z2) (.tmp Z1 .nil)) rfl (tdt (.cons (tda rfl (.cons (.data _ (.v _)) (.cons (.data _ (.v _)) (.cons (.data _ (.v _)) (.cons (.nil false) (.cons (.nil false) (.cons (.nil false) .nil))))))) (.cons (td rfl (.v _)) .nil)))
   ·
    refine AWp.skip ?_;refine aV ?_;refine sr (N':=512) rfl ?_
    iterate 6 refine pA ?_
    refine fs ?_;refine AWp.seq' ?_;refine sr (N':=576) rfl ?_
    iterate 7 (first|refine pu rfl Zj ?_|refine pg rfl rfl Zj (by intro hb;simp only [go_sem,Nat.reduceBEq,Int.reduceEq,Int.reduceLE,hb,Bool.true_and];try with_reducible rfl) ?_)
    obtain ⟨r8,h7,hm⟩:=bnd hm;refine aI.callQG (r:= .v (.int .u64 r8)) Zd rfl Z2 Z1 aNl (fun hb H=>(.cons (td (Zh hb) (.v _)) (.cons (td (Zh hb) (.v _)) (.cons (td (Zh hb) (.v _)) .nil)))) (fun hb=>vK (bI h7 hb)) ?_
    iterate 5 (first|refine pu rfl Zj ?_|refine pg rfl rfl Zj (by intro hb;simp only [go_sem,Nat.reduceBEq,Int.reduceEq,Int.reduceLE,hb,Bool.true_and];try with_reducible rfl) ?_)
    refine fs ?_;refine AWp.condM hm Z1 (fun _ hm=>?_) (fun _ hm=>?_)
    · refine sr (N':=640) rfl ?_;refine pu rfl (lG Z1 Z3 Z2) ?_;refine aI.heap0 (id:=577) rfl (rK (ys:=[.v (.int .i64 0),.v (.int .i64 0),.v (.int .i64 0),.v (.slice none 0 0),.v (.slice none 0 0),.v (.slice none 0 0)]) bM3 Z1 Z1 Z3 rfl (Nat.le_of_ble_eq_true rfl) Z9 rfl) ?_;refine pA ?_;refine fs ?_;refine AWp.ret ?_;refine lD ?_;cases hm;exact bGd (.inr rfl) (by rw [Tryz.results119]) (.cell (aHq Z1 Z3 Z2) (.tmp Z1 .nil)) rfl (tdt (.cons (tda rfl (.cons (.data _ (.v _)) (.cons (.data _ (.v _)) (.cons (.data _ (.v _)) (.cons (.nil false) (.cons (.nil false) (.cons (.nil false) .nil))))))) (.cons (td rfl (.v _)) .nil)))
    ·
     refine AWp.skip ?_;refine aV ?_;refine sr (N':=640) rfl ?_;refine pu rfl (lG Z1 Z3 Z2) ?_
     iterate 2 refine pA ?_
     refine aI.heap0 (id:=579) rfl (rK (ys:=[.v (.int .i64 (IntKind.i64.wrap r2)),.v (.int .i64 (IntKind.i64.wrap r4)),.v (.int .i64 (IntKind.i64.wrap r6)),.v (.slice none 0 0),.v (.slice none 0 0),.v (.slice none 0 0)]) bWh Z1 Z1 Z3 rfl (Nat.le_of_ble_eq_true rfl) Z9 rfl) ?_;refine fs ?_;refine sr (N':=704) rfl ?_;refine pA ?_;refine fs ?_;refine AWp.seq' ?_;refine sr (N':=768) rfl ?_;refine pA ?_;refine pu rfl (lG Z1 Z3 Z4) ?_;refine pA ?_;refine pu rfl (lG Z1 Z3 Z4) ?_
     iterate 2 refine pA ?_
     refine fs ?_;refine AWp.block ?_;refine AWp.loopM (fun m s=> ∃(b_0:ByteArray) (t2:aF) (s_4:aF) (c_5:bZ) (uF:Int) (xM:Int) (t82:Int) (t83:Int),s=(⟨157,(aG (aG (aG (aG (aG (aG (aG (aG (fun _=>AV.any) 0 (.v (.string b_0))) 2 (.adr 1 0)) 4 (.adr 2 0)) 5 (.adr 4 0)) 7 (.v (.int .i64 uF))) 8 (.v (.int .i64 xM))) 82 (.v (.int .i64 t82))) 83 (.v (.int .i64 t83))),⟨(upd (upd (upd (upd bR 1 (.cells 1 [.v (.int .i64 t2.Graph.Config.N),.v (.int .i64 t2.Graph.Config.L),.v (.int .i64 t2.Graph.Config.R),.v (.slice none 0 0),.v (.slice none 0 0),.v (.slice none 0 0)] 0)) 2 (.cells 1 [.v (.int .i64 s_4.Graph.Config.N),.v (.int .i64 s_4.Graph.Config.L),.v (.int .i64 s_4.Graph.Config.R),.own 3 0 s_4.Graph.Hashes.length,.v (.slice none 0 0),.v (.slice none 0 0)] 0)) 3 (.cells 2 (s_4.Graph.Hashes.flatMap dW) 0)) 4 (.cells 1 [.v (.int .i64 c_5.N),.v (.int .i64 c_5.L),.v (.int .i64 c_5.R)] 0)),64⟩⟩:St)∧vL m b_0 t2 s_4 c_5 uF xM t82 t83=some r) aZ ?_ ?_ ?_
     · rintro s ⟨_,_,_,_,_,_,_,_,_,h⟩;cases h
     · refine ⟨_,?_,b_0,(aF.mk (aU.mk (bZ.mk 0 0 0) [] []) []),(aF.mk (aU.mk (bZ.mk (IntKind.i64.wrap r2) (IntKind.i64.wrap r4) (IntKind.i64.wrap r6)) [] []) []),(bZ.mk (IntKind.i64.wrap r2) (IntKind.i64.wrap r4) (IntKind.i64.wrap r6)),(IntKind.i64.wrap ((IntKind.i64.wrap ((b_0.size:Int)-(IntKind.i64.wrap ((IntKind.i64.wrap ((IntKind.i64.wrap (10+(IntKind.i64.wrap ((IntKind.i64.wrap ((IntKind.i64.wrap r4)*(IntKind.i64.wrap r6)))*16))))+(IntKind.i64.wrap ((IntKind.i64.wrap r2)*9))))+4))))-8)),10,(IntKind.i64.wrap ((IntKind.i64.wrap r4)*(IntKind.i64.wrap r6))),0,rfl,hm⟩;refine St.Le.trans (aY5 64 3 910400 2 (ys:=[.v (.int .i64 (IntKind.i64.wrap r2)),.v (.int .i64 (IntKind.i64.wrap r4)),.v (.int .i64 (IntKind.i64.wrap r6)),.own 910400 0 0,.v (.slice none 0 0),.v (.slice none 0 0)]) Z3 (by rfl) Z5 (by rfl)) ?_;exact jL (fun j=>bif j==1 then 0 else bif j==2 then 64 else bif j==3 then 910400 else bif j==4 then 202 else 0) (wV (wV (wV (wV (dD _ _ (aAc Z1 rfl Z7) (dD _ _ (aAc Z1 rfl Z7) (dD _ _ (aAc Z1 rfl Z7) (wV mF)))))))) (lI _ (gV (sL Z3 (Nat.le_refl _) (Nat.zero_le _) (aP1.dat (bZ.mk (IntKind.i64.wrap r2) (IntKind.i64.wrap r4) (IntKind.i64.wrap r6)))) (eU nS (gV (nN Z3 rfl (.cons (.data _ (.v _)) (.cons (.data _ (.v _)) (.cons (.data _ (.v _)) (.cons (yN (by first|rfl|omega|(dsimp only;omega)) rfl Z7) (.cons (.data _ (.v _)) (.cons (.data _ (.v _)) .nil))))))) (gV (nN Z3 rfl (.cons (.data _ (.v _)) (.cons (.data _ (.v _)) (.cons (.data _ (.v _)) (.cons (.data _ (.v _)) (.cons (.data _ (.v _)) (.cons (.data _ (.v _)) .nil))))))) mT)))) Z8)
     ·
      rintro n1 s ⟨b_0,t2,s_4,c_5,uF,xM,t82,t83,rfl,hm⟩;replace hm:zL (vL n1) b_0 t2 s_4 c_5 uF xM t82 t83=some r:=hm;unfold zL at hm;refine sr (N':=128) rfl ?_;refine pA ?_;refine fs ?_;refine AWp.seq' ?_;refine AWp.condM hm Z1 (fun _ hm=>?_) (fun _ hm=>?_)
      ·
       refine AWp.skip ?_;refine aV ?_;refine AWp.seq' ?_;refine AWp.block ?_;refine sd mix (by kernel_rfl) (N':=192) rfl ?_
       iterate 2 refine pA ?_
       refine pu rfl (lG Z1 Z3 Z4) ?_
       iterate 2 refine pA ?_
       obtain ⟨r10,h9,hm⟩:=bnd hm;refine aI.callQ (r:= .v (.int .u64 r10)) Zd Z1 aNl (fun H=>(cV (cV (cV .nil)))) (vK h9) ?_
       iterate 3 refine pA ?_
       obtain ⟨r12,h11,hm⟩:=bnd hm;refine aI.callQ (r:= .v (.int .u64 r12)) Zd Z1 aNl (fun H=>(cV (cV (cV .nil)))) (vK h11) ?_;refine pu rfl (by simp only [go_sem,Nat.reduceBEq];exact (by kernel_rfl:aC4 prog 120 [(0,.v (.int .u64 r10)),(1,.v (.int .u64 r12))]=some (.agg [.v (.int .u64 r10),.v (.int .u64 r12)]))) ?_;refine hp (id:=139) rfl rfl (qU nS (l:=[(dI.mk r10 r12)]) underlying27 bCf bCx Z5 Zd Zd Zd (by simp only [go_sem,Nat.reduceBEq];try rfl) (by kernel_rfl)) ?_;obtain ⟨l14,h13,hm⟩:=bnd hm;refine hp (id:=140) rfl rfl (aEu nS underlying27 underlying27 rfl bHq bIl (by rw [aRc];decide) (by rw [aRc];decide) bIn Zd Zd Z1 Z3 Z6 (aHt nS Z1 Z3 Z6) rfl Z5 h13) ?_
       iterate 2 refine pA ?_
       refine aI.heap0 (id:=143) rfl (rK (ys:=[.v (.int .i64 s_4.Graph.Config.N),.v (.int .i64 s_4.Graph.Config.L),.v (.int .i64 s_4.Graph.Config.R),.own 140 0 l14.length,.v (.slice none 0 0),.v (.slice none 0 0)]) cDm Z1 Z1 Z3 rfl (Nat.le_of_ble_eq_true rfl) Z9 rfl) ?_;refine fs ?_;refine AWp.reg 64 (N':=256) rfl ?_
       iterate 3 refine pA ?_
       refine aI.fin ?_;refine eT ?_;refine aV ?_;refine AWp.reg 64 (N':=320) rfl ?_
       iterate 2 refine pA ?_
       refine aI.fin ?_;refine cO ?_;refine ⟨_,?_,b_0,(aF.mk (aU.mk t2.Graph.Config [] []) []),(aF.mk (aU.mk s_4.Graph.Config l14 []) []),c_5,uF,(IntKind.i64.wrap (xM+16)),t82,(IntKind.i64.wrap (t83+1)),rfl,hm⟩;exact jL (fun j=>bif j==1 then 1 else bif j==2 then 2 else bif j==3 then 140 else bif j==4 then 4 else 0) (wV (wV (wV (wV (dD _ _ (aAc Z1 rfl Z7) (dD _ _ (aAc Z1 rfl Z7) (dD _ _ (aAc Z1 rfl Z7) (wV mF)))))))) (lI _ (gV (sL Z3 (Nat.le_refl _) (Nat.zero_le _) (aP1.dat c_5)) (eU nS (gV (nN Z3 rfl (.cons (.data _ (.v _)) (.cons (.data _ (.v _)) (.cons (.data _ (.v _)) (.cons (yN (by first|rfl|omega|(dsimp only;omega)) rfl Z7) (.cons (.data _ (.v _)) (.cons (.data _ (.v _)) .nil))))))) (gV (nN Z3 rfl (.cons (.data _ (.v _)) (.cons (.data _ (.v _)) (.cons (.data _ (.v _)) (.cons (.data _ (.v _)) (.cons (.data _ (.v _)) (.cons (.data _ (.v _)) .nil))))))) mT)))) Z8)
      ·
       refine AWp.exit ?_;refine dJ ?_;refine dA ?_;refine cW ?_;refine aV ?_;refine AWp.seq' ?_;refine sr (N':=192) rfl ?_;refine pA ?_;refine pu rfl (lG Z1 Z3 Z4) ?_;refine pA ?_;refine fs ?_;refine AWp.block ?_;refine AWp.loopM (fun m s=> ∃(b_0:ByteArray) (t2:aF) (s_4:aF) (uF:Int) (xM:Int) (t104:Int) (t105:Int),s=(⟨157,(aG (aG (aG (aG (aG (aG (aG (fun _=>AV.any) 0 (.v (.string b_0))) 2 (.adr 1 0)) 4 (.adr 2 0)) 7 (.v (.int .i64 uF))) 8 (.v (.int .i64 xM))) 104 (.v (.int .i64 t104))) 105 (.v (.int .i64 t105))),⟨(upd (upd (upd (upd bR 1 (.cells 1 [.v (.int .i64 t2.Graph.Config.N),.v (.int .i64 t2.Graph.Config.L),.v (.int .i64 t2.Graph.Config.R),.v (.slice none 0 0),.v (.slice none 0 0),.v (.slice none 0 0)] 0)) 2 (.cells 1 [.v (.int .i64 s_4.Graph.Config.N),.v (.int .i64 s_4.Graph.Config.L),.v (.int .i64 s_4.Graph.Config.R),.own 3 0 s_4.Graph.Hashes.length,.v (.slice none 0 0),.own 4 0 s_4.Slots.length] 0)) 3 (.cells 2 (s_4.Graph.Hashes.flatMap dW) 0)) 4 (.cells 2 (s_4.Slots.flatMap bH) 0)),64⟩⟩:St)∧vM m b_0 t2 s_4 uF xM t104 t105=some r) aZ ?_ ?_ ?_
       · rintro s ⟨_,_,_,_,_,_,_,_,h⟩;cases h
       · refine ⟨_,?_,b_0,(aF.mk (aU.mk t2.Graph.Config [] []) []),(aF.mk (aU.mk s_4.Graph.Config s_4.Graph.Hashes []) []),uF,xM,c_5.N,0,rfl,hm⟩;refine St.Le.trans (aY5 2 5 910401 2 (ys:=[.v (.int .i64 s_4.Graph.Config.N),.v (.int .i64 s_4.Graph.Config.L),.v (.int .i64 s_4.Graph.Config.R),.own 3 0 s_4.Graph.Hashes.length,.v (.slice none 0 0),.own 910401 0 0]) Z3 (by rfl) Z5 (by rfl)) ?_;exact jL (fun j=>bif j==1 then 1 else bif j==2 then 2 else bif j==3 then 3 else bif j==4 then 910401 else 0) (wV (wV (wV (wV (dD _ _ (aAc Z1 rfl Z7) (dD _ _ (aAc Z1 rfl Z7) (wV mF))))))) (lI _ (eU eZ (eU nS (gV (nN Z3 rfl (.cons (.data _ (.v _)) (.cons (.data _ (.v _)) (.cons (.data _ (.v _)) (.cons (yN (by first|rfl|omega|(dsimp only;omega)) rfl Z7) (.cons (.data _ (.v _)) (.cons (yN (by first|rfl|omega|(dsimp only;omega)) rfl Z7) .nil))))))) (gV (nN Z3 rfl (.cons (.data _ (.v _)) (.cons (.data _ (.v _)) (.cons (.data _ (.v _)) (.cons (.data _ (.v _)) (.cons (.data _ (.v _)) (.cons (.data _ (.v _)) .nil))))))) mT)))) Z8)
       ·
        rintro n2 s ⟨b_0,t2,s_4,uF,xM,t104,t105,rfl,hm⟩;replace hm:zM (vM n2) b_0 t2 s_4 uF xM t104 t105=some r:=hm;unfold zM at hm;refine sr (N':=128) rfl ?_;refine pA ?_;refine fs ?_;refine AWp.seq' ?_;refine AWp.condM hm Z1 (fun _ hm=>?_) (fun _ hm=>?_)
        ·
         refine AWp.skip ?_;refine aV ?_;refine AWp.seq' ?_;refine AWp.block ?_;refine sd mix (by kernel_rfl) (N':=192) rfl ?_;refine pA ?_;refine pu rfl (lG Z1 Z3 Z4) ?_
         iterate 2 refine pA ?_
         obtain ⟨b16,h15,hm⟩:=bnd hm;refine pu rfl (aX8 underlying9 Z1 Z1 h15) ?_
         iterate 4 refine pA ?_
         obtain ⟨r18,h17,hm⟩:=bnd hm;refine aI.callQ (r:= .v (.int .u64 r18)) Zd Z1 aNl (fun H=>(cV (cV (cV .nil)))) (vK h17) ?_;refine pu rfl (by simp only [go_sem,Nat.reduceBEq];exact (by kernel_rfl:aC4 prog 104 [(0,.v (.bool (b16==1))),(1,.v (.int .u64 r18))]=some (.agg [.v (.bool (b16==1)),.v (.int .u64 r18)]))) ?_;refine hp (id:=139) rfl rfl (qU eZ (l:=[(aR.mk (b16==1) r18)]) underlying31 bCe bCw Z5 Zd Zd Zd (by simp only [go_sem,Nat.reduceBEq];try rfl) (by kernel_rfl)) ?_;obtain ⟨l20,h19,hm⟩:=bnd hm;refine hp (id:=140) rfl rfl (aEu eZ underlying31 underlying31 rfl bHp bIk (by rw [aRb];decide) (by rw [aRb];decide) bIm Zd Zd Z1 Z3 Z6 (aHt eZ Z1 Z3 Z6) rfl Z5 h19) ?_;refine pA ?_;refine aI.heap0 (id:=142) rfl (rK (ys:=[.v (.int .i64 s_4.Graph.Config.N),.v (.int .i64 s_4.Graph.Config.L),.v (.int .i64 s_4.Graph.Config.R),.own 3 0 s_4.Graph.Hashes.length,.v (.slice none 0 0),.own 140 0 l20.length]) cE5 Z1 Z1 Z3 rfl (Nat.le_of_ble_eq_true rfl) Z9 rfl) ?_;refine fs ?_;refine AWp.reg 64 (N':=256) rfl ?_
         iterate 3 refine pA ?_
         refine aI.fin ?_;refine eT ?_;refine aV ?_;refine AWp.reg 64 (N':=320) rfl ?_
         iterate 2 refine pA ?_
         refine aI.fin ?_;refine cO ?_;refine ⟨_,?_,b_0,(aF.mk (aU.mk t2.Graph.Config [] []) []),(aF.mk (aU.mk s_4.Graph.Config s_4.Graph.Hashes []) l20),uF,(IntKind.i64.wrap (xM+9)),t104,(IntKind.i64.wrap (t105+1)),rfl,hm⟩;exact jL (fun j=>bif j==1 then 1 else bif j==2 then 2 else bif j==3 then 3 else bif j==4 then 140 else 0) (wV (wV (wV (wV (dD _ _ (aAc Z1 rfl Z7) (dD _ _ (aAc Z1 rfl Z7) (wV mF))))))) (lI _ (eU eZ (eU nS (gV (nN Z3 rfl (.cons (.data _ (.v _)) (.cons (.data _ (.v _)) (.cons (.data _ (.v _)) (.cons (yN (by first|rfl|omega|(dsimp only;omega)) rfl Z7) (.cons (.data _ (.v _)) (.cons (yN (by first|rfl|omega|(dsimp only;omega)) rfl Z7) .nil))))))) (gV (nN Z3 rfl (.cons (.data _ (.v _)) (.cons (.data _ (.v _)) (.cons (.data _ (.v _)) (.cons (.data _ (.v _)) (.cons (.data _ (.v _)) (.cons (.data _ (.v _)) .nil))))))) mT)))) Z8)
        ·
         refine AWp.exit ?_;refine dJ ?_;refine dA ?_;refine cW ?_;refine aV ?_;refine sr (N':=192) rfl ?_
         iterate 3 refine pA ?_
         refine fs ?_;refine AWp.seq' ?_;refine sr (N':=256) rfl ?_
         iterate 3 refine pu rfl Zj ?_
         refine fs ?_;refine AWp.block ?_;refine AWp.loopM (fun m s=> ∃(b_0:ByteArray) (t2:aF) (s_4:aF) (xM:Int) (t127:Int) (t128:Int),s=(⟨157,(aG (aG (aG (aG (aG (aG (fun _=>AV.any) 0 (.v (.string b_0))) 2 (.adr 1 0)) 4 (.adr 2 0)) 8 (.v (.int .i64 xM))) 127 (.v (.int .i64 t127))) 128 (.v (.int .i64 t128))),⟨(upd (upd (upd (upd (upd bR 1 (.cells 1 [.v (.int .i64 t2.Graph.Config.N),.v (.int .i64 t2.Graph.Config.L),.v (.int .i64 t2.Graph.Config.R),.v (.slice none 0 0),.v (.slice none 0 0),.v (.slice none 0 0)] 0)) 2 (.cells 1 [.v (.int .i64 s_4.Graph.Config.N),.v (.int .i64 s_4.Graph.Config.L),.v (.int .i64 s_4.Graph.Config.R),.own 3 0 s_4.Graph.Hashes.length,.own 4 0 s_4.Graph.Edges.length,.own 5 0 s_4.Slots.length] 0)) 3 (.cells 2 (s_4.Graph.Hashes.flatMap dW) 0)) 4 (.cells 3 (s_4.Graph.Edges.flatMap bE) 0)) 5 (.cells 2 (s_4.Slots.flatMap bH) 0)),64⟩⟩:St)∧vN m b_0 t2 s_4 xM t127 t128=some r) aZ ?_ ?_ ?_
         · rintro s ⟨_,_,_,_,_,_,_,h⟩;cases h
         · refine ⟨_,?_,b_0,(aF.mk (aU.mk t2.Graph.Config [] []) []),(aF.mk (aU.mk s_4.Graph.Config s_4.Graph.Hashes []) s_4.Slots),(IntKind.i64.wrap (xM+4)),(IntKind.i64.wrap (Int.tdiv uF 5)),0,rfl,hm⟩;refine St.Le.trans (aY5 2 4 910401 3 (ys:=[.v (.int .i64 s_4.Graph.Config.N),.v (.int .i64 s_4.Graph.Config.L),.v (.int .i64 s_4.Graph.Config.R),.own 3 0 s_4.Graph.Hashes.length,.own 910401 0 0,.own 4 0 s_4.Slots.length]) Z3 (by rfl) Z5 (by rfl)) ?_;exact jL (fun j=>bif j==1 then 1 else bif j==2 then 2 else bif j==3 then 3 else bif j==4 then 910401 else bif j==5 then 4 else 0) (wV (wV (wV (dD _ _ (aAc Z1 rfl Z7) (dD _ _ (aAc Z1 rfl Z7) (wV mF)))))) (lI _ (eU eZ (eU dU (eU nS (gV (nN Z3 rfl (.cons (.data _ (.v _)) (.cons (.data _ (.v _)) (.cons (.data _ (.v _)) (.cons (yN (by first|rfl|omega|(dsimp only;omega)) rfl Z7) (.cons (yN (by first|rfl|omega|(dsimp only;omega)) rfl Z7) (.cons (yN (by first|rfl|omega|(dsimp only;omega)) rfl Z7) .nil))))))) (gV (nN Z3 rfl (.cons (.data _ (.v _)) (.cons (.data _ (.v _)) (.cons (.data _ (.v _)) (.cons (.data _ (.v _)) (.cons (.data _ (.v _)) (.cons (.data _ (.v _)) .nil))))))) mT))))) Z8)
         ·
          rintro n3 s ⟨b_0,t2,s_4,xM,t127,t128,rfl,hm⟩;replace hm:zN (vN n3) b_0 t2 s_4 xM t127 t128=some r:=hm;unfold zN at hm;refine sr (N':=128) rfl ?_;refine pA ?_;refine fs ?_;refine AWp.seq' ?_;refine AWp.condM hm Z1 (fun _ hm=>?_) (fun _ hm=>?_)
          ·
           refine AWp.skip ?_;refine aV ?_;refine AWp.seq' ?_;refine AWp.block ?_;refine sd mix (by kernel_rfl) (N':=192) rfl ?_
           iterate 2 refine pA ?_
           obtain ⟨r22,h21,hm⟩:=bnd hm;refine aI.callQ (r:= .v (.int .u64 r22)) Zd Z1 aNl (fun H=>(cV (cV (cV .nil)))) (vK h21) ?_
           iterate 4 refine pA ?_
           obtain ⟨r24,h23,hm⟩:=bnd hm;refine aI.callQ (r:= .v (.int .u64 r24)) Zd Z1 aNl (fun H=>(cV (cV (cV .nil)))) (vK h23) ?_
           iterate 4 refine pA ?_
           obtain ⟨b26,h25,hm⟩:=bnd hm;refine pu rfl (aX8 underlying9 Z1 Z1 h25) ?_;refine pA ?_;refine pu rfl (by simp only [go_sem,Nat.reduceBEq];exact (by kernel_rfl:aC4 prog 102 [(0,.v (.int .i64 (IntKind.i64.wrap r22))),(1,.v (.int .i64 (IntKind.i64.wrap r24))),(2,.v (.int .i64 (IntKind.i64.wrap b26)))]=some (.agg [.v (.int .i64 (IntKind.i64.wrap r22)),.v (.int .i64 (IntKind.i64.wrap r24)),.v (.int .i64 (IntKind.i64.wrap b26))]))) ?_;refine hp (id:=143) rfl rfl (qV aOz Z5) ?_;refine aI.heap0 (id:=144) rfl (rK (ys:=[.v (.int .i64 (IntKind.i64.wrap r22)),.v (.int .i64 (IntKind.i64.wrap r24)),.v (.int .i64 (IntKind.i64.wrap b26))]) aGi Z1 Z1 Z3 rfl (Nat.le_of_ble_eq_true rfl) Z9 rfl) ?_;refine fs ?_;refine sr (N':=256) rfl ?_
           iterate 2 refine pA ?_
           refine pu rfl (lG Z1 Z3 Z4) ?_;refine pu rfl (lG Z1 Z3 Z2) ?_;refine hp (id:=196) rfl rfl (qU dU (l:=[(aH.mk (IntKind.i64.wrap r22) (IntKind.i64.wrap r24) (IntKind.i64.wrap b26))]) underlying28 aGi aOz Z5 Zd Zd Zd (by simp only [go_sem,Nat.reduceBEq];try rfl) (by kernel_rfl)) ?_;obtain ⟨l28,h27,hm⟩:=bnd hm;refine hp (id:=197) rfl rfl (aEu dU underlying28 underlying28 rfl bAv bCo (by rw [aM2];decide) (by rw [aM2];decide) bCp Zd Zd Z1 Z3 Z6 (aHt dU Z1 Z3 Z6) rfl Z5 h27) ?_
           iterate 2 refine pA ?_
           refine aI.heap0 (id:=200) rfl (rK (ys:=[.v (.int .i64 s_4.Graph.Config.N),.v (.int .i64 s_4.Graph.Config.L),.v (.int .i64 s_4.Graph.Config.R),.own 3 0 s_4.Graph.Hashes.length,.own 197 0 l28.length,.own 5 0 s_4.Slots.length]) bTi Z1 Z1 Z3 rfl (Nat.le_of_ble_eq_true rfl) Z9 rfl) ?_;refine fs ?_;refine AWp.reg 64 (N':=320) rfl ?_
           iterate 3 refine pA ?_
           refine aI.fin ?_;refine eT ?_;refine aV ?_;refine AWp.reg 64 (N':=384) rfl ?_
           iterate 2 refine pA ?_
           refine aI.fin ?_;refine cO ?_;refine ⟨_,?_,b_0,(aF.mk (aU.mk t2.Graph.Config [] []) []),(aF.mk (aU.mk s_4.Graph.Config s_4.Graph.Hashes l28) s_4.Slots),(IntKind.i64.wrap (xM+5)),t127,(IntKind.i64.wrap (t128+1)),rfl,hm⟩;exact jL (fun j=>bif j==1 then 1 else bif j==2 then 2 else bif j==3 then 3 else bif j==4 then 197 else bif j==5 then 5 else 0) (wV (wV (wV (dD _ _ (aAc Z1 rfl Z7) (dD _ _ (aAc Z1 rfl Z7) (wV mF)))))) (lI _ (eU eZ (eU dU (eU nS (gV (nN Z3 rfl (.cons (.data _ (.v _)) (.cons (.data _ (.v _)) (.cons (.data _ (.v _)) (.cons (yN (by first|rfl|omega|(dsimp only;omega)) rfl Z7) (.cons (yN (by first|rfl|omega|(dsimp only;omega)) rfl Z7) (.cons (yN (by first|rfl|omega|(dsimp only;omega)) rfl Z7) .nil))))))) (gV (nN Z3 rfl (.cons (.data _ (.v _)) (.cons (.data _ (.v _)) (.cons (.data _ (.v _)) (.cons (.data _ (.v _)) (.cons (.data _ (.v _)) (.cons (.data _ (.v _)) .nil))))))) mT))))) Z8)
          · refine AWp.exit ?_;refine dJ ?_;refine dA ?_;refine cW ?_;refine aV ?_;refine sr (N':=192) rfl ?_;refine pu rfl (lG Z1 Z3 Z2) ?_;refine aI.heap0 (id:=129) rfl (rK (ys:=[.v (.int .i64 s_4.Graph.Config.N),.v (.int .i64 s_4.Graph.Config.L),.v (.int .i64 s_4.Graph.Config.R),.own 3 0 s_4.Graph.Hashes.length,.own 4 0 s_4.Graph.Edges.length,.own 5 0 s_4.Slots.length]) bM3 Z1 Z1 Z3 rfl (Nat.le_of_ble_eq_true rfl) Z9 rfl) ?_;refine pA ?_;refine fs ?_;refine AWp.ret ?_;cases hm;exact bGd (.inr rfl) (by rw [Tryz.results119]) (.cell (aHq Z1 Z3 Z2) (.tmp Z1 .nil)) rfl (tdt (.cons (tda rfl (.cons (.data _ (.v _)) (.cons (.data _ (.v _)) (.cons (.data _ (.v _)) (.cons (tdo nS rfl Z3 Z6) (.cons (tdo dU rfl Z3 Z6) (.cons (tdo eZ rfl Z3 Z6) .nil))))))) (.cons (td rfl (.v _)) .nil)))
instance:Ct prog 119 (K1 prog vs (t2 eN vb) 119 sI):=⟨fun hm=>aOn hm⟩
def rG(b_0:ByteArray):Option (aF×Int):=
 ((sI b_0).bind fun ⟨r2,r3⟩=>
 (bif (!r3) then
  some ((aF.mk (aU.mk (bZ.mk 0 0 0) [] []) []),12)
 else
  ((sR r2).bind fun ⟨r5,r6⟩=>
  (bif ((r6 !=0)||(!decide (r5=b_0))) then
   some ((aF.mk (aU.mk (bZ.mk 0 0 0) [] []) []),12)
  else
   some (r2,0)))))
theorem aVb{b_0:ByteArray}{r:aF×Int}(hm:rG b_0=some r):dT prog 87 [.v (.string b_0)] (.tup [.agg [vi r.1.Graph.Config.N,vi r.1.Graph.Config.L,vi r.1.Graph.Config.R,vl dW r.1.Graph.Hashes,vl bE r.1.Graph.Edges,vl bH r.1.Slots],vi r.2]):=by
 refine bd 30 func87 ?_;refine W ?_;obtain ⟨⟨r2,r3⟩,h1,hm⟩:=bnd hm;refine cq (aOn h1) ?_;refine W ?_;refine cm hm (fun hm=>?_) fun hm=>?_
 · refine W ?_;refine bU (.agg [vi 0,vi 0,vi 0,.v (.slice none 0 0),.v (.slice none 0 0),.v (.slice none 0 0)]) ?_;exact E
 refine W ?_;obtain ⟨⟨r5,r6⟩,h4,hm⟩:=bnd hm;refine cq (aU0 h4) ?_;refine W ?_;refine cm hm (fun hm=>?_) fun hm=>?_
 · refine W ?_;refine bU (.agg [vi 0,vi 0,vi 0,.v (.slice none 0 0),.v (.slice none 0 0),.v (.slice none 0 0)]) ?_;exact E
 exact E
instance:Ct prog 87 (K1 prog vs (t2 eN vi) 87 rG):=⟨fun hm=>aVb hm⟩
abbrev oE(s_4:aF)(t8:aF)(bVd:Int):Option (aF×Int):=
 some (s_4,bVd)
def nZ(s_0:aF)(c_1:bK)(u_2:Int)(v_3:Int):Option (aF×Int):=
 (bif (c_1.Do==1) then
  ((aFs s_0.Slots c_1.A).bind fun ⟨r2,r3,r4⟩=>
  oE (aF.mk s_0.Graph r2) (aF.mk (aU.mk (bZ.mk 0 0 0) [] []) []) r4)
 else
  (bif (c_1.Do==2) then
   ((vE s_0 u_2).bind fun r6=>
   (bif (decide (0<r6)) then
    some (s_0,11)
   else
    ((zV s_0.Slots c_1.A).bind fun ⟨r8,r9⟩=>
    oE (aF.mk s_0.Graph r8) (aF.mk (aU.mk (bZ.mk 0 0 0) [] []) []) r9)))
  else
   (bif (c_1.Do==3) then
    ((zS s_0.Graph u_2 v_3).bind fun ⟨r11,r12⟩=>
    oE (aF.mk r11 s_0.Slots) (aF.mk (aU.mk (bZ.mk 0 0 0) [] []) []) r12)
   else
    (bif (c_1.Do==4) then
     (bif (u_2==v_3) then
      some (s_0,9)
     else
      ((zR s_0.Graph u_2 v_3).bind fun ⟨r14,r15⟩=>
      oE (aF.mk r14 s_0.Slots) (aF.mk (aU.mk (bZ.mk 0 0 0) [] []) []) r15))
    else
     (bif (c_1.Do==15) then
      ((rG c_1.Text).bind fun ⟨r17,r18⟩=>
      some (r17,r18))
     else
      oE s_0 (aF.mk (aU.mk (bZ.mk 0 0 0) [] []) []) 0)))))
theorem aUu:K4 prog eN aBx vi vi (t2 eN vi) 43 nZ:=fun hm=>be 76 func43 (h:=G)
instance:Ct prog 43 (K4 prog eN aBx vi vi (t2 eN vi) 43 nZ):=⟨aUu⟩
def jB(s_0:aF)(c_1:bK):Option (aF×GA):=
 ((dX (((decide (c_1.Do<1))||(decide (15<c_1.Do)))==false) false (pY s_0)).bind fun r2=>
 (bif (((decide (c_1.Do<1))||(decide (15<c_1.Do)))||(!r2)) then
  some (s_0,(GA.i 36 .i64 1))
 else
  ((xK s_0.Slots c_1.A).bind fun ⟨r4,r5⟩=>
  ((xK s_0.Slots c_1.B).bind fun ⟨r7,r8⟩=>
  ((tX c_1.Do).bind fun r10=>
  ((dX ((r10&&(!r5))==false) false (tY c_1.Do)).bind fun r12=>
  (bif ((r10&&(!r5))||(r12&&(!r8))) then
   some (s_0,(GA.i 36 .i64 7))
  else
   (bif ((decide (4<c_1.Do))&&(c_1.Do !=15)) then
    ((rF s_0 c_1.Do r4 r7).bind fun r14=>
    some (s_0,r14))
   else
    ((nZ s_0 c_1 r4 r7).bind fun ⟨r16,r17⟩=>
    (bif (r17 !=0) then
     some (s_0,(GA.i 36 .i64 r17))
    else
     some (r16,(GA.i 36 .i64 0))))))))))))
theorem qC:K2 prog eN aBx (t2 eN GA.av) 15 jB:=fun hm=>be 91 func15 (h:=G)
instance:Ct prog 15 (K2 prog eN aBx (t2 eN GA.av) 15 jB):=⟨qC⟩
def aCd(nU:GA):Option (Int):=
 ((aMf .i64 36 nU).bind fun r2=>
 some r2)
theorem aHc{nU:GA}{r:Int}(hm:aCd nU=some r):dT prog 38 [GA.av nU] (vi r):=by
 refine bd 5 func38 ?_;obtain ⟨r2,h1,hm⟩:=bnd hm;refine W ?_;refine pu rfl (bIu underlying36 Z1 h1) ?_;exact E
instance:Ct prog 38 (K1 prog GA.av vi 38 aCd):=⟨fun hm=>aHc hm⟩
def aBc:Option (Bool):=
 ((sP (bZ.mk 2 1 1) (cM.mk [3,4,5] 0)).bind fun ⟨r2,r3,r4⟩=>
 ((jB r2 (bK.mk 1 9 0 ⟨#[]⟩)).bind fun ⟨r6,r7⟩=>
 ((jB r6 (bK.mk 1 7 0 ⟨#[]⟩)).bind fun ⟨r9,r10⟩=>
 ((jB r9 (bK.mk 3 7 9 ⟨#[]⟩)).bind fun ⟨r12,r13⟩=>
 ((jB r12 (bK.mk 11 9 0 ⟨#[]⟩)).bind fun ⟨r15,r16⟩=>
 ((jB r12 (bK.mk 2 9 0 ⟨#[]⟩)).bind fun ⟨r18,r19⟩=>
 ((jB r12 (bK.mk 5 9 8 ⟨#[]⟩)).bind fun ⟨r21,r22⟩=>
 ((jB r12 (bK.mk 0 0 0 ⟨#[]⟩)).bind fun ⟨r24,r25⟩=>
 ((aNp 24 r16).bind fun ⟨r27,r28⟩=>
 ((dX (((r4==0)&&(r3.At==2))==true) false (aNo r7 36 .i64 0)).bind fun b30=>
 ((dX ((((r4==0)&&(r3.At==2))&&b30)==true) false (aNo r10 36 .i64 0)).bind fun b32=>
 ((dX (((((r4==0)&&(r3.At==2))&&b30)&&b32)==true) false (aNo r13 36 .i64 0)).bind fun b34=>
 (bif ((((((r4==0)&&(r3.At==2))&&b30)&&b32)&&b34)&&r28) then
  ((aAl r27 [7,9]).bind fun r37=>
  ((dX (r37==true) false (aNo r19 36 .i64 11)).bind fun b39=>
  ((dX ((r37&&b39)==true) false (aNo r22 36 .i64 7)).bind fun b41=>
  ((dX (((r37&&b39)&&b41)==true) false (aNo r25 36 .i64 1)).bind fun b43=>
  ((dX ((bif (((r37&&b39)&&b41)&&b43) then true else false)==true) 0 (aCd r25)).bind fun r45=>
  some ((bif (((r37&&b39)&&b41)&&b43) then true else false)&&(r45==1)))))))
 else
  some false)))))))))))))
theorem aIa{r:Bool}(hm:aBc=some r):dT prog 14 [] (vb r):=by
 refine bd 124 func14 ?_;refine W ?_;refine bU (.agg [vi 2,vi 1,vi 1]) ?_;refine aI.pop Zd (aG8 (ps:=[(0,.v (.int .u64 3)),(1,.v (.int .u64 4)),(2,.v (.int .u64 5))]) (by simp only [go_sem,Nat.reduceBEq];try rfl) (aB4 (.v _) (aB4 (.v _) (aB4 (.v _) aS5)))) (aO6 (CFi .u64) (l:=[3,4,5]) (xs:=[.v (.int .u64 3),.v (.int .u64 4),.v (.int .u64 5)]) underlying24 fF bM8 Zd Zd Zd (ps:=[(0,.v (.int .u64 3)),(1,.v (.int .u64 4)),(2,.v (.int .u64 5))]) (by simp only [go_sem,Nat.reduceBEq];try rfl) (by kernel_rfl) (fun H=>(.cons (.data _ (.v _)) (.cons (.data _ (.v _)) (.cons (.data _ (.v _)) .nil))))) rfl ?_;refine bU (.agg [.sl (([3,4,5]).flatMap (ci .u64)) ([3,4,5]).length false,vi 0]) ?_;obtain ⟨⟨r2,r3,r4⟩,h1,hm⟩:=bnd hm;refine cq (aMi h1) ?_;refine W ?_;refine bU (.agg [vi 1,vu 9,vu 0,.v (.string ⟨#[]⟩)]) ?_;obtain ⟨⟨r6,r7⟩,h5,hm⟩:=bnd hm;refine cq (qC h5) ?_;refine W ?_;refine bU (.agg [vi 1,vu 7,vu 0,.v (.string ⟨#[]⟩)]) ?_;obtain ⟨⟨r9,r10⟩,h8,hm⟩:=bnd hm;refine cq (qC h8) ?_;refine W ?_;refine bU (.agg [vi 3,vu 7,vu 9,.v (.string ⟨#[]⟩)]) ?_;obtain ⟨⟨r12,r13⟩,h11,hm⟩:=bnd hm;refine cq (qC h11) ?_;refine W ?_;refine bU (.agg [vi 11,vu 9,vu 0,.v (.string ⟨#[]⟩)]) ?_;obtain ⟨⟨r15,r16⟩,h14,hm⟩:=bnd hm;refine cq (qC h14) ?_;refine W ?_;refine bU (.agg [vi 2,vu 9,vu 0,.v (.string ⟨#[]⟩)]) ?_;obtain ⟨⟨r18,r19⟩,h17,hm⟩:=bnd hm;refine cq (qC h17) ?_;refine W ?_;refine bU (.agg [vi 5,vu 9,vu 8,.v (.string ⟨#[]⟩)]) ?_;obtain ⟨⟨r21,r22⟩,h20,hm⟩:=bnd hm;refine cq (qC h20) ?_;refine W ?_;refine bU (.agg [vi 0,vu 0,vu 0,.v (.string ⟨#[]⟩)]) ?_;obtain ⟨⟨r24,r25⟩,h23,hm⟩:=bnd hm;refine cq (qC h23) ?_;refine W ?_;obtain ⟨⟨r27,r28⟩,h26,hm⟩:=bnd hm;refine aI.pop Zd (aPm Z1 (GA.data _)) (aTo underlying24 bR9 bTn Z1 h26) rfl ?_;obtain ⟨b30,h29,hm⟩:=bnd hm
 iterate 17 refine S1 ?_
 refine aI.popG Zd rfl Z2 (fun hb=>(aMl (Zh hb) (Zh hb) (GA.data _) (.ifc _ _ (.v _)))) (fun hb=>(aEp underlying20 underlying36 bAw (by kernel_rfl) (Zh hb) (Zh hb) (bI h29 hb))) rfl ?_;obtain ⟨b32,h31,hm⟩:=bnd hm
 iterate 4 refine S1 ?_
 refine aI.popG Zd rfl Z2 (fun hb=>(aMl (Zh hb) (Zh hb) (GA.data _) (.ifc _ _ (.v _)))) (fun hb=>(aEp underlying20 underlying36 bAw (by kernel_rfl) (Zh hb) (Zh hb) (bI h31 hb))) rfl ?_;obtain ⟨b34,h33,hm⟩:=bnd hm
 iterate 4 refine S1 ?_
 refine aI.popG Zd rfl Z2 (fun hb=>(aMl (Zh hb) (Zh hb) (GA.data _) (.ifc _ _ (.v _)))) (fun hb=>(aEp underlying20 underlying36 bAw (by kernel_rfl) (Zh hb) (Zh hb) (bI h33 hb))) rfl ?_;refine W ?_;refine bTf hm (fun h35 hm=>?_) (fun h35 hm=>?_)
 ·
  refine aI.heapG Zd rfl (by simp only [go_sem,Nat.reduceBEq,h35];try with_reducible rfl) (id:=667) rfl (qU (CFi .u64) (l:=[7,9]) underlying24 fF bM8 Z5 Zd Zd Zd (by simp only [go_sem,Nat.reduceBEq,h35];try rfl) (by kernel_rfl)) ?_;obtain ⟨r37,h36,hm⟩:=bnd hm;refine aI.callBG (r:= .v (.bool r37)) Zd rfl (by simp only [go_sem,Nat.reduceBEq,h35];try with_reducible rfl) (by try simp only [go_sem,Nat.reduceBEq,h35];try rfl) cEu (fun hb=>(.cons (ltd fun H=>(td (by try simp only [go_sem,Nat.reduceBEq,h35];try rfl) ((CFi .u64).sl _ _ _))) (.cons (lto (CFi .u64) (by try simp only [go_sem,Nat.reduceBEq,h35];try rfl) Z3 Z6) aSh.nil))) bUi (fun hb=>aKj h36) ?_
  iterate 4 (first|refine pu rfl (by simp only [go_sem,Nat.reduceBEq,h35];try with_reducible rfl) ?_|refine pg rfl rfl (by simp only [go_sem,Nat.reduceBEq,h35];try with_reducible rfl) (by intro hb;simp only [go_sem,Nat.reduceBEq,h35,hb,Bool.true_and];try with_reducible rfl) ?_)
  obtain ⟨b39,h38,hm⟩:=bnd hm;refine aI.popG Zd rfl (by simp only [go_sem,Nat.reduceBEq,h35];try with_reducible rfl) (fun hb=>(aMl (by try simp only [go_sem,Nat.reduceBEq,h35,hb,Bool.true_and];try rfl) (by try simp only [go_sem,Nat.reduceBEq,h35,hb,Bool.true_and];try rfl) (GA.data _) (.ifc _ _ (.v _)))) (fun hb=>(aEp underlying20 underlying36 bAw (by kernel_rfl) (by try simp only [go_sem,Nat.reduceBEq,h35,hb,Bool.true_and];try rfl) (by try simp only [go_sem,Nat.reduceBEq,h35,hb,Bool.true_and];try rfl) (bI h38 hb))) rfl ?_
  iterate 4 (first|refine pu rfl (by simp only [go_sem,Nat.reduceBEq,h35];try with_reducible rfl) ?_|refine pg rfl rfl (by simp only [go_sem,Nat.reduceBEq,h35];try with_reducible rfl) (by intro hb;simp only [go_sem,Nat.reduceBEq,h35,hb,Bool.true_and];try with_reducible rfl) ?_)
  obtain ⟨b41,h40,hm⟩:=bnd hm;refine aI.popG Zd rfl (by simp only [go_sem,Nat.reduceBEq,h35];try with_reducible rfl) (fun hb=>(aMl (by try simp only [go_sem,Nat.reduceBEq,h35,hb,Bool.true_and];try rfl) (by try simp only [go_sem,Nat.reduceBEq,h35,hb,Bool.true_and];try rfl) (GA.data _) (.ifc _ _ (.v _)))) (fun hb=>(aEp underlying20 underlying36 bAw (by kernel_rfl) (by try simp only [go_sem,Nat.reduceBEq,h35,hb,Bool.true_and];try rfl) (by try simp only [go_sem,Nat.reduceBEq,h35,hb,Bool.true_and];try rfl) (bI h40 hb))) rfl ?_
  iterate 4 (first|refine pu rfl (by simp only [go_sem,Nat.reduceBEq,h35];try with_reducible rfl) ?_|refine pg rfl rfl (by simp only [go_sem,Nat.reduceBEq,h35];try with_reducible rfl) (by intro hb;simp only [go_sem,Nat.reduceBEq,h35,hb,Bool.true_and];try with_reducible rfl) ?_)
  obtain ⟨b43,h42,hm⟩:=bnd hm;refine aI.popG Zd rfl (by simp only [go_sem,Nat.reduceBEq,h35];try with_reducible rfl) (fun hb=>(aMl (by try simp only [go_sem,Nat.reduceBEq,h35,hb,Bool.true_and];try rfl) (by try simp only [go_sem,Nat.reduceBEq,h35,hb,Bool.true_and];try rfl) (GA.data _) (.ifc _ _ (.v _)))) (fun hb=>(aEp underlying20 underlying36 bAw (by kernel_rfl) (by try simp only [go_sem,Nat.reduceBEq,h35,hb,Bool.true_and];try rfl) (by try simp only [go_sem,Nat.reduceBEq,h35,hb,Bool.true_and];try rfl) (bI h42 hb))) rfl ?_
  iterate 5 (first|refine pu rfl (by simp only [go_sem,Nat.reduceBEq,h35];try with_reducible rfl) ?_|refine pg rfl rfl (by simp only [go_sem,Nat.reduceBEq,h35];try with_reducible rfl) (by intro hb;simp only [go_sem,Nat.reduceBEq,h35,hb,Bool.true_and];try with_reducible rfl) ?_)
  obtain ⟨r45,h44,hm⟩:=bnd hm;refine aI.callQG (r:= .v (.int .i64 r45)) Zd rfl (by simp only [go_sem,Nat.reduceBEq,h35];try with_reducible rfl) (by try simp only [go_sem,Nat.reduceBEq,h35];try rfl) cEv (fun hb H=>(.cons (td (by try simp only [go_sem,Nat.reduceBEq,h35,hb,Bool.true_and];try rfl) (GA.data _)) .nil)) (fun hb=>aHc (bI h44 hb)) ?_
  iterate 3 (first|refine pu rfl (by simp only [go_sem,Nat.reduceBEq,h35];try with_reducible rfl) ?_|refine pg rfl rfl (by simp only [go_sem,Nat.reduceBEq,h35];try with_reducible rfl) (by intro hb;simp only [go_sem,Nat.reduceBEq,h35,hb,Bool.true_and];try with_reducible rfl) ?_)
  exact E
 refine aI.skipG Zd rfl (by simp only [go_sem,Nat.reduceBEq,h35];try with_reducible rfl) ?_;refine aI.skipG Zd rfl (by simp only [go_sem,Nat.reduceBEq,h35];try with_reducible rfl) ?_
 iterate 2 refine pu rfl (by simp only [go_sem,Nat.reduceBEq,h35];try with_reducible rfl) ?_
 refine aI.skipG Zd rfl (by simp only [go_sem,Nat.reduceBEq,h35];try with_reducible rfl) ?_;refine aI.skipG Zd rfl (by simp only [go_sem,Nat.reduceBEq,h35];try with_reducible rfl) ?_;refine aI.skipG Zd rfl (by simp only [go_sem,Nat.reduceBEq,h35];try with_reducible rfl) ?_
 iterate 2 refine pu rfl (by simp only [go_sem,Nat.reduceBEq,h35];try with_reducible rfl) ?_
 refine aI.skipG Zd rfl (by simp only [go_sem,Nat.reduceBEq,h35];try with_reducible rfl) ?_;refine aI.skipG Zd rfl (by simp only [go_sem,Nat.reduceBEq,h35];try with_reducible rfl) ?_;refine aI.skipG Zd rfl (by simp only [go_sem,Nat.reduceBEq,h35];try with_reducible rfl) ?_
 iterate 2 refine pu rfl (by simp only [go_sem,Nat.reduceBEq,h35];try with_reducible rfl) ?_
 refine aI.skipG Zd rfl (by simp only [go_sem,Nat.reduceBEq,h35];try with_reducible rfl) ?_;refine aI.skipG Zd rfl (by simp only [go_sem,Nat.reduceBEq,h35];try with_reducible rfl) ?_;refine aI.skipG Zd rfl (by simp only [go_sem,Nat.reduceBEq,h35];try with_reducible rfl) ?_
 iterate 4 refine pu rfl (by simp only [go_sem,Nat.reduceBEq,h35];try with_reducible rfl) ?_
 refine aI.skipG Zd rfl (by simp only [go_sem,Nat.reduceBEq,h35];try with_reducible rfl) ?_;refine aI.skipG Zd rfl (by simp only [go_sem,Nat.reduceBEq,h35];try with_reducible rfl) ?_;refine aI.skipG Zd rfl (by simp only [go_sem,Nat.reduceBEq,h35];try with_reducible rfl) ?_
 iterate 2 refine pu rfl (by simp only [go_sem,Nat.reduceBEq,h35];try with_reducible rfl) ?_
 exact E
instance:Ct prog 14 (K0 prog vb 14 aBc):=⟨fun hm=>aIa hm⟩
def oF(nU:GA):Option (Int):=
 ((aHb .i64 36 nU).bind fun ⟨r5,r6⟩=>
 (bif r6 then
  some r5
 else
  some (-1)))
theorem uA{nU:GA}{r:Int}(hm:oF nU=some r):dT prog 16 [GA.av nU] (vi r):=by
 refine bd 12 func16 ?_;refine W ?_;obtain ⟨⟨r5,r6⟩,h4,hm⟩:=bnd hm;refine pu rfl (aSl underlying36 bAw cEd Z1 h4) ?_;refine W ?_;refine cm hm (fun hm=>?_) fun hm=>?_
 · exact E
 exact E
instance:Ct prog 16 (K1 prog GA.av vi 16 oF):=⟨fun hm=>uA hm⟩
def aI9(rec1:List bS→List aR→Int→Int→Option ((List bS)))(aTm:List bS)(t6:List aR)(t7:Int)(t8:Int):Option ((List bS)):=
 (bif (decide (t8<t7)) then
  ((idx t6 t8).bind fun x2=>
  ((app aTm [(bS.mk x2.Used x2.Key)]).bind fun l4=>
  rec1 l4 t6 t7 (IntKind.i64.wrap (t8+1))))
 else
  some aTm)
def aBb:Nat→List bS→List aR→Int→Int→Option ((List bS))
 |0=>fun _ _ _ _=>none
 |n+1=>aI9 (aBb n)
def aG5(l_0:List aR):Option ((List bS)):=
 aBb aZ [] l_0 (l_0.length:Int) 0
theorem bB5{l_0:List aR}{r:(List bS)}(hm:aG5 l_0=some r):dT prog 61 [vl bH l_0] (vl dV r):=by
 refine bd 18 func61 ?_;refine W ?_;refine lp (fun m s=> ∃aTm t6 t7 t8,s=⟨18,(aG (aG (aG (aG fa 3 (.own 1 0 aTm.length)) 6 (vl bH t6)) 7 (vi t7)) 8 (vi t8)),⟨(upd bR 1 (.cells 2 (aTm.flatMap dV) 0)),64⟩⟩∧aBb m aTm t6 t7 t8=some r) ?_ ?_
 · refine ⟨_,?_,[],l_0,(l_0.length:Int),0,rfl,hm⟩;refine St.Le.trans (aIb 3 900003 2 Z1 Z5) ?_;exact cn (fun j=>bif j==1 then 900003 else 0)
 rintro n1 s ⟨aTm,t6,t7,t8,rfl,hm⟩;refine W ?_;refine cm hm (fun hm=>?_) fun hm=>?_
 · obtain ⟨x2,h1,hm⟩:=bnd hm;refine W ?_;refine aL pF [(bS.mk x2.Used x2.Key)] ?_;obtain ⟨l4,h3,hm⟩:=bnd hm;refine W ?_;exact Lr (fun j=>bif j==1 then 195 else 0)
 exact E
instance:Ct prog 61 (K1 prog (vl bH) (vl dV) 61 aG5):=⟨fun hm=>bB5 hm⟩
def aF7(s_0:aF):Option (nF):=
 ((aG5 s_0.Slots).bind fun r2=>
 some (nF.mk s_0.Graph r2))
theorem bFx:K1 prog eN nR 21 aF7:=fun hm=>be 9 func21 (h:=G)
instance:Ct prog 21 (K1 prog eN nR 21 aF7):=⟨bFx⟩
def aIs(rec1:List bS→List bS→Int→Option (Bool))(a_0:List bS)(b_1:List bS)(i_5:Int):Option (Bool):=
 (bif (decide (i_5<(a_0.length:Int))) then
  ((idx a_0 i_5).bind fun x2=>
  ((idx b_1 i_5).bind fun x4=>
  (bif (!((x2.Used==x4.Used)&&((x2.Key==x4.Key)&&true))) then
   some false
  else
   rec1 a_0 b_1 (IntKind.i64.wrap (i_5+1)))))
 else
  some true)
def aBl:Nat→List bS→List bS→Int→Option (Bool)
 |0=>fun _ _ _=>none
 |n+1=>aIs (aBl n)
def aDa(a_0:List bS)(b_1:List bS):Option (Bool):=
 (bif ((a_0.length:Int) !=(b_1.length:Int)) then
  some false
 else
  aBl aZ a_0 b_1 0)
theorem bC0{a_0:List bS}{b_1:List bS}{r:Bool}(hm:aDa a_0 b_1=some r):dT prog 88 [vl dV a_0,vl dV b_1] (vb r):=by
 refine bd 26 func88 ?_;refine W ?_;refine cm hm (fun hm=>?_) fun hm=>?_
 · exact E
 refine W ?_;refine lp (fun m s=> ∃a_0 b_1 i_5,s=⟨26,(aG (aG (aG fa 0 (vl dV a_0)) 1 (vl dV b_1)) 5 (vi i_5)),⟨bR,64⟩⟩∧aBl m a_0 b_1 i_5=some r) L ?_;rintro n1 s ⟨a_0,b_1,i_5,rfl,hm⟩;refine W ?_;refine cm hm (fun hm=>?_) fun hm=>?_
 ·
  obtain ⟨x2,h1,hm⟩:=bnd hm;obtain ⟨x4,h3,hm⟩:=bnd hm
  iterate 2 refine S1 ?_
  refine AWp.seq' ?_
  iterate 10 refine S1 ?_
  refine aI.pop Zd (aMl Z1 Z1 (.agg _ (pF.dat x2)) (.agg _ (pF.dat x4))) (bLs (xs:=[.v (.bool x2.Used),.v (.int .u64 x2.Key)]) (ys:=[.v (.bool x4.Used),.v (.int .u64 x4.Key)]) (b:=((x2.Used==x4.Used)&&((x2.Key==x4.Key)&&true))) underlying151 (by kernel_rfl) (by kernel_rfl) Z1 Z1 (by kernel_rfl)) rfl ?_;refine W ?_;refine cm hm (fun hm=>?_) fun hm=>?_
  · exact E
  exact L
 exact E
instance:Ct prog 88 (K2 prog (vl dV) (vl dV) vb 88 aDa):=⟨fun hm=>bC0 hm⟩
def aGb(a_0:nF)(b_1:nF):Option (Bool):=
 ((aDc a_0.Graph b_1.Graph).bind fun r2=>
 ((aDa a_0.Slots b_1.Slots).bind fun r4=>
 some (r2&&r4)))
theorem bC3:K2 prog nR nR vb 44 aGb:=fun hm=>be 21 func44 (h:=G)
instance:Ct prog 44 (K2 prog nR nR vb 44 aGb):=⟨bC3⟩
def sB(a_0:aF)(b_1:aF):Option (Bool):=
 ((aF7 a_0).bind fun r2=>
 ((aF7 b_1).bind fun r4=>
 ((aGb r2 r4).bind fun r6=>
 some r6)))
theorem aG6:K2 prog eN eN vb 17 sB:=fun hm=>be 10 func17 (h:=G)
instance:Ct prog 17 (K2 prog eN eN vb 17 sB):=⟨aG6⟩
def aIv(rec1:List Int→Int→Int→Option (Int))(l_0:List Int)(k_1:Int)(i_5:Int):Option (Int):=
 (bif (decide (i_5<(l_0.length:Int))) then
  ((idx l_0 i_5).bind fun x2=>
  (bif (x2==k_1) then
   some i_5
  else
   rec1 l_0 k_1 (IntKind.i64.wrap (i_5+1))))
 else
  some (-1))
def aEb:Nat→List Int→Int→Int→Option (Int)
 |0=>fun _ _ _=>none
 |n+1=>aIv (aEb n)
def aKk(l_0:List Int)(k_1:Int):Option (Int):=
 aEb aZ l_0 k_1 0
abbrev aEc(rec1:Int→aT→List Int→Int→Option ((List Int)))(a_1:Int)(m_2:aT)(nY:List Int)(i_6:Int):Option ((List Int)):=
 rec1 a_1 m_2 nY (IntKind.i64.wrap (i_6+1))
def aIx(rec1:Int→aT→List Int→Int→Option ((List Int)))(rec2:Int→aT→List Int→Int→Int→Int→Option ((List Int)))(a_1:Int)(m_2:aT)(nY:List Int)(i_6:Int)(aYj:Int)(k_9:Int):Option ((List Int)):=
 ((dX ((decide (k_9<(nY.length:Int)))==true) 0 (idx nY k_9)).bind fun x4=>
 (bif ((decide (k_9<(nY.length:Int)))&&(decide (x4<aYj))) then
  rec2 a_1 m_2 nY i_6 aYj (IntKind.i64.wrap (k_9+1))
 else
  ((slc nY 0 k_9).bind fun l6=>
  ((app [] l6).bind fun l8=>
  ((app l8 [aYj]).bind fun l10=>
  ((slc nY k_9 (nY.length:Int)).bind fun l12=>
  ((app l10 l12).bind fun l14=>
  aEc rec1 a_1 m_2 l14 i_6)))))))
def aEd(rec1:Int→aT→List Int→Int→Option ((List Int))):Nat→Int→aT→List Int→Int→Int→Int→Option ((List Int))
 |0=>fun _ _ _ _ _ _=>none
 |n+1=>aIx rec1 (aEd rec1 n)
def aIw(rec1:Int→aT→List Int→Int→Option ((List Int)))(a_1:Int)(m_2:aT)(nY:List Int)(i_6:Int):Option ((List Int)):=
 (bif (decide (i_6<(m_2.Pairs.length:Int))) then
  ((idx m_2.Pairs i_6).bind fun x2=>
  (bif ((x2.x0 !=a_1)&&(x2.x1 !=a_1)) then
   aEc rec1 a_1 m_2 nY i_6
  else
   aEd rec1 aZ a_1 m_2 nY i_6 (IntKind.u64.wrap ((IntKind.u64.wrap (x2.x0+x2.x1))-a_1)) 0))
 else
  some nY)
def aBn:Nat→Int→aT→List Int→Int→Option ((List Int))
 |0=>fun _ _ _ _=>none
 |n+1=>aIw (aBn n)
def aR1(m_0:aT)(a_1:Int):Option ((List Int)):=
 aBn aZ a_1 m_0 [] 0
abbrev aO9(a_0:Int)(b_1:Int)(t4:aC):Option (aC):=
 some (aC.mk a_0 b_1)
def aKm(a_0:Int)(b_1:Int):Option (aC):=
 (bif (decide (b_1<a_0)) then
  aO9 b_1 a_0 (aC.mk 0 0)
 else
  aO9 a_0 b_1 (aC.mk 0 0))
def aMo(rec1:List aC→aC→Int→Option (Int))(l_0:List aC)(p_3:aC)(i_5:Int):Option (Int):=
 (bif (decide (i_5<(l_0.length:Int))) then
  ((idx l_0 i_5).bind fun x2=>
  (bif (bE2 x2 p_3) then
   some i_5
  else
   rec1 l_0 p_3 (IntKind.i64.wrap (i_5+1))))
 else
  some (-1))
def aIu:Nat→List aC→aC→Int→Option (Int)
 |0=>fun _ _ _=>none
 |n+1=>aMo (aIu n)
def aPp(l_0:List aC)(p_1:aC):Option (Int):=
 aIu aZ l_0 p_1 0
def mX(m_0:aT)(aMd:Int)(a_2:Int)(b_3:Int):Option (aT×Int):=
 ((aKk m_0.Keys a_2).bind fun r2=>
 (bif (aMd==1) then
  (bif (decide (0≤r2)) then
   some (m_0,4)
  else
   (bif (decide (m_0.Most≤(m_0.Keys.length:Int))) then
    some (m_0,10)
   else
    ((app [] m_0.Keys).bind fun l4=>
    ((app l4 [a_2]).bind fun l6=>
    some ((aT.mk m_0.Most l6 m_0.Pairs),0)))))
 else
  ((dX (((decide (r2<0))==false)&&((decide (2<aMd))==true)) 0 (aKk m_0.Keys b_3)).bind fun r8=>
  (bif ((decide (r2<0))||((decide (2<aMd))&&(decide (r8<0)))) then
   some (m_0,7)
  else
   (bif (aMd==2) then
    ((aR1 m_0 a_2).bind fun r10=>
    (bif (decide (0<(r10.length:Int))) then
     some (m_0,11)
    else
     ((slc m_0.Keys 0 r2).bind fun l12=>
     ((app [] l12).bind fun l14=>
     ((slc m_0.Keys (IntKind.i64.wrap (r2+1)) (m_0.Keys.length:Int)).bind fun l16=>
     ((app l14 l16).bind fun l18=>
     some ((aT.mk m_0.Most l18 m_0.Pairs),0)))))))
   else
    ((aKm a_2 b_3).bind fun r20=>
    ((aPp m_0.Pairs r20).bind fun r22=>
    (bif (aMd==4) then
     (bif (decide (r22<0)) then
      some (m_0,9)
     else
      ((slc m_0.Pairs 0 r22).bind fun l24=>
      ((app [] l24).bind fun l26=>
      ((slc m_0.Pairs (IntKind.i64.wrap (r22+1)) (m_0.Pairs.length:Int)).bind fun l28=>
      ((app l26 l28).bind fun l30=>
      some ((aT.mk m_0.Most m_0.Keys l30),0))))))
    else
     (bif (a_2==b_3) then
      some (m_0,8)
     else
      (bif (decide (0≤r22)) then
       some (m_0,4)
      else
       ((app [] m_0.Pairs).bind fun l32=>
       ((app l32 [r20]).bind fun l34=>
       some ((aT.mk m_0.Most m_0.Keys l34),0)))))))))))))
def aE9(nU:GA)(aBz:Bool):Option (Bool):=
 ((aDq 4 nU).bind fun ⟨r2,r3⟩=>
 some (r3&&(r2==aBz)))
theorem aNw{nU:GA}{aBz:Bool}{r:Bool}(hm:aE9 nU aBz=some r):dT prog 29 [GA.av nU,vb aBz] (vb r):=by
 refine bd 18 func29 ?_;refine W ?_;obtain ⟨⟨r2,r3⟩,h1,hm⟩:=bnd hm;refine pu rfl (aVp underlying4 in4 tz4 Z1 h1) ?_;exact E
instance:Ct prog 29 (K2 prog GA.av vb vb 29 aE9):=⟨fun hm=>aNw hm⟩
def aCr(nU:GA)(aBz:Int):Option (Bool):=
 ((aHb .i64 3 nU).bind fun ⟨r5,r6⟩=>
 some (r6&&(r5==aBz)))
theorem aLp{nU:GA}{aBz:Int}{r:Bool}(hm:aCr nU aBz=some r):dT prog 28 [GA.av nU,vi aBz] (vb r):=by
 refine bd 18 func28 ?_;refine W ?_;obtain ⟨⟨r5,r6⟩,h4,hm⟩:=bnd hm;refine pu rfl (aSl underlying3 in3 tz3 Z1 h4) ?_;exact E
instance:Ct prog 28 (K2 prog GA.av vi vb 28 aCr):=⟨fun hm=>aLp hm⟩
def sZ(nU:GA)(aBz:List Int):Option (Bool):=
 ((aNp 24 nU).bind fun ⟨r2,r3⟩=>
 ((dX (r3==true) false (aAl r2 aBz)).bind fun r5=>
 some (r3&&r5)))
theorem aK2{nU:GA}{aBz:List Int}{r:Bool}(hm:sZ nU aBz=some r):dT prog 27 [GA.av nU,vl (ci .u64) aBz] (vb r):=by
 refine bd 18 func27 ?_;refine W ?_;obtain ⟨⟨r2,r3⟩,h1,hm⟩:=bnd hm;refine aI.pop Zd (aPm Z1 (GA.data _)) (aTo underlying24 bR9 bTn Z1 h1) rfl ?_;obtain ⟨r5,h4,hm⟩:=bnd hm;refine W ?_;refine cg (fun hb=>aKj (bI h4 hb)) ?_;exact E
instance:Ct prog 27 (K2 prog GA.av (vl (ci .u64)) vb 27 sZ):=⟨fun hm=>aK2 hm⟩
attribute [local semireducible] aZ
end Go.Proofs.YtkdohhmacfoolaaGreat
