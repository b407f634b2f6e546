/- Facts. No condition. -/
import Derived.Test.YtkdohhmacfoolaaGreatNqAmU
set_option linter.unusedVariables false
set_option linter.unusedSimpArgs false
set_option maxRecDepth 20000
set_option maxHeartbeats 4000000
namespace Go.Proofs.YtkdohhmacfoolaaGreat
open Go.Proofs.Tryz Go Go.AM
attribute [local irreducible] aZ
structure bK where
 Do:Int
 A:Int
 B:Int
 Text:ByteArray
deriving DecidableEq
def fI(e:bK):List AV:=[.v (.int .i64 e.Do),.v (.int .u64 e.A),.v (.int .u64 e.B),.v (.string e.Text)]
theorem uL:CF fI 4:=⟨fun _=>rfl,fun a x hx=>by
 simp only [fI,List.mem_cons,List.not_mem_nil,or_false] at hx;rcases hx with rfl|rfl|rfl|rfl
 · exact (.v _)
 · exact (.v _)
 · exact (.v _)
 · exact (.v _),fun _=>rfl⟩
instance:CC fI 4:=⟨uL⟩
abbrev aBx(e:bK):AV:= .agg [.v (.int .i64 e.Do),vu e.A,vu e.B,.v (.string e.Text)]
@[go_sem] theorem aM7(e:bK)(r:List AV):fI e++r= .v (.int .i64 e.Do):: .v (.int .u64 e.A):: .v (.int .u64 e.B):: .v (.string e.Text)::r:=rfl
structure cM where
 List:List Int
 At:Int
deriving DecidableEq
def aG0(e:cM):List AV:=[.sl (e.List.flatMap (ci .u64)) e.List.length false,.v (.int .i64 e.At)]
theorem aWy:CF aG0 2:=⟨fun _=>rfl,fun a x hx=>by
 simp only [aG0,List.mem_cons,List.not_mem_nil,or_false] at hx;rcases hx with rfl|rfl
 · exact ((CFi .u64).sl _ _ _)
 · exact (.v _),fun _=>rfl⟩
instance:CC aG0 2:=⟨aWy⟩
abbrev rI(e:cM):AV:= .agg [vl (ci .u64) e.List,vi e.At]
@[go_sem] theorem aRi(e:cM)(r:List AV):aG0 e++r= .sl (e.List.flatMap (ci .u64)) e.List.length false:: .v (.int .i64 e.At)::r:=rfl
structure aR where
 Used:Bool
 Key:Int
deriving DecidableEq
def bH(e:aR):List AV:=[.v (.bool e.Used),.v (.int .u64 e.Key)]
theorem eZ:CF bH 2:=⟨fun _=>rfl,fun a x hx=>by
 simp only [bH,List.mem_cons,List.not_mem_nil,or_false] at hx;rcases hx with rfl|rfl
 · exact (.v _)
 · exact (.v _),fun _=>rfl⟩
instance:CC bH 2:=⟨eZ⟩
abbrev aRd(e:aR):AV:= .agg [.v (.bool e.Used),vu e.Key]
instance:CE prog 31 bH 2 (aR.mk false 0):=⟨_,underlying31,bCe,bCw,inferInstance,eZ,by decide,by decide⟩
@[go_sem] theorem aRk(e:aR)(r:List AV):bH e++r= .v (.bool e.Used):: .v (.int .u64 e.Key)::r:=rfl
structure aF where
 Graph:aU
 Slots:List aR
deriving DecidableEq
def aG1(e:aF):List AV:=[.v (.int .i64 e.Graph.Config.N),.v (.int .i64 e.Graph.Config.L),.v (.int .i64 e.Graph.Config.R),.sl (e.Graph.Hashes.flatMap dW) e.Graph.Hashes.length false,.sl (e.Graph.Edges.flatMap bE) e.Graph.Edges.length false,.sl (e.Slots.flatMap bH) e.Slots.length false]
theorem aHm:CF aG1 6:=⟨fun _=>rfl,fun a x hx=>by
 simp only [aG1,List.mem_cons,List.not_mem_nil,or_false] at hx;rcases hx with rfl|rfl|rfl|rfl|rfl|rfl
 · exact (.v _)
 · exact (.v _)
 · exact (.v _)
 · exact (nS.sl _ _ _)
 · exact (dU.sl _ _ _)
 · exact (eZ.sl _ _ _),fun _=>rfl⟩
instance:CC aG1 6:=⟨aHm⟩
abbrev eN(e:aF):AV:= .agg [.v (.int .i64 e.Graph.Config.N),vi e.Graph.Config.L,vi e.Graph.Config.R,vl dW e.Graph.Hashes,vl bE e.Graph.Edges,vl bH e.Slots]
@[go_sem] theorem aRj(e:aF)(r:List AV):aG1 e++r= .v (.int .i64 e.Graph.Config.N):: .v (.int .i64 e.Graph.Config.L):: .v (.int .i64 e.Graph.Config.R):: .sl (e.Graph.Hashes.flatMap dW) e.Graph.Hashes.length false:: .sl (e.Graph.Edges.flatMap bE) e.Graph.Edges.length false:: .sl (e.Slots.flatMap bH) e.Slots.length false::r:=rfl
structure dF where
 Key:Int
 N:Int
deriving DecidableEq
def aC7(e:dF):List AV:=[.v (.int .u64 e.Key),.v (.int .i64 e.N)]
theorem mJ:CF aC7 2:=⟨fun _=>rfl,fun a x hx=>by
 simp only [aC7,List.mem_cons,List.not_mem_nil,or_false] at hx;rcases hx with rfl|rfl
 · exact (.v _)
 · exact (.v _),fun _=>rfl⟩
instance:CC aC7 2:=⟨mJ⟩
abbrev aFr(e:dF):AV:= .agg [.v (.int .u64 e.Key),vi e.N]
@[go_sem] theorem aSr(e:dF)(r:List AV):aC7 e++r= .v (.int .u64 e.Key):: .v (.int .i64 e.N)::r:=rfl
inductive aE where
 |nil
 |mk (ahead:aE) (behind:aE) (thing:dF) (height:Int) (size:Int)
def aE.ahead:aE→aE
 | .nil=>aE.nil
 | .mk ahead behind thing height size=>ahead
def aE.behind:aE→aE
 | .nil=>aE.nil
 | .mk ahead behind thing height size=>behind
def aE.thing:aE→dF
 | .nil=>(dF.mk 0 0)
 | .mk ahead behind thing height size=>thing
def aE.height:aE→Int
 | .nil=>0
 | .mk ahead behind thing height size=>height
def aE.size:aE→Int
 | .nil=>0
 | .mk ahead behind thing height size=>size
def aE.nn:aE→Bool
 | .nil=>false
 | .mk _ _ _ _ _=>true
def aE.av:aE→AV
 | .nil=> .v (.pointer none)
 | .mk ahead behind thing height size=> .ptr [ahead.av,behind.av,.v (.int .u64 thing.Key),.v (.int .i64 thing.N),.v (.int .i64 height),.v (.int .i64 size)]
theorem aE.data:(e:aE)→AM.Data e.av
 | .nil=> .v _
 | .mk ahead behind thing height size=> .ptr _ (fun a hx=>by
  simp only [List.mem_cons,List.not_mem_nil,or_false] at hx;rcases hx with rfl|rfl|rfl|rfl|rfl|rfl
  · exact ahead.data
  · exact behind.data
  · exact (.v _)
  · exact (.v _)
  · exact (.v _)
  · exact (.v _))
theorem aE.av_nn{e:aE}(h:e.nn=true):e.av= .ptr [aE.av e.ahead,aE.av e.behind,.v (.int .u64 e.thing.Key),.v (.int .i64 e.thing.N),.v (.int .i64 e.height),.v (.int .i64 e.size)]:=by
 cases e with
 |nil=>cases h
 |mk ahead behind thing height size=>rfl
theorem aE.isn(e:aE):((!e.nn)=true∧e.av= .v (.pointer none))∨((!e.nn)=false∧ ∃xs,e.av= .ptr xs):=by
 cases e with
 |nil=>exact .inl ⟨rfl,rfl⟩
 |mk ahead behind thing height size=>exact .inr ⟨rfl,_,rfl⟩
theorem aE.cells(e:aE):e.av.cells? =some [e.av]:=by cases e<;>rfl
theorem aE.one(e:aE):e.av.one=true:=by cases e<;>rfl
structure dQ where
 s:aE
def aEx(e:dQ):List AV:=[aE.av e.s]
theorem aFv:CF aEx 1:=⟨fun _=>rfl,fun a x hx=>by
 simp only [aEx,List.mem_cons,List.not_mem_nil,or_false] at hx;rcases hx with rfl
 · exact (aE.data a.s),fun e=>by unfold aEx;simp only [List.all_cons,List.all_nil,Bool.and_true,aE.one];try rfl⟩
instance:CC aEx 1:=⟨aFv⟩
abbrev aAb(e:dQ):AV:= .agg [aE.av e.s]
@[go_sem] theorem aSq(e:dQ)(r:List AV):aEx e++r=aE.av e.s::r:=rfl
theorem bMu{a0:AV}(a0h:a0.cells? =some [a0]):aC4 prog 130 [(0,a0)]=some (.agg [a0]):=by
 unfold aC4;rw [bUq,underlying130];simp only [];rw [(by kernel_rfl:placesOf prog _=some [(0,1)])];simp only [];simp [rY,a0h,aVt,aVu,aSv]
theorem bMv{a0:AV}{a1:AV}{a2_Key:Int}{a2_N:Int}{a3:Int}{a4:Int}(a0h:a0.cells? =some [a0])(a1h:a1.cells? =some [a1]):aC4 prog 192 [(0,a0),(1,a1),(2,.agg [.v (.int .u64 a2_Key),.v (.int .i64 a2_N)]),(3,.v (.int .i64 a3)),(4,.v (.int .i64 a4))]=some (.agg [a0,a1,.v (.int .u64 a2_Key),.v (.int .i64 a2_N),.v (.int .i64 a3),.v (.int .i64 a4)]):=by
 unfold aC4;rw [cEk,underlying192];simp only [];rw [(by kernel_rfl:placesOf prog _=some [(0,1),(1,1),(2,2),(4,1),(5,1)])];simp only [];simp [rY,a0h,a1h,aVt,aVu,aSv]
@[go_sem] theorem bEa(xs:List AV):aO prog 104 (.ptr (xs)) 0=some (.ptr xs):=by kernel_rfl
@[go_sem] theorem bEe(xs:List AV):aO prog 130 (.ptr (xs)) 0=some (.ptr xs):=by kernel_rfl
@[go_sem] theorem bEf(xs:List AV):aO prog 192 (.ptr (xs)) 0=some (.ptr xs):=by kernel_rfl
@[go_sem] theorem bEg(x0:AV)(xs:List AV):aO prog 192 (.ptr (x0::xs)) 1=some (.ptr xs):=by kernel_rfl
@[go_sem] theorem bEh(x0:AV)(x1:AV)(xs:List AV):aO prog 192 (.ptr (x0::x1::xs)) 2=some (.ptr xs):=by kernel_rfl
@[go_sem] theorem bEi(x0:AV)(x1:AV)(x2:AV)(x3:AV)(xs:List AV):aO prog 192 (.ptr (x0::x1::x2::x3::xs)) 3=some (.ptr xs):=by kernel_rfl
@[go_sem] theorem bEj(x0:AV)(x1:AV)(x2:AV)(x3:AV)(x4:AV)(xs:List AV):aO prog 192 (.ptr (x0::x1::x2::x3::x4::xs)) 4=some (.ptr xs):=by kernel_rfl
@[go_sem] theorem bEo(i o:Nat):aO prog 102 (.adr i o) 0=some (.adr i (o+0)):=by kernel_rfl
@[go_sem] theorem bEu(i o:Nat):aO prog 102 (.adr i o) 1=some (.adr i (o+1)):=by kernel_rfl
@[go_sem] theorem bF1(i o:Nat):aO prog 104 (.adr i o) 0=some (.adr i (o+0)):=by kernel_rfl
@[go_sem] theorem bF3(i o:Nat):aO prog 104 (.adr i o) 1=some (.adr i (o+1)):=by kernel_rfl
@[go_sem] theorem bFb(i o:Nat):aO prog 130 (.adr i o) 0=some (.adr i (o+0)):=by kernel_rfl
@[go_sem] theorem bFe(i o:Nat):aO prog 158 (.adr i o) 0=some (.adr i (o+0)):=by kernel_rfl
@[go_sem] theorem bFf(i o:Nat):aO prog 158 (.adr i o) 1=some (.adr i (o+1)):=by kernel_rfl
@[go_sem] theorem bJo(i o:Nat):aO prog 23 (.adr i o) 0=some (.adr i (o+0)):=by kernel_rfl
@[go_sem] theorem bJv(i o:Nat):aO prog 23 (.adr i o) 1=some (.adr i (o+1)):=by kernel_rfl
@[go_sem] theorem bK1(i o:Nat):aO prog 23 (.adr i o) 2=some (.adr i (o+2)):=by kernel_rfl
@[go_sem] theorem bK8(i o:Nat):aO prog 30 (.adr i o) 0=some (.adr i (o+0)):=by kernel_rfl
@[go_sem] theorem bKi(i o:Nat):aO prog 30 (.adr i o) 2=some (.adr i (o+4)):=by kernel_rfl
@[go_sem] theorem bKl(i o:Nat):aO prog 33 (.adr i o) 0=some (.adr i (o+0)):=by kernel_rfl
@[go_sem] theorem bKp(i o:Nat):aO prog 33 (.adr i o) 1=some (.adr i (o+5)):=by kernel_rfl
@[go_sem] theorem bKu(i o:Nat):aO prog 35 (.adr i o) 0=some (.adr i (o+0)):=by kernel_rfl
@[go_sem] theorem bKv(i o:Nat):aO prog 35 (.adr i o) 1=some (.adr i (o+1)):=by kernel_rfl
@[go_sem] theorem bL8(i o:Nat):aO prog 45 (.adr i o) 3=some (.adr i (o+3)):=by kernel_rfl
@[go_sem] theorem bOg(H:aM)(x0 x1 x2:AV)(xs:List AV):cZ prog H 102 (.ptr (x0::x1::x2::xs))=some (.agg [x0,x1,x2]):=by kernel_rfl
@[go_sem] theorem bOj(H:aM)(x0 x1:AV)(xs:List AV):cZ prog H 104 (.ptr (x0::x1::xs))=some (.agg [x0,x1]):=by kernel_rfl
@[go_sem] theorem bOp(H:aM)(x:AV)(xs:List AV):cZ prog H 128 (.ptr (x::xs))=some x:=by kernel_rfl
@[go_sem] theorem bOq(H:aM)(x0:AV)(xs:List AV):cZ prog H 130 (.ptr (x0::xs))=some (.agg [x0]):=by kernel_rfl
@[go_sem] theorem bOu(H:aM)(x0 x1:AV)(xs:List AV):cZ prog H 158 (.ptr (x0::x1::xs))=some (.agg [x0,x1]):=by kernel_rfl
@[go_sem] theorem bRf(H:aM)(x0 x1 x2:AV)(xs:List AV):cZ prog H 23 (.ptr (x0::x1::x2::xs))=some (.agg [x0,x1,x2]):=by kernel_rfl
@[go_sem] theorem bOv(H:aM)(x:AV)(xs:List AV):cZ prog H 231 (.ptr (x::xs))=some x:=by kernel_rfl
@[go_sem] theorem bRk(H:aM)(x:AV)(xs:List AV):cZ prog H 24 (.ptr (x::xs))=some x:=by kernel_rfl
@[go_sem] theorem bRu(H:aM)(x:AV)(xs:List AV):cZ prog H 28 (.ptr (x::xs))=some x:=by kernel_rfl
@[go_sem] theorem bVl(H:aM)(x:AV)(xs:List AV):cZ prog H 3 (.ptr (x::xs))=some x:=by kernel_rfl
@[go_sem] theorem bS0(H:aM)(x0 x1 x2 x3 x4:AV)(xs:List AV):cZ prog H 30 (.ptr (x0::x1::x2::x3::x4::xs))=some (.agg [x0,x1,x2,x3,x4]):=by kernel_rfl
@[go_sem] theorem bS4(H:aM)(x:AV)(xs:List AV):cZ prog H 31 (.ptr (x::xs))=some x:=by kernel_rfl
@[go_sem] theorem bS9(H:aM)(x0 x1 x2 x3 x4 x5:AV)(xs:List AV):cZ prog H 33 (.ptr (x0::x1::x2::x3::x4::x5::xs))=some (.agg [x0,x1,x2,x3,x4,x5]):=by kernel_rfl
@[go_sem] theorem bSd(H:aM)(x0 x1:AV)(xs:List AV):cZ prog H 35 (.ptr (x0::x1::xs))=some (.agg [x0,x1]):=by kernel_rfl
@[go_sem] theorem bVs(H:aM)(x:AV)(xs:List AV):cZ prog H 4 (.ptr (x::xs))=some x:=by kernel_rfl
@[go_sem] theorem bSk(H:aM)(x:AV)(xs:List AV):cZ prog H 43 (.ptr (x::xs))=some x:=by kernel_rfl
@[go_sem] theorem bSp(H:aM)(x0 x1 x2 x3:AV)(xs:List AV):cZ prog H 45 (.ptr (x0::x1::x2::x3::xs))=some (.agg [x0,x1,x2,x3]):=by kernel_rfl
@[go_sem] theorem bVw(H:aM)(x:AV)(xs:List AV):cZ prog H 9 (.ptr (x::xs))=some x:=by kernel_rfl
@[go_sem] theorem bDv(H:aM)(k:IntKind)(n:Int):rX prog H 3 198 (.v (.int k n))=some (.v (.int .u64 (IntKind.u64.wrap n))):=mH underlying3 underlying198
@[go_sem] theorem bDy(H:aM)(k:IntKind)(n:Int):rX prog H 3 231 (.v (.int k n))=some (.v (.int .u64 (IntKind.u64.wrap n))):=mH underlying3 underlying231
@[go_sem] theorem bDq(H:aM)(k:IntKind)(n:Int):rX prog H 198 3 (.v (.int k n))=some (.v (.int .i64 (IntKind.i64.wrap n))):=mH underlying198 underlying3
def aD2(rec1:Int→List bK→Int→Int→Option (Int))(n_7:Int)(t29:List bK)(t30:Int)(t31:Int):Option (Int):=
 (bif (decide (t31<t30)) then
  ((idx t29 t31).bind fun x4=>
  (bif (decide (1000<(x4.Text.size:Int))) then
   some (-1)
  else
   rec1 n_7 t29 t30 (IntKind.i64.wrap (t31+1))))
 else
  some n_7)
def wH:Nat→Int→List bK→Int→Int→Option (Int)
 |0=>fun _ _ _ _=>none
 |n+1=>aD2 (wH n)
def rL(c_0:bZ)(l_1:List bK)(aTg:Int):Option (Int):=
 (bif (((decide (10<c_0.N))||(decide (4<c_0.L)))||(decide (3<c_0.R))) then
  some (-1)
 else
  ((slc l_1 0 (if aTg<(l_1.length:Int) then aTg else (l_1.length:Int))).bind fun l2=>
  wH aZ (if aTg<(l_1.length:Int) then aTg else (l_1.length:Int)) l2 (l2.length:Int) 0))
theorem aMj:K3 prog aHl (vl fI) vi vi 12 rL:=by
 intro c_0 l_1 aTg r hm
 let I1:=((fun m s=> ∃n_7 t29 t30 t31,s=⟨41,(aG (aG (aG (aG fa 7 (vi n_7)) 29 (vl fI t29)) 30 (vi t30)) 31 (vi t31)),⟨bR,64⟩⟩∧wH m n_7 t29 t30 t31=some r):Nat→St→Prop)
 exact be 41 func12 (h:=G)
instance:Ct prog 12 (K3 prog aHl (vl fI) vi vi 12 rL):=⟨aMj⟩
def wC(w_0:cM):Option (Bool):=
 some ((decide (0≤w_0.At))&&(decide (w_0.At≤(w_0.List.length:Int))))
theorem aQl:K1 prog rI vb 67 wC:=fun hm=>be 14 func67 (h:=G)
instance:Ct prog 67 (K1 prog rI vb 67 wC):=⟨aQl⟩
def aI3(rec1:cM→cM→Int→Option (Int×cM×Int))(w_1:cM)(t3:cM)(aN8:Int):Option (Int×cM×Int):=
 (bif (decide (aN8<(w_1.List.length:Int))) then
  ((idx w_1.List aN8).bind fun x4=>
  (bif (decide ((yS .u64 x4 2305843009213693951)<2305843009213693951)) then
   some ((yS .u64 x4 2305843009213693951),(cM.mk w_1.List (IntKind.i64.wrap (aN8+1))),0)
  else
   rec1 w_1 t3 (IntKind.i64.wrap (aN8+1))))
 else
  some (0,w_1,5))
def aB5:Nat→cM→cM→Int→Option (Int×cM×Int)
 |0=>fun _ _ _=>none
 |n+1=>aI3 (aB5 n)
def aAf(w_0:cM):Option (Int×cM×Int):=
 ((wC w_0).bind fun r2=>
 (bif (!r2) then
  some (0,w_0,1)
 else
  aB5 aZ w_0 (cM.mk [] 0) w_0.At))
theorem bAd{w_0:cM}{r:Int×cM×Int}(hm:aAf w_0=some r):dT prog 68 [.agg [vl (ci .u64) w_0.List,vi w_0.At]] (.tup [vu r.1,.agg [vl (ci .u64) r.2.1.List,vi r.2.1.At],vi r.2.2]):=by
 refine bd 35 func68 ?_;obtain ⟨r2,h1,hm⟩:=bnd hm;refine W ?_;refine cq (aQl h1) ?_;refine W ?_;refine cm hm (fun hm=>?_) fun hm=>?_
 · exact E
 refine W ?_;refine lp (fun m s=> ∃w_1 t3 aN8,s=⟨35,(aG (aG (aG fa 1 (.adr 1 0)) 3 (.adr 2 0)) 5 (vi aN8)),⟨(upd (upd bR 1 (.cells 1 [vl (ci .u64) w_1.List,vi w_1.At] 0)) 2 (.cells 1 [vl (ci .u64) t3.List,vi t3.At] 0)),64⟩⟩∧aB5 m w_1 t3 aN8=some r) ?_ ?_
 · refine ⟨_,?_,w_0,(cM.mk [] 0),w_0.At,rfl,hm⟩;refine St.Le.trans (bB6 2 (ys:=[.sl (((cM.mk [] 0).List).flatMap (ci .u64)) ((cM.mk [] 0).List).length false,.v (.int .i64 ((cM.mk [] 0).At))]) Z3 (.cons (.nil false) (.cons (.data _ (.v _)) .nil))) ?_;exact cn (fun j=>bif j==1 then 0 else bif j==2 then 2 else 0)
 rintro n1 s ⟨w_1,t3,aN8,rfl,hm⟩;refine W ?_;refine cm hm (fun hm=>?_) fun hm=>?_
 ·
  obtain ⟨x4,h3,hm⟩:=bnd hm;refine W ?_;refine cm hm (fun hm=>?_) fun hm=>?_
  · refine W ?_;refine bU (.agg [vl (ci .u64) w_1.List,.v (.int .i64 (IntKind.i64.wrap (aN8+1)))]) ?_;exact E
  refine W ?_;exact Lr (fun j=>bif j==1 then 1 else bif j==2 then 2 else 0)
 exact E
instance:Ct prog 68 (K1 prog rI (t3 vu rI vi) 68 aAf):=⟨fun hm=>bAd hm⟩
def yV(rec1:cM→cM→List dI→cM→Int→Int→Option ((List dI)×cM×Int))(w_2:cM)(t5:cM)(aF4:List dI)(aPq:cM)(t31:Int)(t32:Int):Option ((List dI)×cM×Int):=
 (bif (decide (t32<t31)) then
  ((aAf aPq).bind fun ⟨r6,r7,r8⟩=>
  (bif (r8 !=0) then
   some ([],w_2,r8)
  else
   ((aAf r7).bind fun ⟨r10,r11,r12⟩=>
   (bif (r12 !=0) then
    some ([],w_2,r12)
   else
    ((idx aF4 t32).bind fun x14=>
    ((stt aF4 t32 (dI.mk r6 r10)).bind fun l16=>
    rec1 w_2 t5 l16 r11 t31 (IntKind.i64.wrap (t32+1))))))))
 else
  some (aF4,aPq,0))
def vD:Nat→cM→cM→List dI→cM→Int→Int→Option ((List dI)×cM×Int)
 |0=>fun _ _ _ _ _ _=>none
 |n+1=>yV (vD n)
def xU(w_0:cM)(n_1:Int):Option ((List dI)×cM×Int):=
 ((wC w_0).bind fun r2=>
 (bif (((!r2)||(decide (n_1<0)))||(decide (128<n_1))) then
  some ([],w_0,1)
 else
  ((mkc n_1 n_1 (dI.mk 0 0)).bind fun l4=>
  vD aZ w_0 (cM.mk [] 0) l4 w_0 (l4.length:Int) 0)))
theorem aNk:K2 prog rI vi (t3 (vl dW) rI vi) 35 xU:=by
 intro w_0 n_1 r hm
 let I1:=((fun m s=> ∃w_2 t5 aF4 aPq t31 t32,s=⟨65,(aG (aG (aG (aG (aG (aG fa 2 (.adr 1 0)) 5 (.adr 2 0)) 7 (.own 3 0 aF4.length)) 8 (.adr 4 0)) 31 (vi t31)) 32 (vi t32)),⟨(upd (upd (upd (upd bR 1 (.cells 1 [vl (ci .u64) w_2.List,vi w_2.At] 0)) 2 (.cells 1 [vl (ci .u64) t5.List,vi t5.At] 0)) 3 (.cells 2 (aF4.flatMap dW) 0)) 4 (.cells 1 [vl (ci .u64) aPq.List,vi aPq.At] 0)),64⟩⟩∧vD m w_2 t5 aF4 aPq t31 t32=some r):Nat→St→Prop)
 exact be 65 func35 (h:=G)
instance:Ct prog 35 (K2 prog rI vi (t3 (vl dW) rI vi) 35 xU):=⟨aNk⟩
def uK(n_0:Int):Option (Bool):=
 some ((decide (1≤n_0))&&(decide (n_0≤1024)))
theorem aZf:K1 prog vi vb 70 uK:=fun hm=>be 9 func70 (h:=G)
instance:Ct prog 70 (K1 prog vi vb 70 uK):=⟨aZf⟩
def aJa(n_0:Int):Option ((List aR)×Int):=
 ((uK n_0).bind fun r2=>
 (bif (!r2) then
  some ([],1)
 else
  ((mkc n_0 n_0 (aR.mk false 0)).bind fun l4=>
  some (l4,0))))
theorem aUe:K1 prog vi (t2 (vl bH) vi) 37 aJa:=fun hm=>be 9 func37 (h:=G)
instance:Ct prog 37 (K1 prog vi (t2 (vl bH) vi) 37 aJa):=⟨aUe⟩
def sP(c_0:bZ)(w_1:cM):Option (aF×cM×Int):=
 (bif ((((((decide (c_0.N<1))||(decide (1024<c_0.N)))||(decide (c_0.L<1)))||(decide (16<c_0.L)))||(decide (c_0.R<1)))||(decide (8<c_0.R))) then
  some ((aF.mk (aU.mk (bZ.mk 0 0 0) [] []) []),w_1,1)
 else
  ((xU w_1 (IntKind.i64.wrap (c_0.L*c_0.R))).bind fun ⟨r2,r3,r4⟩=>
  (bif (r4 !=0) then
   some ((aF.mk (aU.mk (bZ.mk 0 0 0) [] []) []),w_1,r4)
  else
   ((aFq c_0 r2).bind fun ⟨r6,r7⟩=>
   (bif (r7 !=0) then
    some ((aF.mk (aU.mk (bZ.mk 0 0 0) [] []) []),w_1,r7)
   else
    ((aJa c_0.N).bind fun ⟨r9,r10⟩=>
    (bif (r10 !=0) then
     some ((aF.mk (aU.mk (bZ.mk 0 0 0) [] []) []),w_1,r10)
    else
     some ((aF.mk r6 r9),r3,0))))))))
theorem aMi{c_0:bZ}{w_1:cM}{r:aF×cM×Int}(hm:sP c_0 w_1=some r):dT prog 13 [.agg [vi c_0.N,vi c_0.L,vi c_0.R],.agg [vl (ci .u64) w_1.List,vi w_1.At]] (.tup [.agg [vi r.1.Graph.Config.N,vi r.1.Graph.Config.L,vi r.1.Graph.Config.R,vl dW r.1.Graph.Hashes,vl bE r.1.Graph.Edges,vl bH r.1.Slots],.agg [vl (ci .u64) r.2.1.List,vi r.2.1.At],vi r.2.2]):=by
 refine bd 84 func13 ?_;refine W ?_;refine cm hm (fun hm=>?_) fun hm=>?_
 · refine W ?_;refine AWp.regV [(3,1),(4,2),(5,3)] 64 mix (by kernel_rfl) (by kernel_rfl) (IV.cons (off:=0) Z1 (IV.cons (off:=0) Z1 (IV.cons (off:=0) Z1 IV.nil))) (N':=192) rfl ?_;refine bU (.agg [vi 0,vi 0,vi 0,.v (.slice none 0 0),.v (.slice none 0 0),.v (.slice none 0 0)]) ?_;exact E
 refine W ?_;obtain ⟨⟨r2,r3,r4⟩,h1,hm⟩:=bnd hm;refine cq (aNk h1) ?_;refine W ?_;refine cm hm (fun hm=>?_) fun hm=>?_
 · refine W ?_;refine AWp.regV [(3,1),(4,2),(5,3)] 64 mix (by kernel_rfl) (by kernel_rfl) (IV.cons (off:=0) Z1 (IV.cons (off:=0) Z1 (IV.cons (off:=0) Z1 IV.nil))) (N':=320) rfl ?_;refine bU (.agg [vi 0,vi 0,vi 0,.v (.slice none 0 0),.v (.slice none 0 0),.v (.slice none 0 0)]) ?_;exact E
 refine W ?_;obtain ⟨⟨r6,r7⟩,h5,hm⟩:=bnd hm;refine cq (aUb h5) ?_;refine W ?_;refine cm hm (fun hm=>?_) fun hm=>?_
 · refine W ?_;refine AWp.regV [(3,1),(4,2),(5,3)] 64 mix (by kernel_rfl) (by kernel_rfl) (IV.cons (off:=0) Z1 (IV.cons (off:=0) Z1 (IV.cons (off:=0) Z1 IV.nil))) (N':=448) rfl ?_;refine bU (.agg [vi 0,vi 0,vi 0,.v (.slice none 0 0),.v (.slice none 0 0),.v (.slice none 0 0)]) ?_;exact E
 refine W ?_;obtain ⟨⟨r9,r10⟩,h8,hm⟩:=bnd hm;refine cq (aUe h8) ?_;refine W ?_;refine cm hm (fun hm=>?_) fun hm=>?_
 · refine W ?_;refine AWp.regV [(3,1),(4,2),(5,3)] 64 mix (by kernel_rfl) (by kernel_rfl) (IV.cons (off:=0) Z1 (IV.cons (off:=0) Z1 (IV.cons (off:=0) Z1 IV.nil))) (N':=576) rfl ?_;refine bU (.agg [vi 0,vi 0,vi 0,.v (.slice none 0 0),.v (.slice none 0 0),.v (.slice none 0 0)]) ?_;exact E
 refine W ?_;refine AWp.regV [(4,2),(5,3),(8,139),(10,262)] 64 mix (by kernel_rfl) (by kernel_rfl) (IV.cons (off:=0) Z1 (IV.cons (off:=0) Z1 (IV.cons (off:=0) Z1 (IV.cons (off:=0) Z1 IV.nil)))) (N':=576) rfl ?_;refine W ?_;refine bU (.agg [vi r6.Config.N,vi r6.Config.L,vi r6.Config.R,vl dW r6.Hashes,vl bE r6.Edges,vl bH r9]) ?_;exact E
instance:Ct prog 13 (K2 prog aHl rI (t3 eN rI vi) 13 sP):=⟨fun hm=>aMi hm⟩
def oH(s_0:aE):Option (Int):=
 (bif (!s_0.nn) then
  some 0
 else
  ((chk s_0.nn).bind fun _=>
  some s_0.size))
theorem yI:K1 prog aE.av vi 128 oH:=fun hm=>be 9 func128 (h:=G)
instance:Ct prog 128 (K1 prog aE.av vi 128 oH):=⟨yI⟩
def aJ0(rec1:aE→Int→dF→Option (dF×Bool))(s_0:aE)(i_1:Int)(t4:dF):Option (dF×Bool):=
 ((chk s_0.nn).bind fun _=>
 ((oH s_0.ahead).bind fun r5=>
 (bif (decide (i_1<r5)) then
  ((chk s_0.nn).bind fun _=>
  rec1 s_0.ahead i_1 t4)
 else
  (bif (decide (r5<i_1)) then
   ((chk s_0.nn).bind fun _=>
   rec1 s_0.behind (IntKind.i64.wrap (i_1-(IntKind.i64.wrap (r5+1)))) t4)
  else
   ((chk s_0.nn).bind fun _=>
   some (s_0.thing,true))))))
def aBq:Nat→aE→Int→dF→Option (dF×Bool)
 |0=>fun _ _ _=>none
 |n+1=>aJ0 (aBq n)
def tP(s_0:aE)(i_1:Int):Option (dF×Bool):=
 ((dX ((decide (i_1<0))==false) 0 (oH s_0)).bind fun r2=>
 (bif ((decide (i_1<0))||(decide (r2≤i_1))) then
  some ((dF.mk 0 0),false)
 else
  aBq aZ s_0 i_1 (dF.mk 0 0)))
theorem aGd:K2 prog aE.av vi (t2 aFr vb) 97 tP:=by
 intro s_0 i_1 r hm
 let I1:=((fun m s=> ∃s_0 i_1 t4,s=⟨46,(aG (aG (aG fa 0 (aE.av s_0)) 1 (vi i_1)) 4 (.adr 1 0)),⟨(upd bR 1 (.cells 1 [vu t4.Key,vi t4.N] 0)),64⟩⟩∧aBq m s_0 i_1 t4=some r):Nat→St→Prop)
 exact be 46 func97 (h:=G)
instance:Ct prog 97 (K2 prog aE.av vi (t2 aFr vb) 97 tP):=⟨aGd⟩
def aB3(i_0:Int)(t1:dQ)(t2:Int):Option (Bool):=
 ((tP t1.s i_0).bind fun ⟨r2,r3⟩=>
 some (decide (t2≤r2.Key)))
theorem aXl{i_0:Int}{t1:dQ}{t2:Int}{r:Bool}(hm:aB3 i_0 t1 t2=some r):dT prog 130 [vi i_0,.ptr [aE.av t1.s],.ptr [vu t2]] (vb r):=by
 refine bd 18 func130 ?_;refine W ?_;obtain ⟨⟨r2,r3⟩,h1,hm⟩:=bnd hm;refine cq (aGd h1) ?_;exact E
def aGy(f_1:(Int→Option (Bool)))(rec1:Int→Int→Option (Int))(i_5:Int)(j_6:Int):Option (Int):=
 (bif (decide (i_5<j_6)) then
  ((f_1 (IntKind.i64.wrap (shr .u64 (IntKind.u64.wrap (IntKind.i64.wrap (i_5+j_6))) 1))).bind fun r2=>
  (bif (!r2) then
   rec1 (IntKind.i64.wrap ((IntKind.i64.wrap (shr .u64 (IntKind.u64.wrap (IntKind.i64.wrap (i_5+j_6))) 1))+1)) j_6
  else
   rec1 i_5 (IntKind.i64.wrap (shr .u64 (IntKind.u64.wrap (IntKind.i64.wrap (i_5+j_6))) 1))))
 else
  some i_5)
def zO(f_1:(Int→Option (Bool))):Nat→Int→Int→Option (Int)
 |0=>fun _ _=>none
 |n+1=>aGy f_1 (zO f_1 n)
def aJ3(n_0:Int)(f_1:(Int→Option (Bool))):Option (Int):=
 zO f_1 aZ 0 n_0
theorem aZ8{n_0:Int}{f_1:(Int→Option (Bool))}{r:Int}(hm:aJ3 n_0 f_1=some r){aNn:FuncId}{aE5:List AV}(aT5: ∀a,a∈aE5→AM.Data a)(bFm:(Program.funcs prog)[aNn]?.any (fun fn=>fn.body.isSome&&fn.name != "runtime.NumGoroutine")=true)(bFo: ∀ {x0 r},f_1 x0=some r→dT prog aNn ([vi x0]++aE5) (vb r)):dT prog 129 [vi n_0,.clo (.func aNn) [] aE5] (vi r):=by
 refine bd 26 func129 ?_;refine W ?_;refine lp (fun m s=> ∃i_5 j_6,s=⟨26,(aG (aG (aG fa 1 (.clo (.func aNn) [] aE5)) 5 (vi i_5)) 6 (vi j_6)),⟨bR,64⟩⟩∧zO f_1 m i_5 j_6=some r) L ?_;rintro n1 s ⟨i_5,j_6,rfl,hm⟩;refine W ?_;refine cm hm (fun hm=>?_) fun hm=>?_
 ·
  obtain ⟨r2,h1,hm⟩:=bnd hm;refine W ?_;refine aI.callQC (r:= .v (.bool r2)) Zd Z1 aT5 bFm (fun H=>(cV .nil)) (bFo h1) ?_;refine W ?_;refine cm hm (fun hm=>?_) fun hm=>?_
  · exact L
  exact L
 exact E
def aC8(d_0:dQ)(nX:Int):Option (Int):=
 ((oH d_0.s).bind fun r2=>
 ((aJ3 r2 (fun x0=>aB3 x0 d_0 nX)).bind fun r4=>
 some r4))
theorem aSz{d_0:dQ}{nX:Int}{r:Int}(hm:aC8 d_0 nX=some r):dT prog 98 [.agg [aE.av d_0.s],vu nX] (vi r):=by
 refine bd 10 func98 ?_;refine S1 ?_;refine aI.pop Zd (aPm Z1 (.agg _ (aFv.dat d_0))) (aYm (ys:=[aE.av d_0.s]) Z1 (fun H=>(.cons (.data _ (aE.data d_0.s)) .nil))) rfl ?_;refine aI.pop Zd (aPm Z1 (.v _)) (aYm (ys:=[.v (.int .u64 nX)]) Z1 (fun H=>(.cons (.data _ (.v _)) .nil))) rfl ?_;obtain ⟨r2,h1,hm⟩:=bnd hm;refine W ?_;refine cq (yI h1) ?_;obtain ⟨r4,h3,hm⟩:=bnd hm;refine W ?_;refine aI.callQ (r:= .v (.int .i64 r4)) Zd Z1 bXl (fun H=>(cV (.cons (td Z1 (bJe (zW (.ptr _ (aFv.dat d_0)) (zW (.ptr _ ((CFi .u64).dat nX)) aMc)))) .nil))) (aZ8 h3 (zW (.ptr _ (aFv.dat d_0)) (zW (.ptr _ ((CFi .u64).dat nX)) aMc)) bXm (fun h=>aXl h)) ?_;exact E
instance:Ct prog 98 (K2 prog aAb vu vi 98 aC8):=⟨fun hm=>aSz hm⟩
def aAe(d_0:dQ)(nX:Int):Option (Int×Bool):=
 ((aC8 d_0 nX).bind fun r2=>
 ((tP d_0.s r2).bind fun ⟨r4,r5⟩=>
 (bif ((!r5)||(r4.Key !=nX)) then
  some (0,false)
 else
  some (r4.N,true))))
theorem aPf:K2 prog aAb vu (t2 vi vb) 72 aAe:=fun hm=>be 27 func72 (h:=G)
instance:Ct prog 72 (K2 prog aAb vu (t2 vi vb) 72 aAe):=⟨aPf⟩
def fH(s_0:aE):Option (Int):=
 (bif (!s_0.nn) then
  some 0
 else
  ((chk s_0.nn).bind fun _=>
  some s_0.height))
theorem qJ:K1 prog aE.av vi 173 fH:=fun hm=>be 9 func173 (h:=G)
instance:Ct prog 173 (K1 prog aE.av vi 173 fH):=⟨qJ⟩
def iO(dP:aE)(kR:dF)(cN:aE):Option (aE):=
 ((fH dP).bind fun r2=>
 ((fH cN).bind fun r4=>
 ((oH dP).bind fun r6=>
 ((oH cN).bind fun r8=>
 some (aE.mk dP cN kR (IntKind.i64.wrap ((if r2<r4 then r4 else r2)+1)) (IntKind.i64.wrap ((IntKind.i64.wrap (r6+1))+r8)))))))
theorem aGx{dP:aE}{kR:dF}{cN:aE}{r:aE}(hm:iO dP kR cN=some r):dT prog 144 [aE.av dP,.agg [vu kR.Key,vi kR.N],aE.av cN] (aE.av r):=by
 refine bd 24 func144 ?_;obtain ⟨r2,h1,hm⟩:=bnd hm;refine W ?_;refine cq (qJ h1) ?_;obtain ⟨r4,h3,hm⟩:=bnd hm;refine W ?_;refine cq (qJ h3) ?_;obtain ⟨r6,h5,hm⟩:=bnd hm;refine W ?_;refine cq (yI h5) ?_;obtain ⟨r8,h7,hm⟩:=bnd hm;refine W ?_;refine cq (yI h7) ?_;refine W ?_;refine pu rfl (by simp only [go_sem,Nat.reduceBEq];exact bMv (aE.cells _) (aE.cells _)) ?_;refine aI.pop Zd (aPm Z1 (.agg _ (zW (aE.data dP) (zW (aE.data cN) (zW (.v _) (zW (.v _) (zW (.v _) (zW (.v _) aMc)))))))) (aYm (ys:=[aE.av ((aE.mk dP cN kR (IntKind.i64.wrap ((if r2<r4 then r4 else r2)+1)) (IntKind.i64.wrap ((IntKind.i64.wrap (r6+1))+r8))).ahead),aE.av ((aE.mk dP cN kR (IntKind.i64.wrap ((if r2<r4 then r4 else r2)+1)) (IntKind.i64.wrap ((IntKind.i64.wrap (r6+1))+r8))).behind),.v (.int .u64 (((aE.mk dP cN kR (IntKind.i64.wrap ((if r2<r4 then r4 else r2)+1)) (IntKind.i64.wrap ((IntKind.i64.wrap (r6+1))+r8))).thing).Key)),.v (.int .i64 (((aE.mk dP cN kR (IntKind.i64.wrap ((if r2<r4 then r4 else r2)+1)) (IntKind.i64.wrap ((IntKind.i64.wrap (r6+1))+r8))).thing).N)),.v (.int .i64 ((aE.mk dP cN kR (IntKind.i64.wrap ((if r2<r4 then r4 else r2)+1)) (IntKind.i64.wrap ((IntKind.i64.wrap (r6+1))+r8))).height)),.v (.int .i64 ((aE.mk dP cN kR (IntKind.i64.wrap ((if r2<r4 then r4 else r2)+1)) (IntKind.i64.wrap ((IntKind.i64.wrap (r6+1))+r8))).size))]) Z1 (fun H=>(.cons (.data _ (aE.data dP)) (.cons (.data _ (aE.data cN)) (.cons (.data _ (.v _)) (.cons (.data _ (.v _)) (.cons (.data _ (.v _)) (.cons (.data _ (.v _)) .nil)))))))) rfl ?_;exact E
instance:Ct prog 144 (K3 prog aE.av aFr aE.av aE.av 144 iO):=⟨fun hm=>aGx hm⟩
def rV(dP:aE)(kR:dF)(cN:aE):Option (aE):=
 ((fH dP).bind fun r2=>
 ((fH cN).bind fun r4=>
 (bif (decide ((IntKind.i64.wrap (r4+1))<r2)) then
  ((chk dP.nn).bind fun _=>
  ((fH dP.ahead).bind fun r7=>
  ((chk dP.nn).bind fun _=>
  ((fH dP.behind).bind fun r10=>
  (bif (decide (r10≤r7)) then
   ((chk dP.nn).bind fun _=>
   ((chk dP.nn).bind fun _=>
   ((chk dP.nn).bind fun _=>
   ((iO dP.behind kR cN).bind fun r15=>
   ((iO dP.ahead dP.thing r15).bind fun r17=>
   some r17)))))
  else
   ((chk dP.nn).bind fun _=>
   ((chk dP.nn).bind fun _=>
   ((chk dP.nn).bind fun _=>
   ((chk dP.behind.nn).bind fun _=>
   ((iO dP.ahead dP.thing dP.behind.ahead).bind fun r23=>
   ((chk dP.behind.nn).bind fun _=>
   ((chk dP.behind.nn).bind fun _=>
   ((iO dP.behind.behind kR cN).bind fun r27=>
   ((iO r23 dP.behind.thing r27).bind fun r29=>
   some r29))))))))))))))
 else
  ((fH cN).bind fun r31=>
  ((fH dP).bind fun r33=>
  (bif (decide ((IntKind.i64.wrap (r33+1))<r31)) then
   ((chk cN.nn).bind fun _=>
   ((fH cN.behind).bind fun r36=>
   ((chk cN.nn).bind fun _=>
   ((fH cN.ahead).bind fun r39=>
   (bif (decide (r39≤r36)) then
    ((chk cN.nn).bind fun _=>
    ((iO dP kR cN.ahead).bind fun r42=>
    ((chk cN.nn).bind fun _=>
    ((chk cN.nn).bind fun _=>
    ((iO r42 cN.thing cN.behind).bind fun r46=>
    some r46)))))
   else
    ((chk cN.nn).bind fun _=>
    ((chk cN.ahead.nn).bind fun _=>
    ((iO dP kR cN.ahead.ahead).bind fun r50=>
    ((chk cN.ahead.nn).bind fun _=>
    ((chk cN.ahead.nn).bind fun _=>
    ((chk cN.nn).bind fun _=>
    ((chk cN.nn).bind fun _=>
    ((iO cN.ahead.behind cN.thing cN.behind).bind fun r56=>
    ((iO r50 cN.ahead.thing r56).bind fun r58=>
    some r58))))))))))))))
  else
   ((iO dP kR cN).bind fun r60=>
   some r60)))))))
theorem aDy:K3 prog aE.av aFr aE.av aE.av 174 rV:=fun hm=>be 139 func174 (h:=G)
instance:Ct prog 174 (K3 prog aE.av aFr aE.av aE.av 174 rV):=⟨aDy⟩
def uO(recf:aE→dF→aE→Option (aE))(dP:aE)(kR:dF)(cN:aE):Option (aE):=
 ((fH dP).bind fun r2=>
 ((fH cN).bind fun r4=>
 (bif (decide ((IntKind.i64.wrap (r4+1))<r2)) then
  ((chk dP.nn).bind fun _=>
  ((chk dP.nn).bind fun _=>
  ((chk dP.nn).bind fun _=>
  ((recf dP.behind kR cN).bind fun r9=>
  ((rV dP.ahead dP.thing r9).bind fun r11=>
  some r11)))))
 else
  ((fH cN).bind fun r13=>
  ((fH dP).bind fun r15=>
  (bif (decide ((IntKind.i64.wrap (r15+1))<r13)) then
   ((chk cN.nn).bind fun _=>
   ((recf dP kR cN.ahead).bind fun r18=>
   ((chk cN.nn).bind fun _=>
   ((chk cN.nn).bind fun _=>
   ((rV r18 cN.thing cN.behind).bind fun r22=>
   some r22)))))
  else
   ((iO dP kR cN).bind fun r24=>
   some r24)))))))
def rU:Nat→aE→dF→aE→Option (aE)
 |0=>fun _ _ _=>none
 |n+1=>uO (rU n)
def uP(dP:aE)(kR:dF)(cN:aE):Option (aE):=rU aZ dP kR cN
theorem aPt: ∀(nn:Nat) {dP:aE} {kR:dF} {cN:aE} {r:aE} (hm:rU nn dP kR cN=some r),dT prog 143 [aE.av dP,.agg [.v (.int .u64 kR.Key),.v (.int .i64 kR.N)],aE.av cN] (aE.av r):=by
 intro nn
 induction nn with
 |zero=>
  intro dP kR cN r hm;replace hm:none=some r:=hm;cases hm
 |succ nn ih=>
  intro dP kR cN r hm;replace hm:uO (rU nn) dP kR cN=some r:=hm;refine dT.of_body func143 rfl ?_;simp only [ntmps143,List.length_cons,List.length_nil,Nat.reduceAdd,Nat.reduceSub,nD];unfold uO at hm;refine sN 64 (hp (id:=0) rfl rfl (aVo Z1 Z5) ?_);refine pA ?_;refine fs (AWp.seq' (AWp.block (sN 128 (pA ?_))));obtain ⟨r2,h1,hm⟩:=bnd hm;refine aI.callQ (r:= .v (.int .i64 r2)) Zd Z1 bHk (fun H=>(cD (aE.data _) .nil)) (qJ h1) ?_;refine pA ?_;obtain ⟨r4,h3,hm⟩:=bnd hm;refine aI.callQ (r:= .v (.int .i64 r4)) Zd Z1 bHk (fun H=>(cD (aE.data _) .nil)) (qJ h3) ?_
  iterate 3 refine pA ?_
  refine fs (AWp.condM hm Z1 (fun _ hm=>?_) (fun _ hm=>?_))
  ·
   refine sd mix (by kernel_rfl) (N':=192) rfl ?_;refine pA ?_;obtain ⟨_,h5,hm⟩:=bnd hm;refine pu rfl (aAu Z1 (aE.av_nn (yU h5))) ?_
   iterate 3 refine pA ?_
   obtain ⟨_,h6,hm⟩:=bnd hm;refine pu rfl (aAu Z1 (aE.av_nn (yU h6))) ?_
   iterate 3 refine pA ?_
   obtain ⟨_,h7,hm⟩:=bnd hm;refine pu rfl (aAu Z1 (aE.av_nn (yU h7))) ?_
   iterate 2 refine pA ?_
   refine pu rfl (lG Z1 Z3 Z2) ?_;refine pA ?_;obtain ⟨r9,h8,hm⟩:=bnd hm;refine aI.callQ (r:=aE.av r9) Zd Z1 bHj (fun H=>(cD (aE.data _) (cD (.agg _ (mJ.dat _)) (cD (aE.data _) .nil)))) (ih h8) ?_;obtain ⟨r11,h10,hm⟩:=bnd hm;refine aI.callQ (r:=aE.av r11) Zd Z1 bU3 (fun H=>(cD (aE.data _) (cD (.agg _ (mJ.dat _)) (cD (aE.data _) .nil)))) (aDy h10) ?_;refine pA ?_;refine fs (AWp.ret (qD (lD ?_)));cases hm;exact aOa (.inr rfl) Tryz.results143 (td Z1 (aE.data _))
  ·
   refine sN 192 (pA ?_);obtain ⟨r13,h12,hm⟩:=bnd hm;refine aI.callQ (r:= .v (.int .i64 r13)) Zd Z1 bHk (fun H=>(cD (aE.data _) .nil)) (qJ h12) ?_;refine pA ?_;obtain ⟨r15,h14,hm⟩:=bnd hm;refine aI.callQ (r:= .v (.int .i64 r15)) Zd Z1 bHk (fun H=>(cD (aE.data _) .nil)) (qJ h14) ?_
   iterate 3 refine pA ?_
   refine fs (AWp.condM hm Z1 (fun _ hm=>?_) (fun _ hm=>?_))
   ·
    refine sd mix (by kernel_rfl) (N':=256) rfl ?_;refine pA ?_;refine pu rfl (lG Z1 Z3 Z2) ?_;refine pA ?_;obtain ⟨_,h16,hm⟩:=bnd hm;refine pu rfl (aAu Z1 (aE.av_nn (yU h16))) ?_
    iterate 2 refine pA ?_
    obtain ⟨r18,h17,hm⟩:=bnd hm;refine aI.callQ (r:=aE.av r18) Zd Z1 bHj (fun H=>(cD (aE.data _) (cD (.agg _ (mJ.dat _)) (cD (aE.data _) .nil)))) (ih h17) ?_;refine pA ?_;obtain ⟨_,h19,hm⟩:=bnd hm;refine pu rfl (aAu Z1 (aE.av_nn (yU h19))) ?_
    iterate 3 refine pA ?_
    obtain ⟨_,h20,hm⟩:=bnd hm;refine pu rfl (aAu Z1 (aE.av_nn (yU h20))) ?_
    iterate 2 refine pA ?_
    obtain ⟨r22,h21,hm⟩:=bnd hm;refine aI.callQ (r:=aE.av r22) Zd Z1 bU3 (fun H=>(cD (aE.data _) (cD (.agg _ (mJ.dat _)) (cD (aE.data _) .nil)))) (aDy h21) ?_;refine pA ?_;refine fs (AWp.ret (qD (lD ?_)));cases hm;exact aOa (.inr rfl) Tryz.results143 (td Z1 (aE.data _))
   · refine AWp.skip (eT (aV (sN 256 (pA ?_))));refine pu rfl (lG Z1 Z3 Z2) ?_;refine pA ?_;obtain ⟨r24,h23,hm⟩:=bnd hm;refine aI.callQ (r:=aE.av r24) Zd Z1 bU2 (fun H=>(cD (aE.data _) (cD (.agg _ (mJ.dat _)) (cD (aE.data _) .nil)))) (aGx h23) ?_;refine pA ?_;refine fs (AWp.ret ?_);cases hm;exact aOa (.inr rfl) Tryz.results143 (td Z1 (aE.data _))
theorem aDx{dP:aE}{kR:dF}{cN:aE}{r:aE}(hm:uP dP kR cN=some r):dT prog 143 [aE.av dP,.agg [.v (.int .u64 kR.Key),.v (.int .i64 kR.N)],aE.av cN] (aE.av r):=aPt aZ hm
def wW(recf:aE→Int→Option (aE×aE))(s_0:aE)(aC2:Int):Option (aE×aE):=
 (bif (decide (aC2≤0)) then
  some (aE.nil,s_0)
 else
  ((oH s_0).bind fun r2=>
  (bif (decide (r2≤aC2)) then
   some (s_0,aE.nil)
  else
   ((chk s_0.nn).bind fun _=>
   ((oH s_0.ahead).bind fun r5=>
   (bif (decide (aC2≤r5)) then
    ((chk s_0.nn).bind fun _=>
    ((recf s_0.ahead aC2).bind fun ⟨r8,r9⟩=>
    ((chk s_0.nn).bind fun _=>
    ((chk s_0.nn).bind fun _=>
    ((uP r9 s_0.thing s_0.behind).bind fun r13=>
    some (r8,r13))))))
   else
    ((chk s_0.nn).bind fun _=>
    ((recf s_0.behind (IntKind.i64.wrap ((IntKind.i64.wrap (aC2-r5))-1))).bind fun ⟨r16,r17⟩=>
    ((chk s_0.nn).bind fun _=>
    ((chk s_0.nn).bind fun _=>
    ((uP s_0.ahead s_0.thing r16).bind fun r21=>
    some (r21,r17))))))))))))
def tF:Nat→aE→Int→Option (aE×aE)
 |0=>fun _ _=>none
 |n+1=>wW (tF n)
def wX(s_0:aE)(aC2:Int):Option (aE×aE):=tF aZ s_0 aC2
theorem aRy: ∀(nn:Nat) {s_0:aE} {aC2:Int} {r:aE×aE} (hm:tF nn s_0 aC2=some r),dT prog 125 [aE.av s_0,.v (.int .i64 aC2)] (.tup [aE.av r.1,aE.av r.2]):=by
 intro nn
 induction nn with
 |zero=>
  intro s_0 aC2 r hm;replace hm:none=some r:=hm;cases hm
 |succ nn ih=>
  intro s_0 aC2 r hm;replace hm:wW (tF nn) s_0 aC2=some r:=hm;refine dT.of_body func125 rfl ?_;simp only [ntmps125,List.length_cons,List.length_nil,Nat.reduceAdd,Nat.reduceSub,nD];unfold wW at hm;refine sN 64 ?_
  iterate 2 refine pA ?_
  refine fs (AWp.seq' (sN 128 ?_))
  iterate 2 refine pA ?_
  refine fs (AWp.condM hm Z1 (fun _ hm=>?_) (fun _ hm=>?_))
  ·
   refine sN 192 ?_
   iterate 3 refine pA ?_
   refine fs (AWp.ret (lD ?_));cases hm;exact aOb (.inr rfl) Tryz.results125 (td Z1 (aE.data _)) (td Z1 (aE.data _))
  ·
   refine AWp.skip (aV (AWp.seq' (sN 192 ?_)))
   iterate 2 refine pA ?_
   obtain ⟨r2,h1,hm⟩:=bnd hm;refine aI.callQ (r:= .v (.int .i64 r2)) Zd Z1 bTz (fun H=>(cD (aE.data _) .nil)) (yI h1) ?_;refine pA ?_;refine fs (AWp.condM hm Z1 (fun _ hm=>?_) (fun _ hm=>?_))
   ·
    refine sN 256 ?_
    iterate 3 refine pA ?_
    refine fs (AWp.ret (lD ?_));cases hm;exact aOb (.inr rfl) Tryz.results125 (td Z1 (aE.data _)) (td Z1 (aE.data _))
   ·
    refine AWp.skip (aV (sN 256 (pA ?_)));obtain ⟨_,h3,hm⟩:=bnd hm;refine pu rfl (aAu Z1 (aE.av_nn (yU h3))) ?_
    iterate 2 refine pA ?_
    obtain ⟨r5,h4,hm⟩:=bnd hm;refine aI.callQ (r:= .v (.int .i64 r5)) Zd Z1 bTz (fun H=>(cD (aE.data _) .nil)) (yI h4) ?_;refine pA ?_;refine fs (AWp.seq' (sN 320 ?_))
    iterate 3 refine pA ?_
    refine fs (AWp.condM hm Z1 (fun _ hm=>?_) (fun _ hm=>?_))
    ·
     refine sN 384 (pA ?_);obtain ⟨_,h6,hm⟩:=bnd hm;refine pu rfl (aAu Z1 (aE.av_nn (yU h6))) ?_
     iterate 3 refine pA ?_
     obtain ⟨⟨r8,r9⟩,h7,hm⟩:=bnd hm;refine aI.callQ (r:= .tup [aE.av r8,aE.av r9]) Zd Z1 bTy (fun H=>(cD (aE.data _) (cV .nil))) (ih h7) ?_
     iterate 5 refine pA ?_
     refine fs (sd mix (by kernel_rfl) (N':=448) rfl ?_)
     iterate 3 refine pA ?_
     obtain ⟨_,h10,hm⟩:=bnd hm;refine pu rfl (aAu Z1 (aE.av_nn (yU h10))) ?_
     iterate 3 refine pA ?_
     obtain ⟨_,h11,hm⟩:=bnd hm;refine pu rfl (aAu Z1 (aE.av_nn (yU h11))) ?_
     iterate 2 refine pA ?_
     obtain ⟨r13,h12,hm⟩:=bnd hm;refine aI.callQ (r:=aE.av r13) Zd Z1 bHj (fun H=>(cD (aE.data _) (cD (.agg _ (mJ.dat _)) (cD (aE.data _) .nil)))) (aDx h12) ?_
     iterate 2 refine pA ?_
     refine fs (AWp.ret (lD ?_));cases hm;exact aOb (.inr rfl) Tryz.results125 (td Z1 (aE.data _)) (td Z1 (aE.data _))
    ·
     refine AWp.skip (aV (sN 384 (pA ?_)));obtain ⟨_,h14,hm⟩:=bnd hm;refine pu rfl (aAu Z1 (aE.av_nn (yU h14))) ?_
     iterate 6 refine pA ?_
     obtain ⟨⟨r16,r17⟩,h15,hm⟩:=bnd hm;refine aI.callQ (r:= .tup [aE.av r16,aE.av r17]) Zd Z1 bTy (fun H=>(cD (aE.data _) (cV .nil))) (ih h15) ?_
     iterate 5 refine pA ?_
     refine fs (sd mix (by kernel_rfl) (N':=448) rfl ?_);refine pA ?_;obtain ⟨_,h18,hm⟩:=bnd hm;refine pu rfl (aAu Z1 (aE.av_nn (yU h18))) ?_
     iterate 3 refine pA ?_
     obtain ⟨_,h19,hm⟩:=bnd hm;refine pu rfl (aAu Z1 (aE.av_nn (yU h19))) ?_
     iterate 3 refine pA ?_
     obtain ⟨r21,h20,hm⟩:=bnd hm;refine aI.callQ (r:=aE.av r21) Zd Z1 bHj (fun H=>(cD (aE.data _) (cD (.agg _ (mJ.dat _)) (cD (aE.data _) .nil)))) (aDx h20) ?_
     iterate 3 refine pA ?_
     refine fs (AWp.ret ?_);cases hm;exact aOb (.inr rfl) Tryz.results125 (td Z1 (aE.data _)) (td Z1 (aE.data _))
theorem aFf{s_0:aE}{aC2:Int}{r:aE×aE}(hm:wX s_0 aC2=some r):dT prog 125 [aE.av s_0,.v (.int .i64 aC2)] (.tup [aE.av r.1,aE.av r.2]):=aRy aZ hm
def wU(recf:(List dF)→Option (aE))(l_0:List dF):Option (aE):=
 (bif ((l_0.length:Int)==0) then
  some aE.nil
 else
  ((slc l_0 0 (IntKind.i64.wrap (Int.tdiv (l_0.length:Int) 2))).bind fun l2=>
  ((recf l2).bind fun r4=>
  ((idx l_0 (IntKind.i64.wrap (Int.tdiv (l_0.length:Int) 2))).bind fun x6=>
  ((slc l_0 (IntKind.i64.wrap ((IntKind.i64.wrap (Int.tdiv (l_0.length:Int) 2))+1)) (l_0.length:Int)).bind fun l8=>
  ((recf l8).bind fun r10=>
  ((iO r4 x6 r10).bind fun r12=>
  some r12)))))))
def aAm:Nat→(List dF)→Option (aE)
 |0=>fun _=>none
 |n+1=>wU (aAm n)
def aGe(l_0:List dF):Option (aE):=aAm aZ l_0
theorem aZ1: ∀(nn:Nat) {l_0:List dF} {r:aE} (hm:aAm nn l_0=some r),dT prog 127 [.sl (l_0.flatMap aC7) l_0.length false] (aE.av r):=by
 intro nn
 induction nn with
 |zero=>
  intro l_0 r hm;replace hm:none=some r:=hm;cases hm
 |succ nn ih=>
  intro l_0 r hm;replace hm:wU (aAm nn) l_0=some r:=hm;refine dT.of_body func127 rfl ?_;simp only [ntmps127,List.length_cons,List.length_nil,Nat.reduceAdd,Nat.reduceSub,nD];unfold wU at hm;refine sN 64 (pA ?_);refine fs (AWp.seq' (sN 128 ?_))
  iterate 3 refine pA ?_
  refine fs (AWp.condM hm Z1 (fun _ hm=>?_) (fun _ hm=>?_))
  · refine sN 192 (pA ?_);refine fs (AWp.ret (lD ?_));cases hm;exact aOa (.inr rfl) Tryz.results127 (td Z1 (aE.data _))
  ·
   refine AWp.skip (aV (sN 192 ?_))
   iterate 4 refine pu rfl Zj ?_
   refine fs (sd mix (by kernel_rfl) (N':=256) rfl ?_)
   iterate 2 refine pA ?_
   obtain ⟨l2,h1,hm⟩:=bnd hm;refine pu rfl (bDc mJ underlying204 bIg Z1 rfl aZk (aRz Z1 (bId h1).2) h1) ?_;obtain ⟨r4,h3,hm⟩:=bnd hm;refine aI.callQ (r:=aE.av r4) Zd Z1 bNq (fun H=>(.cons (tdf Z1 (mJ.sl _ _ _)) .nil)) (ih h3) ?_
   iterate 2 refine pA ?_
   obtain ⟨x6,h5,hm⟩:=bnd hm;refine pu rfl (aEv mJ Zd underlying204 bIg Z1 rfl Z1 h5) ?_
   iterate 4 refine pA ?_
   obtain ⟨l8,h7,hm⟩:=bnd hm;refine pu rfl (bDc mJ underlying204 bIg Z1 rfl (aRz Z1 (bId h7).1) (bGw _) h7) ?_;obtain ⟨r10,h9,hm⟩:=bnd hm;refine aI.callQ (r:=aE.av r10) Zd Z1 bNq (fun H=>(.cons (tdf Z1 (mJ.sl _ _ _)) .nil)) (ih h9) ?_;obtain ⟨r12,h11,hm⟩:=bnd hm;refine aI.callQ (r:=aE.av r12) Zd Z1 bU2 (fun H=>(cD (aE.data _) (cD (.agg _ (mJ.dat _)) (cD (aE.data _) .nil)))) (aGx h11) ?_;refine pA ?_;refine fs (AWp.ret ?_);cases hm;exact aOa (.inr rfl) Tryz.results127 (td Z1 (aE.data _))
theorem bCa{l_0:List dF}{r:aE}(hm:aGe l_0=some r):dT prog 127 [.sl (l_0.flatMap aC7) l_0.length false] (aE.av r):=aZ1 aZ hm
def vI(a_0:aE)(b_1:aE):Option (aE):=
 ((tP b_1 0).bind fun ⟨r2,r3⟩=>
 (bif (!r3) then
  some a_0
 else
  ((wX b_1 1).bind fun ⟨r5,r6⟩=>
  ((uP a_0 r2 r6).bind fun r8=>
  some r8))))
theorem aGw{a_0:aE}{b_1:aE}{r:aE}(hm:vI a_0 b_1=some r):dT prog 126 [aE.av a_0,aE.av b_1] (aE.av r):=by
 refine bd 26 func126 ?_;refine W ?_;obtain ⟨⟨r2,r3⟩,h1,hm⟩:=bnd hm;refine cq (aGd h1) ?_;refine W ?_;refine cm hm (fun hm=>?_) fun hm=>?_
 · exact E
 refine W ?_;obtain ⟨⟨r5,r6⟩,h4,hm⟩:=bnd hm;refine cq (aFf h4) ?_;obtain ⟨r8,h7,hm⟩:=bnd hm;refine W ?_;refine cq (aDx h7) ?_;exact E
instance:Ct prog 126 (K2 prog aE.av aE.av aE.av 126 vI):=⟨fun hm=>aGw hm⟩
abbrev aI2(nX:Int)(n_2:Int)(t6:dQ)(aTd:aE)(aKb:aE):Option (dQ):=
 ((aGe [(dF.mk nX n_2)]).bind fun r7=>
 ((vI r7 aKb).bind fun r9=>
 ((vI aTd r9).bind fun r11=>
 some (dQ.mk r11))))
def aH9(d_0:dQ)(nX:Int)(n_2:Int):Option (dQ):=
 ((aC8 d_0 nX).bind fun r2=>
 ((wX d_0.s r2).bind fun ⟨r4,r5⟩=>
 ((tP r5 0).bind fun ⟨r13,r14⟩=>
 (bif (r14&&(r13.Key==nX)) then
  ((wX r5 1).bind fun ⟨r16,r17⟩=>
  aI2 nX n_2 (dQ.mk aE.nil) r4 r17)
 else
  aI2 nX n_2 (dQ.mk aE.nil) r4 r5))))
theorem bJf{d_0:dQ}{nX:Int}{n_2:Int}{r:dQ}(hm:aH9 d_0 nX n_2=some r):dT prog 96 [.agg [aE.av d_0.s],vu nX,vi n_2] (.agg [aE.av r.s]):=by
 refine bd 47 func96 ?_;obtain ⟨r2,h1,hm⟩:=bnd hm;refine W ?_;refine cq (aSz h1) ?_;obtain ⟨⟨r4,r5⟩,h3,hm⟩:=bnd hm;refine cq (aFf h3) ?_;refine V ?_;refine AWp.seqJ (fun s=> ∃nX n_2 t6 aTd aKb,s=⟨47,(aG (aG (aG (aG (aG fa 1 (vu nX)) 2 (vi n_2)) 6 (.adr 1 0)) 7 (aE.av aTd)) 8 (aE.av aKb)),⟨(upd bR 1 (.cells 1 [aE.av t6.s] 0)),64⟩⟩∧aI2 nX n_2 t6 aTd aKb=some r) ?_ ?_
 ·
  refine W ?_;obtain ⟨⟨r13,r14⟩,h12,hm⟩:=bnd hm;refine cq (aGd h12) ?_;refine W ?_;refine cm hm (fun hm=>?_) fun hm=>?_
  · refine W ?_;obtain ⟨⟨r16,r17⟩,h15,hm⟩:=bnd hm;refine cq (aFf h15) ?_;refine W ?_;exact Lr (fun j=>bif j==1 then 1 else 0)
  refine W ?_;exact Lr (fun j=>bif j==1 then 1 else 0)
 rintro s ⟨nX,n_2,t6,aTd,aKb,rfl,hm⟩;refine W ?_;refine bU (.agg [vu nX,vi n_2]) ?_;refine aL mJ [(dF.mk nX n_2)] ?_;obtain ⟨r7,h6,hm⟩:=bnd hm;refine aI.callL1 (r:=aE.av r7) (id:=68) Zd Z1 bNq Z3 (.cons (tdl mJ Z1 Z3 (by simp) Z6) .nil) (bCa h6) ?_;obtain ⟨r9,h8,hm⟩:=bnd hm;refine W ?_;refine cq (aGw h8) ?_;obtain ⟨r11,h10,hm⟩:=bnd hm;refine cq (aGw h10) ?_;refine pu rfl (by simp only [go_sem,Nat.reduceBEq];exact bMu (aE.cells _)) ?_;exact E
instance:Ct prog 96 (K3 prog aAb vu vi aAb 96 aH9):=⟨fun hm=>bJf hm⟩
abbrev aH2(rec1:dQ→dQ→List aR→Int→Int→Option (dQ×Bool))(t2:dQ)(uJ:dQ)(t14:List aR)(t15:Int)(t16:Int):Option (dQ×Bool):=
 rec1 t2 uJ t14 t15 (IntKind.i64.wrap (t16+1))
def aH1(rec1:dQ→dQ→List aR→Int→Int→Option (dQ×Bool))(t2:dQ)(uJ:dQ)(t14:List aR)(t15:Int)(t16:Int):Option (dQ×Bool):=
 (bif (decide (t16<t15)) then
  ((idx t14 t16).bind fun x4=>
  (bif (!x4.Used) then
   (bif (x4.Key !=0) then
    some ((dQ.mk aE.nil),false)
   else
    aH2 rec1 t2 uJ t14 t15 t16)
  else
   ((aAe uJ x4.Key).bind fun ⟨r6,r7⟩=>
   (bif r7 then
    some ((dQ.mk aE.nil),false)
   else
    ((aH9 uJ x4.Key t16).bind fun r9=>
    aH2 rec1 t2 r9 t14 t15 t16)))))
 else
  some (uJ,true))
def zU:Nat→dQ→dQ→List aR→Int→Int→Option (dQ×Bool)
 |0=>fun _ _ _ _ _=>none
 |n+1=>aH1 (zU n)
def sK(l_0:List aR):Option (dQ×Bool):=
 ((uK (l_0.length:Int)).bind fun r2=>
 (bif (!r2) then
  some ((dQ.mk aE.nil),false)
 else
  zU aZ (dQ.mk aE.nil) (dQ.mk aE.nil) l_0 (l_0.length:Int) 0))
theorem aJ9:K1 prog (vl bH) (t2 aAb vb) 71 sK:=by
 intro l_0 r hm
 let I1:=((fun m s=> ∃t2 uJ t14 t15 t16,s=⟨44,(aG (aG (aG (aG (aG fa 2 (.adr 1 0)) 4 (.adr 2 0)) 14 (vl bH t14)) 15 (vi t15)) 16 (vi t16)),⟨(upd (upd bR 1 (.cells 1 [aE.av t2.s] 0)) 2 (.cells 1 [aE.av uJ.s] 0)),64⟩⟩∧zU m t2 uJ t14 t15 t16=some r):Nat→St→Prop)
 exact be 44 func71 (h:=G)
instance:Ct prog 71 (K1 prog (vl bH) (t2 aAb vb) 71 sK):=⟨aJ9⟩
def aBy(l_0:List aR):Option (Bool):=
 ((sK l_0).bind fun ⟨r2,r3⟩=>
 some r3)
theorem aZe:K1 prog (vl bH) vb 50 aBy:=fun hm=>be 11 func50 (h:=G)
instance:Ct prog 50 (K1 prog (vl bH) vb 50 aBy):=⟨aZe⟩
def aJ2(rec1:aF→List aH→Int→Int→Option (Bool))(s_1:aF)(t27:List aH)(t28:Int)(t29:Int):Option (Bool):=
 (bif (decide (t29<t28)) then
  ((idx t27 t29).bind fun x6=>
  ((idx s_1.Slots x6.U).bind fun x8=>
  ((dX ((!x8.Used)==false) (aR.mk false 0) (idx s_1.Slots x6.V)).bind fun x10=>
  (bif ((!x8.Used)||(!x10.Used)) then
   some false
  else
   rec1 s_1 t27 t28 (IntKind.i64.wrap (t29+1))))))
 else
  some true)
def aBu:Nat→aF→List aH→Int→Int→Option (Bool)
 |0=>fun _ _ _ _=>none
 |n+1=>aJ2 (aBu n)
def pY(s_0:aF):Option (Bool):=
 ((lX s_0.Graph).bind fun r2=>
 ((dX ((!r2)==false) false (aBy s_0.Slots)).bind fun r4=>
 (bif (((!r2)||(!r4))||((s_0.Slots.length:Int) !=s_0.Graph.Config.N)) then
  some false
 else
  aBu aZ s_0 s_0.Graph.Edges (s_0.Graph.Edges.length:Int) 0)))
theorem aKs:K1 prog eN vb 19 pY:=by
 intro s_0 r hm
 let I1:=((fun m s=> ∃s_1 t27 t28 t29,s=⟨52,(aG (aG (aG (aG fa 1 (.adr 1 0)) 27 (vl bE t27)) 28 (vi t28)) 29 (vi t29)),⟨(upd bR 1 (.cells 1 [vi s_1.Graph.Config.N,vi s_1.Graph.Config.L,vi s_1.Graph.Config.R,vl dW s_1.Graph.Hashes,vl bE s_1.Graph.Edges,vl bH s_1.Slots] 0)),64⟩⟩∧aBu m s_1 t27 t28 t29=some r):Nat→St→Prop)
 exact be 52 func19 (h:=G)
instance:Ct prog 19 (K1 prog eN vb 19 pY):=⟨aKs⟩
def xK(l_0:List aR)(nX:Int):Option (Int×Bool):=
 ((sK l_0).bind fun ⟨r2,r3⟩=>
 (bif (!r3) then
  some (0,false)
 else
  ((aAe r2 nX).bind fun ⟨r5,r6⟩=>
  some (r5,r6))))
theorem bCt:K2 prog (vl bH) vu (t2 vi vb) 39 xK:=fun hm=>be 20 func39 (h:=G)
instance:Ct prog 39 (K2 prog (vl bH) vu (t2 vi vb) 39 xK):=⟨bCt⟩
def tX(bAc:Int):Option (Bool):=
 some (((decide (2≤bAc))&&(decide (bAc≤11)))&&(bAc !=10))
theorem aXx:K1 prog vi vb 40 tX:=fun hm=>be 13 func40 (h:=G)
instance:Ct prog 40 (K1 prog vi vb 40 tX):=⟨aXx⟩
def tY(bAc:Int):Option (Bool):=
 some ((((bAc==3)||(bAc==4))||(bAc==5))||(bAc==8))
theorem aXy:K1 prog vi vb 41 tY:=fun hm=>be 17 func41 (h:=G)
instance:Ct prog 41 (K1 prog vi vb 41 tY):=⟨aXy⟩
def aAi(s_0:aF)(v_1:Int):Option ((List Int)):=
 ((aGk s_0.Graph.Config.N s_0.Graph.Edges v_1).bind fun r2=>
 some r2)
theorem bB1:K2 prog eN vi (vl (ci .i64)) 77 aAi:=fun hm=>be 14 func77 (h:=G)
instance:Ct prog 77 (K2 prog eN vi (vl (ci .i64)) 77 aAi):=⟨bB1⟩
def vE(s_0:aF)(v_1:Int):Option (Int):=
 ((aAi s_0 v_1).bind fun r2=>
 some (r2.length:Int))
theorem aUv:K2 prog eN vi vi 75 vE:=fun hm=>be 9 func75 (h:=G)
instance:Ct prog 75 (K2 prog eN vi vi 75 vE):=⟨aUv⟩
def mY(x_0:Int):Option (Bool):=
 some (x_0 !=x_0)
theorem aPb:K1 prog vu vb 137 mY:=fun hm=>be 6 func137 (h:=G)
instance:Ct prog 137 (K1 prog vu vb 137 mY):=⟨aPb⟩
def fG(x_0:Int)(y_1:Int):Option (Bool):=
 ((mY x_0).bind fun r2=>
 ((dX (r2==true) false (mY y_1)).bind fun r4=>
 some ((r2&&(!r4))||(decide (x_0<y_1)))))
theorem gX:K2 prog vu vu vb 151 fG:=fun hm=>be 17 func151 (h:=G)
instance:Ct prog 151 (K2 prog vu vu vb 151 fG):=⟨gX⟩
def iW(rec1:List Int→Int→Int→Int→Option (List Int))(rec2:List Int→Int→Int→Int→Int→Option (List Int))(aB:List Int)(a_1:Int)(b_2:Int)(i_6:Int)(j_7:Int):Option (List Int):=
 ((dX ((decide (a_1<j_7))==true) 0 (idx aB j_7)).bind fun x2=>
 ((dX ((decide (a_1<j_7))==true) 0 (idx aB (IntKind.i64.wrap (j_7-1)))).bind fun x4=>
 ((dX ((decide (a_1<j_7))==true) false (fG x2 x4)).bind fun r6=>
 (bif ((decide (a_1<j_7))&&r6) then
  ((idx aB (IntKind.i64.wrap (j_7-1))).bind fun x8=>
  ((idx aB j_7).bind fun x10=>
  ((idx aB j_7).bind fun x12=>
  ((stt aB j_7 x8).bind fun l14=>
  ((idx l14 (IntKind.i64.wrap (j_7-1))).bind fun x16=>
  ((stt l14 (IntKind.i64.wrap (j_7-1)) x10).bind fun l18=>
  rec2 l18 a_1 b_2 i_6 (IntKind.i64.wrap (j_7-1))))))))
 else
  rec1 aB a_1 b_2 (IntKind.i64.wrap (i_6+1))))))
def gO(rec1:List Int→Int→Int→Int→Option (List Int)):Nat→List Int→Int→Int→Int→Int→Option (List Int)
 |0=>fun _ _ _ _ _=>none
 |n+1=>iW rec1 (gO rec1 n)
def iT(rec1:List Int→Int→Int→Int→Option (List Int))(aB:List Int)(a_1:Int)(b_2:Int)(i_6:Int):Option (List Int):=
 (bif (decide (i_6<b_2)) then
  gO rec1 aZ aB a_1 b_2 i_6 i_6
 else
  some aB)
def dO:Nat→List Int→Int→Int→Int→Option (List Int)
 |0=>fun _ _ _ _=>none
 |n+1=>iT (dO n)
def jP(aB:List Int)(a_1:Int)(b_2:Int):Option (List Int):=
 dO aZ aB a_1 b_2 (IntKind.i64.wrap (a_1+1))
theorem aA9{aB:List Int}{a_1:Int}{b_2:Int}{r:List Int}(hm:jP aB a_1 b_2=some r){H:aM}{i0:Nat}(he:H.ent i0= .cells 1 (aB.flatMap (ci .u64)) 0):dR prog 145 [.own i0 0 aB.length,.v (.int .i64 a_1),.v (.int .i64 b_2)] H (.tup []) (H.put i0 (.cells 1 (r.flatMap (ci .u64)) 0)):=by
 refine dR.of_bodyM func145 rfl he ?_;generalize H.ent=h0;simp only [ntmps145,List.length_cons,List.length_nil,Nat.reduceAdd,Nat.reduceSub];unfold jP at hm;refine sN 64 ?_
 iterate 3 refine pA ?_
 refine fs (AWp.block (AWp.loopM (fun m s=> ∃(aB:List Int) (a_1:Int) (b_2:Int) (i_6:Int),s=(⟨49,(aG (aG (aG (aG (fun _=>AV.any) 0 (.own i0 0 aB.length)) 1 (.v (.int .i64 a_1))) 2 (.v (.int .i64 b_2))) 6 (.v (.int .i64 i_6))),⟨(upd h0 i0 (.cells 1 (aB.flatMap (ci .u64)) 0)),64⟩⟩:St)∧dO m aB a_1 b_2 i_6=some r) aZ ?_ ?_ ?_))
 · rintro s ⟨_,_,_,_,_,h⟩;cases h
 · refine ⟨_,?_,aB,a_1,b_2,(IntKind.i64.wrap (a_1+1)),rfl,hm⟩;exact bN (aD 6 _ Z1 (aD 2 _ Z1 (aD 1 _ Z1 (aD 0 _ (bO Z1 Z6) bF)))) Zc
 ·
  rintro n1 s ⟨aB,a_1,b_2,i_6,rfl,hm⟩;replace hm:iT (dO n1) aB a_1 b_2 i_6=some r:=hm;unfold iT at hm;refine AWp.seq' (sN 128 ?_)
  iterate 3 refine pA ?_
  refine fs (AWp.condM hm Z1 (fun _ hm=>?_) (fun _ hm=>?_))
  ·
   refine AWp.skip (aV (AWp.seq' (AWp.block (sN 192 ?_))))
   iterate 2 refine pA ?_
   refine fs (AWp.block (AWp.loopM (fun m s=> ∃(aB:List Int) (a_1:Int) (b_2:Int) (i_6:Int) (j_7:Int),s=(⟨49,(aG (aG (aG (aG (aG (fun _=>AV.any) 0 (.own i0 0 aB.length)) 1 (.v (.int .i64 a_1))) 2 (.v (.int .i64 b_2))) 6 (.v (.int .i64 i_6))) 7 (.v (.int .i64 j_7))),⟨(upd h0 i0 (.cells 1 (aB.flatMap (ci .u64)) 0)),64⟩⟩:St)∧gO (dO n1) m aB a_1 b_2 i_6 j_7=some r) aZ ?_ ?_ ?_))
   · rintro s ⟨_,_,_,_,_,_,h⟩;cases h
   · refine ⟨_,?_,aB,a_1,b_2,i_6,i_6,rfl,hm⟩;exact bN (aD 7 _ Z1 (aD 6 _ Z1 (aD 2 _ Z1 (aD 1 _ Z1 (aD 0 _ (bO Z1 Z6) bF))))) Zc
   ·
    rintro n2 s ⟨aB,a_1,b_2,i_6,j_7,rfl,hm⟩;replace hm:iW (dO n1) (gO (dO n1) n2) aB a_1 b_2 i_6 j_7=some r:=hm;unfold iW at hm;refine AWp.seq' (sd mix (by kernel_rfl) (N':=128) rfl ?_)
    iterate 6 first|refine pA ?_|refine pB ?_
    obtain ⟨x2,h1,hm⟩:=bnd hm;refine pg rfl rfl Z2 (fun hb=>(aN underlying24 fF (Zh hb) Za Z6 (Zh hb) (bI h1 hb))) ?_;refine pg rfl rfl Z2 (fun hb=>(bM (CFi .u64) (Zh hb) Za (bI h1 hb) Zb)) ?_
    iterate 3 refine pB ?_
    obtain ⟨x4,h3,hm⟩:=bnd hm;refine pg rfl rfl Z2 (fun hb=>(aN underlying24 fF (Zh hb) Za Z6 (Zh hb) (bI h3 hb))) ?_;refine pg rfl rfl Z2 (fun hb=>(bM (CFi .u64) (Zh hb) Za (bI h3 hb) Zb)) ?_;obtain ⟨r6,h5,hm⟩:=bnd hm;refine aI.callQG (r:= .v (.bool r6)) Zd rfl Z2 Z1 aG3 (fun hb H=>(.cons (td (Zh hb) (.v _)) (.cons (td (Zh hb) (.v _)) .nil))) (fun hb=>gX (bI h5 hb)) ?_;refine pA ?_;refine fs (AWp.condM hm Z1 (fun _ hm=>?_) (fun _ hm=>?_))
    ·
     refine AWp.skip (aV (AWp.seq' (AWp.block (AWp.regD 64 mix (by kernel_rfl) (N':=192) rfl ?_))))
     iterate 8 refine pA ?_
     obtain ⟨x8,h7,hm⟩:=bnd hm;refine pu rfl (aN underlying24 fF Z1 Za Z6 Z1 h7) ?_;refine pu rfl (bM (CFi .u64) Z1 Za h7 Zb) ?_
     iterate 2 refine pA ?_
     obtain ⟨x10,h9,hm⟩:=bnd hm;refine pu rfl (aN underlying24 fF Z1 Za Z6 Z1 h9) ?_;refine pu rfl (bM (CFi .u64) Z1 Za h9 Zb) ?_;obtain ⟨x12,h11,hm⟩:=bnd hm;refine pu rfl (aN underlying24 fF Z1 Za Z6 Z1 h11) ?_;obtain ⟨l14,h13,hm⟩:=bnd hm;have qh13:=cY h13;refine aI.heap0 (id:=143) rfl (eR (CFi .u64) fF Z1 Z1 Za rfl h13) ?_;obtain ⟨x16,h15,hm⟩:=bnd hm;refine pu rfl (aN underlying24 fF Z1 Za Z6 Z1 h15) ?_;obtain ⟨l18,h17,hm⟩:=bnd hm;have qh17:=cY h17;refine aI.heap0 (id:=145) rfl (eR (CFi .u64) fF Z1 Z1 Za rfl h17) ?_;refine aI.fin (eT (aV (AWp.reg 64 (N':=256) rfl ?_)))
     iterate 3 refine pA ?_
     refine aI.fin (cO ?_);refine ⟨_,?_,l18,a_1,b_2,i_6,(IntKind.i64.wrap (j_7-1)),rfl,hm⟩;exact bN (aD 7 _ Z1 (aD 6 _ Z1 (aD 2 _ Z1 (aD 1 _ Z1 (aD 0 _ (bO Z1 Z6) bF))))) Zc
    ·
     refine AWp.exit (dJ (dA (cW (eT (aV (AWp.reg 64 (N':=192) rfl ?_))))))
     iterate 3 refine pA ?_
     refine aI.fin (cO ?_);refine ⟨_,?_,aB,a_1,b_2,(IntKind.i64.wrap (i_6+1)),rfl,hm⟩;exact bN (aD 6 _ Z1 (aD 2 _ Z1 (aD 1 _ Z1 (aD 0 _ (bO Z1 Z6) bF)))) Zc
  · refine AWp.exit (dJ (dA (cW ?_)));cases hm;exact aLt (.inl rfl) Tryz.results145 Zc
abbrev jH(rec1:List Int→Int→Int→Int→Option (List Int))(aB:List Int)(oR:Int)(dK:Int)(oG:Int)(aCq:Int):Option (List Int):=
 ((idx aB (IntKind.i64.wrap (dK+oG))).bind fun x2=>
 ((idx aB (IntKind.i64.wrap (dK+aCq))).bind fun x4=>
 ((fG x2 x4).bind fun r6=>
 (bif (!r6) then
  some aB
 else
  ((idx aB (IntKind.i64.wrap (dK+aCq))).bind fun x8=>
  ((idx aB (IntKind.i64.wrap (dK+oG))).bind fun x10=>
  ((idx aB (IntKind.i64.wrap (dK+oG))).bind fun x12=>
  ((stt aB (IntKind.i64.wrap (dK+oG)) x8).bind fun l14=>
  ((idx l14 (IntKind.i64.wrap (dK+aCq))).bind fun x16=>
  ((stt l14 (IntKind.i64.wrap (dK+aCq)) x10).bind fun l18=>
  rec1 l18 oR dK aCq))))))))))
def lT(rec1:List Int→Int→Int→Int→Option (List Int))(aB:List Int)(oR:Int)(dK:Int)(oG:Int):Option (List Int):=
 (bif (decide (oR≤(IntKind.i64.wrap ((IntKind.i64.wrap (2*oG))+1)))) then
  some aB
 else
  ((dX ((decide ((IntKind.i64.wrap ((IntKind.i64.wrap ((IntKind.i64.wrap (2*oG))+1))+1))<oR))==true) 0 (idx aB (IntKind.i64.wrap (dK+(IntKind.i64.wrap ((IntKind.i64.wrap (2*oG))+1)))))).bind fun x20=>
  ((dX ((decide ((IntKind.i64.wrap ((IntKind.i64.wrap ((IntKind.i64.wrap (2*oG))+1))+1))<oR))==true) 0 (idx aB (IntKind.i64.wrap ((IntKind.i64.wrap (dK+(IntKind.i64.wrap ((IntKind.i64.wrap (2*oG))+1))))+1)))).bind fun x22=>
  ((dX ((decide ((IntKind.i64.wrap ((IntKind.i64.wrap ((IntKind.i64.wrap (2*oG))+1))+1))<oR))==true) false (fG x20 x22)).bind fun r24=>
  (bif ((decide ((IntKind.i64.wrap ((IntKind.i64.wrap ((IntKind.i64.wrap (2*oG))+1))+1))<oR))&&r24) then
   jH rec1 aB oR dK oG (IntKind.i64.wrap ((IntKind.i64.wrap ((IntKind.i64.wrap (2*oG))+1))+1))
  else
   jH rec1 aB oR dK oG (IntKind.i64.wrap ((IntKind.i64.wrap (2*oG))+1)))))))
def fE:Nat→List Int→Int→Int→Int→Option (List Int)
 |0=>fun _ _ _ _=>none
 |n+1=>lT (fE n)
def kC(aB:List Int)(vS:Int)(oR:Int)(dK:Int):Option (List Int):=
 fE aZ aB oR dK vS
theorem tR{aB:List Int}{vS:Int}{oR:Int}{dK:Int}{r:List Int}(hm:kC aB vS oR dK=some r){H:aM}{i0:Nat}(he:H.ent i0= .cells 1 (aB.flatMap (ci .u64)) 0):dR prog 175 [.own i0 0 aB.length,.v (.int .i64 vS),.v (.int .i64 oR),.v (.int .i64 dK)] H (.tup []) (H.put i0 (.cells 1 (r.flatMap (ci .u64)) 0)):=by
 refine dR.of_bodyM func175 rfl he ?_;generalize H.ent=h0;simp only [ntmps175,List.length_cons,List.length_nil,Nat.reduceAdd,Nat.reduceSub];unfold kC at hm;refine sN 64 ?_
 iterate 2 refine pA ?_
 refine fs (AWp.block (AWp.loopM (fun m s=> ∃(aB:List Int) (oR:Int) (dK:Int) (oG:Int),s=(⟨76,(aG (aG (aG (aG (fun _=>AV.any) 0 (.own i0 0 aB.length)) 2 (.v (.int .i64 oR))) 3 (.v (.int .i64 dK))) 8 (.v (.int .i64 oG))),⟨(upd h0 i0 (.cells 1 (aB.flatMap (ci .u64)) 0)),64⟩⟩:St)∧fE m aB oR dK oG=some r) aZ ?_ ?_ ?_))
 · rintro s ⟨_,_,_,_,_,h⟩;cases h
 · refine ⟨_,?_,aB,oR,dK,vS,rfl,hm⟩;exact bN (aD 8 _ Z1 (aD 3 _ Z1 (aD 2 _ Z1 (aD 0 _ (bO Z1 Z6) bF)))) Zc
 ·
  rintro n1 s ⟨aB,oR,dK,oG,rfl,hm⟩;replace hm:lT (fE n1) aB oR dK oG=some r:=hm;unfold lT at hm;refine AWp.block (sN 128 ?_)
  iterate 4 refine pA ?_
  refine fs (AWp.seq' (sN 192 ?_))
  iterate 3 refine pA ?_
  refine fs (AWp.condM hm Z1 (fun _ hm=>?_) (fun _ hm=>?_))
  · refine AWp.exit (dJ (rQ Zd ?_));refine dA (cW ?_);cases hm;exact aLt (.inl rfl) Tryz.results175 Zc
  ·
   refine AWp.skip (aV (AWp.seqJ (fun s=> ∃(aB:List Int) (oR:Int) (dK:Int) (oG:Int) (aCq:Int),s=(⟨76,(aG (aG (aG (aG (aG (fun _=>AV.any) 0 (.own i0 0 aB.length)) 2 (.v (.int .i64 oR))) 3 (.v (.int .i64 dK))) 8 (.v (.int .i64 oG))) 9 (.v (.int .i64 aCq))),⟨(upd h0 i0 (.cells 1 (aB.flatMap (ci .u64)) 0)),64⟩⟩:St)∧jH (fE n1) aB oR dK oG aCq=some r) ?_ ?_))
   ·
    refine sd mix (by kernel_rfl) (N':=256) rfl ?_
    iterate 9 first|refine pA ?_|refine pB ?_
    obtain ⟨x20,h19,hm⟩:=bnd hm;refine pg rfl rfl Z2 (fun hb=>(aN underlying24 fF (Zh hb) Za Z6 (Zh hb) (bI h19 hb))) ?_;refine pg rfl rfl Z2 (fun hb=>(bM (CFi .u64) (Zh hb) Za (bI h19 hb) Zb)) ?_
    iterate 5 refine pB ?_
    obtain ⟨x22,h21,hm⟩:=bnd hm;refine pg rfl rfl Z2 (fun hb=>(aN underlying24 fF (Zh hb) Za Z6 (Zh hb) (bI h21 hb))) ?_;refine pg rfl rfl Z2 (fun hb=>(bM (CFi .u64) (Zh hb) Za (bI h21 hb) Zb)) ?_;obtain ⟨r24,h23,hm⟩:=bnd hm;refine aI.callQG (r:= .v (.bool r24)) Zd rfl Z2 Z1 aG3 (fun hb H=>(.cons (td (Zh hb) (.v _)) (.cons (td (Zh hb) (.v _)) .nil))) (fun hb=>gX (bI h23 hb)) ?_;refine pA ?_;refine fs (AWp.condM hm Z1 (fun _ hm=>?_) (fun _ hm=>?_))
    ·
     refine AWp.reg 64 (N':=320) rfl ?_
     iterate 3 refine pA ?_
     refine aI.fin (nH ?_);refine ⟨_,?_,aB,oR,dK,oG,(IntKind.i64.wrap ((IntKind.i64.wrap ((IntKind.i64.wrap (2*oG))+1))+1)),rfl,hm⟩;exact bN (aD 9 _ Z1 (aD 8 _ Z1 (aD 3 _ Z1 (aD 2 _ Z1 (aD 0 _ (bO Z1 Z6) bF))))) Zc
    · refine AWp.skip (nH ?_);refine ⟨_,?_,aB,oR,dK,oG,(IntKind.i64.wrap ((IntKind.i64.wrap (2*oG))+1)),rfl,hm⟩;exact bN (aD 9 _ Z1 (aD 8 _ Z1 (aD 3 _ Z1 (aD 2 _ Z1 (aD 0 _ (bO Z1 Z6) bF))))) Zc
   ·
    rintro s ⟨aB,oR,dK,oG,aCq,rfl,hm⟩;unfold jH at hm;refine AWp.seq' (sd mix (by kernel_rfl) (N':=128) rfl ?_)
    iterate 4 refine pA ?_
    obtain ⟨x2,h1,hm⟩:=bnd hm;refine pu rfl (aN underlying24 fF Z1 Za Z6 Z1 h1) ?_;refine pu rfl (bM (CFi .u64) Z1 Za h1 Zb) ?_
    iterate 4 refine pA ?_
    obtain ⟨x4,h3,hm⟩:=bnd hm;refine pu rfl (aN underlying24 fF Z1 Za Z6 Z1 h3) ?_;refine pu rfl (bM (CFi .u64) Z1 Za h3 Zb) ?_;obtain ⟨r6,h5,hm⟩:=bnd hm;refine aI.callQ (r:= .v (.bool r6)) Zd Z1 aG3 (fun H=>(cV (cV .nil))) (gX h5) ?_;refine pA ?_;refine fs (AWp.condM hm Z1 (fun _ hm=>?_) (fun _ hm=>?_))
    · refine AWp.ret (lD (qD (qX (qD ?_))));cases hm;exact aLt (.inr rfl) Tryz.results175 Zc
    ·
     refine AWp.skip (aV (sd mix (by kernel_rfl) (N':=192) rfl ?_))
     iterate 12 refine pA ?_
     obtain ⟨x8,h7,hm⟩:=bnd hm;refine pu rfl (aN underlying24 fF Z1 Za Z6 Z1 h7) ?_;refine pu rfl (bM (CFi .u64) Z1 Za h7 Zb) ?_
     iterate 4 refine pA ?_
     obtain ⟨x10,h9,hm⟩:=bnd hm;refine pu rfl (aN underlying24 fF Z1 Za Z6 Z1 h9) ?_;refine pu rfl (bM (CFi .u64) Z1 Za h9 Zb) ?_;obtain ⟨x12,h11,hm⟩:=bnd hm;refine pu rfl (aN underlying24 fF Z1 Za Z6 Z1 h11) ?_;obtain ⟨l14,h13,hm⟩:=bnd hm;have qh13:=cY h13;refine aI.heap0 (id:=149) rfl (eR (CFi .u64) fF Z1 Z1 Za rfl h13) ?_;obtain ⟨x16,h15,hm⟩:=bnd hm;refine pu rfl (aN underlying24 fF Z1 Za Z6 Z1 h15) ?_;obtain ⟨l18,h17,hm⟩:=bnd hm;have qh17:=cY h17;refine aI.heap0 (id:=151) rfl (eR (CFi .u64) fF Z1 Z1 Za rfl h17) ?_;refine fs (AWp.reg 64 (N':=256) rfl ?_)
     iterate 2 refine pA ?_
     refine aI.fin (eT (cO ?_));refine ⟨_,?_,l18,oR,dK,aCq,rfl,hm⟩;exact bN (aD 8 _ Z1 (aD 3 _ Z1 (aD 2 _ Z1 (aD 0 _ (bO Z1 Z6) bF)))) Zc
def lP(rec2:List Int→Int→Int→Int→Option (List Int))(aB:List Int)(nK:Int)(aJh:Int)(kD:Int):Option (List Int):=
 (bif (decide (0≤kD)) then
  ((idx aB (IntKind.i64.wrap (nK+kD))).bind fun x4=>
  ((idx aB nK).bind fun x6=>
  ((idx aB nK).bind fun x8=>
  ((stt aB nK x4).bind fun l10=>
  ((idx l10 (IntKind.i64.wrap (nK+kD))).bind fun x12=>
  ((stt l10 (IntKind.i64.wrap (nK+kD)) x6).bind fun l14=>
  ((tM (fun x=>x.length) l14.length (kC l14 aJh kD nK)).bind fun l16=>
  rec2 l16 nK aJh (IntKind.i64.wrap (kD-1)))))))))
 else
  some aB)
def jF:Nat→List Int→Int→Int→Int→Option (List Int)
 |0=>fun _ _ _ _=>none
 |n+1=>lP (jF n)
def lO(rec1:List Int→Int→Int→Int→Int→Option (List Int))(aB:List Int)(nK:Int)(aJh:Int)(aUs:Int)(i_9:Int):Option (List Int):=
 (bif (decide (0≤i_9)) then
  ((tM (fun x=>x.length) aB.length (kC aB i_9 aUs nK)).bind fun l2=>
  rec1 l2 nK aJh aUs (IntKind.i64.wrap (i_9-1)))
 else
  jF aZ aB nK aJh (IntKind.i64.wrap (aUs-1)))
def jE:Nat→List Int→Int→Int→Int→Int→Option (List Int)
 |0=>fun _ _ _ _ _=>none
 |n+1=>lO (jE n)
def mB(aB:List Int)(a_1:Int)(b_2:Int):Option (List Int):=
 jE aZ aB a_1 0 (IntKind.i64.wrap (b_2-a_1)) (IntKind.i64.wrap (Int.tdiv (IntKind.i64.wrap ((IntKind.i64.wrap (b_2-a_1))-1)) 2))
theorem aDf{aB:List Int}{a_1:Int}{b_2:Int}{r:List Int}(hm:mB aB a_1 b_2=some r){H:aM}{i0:Nat}(he:H.ent i0= .cells 1 (aB.flatMap (ci .u64)) 0):dR prog 146 [.own i0 0 aB.length,.v (.int .i64 a_1),.v (.int .i64 b_2)] H (.tup []) (H.put i0 (.cells 1 (r.flatMap (ci .u64)) 0)):=by
 refine dR.of_bodyM func146 rfl he ?_;generalize H.ent=h0;simp only [ntmps146,List.length_cons,List.length_nil,Nat.reduceAdd,Nat.reduceSub];unfold mB at hm;refine sN 64 ?_
 iterate 2 refine pA ?_
 refine fs (sN 128 (pA ?_));refine fs (sN 192 ?_)
 iterate 4 refine pA ?_
 refine fs (AWp.seq' (sN 256 ?_))
 iterate 4 refine pu rfl Zj ?_
 refine fs (AWp.block (AWp.loopM (fun m s=> ∃(aB:List Int) (nK:Int) (aJh:Int) (aUs:Int) (i_9:Int),s=(⟨56,(aG (aG (aG (aG (aG (fun _=>AV.any) 0 (.own i0 0 aB.length)) 6 (.v (.int .i64 nK))) 7 (.v (.int .i64 aJh))) 8 (.v (.int .i64 aUs))) 9 (.v (.int .i64 i_9))),⟨(upd h0 i0 (.cells 1 (aB.flatMap (ci .u64)) 0)),64⟩⟩:St)∧jE m aB nK aJh aUs i_9=some r) aZ ?_ ?_ ?_))
 · rintro s ⟨_,_,_,_,_,_,h⟩;cases h
 · refine ⟨_,?_,aB,a_1,0,(IntKind.i64.wrap (b_2-a_1)),(IntKind.i64.wrap (Int.tdiv (IntKind.i64.wrap ((IntKind.i64.wrap (b_2-a_1))-1)) 2)),rfl,hm⟩;exact bN (aD 9 _ Z1 (aD 8 _ Z1 (aD 7 _ Z1 (aD 6 _ Z1 (aD 0 _ (bO Z1 Z6) bF))))) Zc
 ·
  rintro n1 s ⟨aB,nK,aJh,aUs,i_9,rfl,hm⟩;replace hm:lO (jE n1) aB nK aJh aUs i_9=some r:=hm;unfold lO at hm;refine AWp.seq' (sN 128 ?_)
  iterate 2 refine pA ?_
  refine fs (AWp.condM hm Z1 (fun _ hm=>?_) (fun _ hm=>?_))
  ·
   refine AWp.skip (aV (AWp.seq' (AWp.block (AWp.reg 64 (N':=192) rfl ?_))))
   iterate 4 refine pA ?_
   obtain ⟨l2,h1,hm⟩:=bnd hm;have qh1:=pP h1;refine aI.callM Zd Z1 bU4 ?_ (tR (oU h1) (i0:=i0) Za) ?_
   ·
    try simp only [go_sem,Nat.reduceBEq]
    first|done|rfl|(congr 2<;>omega)
   refine aI.fin (eT (aV (AWp.reg 64 (N':=256) rfl ?_)))
   iterate 3 refine pA ?_
   refine aI.fin (cO ?_);refine ⟨_,?_,l2,nK,aJh,aUs,(IntKind.i64.wrap (i_9-1)),rfl,hm⟩;exact bN (aD 9 _ Z1 (aD 8 _ Z1 (aD 7 _ Z1 (aD 6 _ Z1 (aD 0 _ (bO Z1 Z6) bF))))) Zc
  ·
   refine AWp.exit (dJ (dA (cW (aV (sN 192 ?_)))))
   iterate 3 refine pA ?_
   refine fs (AWp.block (AWp.loopM (fun m s=> ∃(aB:List Int) (nK:Int) (aJh:Int) (kD:Int),s=(⟨56,(aG (aG (aG (aG (fun _=>AV.any) 0 (.own i0 0 aB.length)) 6 (.v (.int .i64 nK))) 7 (.v (.int .i64 aJh))) 10 (.v (.int .i64 kD))),⟨(upd h0 i0 (.cells 1 (aB.flatMap (ci .u64)) 0)),64⟩⟩:St)∧jF m aB nK aJh kD=some r) aZ ?_ ?_ ?_))
   · rintro s ⟨_,_,_,_,_,h⟩;cases h
   · refine ⟨_,?_,aB,nK,aJh,(IntKind.i64.wrap (aUs-1)),rfl,hm⟩;exact bN (aD 10 _ Z1 (aD 7 _ Z1 (aD 6 _ Z1 (aD 0 _ (bO Z1 Z6) bF)))) Zc
   ·
    rintro n2 s ⟨aB,nK,aJh,kD,rfl,hm⟩;replace hm:lP (jF n2) aB nK aJh kD=some r:=hm;unfold lP at hm;refine AWp.seq' (sN 128 ?_)
    iterate 2 refine pA ?_
    refine fs (AWp.condM hm Z1 (fun _ hm=>?_) (fun _ hm=>?_))
    ·
     refine AWp.skip (aV (AWp.seq' (AWp.block (sd mix (by kernel_rfl) (N':=192) rfl ?_))))
     iterate 10 refine pA ?_
     obtain ⟨x4,h3,hm⟩:=bnd hm;refine pu rfl (aN underlying24 fF Z1 Za Z6 Z1 h3) ?_;refine pu rfl (bM (CFi .u64) Z1 Za h3 Zb) ?_
     iterate 2 refine pA ?_
     obtain ⟨x6,h5,hm⟩:=bnd hm;refine pu rfl (aN underlying24 fF Z1 Za Z6 Z1 h5) ?_;refine pu rfl (bM (CFi .u64) Z1 Za h5 Zb) ?_;obtain ⟨x8,h7,hm⟩:=bnd hm;refine pu rfl (aN underlying24 fF Z1 Za Z6 Z1 h7) ?_;obtain ⟨l10,h9,hm⟩:=bnd hm;have qh9:=cY h9;refine aI.heap0 (id:=145) rfl (eR (CFi .u64) fF Z1 Z1 Za rfl h9) ?_;obtain ⟨x12,h11,hm⟩:=bnd hm;refine pu rfl (aN underlying24 fF Z1 Za Z6 Z1 h11) ?_;obtain ⟨l14,h13,hm⟩:=bnd hm;have qh13:=cY h13;refine aI.heap0 (id:=147) rfl (eR (CFi .u64) fF Z1 Z1 Za rfl h13) ?_;refine fs (AWp.reg 64 (N':=256) rfl ?_)
     iterate 4 refine pA ?_
     obtain ⟨l16,h15,hm⟩:=bnd hm;have qh15:=pP h15;refine aI.callM Zd Z1 bU4 ?_ (tR (oU h15) (i0:=i0) Za) ?_
     ·
      try simp only [go_sem,Nat.reduceBEq]
      first|done|rfl|(congr 2<;>omega)
     refine aI.fin (eT (aV (AWp.reg 64 (N':=320) rfl ?_)))
     iterate 3 refine pA ?_
     refine aI.fin (cO ?_);refine ⟨_,?_,l16,nK,aJh,(IntKind.i64.wrap (kD-1)),rfl,hm⟩;exact bN (aD 10 _ Z1 (aD 7 _ Z1 (aD 6 _ Z1 (aD 0 _ (bO Z1 Z6) bF)))) Zc
    · refine AWp.exit (dJ (dA (cW ?_)));cases hm;exact aLt (.inl rfl) Tryz.results146 Zc
def nB(aNx:Int):Option (Int):=
 ((xS (IntKind.u64.wrap aNx)).bind fun r2=>
 ((chk (decide (0≤r2))).bind fun _=>
 some (shl .u64 1 r2)))
theorem uI{aNx:Int}{r:Int}(hm:nB aNx=some r):dT prog 176 [vi aNx] (vu r):=by
 refine bd 7 func176 ?_;obtain ⟨r2,h1,hm⟩:=bnd hm;refine W ?_;refine cq (aL3 h1) ?_;obtain ⟨_,h3,hm⟩:=bnd hm;exact E
instance:Ct prog 176 (K1 prog vi vu 176 nB):=⟨fun hm=>uI hm⟩
def yJ(r_0:Int):Option (Int×Int):=
 some ((aC6 .u64 (aC6 .u64 (aC6 .u64 r_0 (shl .u64 r_0 13)) (shr .u64 (aC6 .u64 r_0 (shl .u64 r_0 13)) 7)) (shl .u64 (aC6 .u64 (aC6 .u64 r_0 (shl .u64 r_0 13)) (shr .u64 (aC6 .u64 r_0 (shl .u64 r_0 13)) 7)) 17)),(aC6 .u64 (aC6 .u64 (aC6 .u64 r_0 (shl .u64 r_0 13)) (shr .u64 (aC6 .u64 r_0 (shl .u64 r_0 13)) 7)) (shl .u64 (aC6 .u64 (aC6 .u64 r_0 (shl .u64 r_0 13)) (shr .u64 (aC6 .u64 r_0 (shl .u64 r_0 13)) 7)) 17)))
theorem aHj{r_0:Int}{r:Int×Int}(hm:yJ r_0=some r){H:aM}{i0:Nat}(he:H.ent i0= .cells 1 [.v (.int .u64 r_0)] 0):dR prog 177 [.adr i0 0] H (.v (.int .u64 r.1)) (H.put i0 (.cells 1 [.v (.int .u64 r.2)] 0)):=by
 refine dR.of_bodyM func177 rfl he ?_;generalize H.ent=h0;simp only [ntmps177,List.length_cons,List.length_nil,Nat.reduceAdd,Nat.reduceSub];unfold yJ at hm;refine sN 64 (pA ?_);refine fs (sd mix (by kernel_rfl) (N':=128) rfl ?_)
 iterate 2 refine pA ?_
 refine pu rfl (lG Z1 Za Z2) ?_
 iterate 2 refine pA ?_
 refine pu rfl (lG Z1 Za Z2) ?_
 iterate 3 refine pu rfl Zj ?_
 refine aI.heap0 (id:=73) rfl (rK (ys:=[.v (.int .u64 (aC6 .u64 r_0 (shl .u64 r_0 13)))]) aWs Z1 Z1 Za rfl (lB rfl) Z9 rfl) ?_;refine fs (sd mix (by kernel_rfl) (N':=192) rfl ?_)
 iterate 2 refine pA ?_
 refine pu rfl (lG Z1 Za Z2) ?_
 iterate 2 refine pA ?_
 refine pu rfl (lG Z1 Za Z2) ?_
 iterate 3 refine pu rfl Zj ?_
 refine aI.heap0 (id:=137) rfl (rK (ys:=[.v (.int .u64 (aC6 .u64 (aC6 .u64 r_0 (shl .u64 r_0 13)) (shr .u64 (aC6 .u64 r_0 (shl .u64 r_0 13)) 7)))]) aWs Z1 Z1 Za rfl (lB rfl) Z9 rfl) ?_;refine fs (sd mix (by kernel_rfl) (N':=256) rfl ?_)
 iterate 2 refine pA ?_
 refine pu rfl (lG Z1 Za Z2) ?_
 iterate 2 refine pA ?_
 refine pu rfl (lG Z1 Za Z2) ?_
 iterate 3 refine pu rfl Zj ?_
 refine aI.heap0 (id:=201) rfl (rK (ys:=[.v (.int .u64 (aC6 .u64 (aC6 .u64 (aC6 .u64 r_0 (shl .u64 r_0 13)) (shr .u64 (aC6 .u64 r_0 (shl .u64 r_0 13)) 7)) (shl .u64 (aC6 .u64 (aC6 .u64 r_0 (shl .u64 r_0 13)) (shr .u64 (aC6 .u64 r_0 (shl .u64 r_0 13)) 7)) 17)))]) aWs Z1 Z1 Za rfl (lB rfl) Z9 rfl) ?_;refine fs (sN 320 ?_)
 iterate 2 refine pA ?_
 refine pu rfl (lG Z1 Za Z2) ?_;refine pA ?_;refine fs (AWp.ret ?_);cases hm;exact aGc (.inr rfl) Tryz.results177 Z1 Zc
abbrev lZ(rec1:List Int→Int→Int→Int→Int→Int→Option (List Int))(aB:List Int)(a_1:Int)(lK:Int)(nP:Int)(iC:Int)(sY:Int):Option (List Int):=
 rec1 aB a_1 lK nP iC (IntKind.i64.wrap (sY+1))
abbrev gM(rec1:List Int→Int→Int→Int→Int→Int→Option (List Int))(aB:List Int)(a_1:Int)(lK:Int)(nP:Int)(iC:Int)(sY:Int)(aF9:Int):Option (List Int):=
 ((idx aB (IntKind.i64.wrap (a_1+aF9))).bind fun x7=>
 ((idx aB sY).bind fun x9=>
 ((idx aB sY).bind fun x11=>
 ((stt aB sY x7).bind fun l13=>
 ((idx l13 (IntKind.i64.wrap (a_1+aF9))).bind fun x15=>
 ((stt l13 (IntKind.i64.wrap (a_1+aF9)) x9).bind fun l17=>
 lZ rec1 l17 a_1 lK nP iC sY))))))
def iQ(rec1:List Int→Int→Int→Int→Int→Int→Option (List Int))(aB:List Int)(a_1:Int)(lK:Int)(nP:Int)(iC:Int)(sY:Int):Option (List Int):=
 (bif (decide (sY≤(IntKind.i64.wrap ((IntKind.i64.wrap (a_1+(IntKind.i64.wrap ((IntKind.i64.wrap (Int.tdiv lK 4))*2))))+1)))) then
  ((yJ nP).bind fun ⟨r5,x4⟩=>
  (bif (decide (lK≤(IntKind.i64.wrap (yS .u64 r5 (IntKind.u64.wrap (iC-1)))))) then
   gM rec1 aB a_1 lK x4 iC sY (IntKind.i64.wrap ((IntKind.i64.wrap (yS .u64 r5 (IntKind.u64.wrap (iC-1))))-lK))
  else
   gM rec1 aB a_1 lK x4 iC sY (IntKind.i64.wrap (yS .u64 r5 (IntKind.u64.wrap (iC-1))))))
 else
  some aB)
def dM:Nat→List Int→Int→Int→Int→Int→Int→Option (List Int)
 |0=>fun _ _ _ _ _ _=>none
 |n+1=>iQ (dM n)
def jN(aB:List Int)(a_1:Int)(b_2:Int):Option (List Int):=
 (bif (decide (8≤(IntKind.i64.wrap (b_2-a_1)))) then
  ((nB (IntKind.i64.wrap (b_2-a_1))).bind fun r2=>
  dM aZ aB a_1 (IntKind.i64.wrap (b_2-a_1)) (IntKind.u64.wrap (IntKind.i64.wrap (b_2-a_1))) r2 (IntKind.i64.wrap ((IntKind.i64.wrap (a_1+(IntKind.i64.wrap ((IntKind.i64.wrap (Int.tdiv (IntKind.i64.wrap (b_2-a_1)) 4))*2))))-1)))
 else
  some aB)
theorem aA6{aB:List Int}{a_1:Int}{b_2:Int}{r:List Int}(hm:jN aB a_1 b_2=some r){H:aM}{i0:Nat}(he:H.ent i0= .cells 1 (aB.flatMap (ci .u64)) 0)(hk: ∀id,3000000≤id→H.ent id= .fresh)(hD: ∀id,aDl (H.ent id))(hi:i0<3000000):dR prog 147 [.own i0 0 aB.length,.v (.int .i64 a_1),.v (.int .i64 b_2)] H (.tup []) (H.put i0 (.cells 1 (r.flatMap (ci .u64)) 0)):=by
 refine dR.of_bodyK func147 rfl he hk ?_;clear he;generalize H.ent=h0 at hk hD⊢;have hne1: ∀ {k:Nat},3000000≤k→(k==i0)=false:=fun hh=>by simp;omega
 have hne2: ∀ {k:Nat},3000000≤k→(i0==k)=false:=fun hh=>by simp;omega
 simp only [ntmps147,List.length_cons,List.length_nil,Nat.reduceAdd,Nat.reduceSub];unfold jN at hm;refine AWp.behind ?_;refine sN 3000064 ?_
 iterate 4 refine pA ?_
 refine fs (sN 3000128 ?_)
 iterate 2 refine pA ?_
 refine fs (AWp.condM hm Z1 (fun _ hm=>?_) (fun _ hm=>?_))
 ·
  refine sN 3000192 ?_
  iterate 2 refine pA ?_
  refine hp (id:=3000130) rfl rfl (qV bUr (by simp only [fZ,hne1,Nat.reduceLeDiff,Nat.reduceBEq,cond_true,cond_false];exact frK hk Zd)) ?_;refine aI.heap0 (id:=3000131) rfl (rK (ys:=[.v (.int .u64 (IntKind.u64.wrap (IntKind.i64.wrap (b_2-a_1))))]) aWs Z1 Z1 Ze rfl (lB rfl) Z9 rfl) ?_;refine fs (sN 3000256 (pA ?_));obtain ⟨r2,h1,hm⟩:=bnd hm;refine aI.callQ (r:= .v (.int .u64 r2)) Zd Z1 bU5 (fun H=>(cV .nil)) (uI h1) ?_;refine pA ?_;refine fs (sN 3000320 ?_)
  iterate 7 refine pu rfl Zj ?_
  refine fs (AWp.block (AWp.loopM (fun m s=> ∃(aB:List Int) (a_1:Int) (lK:Int) (nP:Int) (iC:Int) (sY:Int),s=(⟨65,(aG (aG (aG (aG (aG (aG (fun _=>AV.any) 0 (.own i0 0 aB.length)) 1 (.v (.int .i64 a_1))) 6 (.v (.int .i64 lK))) 7 (.adr 3000130 0)) 8 (.v (.int .u64 iC))) 9 (.v (.int .i64 sY))),⟨(upd (upd h0 i0 (.cells 1 (aB.flatMap (ci .u64)) 0)) 3000130 (.cells 1 [.v (.int .u64 nP)] 0)),64⟩⟩:St)∧dM m aB a_1 lK nP iC sY=some r) aZ ?_ ?_ ?_))
  · rintro s ⟨_,_,_,_,_,_,_,h⟩;cases h
  · refine ⟨_,?_,aB,a_1,(IntKind.i64.wrap (b_2-a_1)),(IntKind.u64.wrap (IntKind.i64.wrap (b_2-a_1))),r2,(IntKind.i64.wrap ((IntKind.i64.wrap (a_1+(IntKind.i64.wrap ((IntKind.i64.wrap (Int.tdiv (IntKind.i64.wrap (b_2-a_1)) 4))*2))))-1)),rfl,hm⟩;exact bN (aD 9 _ Z1 (aD 8 _ Z1 (aD 7 _ Z1 (aD 6 _ Z1 (aD 1 _ Z1 (aD 0 _ (bO Z1 Z6) bF)))))) Zi
  ·
   rintro n1 s ⟨aB,a_1,lK,nP,iC,sY,rfl,hm⟩;replace hm:iQ (dM n1) aB a_1 lK nP iC sY=some r:=hm;unfold iQ at hm;refine AWp.seq' (sN 128 ?_)
   iterate 8 refine pu rfl Zj ?_
   refine fs (AWp.condM hm Z1 (fun _ hm=>?_) (fun _ hm=>?_))
   ·
    refine AWp.skip (aV (AWp.seqJ (fun s=> ∃(aB:List Int) (a_1:Int) (lK:Int) (nP:Int) (iC:Int) (sY:Int),s=(⟨65,(aG (aG (aG (aG (aG (aG (fun _=>AV.any) 0 (.own i0 0 aB.length)) 1 (.v (.int .i64 a_1))) 6 (.v (.int .i64 lK))) 7 (.adr 3000130 0)) 8 (.v (.int .u64 iC))) 9 (.v (.int .i64 sY))),⟨(upd (upd h0 i0 (.cells 1 (aB.flatMap (ci .u64)) 0)) 3000130 (.cells 1 [.v (.int .u64 nP)] 0)),64⟩⟩:St)∧lZ (dM n1) aB a_1 lK nP iC sY=some r) ?_ ?_))
    ·
     refine AWp.block (sN 192 ?_);obtain ⟨⟨r5,x4⟩,h3,hm⟩:=bnd hm;refine aI.callM Zd Z1 bU6 Z1 (aHj h3 Ze) ?_
     iterate 5 refine pA ?_
     refine fs (AWp.seqJ (fun s=> ∃(aB:List Int) (a_1:Int) (lK:Int) (nP:Int) (iC:Int) (sY:Int) (aF9:Int),s=(⟨65,(aG (aG (aG (aG (aG (aG (aG (fun _=>AV.any) 0 (.own i0 0 aB.length)) 1 (.v (.int .i64 a_1))) 6 (.v (.int .i64 lK))) 7 (.adr 3000130 0)) 8 (.v (.int .u64 iC))) 9 (.v (.int .i64 sY))) 10 (.v (.int .i64 aF9))),⟨(upd (upd h0 i0 (.cells 1 (aB.flatMap (ci .u64)) 0)) 3000130 (.cells 1 [.v (.int .u64 nP)] 0)),64⟩⟩:St)∧gM (dM n1) aB a_1 lK nP iC sY aF9=some r) ?_ ?_)
     ·
      refine sN 256 ?_
      iterate 3 refine pA ?_
      refine fs (AWp.condM hm Z1 (fun _ hm=>?_) (fun _ hm=>?_))
      ·
       refine AWp.reg 64 (N':=320) rfl ?_
       iterate 4 refine pA ?_
       refine aI.fin (nH ?_);refine ⟨_,?_,aB,a_1,lK,x4,iC,sY,(IntKind.i64.wrap ((IntKind.i64.wrap (yS .u64 r5 (IntKind.u64.wrap (iC-1))))-lK)),rfl,hm⟩;exact bN (aD 10 _ Z1 (aD 9 _ Z1 (aD 8 _ Z1 (aD 7 _ Z1 (aD 6 _ Z1 (aD 1 _ Z1 (aD 0 _ (bO Z1 Z6) bF))))))) Zi
      · refine AWp.skip (nH ?_);refine ⟨_,?_,aB,a_1,lK,x4,iC,sY,(IntKind.i64.wrap (yS .u64 r5 (IntKind.u64.wrap (iC-1)))),rfl,hm⟩;exact bN (aD 10 _ Z1 (aD 9 _ Z1 (aD 8 _ Z1 (aD 7 _ Z1 (aD 6 _ Z1 (aD 1 _ Z1 (aD 0 _ (bO Z1 Z6) bF))))))) Zi
     ·
      rintro s ⟨aB,a_1,lK,nP,iC,sY,aF9,rfl,hm⟩;unfold gM at hm;refine AWp.regD 64 mix (by kernel_rfl) (N':=128) rfl ?_
      iterate 10 refine pA ?_
      obtain ⟨x7,h6,hm⟩:=bnd hm;refine pu rfl (aN underlying24 fF Z1 Ze Z6 Z1 h6) ?_;refine pu rfl (bM (CFi .u64) Z1 Ze h6 Zb) ?_
      iterate 2 refine pA ?_
      obtain ⟨x9,h8,hm⟩:=bnd hm;refine pu rfl (aN underlying24 fF Z1 Ze Z6 Z1 h8) ?_;refine pu rfl (bM (CFi .u64) Z1 Ze h8 Zb) ?_;obtain ⟨x11,h10,hm⟩:=bnd hm;refine pu rfl (aN underlying24 fF Z1 Ze Z6 Z1 h10) ?_;obtain ⟨l13,h12,hm⟩:=bnd hm;have qh12:=cY h12;refine aI.heap0 (id:=81) rfl (eR (CFi .u64) fF Z1 Z1 Ze rfl h12) ?_;obtain ⟨x15,h14,hm⟩:=bnd hm;refine pu rfl (aN underlying24 fF Z1 Ze Z6 Z1 h14) ?_;obtain ⟨l17,h16,hm⟩:=bnd hm;have qh16:=cY h16;refine aI.heap0 (id:=83) rfl (eR (CFi .u64) fF Z1 Z1 Ze rfl h16) ?_;refine aI.fin (eT (nH ?_));refine ⟨_,?_,l17,a_1,lK,nP,iC,sY,rfl,hm⟩;exact bN (aD 9 _ Z1 (aD 8 _ Z1 (aD 7 _ Z1 (aD 6 _ Z1 (aD 1 _ Z1 (aD 0 _ (bO Z1 Z6) bF)))))) Zi
    ·
     rintro s ⟨aB,a_1,lK,nP,iC,sY,rfl,hm⟩;unfold lZ at hm;refine AWp.reg 64 (N':=128) rfl ?_
     iterate 3 refine pA ?_
     refine aI.fin (cO ?_);refine ⟨_,?_,aB,a_1,lK,nP,iC,(IntKind.i64.wrap (sY+1)),rfl,hm⟩;exact bN (aD 9 _ Z1 (aD 8 _ Z1 (aD 7 _ Z1 (aD 6 _ Z1 (aD 1 _ Z1 (aD 0 _ (bO Z1 Z6) bF)))))) Zi
   · refine AWp.exit (dJ (dA (cW ?_)));cases hm;exact aJe (.inl rfl) Tryz.results147 (by intro q hq;simp only [upd];all_goals ((repeat' split)<;>first|rfl|omega)) (fun q hq=>by rw [upd_ne _ _ _ _ om];exact hk q hq) (nM (wB (CFi .u64)) hD)
 · refine AWp.skip ?_;cases hm;exact aJe (.inl rfl) Tryz.results147 (by intro q hq;simp only [upd];all_goals ((repeat' split)<;>first|rfl|omega)) (fun q hq=>by rw [upd_ne _ _ _ _ om];exact hk q hq) (nM (wB (CFi .u64)) hD)
def iN(aB:List Int)(a_1:Int)(b_2:Int)(yL:Int):Option (Int×Int×Int):=
 ((idx aB b_2).bind fun x2=>
 ((idx aB a_1).bind fun x4=>
 ((fG x2 x4).bind fun r6=>
 (bif r6 then
  some (b_2,a_1,(IntKind.i64.wrap (yL+1)))
 else
  some (a_1,b_2,yL)))))
theorem qZ{aB:List Int}{a_1:Int}{b_2:Int}{yL:Int}{r:Int×Int×Int}(hm:iN aB a_1 b_2 yL=some r){H:aM}{i0:Nat}(he:H.ent i0= .cells 1 [.v (.int .i64 yL)] 0):dR prog 194 [.sl (aB.flatMap (ci .u64)) aB.length false,.v (.int .i64 a_1),.v (.int .i64 b_2),.adr i0 0] H (.tup [.v (.int .i64 r.1),.v (.int .i64 r.2.1)]) (H.put i0 (.cells 1 [.v (.int .i64 r.2.2)] 0)):=by
 refine dR.of_bodyM func194 rfl he ?_;generalize H.ent=h0;simp only [ntmps194,List.length_cons,List.length_nil,Nat.reduceAdd,Nat.reduceSub];unfold iN at hm;refine sN 64 ?_
 iterate 2 refine pA ?_
 refine fs (AWp.seq' (sd mix (by kernel_rfl) (N':=128) rfl ?_))
 iterate 2 refine pA ?_
 obtain ⟨x2,h1,hm⟩:=bnd hm;refine pu rfl (aEv (CFi .u64) Zd underlying24 fF Z1 rfl Z1 h1) ?_
 iterate 3 refine pA ?_
 obtain ⟨x4,h3,hm⟩:=bnd hm;refine pu rfl (aEv (CFi .u64) Zd underlying24 fF Z1 rfl Z1 h3) ?_;refine pA ?_;obtain ⟨r6,h5,hm⟩:=bnd hm;refine aI.callQ (r:= .v (.bool r6)) Zd Z1 aG3 (fun H=>(cV (cV .nil))) (gX h5) ?_;refine fs (AWp.condM hm Z1 (fun _ hm=>?_) (fun _ hm=>?_))
 ·
  refine sN 192 ?_
  iterate 2 refine pA ?_
  refine pu rfl (lG Z1 Za Z2) ?_
  iterate 2 refine pA ?_
  refine aI.heap0 (id:=133) rfl (rK (ys:=[.v (.int .i64 (IntKind.i64.wrap (yL+1)))]) sz3 Z1 Z1 Za rfl (lB rfl) Z9 rfl) ?_;refine fs (sN 256 ?_)
  iterate 4 refine pA ?_
  refine fs (AWp.ret (lD ?_));cases hm;exact aR2 (.inr rfl) Tryz.results194 Z1 Z1 Zc
 ·
  refine AWp.skip (aV (sN 192 ?_))
  iterate 4 refine pA ?_
  refine fs (AWp.ret ?_);cases hm;exact aR2 (.inr rfl) Tryz.results194 Z1 Z1 Zc
def kQ(aB:List Int)(a_1:Int)(b_2:Int)(c_3:Int)(aEh:Int):Option (Int×Int):=
 ((iN aB a_1 b_2 aEh).bind fun ⟨r3,r4,x2⟩=>
 ((iN aB r4 c_3 x2).bind fun ⟨r7,r8,x6⟩=>
 ((iN aB r3 r7 x6).bind fun ⟨r11,r12,x10⟩=>
 some (r12,x10))))
theorem vX{aB:List Int}{a_1:Int}{b_2:Int}{c_3:Int}{aEh:Int}{r:Int×Int}(hm:kQ aB a_1 b_2 c_3 aEh=some r){H:aM}{i0:Nat}(he:H.ent i0= .cells 1 [.v (.int .i64 aEh)] 0):dR prog 179 [.sl (aB.flatMap (ci .u64)) aB.length false,.v (.int .i64 a_1),.v (.int .i64 b_2),.v (.int .i64 c_3),.adr i0 0] H (.v (.int .i64 r.1)) (H.put i0 (.cells 1 [.v (.int .i64 r.2)] 0)):=by
 refine dR.of_bodyM func179 rfl he ?_;generalize H.ent=h0;simp only [ntmps179,List.length_cons,List.length_nil,Nat.reduceAdd,Nat.reduceSub];unfold kQ at hm;refine sN 64 (pA ?_);refine fs (sN 128 ?_)
 iterate 4 refine pA ?_
 obtain ⟨⟨r3,r4,x2⟩,h1,hm⟩:=bnd hm;refine aI.callM Zd Z1 bNv Z1 (qZ h1 Za) ?_
 iterate 5 refine pA ?_
 refine fs (sN 192 ?_)
 iterate 4 refine pA ?_
 obtain ⟨⟨r7,r8,x6⟩,h5,hm⟩:=bnd hm;refine aI.callM Zd Z1 bNv Z1 (qZ h5 Za) ?_
 iterate 5 refine pA ?_
 refine fs (sN 256 ?_)
 iterate 4 refine pA ?_
 obtain ⟨⟨r11,r12,x10⟩,h9,hm⟩:=bnd hm;refine aI.callM Zd Z1 bNv Z1 (qZ h9 Za) ?_
 iterate 5 refine pA ?_
 refine fs (sN 320 ?_)
 iterate 2 refine pA ?_
 refine fs (AWp.ret ?_);cases hm;exact aGc (.inr rfl) Tryz.results179 Z1 Zc
def eX(aB:List Int)(a_1:Int)(aEg:Int):Option (Int×Int):=
 ((kQ aB (IntKind.i64.wrap (a_1-1)) a_1 (IntKind.i64.wrap (a_1+1)) aEg).bind fun ⟨r3,x2⟩=>
 some (r3,x2))
theorem nJ{aB:List Int}{a_1:Int}{aEg:Int}{r:Int×Int}(hm:eX aB a_1 aEg=some r){H:aM}{i0:Nat}(he:H.ent i0= .cells 1 [.v (.int .i64 aEg)] 0):dR prog 178 [.sl (aB.flatMap (ci .u64)) aB.length false,.v (.int .i64 a_1),.adr i0 0] H (.v (.int .i64 r.1)) (H.put i0 (.cells 1 [.v (.int .i64 r.2)] 0)):=by
 refine dR.of_bodyM func178 rfl he ?_;generalize H.ent=h0;simp only [ntmps178,List.length_cons,List.length_nil,Nat.reduceAdd,Nat.reduceSub];unfold eX at hm;refine sN 64 (pA ?_);refine fs (sN 128 ?_)
 iterate 7 refine pA ?_
 obtain ⟨⟨r3,x2⟩,h1,hm⟩:=bnd hm;refine aI.callM Zd Z1 bU7 Z1 (vX h1 Za) ?_;refine pA ?_;refine fs (AWp.ret ?_);cases hm;exact aGc (.inr rfl) Tryz.results178 Z1 Zc
attribute [local semireducible] aZ
end Go.Proofs.YtkdohhmacfoolaaGreat
