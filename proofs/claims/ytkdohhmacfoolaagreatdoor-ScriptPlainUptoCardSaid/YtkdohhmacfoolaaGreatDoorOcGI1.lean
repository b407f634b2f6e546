/- Facts. No condition. -/
import Derived.Test.YtkdohhmacfoolaaGreatDoorOcAmQ
import Derived.Test.YtkdohhmacfoolaaGreatDoorOcJoin
set_option linter.unusedVariables false
set_option linter.unusedSimpArgs false
set_option maxRecDepth 20000
set_option maxHeartbeats 4000000
namespace Go.Proofs.YtkdohhmacfoolaaGreatDoor
open Go.Proofs.Tryz Go Go.AM
attribute [local irreducible] bF
structure bI where
 Key:Int
 N:Int
deriving DecidableEq
def tQ(e:bI):List AV:=[.v (.int .u64 e.Key),.v (.int .i64 e.N)]
theorem fD:CF tQ 2:=⟨fun _=>rfl,fun a x hx=>by
 simp only [tQ,List.mem_cons,List.not_mem_nil,or_false] at hx;rcases hx with rfl|rfl
 · exact (.v _)
 · exact (.v _),fun _=>rfl⟩
instance:CC tQ 2:=⟨fD⟩
abbrev zN(e:bI):AV:= .agg [.v (.int .u64 e.Key),vi e.N]
@[go_sem] theorem aMe(e:bI)(r:List AV):tQ e++r= .v (.int .u64 e.Key):: .v (.int .i64 e.N)::r:=rfl
inductive aB where
 |nil
 |mk (ahead:aB) (behind:aB) (thing:bI) (height:Int) (size:Int)
def aB.ahead:aB→aB
 | .nil=>aB.nil
 | .mk ahead behind thing height size=>ahead
def aB.behind:aB→aB
 | .nil=>aB.nil
 | .mk ahead behind thing height size=>behind
def aB.thing:aB→bI
 | .nil=>(bI.mk 0 0)
 | .mk ahead behind thing height size=>thing
def aB.height:aB→Int
 | .nil=>0
 | .mk ahead behind thing height size=>height
def aB.size:aB→Int
 | .nil=>0
 | .mk ahead behind thing height size=>size
def aB.nn:aB→Bool
 | .nil=>false
 | .mk _ _ _ _ _=>true
def aB.av:aB→AV
 | .nil=> .v (.pointer none)
 | .mk ahead behind thing height size=> .ptr [ahead.av,behind.av,.v (.int .u64 thing.Key),.v (.int .i64 thing.N),.v (.int .i64 height),.v (.int .i64 size)]
theorem aB.data:(e:aB)→AM.Data e.av
 | .nil=> .v _
 | .mk ahead behind thing height size=> .ptr _ (fun a hx=>by
  simp only [List.mem_cons,List.not_mem_nil,or_false] at hx;rcases hx with rfl|rfl|rfl|rfl|rfl|rfl
  · exact ahead.data
  · exact behind.data
  · exact (.v _)
  · exact (.v _)
  · exact (.v _)
  · exact (.v _))
theorem aB.av_nn{e:aB}(h:e.nn=true):e.av= .ptr [aB.av e.ahead,aB.av e.behind,.v (.int .u64 e.thing.Key),.v (.int .i64 e.thing.N),.v (.int .i64 e.height),.v (.int .i64 e.size)]:=by
 cases e with
 |nil=>cases h
 |mk ahead behind thing height size=>rfl
theorem aB.isn(e:aB):((!e.nn)=true∧e.av= .v (.pointer none))∨((!e.nn)=false∧ ∃xs,e.av= .ptr xs):=by
 cases e with
 |nil=>exact .inl ⟨rfl,rfl⟩
 |mk ahead behind thing height size=>exact .inr ⟨rfl,_,rfl⟩
theorem aB.cells(e:aB):e.av.cells? =some [e.av]:=by cases e<;>rfl
theorem aB.one(e:aB):e.av.one=true:=by cases e<;>rfl
structure bP where
 s:aB
def yH(e:bP):List AV:=[aB.av e.s]
theorem zQ:CF yH 1:=⟨fun _=>rfl,fun a x hx=>by
 simp only [yH,List.mem_cons,List.not_mem_nil,or_false] at hx;rcases hx with rfl
 · exact (aB.data a.s),fun e=>by unfold yH;simp only [List.all_cons,List.all_nil,Bool.and_true,aB.one];try rfl⟩
instance:CC yH 1:=⟨zQ⟩
abbrev rH(e:bP):AV:= .agg [aB.av e.s]
@[go_sem] theorem aMd(e:bP)(r:List AV):yH e++r=aB.av e.s::r:=rfl
structure aM where
 Used:Bool
 Key:Int
deriving DecidableEq
def aX(e:aM):List AV:=[.v (.bool e.Used),.v (.int .u64 e.Key)]
theorem dM:CF aX 2:=⟨fun _=>rfl,fun a x hx=>by
 simp only [aX,List.mem_cons,List.not_mem_nil,or_false] at hx;rcases hx with rfl|rfl
 · exact (.v _)
 · exact (.v _),fun _=>rfl⟩
instance:CC aX 2:=⟨dM⟩
abbrev aL2(e:aM):AV:= .agg [.v (.bool e.Used),vu e.Key]
instance:CE prog 31 aX 2 (aM.mk false 0):=⟨_,underlying31,bKv,bL6,inferInstance,dM,by decide,by decide⟩
@[go_sem] theorem aLb(e:aM)(r:List AV):aX e++r= .v (.bool e.Used):: .v (.int .u64 e.Key)::r:=rfl
structure aD where
 Graph:aH
 Slots:List aM
deriving DecidableEq
def aA0(e:aD):List AV:=[.v (.int .i64 e.Graph.Config.N),.v (.int .i64 e.Graph.Config.L),.v (.int .i64 e.Graph.Config.R),.sl (e.Graph.Hashes.flatMap bS) e.Graph.Hashes.length false,.sl (e.Graph.Edges.flatMap aU) e.Graph.Edges.length false,.sl (e.Slots.flatMap aX) e.Slots.length false]
theorem aQw:CF aA0 6:=⟨fun _=>rfl,fun a x hx=>by
 simp only [aA0,List.mem_cons,List.not_mem_nil,or_false] at hx;rcases hx with rfl|rfl|rfl|rfl|rfl|rfl
 · exact (.v _)
 · exact (.v _)
 · exact (.v _)
 · exact (mL.sl _ _ _)
 · exact (bT.sl _ _ _)
 · exact (dM.sl _ _ _),fun _=>rfl⟩
instance:CC aA0 6:=⟨aQw⟩
abbrev dI(e:aD):AV:= .agg [.v (.int .i64 e.Graph.Config.N),vi e.Graph.Config.L,vi e.Graph.Config.R,vl bS e.Graph.Hashes,vl aU e.Graph.Edges,vl aX e.Slots]
@[go_sem] theorem aLa(e:aD)(r:List AV):aA0 e++r= .v (.int .i64 e.Graph.Config.N):: .v (.int .i64 e.Graph.Config.L):: .v (.int .i64 e.Graph.Config.R):: .sl (e.Graph.Hashes.flatMap bS) e.Graph.Hashes.length false:: .sl (e.Graph.Edges.flatMap aU) e.Graph.Edges.length false:: .sl (e.Slots.flatMap aX) e.Slots.length false::r:=rfl
theorem bEf{a0:AV}(a0h:a0.cells? =some [a0]):aBr prog 147 [(0,a0)]=some (.agg [a0]):=by
 unfold aBr;rw [bM7,underlying147];simp only [];rw [(by kernel_rfl:placesOf prog _=some [(0,1)])];simp only [];simp [lP,a0h,aPm,aPn,aMi]
theorem bEg{a0:AV}{a1:AV}{a2_Key:Int}{a2_N:Int}{a3:Int}{a4:Int}(a0h:a0.cells? =some [a0])(a1h:a1.cells? =some [a1]):aBr prog 233 [(0,a0),(1,a1),(2,.agg [.v (.int .u64 a2_Key),.v (.int .i64 a2_N)]),(3,.v (.int .i64 a3)),(4,.v (.int .i64 a4))]=some (.agg [a0,a1,.v (.int .u64 a2_Key),.v (.int .i64 a2_N),.v (.int .i64 a3),.v (.int .i64 a4)]):=by
 unfold aBr;rw [bW9,underlying233];simp only [];rw [(by kernel_rfl:placesOf prog _=some [(0,1),(1,1),(2,2),(4,1),(5,1)])];simp only [];simp [lP,a0h,a1h,aPm,aPn,aMi]
@[go_sem] theorem aX7(xs:List AV):aN prog 147 (.ptr (xs)) 0=some (.ptr xs):=by kernel_rfl
@[go_sem] theorem aX8(xs:List AV):aN prog 233 (.ptr (xs)) 0=some (.ptr xs):=by kernel_rfl
@[go_sem] theorem aX9(x0:AV)(xs:List AV):aN prog 233 (.ptr (x0::xs)) 1=some (.ptr xs):=by kernel_rfl
@[go_sem] theorem aXa(x0:AV)(x1:AV)(xs:List AV):aN prog 233 (.ptr (x0::x1::xs)) 2=some (.ptr xs):=by kernel_rfl
@[go_sem] theorem aXb(x0:AV)(x1:AV)(x2:AV)(x3:AV)(xs:List AV):aN prog 233 (.ptr (x0::x1::x2::x3::xs)) 3=some (.ptr xs):=by kernel_rfl
@[go_sem] theorem aXc(x0:AV)(x1:AV)(x2:AV)(x3:AV)(x4:AV)(xs:List AV):aN prog 233 (.ptr (x0::x1::x2::x3::x4::xs)) 4=some (.ptr xs):=by kernel_rfl
@[go_sem] theorem bB1(xs:List AV):aN prog 96 (.ptr (xs)) 0=some (.ptr xs):=by kernel_rfl
@[go_sem] theorem bB2(x0:AV)(xs:List AV):aN prog 96 (.ptr (x0::xs)) 1=some (.ptr xs):=by kernel_rfl
@[go_sem] theorem aXg(i o:Nat):aN prog 147 (.adr i o) 0=some (.adr i (o+0)):=by kernel_rfl
@[go_sem] theorem aXh(i o:Nat):aN prog 194 (.adr i o) 0=some (.adr i (o+0)):=by kernel_rfl
@[go_sem] theorem aXi(i o:Nat):aN prog 194 (.adr i o) 1=some (.adr i (o+1)):=by kernel_rfl
@[go_sem] theorem bB9(i o:Nat):aN prog 23 (.adr i o) 0=some (.adr i (o+0)):=by kernel_rfl
@[go_sem] theorem bBm(i o:Nat):aN prog 30 (.adr i o) 0=some (.adr i (o+0)):=by kernel_rfl
@[go_sem] theorem bBt(i o:Nat):aN prog 30 (.adr i o) 2=some (.adr i (o+4)):=by kernel_rfl
@[go_sem] theorem bBv(i o:Nat):aN prog 33 (.adr i o) 0=some (.adr i (o+0)):=by kernel_rfl
@[go_sem] theorem bBx(i o:Nat):aN prog 33 (.adr i o) 1=some (.adr i (o+5)):=by kernel_rfl
@[go_sem] theorem bC8(i o:Nat):aN prog 61 (.adr i o) 0=some (.adr i (o+0)):=by kernel_rfl
@[go_sem] theorem bCe(i o:Nat):aN prog 61 (.adr i o) 1=some (.adr i (o+1)):=by kernel_rfl
@[go_sem] theorem bCr(i o:Nat):aN prog 96 (.adr i o) 0=some (.adr i (o+0)):=by kernel_rfl
@[go_sem] theorem bCt(i o:Nat):aN prog 96 (.adr i o) 1=some (.adr i (o+1)):=by kernel_rfl
theorem aXy(i o:Nat)(k:IntKind):jK prog 180 (.adr i o) (.v (.int k 0))=some (.adr i o):=by kernel_rfl
theorem aXz(i o:Nat)(k:IntKind):jK prog 180 (.adr i o) (.v (.int k 1))=some (.adr i (o+1)):=by kernel_rfl
attribute [go_sem] aXy aXz
@[go_sem] theorem bFy(H:aG)(x:AV)(xs:List AV):cE prog H 145 (.ptr (x::xs))=some x:=by kernel_rfl
@[go_sem] theorem bFz(H:aG)(x0:AV)(xs:List AV):cE prog H 147 (.ptr (x0::xs))=some (.agg [x0]):=by kernel_rfl
@[go_sem] theorem bG1(H:aG)(x0 x1:AV)(xs:List AV):cE prog H 180 (.ptr (x0::x1::xs))=some (.agg [x0,x1]):=by kernel_rfl
@[go_sem] theorem bG2(H:aG)(x0 x1:AV)(xs:List AV):cE prog H 194 (.ptr (x0::x1::xs))=some (.agg [x0,x1]):=by kernel_rfl
@[go_sem] theorem bJc(H:aG)(x:AV)(xs:List AV):cE prog H 28 (.ptr (x::xs))=some x:=by kernel_rfl
@[go_sem] theorem bN3(H:aG)(x:AV)(xs:List AV):cE prog H 3 (.ptr (x::xs))=some x:=by kernel_rfl
@[go_sem] theorem bJh(H:aG)(x0 x1 x2 x3 x4:AV)(xs:List AV):cE prog H 30 (.ptr (x0::x1::x2::x3::x4::xs))=some (.agg [x0,x1,x2,x3,x4]):=by kernel_rfl
@[go_sem] theorem bJj(H:aG)(x:AV)(xs:List AV):cE prog H 31 (.ptr (x::xs))=some x:=by kernel_rfl
@[go_sem] theorem bJl(H:aG)(x0 x1 x2 x3 x4 x5:AV)(xs:List AV):cE prog H 33 (.ptr (x0::x1::x2::x3::x4::x5::xs))=some (.agg [x0,x1,x2,x3,x4,x5]):=by kernel_rfl
@[go_sem] theorem bN7(H:aG)(x:AV)(xs:List AV):cE prog H 4 (.ptr (x::xs))=some x:=by kernel_rfl
@[go_sem] theorem bJr(H:aG)(x:AV)(xs:List AV):cE prog H 40 (.ptr (x::xs))=some x:=by kernel_rfl
@[go_sem] theorem bJy(H:aG)(x0 x1 x2:AV)(xs:List AV):cE prog H 61 (.ptr (x0::x1::x2::xs))=some (.agg [x0,x1,x2]):=by kernel_rfl
@[go_sem] theorem bK3(H:aG)(x0 x1:AV)(xs:List AV):cE prog H 96 (.ptr (x0::x1::xs))=some (.agg [x0,x1]):=by kernel_rfl
@[go_sem] theorem aX0(H:aG)(k:IntKind)(n:Int):mV prog H 3 162 (.v (.int k n))=some (.v (.int .u64 (IntKind.u64.wrap n))):=iA underlying3 underlying162
@[go_sem] theorem aWv(H:aG)(k:IntKind)(n:Int):mV prog H 162 3 (.v (.int k n))=some (.v (.int .i64 (IntKind.i64.wrap n))):=iA underlying162 underlying3
def nI(n_0:Int):Option (ByteArray):=
 ((aXf n_0 10).bind fun r2=>
 some r2)
theorem sW{n_0:Int}{r:ByteArray}(hm:nI n_0=some r):bN prog 106 [vu n_0] (.v (.string r)):=by
 refine bd 5 func106 ?_;obtain ⟨r2,h1,hm⟩:=bnd hm;refine W ?_;refine cq (bMs h1) ?_;exact E
instance:Ct prog 106 (K1 prog vu vs 106 nI):=⟨fun hm=>sW hm⟩
def sX(aO3:List ByteArray):Option (ByteArray):=
 (bif ((aO3.length:Int)==0) then
  some ⟨#[110,111,110,101]⟩
 else
  ((aJy aO3 ⟨#[32]⟩).bind fun r2=>
  some r2))
theorem zA{aO3:List ByteArray}{r:ByteArray}(hm:sX aO3=some r):bN prog 107 [vl lR aO3] (.v (.string r)):=by
 refine bd 8 func107 ?_;refine W ?_;refine cm hm (fun hm=>?_) fun hm=>?_
 · exact E
 obtain ⟨r2,h1,hm⟩:=bnd hm;refine W ?_;refine cq (bDh h1) ?_;exact E
instance:Ct prog 107 (K1 prog (vl lR) vs 107 sX):=⟨fun hm=>zA hm⟩
def aP1(rec1:List ByteArray→List Int→Int→Int→Option (ByteArray))(aH3:List ByteArray)(t36:List Int)(t37:Int)(t38:Int):Option (ByteArray):=
 (bif (decide (t38<t37)) then
  ((idx t36 t38).bind fun x26=>
  ((nI x26).bind fun r28=>
  ((app aH3 [r28]).bind fun l30=>
  rec1 l30 t36 t37 (IntKind.i64.wrap (t38+1)))))
 else
  ((sX aH3).bind fun r32=>
  some r32))
def aAy:Nat→List ByteArray→List Int→Int→Int→Option (ByteArray)
 |0=>fun _ _ _ _=>none
 |n+1=>aP1 (aAy n)
def aP2(rec2:List ByteArray→List aI→Int→Int→Option (ByteArray))(aD5:List ByteArray)(t53:List aI)(t54:Int)(t55:Int):Option (ByteArray):=
 (bif (decide (t55<t54)) then
  ((idx t53 t55).bind fun x37=>
  ((nI x37.x0).bind fun r39=>
  ((oO r39 ⟨#[45]⟩).bind fun s41=>
  ((nI x37.x1).bind fun r43=>
  ((oO s41 r43).bind fun s45=>
  ((app aD5 [s45]).bind fun l47=>
  rec2 l47 t53 t54 (IntKind.i64.wrap (t55+1))))))))
 else
  ((sX aD5).bind fun r49=>
  some r49))
def aAz:Nat→List ByteArray→List aI→Int→Int→Option (ByteArray)
 |0=>fun _ _ _ _=>none
 |n+1=>aP2 (aAz n)
def dF(wY:GA):Option (ByteArray):=
 ((aZf .i64 36 wY).bind fun ⟨r5,r6⟩=>
 (bif r6 then
  (bif (r5==0) then
   some ⟨#[111,107]⟩
  else
   ((aMw r5).bind fun r8=>
   ((oO ⟨#[101,114,114,111,114,32]⟩ r8).bind fun s10=>
   some s10)))
 else
  ((aXm 4 wY).bind fun ⟨r12,r13⟩=>
  (bif r13 then
   (bif r12 then
    some ⟨#[121,101,115]⟩
   else
    some ⟨#[110,111]⟩)
  else
   ((aZf .i64 3 wY).bind fun ⟨r18,r19⟩=>
   (bif r19 then
    ((aMw r18).bind fun r21=>
    some r21)
   else
    ((bMu 24 wY).bind fun ⟨r23,r24⟩=>
    (bif r24 then
     aAy bF [] r23 (r23.length:Int) 0
    else
     ((bMt 157 wY).bind fun ⟨r34,r35⟩=>
     (bif r35 then
      aAz bF [] r34 (r34.length:Int) 0
     else
      ((bFm 9 wY).bind fun ⟨r54,r55⟩=>
      (bif r55 then
       none
      else
       some ⟨#[]⟩))))))))))))
theorem fT{wY:GA}{r:ByteArray}(hm:dF wY=some r):bN prog 59 [GA.av wY] (.v (.string r)):=by
 refine bd 78 func59 ?_;refine W ?_;obtain ⟨⟨r5,r6⟩,h4,hm⟩:=bnd hm;refine pu rfl (aTi underlying36 bPf bW4 Z1 h4) ?_;refine W ?_;refine cm hm (fun hm=>?_) fun hm=>?_
 ·
  refine W ?_;refine cm hm (fun hm=>?_) fun hm=>?_
  · exact E
  obtain ⟨r8,h7,hm⟩:=bnd hm;refine W ?_;refine cq (aY0 h7) ?_;obtain ⟨s10,h9,hm⟩:=bnd hm;exact E
 refine W ?_;obtain ⟨⟨r12,r13⟩,h11,hm⟩:=bnd hm;refine pu rfl (bAb underlying4 in4 tz4 Z1 h11) ?_;refine W ?_;refine cm hm (fun hm=>?_) fun hm=>?_
 ·
  refine W ?_;refine cm hm (fun hm=>?_) fun hm=>?_
  · exact E
  exact E
 refine W ?_;obtain ⟨⟨r18,r19⟩,h17,hm⟩:=bnd hm;refine pu rfl (aTi underlying3 in3 tz3 Z1 h17) ?_;refine W ?_;refine cm hm (fun hm=>?_) fun hm=>?_
 · obtain ⟨r21,h20,hm⟩:=bnd hm;refine W ?_;refine cq (aY0 h20) ?_;exact E
 refine W ?_;obtain ⟨⟨r23,r24⟩,h22,hm⟩:=bnd hm;refine aV.pop Zd (aN7 Z1 (GA.data _)) (bGs underlying24 bPe bW3 Z1 h22) rfl ?_;refine W ?_;refine cm hm (fun hm=>?_) fun hm=>?_
 ·
  refine W ?_;refine lp (fun m s=> ∃aH3 t36 t37 t38,s=⟨78,(aF (aF (aF (aF fa 7 (.own 1 0 aH3.length)) 36 (vl (ci .u64) t36)) 37 (vi t37)) 38 (vi t38)),⟨(upd bD 1 (.cells 1 (aH3.flatMap lR) 0)),64⟩⟩∧aAy m aH3 t36 t37 t38=some r) ?_ ?_
  · refine ⟨_,?_,[],r23,(r23.length:Int),0,rfl,hm⟩;refine St.Le.trans (sL 7 900007 1 Z1 Z5) ?_;exact cn (fun j=>bif j==1 then 900007 else 0)
  rintro n1 s ⟨aH3,t36,t37,t38,rfl,hm⟩;refine W ?_;refine cm hm (fun hm=>?_) fun hm=>?_
  · obtain ⟨x26,h25,hm⟩:=bnd hm;obtain ⟨r28,h27,hm⟩:=bnd hm;refine W ?_;refine cq (sW h27) ?_;refine aL CFs [r28] ?_;obtain ⟨l30,h29,hm⟩:=bnd hm;refine W ?_;exact Lr (fun j=>bif j==1 then 196 else 0)
  obtain ⟨r32,h31,hm⟩:=bnd hm;refine W ?_;refine aV.callB (r:= .v (.string r32)) Zd Z1 bLj (.cons (lto CFs Z1 Z3 Z6) aOb.nil) aZr (zA h31) ?_;exact E
 refine W ?_;obtain ⟨⟨r34,r35⟩,h33,hm⟩:=bnd hm;refine aV.pop Zd (aN7 Z1 (GA.data _)) (bGr underlying157 bLq bM1 Z1 h33) rfl ?_;refine W ?_;refine cm hm (fun hm=>?_) fun hm=>?_
 ·
  refine W ?_;refine lp (fun m s=> ∃aD5 t53 t54 t55,s=⟨78,(aF (aF (aF (aF fa 11 (.own 1 0 aD5.length)) 53 (vl eW t53)) 54 (vi t54)) 55 (vi t55)),⟨(upd bD 1 (.cells 1 (aD5.flatMap lR) 0)),64⟩⟩∧aAz m aD5 t53 t54 t55=some r) ?_ ?_
  · refine ⟨_,?_,[],r34,(r34.length:Int),0,rfl,hm⟩;refine St.Le.trans (sL 11 900011 1 Z1 Z5) ?_;exact cn (fun j=>bif j==1 then 900011 else 0)
  rintro n2 s ⟨aD5,t53,t54,t55,rfl,hm⟩;refine W ?_;refine cm hm (fun hm=>?_) fun hm=>?_
  · obtain ⟨x37,h36,hm⟩:=bnd hm;refine W ?_;refine AWp.regD 64 mix (by kernel_rfl) (N':=256) rfl ?_;obtain ⟨r39,h38,hm⟩:=bnd hm;refine W ?_;refine cq (sW h38) ?_;obtain ⟨s41,h40,hm⟩:=bnd hm;obtain ⟨r43,h42,hm⟩:=bnd hm;refine W ?_;refine cq (sW h42) ?_;obtain ⟨s45,h44,hm⟩:=bnd hm;refine W ?_;refine aL CFs [s45] ?_;obtain ⟨l47,h46,hm⟩:=bnd hm;refine W ?_;exact Lr (fun j=>bif j==1 then 202 else 0)
  obtain ⟨r49,h48,hm⟩:=bnd hm;refine W ?_;refine aV.callB (r:= .v (.string r49)) Zd Z1 bLj (.cons (lto CFs Z1 Z3 Z6) aOb.nil) aZr (zA h48) ?_;exact E
 refine W ?_;obtain ⟨⟨r54,r55⟩,h53,hm⟩:=bnd hm;refine pu rfl (bE3 underlying9 in9 tz9 Z1 h53) ?_;refine W ?_;refine cm hm (fun hm=>?_) fun hm=>?_
 · cases hm
 exact E
instance:Ct prog 59 (K1 prog GA.av vs 59 dF):=⟨fun hm=>fT hm⟩
def vV(dV:ByteArray):Option (Int×Int):=
 (bif (decide (dV=⟨#[110,101,119]⟩)) then
  some ((-1),3)
 else
  (bif (decide (dV=⟨#[112,108,97,110]⟩)) then
   some ((-2),3)
  else
   (bif (decide (dV=⟨#[118,101,114,116,101,120]⟩)) then
    some (1,1)
   else
    (bif (decide (dV=⟨#[100,114,111,112]⟩)) then
     some (2,1)
    else
     (bif (decide (dV=⟨#[101,100,103,101]⟩)) then
      some (3,2)
     else
      (bif (decide (dV=⟨#[99,117,116]⟩)) then
       some (4,2)
      else
       (bif (decide (dV=⟨#[104,97,115]⟩)) then
        some (5,2)
       else
        (bif (decide (dV=⟨#[100,101,103,114,101,101]⟩)) then
         some (6,1)
        else
         (bif (decide (dV=⟨#[110,101,97,114]⟩)) then
          some (7,1)
         else
          (bif (decide (dV=⟨#[99,111,110,110,101,99,116,101,100]⟩)) then
           some (8,2)
          else
           (bif (decide (dV=⟨#[115,105,122,101]⟩)) then
            some (9,1)
           else
            (bif (decide (dV=⟨#[99,111,117,110,116]⟩)) then
             some (10,0)
            else
             (bif (decide (dV=⟨#[109,101,109,98,101,114,115]⟩)) then
              some (11,1)
             else
              (bif (decide (dV=⟨#[102,111,114,101,115,116]⟩)) then
               some (12,0)
              else
               (bif (decide (dV=⟨#[97,117,100,105,116]⟩)) then
                some (13,0)
               else
                (bif (decide (dV=⟨#[115,97,118,101]⟩)) then
                 some (14,0)
                else
                 (bif (decide (dV=⟨#[114,101,115,116,111,114,101]⟩)) then
                  some (15,1)
                 else
                  some (0,0))))))))))))))))))
theorem aDf{dV:ByteArray}{r:Int×Int}(hm:vV dV=some r):bN prog 60 [.v (.string dV)] (.tup [vi r.1,vi r.2]):=by
 refine bd 39 func60 ?_;refine W ?_;refine cm hm (fun hm=>?_) fun hm=>?_
 · exact E
 refine W ?_;refine cm hm (fun hm=>?_) fun hm=>?_
 · exact E
 refine W ?_;refine cm hm (fun hm=>?_) fun hm=>?_
 · exact E
 refine W ?_;refine cm hm (fun hm=>?_) fun hm=>?_
 · exact E
 refine W ?_;refine cm hm (fun hm=>?_) fun hm=>?_
 · exact E
 refine W ?_;refine cm hm (fun hm=>?_) fun hm=>?_
 · exact E
 refine W ?_;refine cm hm (fun hm=>?_) fun hm=>?_
 · exact E
 refine W ?_;refine cm hm (fun hm=>?_) fun hm=>?_
 · exact E
 refine W ?_;refine cm hm (fun hm=>?_) fun hm=>?_
 · exact E
 refine W ?_;refine cm hm (fun hm=>?_) fun hm=>?_
 · exact E
 refine W ?_;refine cm hm (fun hm=>?_) fun hm=>?_
 · exact E
 refine W ?_;refine cm hm (fun hm=>?_) fun hm=>?_
 · exact E
 refine W ?_;refine cm hm (fun hm=>?_) fun hm=>?_
 · exact E
 refine W ?_;refine cm hm (fun hm=>?_) fun hm=>?_
 · exact E
 refine W ?_;refine cm hm (fun hm=>?_) fun hm=>?_
 · exact E
 refine W ?_;refine cm hm (fun hm=>?_) fun hm=>?_
 · exact E
 refine W ?_;refine cm hm (fun hm=>?_) fun hm=>?_
 · exact E
 exact E
instance:Ct prog 60 (K1 prog vs (t2 vi vi) 60 vV):=⟨fun hm=>aDf hm⟩
def lO(n_0:Int):Option (Bool):=
 some ((decide (1≤n_0))&&(decide (n_0≤1024)))
theorem aT5:K1 prog vi vb 76 lO:=fun hm=>be 9 func76 (h:=G)
instance:Ct prog 76 (K1 prog vi vb 76 lO):=⟨aT5⟩
def gU(s_0:aB):Option (Int):=
 (bif (!s_0.nn) then
  some 0
 else
  ((chk s_0.nn).bind fun _=>
  some s_0.size))
theorem oQ:K1 prog aB.av vi 156 gU:=fun hm=>be 9 func156 (h:=G)
instance:Ct prog 156 (K1 prog aB.av vi 156 gU):=⟨oQ⟩
def aCw(rec1:aB→Int→bI→Option (bI×Bool))(s_0:aB)(i_1:Int)(t4:bI):Option (bI×Bool):=
 ((chk s_0.nn).bind fun _=>
 ((gU s_0.ahead).bind fun r5=>
 (bif (decide (i_1<r5)) then
  ((chk s_0.nn).bind fun _=>
  rec1 s_0.ahead i_1 t4)
 else
  (bif (decide (r5<i_1)) then
   ((chk s_0.nn).bind fun _=>
   rec1 s_0.behind (IntKind.i64.wrap (i_1-(IntKind.i64.wrap (r5+1)))) t4)
  else
   ((chk s_0.nn).bind fun _=>
   some (s_0.thing,true))))))
def sY:Nat→aB→Int→bI→Option (bI×Bool)
 |0=>fun _ _ _=>none
 |n+1=>aCw (sY n)
def lA(s_0:aB)(i_1:Int):Option (bI×Bool):=
 ((gO ((decide (i_1<0))==false) 0 (gU s_0)).bind fun r2=>
 (bif ((decide (i_1<0))||(decide (r2≤i_1))) then
  some ((bI.mk 0 0),false)
 else
  sY bF s_0 i_1 (bI.mk 0 0)))
theorem aAd:K2 prog aB.av vi (t2 zN vb) 119 lA:=by
 intro s_0 i_1 r hm
 let I1:=((fun m s=> ∃s_0 i_1 t4,s=⟨46,(aF (aF (aF fa 0 (aB.av s_0)) 1 (vi i_1)) 4 (.adr 1 0)),⟨(upd bD 1 (.cells 1 [vu t4.Key,vi t4.N] 0)),64⟩⟩∧sY m s_0 i_1 t4=some r):Nat→St→Prop)
 exact be 46 func119 (h:=G)
instance:Ct prog 119 (K2 prog aB.av vi (t2 zN vb) 119 lA):=⟨aAd⟩
def sE(i_0:Int)(t1:bP)(t2:Int):Option (Bool):=
 ((lA t1.s i_0).bind fun ⟨r2,r3⟩=>
 some (decide (t2≤r2.Key)))
theorem aRg{i_0:Int}{t1:bP}{t2:Int}{r:Bool}(hm:sE i_0 t1 t2=some r):bN prog 158 [vi i_0,.ptr [aB.av t1.s],.ptr [vu t2]] (vb r):=by
 refine bd 18 func158 ?_;refine W ?_;obtain ⟨⟨r2,r3⟩,h1,hm⟩:=bnd hm;refine cq (aAd h1) ?_;exact E
def aB2(f_1:(Int→Option (Bool)))(rec1:Int→Int→Option (Int))(i_5:Int)(j_6:Int):Option (Int):=
 (bif (decide (i_5<j_6)) then
  ((f_1 (IntKind.i64.wrap (shr .u64 (IntKind.u64.wrap (IntKind.i64.wrap (i_5+j_6))) 1))).bind fun r2=>
  (bif (!r2) then
   rec1 (IntKind.i64.wrap ((IntKind.i64.wrap (shr .u64 (IntKind.u64.wrap (IntKind.i64.wrap (i_5+j_6))) 1))+1)) j_6
  else
   rec1 i_5 (IntKind.i64.wrap (shr .u64 (IntKind.u64.wrap (IntKind.i64.wrap (i_5+j_6))) 1))))
 else
  some i_5)
def qK(f_1:(Int→Option (Bool))):Nat→Int→Int→Option (Int)
 |0=>fun _ _=>none
 |n+1=>aB2 f_1 (qK f_1 n)
def aD0(n_0:Int)(f_1:(Int→Option (Bool))):Option (Int):=
 qK f_1 bF 0 n_0
theorem aSw{n_0:Int}{f_1:(Int→Option (Bool))}{r:Int}(hm:aD0 n_0 f_1=some r){aHv:FuncId}{wJ:List AV}(aMq: ∀a,a∈wJ→AM.Data a)(aXq:(Program.funcs prog)[aHv]?.any (fun fn=>fn.body.isSome&&fn.name != "runtime.NumGoroutine")=true)(aXt: ∀ {x0 r},f_1 x0=some r→bN prog aHv ([vi x0]++wJ) (vb r)):bN prog 157 [vi n_0,.clo (.func aHv) [] wJ] (vi r):=by
 refine bd 26 func157 ?_;refine W ?_;refine lp (fun m s=> ∃i_5 j_6,s=⟨26,(aF (aF (aF fa 1 (.clo (.func aHv) [] wJ)) 5 (vi i_5)) 6 (vi j_6)),⟨bD,64⟩⟩∧qK f_1 m i_5 j_6=some r) L ?_;rintro n1 s ⟨i_5,j_6,rfl,hm⟩;refine W ?_;refine cm hm (fun hm=>?_) fun hm=>?_
 ·
  obtain ⟨r2,h1,hm⟩:=bnd hm;refine W ?_;refine aV.callQC (r:= .v (.bool r2)) Zd Z1 aMq aXq (fun H=>(cV .nil)) (aXt h1) ?_;refine W ?_;refine cm hm (fun hm=>?_) fun hm=>?_
  · exact L
  exact L
 exact E
def tS(d_0:bP)(gM:Int):Option (Int):=
 ((gU d_0.s).bind fun r2=>
 ((aD0 r2 (fun x0=>sE x0 d_0 gM)).bind fun r4=>
 some r4))
theorem aMl{d_0:bP}{gM:Int}{r:Int}(hm:tS d_0 gM=some r):bN prog 120 [.agg [aB.av d_0.s],vu gM] (vi r):=by
 refine bd 10 func120 ?_;refine S1 ?_;refine aV.pop Zd (aN7 Z1 (.agg _ (zQ.dat d_0))) (aSi (ys:=[aB.av d_0.s]) Z1 (fun H=>(.cons (.data _ (aB.data d_0.s)) .nil))) rfl ?_;refine aV.pop Zd (aN7 Z1 (.v _)) (aSi (ys:=[.v (.int .u64 gM)]) Z1 (fun H=>(.cons (.data _ (.v _)) .nil))) rfl ?_;obtain ⟨r2,h1,hm⟩:=bnd hm;refine W ?_;refine cq (oQ h1) ?_;obtain ⟨r4,h3,hm⟩:=bnd hm;refine W ?_;refine aV.callQ (r:= .v (.int .i64 r4)) Zd Z1 bP2 (fun H=>(cV (.cons (td Z1 (bF2 (mO (.ptr _ (zQ.dat d_0)) (mO (.ptr _ ((CFi .u64).dat gM)) aDw)))) .nil))) (aSw h3 (mO (.ptr _ (zQ.dat d_0)) (mO (.ptr _ ((CFi .u64).dat gM)) aDw)) bP3 (fun h=>aRg h)) ?_;exact E
instance:Ct prog 120 (K2 prog rH vu vi 120 tS):=⟨fun hm=>aMl hm⟩
def rK(d_0:bP)(gM:Int):Option (Int×Bool):=
 ((tS d_0 gM).bind fun r2=>
 ((lA d_0.s r2).bind fun ⟨r4,r5⟩=>
 (bif ((!r5)||(r4.Key !=gM)) then
  some (0,false)
 else
  some (r4.N,true))))
theorem aJf:K2 prog rH vu (t2 vi vb) 79 rK:=fun hm=>be 27 func79 (h:=G)
instance:Ct prog 79 (K2 prog rH vu (t2 vi vb) 79 rK):=⟨aJf⟩
def cH(s_0:aB):Option (Int):=
 (bif (!s_0.nn) then
  some 0
 else
  ((chk s_0.nn).bind fun _=>
  some s_0.height))
theorem iY:K1 prog aB.av vi 236 cH:=fun hm=>be 9 func236 (h:=G)
instance:Ct prog 236 (K1 prog aB.av vi 236 cH):=⟨iY⟩
def dG(bL:aB)(dT:bI)(bG:aB):Option (aB):=
 ((cH bL).bind fun r2=>
 ((cH bG).bind fun r4=>
 ((gU bL).bind fun r6=>
 ((gU bG).bind fun r8=>
 some (aB.mk bL bG dT (IntKind.i64.wrap ((if r2<r4 then r4 else r2)+1)) (IntKind.i64.wrap ((IntKind.i64.wrap (r6+1))+r8)))))))
theorem aB1{bL:aB}{dT:bI}{bG:aB}{r:aB}(hm:dG bL dT bG=some r):bN prog 192 [aB.av bL,.agg [vu dT.Key,vi dT.N],aB.av bG] (aB.av r):=by
 refine bd 24 func192 ?_;obtain ⟨r2,h1,hm⟩:=bnd hm;refine W ?_;refine cq (iY h1) ?_;obtain ⟨r4,h3,hm⟩:=bnd hm;refine W ?_;refine cq (iY h3) ?_;obtain ⟨r6,h5,hm⟩:=bnd hm;refine W ?_;refine cq (oQ h5) ?_;obtain ⟨r8,h7,hm⟩:=bnd hm;refine W ?_;refine cq (oQ h7) ?_;refine W ?_;refine pu rfl (by simp only [go_sem,Nat.reduceBEq];exact bEg (aB.cells _) (aB.cells _)) ?_;refine aV.pop Zd (aN7 Z1 (.agg _ (mO (aB.data bL) (mO (aB.data bG) (mO (.v _) (mO (.v _) (mO (.v _) (mO (.v _) aDw)))))))) (aSi (ys:=[aB.av ((aB.mk bL bG dT (IntKind.i64.wrap ((if r2<r4 then r4 else r2)+1)) (IntKind.i64.wrap ((IntKind.i64.wrap (r6+1))+r8))).ahead),aB.av ((aB.mk bL bG dT (IntKind.i64.wrap ((if r2<r4 then r4 else r2)+1)) (IntKind.i64.wrap ((IntKind.i64.wrap (r6+1))+r8))).behind),.v (.int .u64 (((aB.mk bL bG dT (IntKind.i64.wrap ((if r2<r4 then r4 else r2)+1)) (IntKind.i64.wrap ((IntKind.i64.wrap (r6+1))+r8))).thing).Key)),.v (.int .i64 (((aB.mk bL bG dT (IntKind.i64.wrap ((if r2<r4 then r4 else r2)+1)) (IntKind.i64.wrap ((IntKind.i64.wrap (r6+1))+r8))).thing).N)),.v (.int .i64 ((aB.mk bL bG dT (IntKind.i64.wrap ((if r2<r4 then r4 else r2)+1)) (IntKind.i64.wrap ((IntKind.i64.wrap (r6+1))+r8))).height)),.v (.int .i64 ((aB.mk bL bG dT (IntKind.i64.wrap ((if r2<r4 then r4 else r2)+1)) (IntKind.i64.wrap ((IntKind.i64.wrap (r6+1))+r8))).size))]) Z1 (fun H=>(.cons (.data _ (aB.data bL)) (.cons (.data _ (aB.data bG)) (.cons (.data _ (.v _)) (.cons (.data _ (.v _)) (.cons (.data _ (.v _)) (.cons (.data _ (.v _)) .nil)))))))) rfl ?_;exact E
instance:Ct prog 192 (K3 prog aB.av zN aB.av aB.av 192 dG):=⟨fun hm=>aB1 hm⟩
def jT(bL:aB)(dT:bI)(bG:aB):Option (aB):=
 ((cH bL).bind fun r2=>
 ((cH bG).bind fun r4=>
 (bif (decide ((IntKind.i64.wrap (r4+1))<r2)) then
  ((chk bL.nn).bind fun _=>
  ((cH bL.ahead).bind fun r7=>
  ((chk bL.nn).bind fun _=>
  ((cH bL.behind).bind fun r10=>
  (bif (decide (r10≤r7)) then
   ((chk bL.nn).bind fun _=>
   ((chk bL.nn).bind fun _=>
   ((chk bL.nn).bind fun _=>
   ((dG bL.behind dT bG).bind fun r15=>
   ((dG bL.ahead bL.thing r15).bind fun r17=>
   some r17)))))
  else
   ((chk bL.nn).bind fun _=>
   ((chk bL.nn).bind fun _=>
   ((chk bL.nn).bind fun _=>
   ((chk bL.behind.nn).bind fun _=>
   ((dG bL.ahead bL.thing bL.behind.ahead).bind fun r23=>
   ((chk bL.behind.nn).bind fun _=>
   ((chk bL.behind.nn).bind fun _=>
   ((dG bL.behind.behind dT bG).bind fun r27=>
   ((dG r23 bL.behind.thing r27).bind fun r29=>
   some r29))))))))))))))
 else
  ((cH bG).bind fun r31=>
  ((cH bL).bind fun r33=>
  (bif (decide ((IntKind.i64.wrap (r33+1))<r31)) then
   ((chk bG.nn).bind fun _=>
   ((cH bG.behind).bind fun r36=>
   ((chk bG.nn).bind fun _=>
   ((cH bG.ahead).bind fun r39=>
   (bif (decide (r39≤r36)) then
    ((chk bG.nn).bind fun _=>
    ((dG bL dT bG.ahead).bind fun r42=>
    ((chk bG.nn).bind fun _=>
    ((chk bG.nn).bind fun _=>
    ((dG r42 bG.thing bG.behind).bind fun r46=>
    some r46)))))
   else
    ((chk bG.nn).bind fun _=>
    ((chk bG.ahead.nn).bind fun _=>
    ((dG bL dT bG.ahead.ahead).bind fun r50=>
    ((chk bG.ahead.nn).bind fun _=>
    ((chk bG.ahead.nn).bind fun _=>
    ((chk bG.nn).bind fun _=>
    ((chk bG.nn).bind fun _=>
    ((dG bG.ahead.behind bG.thing bG.behind).bind fun r56=>
    ((dG r50 bG.ahead.thing r56).bind fun r58=>
    some r58))))))))))))))
  else
   ((dG bL dT bG).bind fun r60=>
   some r60)))))))
theorem wA:K3 prog aB.av zN aB.av aB.av 237 jT:=fun hm=>be 139 func237 (h:=G)
instance:Ct prog 237 (K3 prog aB.av zN aB.av aB.av 237 jT):=⟨wA⟩
def lU(recf:aB→bI→aB→Option (aB))(bL:aB)(dT:bI)(bG:aB):Option (aB):=
 ((cH bL).bind fun r2=>
 ((cH bG).bind fun r4=>
 (bif (decide ((IntKind.i64.wrap (r4+1))<r2)) then
  ((chk bL.nn).bind fun _=>
  ((chk bL.nn).bind fun _=>
  ((chk bL.nn).bind fun _=>
  ((recf bL.behind dT bG).bind fun r9=>
  ((jT bL.ahead bL.thing r9).bind fun r11=>
  some r11)))))
 else
  ((cH bG).bind fun r13=>
  ((cH bL).bind fun r15=>
  (bif (decide ((IntKind.i64.wrap (r15+1))<r13)) then
   ((chk bG.nn).bind fun _=>
   ((recf bL dT bG.ahead).bind fun r18=>
   ((chk bG.nn).bind fun _=>
   ((chk bG.nn).bind fun _=>
   ((jT r18 bG.thing bG.behind).bind fun r22=>
   some r22)))))
  else
   ((dG bL dT bG).bind fun r24=>
   some r24)))))))
def jS:Nat→aB→bI→aB→Option (aB)
 |0=>fun _ _ _=>none
 |n+1=>lU (jS n)
def lV(bL:aB)(dT:bI)(bG:aB):Option (aB):=jS bF bL dT bG
theorem aJs: ∀(nn:Nat) {bL:aB} {dT:bI} {bG:aB} {r:aB} (hm:jS nn bL dT bG=some r),bN prog 191 [aB.av bL,.agg [.v (.int .u64 dT.Key),.v (.int .i64 dT.N)],aB.av bG] (aB.av r):=by
 intro nn
 induction nn with
 |zero=>
  intro bL dT bG r hm;replace hm:none=some r:=hm;cases hm
 |succ nn ih=>
  intro bL dT bG r hm;replace hm:lU (jS nn) bL dT bG=some r:=hm;refine bN.of_body func191 rfl ?_;simp only [ntmps191,List.length_cons,List.length_nil,Nat.reduceAdd,Nat.reduceSub,fH];unfold lU at hm;refine sN 64 (hp (id:=0) rfl rfl (aPj Z1 Z5) ?_);refine pA ?_;refine fs (AWp.seq' (AWp.block (sN 128 (pA ?_))));obtain ⟨r2,h1,hm⟩:=bnd hm;refine aV.callQ (r:= .v (.int .i64 r2)) Zd Z1 aZe (fun H=>(cD (aB.data _) .nil)) (iY h1) ?_;refine pA ?_;obtain ⟨r4,h3,hm⟩:=bnd hm;refine aV.callQ (r:= .v (.int .i64 r4)) Zd Z1 aZe (fun H=>(cD (aB.data _) .nil)) (iY h3) ?_
  iterate 3 refine pA ?_
  refine fs (AWp.condM hm Z1 (fun _ hm=>?_) (fun _ hm=>?_))
  ·
   refine sd mix (by kernel_rfl) (N':=192) rfl ?_;refine pA ?_;obtain ⟨_,h5,hm⟩:=bnd hm;refine pu rfl (rW Z1 (aB.av_nn (oY h5))) ?_
   iterate 3 refine pA ?_
   obtain ⟨_,h6,hm⟩:=bnd hm;refine pu rfl (rW Z1 (aB.av_nn (oY h6))) ?_
   iterate 3 refine pA ?_
   obtain ⟨_,h7,hm⟩:=bnd hm;refine pu rfl (rW Z1 (aB.av_nn (oY h7))) ?_
   iterate 2 refine pA ?_
   refine pu rfl (tP Z1 Z3 Z2) ?_;refine pA ?_;obtain ⟨r9,h8,hm⟩:=bnd hm;refine aV.callQ (r:=aB.av r9) Zd Z1 aZd (fun H=>(cD (aB.data _) (cD (.agg _ (fD.dat _)) (cD (aB.data _) .nil)))) (ih h8) ?_;obtain ⟨r11,h10,hm⟩:=bnd hm;refine aV.callQ (r:=aB.av r11) Zd Z1 bLp (fun H=>(cD (aB.data _) (cD (.agg _ (fD.dat _)) (cD (aB.data _) .nil)))) (wA h10) ?_;refine pA ?_;refine fs (AWp.ret (qF (iD ?_)));cases hm;exact aIf (.inr rfl) Tryz.results191 (td Z1 (aB.data _))
  ·
   refine sN 192 (pA ?_);obtain ⟨r13,h12,hm⟩:=bnd hm;refine aV.callQ (r:= .v (.int .i64 r13)) Zd Z1 aZe (fun H=>(cD (aB.data _) .nil)) (iY h12) ?_;refine pA ?_;obtain ⟨r15,h14,hm⟩:=bnd hm;refine aV.callQ (r:= .v (.int .i64 r15)) Zd Z1 aZe (fun H=>(cD (aB.data _) .nil)) (iY h14) ?_
   iterate 3 refine pA ?_
   refine fs (AWp.condM hm Z1 (fun _ hm=>?_) (fun _ hm=>?_))
   ·
    refine sd mix (by kernel_rfl) (N':=256) rfl ?_;refine pA ?_;refine pu rfl (tP Z1 Z3 Z2) ?_;refine pA ?_;obtain ⟨_,h16,hm⟩:=bnd hm;refine pu rfl (rW Z1 (aB.av_nn (oY h16))) ?_
    iterate 2 refine pA ?_
    obtain ⟨r18,h17,hm⟩:=bnd hm;refine aV.callQ (r:=aB.av r18) Zd Z1 aZd (fun H=>(cD (aB.data _) (cD (.agg _ (fD.dat _)) (cD (aB.data _) .nil)))) (ih h17) ?_;refine pA ?_;obtain ⟨_,h19,hm⟩:=bnd hm;refine pu rfl (rW Z1 (aB.av_nn (oY h19))) ?_
    iterate 3 refine pA ?_
    obtain ⟨_,h20,hm⟩:=bnd hm;refine pu rfl (rW Z1 (aB.av_nn (oY h20))) ?_
    iterate 2 refine pA ?_
    obtain ⟨r22,h21,hm⟩:=bnd hm;refine aV.callQ (r:=aB.av r22) Zd Z1 bLp (fun H=>(cD (aB.data _) (cD (.agg _ (fD.dat _)) (cD (aB.data _) .nil)))) (wA h21) ?_;refine pA ?_;refine fs (AWp.ret (qF (iD ?_)));cases hm;exact aIf (.inr rfl) Tryz.results191 (td Z1 (aB.data _))
   · refine AWp.skip (hY (bM (sN 256 (pA ?_))));refine pu rfl (tP Z1 Z3 Z2) ?_;refine pA ?_;obtain ⟨r24,h23,hm⟩:=bnd hm;refine aV.callQ (r:=aB.av r24) Zd Z1 bLo (fun H=>(cD (aB.data _) (cD (.agg _ (fD.dat _)) (cD (aB.data _) .nil)))) (aB1 h23) ?_;refine pA ?_;refine fs (AWp.ret ?_);cases hm;exact aIf (.inr rfl) Tryz.results191 (td Z1 (aB.data _))
theorem vZ{bL:aB}{dT:bI}{bG:aB}{r:aB}(hm:lV bL dT bG=some r):bN prog 191 [aB.av bL,.agg [.v (.int .u64 dT.Key),.v (.int .i64 dT.N)],aB.av bG] (aB.av r):=aJs bF hm
def nO(recf:aB→Int→Option (aB×aB))(s_0:aB)(aFk:Int):Option (aB×aB):=
 (bif (decide (aFk≤0)) then
  some (aB.nil,s_0)
 else
  ((gU s_0).bind fun r2=>
  (bif (decide (r2≤aFk)) then
   some (s_0,aB.nil)
  else
   ((chk s_0.nn).bind fun _=>
   ((gU s_0.ahead).bind fun r5=>
   (bif (decide (aFk≤r5)) then
    ((chk s_0.nn).bind fun _=>
    ((recf s_0.ahead aFk).bind fun ⟨r8,r9⟩=>
    ((chk s_0.nn).bind fun _=>
    ((chk s_0.nn).bind fun _=>
    ((lV r9 s_0.thing s_0.behind).bind fun r13=>
    some (r8,r13))))))
   else
    ((chk s_0.nn).bind fun _=>
    ((recf s_0.behind (IntKind.i64.wrap ((IntKind.i64.wrap (aFk-r5))-1))).bind fun ⟨r16,r17⟩=>
    ((chk s_0.nn).bind fun _=>
    ((chk s_0.nn).bind fun _=>
    ((lV s_0.ahead s_0.thing r16).bind fun r21=>
    some (r21,r17))))))))))))
def kR:Nat→aB→Int→Option (aB×aB)
 |0=>fun _ _=>none
 |n+1=>nO (kR n)
def nP(s_0:aB)(aFk:Int):Option (aB×aB):=kR bF s_0 aFk
theorem aLn: ∀(nn:Nat) {s_0:aB} {aFk:Int} {r:aB×aB} (hm:kR nn s_0 aFk=some r),bN prog 153 [aB.av s_0,.v (.int .i64 aFk)] (.tup [aB.av r.1,aB.av r.2]):=by
 intro nn
 induction nn with
 |zero=>
  intro s_0 aFk r hm;replace hm:none=some r:=hm;cases hm
 |succ nn ih=>
  intro s_0 aFk r hm;replace hm:nO (kR nn) s_0 aFk=some r:=hm;refine bN.of_body func153 rfl ?_;simp only [ntmps153,List.length_cons,List.length_nil,Nat.reduceAdd,Nat.reduceSub,fH];unfold nO at hm;refine sN 64 ?_
  iterate 2 refine pA ?_
  refine fs (AWp.seq' (sN 128 ?_))
  iterate 2 refine pA ?_
  refine fs (AWp.condM hm Z1 (fun _ hm=>?_) (fun _ hm=>?_))
  ·
   refine sN 192 ?_
   iterate 3 refine pA ?_
   refine fs (AWp.ret (iD ?_));cases hm;exact aBn (.inr rfl) Tryz.results153 (td Z1 (aB.data _)) (td Z1 (aB.data _))
  ·
   refine AWp.skip (bM (AWp.seq' (sN 192 ?_)))
   iterate 2 refine pA ?_
   obtain ⟨r2,h1,hm⟩:=bnd hm;refine aV.callQ (r:= .v (.int .i64 r2)) Zd Z1 bLm (fun H=>(cD (aB.data _) .nil)) (oQ h1) ?_;refine pA ?_;refine fs (AWp.condM hm Z1 (fun _ hm=>?_) (fun _ hm=>?_))
   ·
    refine sN 256 ?_
    iterate 3 refine pA ?_
    refine fs (AWp.ret (iD ?_));cases hm;exact aBn (.inr rfl) Tryz.results153 (td Z1 (aB.data _)) (td Z1 (aB.data _))
   ·
    refine AWp.skip (bM (sN 256 (pA ?_)));obtain ⟨_,h3,hm⟩:=bnd hm;refine pu rfl (rW Z1 (aB.av_nn (oY h3))) ?_
    iterate 2 refine pA ?_
    obtain ⟨r5,h4,hm⟩:=bnd hm;refine aV.callQ (r:= .v (.int .i64 r5)) Zd Z1 bLm (fun H=>(cD (aB.data _) .nil)) (oQ h4) ?_;refine pA ?_;refine fs (AWp.seq' (sN 320 ?_))
    iterate 3 refine pA ?_
    refine fs (AWp.condM hm Z1 (fun _ hm=>?_) (fun _ hm=>?_))
    ·
     refine sN 384 (pA ?_);obtain ⟨_,h6,hm⟩:=bnd hm;refine pu rfl (rW Z1 (aB.av_nn (oY h6))) ?_
     iterate 3 refine pA ?_
     obtain ⟨⟨r8,r9⟩,h7,hm⟩:=bnd hm;refine aV.callQ (r:= .tup [aB.av r8,aB.av r9]) Zd Z1 bLl (fun H=>(cD (aB.data _) (cV .nil))) (ih h7) ?_
     iterate 5 refine pA ?_
     refine fs (sd mix (by kernel_rfl) (N':=448) rfl ?_)
     iterate 3 refine pA ?_
     obtain ⟨_,h10,hm⟩:=bnd hm;refine pu rfl (rW Z1 (aB.av_nn (oY h10))) ?_
     iterate 3 refine pA ?_
     obtain ⟨_,h11,hm⟩:=bnd hm;refine pu rfl (rW Z1 (aB.av_nn (oY h11))) ?_
     iterate 2 refine pA ?_
     obtain ⟨r13,h12,hm⟩:=bnd hm;refine aV.callQ (r:=aB.av r13) Zd Z1 aZd (fun H=>(cD (aB.data _) (cD (.agg _ (fD.dat _)) (cD (aB.data _) .nil)))) (vZ h12) ?_
     iterate 2 refine pA ?_
     refine fs (AWp.ret (iD ?_));cases hm;exact aBn (.inr rfl) Tryz.results153 (td Z1 (aB.data _)) (td Z1 (aB.data _))
    ·
     refine AWp.skip (bM (sN 384 (pA ?_)));obtain ⟨_,h14,hm⟩:=bnd hm;refine pu rfl (rW Z1 (aB.av_nn (oY h14))) ?_
     iterate 6 refine pA ?_
     obtain ⟨⟨r16,r17⟩,h15,hm⟩:=bnd hm;refine aV.callQ (r:= .tup [aB.av r16,aB.av r17]) Zd Z1 bLl (fun H=>(cD (aB.data _) (cV .nil))) (ih h15) ?_
     iterate 5 refine pA ?_
     refine fs (sd mix (by kernel_rfl) (N':=448) rfl ?_);refine pA ?_;obtain ⟨_,h18,hm⟩:=bnd hm;refine pu rfl (rW Z1 (aB.av_nn (oY h18))) ?_
     iterate 3 refine pA ?_
     obtain ⟨_,h19,hm⟩:=bnd hm;refine pu rfl (rW Z1 (aB.av_nn (oY h19))) ?_
     iterate 3 refine pA ?_
     obtain ⟨r21,h20,hm⟩:=bnd hm;refine aV.callQ (r:=aB.av r21) Zd Z1 aZd (fun H=>(cD (aB.data _) (cD (.agg _ (fD.dat _)) (cD (aB.data _) .nil)))) (vZ h20) ?_
     iterate 3 refine pA ?_
     refine fs (AWp.ret ?_);cases hm;exact aBn (.inr rfl) Tryz.results153 (td Z1 (aB.data _)) (td Z1 (aB.data _))
theorem zE{s_0:aB}{aFk:Int}{r:aB×aB}(hm:nP s_0 aFk=some r):bN prog 153 [aB.av s_0,.v (.int .i64 aFk)] (.tup [aB.av r.1,aB.av r.2]):=aLn bF hm
def nN(recf:(List bI)→Option (aB))(l_0:List bI):Option (aB):=
 (bif ((l_0.length:Int)==0) then
  some aB.nil
 else
  ((slc l_0 0 (IntKind.i64.wrap (Int.tdiv (l_0.length:Int) 2))).bind fun l2=>
  ((recf l2).bind fun r4=>
  ((idx l_0 (IntKind.i64.wrap (Int.tdiv (l_0.length:Int) 2))).bind fun x6=>
  ((slc l_0 (IntKind.i64.wrap ((IntKind.i64.wrap (Int.tdiv (l_0.length:Int) 2))+1)) (l_0.length:Int)).bind fun l8=>
  ((recf l8).bind fun r10=>
  ((dG r4 x6 r10).bind fun r12=>
  some r12)))))))
def rR:Nat→(List bI)→Option (aB)
 |0=>fun _=>none
 |n+1=>nN (rR n)
def aAe(l_0:List bI):Option (aB):=rR bF l_0
theorem aSr: ∀(nn:Nat) {l_0:List bI} {r:aB} (hm:rR nn l_0=some r),bN prog 155 [.sl (l_0.flatMap tQ) l_0.length false] (aB.av r):=by
 intro nn
 induction nn with
 |zero=>
  intro l_0 r hm;replace hm:none=some r:=hm;cases hm
 |succ nn ih=>
  intro l_0 r hm;replace hm:nN (rR nn) l_0=some r:=hm;refine bN.of_body func155 rfl ?_;simp only [ntmps155,List.length_cons,List.length_nil,Nat.reduceAdd,Nat.reduceSub,fH];unfold nN at hm;refine sN 64 (pA ?_);refine fs (AWp.seq' (sN 128 ?_))
  iterate 3 refine pA ?_
  refine fs (AWp.condM hm Z1 (fun _ hm=>?_) (fun _ hm=>?_))
  · refine sN 192 (pA ?_);refine fs (AWp.ret (iD ?_));cases hm;exact aIf (.inr rfl) Tryz.results155 (td Z1 (aB.data _))
  ·
   refine AWp.skip (bM (sN 192 ?_))
   iterate 4 refine pu rfl Zj ?_
   refine fs (sd mix (by kernel_rfl) (N':=256) rfl ?_)
   iterate 2 refine pA ?_
   obtain ⟨l2,h1,hm⟩:=bnd hm;refine pu rfl (aWd fD underlying267 aZw Z1 rfl aT8 (aBp Z1 (aZs h1).2) h1) ?_;obtain ⟨r4,h3,hm⟩:=bnd hm;refine aV.callQ (r:=aB.av r4) Zd Z1 bFa (fun H=>(.cons (tdf Z1 (fD.sl _ _ _)) .nil)) (ih h3) ?_
   iterate 2 refine pA ?_
   obtain ⟨x6,h5,hm⟩:=bnd hm;refine pu rfl (aG7 fD Zd underlying267 aZw Z1 rfl Z1 h5) ?_
   iterate 4 refine pA ?_
   obtain ⟨l8,h7,hm⟩:=bnd hm;refine pu rfl (aWd fD underlying267 aZw Z1 rfl (aBp Z1 (aZs h7).1) (aQy _) h7) ?_;obtain ⟨r10,h9,hm⟩:=bnd hm;refine aV.callQ (r:=aB.av r10) Zd Z1 bFa (fun H=>(.cons (tdf Z1 (fD.sl _ _ _)) .nil)) (ih h9) ?_;obtain ⟨r12,h11,hm⟩:=bnd hm;refine aV.callQ (r:=aB.av r12) Zd Z1 bLo (fun H=>(cD (aB.data _) (cD (.agg _ (fD.dat _)) (cD (aB.data _) .nil)))) (aB1 h11) ?_;refine pA ?_;refine fs (AWp.ret ?_);cases hm;exact aIf (.inr rfl) Tryz.results155 (td Z1 (aB.data _))
theorem aV9{l_0:List bI}{r:aB}(hm:aAe l_0=some r):bN prog 155 [.sl (l_0.flatMap tQ) l_0.length false] (aB.av r):=aSr bF hm
def mE(a_0:aB)(b_1:aB):Option (aB):=
 ((lA b_1 0).bind fun ⟨r2,r3⟩=>
 (bif (!r3) then
  some a_0
 else
  ((nP b_1 1).bind fun ⟨r5,r6⟩=>
  ((lV a_0 r2 r6).bind fun r8=>
  some r8))))
theorem aB0{a_0:aB}{b_1:aB}{r:aB}(hm:mE a_0 b_1=some r):bN prog 154 [aB.av a_0,aB.av b_1] (aB.av r):=by
 refine bd 26 func154 ?_;refine W ?_;obtain ⟨⟨r2,r3⟩,h1,hm⟩:=bnd hm;refine cq (aAd h1) ?_;refine W ?_;refine cm hm (fun hm=>?_) fun hm=>?_
 · exact E
 refine W ?_;obtain ⟨⟨r5,r6⟩,h4,hm⟩:=bnd hm;refine cq (zE h4) ?_;obtain ⟨r8,h7,hm⟩:=bnd hm;refine W ?_;refine cq (vZ h7) ?_;exact E
instance:Ct prog 154 (K2 prog aB.av aB.av aB.av 154 mE):=⟨fun hm=>aB0 hm⟩
abbrev aC5(gM:Int)(n_2:Int)(t6:bP)(aN0:aB)(aEf:aB):Option (bP):=
 ((aAe [(bI.mk gM n_2)]).bind fun r7=>
 ((mE r7 aEf).bind fun r9=>
 ((mE aN0 r9).bind fun r11=>
 some (bP.mk r11))))
def aBf(d_0:bP)(gM:Int)(n_2:Int):Option (bP):=
 ((tS d_0 gM).bind fun r2=>
 ((nP d_0.s r2).bind fun ⟨r4,r5⟩=>
 ((lA r5 0).bind fun ⟨r13,r14⟩=>
 (bif (r14&&(r13.Key==gM)) then
  ((nP r5 1).bind fun ⟨r16,r17⟩=>
  aC5 gM n_2 (bP.mk aB.nil) r4 r17)
 else
  aC5 gM n_2 (bP.mk aB.nil) r4 r5))))
theorem bAv{d_0:bP}{gM:Int}{n_2:Int}{r:bP}(hm:aBf d_0 gM n_2=some r):bN prog 118 [.agg [aB.av d_0.s],vu gM,vi n_2] (.agg [aB.av r.s]):=by
 refine bd 47 func118 ?_;obtain ⟨r2,h1,hm⟩:=bnd hm;refine W ?_;refine cq (aMl h1) ?_;obtain ⟨⟨r4,r5⟩,h3,hm⟩:=bnd hm;refine cq (zE h3) ?_;refine V ?_;refine AWp.seqJ (fun s=> ∃gM n_2 t6 aN0 aEf,s=⟨47,(aF (aF (aF (aF (aF fa 1 (vu gM)) 2 (vi n_2)) 6 (.adr 1 0)) 7 (aB.av aN0)) 8 (aB.av aEf)),⟨(upd bD 1 (.cells 1 [aB.av t6.s] 0)),64⟩⟩∧aC5 gM n_2 t6 aN0 aEf=some r) ?_ ?_
 ·
  refine W ?_;obtain ⟨⟨r13,r14⟩,h12,hm⟩:=bnd hm;refine cq (aAd h12) ?_;refine W ?_;refine cm hm (fun hm=>?_) fun hm=>?_
  · refine W ?_;obtain ⟨⟨r16,r17⟩,h15,hm⟩:=bnd hm;refine cq (zE h15) ?_;refine W ?_;exact Lr (fun j=>bif j==1 then 1 else 0)
  refine W ?_;exact Lr (fun j=>bif j==1 then 1 else 0)
 rintro s ⟨gM,n_2,t6,aN0,aEf,rfl,hm⟩;refine W ?_;refine bU (.agg [vu gM,vi n_2]) ?_;refine aL fD [(bI.mk gM n_2)] ?_;obtain ⟨r7,h6,hm⟩:=bnd hm;refine aV.callL1 (r:=aB.av r7) (id:=68) Zd Z1 bFa Z3 (.cons (tdl fD Z1 Z3 (by simp) Z6) .nil) (aV9 h6) ?_;obtain ⟨r9,h8,hm⟩:=bnd hm;refine W ?_;refine cq (aB0 h8) ?_;obtain ⟨r11,h10,hm⟩:=bnd hm;refine cq (aB0 h10) ?_;refine pu rfl (by simp only [go_sem,Nat.reduceBEq];exact bEf (aB.cells _)) ?_;exact E
instance:Ct prog 118 (K3 prog rH vu vi rH 118 aBf):=⟨fun hm=>bAv hm⟩
abbrev aB6(rec1:bP→bP→List aM→Int→Int→Option (bP×Bool))(t2:bP)(lN:bP)(t14:List aM)(t15:Int)(t16:Int):Option (bP×Bool):=
 rec1 t2 lN t14 t15 (IntKind.i64.wrap (t16+1))
def aB5(rec1:bP→bP→List aM→Int→Int→Option (bP×Bool))(t2:bP)(lN:bP)(t14:List aM)(t15:Int)(t16:Int):Option (bP×Bool):=
 (bif (decide (t16<t15)) then
  ((idx t14 t16).bind fun x4=>
  (bif (!x4.Used) then
   (bif (x4.Key !=0) then
    some ((bP.mk aB.nil),false)
   else
    aB6 rec1 t2 lN t14 t15 t16)
  else
   ((rK lN x4.Key).bind fun ⟨r6,r7⟩=>
   (bif r7 then
    some ((bP.mk aB.nil),false)
   else
    ((aBf lN x4.Key t16).bind fun r9=>
    aB6 rec1 t2 r9 t14 t15 t16)))))
 else
  some (lN,true))
def qQ:Nat→bP→bP→List aM→Int→Int→Option (bP×Bool)
 |0=>fun _ _ _ _ _=>none
 |n+1=>aB5 (qQ n)
def kC(l_0:List aM):Option (bP×Bool):=
 ((lO (l_0.length:Int)).bind fun r2=>
 (bif (!r2) then
  some ((bP.mk aB.nil),false)
 else
  qQ bF (bP.mk aB.nil) (bP.mk aB.nil) l_0 (l_0.length:Int) 0))
theorem aD7:K1 prog (vl aX) (t2 rH vb) 78 kC:=by
 intro l_0 r hm
 let I1:=((fun m s=> ∃t2 lN t14 t15 t16,s=⟨44,(aF (aF (aF (aF (aF fa 2 (.adr 1 0)) 4 (.adr 2 0)) 14 (vl aX t14)) 15 (vi t15)) 16 (vi t16)),⟨(upd (upd bD 1 (.cells 1 [aB.av t2.s] 0)) 2 (.cells 1 [aB.av lN.s] 0)),64⟩⟩∧qQ m t2 lN t14 t15 t16=some r):Nat→St→Prop)
 exact be 44 func78 (h:=G)
instance:Ct prog 78 (K1 prog (vl aX) (t2 rH vb) 78 kC):=⟨aD7⟩
def tF(l_0:List aM):Option (Bool):=
 ((kC l_0).bind fun ⟨r2,r3⟩=>
 some r3)
theorem aT4:K1 prog (vl aX) vb 77 tF:=fun hm=>be 11 func77 (h:=G)
instance:Ct prog 77 (K1 prog (vl aX) vb 77 tF):=⟨aT4⟩
def aCz(rec1:aD→List aC→Int→Int→Option (Bool))(s_1:aD)(t27:List aC)(t28:Int)(t29:Int):Option (Bool):=
 (bif (decide (t29<t28)) then
  ((idx t27 t29).bind fun x6=>
  ((idx s_1.Slots x6.U).bind fun x8=>
  ((gO ((!x8.Used)==false) (aM.mk false 0) (idx s_1.Slots x6.V)).bind fun x10=>
  (bif ((!x8.Used)||(!x10.Used)) then
   some false
  else
   rec1 s_1 t27 t28 (IntKind.i64.wrap (t29+1))))))
 else
  some true)
def tB:Nat→aD→List aC→Int→Int→Option (Bool)
 |0=>fun _ _ _ _=>none
 |n+1=>aCz (tB n)
def rS(s_0:aD):Option (Bool):=
 ((eK s_0.Graph).bind fun r2=>
 ((gO ((!r2)==false) false (tF s_0.Slots)).bind fun r4=>
 (bif (((!r2)||(!r4))||((s_0.Slots.length:Int) !=s_0.Graph.Config.N)) then
  some false
 else
  tB bF s_0 s_0.Graph.Edges (s_0.Graph.Edges.length:Int) 0)))
theorem aVb:K1 prog dI vb 36 rS:=by
 intro s_0 r hm
 let I1:=((fun m s=> ∃s_1 t27 t28 t29,s=⟨52,(aF (aF (aF (aF fa 1 (.adr 1 0)) 27 (vl aU t27)) 28 (vi t28)) 29 (vi t29)),⟨(upd bD 1 (.cells 1 [vi s_1.Graph.Config.N,vi s_1.Graph.Config.L,vi s_1.Graph.Config.R,vl bS s_1.Graph.Hashes,vl aU s_1.Graph.Edges,vl aX s_1.Slots] 0)),64⟩⟩∧tB m s_1 t27 t28 t29=some r):Nat→St→Prop)
 exact be 52 func36 (h:=G)
instance:Ct prog 36 (K1 prog dI vb 36 rS):=⟨aVb⟩
def nW(l_0:List aM)(gM:Int):Option (Int×Bool):=
 ((kC l_0).bind fun ⟨r2,r3⟩=>
 (bif (!r3) then
  some (0,false)
 else
  ((rK r2 gM).bind fun ⟨r5,r6⟩=>
  some (r5,r6))))
theorem aVr:K2 prog (vl aX) vu (t2 vi vb) 37 nW:=fun hm=>be 20 func37 (h:=G)
instance:Ct prog 37 (K2 prog (vl aX) vu (t2 vi vb) 37 nW):=⟨aVr⟩
def sI(aU3:Int):Option (Bool):=
 some (((decide (2≤aU3))&&(decide (aU3≤11)))&&(aU3 !=10))
theorem aRt:K1 prog vi vb 38 sI:=fun hm=>be 13 func38 (h:=G)
instance:Ct prog 38 (K1 prog vi vb 38 sI):=⟨aRt⟩
def sJ(aU3:Int):Option (Bool):=
 some ((((aU3==3)||(aU3==4))||(aU3==5))||(aU3==8))
theorem aRu:K1 prog vi vb 39 sJ:=fun hm=>be 17 func39 (h:=G)
instance:Ct prog 39 (K1 prog vi vb 39 sJ):=⟨aRu⟩
def rN(s_0:aD)(v_1:Int):Option ((List Int)):=
 ((aAj s_0.Graph.Config.N s_0.Graph.Edges v_1).bind fun r2=>
 some r2)
theorem aUf:K2 prog dI vi (vl (ci .i64)) 83 rN:=fun hm=>be 14 func83 (h:=G)
instance:Ct prog 83 (K2 prog dI vi (vl (ci .i64)) 83 rN):=⟨aUf⟩
def pY(s_0:aD)(v_1:Int):Option (Int):=
 ((rN s_0 v_1).bind fun r2=>
 some (r2.length:Int))
theorem aOs:K2 prog dI vi vi 81 pY:=fun hm=>be 9 func81 (h:=G)
instance:Ct prog 81 (K2 prog dI vi vi 81 pY):=⟨aOs⟩
def gD(x_0:Int):Option (Bool):=
 some (x_0 !=x_0)
theorem aJb:K1 prog vu vb 162 gD:=fun hm=>be 6 func162 (h:=G)
instance:Ct prog 162 (K1 prog vu vb 162 gD):=⟨aJb⟩
def lQ(x_0:Int)(y_1:Int):Option (Bool):=
 ((gD x_0).bind fun r2=>
 ((gO (r2==true) false (gD y_1)).bind fun r4=>
 some ((r2&&(!r4))||(decide (x_0<y_1)))))
theorem aDa:K2 prog vu vu vb 199 lQ:=fun hm=>be 17 func199 (h:=G)
instance:Ct prog 199 (K2 prog vu vu vb 199 lQ):=⟨aDa⟩
def dH(rec1:List Int→Int→Int→Int→Option (List Int))(rec2:List Int→Int→Int→Int→Int→Option (List Int))(aZ:List Int)(a_1:Int)(b_2:Int)(i_6:Int)(j_7:Int):Option (List Int):=
 ((gO ((decide (a_1<j_7))==true) 0 (idx aZ j_7)).bind fun x2=>
 ((gO ((decide (a_1<j_7))==true) 0 (idx aZ (IntKind.i64.wrap (j_7-1)))).bind fun x4=>
 ((gO ((decide (a_1<j_7))==true) false (lQ x2 x4)).bind fun r6=>
 (bif ((decide (a_1<j_7))&&r6) then
  ((idx aZ (IntKind.i64.wrap (j_7-1))).bind fun x8=>
  ((idx aZ j_7).bind fun x10=>
  ((idx aZ j_7).bind fun x12=>
  ((stt aZ j_7 x8).bind fun l14=>
  ((idx l14 (IntKind.i64.wrap (j_7-1))).bind fun x16=>
  ((stt l14 (IntKind.i64.wrap (j_7-1)) x10).bind fun l18=>
  rec2 l18 a_1 b_2 i_6 (IntKind.i64.wrap (j_7-1))))))))
 else
  rec1 aZ a_1 b_2 (IntKind.i64.wrap (i_6+1))))))
def cL(rec1:List Int→Int→Int→Int→Option (List Int)):Nat→List Int→Int→Int→Int→Int→Option (List Int)
 |0=>fun _ _ _ _ _=>none
 |n+1=>dH rec1 (cL rec1 n)
def bZ(rec1:List Int→Int→Int→Int→Option (List Int))(aZ:List Int)(a_1:Int)(b_2:Int)(i_6:Int):Option (List Int):=
 (bif (decide (i_6<b_2)) then
  cL rec1 bF aZ a_1 b_2 i_6 i_6
 else
  some aZ)
def bK:Nat→List Int→Int→Int→Int→Option (List Int)
 |0=>fun _ _ _ _=>none
 |n+1=>bZ (bK n)
def dL(aZ:List Int)(a_1:Int)(b_2:Int):Option (List Int):=
 bK bF aZ a_1 b_2 (IntKind.i64.wrap (a_1+1))
theorem rG{aZ:List Int}{a_1:Int}{b_2:Int}{r:List Int}(hm:dL aZ a_1 b_2=some r){H:aG}{i0:Nat}(he:H.ent i0= .cells 1 (aZ.flatMap (ci .u64)) 0):dW prog 193 [.own i0 0 aZ.length,.v (.int .i64 a_1),.v (.int .i64 b_2)] H (.tup []) (H.put i0 (.cells 1 (r.flatMap (ci .u64)) 0)):=by
 refine dW.of_bodyM func193 rfl he ?_;generalize H.ent=h0;simp only [ntmps193,List.length_cons,List.length_nil,Nat.reduceAdd,Nat.reduceSub];unfold dL at hm;refine sN 64 ?_
 iterate 3 refine pA ?_
 refine fs (AWp.block (AWp.loopM (fun m s=> ∃(aZ:List Int) (a_1:Int) (b_2:Int) (i_6:Int),s=(⟨49,(aF (aF (aF (aF (fun _=>AV.any) 0 (.own i0 0 aZ.length)) 1 (.v (.int .i64 a_1))) 2 (.v (.int .i64 b_2))) 6 (.v (.int .i64 i_6))),⟨(upd h0 i0 (.cells 1 (aZ.flatMap (ci .u64)) 0)),64⟩⟩:St)∧bK m aZ a_1 b_2 i_6=some r) bF ?_ ?_ ?_))
 · rintro s ⟨_,_,_,_,_,h⟩;cases h
 · refine ⟨_,?_,aZ,a_1,b_2,(IntKind.i64.wrap (a_1+1)),rfl,hm⟩;exact vR (bR 6 _ Z1 (bR 2 _ Z1 (bR 1 _ Z1 (bR 0 _ (vU Z1 Z6) qU)))) Zc
 ·
  rintro n1 s ⟨aZ,a_1,b_2,i_6,rfl,hm⟩;replace hm:bZ (bK n1) aZ a_1 b_2 i_6=some r:=hm;unfold bZ at hm;refine AWp.seq' (sN 128 ?_)
  iterate 3 refine pA ?_
  refine fs (AWp.condM hm Z1 (fun _ hm=>?_) (fun _ hm=>?_))
  ·
   refine AWp.skip (bM (AWp.seq' (AWp.block (sN 192 ?_))))
   iterate 2 refine pA ?_
   refine fs (AWp.block (AWp.loopM (fun m s=> ∃(aZ:List Int) (a_1:Int) (b_2:Int) (i_6:Int) (j_7:Int),s=(⟨49,(aF (aF (aF (aF (aF (fun _=>AV.any) 0 (.own i0 0 aZ.length)) 1 (.v (.int .i64 a_1))) 2 (.v (.int .i64 b_2))) 6 (.v (.int .i64 i_6))) 7 (.v (.int .i64 j_7))),⟨(upd h0 i0 (.cells 1 (aZ.flatMap (ci .u64)) 0)),64⟩⟩:St)∧cL (bK n1) m aZ a_1 b_2 i_6 j_7=some r) bF ?_ ?_ ?_))
   · rintro s ⟨_,_,_,_,_,_,h⟩;cases h
   · refine ⟨_,?_,aZ,a_1,b_2,i_6,i_6,rfl,hm⟩;exact vR (bR 7 _ Z1 (bR 6 _ Z1 (bR 2 _ Z1 (bR 1 _ Z1 (bR 0 _ (vU Z1 Z6) qU))))) Zc
   ·
    rintro n2 s ⟨aZ,a_1,b_2,i_6,j_7,rfl,hm⟩;replace hm:dH (bK n1) (cL (bK n1) n2) aZ a_1 b_2 i_6 j_7=some r:=hm;unfold dH at hm;refine AWp.seq' (sd mix (by kernel_rfl) (N':=128) rfl ?_)
    iterate 6 first|refine pA ?_|refine pB ?_
    obtain ⟨x2,h1,hm⟩:=bnd hm;refine pg rfl rfl Z2 (fun hb=>(eI underlying24 aLo (Zh hb) Za Z6 (Zh hb) (fP h1 hb))) ?_;refine pg rfl rfl Z2 (fun hb=>(mW (CFi .u64) (Zh hb) Za (fP h1 hb) Zb)) ?_
    iterate 3 refine pB ?_
    obtain ⟨x4,h3,hm⟩:=bnd hm;refine pg rfl rfl Z2 (fun hb=>(eI underlying24 aLo (Zh hb) Za Z6 (Zh hb) (fP h3 hb))) ?_;refine pg rfl rfl Z2 (fun hb=>(mW (CFi .u64) (Zh hb) Za (fP h3 hb) Zb)) ?_;obtain ⟨r6,h5,hm⟩:=bnd hm;refine aV.callQG (r:= .v (.bool r6)) Zd rfl Z2 Z1 bP8 (fun hb H=>(.cons (td (Zh hb) (.v _)) (.cons (td (Zh hb) (.v _)) .nil))) (fun hb=>aDa (fP h5 hb)) ?_;refine pA ?_;refine fs (AWp.condM hm Z1 (fun _ hm=>?_) (fun _ hm=>?_))
    ·
     refine AWp.skip (bM (AWp.seq' (AWp.block (AWp.regD 64 mix (by kernel_rfl) (N':=192) rfl ?_))))
     iterate 8 refine pA ?_
     obtain ⟨x8,h7,hm⟩:=bnd hm;refine pu rfl (eI underlying24 aLo Z1 Za Z6 Z1 h7) ?_;refine pu rfl (mW (CFi .u64) Z1 Za h7 Zb) ?_
     iterate 2 refine pA ?_
     obtain ⟨x10,h9,hm⟩:=bnd hm;refine pu rfl (eI underlying24 aLo Z1 Za Z6 Z1 h9) ?_;refine pu rfl (mW (CFi .u64) Z1 Za h9 Zb) ?_;obtain ⟨x12,h11,hm⟩:=bnd hm;refine pu rfl (eI underlying24 aLo Z1 Za Z6 Z1 h11) ?_;obtain ⟨l14,h13,hm⟩:=bnd hm;have qh13:=kM h13;refine aV.heap0 (id:=143) rfl (yB (CFi .u64) aLo Z1 Z1 Za rfl h13) ?_;obtain ⟨x16,h15,hm⟩:=bnd hm;refine pu rfl (eI underlying24 aLo Z1 Za Z6 Z1 h15) ?_;obtain ⟨l18,h17,hm⟩:=bnd hm;have qh17:=kM h17;refine aV.heap0 (id:=145) rfl (yB (CFi .u64) aLo Z1 Z1 Za rfl h17) ?_;refine aV.fin (hY (bM (AWp.reg 64 (N':=256) rfl ?_)))
     iterate 3 refine pA ?_
     refine aV.fin (fK ?_);refine ⟨_,?_,l18,a_1,b_2,i_6,(IntKind.i64.wrap (j_7-1)),rfl,hm⟩;exact vR (bR 7 _ Z1 (bR 6 _ Z1 (bR 2 _ Z1 (bR 1 _ Z1 (bR 0 _ (vU Z1 Z6) qU))))) Zc
    ·
     refine AWp.exit (iH (fO (fN (hY (bM (AWp.reg 64 (N':=192) rfl ?_))))))
     iterate 3 refine pA ?_
     refine aV.fin (fK ?_);refine ⟨_,?_,aZ,a_1,b_2,(IntKind.i64.wrap (i_6+1)),rfl,hm⟩;exact vR (bR 6 _ Z1 (bR 2 _ Z1 (bR 1 _ Z1 (bR 0 _ (vU Z1 Z6) qU)))) Zc
  · refine AWp.exit (iH (fO (fN ?_)));cases hm;exact aQd (.inl rfl) Tryz.results193 Zc
def eR(recf:(List Int)→Int→Int→Int→Option (List Int))(rec1:List Int→Int→Int→Int→Bool→Bool→Option (List Int))(aZ:List Int)(a_1:Int)(b_2:Int)(cY:Int)(qS:Bool)(kV:Bool):Option (List Int):=
 (bif (decide ((IntKind.i64.wrap (b_2-a_1))≤12)) then
  ((aI3 (fun x=>x.length) aZ.length (dL aZ a_1 b_2)).bind fun l2=>
  some l2)
 else
  (bif (cY==0) then
   none
  else
   none))
def eT(recf:(List Int)→Int→Int→Int→Option (List Int)):Nat→List Int→Int→Int→Int→Bool→Bool→Option (List Int)
 |0=>fun _ _ _ _ _ _=>none
 |n+1=>eR recf (eT recf n)
def jB(recf:(List Int)→Int→Int→Int→Option (List Int))(aZ:List Int)(a_1:Int)(b_2:Int)(cY:Int):Option (List Int):=
 eT recf bF aZ a_1 b_2 cY true true
def cI:Nat→(List Int)→Int→Int→Int→Option (List Int)
 |0=>fun _ _ _ _=>none
 |n+1=>jB (cI n)
def fU(aZ:List Int)(a_1:Int)(b_2:Int)(cY:Int):Option (List Int):=cI bF aZ a_1 b_2 cY
theorem vJ: ∀(nn:Nat) {aZ:List Int} {a_1:Int} {b_2:Int} {cY:Int} {r:List Int} (hm:cI nn aZ a_1 b_2 cY=some r) {H:aG} {i0:Nat} (he:H.ent i0= .cells 1 (aZ.flatMap (ci .u64)) 0),dW prog 159 [.own i0 0 aZ.length,.v (.int .i64 a_1),.v (.int .i64 b_2),.v (.int .i64 cY)] H (.tup []) (H.put i0 (.cells 1 (r.flatMap (ci .u64)) 0)):=by
 intro nn
 induction nn with
 |zero=>
  intro aZ a_1 b_2 cY r hm;replace hm:none=some r:=hm;cases hm
 |succ nn ih=>
  intro aZ a_1 b_2 cY r hm H i0 he;replace hm:jB (cI nn) aZ a_1 b_2 cY=some r:=hm;refine dW.of_bodyM func159 rfl he ?_;generalize H.ent=h0;simp only [ntmps159,List.length_cons,List.length_nil,Nat.reduceAdd,Nat.reduceSub];unfold jB at hm;refine sN 64 (pA ?_);refine fs (sN 128 (pA ?_));refine fs (AWp.block (AWp.loopM (fun m s=> ∃(aZ:List Int) (a_1:Int) (b_2:Int) (cY:Int) (qS:Bool) (kV:Bool),s=(⟨134,(aF (aF (aF (aF (aF (aF (fun _=>AV.any) 0 (.own i0 0 aZ.length)) 1 (.v (.int .i64 a_1))) 2 (.v (.int .i64 b_2))) 3 (.v (.int .i64 cY))) 8 (.v (.bool qS))) 9 (.v (.bool kV))),⟨(upd h0 i0 (.cells 1 (aZ.flatMap (ci .u64)) 0)),64⟩⟩:St)∧eT (cI nn) m aZ a_1 b_2 cY qS kV=some r) bF ?_ ?_ ?_))
  · rintro s ⟨_,_,_,_,_,_,_,h⟩;cases h
  · refine ⟨_,?_,aZ,a_1,b_2,cY,true,true,rfl,hm⟩;exact vR (bR 9 _ Z1 (bR 8 _ Z1 (bR 3 _ Z1 (bR 2 _ Z1 (bR 1 _ Z1 (bR 0 _ (vU Z1 Z6) qU)))))) Zc
  ·
   rintro n1 s ⟨aZ,a_1,b_2,cY,qS,kV,rfl,hm⟩;replace hm:eR (cI nn) (eT (cI nn) n1) aZ a_1 b_2 cY qS kV=some r:=hm;unfold eR at hm;refine AWp.block (sN 128 ?_)
   iterate 4 refine pA ?_
   refine fs (AWp.seq' (sN 192 ?_))
   iterate 2 refine pA ?_
   refine fs (AWp.condM hm Z1 (fun _ hm=>?_) (fun _ hm=>?_))
   ·
    refine sN 256 ?_
    iterate 3 refine pA ?_
    obtain ⟨l2,h1,hm⟩:=bnd hm;have qh1:=aJj h1;refine aV.callM Zd Z1 bP7 ?_ (rG (aGj h1) (i0:=i0) Za) ?_
    ·
     try simp only [go_sem,Nat.reduceBEq]
     first|done|rfl|(congr 2<;>omega)
    refine fs (AWp.ret (iD (qF (qW (qF ?_)))));cases hm;exact aQd (.inr rfl) Tryz.results159 Zc
   ·
    refine AWp.skip (bM (AWp.seq' (sN 256 ?_)))
    iterate 2 refine pA ?_
    refine fs (AWp.condM hm Z1 (fun _ hm=>?_) (fun _ hm=>?_))
    · cases hm
    · cases hm
theorem wF{aZ:List Int}{a_1:Int}{b_2:Int}{cY:Int}{r:List Int}(hm:fU aZ a_1 b_2 cY=some r){H:aG}{i0:Nat}(he:H.ent i0= .cells 1 (aZ.flatMap (ci .u64)) 0):dW prog 159 [.own i0 0 aZ.length,.v (.int .i64 a_1),.v (.int .i64 b_2),.v (.int .i64 cY)] H (.tup []) (H.put i0 (.cells 1 (r.flatMap (ci .u64)) 0)):=vJ bF hm he
def iG(x_0:List Int):Option (List Int):=
 ((xJ (IntKind.u64.wrap (x_0.length:Int))).bind fun r2=>
 ((aI3 (fun x=>x.length) x_0.length (fU x_0 0 (x_0.length:Int) r2)).bind fun l4=>
 some l4))
theorem aH1{x_0:List Int}{r:List Int}(hm:iG x_0=some r){H:aG}{i0:Nat}(he:H.ent i0= .cells 1 (x_0.flatMap (ci .u64)) 0):dW prog 121 [.own i0 0 x_0.length] H (.tup []) (H.put i0 (.cells 1 (r.flatMap (ci .u64)) 0)):=by
 refine dW.of_bodyM func121 rfl he ?_;generalize H.ent=h0;simp only [ntmps121,List.length_cons,List.length_nil,Nat.reduceAdd,Nat.reduceSub];unfold iG at hm;refine sN 64 ?_
 iterate 3 refine pA ?_
 refine fs (AWp.reg 64 (N':=128) rfl ?_)
 iterate 4 refine pA ?_
 obtain ⟨r2,h1,hm⟩:=bnd hm;refine aV.callQ (r:= .v (.int .i64 r2)) Zd Z1 bLn (fun H=>(cV .nil)) (aJ8 h1) ?_;obtain ⟨l4,h3,hm⟩:=bnd hm;have qh3:=aJj h3;refine aV.callM Zd Z1 bP4 ?_ (wF (aGj h3) (i0:=i0) Za) ?_
 ·
  try simp only [go_sem,Nat.reduceBEq]
  first|done|rfl|(congr 2<;>omega)
 refine aV.fin ?_;cases hm;exact aQd (.inl rfl) Tryz.results121 Zc
abbrev wN(rec1:aD→List Int→List Int→Int→Int→Option ((List Int)))(s_2:aD)(gN:List Int)(t8:List Int)(t9:Int)(t10:Int):Option ((List Int)):=
 rec1 s_2 gN t8 t9 (IntKind.i64.wrap (t10+1))
def aCb(rec1:aD→List Int→List Int→Int→Int→Option ((List Int)))(s_2:aD)(gN:List Int)(t8:List Int)(t9:Int)(t10:Int):Option ((List Int)):=
 (bif (decide (t10<t9)) then
  ((idx t8 t10).bind fun x2=>
  ((idx s_2.Slots x2).bind fun x4=>
  (bif x4.Used then
   ((idx s_2.Slots x2).bind fun x6=>
   ((app gN [x6.Key]).bind fun l8=>
   wN rec1 s_2 l8 t8 t9 t10))
  else
   wN rec1 s_2 gN t8 t9 t10)))
 else
  ((aI3 (fun x=>x.length) gN.length (iG gN)).bind fun l10=>
  some l10))
def oH:Nat→aD→List Int→List Int→Int→Int→Option ((List Int))
 |0=>fun _ _ _ _ _=>none
 |n+1=>aCb (oH n)
def kZ(s_0:aD)(l_1:List Int):Option ((List Int)):=
 oH bF s_0 [] l_1 (l_1.length:Int) 0
theorem aUe{s_0:aD}{l_1:List Int}{r:(List Int)}(hm:kZ s_0 l_1=some r):bN prog 82 [.agg [vi s_0.Graph.Config.N,vi s_0.Graph.Config.L,vi s_0.Graph.Config.R,vl bS s_0.Graph.Hashes,vl aU s_0.Graph.Edges,vl aX s_0.Slots],vl (ci .i64) l_1] (vl (ci .u64) r):=by
 refine bd 33 func82 ?_;refine W ?_;refine lp (fun m s=> ∃s_2 gN t8 t9 t10,s=⟨33,(aF (aF (aF (aF (aF fa 2 (.adr 1 0)) 5 (.own 2 0 gN.length)) 8 (vl (ci .i64) t8)) 9 (vi t9)) 10 (vi t10)),⟨(upd (upd bD 1 (.cells 1 [vi s_2.Graph.Config.N,vi s_2.Graph.Config.L,vi s_2.Graph.Config.R,vl bS s_2.Graph.Hashes,vl aU s_2.Graph.Edges,vl aX s_2.Slots] 0)) 2 (.cells 1 (gN.flatMap (ci .u64)) 0)),64⟩⟩∧oH m s_2 gN t8 t9 t10=some r) ?_ ?_
 · refine ⟨_,?_,s_0,[],l_1,(l_1.length:Int),0,rfl,hm⟩;refine St.Le.trans (sL 5 900005 1 Z1 Z5) ?_;exact cn (fun j=>bif j==1 then 0 else bif j==2 then 900005 else 0)
 rintro n1 s ⟨s_2,gN,t8,t9,t10,rfl,hm⟩;refine W ?_;refine cm hm (fun hm=>?_) fun hm=>?_
 ·
  refine V ?_;refine AWp.seqJ (fun s=> ∃s_2 gN t8 t9 t10,s=⟨33,(aF (aF (aF (aF (aF fa 2 (.adr 1 0)) 5 (.own 2 0 gN.length)) 8 (vl (ci .i64) t8)) 9 (vi t9)) 10 (vi t10)),⟨(upd (upd bD 1 (.cells 1 [vi s_2.Graph.Config.N,vi s_2.Graph.Config.L,vi s_2.Graph.Config.R,vl bS s_2.Graph.Hashes,vl aU s_2.Graph.Edges,vl aX s_2.Slots] 0)) 2 (.cells 1 (gN.flatMap (ci .u64)) 0)),64⟩⟩∧wN (oH n1) s_2 gN t8 t9 t10=some r) ?_ ?_
  ·
   obtain ⟨x2,h1,hm⟩:=bnd hm;obtain ⟨x4,h3,hm⟩:=bnd hm;refine W ?_;refine cm hm (fun hm=>?_) fun hm=>?_
   · have hm:=sb hm h3;refine W ?_;refine aL (CFi .u64) [x4.Key] ?_;obtain ⟨l8,h7,hm⟩:=bnd hm;refine W ?_;exact Lr (fun j=>bif j==1 then 1 else bif j==2 then 264 else 0)
   refine W ?_;exact Lr (fun j=>bif j==1 then 1 else bif j==2 then 2 else 0)
  rintro s ⟨s_2,gN,t8,t9,t10,rfl,hm⟩;refine W ?_;exact Lr (fun j=>bif j==1 then 1 else bif j==2 then 2 else 0)
 obtain ⟨l10,h9,hm⟩:=bnd hm;refine W ?_;have qh9:=aJj h9;refine aV.callM Zd Z1 bOw Z1 (aH1 (aGj h9) Z3) ?_;exact E
instance:Ct prog 82 (K2 prog dI (vl (ci .i64)) (vl (ci .u64)) 82 kZ):=⟨fun hm=>aUe hm⟩
abbrev vP(rec1:aD→Int→List Int→Int→Int→Option (Int))(s_2:aD)(aE4:Int)(t8:List Int)(t9:Int)(t10:Int):Option (Int):=
 rec1 s_2 aE4 t8 t9 (IntKind.i64.wrap (t10+1))
def vN(rec1:aD→Int→List Int→Int→Int→Option (Int))(s_2:aD)(aE4:Int)(t8:List Int)(t9:Int)(t10:Int):Option (Int):=
 (bif (decide (t10<t9)) then
  ((idx t8 t10).bind fun x2=>
  ((gO ((t10==x2)==true) (aM.mk false 0) (idx s_2.Slots t10)).bind fun x4=>
  (bif ((t10==x2)&&x4.Used) then
   vP rec1 s_2 (IntKind.i64.wrap (aE4+1)) t8 t9 t10
  else
   vP rec1 s_2 aE4 t8 t9 t10)))
 else
  some aE4)
def jQ:Nat→aD→Int→List Int→Int→Int→Option (Int)
 |0=>fun _ _ _ _ _=>none
 |n+1=>vN (jQ n)
def sK(s_0:aD)(aY3:List Int):Option (Int):=
 jQ bF s_0 0 aY3 (aY3.length:Int) 0
theorem aMt:K2 prog dI (vl (ci .i64)) vi 85 sK:=by
 intro s_0 aY3 r hm
 let I1:=((fun m s=> ∃s_2 aE4 t8 t9 t10,s=⟨30,(aF (aF (aF (aF (aF fa 2 (.adr 1 0)) 5 (vi aE4)) 8 (vl (ci .i64) t8)) 9 (vi t9)) 10 (vi t10)),⟨(upd bD 1 (.cells 1 [vi s_2.Graph.Config.N,vi s_2.Graph.Config.L,vi s_2.Graph.Config.R,vl bS s_2.Graph.Hashes,vl aU s_2.Graph.Edges,vl aX s_2.Slots] 0)),64⟩⟩∧jQ m s_2 aE4 t8 t9 t10=some r):Nat→St→Prop)
 exact be 30 func85 (h:=G)
instance:Ct prog 85 (K2 prog dI (vl (ci .i64)) vi 85 sK):=⟨aMt⟩
def fS(mY:(aI→aI→Option (Int)))(rec1:List aI→Int→Int→Int→Option (List aI))(rec2:List aI→Int→Int→Int→Int→Option (List aI))(aZ:List aI)(a_1:Int)(b_2:Int)(i_8:Int)(j_9:Int):Option (List aI):=
 ((gO ((decide (a_1<j_9))==true) (aI.mk 0 0) (idx aZ j_9)).bind fun x2=>
 ((gO ((decide (a_1<j_9))==true) (aI.mk 0 0) (idx aZ (IntKind.i64.wrap (j_9-1)))).bind fun x4=>
 ((gO ((decide (a_1<j_9))==true) 0 (mY x2 x4)).bind fun r6=>
 (bif ((decide (a_1<j_9))&&(decide (r6<0))) then
  ((idx aZ (IntKind.i64.wrap (j_9-1))).bind fun x8=>
  ((idx aZ j_9).bind fun x10=>
  ((idx aZ j_9).bind fun x12=>
  ((stt aZ j_9 x8).bind fun l14=>
  ((idx l14 (IntKind.i64.wrap (j_9-1))).bind fun x16=>
  ((stt l14 (IntKind.i64.wrap (j_9-1)) x10).bind fun l18=>
  rec2 l18 a_1 b_2 i_8 (IntKind.i64.wrap (j_9-1))))))))
 else
  rec1 aZ a_1 b_2 (IntKind.i64.wrap (i_8+1))))))
def eN(mY:(aI→aI→Option (Int)))(rec1:List aI→Int→Int→Int→Option (List aI)):Nat→List aI→Int→Int→Int→Int→Option (List aI)
 |0=>fun _ _ _ _ _=>none
 |n+1=>fS mY rec1 (eN mY rec1 n)
def fR(mY:(aI→aI→Option (Int)))(rec1:List aI→Int→Int→Int→Option (List aI))(aZ:List aI)(a_1:Int)(b_2:Int)(i_8:Int):Option (List aI):=
 (bif (decide (i_8<b_2)) then
  eN mY rec1 bF aZ a_1 b_2 i_8 i_8
 else
  some aZ)
def bY(mY:(aI→aI→Option (Int))):Nat→List aI→Int→Int→Int→Option (List aI)
 |0=>fun _ _ _ _=>none
 |n+1=>fR mY (bY mY n)
def fY(aZ:List aI)(a_1:Int)(b_2:Int)(mY:(aI→aI→Option (Int))):Option (List aI):=
 bY mY bF aZ a_1 b_2 (IntKind.i64.wrap (a_1+1))
theorem rF{aZ:List aI}{a_1:Int}{b_2:Int}{mY:(aI→aI→Option (Int))}{r:List aI}(hm:fY aZ a_1 b_2 mY=some r){aHu:FuncId}{aBd:List AV}(aXs: ∀a,a∈aBd→AM.Data a)(bFq:(Program.funcs prog)[aHu]?.any (fun fn=>fn.body.isSome&&fn.name != "runtime.NumGoroutine")=true)(bFs: ∀ {x0 x1 r},mY x0 x1=some r→bN prog aHu ([.agg [.v (.int .u64 x0.x0),.v (.int .u64 x0.x1)],.agg [.v (.int .u64 x1.x0),.v (.int .u64 x1.x1)]]++aBd) (.v (.int .i64 r))){H:aG}{i0:Nat}(he:H.ent i0= .cells 2 (aZ.flatMap eW) 0):dW prog 204 [.own i0 0 aZ.length,.v (.int .i64 a_1),.v (.int .i64 b_2),.clo (.func aHu) [] aBd] H (.tup []) (H.put i0 (.cells 2 (r.flatMap eW) 0)):=by
 refine dW.of_bodyM func204 rfl he ?_;generalize H.ent=h0;simp only [ntmps204,List.length_cons,List.length_nil,Nat.reduceAdd,Nat.reduceSub];unfold fY at hm;refine sN 64 ?_
 iterate 3 refine pA ?_
 refine fs (AWp.block (AWp.loopM (fun m s=> ∃(aZ:List aI) (a_1:Int) (b_2:Int) (i_8:Int),s=(⟨53,(aF (aF (aF (aF (aF (fun _=>AV.any) 0 (.own i0 0 aZ.length)) 1 (.v (.int .i64 a_1))) 2 (.v (.int .i64 b_2))) 3 (.clo (.func aHu) [] aBd)) 8 (.v (.int .i64 i_8))),⟨(upd h0 i0 (.cells 2 (aZ.flatMap eW) 0)),64⟩⟩:St)∧bY mY m aZ a_1 b_2 i_8=some r) bF ?_ ?_ ?_))
 · rintro s ⟨_,_,_,_,_,h⟩;cases h
 · refine ⟨_,?_,aZ,a_1,b_2,(IntKind.i64.wrap (a_1+1)),rfl,hm⟩;exact vR (bR 8 _ Z1 (bR 3 _ Z1 (bR 2 _ Z1 (bR 1 _ Z1 (bR 0 _ (vU Z1 Z6) qU))))) Zc
 ·
  rintro n1 s ⟨aZ,a_1,b_2,i_8,rfl,hm⟩;replace hm:fR mY (bY mY n1) aZ a_1 b_2 i_8=some r:=hm;unfold fR at hm;refine AWp.seq' (sN 128 ?_)
  iterate 3 refine pA ?_
  refine fs (AWp.condM hm Z1 (fun _ hm=>?_) (fun _ hm=>?_))
  ·
   refine AWp.skip (bM (AWp.seq' (AWp.block (sN 192 ?_))))
   iterate 2 refine pA ?_
   refine fs (AWp.block (AWp.loopM (fun m s=> ∃(aZ:List aI) (a_1:Int) (b_2:Int) (i_8:Int) (j_9:Int),s=(⟨53,(aF (aF (aF (aF (aF (aF (fun _=>AV.any) 0 (.own i0 0 aZ.length)) 1 (.v (.int .i64 a_1))) 2 (.v (.int .i64 b_2))) 3 (.clo (.func aHu) [] aBd)) 8 (.v (.int .i64 i_8))) 9 (.v (.int .i64 j_9))),⟨(upd h0 i0 (.cells 2 (aZ.flatMap eW) 0)),64⟩⟩:St)∧eN mY (bY mY n1) m aZ a_1 b_2 i_8 j_9=some r) bF ?_ ?_ ?_))
   · rintro s ⟨_,_,_,_,_,_,h⟩;cases h
   · refine ⟨_,?_,aZ,a_1,b_2,i_8,i_8,rfl,hm⟩;exact vR (bR 9 _ Z1 (bR 8 _ Z1 (bR 3 _ Z1 (bR 2 _ Z1 (bR 1 _ Z1 (bR 0 _ (vU Z1 Z6) qU)))))) Zc
   ·
    rintro n2 s ⟨aZ,a_1,b_2,i_8,j_9,rfl,hm⟩;replace hm:fS mY (bY mY n1) (eN mY (bY mY n1) n2) aZ a_1 b_2 i_8 j_9=some r:=hm;unfold fS at hm;refine AWp.seq' (sd mix (by kernel_rfl) (N':=128) rfl ?_)
    iterate 7 first|refine pA ?_|refine pB ?_
    obtain ⟨x2,h1,hm⟩:=bnd hm;refine pg rfl rfl Z2 (fun hb=>(eI underlying157 aIv (Zh hb) Za Z6 (Zh hb) (fP h1 hb))) ?_;refine pg rfl rfl Z2 (fun hb=>(mW iW (Zh hb) Za (fP h1 hb) Zb)) ?_
    iterate 3 refine pB ?_
    obtain ⟨x4,h3,hm⟩:=bnd hm;refine pg rfl rfl Z2 (fun hb=>(eI underlying157 aIv (Zh hb) Za Z6 (Zh hb) (fP h3 hb))) ?_;refine pg rfl rfl Z2 (fun hb=>(mW iW (Zh hb) Za (fP h3 hb) Zb)) ?_;obtain ⟨r6,h5,hm⟩:=bnd hm;refine aV.callQCG (r:= .v (.int .i64 r6)) Zd rfl Z2 (fun hb=>(Zh hb)) aXs bFq (fun hb H=>(.cons (td (Zh hb) (.agg _ (iW.dat _))) (.cons (td (Zh hb) (.agg _ (iW.dat _))) .nil))) (fun hb=>bFs (fP h5 hb)) ?_
    iterate 2 first|refine pA ?_|refine pB ?_
    refine fs (AWp.condM hm Z1 (fun _ hm=>?_) (fun _ hm=>?_))
    ·
     refine AWp.skip (bM (AWp.seq' (AWp.block (AWp.regD 64 mix (by kernel_rfl) (N':=192) rfl ?_))))
     iterate 8 refine pA ?_
     obtain ⟨x8,h7,hm⟩:=bnd hm;refine pu rfl (eI underlying157 aIv Z1 Za Z6 Z1 h7) ?_;refine pu rfl (mW iW Z1 Za h7 Zb) ?_
     iterate 2 refine pA ?_
     obtain ⟨x10,h9,hm⟩:=bnd hm;refine pu rfl (eI underlying157 aIv Z1 Za Z6 Z1 h9) ?_;refine pu rfl (mW iW Z1 Za h9 Zb) ?_;obtain ⟨x12,h11,hm⟩:=bnd hm;refine pu rfl (eI underlying157 aIv Z1 Za Z6 Z1 h11) ?_;obtain ⟨l14,h13,hm⟩:=bnd hm;have qh13:=kM h13;refine aV.heap0 (id:=143) rfl (yB iW aIv Z1 Z1 Za rfl h13) ?_;obtain ⟨x16,h15,hm⟩:=bnd hm;refine pu rfl (eI underlying157 aIv Z1 Za Z6 Z1 h15) ?_;obtain ⟨l18,h17,hm⟩:=bnd hm;have qh17:=kM h17;refine aV.heap0 (id:=145) rfl (yB iW aIv Z1 Z1 Za rfl h17) ?_;refine aV.fin (hY (bM (AWp.reg 64 (N':=256) rfl ?_)))
     iterate 3 refine pA ?_
     refine aV.fin (fK ?_);refine ⟨_,?_,l18,a_1,b_2,i_8,(IntKind.i64.wrap (j_9-1)),rfl,hm⟩;exact vR (bR 9 _ Z1 (bR 8 _ Z1 (bR 3 _ Z1 (bR 2 _ Z1 (bR 1 _ Z1 (bR 0 _ (vU Z1 Z6) qU)))))) Zc
    ·
     refine AWp.exit (iH (fO (fN (hY (bM (AWp.reg 64 (N':=192) rfl ?_))))))
     iterate 3 refine pA ?_
     refine aV.fin (fK ?_);refine ⟨_,?_,aZ,a_1,b_2,(IntKind.i64.wrap (i_8+1)),rfl,hm⟩;exact vR (bR 8 _ Z1 (bR 3 _ Z1 (bR 2 _ Z1 (bR 1 _ Z1 (bR 0 _ (vU Z1 Z6) qU))))) Zc
  · refine AWp.exit (iH (fO (fN ?_)));cases hm;exact aQd (.inl rfl) Tryz.results204 Zc
def iR(rJ:(aI→aI→Option (Int)))(recf:(List aI)→Int→Int→Int→((aI→aI→Option (Int)))→Option (List aI))(rec1:List aI→Int→Int→Int→Bool→Bool→Option (List aI))(aZ:List aI)(a_1:Int)(b_2:Int)(cY:Int)(nX:Bool)(kD:Bool):Option (List aI):=
 (bif (decide ((IntKind.i64.wrap (b_2-a_1))≤12)) then
  ((aI3 (fun x=>x.length) aZ.length (fY aZ a_1 b_2 rJ)).bind fun l2=>
  some l2)
 else
  (bif (cY==0) then
   none
  else
   none))
def fL(rJ:(aI→aI→Option (Int)))(recf:(List aI)→Int→Int→Int→((aI→aI→Option (Int)))→Option (List aI)):Nat→List aI→Int→Int→Int→Bool→Bool→Option (List aI)
 |0=>fun _ _ _ _ _ _=>none
 |n+1=>iR rJ recf (fL rJ recf n)
def jA(recf:(List aI)→Int→Int→Int→((aI→aI→Option (Int)))→Option (List aI))(aZ:List aI)(a_1:Int)(b_2:Int)(cY:Int)(rJ:(aI→aI→Option (Int))):Option (List aI):=
 fL rJ recf bF aZ a_1 b_2 cY true true
def dA:Nat→(List aI)→Int→Int→Int→(aI→aI→Option (Int))→Option (List aI)
 |0=>fun _ _ _ _ _=>none
 |n+1=>jA (dA n)
def lY(aZ:List aI)(a_1:Int)(b_2:Int)(cY:Int)(rJ:(aI→aI→Option (Int))):Option (List aI):=dA bF aZ a_1 b_2 cY rJ
theorem vI: ∀(nn:Nat) {aZ:List aI} {a_1:Int} {b_2:Int} {cY:Int} {rJ:(aI→aI→Option (Int))} {r:List aI} (hm:dA nn aZ a_1 b_2 cY rJ=some r) {wM:FuncId} {oC:List AV} (aCa: ∀a,a∈oC→AM.Data a) (aHy:(Program.funcs prog)[wM]?.any (fun fn=>fn.body.isSome&&fn.name != "runtime.NumGoroutine")=true) (aHz: ∀ {x0 x1 r},rJ x0 x1=some r→bN prog wM ([.agg [.v (.int .u64 x0.x0),.v (.int .u64 x0.x1)],.agg [.v (.int .u64 x1.x0),.v (.int .u64 x1.x1)]]++oC) (.v (.int .i64 r))) {H:aG} {i0:Nat} (he:H.ent i0= .cells 2 (aZ.flatMap eW) 0),dW prog 161 [.own i0 0 aZ.length,.v (.int .i64 a_1),.v (.int .i64 b_2),.v (.int .i64 cY),.clo (.func wM) [] oC] H (.tup []) (H.put i0 (.cells 2 (r.flatMap eW) 0)):=by
 intro nn
 induction nn with
 |zero=>
  intro aZ a_1 b_2 cY rJ r hm;replace hm:none=some r:=hm;cases hm
 |succ nn ih=>
  intro aZ a_1 b_2 cY rJ r hm wM oC aCa aHy aHz H i0 he;replace hm:jA (dA nn) aZ a_1 b_2 cY rJ=some r:=hm;refine dW.of_bodyM func161 rfl he ?_;generalize H.ent=h0;simp only [ntmps161,List.length_cons,List.length_nil,Nat.reduceAdd,Nat.reduceSub];unfold jA at hm;refine sN 64 (pA ?_);refine fs (sN 128 (pA ?_));refine fs (AWp.block (AWp.loopM (fun m s=> ∃(aZ:List aI) (a_1:Int) (b_2:Int) (cY:Int) (nX:Bool) (kD:Bool),s=(⟨148,(aF (aF (aF (aF (aF (aF (aF (fun _=>AV.any) 0 (.own i0 0 aZ.length)) 1 (.v (.int .i64 a_1))) 2 (.v (.int .i64 b_2))) 3 (.v (.int .i64 cY))) 4 (.clo (.func wM) [] oC)) 10 (.v (.bool nX))) 11 (.v (.bool kD))),⟨(upd h0 i0 (.cells 2 (aZ.flatMap eW) 0)),64⟩⟩:St)∧fL rJ (dA nn) m aZ a_1 b_2 cY nX kD=some r) bF ?_ ?_ ?_))
  · rintro s ⟨_,_,_,_,_,_,_,h⟩;cases h
  · refine ⟨_,?_,aZ,a_1,b_2,cY,true,true,rfl,hm⟩;exact vR (bR 11 _ Z1 (bR 10 _ Z1 (bR 4 _ Z1 (bR 3 _ Z1 (bR 2 _ Z1 (bR 1 _ Z1 (bR 0 _ (vU Z1 Z6) qU))))))) Zc
  ·
   rintro n1 s ⟨aZ,a_1,b_2,cY,nX,kD,rfl,hm⟩;replace hm:iR rJ (dA nn) (fL rJ (dA nn) n1) aZ a_1 b_2 cY nX kD=some r:=hm;unfold iR at hm;refine AWp.block (sN 128 ?_)
   iterate 4 refine pA ?_
   refine fs (AWp.seq' (sN 192 ?_))
   iterate 2 refine pA ?_
   refine fs (AWp.condM hm Z1 (fun _ hm=>?_) (fun _ hm=>?_))
   ·
    refine sN 256 ?_
    iterate 4 refine pA ?_
    obtain ⟨l2,h1,hm⟩:=bnd hm;have qh1:=aJj h1;refine aV.callM Zd Z1 bP9 ?_ (rF (aGj h1) aCa aHy aHz (i0:=i0) Za) ?_
    ·
     try simp only [go_sem,Nat.reduceBEq]
     first|done|rfl|(congr 2<;>omega)
    refine fs (AWp.ret (iD (qF (qW (qF ?_)))));cases hm;exact aQd (.inr rfl) Tryz.results161 Zc
   ·
    refine AWp.skip (bM (AWp.seq' (sN 256 ?_)))
    iterate 2 refine pA ?_
    refine fs (AWp.condM hm Z1 (fun _ hm=>?_) (fun _ hm=>?_))
    · cases hm
    · cases hm
theorem wE{aZ:List aI}{a_1:Int}{b_2:Int}{cY:Int}{rJ:(aI→aI→Option (Int))}{r:List aI}(hm:lY aZ a_1 b_2 cY rJ=some r){wM:FuncId}{oC:List AV}(aCa: ∀a,a∈oC→AM.Data a)(aHy:(Program.funcs prog)[wM]?.any (fun fn=>fn.body.isSome&&fn.name != "runtime.NumGoroutine")=true)(aHz: ∀ {x0 x1 r},rJ x0 x1=some r→bN prog wM ([.agg [.v (.int .u64 x0.x0),.v (.int .u64 x0.x1)],.agg [.v (.int .u64 x1.x0),.v (.int .u64 x1.x1)]]++oC) (.v (.int .i64 r))){H:aG}{i0:Nat}(he:H.ent i0= .cells 2 (aZ.flatMap eW) 0):dW prog 161 [.own i0 0 aZ.length,.v (.int .i64 a_1),.v (.int .i64 b_2),.v (.int .i64 cY),.clo (.func wM) [] oC] H (.tup []) (H.put i0 (.cells 2 (r.flatMap eW) 0)):=vI bF hm aCa aHy aHz he
def lL(x_0:List aI)(aZb:(aI→aI→Option (Int))):Option (List aI):=
 ((xJ (IntKind.u64.wrap (x_0.length:Int))).bind fun r2=>
 ((aI3 (fun x=>x.length) x_0.length (lY x_0 0 (x_0.length:Int) r2 aZb)).bind fun l4=>
 some l4))
theorem aCy{x_0:List aI}{aZb:(aI→aI→Option (Int))}{r:List aI}(hm:lL x_0 aZb=some r){aRj:FuncId}{aJa:List AV}(aXr: ∀a,a∈aJa→AM.Data a)(bFp:(Program.funcs prog)[aRj]?.any (fun fn=>fn.body.isSome&&fn.name != "runtime.NumGoroutine")=true)(bFr: ∀ {x0 x1 r},aZb x0 x1=some r→bN prog aRj ([.agg [.v (.int .u64 x0.x0),.v (.int .u64 x0.x1)],.agg [.v (.int .u64 x1.x0),.v (.int .u64 x1.x1)]]++aJa) (.v (.int .i64 r))){H:aG}{i0:Nat}(he:H.ent i0= .cells 2 (x_0.flatMap eW) 0):dW prog 123 [.own i0 0 x_0.length,.clo (.func aRj) [] aJa] H (.tup []) (H.put i0 (.cells 2 (r.flatMap eW) 0)):=by
 refine dW.of_bodyM func123 rfl he ?_;generalize H.ent=h0;simp only [ntmps123,List.length_cons,List.length_nil,Nat.reduceAdd,Nat.reduceSub];unfold lL at hm;refine sN 64 ?_
 iterate 3 refine pA ?_
 refine fs (AWp.reg 64 (N':=128) rfl ?_)
 iterate 4 refine pA ?_
 obtain ⟨r2,h1,hm⟩:=bnd hm;refine aV.callQ (r:= .v (.int .i64 r2)) Zd Z1 bLn (fun H=>(cV .nil)) (aJ8 h1) ?_;refine pA ?_;obtain ⟨l4,h3,hm⟩:=bnd hm;have qh3:=aJj h3;refine aV.callM Zd Z1 bP5 ?_ (wE (aGj h3) aXr bFp bFr (i0:=i0) Za) ?_
 ·
  try simp only [go_sem,Nat.reduceBEq]
  first|done|rfl|(congr 2<;>omega)
 refine aV.fin ?_;cases hm;exact aQd (.inl rfl) Tryz.results123 Zc
def lD(x_0:Int)(y_1:Int):Option (Int):=
 ((gD x_0).bind fun r2=>
 ((gD y_1).bind fun r4=>
 (bif r2 then
  (bif r4 then
   some 0
  else
   some (-1))
 else
  (bif r4 then
   some 1
  else
   (bif (decide (x_0<y_1)) then
    some (-1)
   else
    (bif (decide (y_1<x_0)) then
     some 1
    else
     some 0))))))
theorem qX:K2 prog vu vu vi 126 lD:=fun hm=>be 20 func126 (h:=G)
instance:Ct prog 126 (K2 prog vu vu vi 126 lD):=⟨qX⟩
def aTy(rec1:Int→List Int→Int→Int→Option (Int))(aK1:Int)(t6:List Int)(t7:Int)(t8:Int):Option (Int):=
 (bif (decide (t8<t7)) then
  ((idx t6 t8).bind fun x2=>
  (bif (x2 !=aK1) then
   some x2
  else
   rec1 aK1 t6 t7 (IntKind.i64.wrap (t8+1))))
 else
  some aK1)
def aDn:Nat→Int→List Int→Int→Int→Option (Int)
 |0=>fun _ _ _ _=>none
 |n+1=>aTy (aDn n)
def aGe(aYr:List Int):Option (Int):=
 aDn bF 0 aYr (aYr.length:Int) 0
theorem aMj:K1 prog (vl (ci .i64)) vi 125 aGe:=by
 intro aYr r hm
 let I1:=((fun m s=> ∃aK1 t6 t7 t8,s=⟨18,(aF (aF (aF (aF fa 3 (vi aK1)) 6 (vl (ci .i64) t6)) 7 (vi t7)) 8 (vi t8)),⟨bD,64⟩⟩∧aDn m aK1 t6 t7 t8=some r):Nat→St→Prop)
 exact be 18 func125 (h:=G)
instance:Ct prog 125 (K1 prog (vl (ci .i64)) vi 125 aGe):=⟨aMj⟩
def vQ(p_0:aI)(q_1:aI):Option (Int):=
 ((lD p_0.x0 q_1.x0).bind fun r2=>
 ((lD p_0.x1 q_1.x1).bind fun r4=>
 ((aGe [r2,r4]).bind fun r6=>
 some r6)))
theorem aDc{p_0:aI}{q_1:aI}{r:Int}(hm:vQ p_0 q_1=some r):bN prog 124 [.agg [vu p_0.x0,vu p_0.x1],.agg [vu q_1.x0,vu q_1.x1]] (vi r):=by
 refine bd 17 func124 ?_;obtain ⟨r2,h1,hm⟩:=bnd hm;refine W ?_;refine cq (qX h1) ?_;obtain ⟨r4,h3,hm⟩:=bnd hm;refine W ?_;refine cq (qX h3) ?_;refine aL (CFi .i64) [r2,r4] ?_;obtain ⟨r6,h5,hm⟩:=bnd hm;refine aV.callB (r:= .v (.int .i64 r6)) Zd Z1 bOz (.cons (lto (CFi .i64) Z1 Z3 Z6) aOb.nil) aZr (aMj h5) ?_;exact E
instance:Ct prog 124 (K2 prog aQr aQr vi 124 vQ):=⟨fun hm=>aDc hm⟩
attribute [local semireducible] bF
end Go.Proofs.YtkdohhmacfoolaaGreatDoor
