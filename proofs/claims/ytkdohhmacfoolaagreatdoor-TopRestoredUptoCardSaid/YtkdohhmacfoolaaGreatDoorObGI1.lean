/- Facts. No condition. -/
import Derived.Test.YtkdohhmacfoolaaGreatDoorObGC1
import Derived.Test.YtkdohhmacfoolaaGreatDoorObAmQ
import Derived.Test.YtkdohhmacfoolaaGreatDoorObSnP
import Derived.Test.YtkdohhmacfoolaaGreatDoorObDi
set_option linter.unusedVariables false
set_option linter.unusedSimpArgs false
set_option maxRecDepth 20000
set_option maxHeartbeats 4000000
namespace Go.Proofs.YtkdohhmacfoolaaGreatDoor
open Go.Proofs.Tryz Go Go.AM
attribute [local irreducible] bC
structure bN where
 Key:Int
 N:Int
deriving DecidableEq
def wJ(e:bN):List AV:=[.v (.int .u64 e.Key),.v (.int .i64 e.N)]
theorem fV:CF wJ 2:=⟨fun _=>rfl,fun a x hx=>by
 simp only [wJ,List.mem_cons,List.not_mem_nil,or_false] at hx;rcases hx with rfl|rfl
 · exact (.v _)
 · exact (.v _),fun _=>rfl⟩
instance:CC wJ 2:=⟨fV⟩
abbrev aBw(e:bN):AV:= .agg [.v (.int .u64 e.Key),vi e.N]
@[go_sem] theorem aQ7(e:bN)(r:List AV):wJ e++r= .v (.int .u64 e.Key):: .v (.int .i64 e.N)::r:=rfl
inductive aB where
 |nil
 |mk (ahead:aB) (behind:aB) (thing:bN) (height:Int) (size:Int)
def aB.ahead:aB→aB
 | .nil=>aB.nil
 | .mk ahead behind thing height size=>ahead
def aB.behind:aB→aB
 | .nil=>aB.nil
 | .mk ahead behind thing height size=>behind
def aB.thing:aB→bN
 | .nil=>(bN.mk 0 0)
 | .mk ahead behind thing height size=>thing
def aB.height:aB→Int
 | .nil=>0
 | .mk ahead behind thing height size=>height
def aB.size:aB→Int
 | .nil=>0
 | .mk ahead behind thing height size=>size
def aB.nn:aB→Bool
 | .nil=>false
 | .mk _ _ _ _ _=>true
def aB.av:aB→AV
 | .nil=> .v (.pointer none)
 | .mk ahead behind thing height size=> .ptr [ahead.av,behind.av,.v (.int .u64 thing.Key),.v (.int .i64 thing.N),.v (.int .i64 height),.v (.int .i64 size)]
theorem aB.data:(e:aB)→AM.Data e.av
 | .nil=> .v _
 | .mk ahead behind thing height size=> .ptr _ (fun a hx=>by
  simp only [List.mem_cons,List.not_mem_nil,or_false] at hx;rcases hx with rfl|rfl|rfl|rfl|rfl|rfl
  · exact ahead.data
  · exact behind.data
  · exact (.v _)
  · exact (.v _)
  · exact (.v _)
  · exact (.v _))
theorem aB.av_nn{e:aB}(h:e.nn=true):e.av= .ptr [aB.av e.ahead,aB.av e.behind,.v (.int .u64 e.thing.Key),.v (.int .i64 e.thing.N),.v (.int .i64 e.height),.v (.int .i64 e.size)]:=by
 cases e with
 |nil=>cases h
 |mk ahead behind thing height size=>rfl
theorem aB.isn(e:aB):((!e.nn)=true∧e.av= .v (.pointer none))∨((!e.nn)=false∧ ∃xs,e.av= .ptr xs):=by
 cases e with
 |nil=>exact .inl ⟨rfl,rfl⟩
 |mk ahead behind thing height size=>exact .inr ⟨rfl,_,rfl⟩
theorem aB.cells(e:aB):e.av.cells? =some [e.av]:=by cases e<;>rfl
theorem aB.one(e:aB):e.av.one=true:=by cases e<;>rfl
structure bS where
 s:aB
def aAr(e:bS):List AV:=[aB.av e.s]
theorem aC0:CF aAr 1:=⟨fun _=>rfl,fun a x hx=>by
 simp only [aAr,List.mem_cons,List.not_mem_nil,or_false] at hx;rcases hx with rfl
 · exact (aB.data a.s),fun e=>by unfold aAr;simp only [List.all_cons,List.all_nil,Bool.and_true,aB.one];try rfl⟩
instance:CC aAr 1:=⟨aC0⟩
abbrev tT(e:bS):AV:= .agg [aB.av e.s]
@[go_sem] theorem aQ6(e:bS)(r:List AV):aAr e++r=aB.av e.s::r:=rfl
structure aN where
 Used:Bool
 Key:Int
deriving DecidableEq
def aT(e:aN):List AV:=[.v (.bool e.Used),.v (.int .u64 e.Key)]
theorem cH:CF aT 2:=⟨fun _=>rfl,fun a x hx=>by
 simp only [aT,List.mem_cons,List.not_mem_nil,or_false] at hx;rcases hx with rfl|rfl
 · exact (.v _)
 · exact (.v _),fun _=>rfl⟩
instance:CC aT 2:=⟨cH⟩
abbrev aOw(e:aN):AV:= .agg [.v (.bool e.Used),vu e.Key]
instance:CE prog 31 aT 2 (aN.mk false 0):=⟨_,underlying31,bM7,bMl,inferInstance,cH,by decide,by decide⟩
@[go_sem] theorem aP4(e:aN)(r:List AV):aT e++r= .v (.bool e.Used):: .v (.int .u64 e.Key)::r:=rfl
structure aC where
 Graph:aF
 Slots:List aN
deriving DecidableEq
def aC7(e:aC):List AV:=[.v (.int .i64 e.Graph.Config.N),.v (.int .i64 e.Graph.Config.L),.v (.int .i64 e.Graph.Config.R),.sl (e.Graph.Hashes.flatMap bI) e.Graph.Hashes.length false,.sl (e.Graph.Edges.flatMap aO) e.Graph.Edges.length false,.sl (e.Slots.flatMap aT) e.Slots.length false]
theorem aUq:CF aC7 6:=⟨fun _=>rfl,fun a x hx=>by
 simp only [aC7,List.mem_cons,List.not_mem_nil,or_false] at hx;rcases hx with rfl|rfl|rfl|rfl|rfl|rfl
 · exact (.v _)
 · exact (.v _)
 · exact (.v _)
 · exact (iD.sl _ _ _)
 · exact (bT.sl _ _ _)
 · exact (cH.sl _ _ _),fun _=>rfl⟩
instance:CC aC7 6:=⟨aUq⟩
abbrev dI(e:aC):AV:= .agg [.v (.int .i64 e.Graph.Config.N),vi e.Graph.Config.L,vi e.Graph.Config.R,vl bI e.Graph.Hashes,vl aO e.Graph.Edges,vl aT e.Slots]
@[go_sem] theorem aP3(e:aC)(r:List AV):aC7 e++r= .v (.int .i64 e.Graph.Config.N):: .v (.int .i64 e.Graph.Config.L):: .v (.int .i64 e.Graph.Config.R):: .sl (e.Graph.Hashes.flatMap bI) e.Graph.Hashes.length false:: .sl (e.Graph.Edges.flatMap aO) e.Graph.Edges.length false:: .sl (e.Slots.flatMap aT) e.Slots.length false::r:=rfl
theorem bJe{a0:AV}(a0h:a0.cells? =some [a0]):wG prog 147 [(0,a0)]=some (.agg [a0]):=by
 unfold wG;rw [bRh,underlying147];simp only [];rw [(by kernel_rfl:placesOf prog _=some [(0,1)])];simp only [];simp [kS,a0h,aTm,aTn,aQb]
theorem bJf{a0:AV}{a1:AV}{a2_Key:Int}{a2_N:Int}{a3:Int}{a4:Int}(a0h:a0.cells? =some [a0])(a1h:a1.cells? =some [a1]):wG prog 233 [(0,a0),(1,a1),(2,.agg [.v (.int .u64 a2_Key),.v (.int .i64 a2_N)]),(3,.v (.int .i64 a3)),(4,.v (.int .i64 a4))]=some (.agg [a0,a1,.v (.int .u64 a2_Key),.v (.int .i64 a2_N),.v (.int .i64 a3),.v (.int .i64 a4)]):=by
 unfold wG;rw [cBj,underlying233];simp only [];rw [(by kernel_rfl:placesOf prog _=some [(0,1),(1,1),(2,2),(4,1),(5,1)])];simp only [];simp [kS,a0h,a1h,aTm,aTn,aQb]
@[go_sem] theorem bBg(xs:List AV):aM prog 147 (.ptr (xs)) 0=some (.ptr xs):=by kernel_rfl
@[go_sem] theorem bBh(xs:List AV):aM prog 233 (.ptr (xs)) 0=some (.ptr xs):=by kernel_rfl
@[go_sem] theorem bBi(x0:AV)(xs:List AV):aM prog 233 (.ptr (x0::xs)) 1=some (.ptr xs):=by kernel_rfl
@[go_sem] theorem bBj(x0:AV)(x1:AV)(xs:List AV):aM prog 233 (.ptr (x0::x1::xs)) 2=some (.ptr xs):=by kernel_rfl
@[go_sem] theorem bBk(x0:AV)(x1:AV)(x2:AV)(x3:AV)(xs:List AV):aM prog 233 (.ptr (x0::x1::x2::x3::xs)) 3=some (.ptr xs):=by kernel_rfl
@[go_sem] theorem bBl(x0:AV)(x1:AV)(x2:AV)(x3:AV)(x4:AV)(xs:List AV):aM prog 233 (.ptr (x0::x1::x2::x3::x4::xs)) 4=some (.ptr xs):=by kernel_rfl
@[go_sem] theorem bFl(xs:List AV):aM prog 96 (.ptr (xs)) 0=some (.ptr xs):=by kernel_rfl
@[go_sem] theorem bFm(x0:AV)(xs:List AV):aM prog 96 (.ptr (x0::xs)) 1=some (.ptr xs):=by kernel_rfl
@[go_sem] theorem bBo(i o:Nat):aM prog 147 (.adr i o) 0=some (.adr i (o+0)):=by kernel_rfl
@[go_sem] theorem bBp(i o:Nat):aM prog 194 (.adr i o) 0=some (.adr i (o+0)):=by kernel_rfl
@[go_sem] theorem bBq(i o:Nat):aM prog 194 (.adr i o) 1=some (.adr i (o+1)):=by kernel_rfl
@[go_sem] theorem bFr(i o:Nat):aM prog 23 (.adr i o) 0=some (.adr i (o+0)):=by kernel_rfl
@[go_sem] theorem bFy(i o:Nat):aM prog 23 (.adr i o) 1=some (.adr i (o+1)):=by kernel_rfl
@[go_sem] theorem bGb(i o:Nat):aM prog 30 (.adr i o) 0=some (.adr i (o+0)):=by kernel_rfl
@[go_sem] theorem bGk(i o:Nat):aM prog 30 (.adr i o) 2=some (.adr i (o+4)):=by kernel_rfl
@[go_sem] theorem bGn(i o:Nat):aM prog 33 (.adr i o) 0=some (.adr i (o+0)):=by kernel_rfl
@[go_sem] theorem bGq(i o:Nat):aM prog 33 (.adr i o) 1=some (.adr i (o+5)):=by kernel_rfl
@[go_sem] theorem bH7(i o:Nat):aM prog 61 (.adr i o) 0=some (.adr i (o+0)):=by kernel_rfl
@[go_sem] theorem bHd(i o:Nat):aM prog 61 (.adr i o) 1=some (.adr i (o+1)):=by kernel_rfl
@[go_sem] theorem bHt(i o:Nat):aM prog 96 (.adr i o) 0=some (.adr i (o+0)):=by kernel_rfl
@[go_sem] theorem bHv(i o:Nat):aM prog 96 (.adr i o) 1=some (.adr i (o+1)):=by kernel_rfl
theorem bC6(i o:Nat)(k:IntKind):kD prog 180 (.adr i o) (.v (.int k 0))=some (.adr i o):=by kernel_rfl
theorem bC7(i o:Nat)(k:IntKind):kD prog 180 (.adr i o) (.v (.int k 1))=some (.adr i (o+1)):=by kernel_rfl
attribute [go_sem] bC6 bC7
@[go_sem] theorem bL0(H:aI)(x:AV)(xs:List AV):bW prog H 145 (.ptr (x::xs))=some x:=by kernel_rfl
@[go_sem] theorem bL1(H:aI)(x0:AV)(xs:List AV):bW prog H 147 (.ptr (x0::xs))=some (.agg [x0]):=by kernel_rfl
@[go_sem] theorem bL3(H:aI)(x0 x1:AV)(xs:List AV):bW prog H 180 (.ptr (x0::x1::xs))=some (.agg [x0,x1]):=by kernel_rfl
@[go_sem] theorem bL4(H:aI)(x0 x1:AV)(xs:List AV):bW prog H 194 (.ptr (x0::x1::xs))=some (.agg [x0,x1]):=by kernel_rfl
@[go_sem] theorem bO1(H:aI)(x0 x1 x2:AV)(xs:List AV):bW prog H 23 (.ptr (x0::x1::x2::xs))=some (.agg [x0,x1,x2]):=by kernel_rfl
@[go_sem] theorem bOf(H:aI)(x:AV)(xs:List AV):bW prog H 28 (.ptr (x::xs))=some x:=by kernel_rfl
@[go_sem] theorem bSd(H:aI)(x:AV)(xs:List AV):bW prog H 3 (.ptr (x::xs))=some x:=by kernel_rfl
@[go_sem] theorem bOl(H:aI)(x0 x1 x2 x3 x4:AV)(xs:List AV):bW prog H 30 (.ptr (x0::x1::x2::x3::x4::xs))=some (.agg [x0,x1,x2,x3,x4]):=by kernel_rfl
@[go_sem] theorem bOp(H:aI)(x:AV)(xs:List AV):bW prog H 31 (.ptr (x::xs))=some x:=by kernel_rfl
@[go_sem] theorem bOr(H:aI)(x0 x1 x2 x3 x4 x5:AV)(xs:List AV):bW prog H 33 (.ptr (x0::x1::x2::x3::x4::x5::xs))=some (.agg [x0,x1,x2,x3,x4,x5]):=by kernel_rfl
@[go_sem] theorem bSj(H:aI)(x:AV)(xs:List AV):bW prog H 4 (.ptr (x::xs))=some x:=by kernel_rfl
@[go_sem] theorem bOz(H:aI)(x:AV)(xs:List AV):bW prog H 40 (.ptr (x::xs))=some x:=by kernel_rfl
@[go_sem] theorem bP8(H:aI)(x0 x1 x2:AV)(xs:List AV):bW prog H 61 (.ptr (x0::x1::x2::xs))=some (.agg [x0,x1,x2]):=by kernel_rfl
@[go_sem] theorem bPg(H:aI)(x0 x1:AV)(xs:List AV):bW prog H 96 (.ptr (x0::x1::xs))=some (.agg [x0,x1]):=by kernel_rfl
@[go_sem] theorem bB9(H:aI)(k:IntKind)(n:Int):nE prog H 3 162 (.v (.int k n))=some (.v (.int .u64 (IntKind.u64.wrap n))):=iA underlying3 underlying162
@[go_sem] theorem bFc(H:aI)(k:IntKind)(n:Int):nE prog H 5 40 (.v (.int k n))=some (.v (.int .u64 (IntKind.u64.wrap n))):=iA underlying5 underlying40
@[go_sem] theorem bB4(H:aI)(k:IntKind)(n:Int):nE prog H 162 3 (.v (.int k n))=some (.v (.int .i64 (IntKind.i64.wrap n))):=iA underlying162 underlying3
def aSz(rec1:List ByteArray→List Int→Int→Int→Option (ByteArray))(aRy:List ByteArray)(t36:List Int)(t37:Int)(t38:Int):Option (ByteArray):=
 (bif (decide (t38<t37)) then
  none
 else
  none)
def aD9:Nat→List ByteArray→List Int→Int→Int→Option (ByteArray)
 |0=>fun _ _ _ _=>none
 |n+1=>aSz (aD9 n)
def aT0(rec2:List ByteArray→List aG→Int→Int→Option (ByteArray))(aMb:List ByteArray)(t53:List aG)(t54:Int)(t55:Int):Option (ByteArray):=
 (bif (decide (t55<t54)) then
  none
 else
  none)
def aDa:Nat→List ByteArray→List aG→Int→Int→Option (ByteArray)
 |0=>fun _ _ _ _=>none
 |n+1=>aT0 (aDa n)
def jD(aA8:GA):Option (ByteArray):=
 ((bDm .i64 36 aA8).bind fun ⟨r5,r6⟩=>
 (bif r6 then
  (bif (r5==0) then
   some ⟨#[111,107]⟩
  else
   ((aQp r5).bind fun r8=>
   ((bPz ⟨#[101,114,114,111,114,32]⟩ r8).bind fun s10=>
   some s10)))
 else
  ((bBu 4 aA8).bind fun ⟨r12,r13⟩=>
  (bif r13 then
   (bif r12 then
    some ⟨#[121,101,115]⟩
   else
    some ⟨#[110,111]⟩)
  else
   ((bDm .i64 3 aA8).bind fun ⟨r18,r19⟩=>
   (bif r19 then
    ((aQp r18).bind fun r21=>
    some r21)
   else
    ((bS5 24 aA8).bind fun ⟨r23,r24⟩=>
    (bif r24 then
     aD9 bC [] r23 (r23.length:Int) 0
    else
     ((bS4 157 aA8).bind fun ⟨r26,r27⟩=>
     (bif r27 then
      aDa bC [] r26 (r26.length:Int) 0
     else
      ((bKk 9 aA8).bind fun ⟨r32,r33⟩=>
      (bif r33 then
       none
      else
       some ⟨#[]⟩))))))))))))
theorem jW{aA8:GA}{r:ByteArray}(hm:jD aA8=some r):bO prog 59 [GA.av aA8] (.v (.string r)):=by
 refine bd 78 func59 ?_;refine W ?_;obtain ⟨⟨r5,r6⟩,h4,hm⟩:=bnd hm;refine pu rfl (aXq underlying36 bUu cBa Z1 h4) ?_;refine W ?_;refine cm hm (fun hm=>?_) fun hm=>?_
 ·
  refine W ?_;refine cm hm (fun hm=>?_) fun hm=>?_
  · exact E
  obtain ⟨r8,h7,hm⟩:=bnd hm;refine W ?_;refine cq (bC8 h7) ?_;obtain ⟨s10,h9,hm⟩:=bnd hm;exact E
 refine W ?_;obtain ⟨⟨r12,r13⟩,h11,hm⟩:=bnd hm;refine pu rfl (bEr underlying4 in4 tz4 Z1 h11) ?_;refine W ?_;refine cm hm (fun hm=>?_) fun hm=>?_
 ·
  refine W ?_;refine cm hm (fun hm=>?_) fun hm=>?_
  · exact E
  exact E
 refine W ?_;obtain ⟨⟨r18,r19⟩,h17,hm⟩:=bnd hm;refine pu rfl (aXq underlying3 in3 tz3 Z1 h17) ?_;refine W ?_;refine cm hm (fun hm=>?_) fun hm=>?_
 · obtain ⟨r21,h20,hm⟩:=bnd hm;refine W ?_;refine cq (bC8 h20) ?_;exact E
 refine W ?_;obtain ⟨⟨r23,r24⟩,h22,hm⟩:=bnd hm;refine aW.pop Zd (aR5 Z1 (GA.data _)) (bLs underlying24 bUt cB9 Z1 h22) rfl ?_;refine W ?_;refine cm hm (fun hm=>?_) fun hm=>?_
 ·
  refine W ?_;refine lp (fun m s=> ∃aRy t36 t37 t38,s=⟨78,(aE (aE (aE (aE fa 7 (.own 1 0 aRy.length)) 36 (vl (ci .u64) t36)) 37 (vi t37)) 38 (vi t38)),⟨(upd aZ 1 (.cells 1 (aRy.flatMap qX) 0)),64⟩⟩∧aD9 m aRy t36 t37 t38=some r) ?_ ?_
  · refine ⟨_,?_,[],r23,(r23.length:Int),0,rfl,hm⟩;refine St.Le.trans (rQ 7 900007 1 Z1 Z5) ?_;exact cn (fun j=>bif j==1 then 900007 else 0)
  rintro n1 s ⟨aRy,t36,t37,t38,rfl,hm⟩;refine W ?_;refine cm hm (fun hm=>?_) fun hm=>?_
  · cases hm
  cases hm
 refine W ?_;obtain ⟨⟨r26,r27⟩,h25,hm⟩:=bnd hm;refine aW.pop Zd (aR5 Z1 (GA.data _)) (bLr underlying157 bQv bRc Z1 h25) rfl ?_;refine W ?_;refine cm hm (fun hm=>?_) fun hm=>?_
 ·
  refine W ?_;refine lp (fun m s=> ∃aMb t53 t54 t55,s=⟨78,(aE (aE (aE (aE fa 11 (.own 1 0 aMb.length)) 53 (vl fO t53)) 54 (vi t54)) 55 (vi t55)),⟨(upd aZ 1 (.cells 1 (aMb.flatMap qX) 0)),64⟩⟩∧aDa m aMb t53 t54 t55=some r) ?_ ?_
  · refine ⟨_,?_,[],r26,(r26.length:Int),0,rfl,hm⟩;refine St.Le.trans (rQ 11 900011 1 Z1 Z5) ?_;exact cn (fun j=>bif j==1 then 900011 else 0)
  rintro n2 s ⟨aMb,t53,t54,t55,rfl,hm⟩;refine W ?_;refine cm hm (fun hm=>?_) fun hm=>?_
  · cases hm
  cases hm
 refine W ?_;obtain ⟨⟨r32,r33⟩,h31,hm⟩:=bnd hm;refine pu rfl (bJ3 underlying9 in9 tz9 Z1 h31) ?_;refine W ?_;refine cm hm (fun hm=>?_) fun hm=>?_
 · cases hm
 exact E
instance:Ct prog 59 (K1 prog GA.av vs 59 jD):=⟨fun hm=>jW hm⟩
def zI(eQ:ByteArray):Option (Int×Int):=
 (bif (decide (eQ=⟨#[110,101,119]⟩)) then
  some ((-1),3)
 else
  (bif (decide (eQ=⟨#[112,108,97,110]⟩)) then
   some ((-2),3)
  else
   (bif (decide (eQ=⟨#[118,101,114,116,101,120]⟩)) then
    some (1,1)
   else
    (bif (decide (eQ=⟨#[100,114,111,112]⟩)) then
     some (2,1)
    else
     (bif (decide (eQ=⟨#[101,100,103,101]⟩)) then
      some (3,2)
     else
      (bif (decide (eQ=⟨#[99,117,116]⟩)) then
       some (4,2)
      else
       (bif (decide (eQ=⟨#[104,97,115]⟩)) then
        some (5,2)
       else
        (bif (decide (eQ=⟨#[100,101,103,114,101,101]⟩)) then
         some (6,1)
        else
         (bif (decide (eQ=⟨#[110,101,97,114]⟩)) then
          some (7,1)
         else
          (bif (decide (eQ=⟨#[99,111,110,110,101,99,116,101,100]⟩)) then
           some (8,2)
          else
           (bif (decide (eQ=⟨#[115,105,122,101]⟩)) then
            some (9,1)
           else
            (bif (decide (eQ=⟨#[99,111,117,110,116]⟩)) then
             some (10,0)
            else
             (bif (decide (eQ=⟨#[109,101,109,98,101,114,115]⟩)) then
              some (11,1)
             else
              (bif (decide (eQ=⟨#[102,111,114,101,115,116]⟩)) then
               some (12,0)
              else
               (bif (decide (eQ=⟨#[97,117,100,105,116]⟩)) then
                some (13,0)
               else
                (bif (decide (eQ=⟨#[115,97,118,101]⟩)) then
                 some (14,0)
                else
                 (bif (decide (eQ=⟨#[114,101,115,116,111,114,101]⟩)) then
                  some (15,1)
                 else
                  some (0,0))))))))))))))))))
theorem aG9{eQ:ByteArray}{r:Int×Int}(hm:zI eQ=some r):bO prog 60 [.v (.string eQ)] (.tup [vi r.1,vi r.2]):=by
 refine bd 39 func60 ?_;refine W ?_;refine cm hm (fun hm=>?_) fun hm=>?_
 · exact E
 refine W ?_;refine cm hm (fun hm=>?_) fun hm=>?_
 · exact E
 refine W ?_;refine cm hm (fun hm=>?_) fun hm=>?_
 · exact E
 refine W ?_;refine cm hm (fun hm=>?_) fun hm=>?_
 · exact E
 refine W ?_;refine cm hm (fun hm=>?_) fun hm=>?_
 · exact E
 refine W ?_;refine cm hm (fun hm=>?_) fun hm=>?_
 · exact E
 refine W ?_;refine cm hm (fun hm=>?_) fun hm=>?_
 · exact E
 refine W ?_;refine cm hm (fun hm=>?_) fun hm=>?_
 · exact E
 refine W ?_;refine cm hm (fun hm=>?_) fun hm=>?_
 · exact E
 refine W ?_;refine cm hm (fun hm=>?_) fun hm=>?_
 · exact E
 refine W ?_;refine cm hm (fun hm=>?_) fun hm=>?_
 · exact E
 refine W ?_;refine cm hm (fun hm=>?_) fun hm=>?_
 · exact E
 refine W ?_;refine cm hm (fun hm=>?_) fun hm=>?_
 · exact E
 refine W ?_;refine cm hm (fun hm=>?_) fun hm=>?_
 · exact E
 refine W ?_;refine cm hm (fun hm=>?_) fun hm=>?_
 · exact E
 refine W ?_;refine cm hm (fun hm=>?_) fun hm=>?_
 · exact E
 refine W ?_;refine cm hm (fun hm=>?_) fun hm=>?_
 · exact E
 exact E
instance:Ct prog 60 (K1 prog vs (t2 vi vi) 60 zI):=⟨fun hm=>aG9 hm⟩
def nC(n_0:Int):Option (Bool):=
 some ((decide (1≤n_0))&&(decide (n_0≤1024)))
theorem aXb:K1 prog vi vb 76 nC:=fun hm=>be 9 func76 (h:=G)
instance:Ct prog 76 (K1 prog vi vb 76 nC):=⟨aXb⟩
def iL(s_0:aB):Option (Int):=
 (bif (!s_0.nn) then
  some 0
 else
  ((chk s_0.nn).bind fun _=>
  some s_0.size))
theorem rM:K1 prog aB.av vi 156 iL:=fun hm=>be 9 func156 (h:=G)
instance:Ct prog 156 (K1 prog aB.av vi 156 iL):=⟨rM⟩
def aFs(rec1:aB→Int→bN→Option (bN×Bool))(s_0:aB)(i_1:Int)(t4:bN):Option (bN×Bool):=
 ((chk s_0.nn).bind fun _=>
 ((iL s_0.ahead).bind fun r5=>
 (bif (decide (i_1<r5)) then
  ((chk s_0.nn).bind fun _=>
  rec1 s_0.ahead i_1 t4)
 else
  (bif (decide (r5<i_1)) then
   ((chk s_0.nn).bind fun _=>
   rec1 s_0.behind (IntKind.i64.wrap (i_1-(IntKind.i64.wrap (r5+1)))) t4)
  else
   ((chk s_0.nn).bind fun _=>
   some (s_0.thing,true))))))
def vR:Nat→aB→Int→bN→Option (bN×Bool)
 |0=>fun _ _ _=>none
 |n+1=>aFs (vR n)
def mL(s_0:aB)(i_1:Int):Option (bN×Bool):=
 ((fX ((decide (i_1<0))==false) 0 (iL s_0)).bind fun r2=>
 (bif ((decide (i_1<0))||(decide (r2≤i_1))) then
  some ((bN.mk 0 0),false)
 else
  vR bC s_0 i_1 (bN.mk 0 0)))
theorem aCi:K2 prog aB.av vi (t2 aBw vb) 119 mL:=by
 intro s_0 i_1 r hm
 let I1:=((fun m s=> ∃s_0 i_1 t4,s=⟨46,(aE (aE (aE fa 0 (aB.av s_0)) 1 (vi i_1)) 4 (.adr 1 0)),⟨(upd aZ 1 (.cells 1 [vu t4.Key,vi t4.N] 0)),64⟩⟩∧vR m s_0 i_1 t4=some r):Nat→St→Prop)
 exact be 46 func119 (h:=G)
instance:Ct prog 119 (K2 prog aB.av vi (t2 aBw vb) 119 mL):=⟨aCi⟩
def uQ(i_0:Int)(t1:bS)(t2:Int):Option (Bool):=
 ((mL t1.s i_0).bind fun ⟨r2,r3⟩=>
 some (decide (t2≤r2.Key)))
theorem aVa{i_0:Int}{t1:bS}{t2:Int}{r:Bool}(hm:uQ i_0 t1 t2=some r):bO prog 158 [vi i_0,.ptr [aB.av t1.s],.ptr [vu t2]] (vb r):=by
 refine bd 18 func158 ?_;refine W ?_;obtain ⟨⟨r2,r3⟩,h1,hm⟩:=bnd hm;refine cq (aCi h1) ?_;exact E
def aDe(f_1:(Int→Option (Bool)))(rec1:Int→Int→Option (Int))(i_5:Int)(j_6:Int):Option (Int):=
 (bif (decide (i_5<j_6)) then
  ((f_1 (IntKind.i64.wrap (shr .u64 (IntKind.u64.wrap (IntKind.i64.wrap (i_5+j_6))) 1))).bind fun r2=>
  (bif (!r2) then
   rec1 (IntKind.i64.wrap ((IntKind.i64.wrap (shr .u64 (IntKind.u64.wrap (IntKind.i64.wrap (i_5+j_6))) 1))+1)) j_6
  else
   rec1 i_5 (IntKind.i64.wrap (shr .u64 (IntKind.u64.wrap (IntKind.i64.wrap (i_5+j_6))) 1))))
 else
  some i_5)
def sU(f_1:(Int→Option (Bool))):Nat→Int→Int→Option (Int)
 |0=>fun _ _=>none
 |n+1=>aDe f_1 (sU f_1 n)
def aFv(n_0:Int)(f_1:(Int→Option (Bool))):Option (Int):=
 sU f_1 bC 0 n_0
theorem aX2{n_0:Int}{f_1:(Int→Option (Bool))}{r:Int}(hm:aFv n_0 f_1=some r){aL1:FuncId}{zW:List AV}(aQm: ∀a,a∈zW→AM.Data a)(bBy:(Program.funcs prog)[aL1]?.any (fun fn=>fn.body.isSome&&fn.name != "runtime.NumGoroutine")=true)(bC1: ∀ {x0 r},f_1 x0=some r→bO prog aL1 ([vi x0]++zW) (vb r)):bO prog 157 [vi n_0,.clo (.func aL1) [] zW] (vi r):=by
 refine bd 26 func157 ?_;refine W ?_;refine lp (fun m s=> ∃i_5 j_6,s=⟨26,(aE (aE (aE fa 1 (.clo (.func aL1) [] zW)) 5 (vi i_5)) 6 (vi j_6)),⟨aZ,64⟩⟩∧sU f_1 m i_5 j_6=some r) L ?_;rintro n1 s ⟨i_5,j_6,rfl,hm⟩;refine W ?_;refine cm hm (fun hm=>?_) fun hm=>?_
 ·
  obtain ⟨r2,h1,hm⟩:=bnd hm;refine W ?_;refine aW.callQC (r:= .v (.bool r2)) Zd Z1 aQm bBy (fun H=>(cV .nil)) (bC1 h1) ?_;refine W ?_;refine cm hm (fun hm=>?_) fun hm=>?_
  · exact L
  exact L
 exact E
def wM(d_0:bS)(iG:Int):Option (Int):=
 ((iL d_0.s).bind fun r2=>
 ((aFv r2 (fun x0=>uQ x0 d_0 iG)).bind fun r4=>
 some r4))
theorem aQf{d_0:bS}{iG:Int}{r:Int}(hm:wM d_0 iG=some r):bO prog 120 [.agg [aB.av d_0.s],vu iG] (vi r):=by
 refine bd 10 func120 ?_;refine S1 ?_;refine aW.pop Zd (aR5 Z1 (.agg _ (aC0.dat d_0))) (aWg (ys:=[aB.av d_0.s]) Z1 (fun H=>(.cons (.data _ (aB.data d_0.s)) .nil))) rfl ?_;refine aW.pop Zd (aR5 Z1 (.v _)) (aWg (ys:=[.v (.int .u64 iG)]) Z1 (fun H=>(.cons (.data _ (.v _)) .nil))) rfl ?_;obtain ⟨r2,h1,hm⟩:=bnd hm;refine W ?_;refine cq (rM h1) ?_;obtain ⟨r4,h3,hm⟩:=bnd hm;refine W ?_;refine aW.callQ (r:= .v (.int .i64 r4)) Zd Z1 bUg (fun H=>(cV (.cons (td Z1 (bK1 (oL (.ptr _ (aC0.dat d_0)) (oL (.ptr _ ((CFi .u64).dat iG)) aGr)))) .nil))) (aX2 h3 (oL (.ptr _ (aC0.dat d_0)) (oL (.ptr _ ((CFi .u64).dat iG)) aGr)) bUh (fun h=>aVa h)) ?_;exact E
instance:Ct prog 120 (K2 prog tT vu vi 120 wM):=⟨fun hm=>aQf hm⟩
def tX(d_0:bS)(iG:Int):Option (Int×Bool):=
 ((wM d_0 iG).bind fun r2=>
 ((mL d_0.s r2).bind fun ⟨r4,r5⟩=>
 (bif ((!r5)||(r4.Key !=iG)) then
  some (0,false)
 else
  some (r4.N,true))))
theorem aMw:K2 prog tT vu (t2 vi vb) 79 tX:=fun hm=>be 27 func79 (h:=G)
instance:Ct prog 79 (K2 prog tT vu (t2 vi vb) 79 tX):=⟨aMw⟩
def cR(s_0:aB):Option (Int):=
 (bif (!s_0.nn) then
  some 0
 else
  ((chk s_0.nn).bind fun _=>
  some s_0.height))
theorem jK:K1 prog aB.av vi 236 cR:=fun hm=>be 9 func236 (h:=G)
instance:Ct prog 236 (K1 prog aB.av vi 236 cR):=⟨jK⟩
def dQ(bR:aB)(eN:bN)(bK:aB):Option (aB):=
 ((cR bR).bind fun r2=>
 ((cR bK).bind fun r4=>
 ((iL bR).bind fun r6=>
 ((iL bK).bind fun r8=>
 some (aB.mk bR bK eN (IntKind.i64.wrap ((if r2<r4 then r4 else r2)+1)) (IntKind.i64.wrap ((IntKind.i64.wrap (r6+1))+r8)))))))
theorem aDd{bR:aB}{eN:bN}{bK:aB}{r:aB}(hm:dQ bR eN bK=some r):bO prog 192 [aB.av bR,.agg [vu eN.Key,vi eN.N],aB.av bK] (aB.av r):=by
 refine bd 24 func192 ?_;obtain ⟨r2,h1,hm⟩:=bnd hm;refine W ?_;refine cq (jK h1) ?_;obtain ⟨r4,h3,hm⟩:=bnd hm;refine W ?_;refine cq (jK h3) ?_;obtain ⟨r6,h5,hm⟩:=bnd hm;refine W ?_;refine cq (rM h5) ?_;obtain ⟨r8,h7,hm⟩:=bnd hm;refine W ?_;refine cq (rM h7) ?_;refine W ?_;refine pu rfl (by simp only [go_sem,Nat.reduceBEq];exact bJf (aB.cells _) (aB.cells _)) ?_;refine aW.pop Zd (aR5 Z1 (.agg _ (oL (aB.data bR) (oL (aB.data bK) (oL (.v _) (oL (.v _) (oL (.v _) (oL (.v _) aGr)))))))) (aWg (ys:=[aB.av ((aB.mk bR bK eN (IntKind.i64.wrap ((if r2<r4 then r4 else r2)+1)) (IntKind.i64.wrap ((IntKind.i64.wrap (r6+1))+r8))).ahead),aB.av ((aB.mk bR bK eN (IntKind.i64.wrap ((if r2<r4 then r4 else r2)+1)) (IntKind.i64.wrap ((IntKind.i64.wrap (r6+1))+r8))).behind),.v (.int .u64 (((aB.mk bR bK eN (IntKind.i64.wrap ((if r2<r4 then r4 else r2)+1)) (IntKind.i64.wrap ((IntKind.i64.wrap (r6+1))+r8))).thing).Key)),.v (.int .i64 (((aB.mk bR bK eN (IntKind.i64.wrap ((if r2<r4 then r4 else r2)+1)) (IntKind.i64.wrap ((IntKind.i64.wrap (r6+1))+r8))).thing).N)),.v (.int .i64 ((aB.mk bR bK eN (IntKind.i64.wrap ((if r2<r4 then r4 else r2)+1)) (IntKind.i64.wrap ((IntKind.i64.wrap (r6+1))+r8))).height)),.v (.int .i64 ((aB.mk bR bK eN (IntKind.i64.wrap ((if r2<r4 then r4 else r2)+1)) (IntKind.i64.wrap ((IntKind.i64.wrap (r6+1))+r8))).size))]) Z1 (fun H=>(.cons (.data _ (aB.data bR)) (.cons (.data _ (aB.data bK)) (.cons (.data _ (.v _)) (.cons (.data _ (.v _)) (.cons (.data _ (.v _)) (.cons (.data _ (.v _)) .nil)))))))) rfl ?_;exact E
instance:Ct prog 192 (K3 prog aB.av aBw aB.av aB.av 192 dQ):=⟨fun hm=>aDd hm⟩
def kP(bR:aB)(eN:bN)(bK:aB):Option (aB):=
 ((cR bR).bind fun r2=>
 ((cR bK).bind fun r4=>
 (bif (decide ((IntKind.i64.wrap (r4+1))<r2)) then
  ((chk bR.nn).bind fun _=>
  ((cR bR.ahead).bind fun r7=>
  ((chk bR.nn).bind fun _=>
  ((cR bR.behind).bind fun r10=>
  (bif (decide (r10≤r7)) then
   ((chk bR.nn).bind fun _=>
   ((chk bR.nn).bind fun _=>
   ((chk bR.nn).bind fun _=>
   ((dQ bR.behind eN bK).bind fun r15=>
   ((dQ bR.ahead bR.thing r15).bind fun r17=>
   some r17)))))
  else
   ((chk bR.nn).bind fun _=>
   ((chk bR.nn).bind fun _=>
   ((chk bR.nn).bind fun _=>
   ((chk bR.behind.nn).bind fun _=>
   ((dQ bR.ahead bR.thing bR.behind.ahead).bind fun r23=>
   ((chk bR.behind.nn).bind fun _=>
   ((chk bR.behind.nn).bind fun _=>
   ((dQ bR.behind.behind eN bK).bind fun r27=>
   ((dQ r23 bR.behind.thing r27).bind fun r29=>
   some r29))))))))))))))
 else
  ((cR bK).bind fun r31=>
  ((cR bR).bind fun r33=>
  (bif (decide ((IntKind.i64.wrap (r33+1))<r31)) then
   ((chk bK.nn).bind fun _=>
   ((cR bK.behind).bind fun r36=>
   ((chk bK.nn).bind fun _=>
   ((cR bK.ahead).bind fun r39=>
   (bif (decide (r39≤r36)) then
    ((chk bK.nn).bind fun _=>
    ((dQ bR eN bK.ahead).bind fun r42=>
    ((chk bK.nn).bind fun _=>
    ((chk bK.nn).bind fun _=>
    ((dQ r42 bK.thing bK.behind).bind fun r46=>
    some r46)))))
   else
    ((chk bK.nn).bind fun _=>
    ((chk bK.ahead.nn).bind fun _=>
    ((dQ bR eN bK.ahead.ahead).bind fun r50=>
    ((chk bK.ahead.nn).bind fun _=>
    ((chk bK.ahead.nn).bind fun _=>
    ((chk bK.nn).bind fun _=>
    ((chk bK.nn).bind fun _=>
    ((dQ bK.ahead.behind bK.thing bK.behind).bind fun r56=>
    ((dQ r50 bK.ahead.thing r56).bind fun r58=>
    some r58))))))))))))))
  else
   ((dQ bR eN bK).bind fun r60=>
   some r60)))))))
theorem zN:K3 prog aB.av aBw aB.av aB.av 237 kP:=fun hm=>be 139 func237 (h:=G)
instance:Ct prog 237 (K3 prog aB.av aBw aB.av aB.av 237 kP):=⟨zN⟩
def nJ(recf:aB→bN→aB→Option (aB))(bR:aB)(eN:bN)(bK:aB):Option (aB):=
 ((cR bR).bind fun r2=>
 ((cR bK).bind fun r4=>
 (bif (decide ((IntKind.i64.wrap (r4+1))<r2)) then
  ((chk bR.nn).bind fun _=>
  ((chk bR.nn).bind fun _=>
  ((chk bR.nn).bind fun _=>
  ((recf bR.behind eN bK).bind fun r9=>
  ((kP bR.ahead bR.thing r9).bind fun r11=>
  some r11)))))
 else
  ((cR bK).bind fun r13=>
  ((cR bR).bind fun r15=>
  (bif (decide ((IntKind.i64.wrap (r15+1))<r13)) then
   ((chk bK.nn).bind fun _=>
   ((recf bR eN bK.ahead).bind fun r18=>
   ((chk bK.nn).bind fun _=>
   ((chk bK.nn).bind fun _=>
   ((kP r18 bK.thing bK.behind).bind fun r22=>
   some r22)))))
  else
   ((dQ bR eN bK).bind fun r24=>
   some r24)))))))
def kO:Nat→aB→bN→aB→Option (aB)
 |0=>fun _ _ _=>none
 |n+1=>nJ (kO n)
def nK(bR:aB)(eN:bN)(bK:aB):Option (aB):=kO bC bR eN bK
theorem aNf: ∀(nn:Nat) {bR:aB} {eN:bN} {bK:aB} {r:aB} (hm:kO nn bR eN bK=some r),bO prog 191 [aB.av bR,.agg [.v (.int .u64 eN.Key),.v (.int .i64 eN.N)],aB.av bK] (aB.av r):=by
 intro nn
 induction nn with
 |zero=>
  intro bR eN bK r hm;replace hm:none=some r:=hm;cases hm
 |succ nn ih=>
  intro bR eN bK r hm;replace hm:nJ (kO nn) bR eN bK=some r:=hm;refine bO.of_body func191 rfl ?_;simp only [ntmps191,List.length_cons,List.length_nil,Nat.reduceAdd,Nat.reduceSub,gD];unfold nJ at hm;refine sN 64 (hp (id:=0) rfl rfl (aTi Z1 Z5) ?_);refine pA ?_;refine fs (AWp.seq' (AWp.block (sN 128 (pA ?_))));obtain ⟨r2,h1,hm⟩:=bnd hm;refine aW.callQ (r:= .v (.int .i64 r2)) Zd Z1 bDl (fun H=>(cD (aB.data _) .nil)) (jK h1) ?_;refine pA ?_;obtain ⟨r4,h3,hm⟩:=bnd hm;refine aW.callQ (r:= .v (.int .i64 r4)) Zd Z1 bDl (fun H=>(cD (aB.data _) .nil)) (jK h3) ?_
  iterate 3 refine pA ?_
  refine fs (AWp.condM hm Z1 (fun _ hm=>?_) (fun _ hm=>?_))
  ·
   refine sd mix (by kernel_rfl) (N':=192) rfl ?_;refine pA ?_;obtain ⟨_,h5,hm⟩:=bnd hm;refine pu rfl (uJ Z1 (aB.av_nn (rW h5))) ?_
   iterate 3 refine pA ?_
   obtain ⟨_,h6,hm⟩:=bnd hm;refine pu rfl (uJ Z1 (aB.av_nn (rW h6))) ?_
   iterate 3 refine pA ?_
   obtain ⟨_,h7,hm⟩:=bnd hm;refine pu rfl (uJ Z1 (aB.av_nn (rW h7))) ?_
   iterate 2 refine pA ?_
   refine pu rfl (gQ Z1 Z3 Z2) ?_;refine pA ?_;obtain ⟨r9,h8,hm⟩:=bnd hm;refine aW.callQ (r:=aB.av r9) Zd Z1 bDk (fun H=>(cD (aB.data _) (cD (.agg _ (fV.dat _)) (cD (aB.data _) .nil)))) (ih h8) ?_;obtain ⟨r11,h10,hm⟩:=bnd hm;refine aW.callQ (r:=aB.av r11) Zd Z1 bQs (fun H=>(cD (aB.data _) (cD (.agg _ (fV.dat _)) (cD (aB.data _) .nil)))) (zN h10) ?_;refine pA ?_;refine fs (AWp.ret (sK (hZ ?_)));cases hm;exact aLo (.inr rfl) Tryz.results191 (td Z1 (aB.data _))
  ·
   refine sN 192 (pA ?_);obtain ⟨r13,h12,hm⟩:=bnd hm;refine aW.callQ (r:= .v (.int .i64 r13)) Zd Z1 bDl (fun H=>(cD (aB.data _) .nil)) (jK h12) ?_;refine pA ?_;obtain ⟨r15,h14,hm⟩:=bnd hm;refine aW.callQ (r:= .v (.int .i64 r15)) Zd Z1 bDl (fun H=>(cD (aB.data _) .nil)) (jK h14) ?_
   iterate 3 refine pA ?_
   refine fs (AWp.condM hm Z1 (fun _ hm=>?_) (fun _ hm=>?_))
   ·
    refine sd mix (by kernel_rfl) (N':=256) rfl ?_;refine pA ?_;refine pu rfl (gQ Z1 Z3 Z2) ?_;refine pA ?_;obtain ⟨_,h16,hm⟩:=bnd hm;refine pu rfl (uJ Z1 (aB.av_nn (rW h16))) ?_
    iterate 2 refine pA ?_
    obtain ⟨r18,h17,hm⟩:=bnd hm;refine aW.callQ (r:=aB.av r18) Zd Z1 bDk (fun H=>(cD (aB.data _) (cD (.agg _ (fV.dat _)) (cD (aB.data _) .nil)))) (ih h17) ?_;refine pA ?_;obtain ⟨_,h19,hm⟩:=bnd hm;refine pu rfl (uJ Z1 (aB.av_nn (rW h19))) ?_
    iterate 3 refine pA ?_
    obtain ⟨_,h20,hm⟩:=bnd hm;refine pu rfl (uJ Z1 (aB.av_nn (rW h20))) ?_
    iterate 2 refine pA ?_
    obtain ⟨r22,h21,hm⟩:=bnd hm;refine aW.callQ (r:=aB.av r22) Zd Z1 bQs (fun H=>(cD (aB.data _) (cD (.agg _ (fV.dat _)) (cD (aB.data _) .nil)))) (zN h21) ?_;refine pA ?_;refine fs (AWp.ret (sK (hZ ?_)));cases hm;exact aLo (.inr rfl) Tryz.results191 (td Z1 (aB.data _))
   · refine AWp.skip (gZ (bJ (sN 256 (pA ?_))));refine pu rfl (gQ Z1 Z3 Z2) ?_;refine pA ?_;obtain ⟨r24,h23,hm⟩:=bnd hm;refine aW.callQ (r:=aB.av r24) Zd Z1 bQr (fun H=>(cD (aB.data _) (cD (.agg _ (fV.dat _)) (cD (aB.data _) .nil)))) (aDd h23) ?_;refine pA ?_;refine fs (AWp.ret ?_);cases hm;exact aLo (.inr rfl) Tryz.results191 (td Z1 (aB.data _))
theorem zM{bR:aB}{eN:bN}{bK:aB}{r:aB}(hm:nK bR eN bK=some r):bO prog 191 [aB.av bR,.agg [.v (.int .u64 eN.Key),.v (.int .i64 eN.N)],aB.av bK] (aB.av r):=aNf bC hm
def qG(recf:aB→Int→Option (aB×aB))(s_0:aB)(wA:Int):Option (aB×aB):=
 (bif (decide (wA≤0)) then
  some (aB.nil,s_0)
 else
  ((iL s_0).bind fun r2=>
  (bif (decide (r2≤wA)) then
   some (s_0,aB.nil)
  else
   ((chk s_0.nn).bind fun _=>
   ((iL s_0.ahead).bind fun r5=>
   (bif (decide (wA≤r5)) then
    ((chk s_0.nn).bind fun _=>
    ((recf s_0.ahead wA).bind fun ⟨r8,r9⟩=>
    ((chk s_0.nn).bind fun _=>
    ((chk s_0.nn).bind fun _=>
    ((nK r9 s_0.thing s_0.behind).bind fun r13=>
    some (r8,r13))))))
   else
    ((chk s_0.nn).bind fun _=>
    ((recf s_0.behind (IntKind.i64.wrap ((IntKind.i64.wrap (wA-r5))-1))).bind fun ⟨r16,r17⟩=>
    ((chk s_0.nn).bind fun _=>
    ((chk s_0.nn).bind fun _=>
    ((nK s_0.ahead s_0.thing r16).bind fun r21=>
    some (r21,r17))))))))))))
def mB:Nat→aB→Int→Option (aB×aB)
 |0=>fun _ _=>none
 |n+1=>qG (mB n)
def qH(s_0:aB)(wA:Int):Option (aB×aB):=mB bC s_0 wA
theorem aPg: ∀(nn:Nat) {s_0:aB} {wA:Int} {r:aB×aB} (hm:mB nn s_0 wA=some r),bO prog 153 [aB.av s_0,.v (.int .i64 wA)] (.tup [aB.av r.1,aB.av r.2]):=by
 intro nn
 induction nn with
 |zero=>
  intro s_0 wA r hm;replace hm:none=some r:=hm;cases hm
 |succ nn ih=>
  intro s_0 wA r hm;replace hm:qG (mB nn) s_0 wA=some r:=hm;refine bO.of_body func153 rfl ?_;simp only [ntmps153,List.length_cons,List.length_nil,Nat.reduceAdd,Nat.reduceSub,gD];unfold qG at hm;refine sN 64 ?_
  iterate 2 refine pA ?_
  refine fs (AWp.seq' (sN 128 ?_))
  iterate 2 refine pA ?_
  refine fs (AWp.condM hm Z1 (fun _ hm=>?_) (fun _ hm=>?_))
  ·
   refine sN 192 ?_
   iterate 3 refine pA ?_
   refine fs (AWp.ret (hZ ?_));cases hm;exact aE8 (.inr rfl) Tryz.results153 (td Z1 (aB.data _)) (td Z1 (aB.data _))
  ·
   refine AWp.skip (bJ (AWp.seq' (sN 192 ?_)))
   iterate 2 refine pA ?_
   obtain ⟨r2,h1,hm⟩:=bnd hm;refine aW.callQ (r:= .v (.int .i64 r2)) Zd Z1 bQp (fun H=>(cD (aB.data _) .nil)) (rM h1) ?_;refine pA ?_;refine fs (AWp.condM hm Z1 (fun _ hm=>?_) (fun _ hm=>?_))
   ·
    refine sN 256 ?_
    iterate 3 refine pA ?_
    refine fs (AWp.ret (hZ ?_));cases hm;exact aE8 (.inr rfl) Tryz.results153 (td Z1 (aB.data _)) (td Z1 (aB.data _))
   ·
    refine AWp.skip (bJ (sN 256 (pA ?_)));obtain ⟨_,h3,hm⟩:=bnd hm;refine pu rfl (uJ Z1 (aB.av_nn (rW h3))) ?_
    iterate 2 refine pA ?_
    obtain ⟨r5,h4,hm⟩:=bnd hm;refine aW.callQ (r:= .v (.int .i64 r5)) Zd Z1 bQp (fun H=>(cD (aB.data _) .nil)) (rM h4) ?_;refine pA ?_;refine fs (AWp.seq' (sN 320 ?_))
    iterate 3 refine pA ?_
    refine fs (AWp.condM hm Z1 (fun _ hm=>?_) (fun _ hm=>?_))
    ·
     refine sN 384 (pA ?_);obtain ⟨_,h6,hm⟩:=bnd hm;refine pu rfl (uJ Z1 (aB.av_nn (rW h6))) ?_
     iterate 3 refine pA ?_
     obtain ⟨⟨r8,r9⟩,h7,hm⟩:=bnd hm;refine aW.callQ (r:= .tup [aB.av r8,aB.av r9]) Zd Z1 bQo (fun H=>(cD (aB.data _) (cV .nil))) (ih h7) ?_
     iterate 5 refine pA ?_
     refine fs (sd mix (by kernel_rfl) (N':=448) rfl ?_)
     iterate 3 refine pA ?_
     obtain ⟨_,h10,hm⟩:=bnd hm;refine pu rfl (uJ Z1 (aB.av_nn (rW h10))) ?_
     iterate 3 refine pA ?_
     obtain ⟨_,h11,hm⟩:=bnd hm;refine pu rfl (uJ Z1 (aB.av_nn (rW h11))) ?_
     iterate 2 refine pA ?_
     obtain ⟨r13,h12,hm⟩:=bnd hm;refine aW.callQ (r:=aB.av r13) Zd Z1 bDk (fun H=>(cD (aB.data _) (cD (.agg _ (fV.dat _)) (cD (aB.data _) .nil)))) (zM h12) ?_
     iterate 2 refine pA ?_
     refine fs (AWp.ret (hZ ?_));cases hm;exact aE8 (.inr rfl) Tryz.results153 (td Z1 (aB.data _)) (td Z1 (aB.data _))
    ·
     refine AWp.skip (bJ (sN 384 (pA ?_)));obtain ⟨_,h14,hm⟩:=bnd hm;refine pu rfl (uJ Z1 (aB.av_nn (rW h14))) ?_
     iterate 6 refine pA ?_
     obtain ⟨⟨r16,r17⟩,h15,hm⟩:=bnd hm;refine aW.callQ (r:= .tup [aB.av r16,aB.av r17]) Zd Z1 bQo (fun H=>(cD (aB.data _) (cV .nil))) (ih h15) ?_
     iterate 5 refine pA ?_
     refine fs (sd mix (by kernel_rfl) (N':=448) rfl ?_);refine pA ?_;obtain ⟨_,h18,hm⟩:=bnd hm;refine pu rfl (uJ Z1 (aB.av_nn (rW h18))) ?_
     iterate 3 refine pA ?_
     obtain ⟨_,h19,hm⟩:=bnd hm;refine pu rfl (uJ Z1 (aB.av_nn (rW h19))) ?_
     iterate 3 refine pA ?_
     obtain ⟨r21,h20,hm⟩:=bnd hm;refine aW.callQ (r:=aB.av r21) Zd Z1 bDk (fun H=>(cD (aB.data _) (cD (.agg _ (fV.dat _)) (cD (aB.data _) .nil)))) (zM h20) ?_
     iterate 3 refine pA ?_
     refine fs (AWp.ret ?_);cases hm;exact aE8 (.inr rfl) Tryz.results153 (td Z1 (aB.data _)) (td Z1 (aB.data _))
theorem aBk{s_0:aB}{wA:Int}{r:aB×aB}(hm:qH s_0 wA=some r):bO prog 153 [aB.av s_0,.v (.int .i64 wA)] (.tup [aB.av r.1,aB.av r.2]):=aPg bC hm
def qF(recf:(List bN)→Option (aB))(l_0:List bN):Option (aB):=
 (bif ((l_0.length:Int)==0) then
  some aB.nil
 else
  ((slc l_0 0 (IntKind.i64.wrap (Int.tdiv (l_0.length:Int) 2))).bind fun l2=>
  ((recf l2).bind fun r4=>
  ((idx l_0 (IntKind.i64.wrap (Int.tdiv (l_0.length:Int) 2))).bind fun x6=>
  ((slc l_0 (IntKind.i64.wrap ((IntKind.i64.wrap (Int.tdiv (l_0.length:Int) 2))+1)) (l_0.length:Int)).bind fun l8=>
  ((recf l8).bind fun r10=>
  ((dQ r4 x6 r10).bind fun r12=>
  some r12)))))))
def uE:Nat→(List bN)→Option (aB)
 |0=>fun _=>none
 |n+1=>qF (uE n)
def aCj(l_0:List bN):Option (aB):=uE bC l_0
theorem aWu: ∀(nn:Nat) {l_0:List bN} {r:aB} (hm:uE nn l_0=some r),bO prog 155 [.sl (l_0.flatMap wJ) l_0.length false] (aB.av r):=by
 intro nn
 induction nn with
 |zero=>
  intro l_0 r hm;replace hm:none=some r:=hm;cases hm
 |succ nn ih=>
  intro l_0 r hm;replace hm:qF (uE nn) l_0=some r:=hm;refine bO.of_body func155 rfl ?_;simp only [ntmps155,List.length_cons,List.length_nil,Nat.reduceAdd,Nat.reduceSub,gD];unfold qF at hm;refine sN 64 (pA ?_);refine fs (AWp.seq' (sN 128 ?_))
  iterate 3 refine pA ?_
  refine fs (AWp.condM hm Z1 (fun _ hm=>?_) (fun _ hm=>?_))
  · refine sN 192 (pA ?_);refine fs (AWp.ret (hZ ?_));cases hm;exact aLo (.inr rfl) Tryz.results155 (td Z1 (aB.data _))
  ·
   refine AWp.skip (bJ (sN 192 ?_))
   iterate 4 refine pu rfl Zj ?_
   refine fs (sd mix (by kernel_rfl) (N':=256) rfl ?_)
   iterate 2 refine pA ?_
   obtain ⟨l2,h1,hm⟩:=bnd hm;refine pu rfl (bAl fV underlying267 bEf Z1 rfl aXg (aEc Z1 (bEa h1).2) h1) ?_;obtain ⟨r4,h3,hm⟩:=bnd hm;refine aW.callQ (r:=aB.av r4) Zd Z1 bK9 (fun H=>(.cons (tdf Z1 (fV.sl _ _ _)) .nil)) (ih h3) ?_
   iterate 2 refine pA ?_
   obtain ⟨x6,h5,hm⟩:=bnd hm;refine pu rfl (aJc fV Zd underlying267 bEf Z1 rfl Z1 h5) ?_
   iterate 4 refine pA ?_
   obtain ⟨l8,h7,hm⟩:=bnd hm;refine pu rfl (bAl fV underlying267 bEf Z1 rfl (aEc Z1 (bEa h7).1) (aUt _) h7) ?_;obtain ⟨r10,h9,hm⟩:=bnd hm;refine aW.callQ (r:=aB.av r10) Zd Z1 bK9 (fun H=>(.cons (tdf Z1 (fV.sl _ _ _)) .nil)) (ih h9) ?_;obtain ⟨r12,h11,hm⟩:=bnd hm;refine aW.callQ (r:=aB.av r12) Zd Z1 bQr (fun H=>(cD (aB.data _) (cD (.agg _ (fV.dat _)) (cD (aB.data _) .nil)))) (aDd h11) ?_;refine pA ?_;refine fs (AWp.ret ?_);cases hm;exact aLo (.inr rfl) Tryz.results155 (td Z1 (aB.data _))
theorem aZi{l_0:List bN}{r:aB}(hm:aCj l_0=some r):bO prog 155 [.sl (l_0.flatMap wJ) l_0.length false] (aB.av r):=aWu bC hm
def nS(a_0:aB)(b_1:aB):Option (aB):=
 ((mL b_1 0).bind fun ⟨r2,r3⟩=>
 (bif (!r3) then
  some a_0
 else
  ((qH b_1 1).bind fun ⟨r5,r6⟩=>
  ((nK a_0 r2 r6).bind fun r8=>
  some r8))))
theorem aDc{a_0:aB}{b_1:aB}{r:aB}(hm:nS a_0 b_1=some r):bO prog 154 [aB.av a_0,aB.av b_1] (aB.av r):=by
 refine bd 26 func154 ?_;refine W ?_;obtain ⟨⟨r2,r3⟩,h1,hm⟩:=bnd hm;refine cq (aCi h1) ?_;refine W ?_;refine cm hm (fun hm=>?_) fun hm=>?_
 · exact E
 refine W ?_;obtain ⟨⟨r5,r6⟩,h4,hm⟩:=bnd hm;refine cq (aBk h4) ?_;obtain ⟨r8,h7,hm⟩:=bnd hm;refine W ?_;refine cq (zM h7) ?_;exact E
instance:Ct prog 154 (K2 prog aB.av aB.av aB.av 154 nS):=⟨fun hm=>aDc hm⟩
abbrev aEr(iG:Int)(n_2:Int)(t6:bS)(aQs:aB)(aH9:aB):Option (bS):=
 ((aCj [(bN.mk iG n_2)]).bind fun r7=>
 ((nS r7 aH9).bind fun r9=>
 ((nS aQs r9).bind fun r11=>
 some (bS.mk r11))))
def aDs(d_0:bS)(iG:Int)(n_2:Int):Option (bS):=
 ((wM d_0 iG).bind fun r2=>
 ((qH d_0.s r2).bind fun ⟨r4,r5⟩=>
 ((mL r5 0).bind fun ⟨r13,r14⟩=>
 (bif (r14&&(r13.Key==iG)) then
  ((qH r5 1).bind fun ⟨r16,r17⟩=>
  aEr iG n_2 (bS.mk aB.nil) r4 r17)
 else
  aEr iG n_2 (bS.mk aB.nil) r4 r5))))
theorem bFf{d_0:bS}{iG:Int}{n_2:Int}{r:bS}(hm:aDs d_0 iG n_2=some r):bO prog 118 [.agg [aB.av d_0.s],vu iG,vi n_2] (.agg [aB.av r.s]):=by
 refine bd 47 func118 ?_;obtain ⟨r2,h1,hm⟩:=bnd hm;refine W ?_;refine cq (aQf h1) ?_;obtain ⟨⟨r4,r5⟩,h3,hm⟩:=bnd hm;refine cq (aBk h3) ?_;refine V ?_;refine AWp.seqJ (fun s=> ∃iG n_2 t6 aQs aH9,s=⟨47,(aE (aE (aE (aE (aE fa 1 (vu iG)) 2 (vi n_2)) 6 (.adr 1 0)) 7 (aB.av aQs)) 8 (aB.av aH9)),⟨(upd aZ 1 (.cells 1 [aB.av t6.s] 0)),64⟩⟩∧aEr iG n_2 t6 aQs aH9=some r) ?_ ?_
 ·
  refine W ?_;obtain ⟨⟨r13,r14⟩,h12,hm⟩:=bnd hm;refine cq (aCi h12) ?_;refine W ?_;refine cm hm (fun hm=>?_) fun hm=>?_
  · refine W ?_;obtain ⟨⟨r16,r17⟩,h15,hm⟩:=bnd hm;refine cq (aBk h15) ?_;refine W ?_;exact Lr (fun j=>bif j==1 then 1 else 0)
  refine W ?_;exact Lr (fun j=>bif j==1 then 1 else 0)
 rintro s ⟨iG,n_2,t6,aQs,aH9,rfl,hm⟩;refine W ?_;refine bU (.agg [vu iG,vi n_2]) ?_;refine aL fV [(bN.mk iG n_2)] ?_;obtain ⟨r7,h6,hm⟩:=bnd hm;refine aW.callL1 (r:=aB.av r7) (id:=68) Zd Z1 bK9 Z3 (.cons (tdl fV Z1 Z3 (by simp) Z6) .nil) (aZi h6) ?_;obtain ⟨r9,h8,hm⟩:=bnd hm;refine W ?_;refine cq (aDc h8) ?_;obtain ⟨r11,h10,hm⟩:=bnd hm;refine cq (aDc h10) ?_;refine pu rfl (by simp only [go_sem,Nat.reduceBEq];exact bJe (aB.cells _)) ?_;exact E
instance:Ct prog 118 (K3 prog tT vu vi tT 118 aDs):=⟨fun hm=>bFf hm⟩
abbrev aDj(rec1:bS→bS→List aN→Int→Int→Option (bS×Bool))(t2:bS)(nB:bS)(t14:List aN)(t15:Int)(t16:Int):Option (bS×Bool):=
 rec1 t2 nB t14 t15 (IntKind.i64.wrap (t16+1))
def aDi(rec1:bS→bS→List aN→Int→Int→Option (bS×Bool))(t2:bS)(nB:bS)(t14:List aN)(t15:Int)(t16:Int):Option (bS×Bool):=
 (bif (decide (t16<t15)) then
  ((idx t14 t16).bind fun x4=>
  (bif (!x4.Used) then
   (bif (x4.Key !=0) then
    some ((bS.mk aB.nil),false)
   else
    aDj rec1 t2 nB t14 t15 t16)
  else
   ((tX nB x4.Key).bind fun ⟨r6,r7⟩=>
   (bif r7 then
    some ((bS.mk aB.nil),false)
   else
    ((aDs nB x4.Key t16).bind fun r9=>
    aDj rec1 t2 r9 t14 t15 t16)))))
 else
  some (nB,true))
def tA:Nat→bS→bS→List aN→Int→Int→Option (bS×Bool)
 |0=>fun _ _ _ _ _=>none
 |n+1=>aDi (tA n)
def lG(l_0:List aN):Option (bS×Bool):=
 ((nC (l_0.length:Int)).bind fun r2=>
 (bif (!r2) then
  some ((bS.mk aB.nil),false)
 else
  tA bC (bS.mk aB.nil) (bS.mk aB.nil) l_0 (l_0.length:Int) 0))
theorem aG1:K1 prog (vl aT) (t2 tT vb) 78 lG:=by
 intro l_0 r hm
 let I1:=((fun m s=> ∃t2 nB t14 t15 t16,s=⟨44,(aE (aE (aE (aE (aE fa 2 (.adr 1 0)) 4 (.adr 2 0)) 14 (vl aT t14)) 15 (vi t15)) 16 (vi t16)),⟨(upd (upd aZ 1 (.cells 1 [aB.av t2.s] 0)) 2 (.cells 1 [aB.av nB.s] 0)),64⟩⟩∧tA m t2 nB t14 t15 t16=some r):Nat→St→Prop)
 exact be 44 func78 (h:=G)
instance:Ct prog 78 (K1 prog (vl aT) (t2 tT vb) 78 lG):=⟨aG1⟩
def vY(l_0:List aN):Option (Bool):=
 ((lG l_0).bind fun ⟨r2,r3⟩=>
 some r3)
theorem aXa:K1 prog (vl aT) vb 77 vY:=fun hm=>be 11 func77 (h:=G)
instance:Ct prog 77 (K1 prog (vl aT) vb 77 vY):=⟨aXa⟩
def aFu(rec1:aC→List aD→Int→Int→Option (Bool))(s_1:aC)(t27:List aD)(t28:Int)(t29:Int):Option (Bool):=
 (bif (decide (t29<t28)) then
  ((idx t27 t29).bind fun x6=>
  ((idx s_1.Slots x6.U).bind fun x8=>
  ((fX ((!x8.Used)==false) (aN.mk false 0) (idx s_1.Slots x6.V)).bind fun x10=>
  (bif ((!x8.Used)||(!x10.Used)) then
   some false
  else
   rec1 s_1 t27 t28 (IntKind.i64.wrap (t29+1))))))
 else
  some true)
def vV:Nat→aC→List aD→Int→Int→Option (Bool)
 |0=>fun _ _ _ _=>none
 |n+1=>aFu (vV n)
def lC(s_0:aC):Option (Bool):=
 ((eC s_0.Graph).bind fun r2=>
 ((fX ((!r2)==false) false (vY s_0.Slots)).bind fun r4=>
 (bif (((!r2)||(!r4))||((s_0.Slots.length:Int) !=s_0.Graph.Config.N)) then
  some false
 else
  vV bC s_0 s_0.Graph.Edges (s_0.Graph.Edges.length:Int) 0)))
theorem aOs:K1 prog dI vb 36 lC:=by
 intro s_0 r hm
 let I1:=((fun m s=> ∃s_1 t27 t28 t29,s=⟨52,(aE (aE (aE (aE fa 1 (.adr 1 0)) 27 (vl aO t27)) 28 (vi t28)) 29 (vi t29)),⟨(upd aZ 1 (.cells 1 [vi s_1.Graph.Config.N,vi s_1.Graph.Config.L,vi s_1.Graph.Config.R,vl bI s_1.Graph.Hashes,vl aO s_1.Graph.Edges,vl aT s_1.Slots] 0)),64⟩⟩∧vV m s_1 t27 t28 t29=some r):Nat→St→Prop)
 exact be 52 func36 (h:=G)
instance:Ct prog 36 (K1 prog dI vb 36 lC):=⟨aOs⟩
def qP(l_0:List aN)(iG:Int):Option (Int×Bool):=
 ((lG l_0).bind fun ⟨r2,r3⟩=>
 (bif (!r3) then
  some (0,false)
 else
  ((tX r2 iG).bind fun ⟨r5,r6⟩=>
  some (r5,r6))))
theorem bA0:K2 prog (vl aT) vu (t2 vi vb) 37 qP:=fun hm=>be 20 func37 (h:=G)
instance:Ct prog 37 (K2 prog (vl aT) vu (t2 vi vb) 37 qP):=⟨bA0⟩
def rD(aYa:Int):Option (Bool):=
 some (((decide (2≤aYa))&&(decide (aYa≤11)))&&(aYa !=10))
theorem aVo:K1 prog vi vb 38 rD:=fun hm=>be 13 func38 (h:=G)
instance:Ct prog 38 (K1 prog vi vb 38 rD):=⟨aVo⟩
def rE(aYa:Int):Option (Bool):=
 some ((((aYa==3)||(aYa==4))||(aYa==5))||(aYa==8))
theorem aVp:K1 prog vi vb 39 rE:=fun hm=>be 17 func39 (h:=G)
instance:Ct prog 39 (K1 prog vi vb 39 rE):=⟨aVp⟩
def uA(s_0:aC)(v_1:Int):Option ((List Int)):=
 ((aCo s_0.Graph.Config.N s_0.Graph.Edges v_1).bind fun r2=>
 some r2)
theorem aYm:K2 prog dI vi (vl (ci .i64)) 83 uA:=fun hm=>be 14 func83 (h:=G)
instance:Ct prog 83 (K2 prog dI vi (vl (ci .i64)) 83 uA):=⟨aYm⟩
def nP(s_0:aC)(v_1:Int):Option (Int):=
 ((uA s_0 v_1).bind fun r2=>
 some (r2.length:Int))
theorem aSl:K2 prog dI vi vi 81 nP:=fun hm=>be 9 func81 (h:=G)
instance:Ct prog 81 (K2 prog dI vi vi 81 nP):=⟨aSl⟩
def fS(x_0:Int):Option (Bool):=
 some (x_0 !=x_0)
theorem aMs:K1 prog vu vb 162 fS:=fun hm=>be 6 func162 (h:=G)
instance:Ct prog 162 (K1 prog vu vb 162 fS):=⟨aMs⟩
def nG(x_0:Int)(y_1:Int):Option (Bool):=
 ((fS x_0).bind fun r2=>
 ((fX (r2==true) false (fS y_1)).bind fun r4=>
 some ((r2&&(!r4))||(decide (x_0<y_1)))))
theorem aG4:K2 prog vu vu vb 199 nG:=fun hm=>be 17 func199 (h:=G)
instance:Ct prog 199 (K2 prog vu vu vb 199 nG):=⟨aG4⟩
def dT(rec1:List Int→Int→Int→Int→Option (List Int))(rec2:List Int→Int→Int→Int→Int→Option (List Int))(bE:List Int)(a_1:Int)(b_2:Int)(i_6:Int)(j_7:Int):Option (List Int):=
 ((fX ((decide (a_1<j_7))==true) 0 (idx bE j_7)).bind fun x2=>
 ((fX ((decide (a_1<j_7))==true) 0 (idx bE (IntKind.i64.wrap (j_7-1)))).bind fun x4=>
 ((fX ((decide (a_1<j_7))==true) false (nG x2 x4)).bind fun r6=>
 (bif ((decide (a_1<j_7))&&r6) then
  ((idx bE (IntKind.i64.wrap (j_7-1))).bind fun x8=>
  ((idx bE j_7).bind fun x10=>
  ((idx bE j_7).bind fun x12=>
  ((stt bE j_7 x8).bind fun l14=>
  ((idx l14 (IntKind.i64.wrap (j_7-1))).bind fun x16=>
  ((stt l14 (IntKind.i64.wrap (j_7-1)) x10).bind fun l18=>
  rec2 l18 a_1 b_2 i_6 (IntKind.i64.wrap (j_7-1))))))))
 else
  rec1 bE a_1 b_2 (IntKind.i64.wrap (i_6+1))))))
def dC(rec1:List Int→Int→Int→Int→Option (List Int)):Nat→List Int→Int→Int→Int→Int→Option (List Int)
 |0=>fun _ _ _ _ _=>none
 |n+1=>dT rec1 (dC rec1 n)
def cO(rec1:List Int→Int→Int→Int→Option (List Int))(bE:List Int)(a_1:Int)(b_2:Int)(i_6:Int):Option (List Int):=
 (bif (decide (i_6<b_2)) then
  dC rec1 bC bE a_1 b_2 i_6 i_6
 else
  some bE)
def bQ:Nat→List Int→Int→Int→Int→Option (List Int)
 |0=>fun _ _ _ _=>none
 |n+1=>cO (bQ n)
def dW(bE:List Int)(a_1:Int)(b_2:Int):Option (List Int):=
 bQ bC bE a_1 b_2 (IntKind.i64.wrap (a_1+1))
theorem tQ{bE:List Int}{a_1:Int}{b_2:Int}{r:List Int}(hm:dW bE a_1 b_2=some r){H:aI}{i0:Nat}(he:H.ent i0= .cells 1 (bE.flatMap (ci .u64)) 0):eI prog 193 [.own i0 0 bE.length,.v (.int .i64 a_1),.v (.int .i64 b_2)] H (.tup []) (H.put i0 (.cells 1 (r.flatMap (ci .u64)) 0)):=by
 refine eI.of_bodyM func193 rfl he ?_;generalize H.ent=h0;simp only [ntmps193,List.length_cons,List.length_nil,Nat.reduceAdd,Nat.reduceSub];unfold dW at hm;refine sN 64 ?_
 iterate 3 refine pA ?_
 refine fs (AWp.block (AWp.loopM (fun m s=> ∃(bE:List Int) (a_1:Int) (b_2:Int) (i_6:Int),s=(⟨49,(aE (aE (aE (aE (fun _=>AV.any) 0 (.own i0 0 bE.length)) 1 (.v (.int .i64 a_1))) 2 (.v (.int .i64 b_2))) 6 (.v (.int .i64 i_6))),⟨(upd h0 i0 (.cells 1 (bE.flatMap (ci .u64)) 0)),64⟩⟩:St)∧bQ m bE a_1 b_2 i_6=some r) bC ?_ ?_ ?_))
 · rintro s ⟨_,_,_,_,_,h⟩;cases h
 · refine ⟨_,?_,bE,a_1,b_2,(IntKind.i64.wrap (a_1+1)),rfl,hm⟩;exact zD (bZ 6 _ Z1 (bZ 2 _ Z1 (bZ 1 _ Z1 (bZ 0 _ (zG Z1 Z6) tE)))) Zc
 ·
  rintro n1 s ⟨bE,a_1,b_2,i_6,rfl,hm⟩;replace hm:cO (bQ n1) bE a_1 b_2 i_6=some r:=hm;unfold cO at hm;refine AWp.seq' (sN 128 ?_)
  iterate 3 refine pA ?_
  refine fs (AWp.condM hm Z1 (fun _ hm=>?_) (fun _ hm=>?_))
  ·
   refine AWp.skip (bJ (AWp.seq' (AWp.block (sN 192 ?_))))
   iterate 2 refine pA ?_
   refine fs (AWp.block (AWp.loopM (fun m s=> ∃(bE:List Int) (a_1:Int) (b_2:Int) (i_6:Int) (j_7:Int),s=(⟨49,(aE (aE (aE (aE (aE (fun _=>AV.any) 0 (.own i0 0 bE.length)) 1 (.v (.int .i64 a_1))) 2 (.v (.int .i64 b_2))) 6 (.v (.int .i64 i_6))) 7 (.v (.int .i64 j_7))),⟨(upd h0 i0 (.cells 1 (bE.flatMap (ci .u64)) 0)),64⟩⟩:St)∧dC (bQ n1) m bE a_1 b_2 i_6 j_7=some r) bC ?_ ?_ ?_))
   · rintro s ⟨_,_,_,_,_,_,h⟩;cases h
   · refine ⟨_,?_,bE,a_1,b_2,i_6,i_6,rfl,hm⟩;exact zD (bZ 7 _ Z1 (bZ 6 _ Z1 (bZ 2 _ Z1 (bZ 1 _ Z1 (bZ 0 _ (zG Z1 Z6) tE))))) Zc
   ·
    rintro n2 s ⟨bE,a_1,b_2,i_6,j_7,rfl,hm⟩;replace hm:dT (bQ n1) (dC (bQ n1) n2) bE a_1 b_2 i_6 j_7=some r:=hm;unfold dT at hm;refine AWp.seq' (sd mix (by kernel_rfl) (N':=128) rfl ?_)
    iterate 6 first|refine pA ?_|refine pB ?_
    obtain ⟨x2,h1,hm⟩:=bnd hm;refine pg rfl rfl Z2 (fun hb=>(fD underlying24 aPi (Zh hb) Za Z6 (Zh hb) (gN h1 hb))) ?_;refine pg rfl rfl Z2 (fun hb=>(oR (CFi .u64) (Zh hb) Za (gN h1 hb) Zb)) ?_
    iterate 3 refine pB ?_
    obtain ⟨x4,h3,hm⟩:=bnd hm;refine pg rfl rfl Z2 (fun hb=>(fD underlying24 aPi (Zh hb) Za Z6 (Zh hb) (gN h3 hb))) ?_;refine pg rfl rfl Z2 (fun hb=>(oR (CFi .u64) (Zh hb) Za (gN h3 hb) Zb)) ?_;obtain ⟨r6,h5,hm⟩:=bnd hm;refine aW.callQG (r:= .v (.bool r6)) Zd rfl Z2 Z1 bUm (fun hb H=>(.cons (td (Zh hb) (.v _)) (.cons (td (Zh hb) (.v _)) .nil))) (fun hb=>aG4 (gN h5 hb)) ?_;refine pA ?_;refine fs (AWp.condM hm Z1 (fun _ hm=>?_) (fun _ hm=>?_))
    ·
     refine AWp.skip (bJ (AWp.seq' (AWp.block (AWp.regD 64 mix (by kernel_rfl) (N':=192) rfl ?_))))
     iterate 8 refine pA ?_
     obtain ⟨x8,h7,hm⟩:=bnd hm;refine pu rfl (fD underlying24 aPi Z1 Za Z6 Z1 h7) ?_;refine pu rfl (oR (CFi .u64) Z1 Za h7 Zb) ?_
     iterate 2 refine pA ?_
     obtain ⟨x10,h9,hm⟩:=bnd hm;refine pu rfl (fD underlying24 aPi Z1 Za Z6 Z1 h9) ?_;refine pu rfl (oR (CFi .u64) Z1 Za h9 Zb) ?_;obtain ⟨x12,h11,hm⟩:=bnd hm;refine pu rfl (fD underlying24 aPi Z1 Za Z6 Z1 h11) ?_;obtain ⟨l14,h13,hm⟩:=bnd hm;have qh13:=lF h13;refine aW.heap0 (id:=143) rfl (aAo (CFi .u64) aPi Z1 Z1 Za rfl h13) ?_;obtain ⟨x16,h15,hm⟩:=bnd hm;refine pu rfl (fD underlying24 aPi Z1 Za Z6 Z1 h15) ?_;obtain ⟨l18,h17,hm⟩:=bnd hm;have qh17:=lF h17;refine aW.heap0 (id:=145) rfl (aAo (CFi .u64) aPi Z1 Z1 Za rfl h17) ?_;refine aW.fin (gZ (bJ (AWp.reg 64 (N':=256) rfl ?_)))
     iterate 3 refine pA ?_
     refine aW.fin (fR ?_);refine ⟨_,?_,l18,a_1,b_2,i_6,(IntKind.i64.wrap (j_7-1)),rfl,hm⟩;exact zD (bZ 7 _ Z1 (bZ 6 _ Z1 (bZ 2 _ Z1 (bZ 1 _ Z1 (bZ 0 _ (zG Z1 Z6) tE))))) Zc
    ·
     refine AWp.exit (iE (gG (gF (gZ (bJ (AWp.reg 64 (N':=192) rfl ?_))))))
     iterate 3 refine pA ?_
     refine aW.fin (fR ?_);refine ⟨_,?_,bE,a_1,b_2,(IntKind.i64.wrap (i_6+1)),rfl,hm⟩;exact zD (bZ 6 _ Z1 (bZ 2 _ Z1 (bZ 1 _ Z1 (bZ 0 _ (zG Z1 Z6) tE)))) Zc
  · refine AWp.exit (iE (gG (gF ?_)));cases hm;exact aUa (.inl rfl) Tryz.results193 Zc
def fL(recf:(List Int)→Int→Int→Int→Option (List Int))(rec1:List Int→Int→Int→Int→Bool→Bool→Option (List Int))(bE:List Int)(a_1:Int)(b_2:Int)(dM:Int)(tC:Bool)(mG:Bool):Option (List Int):=
 (bif (decide ((IntKind.i64.wrap (b_2-a_1))≤12)) then
  ((aGd (fun x=>x.length) bE.length (dW bE a_1 b_2)).bind fun l2=>
  some l2)
 else
  (bif (dM==0) then
   none
  else
   none))
def fN(recf:(List Int)→Int→Int→Int→Option (List Int)):Nat→List Int→Int→Int→Int→Bool→Bool→Option (List Int)
 |0=>fun _ _ _ _ _ _=>none
 |n+1=>fL recf (fN recf n)
def jN(recf:(List Int)→Int→Int→Int→Option (List Int))(bE:List Int)(a_1:Int)(b_2:Int)(dM:Int):Option (List Int):=
 fN recf bC bE a_1 b_2 dM true true
def dA:Nat→(List Int)→Int→Int→Int→Option (List Int)
 |0=>fun _ _ _ _=>none
 |n+1=>jN (dA n)
def gX(bE:List Int)(a_1:Int)(b_2:Int)(dM:Int):Option (List Int):=dA bC bE a_1 b_2 dM
theorem yS: ∀(nn:Nat) {bE:List Int} {a_1:Int} {b_2:Int} {dM:Int} {r:List Int} (hm:dA nn bE a_1 b_2 dM=some r) {H:aI} {i0:Nat} (he:H.ent i0= .cells 1 (bE.flatMap (ci .u64)) 0),eI prog 159 [.own i0 0 bE.length,.v (.int .i64 a_1),.v (.int .i64 b_2),.v (.int .i64 dM)] H (.tup []) (H.put i0 (.cells 1 (r.flatMap (ci .u64)) 0)):=by
 intro nn
 induction nn with
 |zero=>
  intro bE a_1 b_2 dM r hm;replace hm:none=some r:=hm;cases hm
 |succ nn ih=>
  intro bE a_1 b_2 dM r hm H i0 he;replace hm:jN (dA nn) bE a_1 b_2 dM=some r:=hm;refine eI.of_bodyM func159 rfl he ?_;generalize H.ent=h0;simp only [ntmps159,List.length_cons,List.length_nil,Nat.reduceAdd,Nat.reduceSub];unfold jN at hm;refine sN 64 (pA ?_);refine fs (sN 128 (pA ?_));refine fs (AWp.block (AWp.loopM (fun m s=> ∃(bE:List Int) (a_1:Int) (b_2:Int) (dM:Int) (tC:Bool) (mG:Bool),s=(⟨134,(aE (aE (aE (aE (aE (aE (fun _=>AV.any) 0 (.own i0 0 bE.length)) 1 (.v (.int .i64 a_1))) 2 (.v (.int .i64 b_2))) 3 (.v (.int .i64 dM))) 8 (.v (.bool tC))) 9 (.v (.bool mG))),⟨(upd h0 i0 (.cells 1 (bE.flatMap (ci .u64)) 0)),64⟩⟩:St)∧fN (dA nn) m bE a_1 b_2 dM tC mG=some r) bC ?_ ?_ ?_))
  · rintro s ⟨_,_,_,_,_,_,_,h⟩;cases h
  · refine ⟨_,?_,bE,a_1,b_2,dM,true,true,rfl,hm⟩;exact zD (bZ 9 _ Z1 (bZ 8 _ Z1 (bZ 3 _ Z1 (bZ 2 _ Z1 (bZ 1 _ Z1 (bZ 0 _ (zG Z1 Z6) tE)))))) Zc
  ·
   rintro n1 s ⟨bE,a_1,b_2,dM,tC,mG,rfl,hm⟩;replace hm:fL (dA nn) (fN (dA nn) n1) bE a_1 b_2 dM tC mG=some r:=hm;unfold fL at hm;refine AWp.block (sN 128 ?_)
   iterate 4 refine pA ?_
   refine fs (AWp.seq' (sN 192 ?_))
   iterate 2 refine pA ?_
   refine fs (AWp.condM hm Z1 (fun _ hm=>?_) (fun _ hm=>?_))
   ·
    refine sN 256 ?_
    iterate 3 refine pA ?_
    obtain ⟨l2,h1,hm⟩:=bnd hm;have qh1:=aN2 h1;refine aW.callM Zd Z1 bUl ?_ (tQ (aJp h1) (i0:=i0) Za) ?_
    ·
     try simp only [go_sem,Nat.reduceBEq]
     first|done|rfl|(congr 2<;>omega)
    refine fs (AWp.ret (hZ (sK (tG (sK ?_)))));cases hm;exact aUa (.inr rfl) Tryz.results159 Zc
   ·
    refine AWp.skip (bJ (AWp.seq' (sN 256 ?_)))
    iterate 2 refine pA ?_
    refine fs (AWp.condM hm Z1 (fun _ hm=>?_) (fun _ hm=>?_))
    · cases hm
    · cases hm
theorem zR{bE:List Int}{a_1:Int}{b_2:Int}{dM:Int}{r:List Int}(hm:gX bE a_1 b_2 dM=some r){H:aI}{i0:Nat}(he:H.ent i0= .cells 1 (bE.flatMap (ci .u64)) 0):eI prog 159 [.own i0 0 bE.length,.v (.int .i64 a_1),.v (.int .i64 b_2),.v (.int .i64 dM)] H (.tup []) (H.put i0 (.cells 1 (r.flatMap (ci .u64)) 0)):=yS bC hm he
def jB(x_0:List Int):Option (List Int):=
 ((aAd (IntKind.u64.wrap (x_0.length:Int))).bind fun r2=>
 ((aGd (fun x=>x.length) x_0.length (gX x_0 0 (x_0.length:Int) r2)).bind fun l4=>
 some l4))
theorem aK9{x_0:List Int}{r:List Int}(hm:jB x_0=some r){H:aI}{i0:Nat}(he:H.ent i0= .cells 1 (x_0.flatMap (ci .u64)) 0):eI prog 121 [.own i0 0 x_0.length] H (.tup []) (H.put i0 (.cells 1 (r.flatMap (ci .u64)) 0)):=by
 refine eI.of_bodyM func121 rfl he ?_;generalize H.ent=h0;simp only [ntmps121,List.length_cons,List.length_nil,Nat.reduceAdd,Nat.reduceSub];unfold jB at hm;refine sN 64 ?_
 iterate 3 refine pA ?_
 refine fs (AWp.reg 64 (N':=128) rfl ?_)
 iterate 4 refine pA ?_
 obtain ⟨r2,h1,hm⟩:=bnd hm;refine aW.callQ (r:= .v (.int .i64 r2)) Zd Z1 bQq (fun H=>(cV .nil)) (aMo h1) ?_;obtain ⟨l4,h3,hm⟩:=bnd hm;have qh3:=aN2 h3;refine aW.callM Zd Z1 bUi ?_ (zR (aJp h3) (i0:=i0) Za) ?_
 ·
  try simp only [go_sem,Nat.reduceBEq]
  first|done|rfl|(congr 2<;>omega)
 refine aW.fin ?_;cases hm;exact aUa (.inl rfl) Tryz.results121 Zc
abbrev aA0(rec1:aC→List Int→List Int→Int→Int→Option ((List Int)))(s_2:aC)(dO:List Int)(t8:List Int)(t9:Int)(t10:Int):Option ((List Int)):=
 rec1 s_2 dO t8 t9 (IntKind.i64.wrap (t10+1))
def aEx(rec1:aC→List Int→List Int→Int→Int→Option ((List Int)))(s_2:aC)(dO:List Int)(t8:List Int)(t9:Int)(t10:Int):Option ((List Int)):=
 (bif (decide (t10<t9)) then
  ((idx t8 t10).bind fun x2=>
  ((idx s_2.Slots x2).bind fun x4=>
  (bif x4.Used then
   ((idx s_2.Slots x2).bind fun x6=>
   ((app dO [x6.Key]).bind fun l8=>
   aA0 rec1 s_2 l8 t8 t9 t10))
  else
   aA0 rec1 s_2 dO t8 t9 t10)))
 else
  ((aGd (fun x=>x.length) dO.length (jB dO)).bind fun l10=>
  some l10))
def rF:Nat→aC→List Int→List Int→Int→Int→Option ((List Int))
 |0=>fun _ _ _ _ _=>none
 |n+1=>aEx (rF n)
def mJ(s_0:aC)(l_1:List Int):Option ((List Int)):=
 rF bC s_0 [] l_1 (l_1.length:Int) 0
theorem aYl{s_0:aC}{l_1:List Int}{r:(List Int)}(hm:mJ s_0 l_1=some r):bO prog 82 [.agg [vi s_0.Graph.Config.N,vi s_0.Graph.Config.L,vi s_0.Graph.Config.R,vl bI s_0.Graph.Hashes,vl aO s_0.Graph.Edges,vl aT s_0.Slots],vl (ci .i64) l_1] (vl (ci .u64) r):=by
 refine bd 33 func82 ?_;refine W ?_;refine lp (fun m s=> ∃s_2 dO t8 t9 t10,s=⟨33,(aE (aE (aE (aE (aE fa 2 (.adr 1 0)) 5 (.own 2 0 dO.length)) 8 (vl (ci .i64) t8)) 9 (vi t9)) 10 (vi t10)),⟨(upd (upd aZ 1 (.cells 1 [vi s_2.Graph.Config.N,vi s_2.Graph.Config.L,vi s_2.Graph.Config.R,vl bI s_2.Graph.Hashes,vl aO s_2.Graph.Edges,vl aT s_2.Slots] 0)) 2 (.cells 1 (dO.flatMap (ci .u64)) 0)),64⟩⟩∧rF m s_2 dO t8 t9 t10=some r) ?_ ?_
 · refine ⟨_,?_,s_0,[],l_1,(l_1.length:Int),0,rfl,hm⟩;refine St.Le.trans (rQ 5 900005 1 Z1 Z5) ?_;exact cn (fun j=>bif j==1 then 0 else bif j==2 then 900005 else 0)
 rintro n1 s ⟨s_2,dO,t8,t9,t10,rfl,hm⟩;refine W ?_;refine cm hm (fun hm=>?_) fun hm=>?_
 ·
  refine V ?_;refine AWp.seqJ (fun s=> ∃s_2 dO t8 t9 t10,s=⟨33,(aE (aE (aE (aE (aE fa 2 (.adr 1 0)) 5 (.own 2 0 dO.length)) 8 (vl (ci .i64) t8)) 9 (vi t9)) 10 (vi t10)),⟨(upd (upd aZ 1 (.cells 1 [vi s_2.Graph.Config.N,vi s_2.Graph.Config.L,vi s_2.Graph.Config.R,vl bI s_2.Graph.Hashes,vl aO s_2.Graph.Edges,vl aT s_2.Slots] 0)) 2 (.cells 1 (dO.flatMap (ci .u64)) 0)),64⟩⟩∧aA0 (rF n1) s_2 dO t8 t9 t10=some r) ?_ ?_
  ·
   obtain ⟨x2,h1,hm⟩:=bnd hm;obtain ⟨x4,h3,hm⟩:=bnd hm;refine W ?_;refine cm hm (fun hm=>?_) fun hm=>?_
   · have hm:=sb hm h3;refine W ?_;refine aL (CFi .u64) [x4.Key] ?_;obtain ⟨l8,h7,hm⟩:=bnd hm;refine W ?_;exact Lr (fun j=>bif j==1 then 1 else bif j==2 then 264 else 0)
   refine W ?_;exact Lr (fun j=>bif j==1 then 1 else bif j==2 then 2 else 0)
  rintro s ⟨s_2,dO,t8,t9,t10,rfl,hm⟩;refine W ?_;exact Lr (fun j=>bif j==1 then 1 else bif j==2 then 2 else 0)
 obtain ⟨l10,h9,hm⟩:=bnd hm;refine W ?_;have qh9:=aN2 h9;refine aW.callM Zd Z1 bUa Z1 (aK9 (aJp h9) Z3) ?_;exact E
instance:Ct prog 82 (K2 prog dI (vl (ci .i64)) (vl (ci .u64)) 82 mJ):=⟨fun hm=>aYl hm⟩
abbrev zC(rec1:aC→Int→List Int→Int→Int→Option (Int))(s_2:aC)(aH2:Int)(t8:List Int)(t9:Int)(t10:Int):Option (Int):=
 rec1 s_2 aH2 t8 t9 (IntKind.i64.wrap (t10+1))
def zB(rec1:aC→Int→List Int→Int→Int→Option (Int))(s_2:aC)(aH2:Int)(t8:List Int)(t9:Int)(t10:Int):Option (Int):=
 (bif (decide (t10<t9)) then
  ((idx t8 t10).bind fun x2=>
  ((fX ((t10==x2)==true) (aN.mk false 0) (idx s_2.Slots t10)).bind fun x4=>
  (bif ((t10==x2)&&x4.Used) then
   zC rec1 s_2 (IntKind.i64.wrap (aH2+1)) t8 t9 t10
  else
   zC rec1 s_2 aH2 t8 t9 t10)))
 else
  some aH2)
def kL:Nat→aC→Int→List Int→Int→Int→Option (Int)
 |0=>fun _ _ _ _ _=>none
 |n+1=>zB (kL n)
def uX(s_0:aC)(bCa:List Int):Option (Int):=
 kL bC s_0 0 bCa (bCa.length:Int) 0
theorem aQo:K2 prog dI (vl (ci .i64)) vi 85 uX:=by
 intro s_0 bCa r hm
 let I1:=((fun m s=> ∃s_2 aH2 t8 t9 t10,s=⟨30,(aE (aE (aE (aE (aE fa 2 (.adr 1 0)) 5 (vi aH2)) 8 (vl (ci .i64) t8)) 9 (vi t9)) 10 (vi t10)),⟨(upd aZ 1 (.cells 1 [vi s_2.Graph.Config.N,vi s_2.Graph.Config.L,vi s_2.Graph.Config.R,vl bI s_2.Graph.Hashes,vl aO s_2.Graph.Edges,vl aT s_2.Slots] 0)),64⟩⟩∧kL m s_2 aH2 t8 t9 t10=some r):Nat→St→Prop)
 exact be 30 func85 (h:=G)
instance:Ct prog 85 (K2 prog dI (vl (ci .i64)) vi 85 uX):=⟨aQo⟩
def dR(oU:(aG→aG→Option (Int)))(rec1:List aG→Int→Int→Int→Option (List aG))(rec2:List aG→Int→Int→Int→Int→Option (List aG))(bE:List aG)(a_1:Int)(b_2:Int)(i_8:Int)(j_9:Int):Option (List aG):=
 ((fX ((decide (a_1<j_9))==true) (aG.mk 0 0) (idx bE j_9)).bind fun x2=>
 ((fX ((decide (a_1<j_9))==true) (aG.mk 0 0) (idx bE (IntKind.i64.wrap (j_9-1)))).bind fun x4=>
 ((fX ((decide (a_1<j_9))==true) 0 (oU x2 x4)).bind fun r6=>
 (bif ((decide (a_1<j_9))&&(decide (r6<0))) then
  ((idx bE (IntKind.i64.wrap (j_9-1))).bind fun x8=>
  ((idx bE j_9).bind fun x10=>
  ((idx bE j_9).bind fun x12=>
  ((stt bE j_9 x8).bind fun l14=>
  ((idx l14 (IntKind.i64.wrap (j_9-1))).bind fun x16=>
  ((stt l14 (IntKind.i64.wrap (j_9-1)) x10).bind fun l18=>
  rec2 l18 a_1 b_2 i_8 (IntKind.i64.wrap (j_9-1))))))))
 else
  rec1 bE a_1 b_2 (IntKind.i64.wrap (i_8+1))))))
def dB(oU:(aG→aG→Option (Int)))(rec1:List aG→Int→Int→Int→Option (List aG)):Nat→List aG→Int→Int→Int→Int→Option (List aG)
 |0=>fun _ _ _ _ _=>none
 |n+1=>dR oU rec1 (dB oU rec1 n)
def cN(oU:(aG→aG→Option (Int)))(rec1:List aG→Int→Int→Int→Option (List aG))(bE:List aG)(a_1:Int)(b_2:Int)(i_8:Int):Option (List aG):=
 (bif (decide (i_8<b_2)) then
  dB oU rec1 bC bE a_1 b_2 i_8 i_8
 else
  some bE)
def bP(oU:(aG→aG→Option (Int))):Nat→List aG→Int→Int→Int→Option (List aG)
 |0=>fun _ _ _ _=>none
 |n+1=>cN oU (bP oU n)
def dV(bE:List aG)(a_1:Int)(b_2:Int)(oU:(aG→aG→Option (Int))):Option (List aG):=
 bP oU bC bE a_1 b_2 (IntKind.i64.wrap (a_1+1))
theorem tP{bE:List aG}{a_1:Int}{b_2:Int}{oU:(aG→aG→Option (Int))}{r:List aG}(hm:dV bE a_1 b_2 oU=some r){aL0:FuncId}{aDq:List AV}(bC0: ∀a,a∈aDq→AM.Data a)(bKp:(Program.funcs prog)[aL0]?.any (fun fn=>fn.body.isSome&&fn.name != "runtime.NumGoroutine")=true)(bKr: ∀ {x0 x1 r},oU x0 x1=some r→bO prog aL0 ([.agg [.v (.int .u64 x0.x0),.v (.int .u64 x0.x1)],.agg [.v (.int .u64 x1.x0),.v (.int .u64 x1.x1)]]++aDq) (.v (.int .i64 r))){H:aI}{i0:Nat}(he:H.ent i0= .cells 2 (bE.flatMap fO) 0):eI prog 204 [.own i0 0 bE.length,.v (.int .i64 a_1),.v (.int .i64 b_2),.clo (.func aL0) [] aDq] H (.tup []) (H.put i0 (.cells 2 (r.flatMap fO) 0)):=by
 refine eI.of_bodyM func204 rfl he ?_;generalize H.ent=h0;simp only [ntmps204,List.length_cons,List.length_nil,Nat.reduceAdd,Nat.reduceSub];unfold dV at hm;refine sN 64 ?_
 iterate 3 refine pA ?_
 refine fs (AWp.block (AWp.loopM (fun m s=> ∃(bE:List aG) (a_1:Int) (b_2:Int) (i_8:Int),s=(⟨53,(aE (aE (aE (aE (aE (fun _=>AV.any) 0 (.own i0 0 bE.length)) 1 (.v (.int .i64 a_1))) 2 (.v (.int .i64 b_2))) 3 (.clo (.func aL0) [] aDq)) 8 (.v (.int .i64 i_8))),⟨(upd h0 i0 (.cells 2 (bE.flatMap fO) 0)),64⟩⟩:St)∧bP oU m bE a_1 b_2 i_8=some r) bC ?_ ?_ ?_))
 · rintro s ⟨_,_,_,_,_,h⟩;cases h
 · refine ⟨_,?_,bE,a_1,b_2,(IntKind.i64.wrap (a_1+1)),rfl,hm⟩;exact zD (bZ 8 _ Z1 (bZ 3 _ Z1 (bZ 2 _ Z1 (bZ 1 _ Z1 (bZ 0 _ (zG Z1 Z6) tE))))) Zc
 ·
  rintro n1 s ⟨bE,a_1,b_2,i_8,rfl,hm⟩;replace hm:cN oU (bP oU n1) bE a_1 b_2 i_8=some r:=hm;unfold cN at hm;refine AWp.seq' (sN 128 ?_)
  iterate 3 refine pA ?_
  refine fs (AWp.condM hm Z1 (fun _ hm=>?_) (fun _ hm=>?_))
  ·
   refine AWp.skip (bJ (AWp.seq' (AWp.block (sN 192 ?_))))
   iterate 2 refine pA ?_
   refine fs (AWp.block (AWp.loopM (fun m s=> ∃(bE:List aG) (a_1:Int) (b_2:Int) (i_8:Int) (j_9:Int),s=(⟨53,(aE (aE (aE (aE (aE (aE (fun _=>AV.any) 0 (.own i0 0 bE.length)) 1 (.v (.int .i64 a_1))) 2 (.v (.int .i64 b_2))) 3 (.clo (.func aL0) [] aDq)) 8 (.v (.int .i64 i_8))) 9 (.v (.int .i64 j_9))),⟨(upd h0 i0 (.cells 2 (bE.flatMap fO) 0)),64⟩⟩:St)∧dB oU (bP oU n1) m bE a_1 b_2 i_8 j_9=some r) bC ?_ ?_ ?_))
   · rintro s ⟨_,_,_,_,_,_,h⟩;cases h
   · refine ⟨_,?_,bE,a_1,b_2,i_8,i_8,rfl,hm⟩;exact zD (bZ 9 _ Z1 (bZ 8 _ Z1 (bZ 3 _ Z1 (bZ 2 _ Z1 (bZ 1 _ Z1 (bZ 0 _ (zG Z1 Z6) tE)))))) Zc
   ·
    rintro n2 s ⟨bE,a_1,b_2,i_8,j_9,rfl,hm⟩;replace hm:dR oU (bP oU n1) (dB oU (bP oU n1) n2) bE a_1 b_2 i_8 j_9=some r:=hm;unfold dR at hm;refine AWp.seq' (sd mix (by kernel_rfl) (N':=128) rfl ?_)
    iterate 7 first|refine pA ?_|refine pB ?_
    obtain ⟨x2,h1,hm⟩:=bnd hm;refine pg rfl rfl Z2 (fun hb=>(fD underlying157 aM6 (Zh hb) Za Z6 (Zh hb) (gN h1 hb))) ?_;refine pg rfl rfl Z2 (fun hb=>(oR jI (Zh hb) Za (gN h1 hb) Zb)) ?_
    iterate 3 refine pB ?_
    obtain ⟨x4,h3,hm⟩:=bnd hm;refine pg rfl rfl Z2 (fun hb=>(fD underlying157 aM6 (Zh hb) Za Z6 (Zh hb) (gN h3 hb))) ?_;refine pg rfl rfl Z2 (fun hb=>(oR jI (Zh hb) Za (gN h3 hb) Zb)) ?_;obtain ⟨r6,h5,hm⟩:=bnd hm;refine aW.callQCG (r:= .v (.int .i64 r6)) Zd rfl Z2 (fun hb=>(Zh hb)) bC0 bKp (fun hb H=>(.cons (td (Zh hb) (.agg _ (jI.dat _))) (.cons (td (Zh hb) (.agg _ (jI.dat _))) .nil))) (fun hb=>bKr (gN h5 hb)) ?_
    iterate 2 first|refine pA ?_|refine pB ?_
    refine fs (AWp.condM hm Z1 (fun _ hm=>?_) (fun _ hm=>?_))
    ·
     refine AWp.skip (bJ (AWp.seq' (AWp.block (AWp.regD 64 mix (by kernel_rfl) (N':=192) rfl ?_))))
     iterate 8 refine pA ?_
     obtain ⟨x8,h7,hm⟩:=bnd hm;refine pu rfl (fD underlying157 aM6 Z1 Za Z6 Z1 h7) ?_;refine pu rfl (oR jI Z1 Za h7 Zb) ?_
     iterate 2 refine pA ?_
     obtain ⟨x10,h9,hm⟩:=bnd hm;refine pu rfl (fD underlying157 aM6 Z1 Za Z6 Z1 h9) ?_;refine pu rfl (oR jI Z1 Za h9 Zb) ?_;obtain ⟨x12,h11,hm⟩:=bnd hm;refine pu rfl (fD underlying157 aM6 Z1 Za Z6 Z1 h11) ?_;obtain ⟨l14,h13,hm⟩:=bnd hm;have qh13:=lF h13;refine aW.heap0 (id:=143) rfl (aAo jI aM6 Z1 Z1 Za rfl h13) ?_;obtain ⟨x16,h15,hm⟩:=bnd hm;refine pu rfl (fD underlying157 aM6 Z1 Za Z6 Z1 h15) ?_;obtain ⟨l18,h17,hm⟩:=bnd hm;have qh17:=lF h17;refine aW.heap0 (id:=145) rfl (aAo jI aM6 Z1 Z1 Za rfl h17) ?_;refine aW.fin (gZ (bJ (AWp.reg 64 (N':=256) rfl ?_)))
     iterate 3 refine pA ?_
     refine aW.fin (fR ?_);refine ⟨_,?_,l18,a_1,b_2,i_8,(IntKind.i64.wrap (j_9-1)),rfl,hm⟩;exact zD (bZ 9 _ Z1 (bZ 8 _ Z1 (bZ 3 _ Z1 (bZ 2 _ Z1 (bZ 1 _ Z1 (bZ 0 _ (zG Z1 Z6) tE)))))) Zc
    ·
     refine AWp.exit (iE (gG (gF (gZ (bJ (AWp.reg 64 (N':=192) rfl ?_))))))
     iterate 3 refine pA ?_
     refine aW.fin (fR ?_);refine ⟨_,?_,bE,a_1,b_2,(IntKind.i64.wrap (i_8+1)),rfl,hm⟩;exact zD (bZ 8 _ Z1 (bZ 3 _ Z1 (bZ 2 _ Z1 (bZ 1 _ Z1 (bZ 0 _ (zG Z1 Z6) tE))))) Zc
  · refine AWp.exit (iE (gG (gF ?_)));cases hm;exact aUa (.inl rfl) Tryz.results204 Zc
def fJ(tW:(aG→aG→Option (Int)))(recf:(List aG)→Int→Int→Int→((aG→aG→Option (Int)))→Option (List aG))(rec1:List aG→Int→Int→Int→Bool→Bool→Option (List aG))(bE:List aG)(a_1:Int)(b_2:Int)(dM:Int)(qQ:Bool)(lH:Bool):Option (List aG):=
 (bif (decide ((IntKind.i64.wrap (b_2-a_1))≤12)) then
  ((aGd (fun x=>x.length) bE.length (dV bE a_1 b_2 tW)).bind fun l2=>
  some l2)
 else
  (bif (dM==0) then
   none
  else
   none))
def fK(tW:(aG→aG→Option (Int)))(recf:(List aG)→Int→Int→Int→((aG→aG→Option (Int)))→Option (List aG)):Nat→List aG→Int→Int→Int→Bool→Bool→Option (List aG)
 |0=>fun _ _ _ _ _ _=>none
 |n+1=>fJ tW recf (fK tW recf n)
def jM(recf:(List aG)→Int→Int→Int→((aG→aG→Option (Int)))→Option (List aG))(bE:List aG)(a_1:Int)(b_2:Int)(dM:Int)(tW:(aG→aG→Option (Int))):Option (List aG):=
 fK tW recf bC bE a_1 b_2 dM true true
def cZ:Nat→(List aG)→Int→Int→Int→(aG→aG→Option (Int))→Option (List aG)
 |0=>fun _ _ _ _ _=>none
 |n+1=>jM (cZ n)
def gV(bE:List aG)(a_1:Int)(b_2:Int)(dM:Int)(tW:(aG→aG→Option (Int))):Option (List aG):=cZ bC bE a_1 b_2 dM tW
theorem yR: ∀(nn:Nat) {bE:List aG} {a_1:Int} {b_2:Int} {dM:Int} {tW:(aG→aG→Option (Int))} {r:List aG} (hm:cZ nn bE a_1 b_2 dM tW=some r) {zZ:FuncId} {qW:List AV} (aEw: ∀a,a∈qW→AM.Data a) (aL4:(Program.funcs prog)[zZ]?.any (fun fn=>fn.body.isSome&&fn.name != "runtime.NumGoroutine")=true) (aL5: ∀ {x0 x1 r},tW x0 x1=some r→bO prog zZ ([.agg [.v (.int .u64 x0.x0),.v (.int .u64 x0.x1)],.agg [.v (.int .u64 x1.x0),.v (.int .u64 x1.x1)]]++qW) (.v (.int .i64 r))) {H:aI} {i0:Nat} (he:H.ent i0= .cells 2 (bE.flatMap fO) 0),eI prog 161 [.own i0 0 bE.length,.v (.int .i64 a_1),.v (.int .i64 b_2),.v (.int .i64 dM),.clo (.func zZ) [] qW] H (.tup []) (H.put i0 (.cells 2 (r.flatMap fO) 0)):=by
 intro nn
 induction nn with
 |zero=>
  intro bE a_1 b_2 dM tW r hm;replace hm:none=some r:=hm;cases hm
 |succ nn ih=>
  intro bE a_1 b_2 dM tW r hm zZ qW aEw aL4 aL5 H i0 he;replace hm:jM (cZ nn) bE a_1 b_2 dM tW=some r:=hm;refine eI.of_bodyM func161 rfl he ?_;generalize H.ent=h0;simp only [ntmps161,List.length_cons,List.length_nil,Nat.reduceAdd,Nat.reduceSub];unfold jM at hm;refine sN 64 (pA ?_);refine fs (sN 128 (pA ?_));refine fs (AWp.block (AWp.loopM (fun m s=> ∃(bE:List aG) (a_1:Int) (b_2:Int) (dM:Int) (qQ:Bool) (lH:Bool),s=(⟨148,(aE (aE (aE (aE (aE (aE (aE (fun _=>AV.any) 0 (.own i0 0 bE.length)) 1 (.v (.int .i64 a_1))) 2 (.v (.int .i64 b_2))) 3 (.v (.int .i64 dM))) 4 (.clo (.func zZ) [] qW)) 10 (.v (.bool qQ))) 11 (.v (.bool lH))),⟨(upd h0 i0 (.cells 2 (bE.flatMap fO) 0)),64⟩⟩:St)∧fK tW (cZ nn) m bE a_1 b_2 dM qQ lH=some r) bC ?_ ?_ ?_))
  · rintro s ⟨_,_,_,_,_,_,_,h⟩;cases h
  · refine ⟨_,?_,bE,a_1,b_2,dM,true,true,rfl,hm⟩;exact zD (bZ 11 _ Z1 (bZ 10 _ Z1 (bZ 4 _ Z1 (bZ 3 _ Z1 (bZ 2 _ Z1 (bZ 1 _ Z1 (bZ 0 _ (zG Z1 Z6) tE))))))) Zc
  ·
   rintro n1 s ⟨bE,a_1,b_2,dM,qQ,lH,rfl,hm⟩;replace hm:fJ tW (cZ nn) (fK tW (cZ nn) n1) bE a_1 b_2 dM qQ lH=some r:=hm;unfold fJ at hm;refine AWp.block (sN 128 ?_)
   iterate 4 refine pA ?_
   refine fs (AWp.seq' (sN 192 ?_))
   iterate 2 refine pA ?_
   refine fs (AWp.condM hm Z1 (fun _ hm=>?_) (fun _ hm=>?_))
   ·
    refine sN 256 ?_
    iterate 4 refine pA ?_
    obtain ⟨l2,h1,hm⟩:=bnd hm;have qh1:=aN2 h1;refine aW.callM Zd Z1 bUn ?_ (tP (aJp h1) aEw aL4 aL5 (i0:=i0) Za) ?_
    ·
     try simp only [go_sem,Nat.reduceBEq]
     first|done|rfl|(congr 2<;>omega)
    refine fs (AWp.ret (hZ (sK (tG (sK ?_)))));cases hm;exact aUa (.inr rfl) Tryz.results161 Zc
   ·
    refine AWp.skip (bJ (AWp.seq' (sN 256 ?_)))
    iterate 2 refine pA ?_
    refine fs (AWp.condM hm Z1 (fun _ hm=>?_) (fun _ hm=>?_))
    · cases hm
    · cases hm
theorem zQ{bE:List aG}{a_1:Int}{b_2:Int}{dM:Int}{tW:(aG→aG→Option (Int))}{r:List aG}(hm:gV bE a_1 b_2 dM tW=some r){zZ:FuncId}{qW:List AV}(aEw: ∀a,a∈qW→AM.Data a)(aL4:(Program.funcs prog)[zZ]?.any (fun fn=>fn.body.isSome&&fn.name != "runtime.NumGoroutine")=true)(aL5: ∀ {x0 x1 r},tW x0 x1=some r→bO prog zZ ([.agg [.v (.int .u64 x0.x0),.v (.int .u64 x0.x1)],.agg [.v (.int .u64 x1.x0),.v (.int .u64 x1.x1)]]++qW) (.v (.int .i64 r))){H:aI}{i0:Nat}(he:H.ent i0= .cells 2 (bE.flatMap fO) 0):eI prog 161 [.own i0 0 bE.length,.v (.int .i64 a_1),.v (.int .i64 b_2),.v (.int .i64 dM),.clo (.func zZ) [] qW] H (.tup []) (H.put i0 (.cells 2 (r.flatMap fO) 0)):=yR bC hm aEw aL4 aL5 he
def gO(x_0:List aG)(bDg:(aG→aG→Option (Int))):Option (List aG):=
 ((aAd (IntKind.u64.wrap (x_0.length:Int))).bind fun r2=>
 ((aGd (fun x=>x.length) x_0.length (gV x_0 0 (x_0.length:Int) r2 bDg)).bind fun l4=>
 some l4))
theorem aFt{x_0:List aG}{bDg:(aG→aG→Option (Int))}{r:List aG}(hm:gO x_0 bDg=some r){aVe:FuncId}{aMr:List AV}(bBz: ∀a,a∈aMr→AM.Data a)(bKo:(Program.funcs prog)[aVe]?.any (fun fn=>fn.body.isSome&&fn.name != "runtime.NumGoroutine")=true)(bKq: ∀ {x0 x1 r},bDg x0 x1=some r→bO prog aVe ([.agg [.v (.int .u64 x0.x0),.v (.int .u64 x0.x1)],.agg [.v (.int .u64 x1.x0),.v (.int .u64 x1.x1)]]++aMr) (.v (.int .i64 r))){H:aI}{i0:Nat}(he:H.ent i0= .cells 2 (x_0.flatMap fO) 0):eI prog 123 [.own i0 0 x_0.length,.clo (.func aVe) [] aMr] H (.tup []) (H.put i0 (.cells 2 (r.flatMap fO) 0)):=by
 refine eI.of_bodyM func123 rfl he ?_;generalize H.ent=h0;simp only [ntmps123,List.length_cons,List.length_nil,Nat.reduceAdd,Nat.reduceSub];unfold gO at hm;refine sN 64 ?_
 iterate 3 refine pA ?_
 refine fs (AWp.reg 64 (N':=128) rfl ?_)
 iterate 4 refine pA ?_
 obtain ⟨r2,h1,hm⟩:=bnd hm;refine aW.callQ (r:= .v (.int .i64 r2)) Zd Z1 bQq (fun H=>(cV .nil)) (aMo h1) ?_;refine pA ?_;obtain ⟨l4,h3,hm⟩:=bnd hm;have qh3:=aN2 h3;refine aW.callM Zd Z1 bUj ?_ (zQ (aJp h3) bBz bKo bKq (i0:=i0) Za) ?_
 ·
  try simp only [go_sem,Nat.reduceBEq]
  first|done|rfl|(congr 2<;>omega)
 refine aW.fin ?_;cases hm;exact aUa (.inl rfl) Tryz.results123 Zc
def iW(x_0:Int)(y_1:Int):Option (Int):=
 ((fS x_0).bind fun r2=>
 ((fS y_1).bind fun r4=>
 (bif r2 then
  (bif r4 then
   some 0
  else
   some (-1))
 else
  (bif r4 then
   some 1
  else
   (bif (decide (x_0<y_1)) then
    some (-1)
   else
    (bif (decide (y_1<x_0)) then
     some 1
    else
     some 0))))))
theorem tI:K2 prog vu vu vi 126 iW:=fun hm=>be 20 func126 (h:=G)
instance:Ct prog 126 (K2 prog vu vu vi 126 iW):=⟨tI⟩
def oT(rec1:Int→List Int→Int→Int→Option (Int))(aNm:Int)(t6:List Int)(t7:Int)(t8:Int):Option (Int):=
 (bif (decide (t8<t7)) then
  ((idx t6 t8).bind fun x2=>
  (bif (x2 !=aNm) then
   some x2
  else
   rec1 aNm t6 t7 (IntKind.i64.wrap (t8+1))))
 else
  some aNm)
def tV:Nat→Int→List Int→Int→Int→Option (Int)
 |0=>fun _ _ _ _=>none
 |n+1=>oT (tV n)
def aAs(bD1:List Int):Option (Int):=
 tV bC 0 bD1 (bD1.length:Int) 0
theorem aQc:K1 prog (vl (ci .i64)) vi 125 aAs:=by
 intro bD1 r hm
 let I1:=((fun m s=> ∃aNm t6 t7 t8,s=⟨18,(aE (aE (aE (aE fa 3 (vi aNm)) 6 (vl (ci .i64) t6)) 7 (vi t7)) 8 (vi t8)),⟨aZ,64⟩⟩∧tV m aNm t6 t7 t8=some r):Nat→St→Prop)
 exact be 18 func125 (h:=G)
instance:Ct prog 125 (K1 prog (vl (ci .i64)) vi 125 aAs):=⟨aQc⟩
def kM(p_0:aG)(q_1:aG):Option (Int):=
 ((iW p_0.x0 q_1.x0).bind fun r2=>
 ((iW p_0.x1 q_1.x1).bind fun r4=>
 ((aAs [r2,r4]).bind fun r6=>
 some r6)))
theorem aG6{p_0:aG}{q_1:aG}{r:Int}(hm:kM p_0 q_1=some r):bO prog 124 [.agg [vu p_0.x0,vu p_0.x1],.agg [vu q_1.x0,vu q_1.x1]] (vi r):=by
 refine bd 17 func124 ?_;obtain ⟨r2,h1,hm⟩:=bnd hm;refine W ?_;refine cq (tI h1) ?_;obtain ⟨r4,h3,hm⟩:=bnd hm;refine W ?_;refine cq (tI h3) ?_;refine aL (CFi .i64) [r2,r4] ?_;obtain ⟨r6,h5,hm⟩:=bnd hm;refine aW.callB (r:= .v (.int .i64 r6)) Zd Z1 bUd (.cons (lto (CFi .i64) Z1 Z3 Z6) aXe.nil) bR6 (aQc h5) ?_;exact E
instance:Ct prog 124 (K2 prog aUn aUn vi 124 kM):=⟨fun hm=>aG6 hm⟩
def aB5(rec1:aC→List aG→List aD→Int→Int→Option ((List aG)))(s_1:aC)(aCd:List aG)(t19:List aD)(t20:Int)(t21:Int):Option ((List aG)):=
 (bif (decide (t21<t20)) then
  ((idx t19 t21).bind fun x4=>
  ((idx s_1.Slots x4.U).bind fun x6=>
  ((idx s_1.Slots x4.V).bind fun x8=>
  ((app aCd [(aG.mk (if x8.Key<x6.Key then x8.Key else x6.Key) (if x6.Key<x8.Key then x8.Key else x6.Key))]).bind fun l10=>
  rec1 s_1 l10 t19 t20 (IntKind.i64.wrap (t21+1))))))
 else
  ((aGd (fun x=>x.length) aCd.length (gO aCd (fun x0 x1=>kM x0 x1))).bind fun l12=>
  some l12))
def oY:Nat→aC→List aG→List aD→Int→Int→Option ((List aG))
 |0=>fun _ _ _ _ _=>none
 |n+1=>aB5 (oY n)
def xL(s_0:aC):Option ((List aG)):=
 ((gU s_0.Graph.Config.N s_0.Graph.Edges s_0.Graph.Config.L).bind fun r2=>
 oY bC s_0 [] r2 (r2.length:Int) 0)
theorem aSm{s_0:aC}{r:(List aG)}(hm:xL s_0=some r):bO prog 86 [.agg [vi s_0.Graph.Config.N,vi s_0.Graph.Config.L,vi s_0.Graph.Config.R,vl bI s_0.Graph.Hashes,vl aO s_0.Graph.Edges,vl aT s_0.Slots]] (vl fO r):=by
 refine bd 53 func86 ?_;obtain ⟨r2,h1,hm⟩:=bnd hm;refine W ?_;refine cq (aDg h1) ?_;refine W ?_;refine lp (fun m s=> ∃s_1 aCd t19 t20 t21,s=⟨53,(aE (aE (aE (aE (aE fa 1 (.adr 1 0)) 4 (.own 2 0 aCd.length)) 19 (vl aO t19)) 20 (vi t20)) 21 (vi t21)),⟨(upd (upd aZ 1 (.cells 1 [vi s_1.Graph.Config.N,vi s_1.Graph.Config.L,vi s_1.Graph.Config.R,vl bI s_1.Graph.Hashes,vl aO s_1.Graph.Edges,vl aT s_1.Slots] 0)) 2 (.cells 2 (aCd.flatMap fO) 0)),64⟩⟩∧oY m s_1 aCd t19 t20 t21=some r) ?_ ?_
 · refine ⟨_,?_,s_0,[],r2,(r2.length:Int),0,rfl,hm⟩;refine St.Le.trans (rQ 4 900004 2 Z1 Z5) ?_;exact cn (fun j=>bif j==1 then 0 else bif j==2 then 900004 else 0)
 rintro n1 s ⟨s_1,aCd,t19,t20,t21,rfl,hm⟩;refine W ?_;refine cm hm (fun hm=>?_) fun hm=>?_
 · obtain ⟨x4,h3,hm⟩:=bnd hm;obtain ⟨x6,h5,hm⟩:=bnd hm;obtain ⟨x8,h7,hm⟩:=bnd hm;refine W ?_;refine bU (.agg [.v (.int .u64 (if x8.Key<x6.Key then x8.Key else x6.Key)),.v (.int .u64 (if x6.Key<x8.Key then x8.Key else x6.Key))]) ?_;refine aL jI [(aG.mk (if x8.Key<x6.Key then x8.Key else x6.Key) (if x6.Key<x8.Key then x8.Key else x6.Key))] ?_;obtain ⟨l10,h9,hm⟩:=bnd hm;refine W ?_;exact Lr (fun j=>bif j==1 then 1 else bif j==2 then 265 else 0)
 obtain ⟨l12,h11,hm⟩:=bnd hm;refine W ?_;have qh11:=aN2 h11;refine aW.callM Zd Z1 bUb Z1 (aFt (aJp h11) aGr bUc (fun h=>aG6 h) Z3) ?_;exact E
instance:Ct prog 86 (K1 prog dI (vl fO) 86 xL):=⟨fun hm=>aSm hm⟩
def aKb(rec1:ByteArray→Int→Int→Option (Int))(b_0:ByteArray)(aZo:Int)(i_4:Int):Option (Int):=
 (bif (decide (i_4<(b_0.size:Int))) then
  ((aE1 aZo 257).bind fun r2=>
  ((aPh b_0 i_4).bind fun b4=>
  ((aE0 r2 (IntKind.u64.wrap ((IntKind.u64.wrap b4)+1))).bind fun r6=>
  rec1 b_0 r6 (IntKind.i64.wrap (i_4+1)))))
 else
  some aZo)
def aBp:Nat→ByteArray→Int→Int→Option (Int)
 |0=>fun _ _ _=>none
 |n+1=>aKb (aBp n)
def aId(b_0:ByteArray):Option (Int):=
 aBp bC b_0 1 0
theorem aUe:K1 prog vs vu 43 aId:=by
 intro b_0 r hm
 let I1:=((fun m s=> ∃b_0 aZo i_4,s=⟨20,(aE (aE (aE fa 0 (.v (.string b_0))) 3 (vu aZo)) 4 (vi i_4)),⟨aZ,64⟩⟩∧aBp m b_0 aZo i_4=some r):Nat→St→Prop)
 exact be 20 func43 (h:=G)
instance:Ct prog 43 (K1 prog vs vu 43 aId):=⟨aUe⟩
attribute [local semireducible] bC
end Go.Proofs.YtkdohhmacfoolaaGreatDoor
