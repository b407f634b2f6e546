/- Facts. No condition. -/
import Derived.Test.YtkdohhmacfoolaaGreatDoorOaSnP
import Derived.Test.YtkdohhmacfoolaaGreatDoorOaDi
set_option linter.unusedVariables false
set_option linter.unusedSimpArgs false
set_option maxRecDepth 20000
set_option maxHeartbeats 4000000
namespace Go.Proofs.YtkdohhmacfoolaaGreatDoor
open Go.Proofs.Tryz Go Go.AM
attribute [local irreducible] aZ
structure bX where
 Key:Int
 N:Int
deriving DecidableEq
def rS(e:bX):List AV:=[.v (.int .u64 e.Key),.v (.int .i64 e.N)]
theorem dV:CF rS 2:=⟨fun _=>rfl,fun a x hx=>by
 simp only [rS,List.mem_cons,List.not_mem_nil,or_false] at hx;rcases hx with rfl|rfl
 · exact (.v _)
 · exact (.v _),fun _=>rfl⟩
instance:CC rS 2:=⟨dV⟩
abbrev wZ(e:bX):AV:= .agg [.v (.int .u64 e.Key),vi e.N]
@[go_sem] theorem aKu(e:bX)(r:List AV):rS e++r= .v (.int .u64 e.Key):: .v (.int .i64 e.N)::r:=rfl
inductive aB where
 |nil
 |mk (ahead:aB) (behind:aB) (thing:bX) (height:Int) (size:Int)
def aB.ahead:aB→aB
 | .nil=>aB.nil
 | .mk ahead behind thing height size=>ahead
def aB.behind:aB→aB
 | .nil=>aB.nil
 | .mk ahead behind thing height size=>behind
def aB.thing:aB→bX
 | .nil=>(bX.mk 0 0)
 | .mk ahead behind thing height size=>thing
def aB.height:aB→Int
 | .nil=>0
 | .mk ahead behind thing height size=>height
def aB.size:aB→Int
 | .nil=>0
 | .mk ahead behind thing height size=>size
def aB.nn:aB→Bool
 | .nil=>false
 | .mk _ _ _ _ _=>true
def aB.av:aB→AV
 | .nil=> .v (.pointer none)
 | .mk ahead behind thing height size=> .ptr [ahead.av,behind.av,.v (.int .u64 thing.Key),.v (.int .i64 thing.N),.v (.int .i64 height),.v (.int .i64 size)]
theorem aB.data:(e:aB)→AM.Data e.av
 | .nil=> .v _
 | .mk ahead behind thing height size=> .ptr _ (fun a hx=>by
  simp only [List.mem_cons,List.not_mem_nil,or_false] at hx;rcases hx with rfl|rfl|rfl|rfl|rfl|rfl
  · exact ahead.data
  · exact behind.data
  · exact (.v _)
  · exact (.v _)
  · exact (.v _)
  · exact (.v _))
theorem aB.av_nn{e:aB}(h:e.nn=true):e.av= .ptr [aB.av e.ahead,aB.av e.behind,.v (.int .u64 e.thing.Key),.v (.int .i64 e.thing.N),.v (.int .i64 e.height),.v (.int .i64 e.size)]:=by
 cases e with
 |nil=>cases h
 |mk ahead behind thing height size=>rfl
theorem aB.isn(e:aB):((!e.nn)=true∧e.av= .v (.pointer none))∨((!e.nn)=false∧ ∃xs,e.av= .ptr xs):=by
 cases e with
 |nil=>exact .inl ⟨rfl,rfl⟩
 |mk ahead behind thing height size=>exact .inr ⟨rfl,_,rfl⟩
theorem aB.cells(e:aB):e.av.cells? =some [e.av]:=by cases e<;>rfl
theorem aB.one(e:aB):e.av.one=true:=by cases e<;>rfl
structure bK where
 s:aB
def vD(e:bK):List AV:=[aB.av e.s]
theorem xI:CF vD 1:=⟨fun _=>rfl,fun a x hx=>by
 simp only [vD,List.mem_cons,List.not_mem_nil,or_false] at hx;rcases hx with rfl
 · exact (aB.data a.s),fun e=>by unfold vD;simp only [List.all_cons,List.all_nil,Bool.and_true,aB.one];try rfl⟩
instance:CC vD 1:=⟨xI⟩
abbrev oY(e:bK):AV:= .agg [aB.av e.s]
@[go_sem] theorem aKt(e:bK)(r:List AV):vD e++r=aB.av e.s::r:=rfl
structure bB where
 Used:Bool
 Key:Int
deriving DecidableEq
def aU(e:bB):List AV:=[.v (.bool e.Used),.v (.int .u64 e.Key)]
theorem cY:CF aU 2:=⟨fun _=>rfl,fun a x hx=>by
 simp only [aU,List.mem_cons,List.not_mem_nil,or_false] at hx;rcases hx with rfl|rfl
 · exact (.v _)
 · exact (.v _),fun _=>rfl⟩
instance:CC aU 2:=⟨cY⟩
abbrev aJm(e:bB):AV:= .agg [.v (.bool e.Used),vu e.Key]
instance:CE prog 31 aU 2 (bB.mk false 0):=⟨_,underlying31,bGl,bGx,inferInstance,cY,by decide,by decide⟩
@[go_sem] theorem aJv(e:bB)(r:List AV):aU e++r= .v (.bool e.Used):: .v (.int .u64 e.Key)::r:=rfl
structure aI where
 Graph:aE
 Slots:List bB
deriving DecidableEq
def xS(e:aI):List AV:=[.v (.int .i64 e.Graph.Config.N),.v (.int .i64 e.Graph.Config.L),.v (.int .i64 e.Graph.Config.R),.sl (e.Graph.Hashes.flatMap bC) e.Graph.Hashes.length false,.sl (e.Graph.Edges.flatMap aH) e.Graph.Edges.length false,.sl (e.Slots.flatMap aU) e.Slots.length false]
theorem aOx:CF xS 6:=⟨fun _=>rfl,fun a x hx=>by
 simp only [xS,List.mem_cons,List.not_mem_nil,or_false] at hx;rcases hx with rfl|rfl|rfl|rfl|rfl|rfl
 · exact (.v _)
 · exact (.v _)
 · exact (.v _)
 · exact (jW.sl _ _ _)
 · exact (bJ.sl _ _ _)
 · exact (cY.sl _ _ _),fun _=>rfl⟩
instance:CC xS 6:=⟨aOx⟩
abbrev dB(e:aI):AV:= .agg [.v (.int .i64 e.Graph.Config.N),vi e.Graph.Config.L,vi e.Graph.Config.R,vl bC e.Graph.Hashes,vl aH e.Graph.Edges,vl aU e.Slots]
@[go_sem] theorem aJu(e:aI)(r:List AV):xS e++r= .v (.int .i64 e.Graph.Config.N):: .v (.int .i64 e.Graph.Config.L):: .v (.int .i64 e.Graph.Config.R):: .sl (e.Graph.Hashes.flatMap bC) e.Graph.Hashes.length false:: .sl (e.Graph.Edges.flatMap aH) e.Graph.Edges.length false:: .sl (e.Slots.flatMap aU) e.Slots.length false::r:=rfl
structure dN where
 Do:Int
 A:Int
 B:Int
 Text:ByteArray
deriving DecidableEq
def qM(e:dN):List AV:=[.v (.int .i64 e.Do),.v (.int .u64 e.A),.v (.int .u64 e.B),.v (.string e.Text)]
theorem aJn:CF qM 4:=⟨fun _=>rfl,fun a x hx=>by
 simp only [qM,List.mem_cons,List.not_mem_nil,or_false] at hx;rcases hx with rfl|rfl|rfl|rfl
 · exact (.v _)
 · exact (.v _)
 · exact (.v _)
 · exact (.v _),fun _=>rfl⟩
instance:CC qM 4:=⟨aJn⟩
abbrev mP(e:dN):AV:= .agg [.v (.int .i64 e.Do),vu e.A,vu e.B,.v (.string e.Text)]
@[go_sem] theorem aF6(e:dN)(r:List AV):qM e++r= .v (.int .i64 e.Do):: .v (.int .u64 e.A):: .v (.int .u64 e.B):: .v (.string e.Text)::r:=rfl
theorem bB2{a0:AV}(a0h:a0.cells? =some [a0]):aAo prog 147 [(0,a0)]=some (.agg [a0]):=by
 unfold aAo;rw [bHp,underlying147];simp only [];rw [(by kernel_rfl:placesOf prog _=some [(0,1)])];simp only [];simp [kH,a0h,aNx,aNy,aKy]
theorem bB3{a0:AV}{a1:AV}{a2_Key:Int}{a2_N:Int}{a3:Int}{a4:Int}(a0h:a0.cells? =some [a0])(a1h:a1.cells? =some [a1]):aAo prog 233 [(0,a0),(1,a1),(2,.agg [.v (.int .u64 a2_Key),.v (.int .i64 a2_N)]),(3,.v (.int .i64 a3)),(4,.v (.int .i64 a4))]=some (.agg [a0,a1,.v (.int .u64 a2_Key),.v (.int .i64 a2_N),.v (.int .i64 a3),.v (.int .i64 a4)]):=by
 unfold aAo;rw [bQy,underlying233];simp only [];rw [(by kernel_rfl:placesOf prog _=some [(0,1),(1,1),(2,2),(4,1),(5,1)])];simp only [];simp [kH,a0h,a1h,aNx,aNy,aKy]
@[go_sem] theorem aUh(xs:List AV):aJ prog 147 (.ptr (xs)) 0=some (.ptr xs):=by kernel_rfl
@[go_sem] theorem aUi(xs:List AV):aJ prog 233 (.ptr (xs)) 0=some (.ptr xs):=by kernel_rfl
@[go_sem] theorem aUj(x0:AV)(xs:List AV):aJ prog 233 (.ptr (x0::xs)) 1=some (.ptr xs):=by kernel_rfl
@[go_sem] theorem aUk(x0:AV)(x1:AV)(xs:List AV):aJ prog 233 (.ptr (x0::x1::xs)) 2=some (.ptr xs):=by kernel_rfl
@[go_sem] theorem aUl(x0:AV)(x1:AV)(x2:AV)(x3:AV)(xs:List AV):aJ prog 233 (.ptr (x0::x1::x2::x3::xs)) 3=some (.ptr xs):=by kernel_rfl
@[go_sem] theorem aUm(x0:AV)(x1:AV)(x2:AV)(x3:AV)(x4:AV)(xs:List AV):aJ prog 233 (.ptr (x0::x1::x2::x3::x4::xs)) 4=some (.ptr xs):=by kernel_rfl
@[go_sem] theorem aXx(xs:List AV):aJ prog 96 (.ptr (xs)) 0=some (.ptr xs):=by kernel_rfl
@[go_sem] theorem aXy(x0:AV)(xs:List AV):aJ prog 96 (.ptr (x0::xs)) 1=some (.ptr xs):=by kernel_rfl
@[go_sem] theorem aUr(i o:Nat):aJ prog 147 (.adr i o) 0=some (.adr i (o+0)):=by kernel_rfl
@[go_sem] theorem aUs(i o:Nat):aJ prog 194 (.adr i o) 0=some (.adr i (o+0)):=by kernel_rfl
@[go_sem] theorem aUt(i o:Nat):aJ prog 194 (.adr i o) 1=some (.adr i (o+1)):=by kernel_rfl
@[go_sem] theorem aY3(i o:Nat):aJ prog 23 (.adr i o) 0=some (.adr i (o+0)):=by kernel_rfl
@[go_sem] theorem aYi(i o:Nat):aJ prog 30 (.adr i o) 0=some (.adr i (o+0)):=by kernel_rfl
@[go_sem] theorem aYo(i o:Nat):aJ prog 30 (.adr i o) 2=some (.adr i (o+4)):=by kernel_rfl
@[go_sem] theorem aYq(i o:Nat):aJ prog 33 (.adr i o) 0=some (.adr i (o+0)):=by kernel_rfl
@[go_sem] theorem aYr(i o:Nat):aJ prog 33 (.adr i o) 1=some (.adr i (o+5)):=by kernel_rfl
@[go_sem] theorem aYu(i o:Nat):aJ prog 42 (.adr i o) 0=some (.adr i (o+0)):=by kernel_rfl
@[go_sem] theorem aYv(i o:Nat):aJ prog 42 (.adr i o) 1=some (.adr i (o+1)):=by kernel_rfl
@[go_sem] theorem aYx(i o:Nat):aJ prog 42 (.adr i o) 2=some (.adr i (o+2)):=by kernel_rfl
@[go_sem] theorem aYz(i o:Nat):aJ prog 42 (.adr i o) 3=some (.adr i (o+3)):=by kernel_rfl
@[go_sem] theorem aZ3(i o:Nat):aJ prog 61 (.adr i o) 0=some (.adr i (o+0)):=by kernel_rfl
@[go_sem] theorem aZ9(i o:Nat):aJ prog 61 (.adr i o) 1=some (.adr i (o+1)):=by kernel_rfl
@[go_sem] theorem aZm(i o:Nat):aJ prog 96 (.adr i o) 0=some (.adr i (o+0)):=by kernel_rfl
@[go_sem] theorem aZn(i o:Nat):aJ prog 96 (.adr i o) 1=some (.adr i (o+1)):=by kernel_rfl
theorem aV7(i o:Nat)(k:IntKind):iD prog 180 (.adr i o) (.v (.int k 0))=some (.adr i o):=by kernel_rfl
theorem aV8(i o:Nat)(k:IntKind):iD prog 180 (.adr i o) (.v (.int k 1))=some (.adr i (o+1)):=by kernel_rfl
attribute [go_sem] aV7 aV8
@[go_sem] theorem bCc(H:aG)(x:AV)(xs:List AV):bP prog H 145 (.ptr (x::xs))=some x:=by kernel_rfl
@[go_sem] theorem bCd(H:aG)(x0:AV)(xs:List AV):bP prog H 147 (.ptr (x0::xs))=some (.agg [x0]):=by kernel_rfl
@[go_sem] theorem bCe(H:aG)(x0 x1:AV)(xs:List AV):bP prog H 180 (.ptr (x0::x1::xs))=some (.agg [x0,x1]):=by kernel_rfl
@[go_sem] theorem bCf(H:aG)(x0 x1:AV)(xs:List AV):bP prog H 194 (.ptr (x0::x1::xs))=some (.agg [x0,x1]):=by kernel_rfl
@[go_sem] theorem bFa(H:aG)(x:AV)(xs:List AV):bP prog H 28 (.ptr (x::xs))=some x:=by kernel_rfl
@[go_sem] theorem bIl(H:aG)(x:AV)(xs:List AV):bP prog H 3 (.ptr (x::xs))=some x:=by kernel_rfl
@[go_sem] theorem bFf(H:aG)(x0 x1 x2 x3 x4:AV)(xs:List AV):bP prog H 30 (.ptr (x0::x1::x2::x3::x4::xs))=some (.agg [x0,x1,x2,x3,x4]):=by kernel_rfl
@[go_sem] theorem bFi(H:aG)(x:AV)(xs:List AV):bP prog H 31 (.ptr (x::xs))=some x:=by kernel_rfl
@[go_sem] theorem bFj(H:aG)(x0 x1 x2 x3 x4 x5:AV)(xs:List AV):bP prog H 33 (.ptr (x0::x1::x2::x3::x4::x5::xs))=some (.agg [x0,x1,x2,x3,x4,x5]):=by kernel_rfl
@[go_sem] theorem bIq(H:aG)(x:AV)(xs:List AV):bP prog H 4 (.ptr (x::xs))=some x:=by kernel_rfl
@[go_sem] theorem bFp(H:aG)(x:AV)(xs:List AV):bP prog H 40 (.ptr (x::xs))=some x:=by kernel_rfl
@[go_sem] theorem bFr(H:aG)(x0 x1 x2 x3:AV)(xs:List AV):bP prog H 42 (.ptr (x0::x1::x2::x3::xs))=some (.agg [x0,x1,x2,x3]):=by kernel_rfl
@[go_sem] theorem bFw(H:aG)(x0 x1 x2:AV)(xs:List AV):bP prog H 61 (.ptr (x0::x1::x2::xs))=some (.agg [x0,x1,x2]):=by kernel_rfl
@[go_sem] theorem bIu(H:aG)(x:AV)(xs:List AV):bP prog H 9 (.ptr (x::xs))=some x:=by kernel_rfl
@[go_sem] theorem bG1(H:aG)(x0 x1:AV)(xs:List AV):bP prog H 96 (.ptr (x0::x1::xs))=some (.agg [x0,x1]):=by kernel_rfl
@[go_sem] theorem aUd(H:aG)(k:IntKind)(n:Int):qI prog H 3 162 (.v (.int k n))=some (.v (.int .u64 (IntKind.u64.wrap n))):=iJ underlying3 underlying162
@[go_sem] theorem aU8(H:aG)(k:IntKind)(n:Int):qI prog H 162 3 (.v (.int k n))=some (.v (.int .i64 (IntKind.i64.wrap n))):=iJ underlying162 underlying3
def aNd(rec1:List ByteArray→List Int→Int→Int→Option (ByteArray))(aMi:List ByteArray)(t36:List Int)(t37:Int)(t38:Int):Option (ByteArray):=
 (bif (decide (t38<t37)) then
  none
 else
  none)
def zT:Nat→List ByteArray→List Int→Int→Int→Option (ByteArray)
 |0=>fun _ _ _ _=>none
 |n+1=>aNd (zT n)
def aNe(rec2:List ByteArray→List nL→Int→Int→Option (ByteArray))(aHp:List ByteArray)(t53:List nL)(t54:Int)(t55:Int):Option (ByteArray):=
 (bif (decide (t55<t54)) then
  none
 else
  none)
def zU:Nat→List ByteArray→List nL→Int→Int→Option (ByteArray)
 |0=>fun _ _ _ _=>none
 |n+1=>aNe (zU n)
def fW(uI:GA):Option (ByteArray):=
 ((aWh .i64 36 uI).bind fun ⟨r5,r6⟩=>
 (bif r6 then
  (bif (r5==0) then
   some ⟨#[111,107]⟩
  else
   ((aLb r5).bind fun r8=>
   ((bGh ⟨#[101,114,114,111,114,32]⟩ r8).bind fun s10=>
   some s10)))
 else
  ((aUx 4 uI).bind fun ⟨r12,r13⟩=>
  (bif r13 then
   (bif r12 then
    some ⟨#[121,101,115]⟩
   else
    some ⟨#[110,111]⟩)
  else
   ((aWh .i64 3 uI).bind fun ⟨r18,r19⟩=>
   (bif r19 then
    ((aLb r18).bind fun r21=>
    some r21)
   else
    ((bIc 24 uI).bind fun ⟨r23,r24⟩=>
    (bif r24 then
     zT aZ [] r23 (r23.length:Int) 0
    else
     ((bIb 157 uI).bind fun ⟨r26,r27⟩=>
     (bif r27 then
      zU aZ [] r26 (r26.length:Int) 0
     else
      ((bC4 9 uI).bind fun ⟨r32,r33⟩=>
      (bif r33 then
       none
      else
       some ⟨#[]⟩))))))))))))
theorem hY{uI:GA}{r:ByteArray}(hm:fW uI=some r):bH prog 59 [GA.av uI] (.v (.string r)):=by
 refine bd 78 func59 ?_;refine W ?_;obtain ⟨⟨r5,r6⟩,h4,hm⟩:=bnd hm;refine pu rfl (aR9 underlying36 bKh bQs Z1 h4) ?_;refine W ?_;refine cm hm (fun hm=>?_) fun hm=>?_
 ·
  refine W ?_;refine cm hm (fun hm=>?_) fun hm=>?_
  · exact E
  obtain ⟨r8,h7,hm⟩:=bnd hm;refine W ?_;refine cq (aV9 h7) ?_;obtain ⟨s10,h9,hm⟩:=bnd hm;exact E
 refine W ?_;obtain ⟨⟨r12,r13⟩,h11,hm⟩:=bnd hm;refine pu rfl (aX7 underlying4 in4 tz4 Z1 h11) ?_;refine W ?_;refine cm hm (fun hm=>?_) fun hm=>?_
 ·
  refine W ?_;refine cm hm (fun hm=>?_) fun hm=>?_
  · exact E
  exact E
 refine W ?_;obtain ⟨⟨r18,r19⟩,h17,hm⟩:=bnd hm;refine pu rfl (aR9 underlying3 in3 tz3 Z1 h17) ?_;refine W ?_;refine cm hm (fun hm=>?_) fun hm=>?_
 · obtain ⟨r21,h20,hm⟩:=bnd hm;refine W ?_;refine cq (aV9 h20) ?_;exact E
 refine W ?_;obtain ⟨⟨r23,r24⟩,h22,hm⟩:=bnd hm;refine aR.pop Zd (aLo Z1 (GA.data _)) (bD6 underlying24 bKg bQr Z1 h22) rfl ?_;refine W ?_;refine cm hm (fun hm=>?_) fun hm=>?_
 ·
  refine W ?_;refine lp (fun m s=> ∃aMi t36 t37 t38,s=⟨78,(aD (aD (aD (aD fa 7 (.own 1 0 aMi.length)) 36 (vl (ci .u64) t36)) 37 (vi t37)) 38 (vi t38)),⟨(upd aV 1 (.cells 1 (aMi.flatMap oO) 0)),64⟩⟩∧zT m aMi t36 t37 t38=some r) ?_ ?_
  · refine ⟨_,?_,[],r23,(r23.length:Int),0,rfl,hm⟩;refine St.Le.trans (oP 7 900007 1 Z1 Z5) ?_;exact cn (fun j=>bif j==1 then 900007 else 0)
  rintro n1 s ⟨aMi,t36,t37,t38,rfl,hm⟩;refine W ?_;refine cm hm (fun hm=>?_) fun hm=>?_
  · cases hm
  cases hm
 refine W ?_;obtain ⟨⟨r26,r27⟩,h25,hm⟩:=bnd hm;refine aR.pop Zd (aLo Z1 (GA.data _)) (bD5 underlying157 bHc bHm Z1 h25) rfl ?_;refine W ?_;refine cm hm (fun hm=>?_) fun hm=>?_
 ·
  refine W ?_;refine lp (fun m s=> ∃aHp t53 t54 t55,s=⟨78,(aD (aD (aD (aD fa 11 (.own 1 0 aHp.length)) 53 (vl oZ t53)) 54 (vi t54)) 55 (vi t55)),⟨(upd aV 1 (.cells 1 (aHp.flatMap oO) 0)),64⟩⟩∧zU m aHp t53 t54 t55=some r) ?_ ?_
  · refine ⟨_,?_,[],r26,(r26.length:Int),0,rfl,hm⟩;refine St.Le.trans (oP 11 900011 1 Z1 Z5) ?_;exact cn (fun j=>bif j==1 then 900011 else 0)
  rintro n2 s ⟨aHp,t53,t54,t55,rfl,hm⟩;refine W ?_;refine cm hm (fun hm=>?_) fun hm=>?_
  · cases hm
  cases hm
 refine W ?_;obtain ⟨⟨r32,r33⟩,h31,hm⟩:=bnd hm;refine pu rfl (bAq underlying9 in9 tz9 Z1 h31) ?_;refine W ?_;refine cm hm (fun hm=>?_) fun hm=>?_
 · cases hm
 exact E
instance:Ct prog 59 (K1 prog GA.av vs 59 fW):=⟨fun hm=>hY hm⟩
def tL(dK:ByteArray):Option (Int×Int):=
 (bif (decide (dK=⟨#[110,101,119]⟩)) then
  some ((-1),3)
 else
  (bif (decide (dK=⟨#[112,108,97,110]⟩)) then
   some ((-2),3)
  else
   (bif (decide (dK=⟨#[118,101,114,116,101,120]⟩)) then
    some (1,1)
   else
    (bif (decide (dK=⟨#[100,114,111,112]⟩)) then
     some (2,1)
    else
     (bif (decide (dK=⟨#[101,100,103,101]⟩)) then
      some (3,2)
     else
      (bif (decide (dK=⟨#[99,117,116]⟩)) then
       some (4,2)
      else
       (bif (decide (dK=⟨#[104,97,115]⟩)) then
        some (5,2)
       else
        (bif (decide (dK=⟨#[100,101,103,114,101,101]⟩)) then
         some (6,1)
        else
         (bif (decide (dK=⟨#[110,101,97,114]⟩)) then
          some (7,1)
         else
          (bif (decide (dK=⟨#[99,111,110,110,101,99,116,101,100]⟩)) then
           some (8,2)
          else
           (bif (decide (dK=⟨#[115,105,122,101]⟩)) then
            some (9,1)
           else
            (bif (decide (dK=⟨#[99,111,117,110,116]⟩)) then
             some (10,0)
            else
             (bif (decide (dK=⟨#[109,101,109,98,101,114,115]⟩)) then
              some (11,1)
             else
              (bif (decide (dK=⟨#[102,111,114,101,115,116]⟩)) then
               some (12,0)
              else
               (bif (decide (dK=⟨#[97,117,100,105,116]⟩)) then
                some (13,0)
               else
                (bif (decide (dK=⟨#[115,97,118,101]⟩)) then
                 some (14,0)
                else
                 (bif (decide (dK=⟨#[114,101,115,116,111,114,101]⟩)) then
                  some (15,1)
                 else
                  some (0,0))))))))))))))))))
theorem aC8{dK:ByteArray}{r:Int×Int}(hm:tL dK=some r):bH prog 60 [.v (.string dK)] (.tup [vi r.1,vi r.2]):=by
 refine bd 39 func60 ?_;refine W ?_;refine cm hm (fun hm=>?_) fun hm=>?_
 · exact E
 refine W ?_;refine cm hm (fun hm=>?_) fun hm=>?_
 · exact E
 refine W ?_;refine cm hm (fun hm=>?_) fun hm=>?_
 · exact E
 refine W ?_;refine cm hm (fun hm=>?_) fun hm=>?_
 · exact E
 refine W ?_;refine cm hm (fun hm=>?_) fun hm=>?_
 · exact E
 refine W ?_;refine cm hm (fun hm=>?_) fun hm=>?_
 · exact E
 refine W ?_;refine cm hm (fun hm=>?_) fun hm=>?_
 · exact E
 refine W ?_;refine cm hm (fun hm=>?_) fun hm=>?_
 · exact E
 refine W ?_;refine cm hm (fun hm=>?_) fun hm=>?_
 · exact E
 refine W ?_;refine cm hm (fun hm=>?_) fun hm=>?_
 · exact E
 refine W ?_;refine cm hm (fun hm=>?_) fun hm=>?_
 · exact E
 refine W ?_;refine cm hm (fun hm=>?_) fun hm=>?_
 · exact E
 refine W ?_;refine cm hm (fun hm=>?_) fun hm=>?_
 · exact E
 refine W ?_;refine cm hm (fun hm=>?_) fun hm=>?_
 · exact E
 refine W ?_;refine cm hm (fun hm=>?_) fun hm=>?_
 · exact E
 refine W ?_;refine cm hm (fun hm=>?_) fun hm=>?_
 · exact E
 refine W ?_;refine cm hm (fun hm=>?_) fun hm=>?_
 · exact E
 exact E
instance:Ct prog 60 (K1 prog vs (t2 vi vi) 60 tL):=⟨fun hm=>aC8 hm⟩
def uN(n_0:Int):Option (Bool):=
 some ((decide (1≤n_0))&&(decide (n_0≤1024)))
theorem aQw:K1 prog vi vb 76 uN:=fun hm=>be 9 func76 (h:=G)
instance:Ct prog 76 (K1 prog vi vb 76 uN):=⟨aQw⟩
def hZ(s_0:aB):Option (Int):=
 (bif (!s_0.nn) then
  some 0
 else
  ((chk s_0.nn).bind fun _=>
  some s_0.size))
theorem nD:K1 prog aB.av vi 156 hZ:=fun hm=>be 9 func156 (h:=G)
instance:Ct prog 156 (K1 prog aB.av vi 156 hZ):=⟨nD⟩
def aQh(rec1:aB→Int→bX→Option (bX×Bool))(s_0:aB)(i_1:Int)(t4:bX):Option (bX×Bool):=
 ((chk s_0.nn).bind fun _=>
 ((hZ s_0.ahead).bind fun r5=>
 (bif (decide (i_1<r5)) then
  ((chk s_0.nn).bind fun _=>
  rec1 s_0.ahead i_1 t4)
 else
  (bif (decide (r5<i_1)) then
   ((chk s_0.nn).bind fun _=>
   rec1 s_0.behind (IntKind.i64.wrap (i_1-(IntKind.i64.wrap (r5+1)))) t4)
  else
   ((chk s_0.nn).bind fun _=>
   some (s_0.thing,true))))))
def aBv:Nat→aB→Int→bX→Option (bX×Bool)
 |0=>fun _ _ _=>none
 |n+1=>aQh (aBv n)
def qC(s_0:aB)(i_1:Int):Option (bX×Bool):=
 ((dT ((decide (i_1<0))==false) 0 (hZ s_0)).bind fun r2=>
 (bif ((decide (i_1<0))||(decide (r2≤i_1))) then
  some ((bX.mk 0 0),false)
 else
  aBv aZ s_0 i_1 (bX.mk 0 0)))
theorem yP:K2 prog aB.av vi (t2 wZ vb) 119 qC:=by
 intro s_0 i_1 r hm
 let I1:=((fun m s=> ∃s_0 i_1 t4,s=⟨46,(aD (aD (aD fa 0 (aB.av s_0)) 1 (vi i_1)) 4 (.adr 1 0)),⟨(upd aV 1 (.cells 1 [vu t4.Key,vi t4.N] 0)),64⟩⟩∧aBv m s_0 i_1 t4=some r):Nat→St→Prop)
 exact be 46 func119 (h:=G)
instance:Ct prog 119 (K2 prog aB.av vi (t2 wZ vb) 119 qC):=⟨yP⟩
def aGj(i_0:Int)(t1:bK)(t2:Int):Option (Bool):=
 ((qC t1.s i_0).bind fun ⟨r2,r3⟩=>
 some (decide (t2≤r2.Key)))
theorem aPg{i_0:Int}{t1:bK}{t2:Int}{r:Bool}(hm:aGj i_0 t1 t2=some r):bH prog 158 [vi i_0,.ptr [aB.av t1.s],.ptr [vu t2]] (vb r):=by
 refine bd 18 func158 ?_;refine W ?_;obtain ⟨⟨r2,r3⟩,h1,hm⟩:=bnd hm;refine cq (yP h1) ?_;exact E
def aNj(f_1:(Int→Option (Bool)))(rec1:Int→Int→Option (Int))(i_5:Int)(j_6:Int):Option (Int):=
 (bif (decide (i_5<j_6)) then
  ((f_1 (IntKind.i64.wrap (shr .u64 (IntKind.u64.wrap (IntKind.i64.wrap (i_5+j_6))) 1))).bind fun r2=>
  (bif (!r2) then
   rec1 (IntKind.i64.wrap ((IntKind.i64.wrap (shr .u64 (IntKind.u64.wrap (IntKind.i64.wrap (i_5+j_6))) 1))+1)) j_6
  else
   rec1 i_5 (IntKind.i64.wrap (shr .u64 (IntKind.u64.wrap (IntKind.i64.wrap (i_5+j_6))) 1))))
 else
  some i_5)
def zY(f_1:(Int→Option (Bool))):Nat→Int→Int→Option (Int)
 |0=>fun _ _=>none
 |n+1=>aNj f_1 (zY f_1 n)
def aHi(n_0:Int)(f_1:(Int→Option (Bool))):Option (Int):=
 zY f_1 aZ 0 n_0
theorem aQo{n_0:Int}{f_1:(Int→Option (Bool))}{r:Int}(hm:aHi n_0 f_1=some r){aGo:FuncId}{uA:List AV}(aL6: ∀a,a∈uA→AM.Data a)(aV1:(Program.funcs prog)[aGo]?.any (fun fn=>fn.body.isSome&&fn.name != "runtime.NumGoroutine")=true)(aV2: ∀ {x0 r},f_1 x0=some r→bH prog aGo ([vi x0]++uA) (vb r)):bH prog 157 [vi n_0,.clo (.func aGo) [] uA] (vi r):=by
 refine bd 26 func157 ?_;refine W ?_;refine lp (fun m s=> ∃i_5 j_6,s=⟨26,(aD (aD (aD fa 1 (.clo (.func aGo) [] uA)) 5 (vi i_5)) 6 (vi j_6)),⟨aV,64⟩⟩∧zY f_1 m i_5 j_6=some r) L ?_;rintro n1 s ⟨i_5,j_6,rfl,hm⟩;refine W ?_;refine cm hm (fun hm=>?_) fun hm=>?_
 ·
  obtain ⟨r2,h1,hm⟩:=bnd hm;refine W ?_;refine aR.callQC (r:= .v (.bool r2)) Zd Z1 aL6 aV1 (fun H=>(cV .nil)) (aV2 h1) ?_;refine W ?_;refine cm hm (fun hm=>?_) fun hm=>?_
  · exact L
  exact L
 exact E
def aB2(d_0:bK)(fC:Int):Option (Int):=
 ((hZ d_0.s).bind fun r2=>
 ((aHi r2 (fun x0=>aGj x0 d_0 fC)).bind fun r4=>
 some r4))
theorem aL0{d_0:bK}{fC:Int}{r:Int}(hm:aB2 d_0 fC=some r):bH prog 120 [.agg [aB.av d_0.s],vu fC] (vi r):=by
 refine bd 10 func120 ?_;refine S1 ?_;refine aR.pop Zd (aLo Z1 (.agg _ (xI.dat d_0))) (aQe (ys:=[aB.av d_0.s]) Z1 (fun H=>(.cons (.data _ (aB.data d_0.s)) .nil))) rfl ?_;refine aR.pop Zd (aLo Z1 (.v _)) (aQe (ys:=[.v (.int .u64 fC)]) Z1 (fun H=>(.cons (.data _ (.v _)) .nil))) rfl ?_;obtain ⟨r2,h1,hm⟩:=bnd hm;refine W ?_;refine cq (nD h1) ?_;obtain ⟨r4,h3,hm⟩:=bnd hm;refine W ?_;refine aR.callQ (r:= .v (.int .i64 r4)) Zd Z1 bK5 (fun H=>(cV (.cons (td Z1 (bBl (lJ (.ptr _ (xI.dat d_0)) (lJ (.ptr _ ((CFi .u64).dat fC)) aFa)))) .nil))) (aQo h3 (lJ (.ptr _ (xI.dat d_0)) (lJ (.ptr _ ((CFi .u64).dat fC)) aFa)) bK6 (fun h=>aPg h)) ?_;exact E
instance:Ct prog 120 (K2 prog oY vu vi 120 aB2):=⟨fun hm=>aL0 hm⟩
def uO(d_0:bK)(fC:Int):Option (Int×Bool):=
 ((aB2 d_0 fC).bind fun r2=>
 ((qC d_0.s r2).bind fun ⟨r4,r5⟩=>
 (bif ((!r5)||(r4.Key !=fC)) then
  some (0,false)
 else
  some (r4.N,true))))
theorem aI5:K2 prog oY vu (t2 vi vb) 79 uO:=fun hm=>be 27 func79 (h:=G)
instance:Ct prog 79 (K2 prog oY vu (t2 vi vb) 79 uO):=⟨aI5⟩
def cE(s_0:aB):Option (Int):=
 (bif (!s_0.nn) then
  some 0
 else
  ((chk s_0.nn).bind fun _=>
  some s_0.height))
theorem gN:K1 prog aB.av vi 236 cE:=fun hm=>be 9 func236 (h:=G)
instance:Ct prog 236 (K1 prog aB.av vi 236 cE):=⟨gN⟩
def dG(bE:aB)(dI:bX)(aY:aB):Option (aB):=
 ((cE bE).bind fun r2=>
 ((cE aY).bind fun r4=>
 ((hZ bE).bind fun r6=>
 ((hZ aY).bind fun r8=>
 some (aB.mk bE aY dI (IntKind.i64.wrap ((if r2<r4 then r4 else r2)+1)) (IntKind.i64.wrap ((IntKind.i64.wrap (r6+1))+r8)))))))
theorem zX{bE:aB}{dI:bX}{aY:aB}{r:aB}(hm:dG bE dI aY=some r):bH prog 192 [aB.av bE,.agg [vu dI.Key,vi dI.N],aB.av aY] (aB.av r):=by
 refine bd 24 func192 ?_;obtain ⟨r2,h1,hm⟩:=bnd hm;refine W ?_;refine cq (gN h1) ?_;obtain ⟨r4,h3,hm⟩:=bnd hm;refine W ?_;refine cq (gN h3) ?_;obtain ⟨r6,h5,hm⟩:=bnd hm;refine W ?_;refine cq (nD h5) ?_;obtain ⟨r8,h7,hm⟩:=bnd hm;refine W ?_;refine cq (nD h7) ?_;refine W ?_;refine pu rfl (by simp only [go_sem,Nat.reduceBEq];exact bB3 (aB.cells _) (aB.cells _)) ?_;refine aR.pop Zd (aLo Z1 (.agg _ (lJ (aB.data bE) (lJ (aB.data aY) (lJ (.v _) (lJ (.v _) (lJ (.v _) (lJ (.v _) aFa)))))))) (aQe (ys:=[aB.av ((aB.mk bE aY dI (IntKind.i64.wrap ((if r2<r4 then r4 else r2)+1)) (IntKind.i64.wrap ((IntKind.i64.wrap (r6+1))+r8))).ahead),aB.av ((aB.mk bE aY dI (IntKind.i64.wrap ((if r2<r4 then r4 else r2)+1)) (IntKind.i64.wrap ((IntKind.i64.wrap (r6+1))+r8))).behind),.v (.int .u64 (((aB.mk bE aY dI (IntKind.i64.wrap ((if r2<r4 then r4 else r2)+1)) (IntKind.i64.wrap ((IntKind.i64.wrap (r6+1))+r8))).thing).Key)),.v (.int .i64 (((aB.mk bE aY dI (IntKind.i64.wrap ((if r2<r4 then r4 else r2)+1)) (IntKind.i64.wrap ((IntKind.i64.wrap (r6+1))+r8))).thing).N)),.v (.int .i64 ((aB.mk bE aY dI (IntKind.i64.wrap ((if r2<r4 then r4 else r2)+1)) (IntKind.i64.wrap ((IntKind.i64.wrap (r6+1))+r8))).height)),.v (.int .i64 ((aB.mk bE aY dI (IntKind.i64.wrap ((if r2<r4 then r4 else r2)+1)) (IntKind.i64.wrap ((IntKind.i64.wrap (r6+1))+r8))).size))]) Z1 (fun H=>(.cons (.data _ (aB.data bE)) (.cons (.data _ (aB.data aY)) (.cons (.data _ (.v _)) (.cons (.data _ (.v _)) (.cons (.data _ (.v _)) (.cons (.data _ (.v _)) .nil)))))))) rfl ?_;exact E
instance:Ct prog 192 (K3 prog aB.av wZ aB.av aB.av 192 dG):=⟨fun hm=>zX hm⟩
def oM(bE:aB)(dI:bX)(aY:aB):Option (aB):=
 ((cE bE).bind fun r2=>
 ((cE aY).bind fun r4=>
 (bif (decide ((IntKind.i64.wrap (r4+1))<r2)) then
  ((chk bE.nn).bind fun _=>
  ((cE bE.ahead).bind fun r7=>
  ((chk bE.nn).bind fun _=>
  ((cE bE.behind).bind fun r10=>
  (bif (decide (r10≤r7)) then
   ((chk bE.nn).bind fun _=>
   ((chk bE.nn).bind fun _=>
   ((chk bE.nn).bind fun _=>
   ((dG bE.behind dI aY).bind fun r15=>
   ((dG bE.ahead bE.thing r15).bind fun r17=>
   some r17)))))
  else
   ((chk bE.nn).bind fun _=>
   ((chk bE.nn).bind fun _=>
   ((chk bE.nn).bind fun _=>
   ((chk bE.behind.nn).bind fun _=>
   ((dG bE.ahead bE.thing bE.behind.ahead).bind fun r23=>
   ((chk bE.behind.nn).bind fun _=>
   ((chk bE.behind.nn).bind fun _=>
   ((dG bE.behind.behind dI aY).bind fun r27=>
   ((dG r23 bE.behind.thing r27).bind fun r29=>
   some r29))))))))))))))
 else
  ((cE aY).bind fun r31=>
  ((cE bE).bind fun r33=>
  (bif (decide ((IntKind.i64.wrap (r33+1))<r31)) then
   ((chk aY.nn).bind fun _=>
   ((cE aY.behind).bind fun r36=>
   ((chk aY.nn).bind fun _=>
   ((cE aY.ahead).bind fun r39=>
   (bif (decide (r39≤r36)) then
    ((chk aY.nn).bind fun _=>
    ((dG bE dI aY.ahead).bind fun r42=>
    ((chk aY.nn).bind fun _=>
    ((chk aY.nn).bind fun _=>
    ((dG r42 aY.thing aY.behind).bind fun r46=>
    some r46)))))
   else
    ((chk aY.nn).bind fun _=>
    ((chk aY.ahead.nn).bind fun _=>
    ((dG bE dI aY.ahead.ahead).bind fun r50=>
    ((chk aY.ahead.nn).bind fun _=>
    ((chk aY.ahead.nn).bind fun _=>
    ((chk aY.nn).bind fun _=>
    ((chk aY.nn).bind fun _=>
    ((dG aY.ahead.behind aY.thing aY.behind).bind fun r56=>
    ((dG r50 aY.ahead.thing r56).bind fun r58=>
    some r58))))))))))))))
  else
   ((dG bE dI aY).bind fun r60=>
   some r60)))))))
theorem tR:K3 prog aB.av wZ aB.av aB.av 237 oM:=fun hm=>be 139 func237 (h:=G)
instance:Ct prog 237 (K3 prog aB.av wZ aB.av aB.av 237 oM):=⟨tR⟩
def tP(recf:aB→bX→aB→Option (aB))(bE:aB)(dI:bX)(aY:aB):Option (aB):=
 ((cE bE).bind fun r2=>
 ((cE aY).bind fun r4=>
 (bif (decide ((IntKind.i64.wrap (r4+1))<r2)) then
  ((chk bE.nn).bind fun _=>
  ((chk bE.nn).bind fun _=>
  ((chk bE.nn).bind fun _=>
  ((recf bE.behind dI aY).bind fun r9=>
  ((oM bE.ahead bE.thing r9).bind fun r11=>
  some r11)))))
 else
  ((cE aY).bind fun r13=>
  ((cE bE).bind fun r15=>
  (bif (decide ((IntKind.i64.wrap (r15+1))<r13)) then
   ((chk aY.nn).bind fun _=>
   ((recf bE dI aY.ahead).bind fun r18=>
   ((chk aY.nn).bind fun _=>
   ((chk aY.nn).bind fun _=>
   ((oM r18 aY.thing aY.behind).bind fun r22=>
   some r22)))))
  else
   ((dG bE dI aY).bind fun r24=>
   some r24)))))))
def oK:Nat→aB→bX→aB→Option (aB)
 |0=>fun _ _ _=>none
 |n+1=>tP (oK n)
def oL(bE:aB)(dI:bX)(aY:aB):Option (aB):=oK aZ bE dI aY
theorem aIj: ∀(nn:Nat) {bE:aB} {dI:bX} {aY:aB} {r:aB} (hm:oK nn bE dI aY=some r),bH prog 191 [aB.av bE,.agg [.v (.int .u64 dI.Key),.v (.int .i64 dI.N)],aB.av aY] (aB.av r):=by
 intro nn
 induction nn with
 |zero=>
  intro bE dI aY r hm;replace hm:none=some r:=hm;cases hm
 |succ nn ih=>
  intro bE dI aY r hm;replace hm:tP (oK nn) bE dI aY=some r:=hm;refine bH.of_body func191 rfl ?_;simp only [ntmps191,List.length_cons,List.length_nil,Nat.reduceAdd,Nat.reduceSub,eE];unfold tP at hm;refine sN 64 (hp (id:=0) rfl rfl (aNt Z1 Z5) ?_);refine pA ?_;refine fs (AWp.seq' (AWp.block (sN 128 (pA ?_))));obtain ⟨r2,h1,hm⟩:=bnd hm;refine aR.callQ (r:= .v (.int .i64 r2)) Zd Z1 aWf (fun H=>(cD (aB.data _) .nil)) (gN h1) ?_;refine pA ?_;obtain ⟨r4,h3,hm⟩:=bnd hm;refine aR.callQ (r:= .v (.int .i64 r4)) Zd Z1 aWf (fun H=>(cD (aB.data _) .nil)) (gN h3) ?_
  iterate 3 refine pA ?_
  refine fs (AWp.condM hm Z1 (fun _ hm=>?_) (fun _ hm=>?_))
  ·
   refine sd mix (by kernel_rfl) (N':=192) rfl ?_;refine pA ?_;obtain ⟨_,h5,hm⟩:=bnd hm;refine pu rfl (qJ Z1 (aB.av_nn (nO h5))) ?_
   iterate 3 refine pA ?_
   obtain ⟨_,h6,hm⟩:=bnd hm;refine pu rfl (qJ Z1 (aB.av_nn (nO h6))) ?_
   iterate 3 refine pA ?_
   obtain ⟨_,h7,hm⟩:=bnd hm;refine pu rfl (qJ Z1 (aB.av_nn (nO h7))) ?_
   iterate 2 refine pA ?_
   refine pu rfl (rR Z1 Z3 Z2) ?_;refine pA ?_;obtain ⟨r9,h8,hm⟩:=bnd hm;refine aR.callQ (r:=aB.av r9) Zd Z1 aWe (fun H=>(cD (aB.data _) (cD (.agg _ (dV.dat _)) (cD (aB.data _) .nil)))) (ih h8) ?_;obtain ⟨r11,h10,hm⟩:=bnd hm;refine aR.callQ (r:=aB.av r11) Zd Z1 bHb (fun H=>(cD (aB.data _) (cD (.agg _ (dV.dat _)) (cD (aB.data _) .nil)))) (tR h10) ?_;refine pA ?_;refine fs (AWp.ret (rA (gD ?_)));cases hm;exact aH5 (.inr rfl) Tryz.results191 (td Z1 (aB.data _))
  ·
   refine sN 192 (pA ?_);obtain ⟨r13,h12,hm⟩:=bnd hm;refine aR.callQ (r:= .v (.int .i64 r13)) Zd Z1 aWf (fun H=>(cD (aB.data _) .nil)) (gN h12) ?_;refine pA ?_;obtain ⟨r15,h14,hm⟩:=bnd hm;refine aR.callQ (r:= .v (.int .i64 r15)) Zd Z1 aWf (fun H=>(cD (aB.data _) .nil)) (gN h14) ?_
   iterate 3 refine pA ?_
   refine fs (AWp.condM hm Z1 (fun _ hm=>?_) (fun _ hm=>?_))
   ·
    refine sd mix (by kernel_rfl) (N':=256) rfl ?_;refine pA ?_;refine pu rfl (rR Z1 Z3 Z2) ?_;refine pA ?_;obtain ⟨_,h16,hm⟩:=bnd hm;refine pu rfl (qJ Z1 (aB.av_nn (nO h16))) ?_
    iterate 2 refine pA ?_
    obtain ⟨r18,h17,hm⟩:=bnd hm;refine aR.callQ (r:=aB.av r18) Zd Z1 aWe (fun H=>(cD (aB.data _) (cD (.agg _ (dV.dat _)) (cD (aB.data _) .nil)))) (ih h17) ?_;refine pA ?_;obtain ⟨_,h19,hm⟩:=bnd hm;refine pu rfl (qJ Z1 (aB.av_nn (nO h19))) ?_
    iterate 3 refine pA ?_
    obtain ⟨_,h20,hm⟩:=bnd hm;refine pu rfl (qJ Z1 (aB.av_nn (nO h20))) ?_
    iterate 2 refine pA ?_
    obtain ⟨r22,h21,hm⟩:=bnd hm;refine aR.callQ (r:=aB.av r22) Zd Z1 bHb (fun H=>(cD (aB.data _) (cD (.agg _ (dV.dat _)) (cD (aB.data _) .nil)))) (tR h21) ?_;refine pA ?_;refine fs (AWp.ret (rA (gD ?_)));cases hm;exact aH5 (.inr rfl) Tryz.results191 (td Z1 (aB.data _))
   · refine AWp.skip (fY (bI (sN 256 (pA ?_))));refine pu rfl (rR Z1 Z3 Z2) ?_;refine pA ?_;obtain ⟨r24,h23,hm⟩:=bnd hm;refine aR.callQ (r:=aB.av r24) Zd Z1 bHa (fun H=>(cD (aB.data _) (cD (.agg _ (dV.dat _)) (cD (aB.data _) .nil)))) (zX h23) ?_;refine pA ?_;refine fs (AWp.ret ?_);cases hm;exact aH5 (.inr rfl) Tryz.results191 (td Z1 (aB.data _))
theorem tQ{bE:aB}{dI:bX}{aY:aB}{r:aB}(hm:oL bE dI aY=some r):bH prog 191 [aB.av bE,.agg [.v (.int .u64 dI.Key),.v (.int .i64 dI.N)],aB.av aY] (aB.av r):=aIj aZ hm
def wN(recf:aB→Int→Option (aB×aB))(s_0:aB)(aE4:Int):Option (aB×aB):=
 (bif (decide (aE4≤0)) then
  some (aB.nil,s_0)
 else
  ((hZ s_0).bind fun r2=>
  (bif (decide (r2≤aE4)) then
   some (s_0,aB.nil)
  else
   ((chk s_0.nn).bind fun _=>
   ((hZ s_0.ahead).bind fun r5=>
   (bif (decide (aE4≤r5)) then
    ((chk s_0.nn).bind fun _=>
    ((recf s_0.ahead aE4).bind fun ⟨r8,r9⟩=>
    ((chk s_0.nn).bind fun _=>
    ((chk s_0.nn).bind fun _=>
    ((oL r9 s_0.thing s_0.behind).bind fun r13=>
    some (r8,r13))))))
   else
    ((chk s_0.nn).bind fun _=>
    ((recf s_0.behind (IntKind.i64.wrap ((IntKind.i64.wrap (aE4-r5))-1))).bind fun ⟨r16,r17⟩=>
    ((chk s_0.nn).bind fun _=>
    ((chk s_0.nn).bind fun _=>
    ((oL s_0.ahead s_0.thing r16).bind fun r21=>
    some (r21,r17))))))))))))
def rF:Nat→aB→Int→Option (aB×aB)
 |0=>fun _ _=>none
 |n+1=>wN (rF n)
def rG(s_0:aB)(aE4:Int):Option (aB×aB):=rF aZ s_0 aE4
theorem aK8: ∀(nn:Nat) {s_0:aB} {aE4:Int} {r:aB×aB} (hm:rF nn s_0 aE4=some r),bH prog 153 [aB.av s_0,.v (.int .i64 aE4)] (.tup [aB.av r.1,aB.av r.2]):=by
 intro nn
 induction nn with
 |zero=>
  intro s_0 aE4 r hm;replace hm:none=some r:=hm;cases hm
 |succ nn ih=>
  intro s_0 aE4 r hm;replace hm:wN (rF nn) s_0 aE4=some r:=hm;refine bH.of_body func153 rfl ?_;simp only [ntmps153,List.length_cons,List.length_nil,Nat.reduceAdd,Nat.reduceSub,eE];unfold wN at hm;refine sN 64 ?_
  iterate 2 refine pA ?_
  refine fs (AWp.seq' (sN 128 ?_))
  iterate 2 refine pA ?_
  refine fs (AWp.condM hm Z1 (fun _ hm=>?_) (fun _ hm=>?_))
  ·
   refine sN 192 ?_
   iterate 3 refine pA ?_
   refine fs (AWp.ret (gD ?_));cases hm;exact aAj (.inr rfl) Tryz.results153 (td Z1 (aB.data _)) (td Z1 (aB.data _))
  ·
   refine AWp.skip (bI (AWp.seq' (sN 192 ?_)))
   iterate 2 refine pA ?_
   obtain ⟨r2,h1,hm⟩:=bnd hm;refine aR.callQ (r:= .v (.int .i64 r2)) Zd Z1 bH9 (fun H=>(cD (aB.data _) .nil)) (nD h1) ?_;refine pA ?_;refine fs (AWp.condM hm Z1 (fun _ hm=>?_) (fun _ hm=>?_))
   ·
    refine sN 256 ?_
    iterate 3 refine pA ?_
    refine fs (AWp.ret (gD ?_));cases hm;exact aAj (.inr rfl) Tryz.results153 (td Z1 (aB.data _)) (td Z1 (aB.data _))
   ·
    refine AWp.skip (bI (sN 256 (pA ?_)));obtain ⟨_,h3,hm⟩:=bnd hm;refine pu rfl (qJ Z1 (aB.av_nn (nO h3))) ?_
    iterate 2 refine pA ?_
    obtain ⟨r5,h4,hm⟩:=bnd hm;refine aR.callQ (r:= .v (.int .i64 r5)) Zd Z1 bH9 (fun H=>(cD (aB.data _) .nil)) (nD h4) ?_;refine pA ?_;refine fs (AWp.seq' (sN 320 ?_))
    iterate 3 refine pA ?_
    refine fs (AWp.condM hm Z1 (fun _ hm=>?_) (fun _ hm=>?_))
    ·
     refine sN 384 (pA ?_);obtain ⟨_,h6,hm⟩:=bnd hm;refine pu rfl (qJ Z1 (aB.av_nn (nO h6))) ?_
     iterate 3 refine pA ?_
     obtain ⟨⟨r8,r9⟩,h7,hm⟩:=bnd hm;refine aR.callQ (r:= .tup [aB.av r8,aB.av r9]) Zd Z1 bH8 (fun H=>(cD (aB.data _) (cV .nil))) (ih h7) ?_
     iterate 5 refine pA ?_
     refine fs (sd mix (by kernel_rfl) (N':=448) rfl ?_)
     iterate 3 refine pA ?_
     obtain ⟨_,h10,hm⟩:=bnd hm;refine pu rfl (qJ Z1 (aB.av_nn (nO h10))) ?_
     iterate 3 refine pA ?_
     obtain ⟨_,h11,hm⟩:=bnd hm;refine pu rfl (qJ Z1 (aB.av_nn (nO h11))) ?_
     iterate 2 refine pA ?_
     obtain ⟨r13,h12,hm⟩:=bnd hm;refine aR.callQ (r:=aB.av r13) Zd Z1 aWe (fun H=>(cD (aB.data _) (cD (.agg _ (dV.dat _)) (cD (aB.data _) .nil)))) (tQ h12) ?_
     iterate 2 refine pA ?_
     refine fs (AWp.ret (gD ?_));cases hm;exact aAj (.inr rfl) Tryz.results153 (td Z1 (aB.data _)) (td Z1 (aB.data _))
    ·
     refine AWp.skip (bI (sN 384 (pA ?_)));obtain ⟨_,h14,hm⟩:=bnd hm;refine pu rfl (qJ Z1 (aB.av_nn (nO h14))) ?_
     iterate 6 refine pA ?_
     obtain ⟨⟨r16,r17⟩,h15,hm⟩:=bnd hm;refine aR.callQ (r:= .tup [aB.av r16,aB.av r17]) Zd Z1 bH8 (fun H=>(cD (aB.data _) (cV .nil))) (ih h15) ?_
     iterate 5 refine pA ?_
     refine fs (sd mix (by kernel_rfl) (N':=448) rfl ?_);refine pA ?_;obtain ⟨_,h18,hm⟩:=bnd hm;refine pu rfl (qJ Z1 (aB.av_nn (nO h18))) ?_
     iterate 3 refine pA ?_
     obtain ⟨_,h19,hm⟩:=bnd hm;refine pu rfl (qJ Z1 (aB.av_nn (nO h19))) ?_
     iterate 3 refine pA ?_
     obtain ⟨r21,h20,hm⟩:=bnd hm;refine aR.callQ (r:=aB.av r21) Zd Z1 aWe (fun H=>(cD (aB.data _) (cD (.agg _ (dV.dat _)) (cD (aB.data _) .nil)))) (tQ h20) ?_
     iterate 3 refine pA ?_
     refine fs (AWp.ret ?_);cases hm;exact aAj (.inr rfl) Tryz.results153 (td Z1 (aB.data _)) (td Z1 (aB.data _))
theorem wP{s_0:aB}{aE4:Int}{r:aB×aB}(hm:rG s_0 aE4=some r):bH prog 153 [aB.av s_0,.v (.int .i64 aE4)] (.tup [aB.av r.1,aB.av r.2]):=aK8 aZ hm
def aDg(recf:(List bX)→Option (aB))(l_0:List bX):Option (aB):=
 (bif ((l_0.length:Int)==0) then
  some aB.nil
 else
  ((slc l_0 0 (IntKind.i64.wrap (Int.tdiv (l_0.length:Int) 2))).bind fun l2=>
  ((recf l2).bind fun r4=>
  ((idx l_0 (IntKind.i64.wrap (Int.tdiv (l_0.length:Int) 2))).bind fun x6=>
  ((slc l_0 (IntKind.i64.wrap ((IntKind.i64.wrap (Int.tdiv (l_0.length:Int) 2))+1)) (l_0.length:Int)).bind fun l8=>
  ((recf l8).bind fun r10=>
  ((dG r4 x6 r10).bind fun r12=>
  some r12)))))))
def yQ:Nat→(List bX)→Option (aB)
 |0=>fun _=>none
 |n+1=>aDg (yQ n)
def aJh(l_0:List bX):Option (aB):=yQ aZ l_0
theorem aQi: ∀(nn:Nat) {l_0:List bX} {r:aB} (hm:yQ nn l_0=some r),bH prog 155 [.sl (l_0.flatMap rS) l_0.length false] (aB.av r):=by
 intro nn
 induction nn with
 |zero=>
  intro l_0 r hm;replace hm:none=some r:=hm;cases hm
 |succ nn ih=>
  intro l_0 r hm;replace hm:aDg (yQ nn) l_0=some r:=hm;refine bH.of_body func155 rfl ?_;simp only [ntmps155,List.length_cons,List.length_nil,Nat.reduceAdd,Nat.reduceSub,eE];unfold aDg at hm;refine sN 64 (pA ?_);refine fs (AWp.seq' (sN 128 ?_))
  iterate 3 refine pA ?_
  refine fs (AWp.condM hm Z1 (fun _ hm=>?_) (fun _ hm=>?_))
  · refine sN 192 (pA ?_);refine fs (AWp.ret (gD ?_));cases hm;exact aH5 (.inr rfl) Tryz.results155 (td Z1 (aB.data _))
  ·
   refine AWp.skip (bI (sN 192 ?_))
   iterate 4 refine pu rfl Zj ?_
   refine fs (sd mix (by kernel_rfl) (N':=256) rfl ?_)
   iterate 2 refine pA ?_
   obtain ⟨l2,h1,hm⟩:=bnd hm;refine pu rfl (aTr dV underlying267 aWw Z1 rfl aQz (aAm Z1 (aWu h1).2) h1) ?_;obtain ⟨r4,h3,hm⟩:=bnd hm;refine aR.callQ (r:=aB.av r4) Zd Z1 bBt (fun H=>(.cons (tdf Z1 (dV.sl _ _ _)) .nil)) (ih h3) ?_
   iterate 2 refine pA ?_
   obtain ⟨x6,h5,hm⟩:=bnd hm;refine pu rfl (aF2 dV Zd underlying267 aWw Z1 rfl Z1 h5) ?_
   iterate 4 refine pA ?_
   obtain ⟨l8,h7,hm⟩:=bnd hm;refine pu rfl (aTr dV underlying267 aWw Z1 rfl (aAm Z1 (aWu h7).1) (aOz _) h7) ?_;obtain ⟨r10,h9,hm⟩:=bnd hm;refine aR.callQ (r:=aB.av r10) Zd Z1 bBt (fun H=>(.cons (tdf Z1 (dV.sl _ _ _)) .nil)) (ih h9) ?_;obtain ⟨r12,h11,hm⟩:=bnd hm;refine aR.callQ (r:=aB.av r12) Zd Z1 bHa (fun H=>(cD (aB.data _) (cD (.agg _ (dV.dat _)) (cD (aB.data _) .nil)))) (zX h11) ?_;refine pA ?_;refine fs (AWp.ret ?_);cases hm;exact aH5 (.inr rfl) Tryz.results155 (td Z1 (aB.data _))
theorem aSs{l_0:List bX}{r:aB}(hm:aJh l_0=some r):bH prog 155 [.sl (l_0.flatMap rS) l_0.length false] (aB.av r):=aQi aZ hm
def sI(a_0:aB)(b_1:aB):Option (aB):=
 ((qC b_1 0).bind fun ⟨r2,r3⟩=>
 (bif (!r3) then
  some a_0
 else
  ((rG b_1 1).bind fun ⟨r5,r6⟩=>
  ((oL a_0 r2 r6).bind fun r8=>
  some r8))))
theorem zW{a_0:aB}{b_1:aB}{r:aB}(hm:sI a_0 b_1=some r):bH prog 154 [aB.av a_0,aB.av b_1] (aB.av r):=by
 refine bd 26 func154 ?_;refine W ?_;obtain ⟨⟨r2,r3⟩,h1,hm⟩:=bnd hm;refine cq (yP h1) ?_;refine W ?_;refine cm hm (fun hm=>?_) fun hm=>?_
 · exact E
 refine W ?_;obtain ⟨⟨r5,r6⟩,h4,hm⟩:=bnd hm;refine cq (wP h4) ?_;obtain ⟨r8,h7,hm⟩:=bnd hm;refine W ?_;refine cq (tQ h7) ?_;exact E
instance:Ct prog 154 (K2 prog aB.av aB.av aB.av 154 sI):=⟨fun hm=>zW hm⟩
abbrev aF9(fC:Int)(n_2:Int)(t6:bK)(aLf:aB)(aD2:aB):Option (bK):=
 ((aJh [(bX.mk fC n_2)]).bind fun r7=>
 ((sI r7 aD2).bind fun r9=>
 ((sI aLf r9).bind fun r11=>
 some (bK.mk r11))))
def aI6(d_0:bK)(fC:Int)(n_2:Int):Option (bK):=
 ((aB2 d_0 fC).bind fun r2=>
 ((rG d_0.s r2).bind fun ⟨r4,r5⟩=>
 ((qC r5 0).bind fun ⟨r13,r14⟩=>
 (bif (r14&&(r13.Key==fC)) then
  ((rG r5 1).bind fun ⟨r16,r17⟩=>
  aF9 fC n_2 (bK.mk aB.nil) r4 r17)
 else
  aF9 fC n_2 (bK.mk aB.nil) r4 r5))))
theorem aXq{d_0:bK}{fC:Int}{n_2:Int}{r:bK}(hm:aI6 d_0 fC n_2=some r):bH prog 118 [.agg [aB.av d_0.s],vu fC,vi n_2] (.agg [aB.av r.s]):=by
 refine bd 47 func118 ?_;obtain ⟨r2,h1,hm⟩:=bnd hm;refine W ?_;refine cq (aL0 h1) ?_;obtain ⟨⟨r4,r5⟩,h3,hm⟩:=bnd hm;refine cq (wP h3) ?_;refine V ?_;refine AWp.seqJ (fun s=> ∃fC n_2 t6 aLf aD2,s=⟨47,(aD (aD (aD (aD (aD fa 1 (vu fC)) 2 (vi n_2)) 6 (.adr 1 0)) 7 (aB.av aLf)) 8 (aB.av aD2)),⟨(upd aV 1 (.cells 1 [aB.av t6.s] 0)),64⟩⟩∧aF9 fC n_2 t6 aLf aD2=some r) ?_ ?_
 ·
  refine W ?_;obtain ⟨⟨r13,r14⟩,h12,hm⟩:=bnd hm;refine cq (yP h12) ?_;refine W ?_;refine cm hm (fun hm=>?_) fun hm=>?_
  · refine W ?_;obtain ⟨⟨r16,r17⟩,h15,hm⟩:=bnd hm;refine cq (wP h15) ?_;refine W ?_;exact Lr (fun j=>bif j==1 then 1 else 0)
  refine W ?_;exact Lr (fun j=>bif j==1 then 1 else 0)
 rintro s ⟨fC,n_2,t6,aLf,aD2,rfl,hm⟩;refine W ?_;refine bU (.agg [vu fC,vi n_2]) ?_;refine aL dV [(bX.mk fC n_2)] ?_;obtain ⟨r7,h6,hm⟩:=bnd hm;refine aR.callL1 (r:=aB.av r7) (id:=68) Zd Z1 bBt Z3 (.cons (tdl dV Z1 Z3 (by simp) Z6) .nil) (aSs h6) ?_;obtain ⟨r9,h8,hm⟩:=bnd hm;refine W ?_;refine cq (zW h8) ?_;obtain ⟨r11,h10,hm⟩:=bnd hm;refine cq (zW h10) ?_;refine pu rfl (by simp only [go_sem,Nat.reduceBEq];exact bB2 (aB.cells _)) ?_;exact E
instance:Ct prog 118 (K3 prog oY vu vi oY 118 aI6):=⟨fun hm=>aXq hm⟩
abbrev aEy(rec1:bK→bK→List bB→Int→Int→Option (bK×Bool))(t2:bK)(kG:bK)(t14:List bB)(t15:Int)(t16:Int):Option (bK×Bool):=
 rec1 t2 kG t14 t15 (IntKind.i64.wrap (t16+1))
def aNn(rec1:bK→bK→List bB→Int→Int→Option (bK×Bool))(t2:bK)(kG:bK)(t14:List bB)(t15:Int)(t16:Int):Option (bK×Bool):=
 (bif (decide (t16<t15)) then
  ((idx t14 t16).bind fun x4=>
  (bif (!x4.Used) then
   (bif (x4.Key !=0) then
    some ((bK.mk aB.nil),false)
   else
    aEy rec1 t2 kG t14 t15 t16)
  else
   ((uO kG x4.Key).bind fun ⟨r6,r7⟩=>
   (bif r7 then
    some ((bK.mk aB.nil),false)
   else
    ((aI6 kG x4.Key t16).bind fun r9=>
    aEy rec1 t2 r9 t14 t15 t16)))))
 else
  some (kG,true))
def aA1:Nat→bK→bK→List bB→Int→Int→Option (bK×Bool)
 |0=>fun _ _ _ _ _=>none
 |n+1=>aNn (aA1 n)
def nF(l_0:List bB):Option (bK×Bool):=
 ((uN (l_0.length:Int)).bind fun r2=>
 (bif (!r2) then
  some ((bK.mk aB.nil),false)
 else
  aA1 aZ (bK.mk aB.nil) (bK.mk aB.nil) l_0 (l_0.length:Int) 0))
theorem aC3:K1 prog (vl aU) (t2 oY vb) 78 nF:=by
 intro l_0 r hm
 let I1:=((fun m s=> ∃t2 kG t14 t15 t16,s=⟨44,(aD (aD (aD (aD (aD fa 2 (.adr 1 0)) 4 (.adr 2 0)) 14 (vl aU t14)) 15 (vi t15)) 16 (vi t16)),⟨(upd (upd aV 1 (.cells 1 [aB.av t2.s] 0)) 2 (.cells 1 [aB.av kG.s] 0)),64⟩⟩∧aA1 m t2 kG t14 t15 t16=some r):Nat→St→Prop)
 exact be 44 func78 (h:=G)
instance:Ct prog 78 (K1 prog (vl aU) (t2 oY vb) 78 nF):=⟨aC3⟩
def aC4(l_0:List bB):Option (Bool):=
 ((nF l_0).bind fun ⟨r2,r3⟩=>
 some r3)
theorem aQv:K1 prog (vl aU) vb 77 aC4:=fun hm=>be 11 func77 (h:=G)
instance:Ct prog 77 (K1 prog (vl aU) vb 77 aC4):=⟨aQv⟩
def aQn(rec1:aI→List aC→Int→Int→Option (Bool))(s_1:aI)(t27:List aC)(t28:Int)(t29:Int):Option (Bool):=
 (bif (decide (t29<t28)) then
  ((idx t27 t29).bind fun x6=>
  ((idx s_1.Slots x6.U).bind fun x8=>
  ((dT ((!x8.Used)==false) (bB.mk false 0) (idx s_1.Slots x6.V)).bind fun x10=>
  (bif ((!x8.Used)||(!x10.Used)) then
   some false
  else
   rec1 s_1 t27 t28 (IntKind.i64.wrap (t29+1))))))
 else
  some true)
def aBx:Nat→aI→List aC→Int→Int→Option (Bool)
 |0=>fun _ _ _ _=>none
 |n+1=>aQn (aBx n)
def aDk(s_0:aI):Option (Bool):=
 ((dC s_0.Graph).bind fun r2=>
 ((dT ((!r2)==false) false (aC4 s_0.Slots)).bind fun r4=>
 (bif (((!r2)||(!r4))||((s_0.Slots.length:Int) !=s_0.Graph.Config.N)) then
  some false
 else
  aBx aZ s_0 s_0.Graph.Edges (s_0.Graph.Edges.length:Int) 0)))
theorem aSu:K1 prog dB vb 36 aDk:=by
 intro s_0 r hm
 let I1:=((fun m s=> ∃s_1 t27 t28 t29,s=⟨52,(aD (aD (aD (aD fa 1 (.adr 1 0)) 27 (vl aH t27)) 28 (vi t28)) 29 (vi t29)),⟨(upd aV 1 (.cells 1 [vi s_1.Graph.Config.N,vi s_1.Graph.Config.L,vi s_1.Graph.Config.R,vl bC s_1.Graph.Hashes,vl aH s_1.Graph.Edges,vl aU s_1.Slots] 0)),64⟩⟩∧aBx m s_1 t27 t28 t29=some r):Nat→St→Prop)
 exact be 52 func36 (h:=G)
instance:Ct prog 36 (K1 prog dB vb 36 aDk):=⟨aSu⟩
def yU(l_0:List bB)(fC:Int):Option (Int×Bool):=
 ((nF l_0).bind fun ⟨r2,r3⟩=>
 (bif (!r3) then
  some (0,false)
 else
  ((uO r2 fC).bind fun ⟨r5,r6⟩=>
  some (r5,r6))))
theorem aT4:K2 prog (vl aU) vu (t2 vi vb) 37 yU:=fun hm=>be 20 func37 (h:=G)
instance:Ct prog 37 (K2 prog (vl aU) vu (t2 vi vb) 37 yU):=⟨aT4⟩
def aB8(aRq:Int):Option (Bool):=
 some (((decide (2≤aRq))&&(decide (aRq≤11)))&&(aRq !=10))
theorem aPs:K1 prog vi vb 38 aB8:=fun hm=>be 13 func38 (h:=G)
instance:Ct prog 38 (K1 prog vi vb 38 aB8):=⟨aPs⟩
def aB9(aRq:Int):Option (Bool):=
 some ((((aRq==3)||(aRq==4))||(aRq==5))||(aRq==8))
theorem aPt:K1 prog vi vb 39 aB9:=fun hm=>be 17 func39 (h:=G)
instance:Ct prog 39 (K1 prog vi vb 39 aB9):=⟨aPt⟩
def xY(s_0:aI)(v_1:Int):Option ((List Int)):=
 ((aDn s_0.Graph.Config.N s_0.Graph.Edges v_1).bind fun r2=>
 some r2)
theorem aS4:K2 prog dB vi (vl (ci .i64)) 83 xY:=fun hm=>be 14 func83 (h:=G)
instance:Ct prog 83 (K2 prog dB vi (vl (ci .i64)) 83 xY):=⟨aS4⟩
def sH(s_0:aI)(v_1:Int):Option (Int):=
 ((xY s_0 v_1).bind fun r2=>
 some (r2.length:Int))
theorem aN3:K2 prog dB vi vi 81 sH:=fun hm=>be 9 func81 (h:=G)
instance:Ct prog 81 (K2 prog dB vi vi 81 sH):=⟨aN3⟩
def mV(x_0:Int):Option (Bool):=
 some (x_0 !=x_0)
theorem aI1:K1 prog vu vb 162 mV:=fun hm=>be 6 func162 (h:=G)
instance:Ct prog 162 (K1 prog vu vb 162 mV):=⟨aI1⟩
def tF(x_0:Int)(y_1:Int):Option (Bool):=
 ((mV x_0).bind fun r2=>
 ((dT (r2==true) false (mV y_1)).bind fun r4=>
 some ((r2&&(!r4))||(decide (x_0<y_1)))))
theorem aC6:K2 prog vu vu vb 199 tF:=fun hm=>be 17 func199 (h:=G)
instance:Ct prog 199 (K2 prog vu vu vb 199 tF):=⟨aC6⟩
def eQ(rec1:List Int→Int→Int→Int→Option (List Int))(rec2:List Int→Int→Int→Int→Int→Option (List Int))(bZ:List Int)(a_1:Int)(b_2:Int)(i_6:Int)(j_7:Int):Option (List Int):=
 ((dT ((decide (a_1<j_7))==true) 0 (idx bZ j_7)).bind fun x2=>
 ((dT ((decide (a_1<j_7))==true) 0 (idx bZ (IntKind.i64.wrap (j_7-1)))).bind fun x4=>
 ((dT ((decide (a_1<j_7))==true) false (tF x2 x4)).bind fun r6=>
 (bif ((decide (a_1<j_7))&&r6) then
  ((idx bZ (IntKind.i64.wrap (j_7-1))).bind fun x8=>
  ((idx bZ j_7).bind fun x10=>
  ((idx bZ j_7).bind fun x12=>
  ((stt bZ j_7 x8).bind fun l14=>
  ((idx l14 (IntKind.i64.wrap (j_7-1))).bind fun x16=>
  ((stt l14 (IntKind.i64.wrap (j_7-1)) x10).bind fun l18=>
  rec2 l18 a_1 b_2 i_6 (IntKind.i64.wrap (j_7-1))))))))
 else
  rec1 bZ a_1 b_2 (IntKind.i64.wrap (i_6+1))))))
def dQ(rec1:List Int→Int→Int→Int→Option (List Int)):Nat→List Int→Int→Int→Int→Int→Option (List Int)
 |0=>fun _ _ _ _ _=>none
 |n+1=>eQ rec1 (dQ rec1 n)
def eP(rec1:List Int→Int→Int→Int→Option (List Int))(bZ:List Int)(a_1:Int)(b_2:Int)(i_6:Int):Option (List Int):=
 (bif (decide (i_6<b_2)) then
  dQ rec1 aZ bZ a_1 b_2 i_6 i_6
 else
  some bZ)
def bO:Nat→List Int→Int→Int→Int→Option (List Int)
 |0=>fun _ _ _ _=>none
 |n+1=>eP (bO n)
def eT(bZ:List Int)(a_1:Int)(b_2:Int):Option (List Int):=
 bO aZ bZ a_1 b_2 (IntKind.i64.wrap (a_1+1))
theorem oW{bZ:List Int}{a_1:Int}{b_2:Int}{r:List Int}(hm:eT bZ a_1 b_2=some r){H:aG}{i0:Nat}(he:H.ent i0= .cells 1 (bZ.flatMap (ci .u64)) 0):eC prog 193 [.own i0 0 bZ.length,.v (.int .i64 a_1),.v (.int .i64 b_2)] H (.tup []) (H.put i0 (.cells 1 (r.flatMap (ci .u64)) 0)):=by
 refine eC.of_bodyM func193 rfl he ?_;generalize H.ent=h0;simp only [ntmps193,List.length_cons,List.length_nil,Nat.reduceAdd,Nat.reduceSub];unfold eT at hm;refine sN 64 ?_
 iterate 3 refine pA ?_
 refine fs (AWp.block (AWp.loopM (fun m s=> ∃(bZ:List Int) (a_1:Int) (b_2:Int) (i_6:Int),s=(⟨49,(aD (aD (aD (aD (fun _=>AV.any) 0 (.own i0 0 bZ.length)) 1 (.v (.int .i64 a_1))) 2 (.v (.int .i64 b_2))) 6 (.v (.int .i64 i_6))),⟨(upd h0 i0 (.cells 1 (bZ.flatMap (ci .u64)) 0)),64⟩⟩:St)∧bO m bZ a_1 b_2 i_6=some r) aZ ?_ ?_ ?_))
 · rintro s ⟨_,_,_,_,_,h⟩;cases h
 · refine ⟨_,?_,bZ,a_1,b_2,(IntKind.i64.wrap (a_1+1)),rfl,hm⟩;exact aFe (eB 6 _ Z1 (eB 2 _ Z1 (eB 1 _ Z1 (eB 0 _ (aFh Z1 Z6) aBg)))) Zc
 ·
  rintro n1 s ⟨bZ,a_1,b_2,i_6,rfl,hm⟩;replace hm:eP (bO n1) bZ a_1 b_2 i_6=some r:=hm;unfold eP at hm;refine AWp.seq' (sN 128 ?_)
  iterate 3 refine pA ?_
  refine fs (AWp.condM hm Z1 (fun _ hm=>?_) (fun _ hm=>?_))
  ·
   refine AWp.skip (bI (AWp.seq' (AWp.block (sN 192 ?_))))
   iterate 2 refine pA ?_
   refine fs (AWp.block (AWp.loopM (fun m s=> ∃(bZ:List Int) (a_1:Int) (b_2:Int) (i_6:Int) (j_7:Int),s=(⟨49,(aD (aD (aD (aD (aD (fun _=>AV.any) 0 (.own i0 0 bZ.length)) 1 (.v (.int .i64 a_1))) 2 (.v (.int .i64 b_2))) 6 (.v (.int .i64 i_6))) 7 (.v (.int .i64 j_7))),⟨(upd h0 i0 (.cells 1 (bZ.flatMap (ci .u64)) 0)),64⟩⟩:St)∧dQ (bO n1) m bZ a_1 b_2 i_6 j_7=some r) aZ ?_ ?_ ?_))
   · rintro s ⟨_,_,_,_,_,_,h⟩;cases h
   · refine ⟨_,?_,bZ,a_1,b_2,i_6,i_6,rfl,hm⟩;exact aFe (eB 7 _ Z1 (eB 6 _ Z1 (eB 2 _ Z1 (eB 1 _ Z1 (eB 0 _ (aFh Z1 Z6) aBg))))) Zc
   ·
    rintro n2 s ⟨bZ,a_1,b_2,i_6,j_7,rfl,hm⟩;replace hm:eQ (bO n1) (dQ (bO n1) n2) bZ a_1 b_2 i_6 j_7=some r:=hm;unfold eQ at hm;refine AWp.seq' (sd mix (by kernel_rfl) (N':=128) rfl ?_)
    iterate 6 first|refine pA ?_|refine pB ?_
    obtain ⟨x2,h1,hm⟩:=bnd hm;refine pg rfl rfl Z2 (fun hb=>(eK underlying24 aK9 (Zh hb) Za Z6 (Zh hb) (eJ h1 hb))) ?_;refine pg rfl rfl Z2 (fun hb=>(rQ (CFi .u64) (Zh hb) Za (eJ h1 hb) Zb)) ?_
    iterate 3 refine pB ?_
    obtain ⟨x4,h3,hm⟩:=bnd hm;refine pg rfl rfl Z2 (fun hb=>(eK underlying24 aK9 (Zh hb) Za Z6 (Zh hb) (eJ h3 hb))) ?_;refine pg rfl rfl Z2 (fun hb=>(rQ (CFi .u64) (Zh hb) Za (eJ h3 hb) Zb)) ?_;obtain ⟨r6,h5,hm⟩:=bnd hm;refine aR.callQG (r:= .v (.bool r6)) Zd rfl Z2 Z1 bKb (fun hb H=>(.cons (td (Zh hb) (.v _)) (.cons (td (Zh hb) (.v _)) .nil))) (fun hb=>aC6 (eJ h5 hb)) ?_;refine pA ?_;refine fs (AWp.condM hm Z1 (fun _ hm=>?_) (fun _ hm=>?_))
    ·
     refine AWp.skip (bI (AWp.seq' (AWp.block (AWp.regD 64 mix (by kernel_rfl) (N':=192) rfl ?_))))
     iterate 8 refine pA ?_
     obtain ⟨x8,h7,hm⟩:=bnd hm;refine pu rfl (eK underlying24 aK9 Z1 Za Z6 Z1 h7) ?_;refine pu rfl (rQ (CFi .u64) Z1 Za h7 Zb) ?_
     iterate 2 refine pA ?_
     obtain ⟨x10,h9,hm⟩:=bnd hm;refine pu rfl (eK underlying24 aK9 Z1 Za Z6 Z1 h9) ?_;refine pu rfl (rQ (CFi .u64) Z1 Za h9 Zb) ?_;obtain ⟨x12,h11,hm⟩:=bnd hm;refine pu rfl (eK underlying24 aK9 Z1 Za Z6 Z1 h11) ?_;obtain ⟨l14,h13,hm⟩:=bnd hm;have qh13:=kF h13;refine aR.heap0 (id:=143) rfl (aAp (CFi .u64) aK9 Z1 Z1 Za rfl h13) ?_;obtain ⟨x16,h15,hm⟩:=bnd hm;refine pu rfl (eK underlying24 aK9 Z1 Za Z6 Z1 h15) ?_;obtain ⟨l18,h17,hm⟩:=bnd hm;have qh17:=kF h17;refine aR.heap0 (id:=145) rfl (aAp (CFi .u64) aK9 Z1 Z1 Za rfl h17) ?_;refine aR.fin (fY (bI (AWp.reg 64 (N':=256) rfl ?_)))
     iterate 3 refine pA ?_
     refine aR.fin (eX ?_);refine ⟨_,?_,l18,a_1,b_2,i_6,(IntKind.i64.wrap (j_7-1)),rfl,hm⟩;exact aFe (eB 7 _ Z1 (eB 6 _ Z1 (eB 2 _ Z1 (eB 1 _ Z1 (eB 0 _ (aFh Z1 Z6) aBg))))) Zc
    ·
     refine AWp.exit (gX (fF (fE (fY (bI (AWp.reg 64 (N':=192) rfl ?_))))))
     iterate 3 refine pA ?_
     refine aR.fin (eX ?_);refine ⟨_,?_,bZ,a_1,b_2,(IntKind.i64.wrap (i_6+1)),rfl,hm⟩;exact aFe (eB 6 _ Z1 (eB 2 _ Z1 (eB 1 _ Z1 (eB 0 _ (aFh Z1 Z6) aBg)))) Zc
  · refine AWp.exit (gX (fF (fE ?_)));cases hm;exact bDa (.inl rfl) Tryz.results193 Zc
def gF(recf:(List Int)→Int→Int→Int→Option (List Int))(rec1:List Int→Int→Int→Int→Bool→Bool→Option (List Int))(bZ:List Int)(a_1:Int)(b_2:Int)(gJ:Int)(oI:Bool)(jR:Bool):Option (List Int):=
 (bif (decide ((IntKind.i64.wrap (b_2-a_1))≤12)) then
  ((aVd (fun x=>x.length) bZ.length (eT bZ a_1 b_2)).bind fun l2=>
  some l2)
 else
  (bif (gJ==0) then
   none
  else
   none))
def eN(recf:(List Int)→Int→Int→Int→Option (List Int)):Nat→List Int→Int→Int→Int→Bool→Bool→Option (List Int)
 |0=>fun _ _ _ _ _ _=>none
 |n+1=>gF recf (eN recf n)
def gP(recf:(List Int)→Int→Int→Int→Option (List Int))(bZ:List Int)(a_1:Int)(b_2:Int)(gJ:Int):Option (List Int):=
 eN recf aZ bZ a_1 b_2 gJ true true
def cP:Nat→(List Int)→Int→Int→Int→Option (List Int)
 |0=>fun _ _ _ _=>none
 |n+1=>gP (cP n)
def kO(bZ:List Int)(a_1:Int)(b_2:Int)(gJ:Int):Option (List Int):=cP aZ bZ a_1 b_2 gJ
theorem tC: ∀(nn:Nat) {bZ:List Int} {a_1:Int} {b_2:Int} {gJ:Int} {r:List Int} (hm:cP nn bZ a_1 b_2 gJ=some r) {H:aG} {i0:Nat} (he:H.ent i0= .cells 1 (bZ.flatMap (ci .u64)) 0),eC prog 159 [.own i0 0 bZ.length,.v (.int .i64 a_1),.v (.int .i64 b_2),.v (.int .i64 gJ)] H (.tup []) (H.put i0 (.cells 1 (r.flatMap (ci .u64)) 0)):=by
 intro nn
 induction nn with
 |zero=>
  intro bZ a_1 b_2 gJ r hm;replace hm:none=some r:=hm;cases hm
 |succ nn ih=>
  intro bZ a_1 b_2 gJ r hm H i0 he;replace hm:gP (cP nn) bZ a_1 b_2 gJ=some r:=hm;refine eC.of_bodyM func159 rfl he ?_;generalize H.ent=h0;simp only [ntmps159,List.length_cons,List.length_nil,Nat.reduceAdd,Nat.reduceSub];unfold gP at hm;refine sN 64 (pA ?_);refine fs (sN 128 (pA ?_));refine fs (AWp.block (AWp.loopM (fun m s=> ∃(bZ:List Int) (a_1:Int) (b_2:Int) (gJ:Int) (oI:Bool) (jR:Bool),s=(⟨134,(aD (aD (aD (aD (aD (aD (fun _=>AV.any) 0 (.own i0 0 bZ.length)) 1 (.v (.int .i64 a_1))) 2 (.v (.int .i64 b_2))) 3 (.v (.int .i64 gJ))) 8 (.v (.bool oI))) 9 (.v (.bool jR))),⟨(upd h0 i0 (.cells 1 (bZ.flatMap (ci .u64)) 0)),64⟩⟩:St)∧eN (cP nn) m bZ a_1 b_2 gJ oI jR=some r) aZ ?_ ?_ ?_))
  · rintro s ⟨_,_,_,_,_,_,_,h⟩;cases h
  · refine ⟨_,?_,bZ,a_1,b_2,gJ,true,true,rfl,hm⟩;exact aFe (eB 9 _ Z1 (eB 8 _ Z1 (eB 3 _ Z1 (eB 2 _ Z1 (eB 1 _ Z1 (eB 0 _ (aFh Z1 Z6) aBg)))))) Zc
  ·
   rintro n1 s ⟨bZ,a_1,b_2,gJ,oI,jR,rfl,hm⟩;replace hm:gF (cP nn) (eN (cP nn) n1) bZ a_1 b_2 gJ oI jR=some r:=hm;unfold gF at hm;refine AWp.block (sN 128 ?_)
   iterate 4 refine pA ?_
   refine fs (AWp.seq' (sN 192 ?_))
   iterate 2 refine pA ?_
   refine fs (AWp.condM hm Z1 (fun _ hm=>?_) (fun _ hm=>?_))
   ·
    refine sN 256 ?_
    iterate 3 refine pA ?_
    obtain ⟨l2,h1,hm⟩:=bnd hm;have qh1:=aVe h1;refine aR.callM Zd Z1 bKa ?_ (oW (aPw h1) (i0:=i0) Za) ?_
    ·
     try simp only [go_sem,Nat.reduceBEq]
     first|done|rfl|(congr 2<;>omega)
    refine fs (AWp.ret (gD (rA (rB (rA ?_)))));cases hm;exact bDa (.inr rfl) Tryz.results159 Zc
   ·
    refine AWp.skip (bI (AWp.seq' (sN 256 ?_)))
    iterate 2 refine pA ?_
    refine fs (AWp.condM hm Z1 (fun _ hm=>?_) (fun _ hm=>?_))
    · cases hm
    · cases hm
theorem tU{bZ:List Int}{a_1:Int}{b_2:Int}{gJ:Int}{r:List Int}(hm:kO bZ a_1 b_2 gJ=some r){H:aG}{i0:Nat}(he:H.ent i0= .cells 1 (bZ.flatMap (ci .u64)) 0):eC prog 159 [.own i0 0 bZ.length,.v (.int .i64 a_1),.v (.int .i64 b_2),.v (.int .i64 gJ)] H (.tup []) (H.put i0 (.cells 1 (r.flatMap (ci .u64)) 0)):=tC aZ hm he
def oX(x_0:List Int):Option (List Int):=
 ((aDt (IntKind.u64.wrap (x_0.length:Int))).bind fun r2=>
 ((aVd (fun x=>x.length) x_0.length (kO x_0 0 (x_0.length:Int) r2)).bind fun l4=>
 some l4))
theorem aFy{x_0:List Int}{r:List Int}(hm:oX x_0=some r){H:aG}{i0:Nat}(he:H.ent i0= .cells 1 (x_0.flatMap (ci .u64)) 0):eC prog 121 [.own i0 0 x_0.length] H (.tup []) (H.put i0 (.cells 1 (r.flatMap (ci .u64)) 0)):=by
 refine eC.of_bodyM func121 rfl he ?_;generalize H.ent=h0;simp only [ntmps121,List.length_cons,List.length_nil,Nat.reduceAdd,Nat.reduceSub];unfold oX at hm;refine sN 64 ?_
 iterate 3 refine pA ?_
 refine fs (AWp.reg 64 (N':=128) rfl ?_)
 iterate 4 refine pA ?_
 obtain ⟨r2,h1,hm⟩:=bnd hm;refine aR.callQ (r:= .v (.int .i64 r2)) Zd Z1 bK8 (fun H=>(cV .nil)) (aNv h1) ?_;obtain ⟨l4,h3,hm⟩:=bnd hm;have qh3:=aVe h3;refine aR.callM Zd Z1 bK7 ?_ (tU (aPw h3) (i0:=i0) Za) ?_
 ·
  try simp only [go_sem,Nat.reduceBEq]
  first|done|rfl|(congr 2<;>omega)
 refine aR.fin ?_;cases hm;exact bDa (.inl rfl) Tryz.results121 Zc
abbrev aBa(rec1:aI→List Int→List Int→Int→Int→Option ((List Int)))(s_2:aI)(fS:List Int)(t8:List Int)(t9:Int)(t10:Int):Option ((List Int)):=
 rec1 s_2 fS t8 t9 (IntKind.i64.wrap (t10+1))
def aPu(rec1:aI→List Int→List Int→Int→Int→Option ((List Int)))(s_2:aI)(fS:List Int)(t8:List Int)(t9:Int)(t10:Int):Option ((List Int)):=
 (bif (decide (t10<t9)) then
  ((idx t8 t10).bind fun x2=>
  ((idx s_2.Slots x2).bind fun x4=>
  (bif x4.Used then
   ((idx s_2.Slots x2).bind fun x6=>
   ((app fS [x6.Key]).bind fun l8=>
   aBa rec1 s_2 l8 t8 t9 t10))
  else
   aBa rec1 s_2 fS t8 t9 t10)))
 else
  ((aVd (fun x=>x.length) fS.length (oX fS)).bind fun l10=>
  some l10))
def uD:Nat→aI→List Int→List Int→Int→Int→Option ((List Int))
 |0=>fun _ _ _ _ _=>none
 |n+1=>aPu (uD n)
def sT(s_0:aI)(l_1:List Int):Option ((List Int)):=
 uD aZ s_0 [] l_1 (l_1.length:Int) 0
theorem aS3{s_0:aI}{l_1:List Int}{r:(List Int)}(hm:sT s_0 l_1=some r):bH prog 82 [.agg [vi s_0.Graph.Config.N,vi s_0.Graph.Config.L,vi s_0.Graph.Config.R,vl bC s_0.Graph.Hashes,vl aH s_0.Graph.Edges,vl aU s_0.Slots],vl (ci .i64) l_1] (vl (ci .u64) r):=by
 refine bd 33 func82 ?_;refine W ?_;refine lp (fun m s=> ∃s_2 fS t8 t9 t10,s=⟨33,(aD (aD (aD (aD (aD fa 2 (.adr 1 0)) 5 (.own 2 0 fS.length)) 8 (vl (ci .i64) t8)) 9 (vi t9)) 10 (vi t10)),⟨(upd (upd aV 1 (.cells 1 [vi s_2.Graph.Config.N,vi s_2.Graph.Config.L,vi s_2.Graph.Config.R,vl bC s_2.Graph.Hashes,vl aH s_2.Graph.Edges,vl aU s_2.Slots] 0)) 2 (.cells 1 (fS.flatMap (ci .u64)) 0)),64⟩⟩∧uD m s_2 fS t8 t9 t10=some r) ?_ ?_
 · refine ⟨_,?_,s_0,[],l_1,(l_1.length:Int),0,rfl,hm⟩;refine St.Le.trans (oP 5 900005 1 Z1 Z5) ?_;exact cn (fun j=>bif j==1 then 0 else bif j==2 then 900005 else 0)
 rintro n1 s ⟨s_2,fS,t8,t9,t10,rfl,hm⟩;refine W ?_;refine cm hm (fun hm=>?_) fun hm=>?_
 ·
  refine V ?_;refine AWp.seqJ (fun s=> ∃s_2 fS t8 t9 t10,s=⟨33,(aD (aD (aD (aD (aD fa 2 (.adr 1 0)) 5 (.own 2 0 fS.length)) 8 (vl (ci .i64) t8)) 9 (vi t9)) 10 (vi t10)),⟨(upd (upd aV 1 (.cells 1 [vi s_2.Graph.Config.N,vi s_2.Graph.Config.L,vi s_2.Graph.Config.R,vl bC s_2.Graph.Hashes,vl aH s_2.Graph.Edges,vl aU s_2.Slots] 0)) 2 (.cells 1 (fS.flatMap (ci .u64)) 0)),64⟩⟩∧aBa (uD n1) s_2 fS t8 t9 t10=some r) ?_ ?_
  ·
   obtain ⟨x2,h1,hm⟩:=bnd hm;obtain ⟨x4,h3,hm⟩:=bnd hm;refine W ?_;refine cm hm (fun hm=>?_) fun hm=>?_
   · have hm:=sb hm h3;refine W ?_;refine aL (CFi .u64) [x4.Key] ?_;obtain ⟨l8,h7,hm⟩:=bnd hm;refine W ?_;exact Lr (fun j=>bif j==1 then 1 else bif j==2 then 264 else 0)
   refine W ?_;exact Lr (fun j=>bif j==1 then 1 else bif j==2 then 2 else 0)
  rintro s ⟨s_2,fS,t8,t9,t10,rfl,hm⟩;refine W ?_;exact Lr (fun j=>bif j==1 then 1 else bif j==2 then 2 else 0)
 obtain ⟨l10,h9,hm⟩:=bnd hm;refine W ?_;have qh9:=aVe h9;refine aR.callM Zd Z1 bK2 Z1 (aFy (aPw h9) Z3) ?_;exact E
instance:Ct prog 82 (K2 prog dB (vl (ci .i64)) (vl (ci .u64)) 82 sT):=⟨fun hm=>aS3 hm⟩
abbrev aC7(rec1:aI→Int→List Int→Int→Int→Option (Int))(s_2:aI)(aCt:Int)(t8:List Int)(t9:Int)(t10:Int):Option (Int):=
 rec1 s_2 aCt t8 t9 (IntKind.i64.wrap (t10+1))
def aJx(rec1:aI→Int→List Int→Int→Int→Option (Int))(s_2:aI)(aCt:Int)(t8:List Int)(t9:Int)(t10:Int):Option (Int):=
 (bif (decide (t10<t9)) then
  ((idx t8 t10).bind fun x2=>
  ((dT ((t10==x2)==true) (bB.mk false 0) (idx s_2.Slots t10)).bind fun x4=>
  (bif ((t10==x2)&&x4.Used) then
   aC7 rec1 s_2 (IntKind.i64.wrap (aCt+1)) t8 t9 t10
  else
   aC7 rec1 s_2 aCt t8 t9 t10)))
 else
  some aCt)
def tH:Nat→aI→Int→List Int→Int→Int→Option (Int)
 |0=>fun _ _ _ _ _=>none
 |n+1=>aJx (tH n)
def vS(s_0:aI)(aVb:List Int):Option (Int):=
 tH aZ s_0 0 aVb (aVb.length:Int) 0
theorem aL9:K2 prog dB (vl (ci .i64)) vi 85 vS:=by
 intro s_0 aVb r hm
 let I1:=((fun m s=> ∃s_2 aCt t8 t9 t10,s=⟨30,(aD (aD (aD (aD (aD fa 2 (.adr 1 0)) 5 (vi aCt)) 8 (vl (ci .i64) t8)) 9 (vi t9)) 10 (vi t10)),⟨(upd aV 1 (.cells 1 [vi s_2.Graph.Config.N,vi s_2.Graph.Config.L,vi s_2.Graph.Config.R,vl bC s_2.Graph.Hashes,vl aH s_2.Graph.Edges,vl aU s_2.Slots] 0)),64⟩⟩∧tH m s_2 aCt t8 t9 t10=some r):Nat→St→Prop)
 exact be 30 func85 (h:=G)
instance:Ct prog 85 (K2 prog dB (vl (ci .i64)) vi 85 vS):=⟨aL9⟩
def zI(s_0:aI)(xG:Int)(u_2:Int)(v_3:Int):Option (GA):=
 ((jV s_0.Graph).bind fun r2=>
 (bif (xG==5) then
  ((kB s_0.Graph.Edges u_2 v_3).bind fun ⟨r4,r5⟩=>
  some (GA.b 4 r5))
 else
  (bif (xG==6) then
   ((sH s_0 u_2).bind fun r7=>
   some (GA.i 3 .i64 r7))
  else
   (bif (xG==7) then
    ((xY s_0 u_2).bind fun r9=>
    ((sT s_0 r9).bind fun r11=>
    some (GA.lu 24 r11)))
   else
    (bif (xG==8) then
     ((idx r2 u_2).bind fun x13=>
     ((idx r2 v_3).bind fun x15=>
     some (GA.b 4 (x13==x15))))
    else
     (bif (xG==9) then
      ((lV r2 u_2).bind fun r17=>
      ((sT s_0 r17).bind fun r19=>
      some (GA.i 3 .i64 (r19.length:Int))))
     else
      (bif (xG==10) then
       ((vS s_0 r2).bind fun r21=>
       some (GA.i 3 .i64 r21))
      else
       (bif (xG==11) then
        ((lV r2 u_2).bind fun r23=>
        ((sT s_0 r23).bind fun r25=>
        some (GA.lu 24 r25)))
       else
        (bif (xG==12) then
         none
        else
         (bif (xG==13) then
          ((mR s_0.Graph).bind fun r27=>
          some (GA.b 4 r27))
         else
          none))))))))))
theorem aN1:K4 prog dB vi vi vi GA.av 40 zI:=fun hm=>be 98 func40 (h:=G)
instance:Ct prog 40 (K4 prog dB vi vi vi GA.av 40 zI):=⟨aN1⟩
def aBw(f_1:(bB→Option (Bool)))(rec1:List bB→Int→Int→Option (Int))(s_0:List bB)(t7:Int)(t8:Int):Option (Int):=
 (bif (decide (t8<t7)) then
  ((idx s_0 t8).bind fun x2=>
  ((f_1 x2).bind fun r4=>
  (bif r4 then
   some t8
  else
   rec1 s_0 t7 (IntKind.i64.wrap (t8+1)))))
 else
  some (-1))
def kE(f_1:(bB→Option (Bool))):Nat→List bB→Int→Int→Option (Int)
 |0=>fun _ _ _=>none
 |n+1=>aBw f_1 (kE f_1 n)
def rN(s_0:List bB)(f_1:(bB→Option (Bool))):Option (Int):=
 kE f_1 aZ s_0 (s_0.length:Int) 0
theorem aCc{s_0:List bB}{f_1:(bB→Option (Bool))}{r:Int}(hm:rN s_0 f_1=some r){aGo:FuncId}{uA:List AV}(aL6: ∀a,a∈uA→AM.Data a)(aV1:(Program.funcs prog)[aGo]?.any (fun fn=>fn.body.isSome&&fn.name != "runtime.NumGoroutine")=true)(aV2: ∀ {x0 r},f_1 x0=some r→bH prog aGo ([.agg [vb x0.Used,vu x0.Key]]++uA) (vb r)):bH prog 127 [vl aU s_0,.clo (.func aGo) [] uA] (vi r):=by
 refine bd 19 func127 ?_;refine W ?_;refine lp (fun m s=> ∃s_0 t7 t8,s=⟨19,(aD (aD (aD (aD fa 0 (vl aU s_0)) 1 (.clo (.func aGo) [] uA)) 7 (vi t7)) 8 (vi t8)),⟨aV,64⟩⟩∧kE f_1 m s_0 t7 t8=some r) L ?_;rintro n1 s ⟨s_0,t7,t8,rfl,hm⟩;refine W ?_;refine cm hm (fun hm=>?_) fun hm=>?_
 ·
  obtain ⟨x2,h1,hm⟩:=bnd hm;obtain ⟨r4,h3,hm⟩:=bnd hm;refine W ?_;refine aR.callQC (r:= .v (.bool r4)) Zd Z1 aL6 aV1 (fun H=>(cD (.agg _ (cY.dat _)) .nil)) (aV2 h3) ?_;refine W ?_;refine cm hm (fun hm=>?_) fun hm=>?_
  · exact E
  exact L
 exact E
def aC2(bJ4:bB):Option (Bool):=
 some (!bJ4.Used)
theorem aHs:K1 prog aJm vb 128 aC2:=fun hm=>be 6 func128 (h:=G)
instance:Ct prog 128 (K1 prog aJm vb 128 aC2):=⟨aHs⟩
def iT(l:List bB):Option (List bB):=app [] l
theorem aFv{r:List bB}(hm:some []=some r):dD prog 129 [.v (.slice none 0 0)] 2 (r.flatMap aU) r.length:=by
 refine dD.of_body func129 rfl (cY.fmdat r) ?_;simp only [ntmps129,List.length_cons,List.length_nil,Nat.reduceAdd,Nat.reduceSub,eE];refine sN 64 (pA ?_);refine fs (AWp.seq' (sN 128 (pA ?_)));refine pu rfl (tE Z1 Z1 (aG4 underlying31)) ?_;refine fs (AWp.condT Z1 ?_);refine sN 192 (pA ?_);refine fs (AWp.weaken (oP 2 900002 2 Z1 Z5) ?_);refine AWp.ret (gD ?_);cases hm;exact aH6 (.inr rfl) Tryz.results129 Z1 Z3 Z6
theorem aFw{a:Addr}{c:Nat}{r:List bB}(hm:((app [] []).bind fun l2=>
some l2)=some r):dD prog 129 [.v (.slice (some a) 0 c)] 2 (r.flatMap aU) r.length:=by
 refine dD.of_body func129 rfl (cY.fmdat r) ?_;simp only [ntmps129,List.length_cons,List.length_nil,Nat.reduceAdd,Nat.reduceSub,eE];refine sN 64 (pA ?_);refine fs (AWp.seq' (sN 128 (pA ?_)));refine pu rfl (tE Z1 Z1 (aDs underlying31)) ?_;refine fs (AWp.condF Z1 ?_);refine AWp.skip (bI (sN 192 (hp (id:=128) rfl rfl (gV cY (l:=[]) underlying31 bGl bGx Z5 Zd Zd Zd (by simp only [go_sem,Nat.reduceBEq];try rfl) (by kernel_rfl)) ?_)));refine pA ?_;obtain ⟨l2,h1,hm⟩:=bnd hm;refine hp (id:=130) rfl rfl (vA cY underlying31 underlying31 rfl bIh bJd (by rw [bA8];decide) (by rw [bA8];decide) bJh Zd Zd Z1 Z3 Z6 (aKc Z1) rfl Z5 h1) ?_;refine pA ?_;refine fs (AWp.ret ?_);cases hm;exact aH6 (.inr rfl) Tryz.results129 Z1 Z3 Z6
theorem aFx{x0:bB}{l0:List bB}{r:List bB}(hm:((app [] (x0::l0)).bind fun l2=>
some l2)=some r):dD prog 129 [.sl ((x0::l0).flatMap aU) (x0::l0).length false] 2 (r.flatMap aU) r.length:=by
 refine dD.of_body func129 rfl (cY.fmdat r) ?_;simp only [ntmps129,List.length_cons,List.length_nil,Nat.reduceAdd,Nat.reduceSub,eE];refine sN 64 (pA ?_);refine fs (AWp.seq' (sN 128 (pA ?_)));refine pu rfl (tE Z1 Z1 (aDr underlying31 (by simp))) ?_;refine fs (AWp.condF Z1 ?_);refine AWp.skip (bI (sN 192 (hp (id:=128) rfl rfl (gV cY (l:=[]) underlying31 bGl bGx Z5 Zd Zd Zd (by simp only [go_sem,Nat.reduceBEq];try rfl) (by kernel_rfl)) ?_)));refine pA ?_;obtain ⟨l2,h1,hm⟩:=bnd hm;refine hp (id:=130) rfl rfl (vA cY underlying31 underlying31 rfl bIh bJd (by rw [bA8];decide) (by rw [bA8];decide) bJh Zd Zd Z1 Z3 Z6 (aNu cY Z1 rfl) rfl Z5 h1) ?_;refine pA ?_;refine fs (AWp.ret ?_);cases hm;exact aH6 (.inr rfl) Tryz.results129 Z1 Z3 Z6
theorem yT{l r:List bB}(hm:iT l=some r):dD prog 129 [.sl (l.flatMap aU) l.length false] 2 (r.flatMap aU) r.length:=by
 cases l with
 |nil=>
  have hr:r=[]:=by unfold iT app at hm;simpa using hm.symm
  subst hr;exact dD.nil_arg (aFv (r:=[]) rfl) (fun a c=>aFw (r:=[]) rfl)
 |cons x0 l0=>
  refine aFx ?_;show (app [] (x0::l0)).bind _=_;unfold iT at hm;rw [hm];rfl
def aG0(l_0:List bB)(fC:Int):Option ((List bB)×Int×Int):=
 ((nF l_0).bind fun ⟨r2,r3⟩=>
 (bif (!r3) then
  some (l_0,0,1)
 else
  ((uO r2 fC).bind fun ⟨r5,r6⟩=>
  (bif r6 then
   some (l_0,0,4)
  else
   ((rN l_0 (fun x0=>aC2 x0)).bind fun r8=>
   (bif (decide (r8<0)) then
    some (l_0,0,10)
   else
    ((iT l_0).bind fun r10=>
    ((idx r10 r8).bind fun x12=>
    ((stt r10 r8 (bB.mk true fC)).bind fun l14=>
    some (l14,r8,0))))))))))
theorem aVw{l_0:List bB}{fC:Int}{r:(List bB)×Int×Int}(hm:aG0 l_0 fC=some r):bH prog 87 [vl aU l_0,vu fC] (.tup [vl aU r.1,vi r.2.1,vi r.2.2]):=by
 refine bd 43 func87 ?_;refine W ?_;obtain ⟨⟨r2,r3⟩,h1,hm⟩:=bnd hm;refine cq (aC3 h1) ?_;refine W ?_;refine cm hm (fun hm=>?_) fun hm=>?_
 · exact E
 refine W ?_;obtain ⟨⟨r5,r6⟩,h4,hm⟩:=bnd hm;refine cq (aI5 h4) ?_;refine W ?_;refine cm hm (fun hm=>?_) fun hm=>?_
 · exact E
 obtain ⟨r8,h7,hm⟩:=bnd hm;refine W ?_;refine aR.callQ (r:= .v (.int .i64 r8)) Zd Z1 bK3 (fun H=>(cD (cY.sl _ _ _) (cD (bBl aFa) .nil))) (aCc h7 aFa bK4 (fun h=>aHs h)) ?_;refine W ?_;refine cm hm (fun hm=>?_) fun hm=>?_
 · exact E
 obtain ⟨r10,h9,hm⟩:=bnd hm;refine W ?_;refine aR.callF (id:=449) Zd Z1 bH7 (fun H=>(cD (cY.sl _ _ _) .nil)) cY Z5 (yT h9) ?_;refine W ?_;refine bU (.agg [vb true,vu fC]) ?_;obtain ⟨x12,h11,hm⟩:=bnd hm;obtain ⟨l14,h13,hm⟩:=bnd hm;refine W ?_;have qh13:=kF h13;refine aS h13 ?_;exact E
instance:Ct prog 87 (K2 prog (vl aU) vu (t3 (vl aU) vi vi) 87 aG0):=⟨fun hm=>aVw hm⟩
def aA2(l_0:List bB)(fC:Int):Option ((List bB)×Int):=
 ((nF l_0).bind fun ⟨r2,r3⟩=>
 (bif (!r3) then
  some (l_0,1)
 else
  ((uO r2 fC).bind fun ⟨r5,r6⟩=>
  (bif (!r6) then
   some (l_0,7)
  else
   ((iT l_0).bind fun r8=>
   ((idx r8 r5).bind fun x10=>
   ((stt r8 r5 (bB.mk false 0)).bind fun l12=>
   some (l12,0))))))))
theorem aNo{l_0:List bB}{fC:Int}{r:(List bB)×Int}(hm:aA2 l_0 fC=some r):bH prog 88 [vl aU l_0,vu fC] (.tup [vl aU r.1,vi r.2]):=by
 refine bd 35 func88 ?_;refine W ?_;obtain ⟨⟨r2,r3⟩,h1,hm⟩:=bnd hm;refine cq (aC3 h1) ?_;refine W ?_;refine cm hm (fun hm=>?_) fun hm=>?_
 · exact E
 refine W ?_;obtain ⟨⟨r5,r6⟩,h4,hm⟩:=bnd hm;refine cq (aI5 h4) ?_;refine W ?_;refine cm hm (fun hm=>?_) fun hm=>?_
 · exact E
 obtain ⟨r8,h7,hm⟩:=bnd hm;refine W ?_;refine aR.callF (id:=321) Zd Z1 bH7 (fun H=>(cD (cY.sl _ _ _) .nil)) cY Z5 (yT h7) ?_;refine W ?_;refine bU (.agg [vb false,vu 0]) ?_;obtain ⟨x10,h9,hm⟩:=bnd hm;obtain ⟨l12,h11,hm⟩:=bnd hm;refine W ?_;have qh11:=kF h11;refine aS h11 ?_;exact E
instance:Ct prog 88 (K2 prog (vl aU) vu (t2 (vl aU) vi) 88 aA2):=⟨fun hm=>aNo hm⟩
abbrev lS(s_4:aI)(t8:aI)(bIa:Int):Option (aI×Int):=
 some (s_4,bIa)
def zJ(s_0:aI)(c_1:dN)(u_2:Int)(v_3:Int):Option (aI×Int):=
 (bif (c_1.Do==1) then
  ((aG0 s_0.Slots c_1.A).bind fun ⟨r2,r3,r4⟩=>
  lS (aI.mk s_0.Graph r2) (aI.mk (aE.mk (aT.mk 0 0 0) [] []) []) r4)
 else
  (bif (c_1.Do==2) then
   ((sH s_0 u_2).bind fun r6=>
   (bif (decide (0<r6)) then
    some (s_0,11)
   else
    ((aA2 s_0.Slots c_1.A).bind fun ⟨r8,r9⟩=>
    lS (aI.mk s_0.Graph r8) (aI.mk (aE.mk (aT.mk 0 0 0) [] []) []) r9)))
  else
   (bif (c_1.Do==3) then
    ((kY s_0.Graph u_2 v_3).bind fun ⟨r11,r12⟩=>
    lS (aI.mk r11 s_0.Slots) (aI.mk (aE.mk (aT.mk 0 0 0) [] []) []) r12)
   else
    (bif (c_1.Do==4) then
     (bif (u_2==v_3) then
      some (s_0,9)
     else
      ((kX s_0.Graph u_2 v_3).bind fun ⟨r14,r15⟩=>
      lS (aI.mk r14 s_0.Slots) (aI.mk (aE.mk (aT.mk 0 0 0) [] []) []) r15))
    else
     (bif (c_1.Do==15) then
      none
     else
      lS s_0 (aI.mk (aE.mk (aT.mk 0 0 0) [] []) []) 0)))))
theorem aN2:K4 prog dB mP vi vi (t2 dB vi) 41 zJ:=fun hm=>be 76 func41 (h:=G)
instance:Ct prog 41 (K4 prog dB mP vi vi (t2 dB vi) 41 zJ):=⟨aN2⟩
def aIa(s_0:aI)(c_1:dN):Option (aI×GA):=
 ((dT (((decide (c_1.Do<1))||(decide (15<c_1.Do)))==false) false (aDk s_0)).bind fun r2=>
 (bif (((decide (c_1.Do<1))||(decide (15<c_1.Do)))||(!r2)) then
  some (s_0,(GA.i 36 .i64 1))
 else
  ((yU s_0.Slots c_1.A).bind fun ⟨r4,r5⟩=>
  ((yU s_0.Slots c_1.B).bind fun ⟨r7,r8⟩=>
  ((aB8 c_1.Do).bind fun r10=>
  ((dT ((r10&&(!r5))==false) false (aB9 c_1.Do)).bind fun r12=>
  (bif ((r10&&(!r5))||(r12&&(!r8))) then
   some (s_0,(GA.i 36 .i64 7))
  else
   (bif ((decide (4<c_1.Do))&&(c_1.Do !=15)) then
    ((zI s_0 c_1.Do r4 r7).bind fun r14=>
    some (s_0,r14))
   else
    ((zJ s_0 c_1 r4 r7).bind fun ⟨r16,r17⟩=>
    (bif (r17 !=0) then
     some (s_0,(GA.i 36 .i64 r17))
    else
     some (r16,(GA.i 36 .i64 0))))))))))))
theorem aOa:K2 prog dB mP (t2 dB GA.av) 12 aIa:=fun hm=>be 91 func12 (h:=G)
instance:Ct prog 12 (K2 prog dB mP (t2 dB GA.av) 12 aIa):=⟨aOa⟩
attribute [local semireducible] aZ
end Go.Proofs.YtkdohhmacfoolaaGreatDoor
