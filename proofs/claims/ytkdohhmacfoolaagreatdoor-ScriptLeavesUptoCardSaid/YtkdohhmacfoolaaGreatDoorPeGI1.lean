/- Facts. No condition. -/
import Derived.Test.YtkdohhmacfoolaaGreatDoorPeSfP
set_option linter.unusedVariables false
set_option linter.unusedSimpArgs false
set_option maxRecDepth 20000
set_option maxHeartbeats 4000000
namespace Go.Proofs.YtkdohhmacfoolaaGreatDoor
open Go.Proofs.Tryz Go Go.AM
attribute [local irreducible] aW
structure bS where
 Key:Int
 N:Int
deriving DecidableEq
def aAg(e:bS):List AV:=[.v (.int .u64 e.Key),.v (.int .i64 e.N)]
theorem iL:CF aAg 2:=⟨fun _=>rfl,fun a x hx=>by
 simp only [aAg,List.mem_cons,List.not_mem_nil,or_false] at hx;rcases hx with rfl|rfl
 · exact (.v _)
 · exact (.v _),fun _=>rfl⟩
instance:CC aAg 2:=⟨iL⟩
abbrev aEg(e:bS):AV:= .agg [.v (.int .u64 e.Key),vi e.N]
@[go_sem] theorem aS8(e:bS)(r:List AV):aAg e++r= .v (.int .u64 e.Key):: .v (.int .i64 e.N)::r:=rfl
inductive aB where
 |nil
 |mk (ahead:aB) (behind:aB) (thing:bS) (height:Int) (size:Int)
def aB.ahead:aB→aB
 | .nil=>aB.nil
 | .mk ahead behind thing height size=>ahead
def aB.behind:aB→aB
 | .nil=>aB.nil
 | .mk ahead behind thing height size=>behind
def aB.thing:aB→bS
 | .nil=>(bS.mk 0 0)
 | .mk ahead behind thing height size=>thing
def aB.height:aB→Int
 | .nil=>0
 | .mk ahead behind thing height size=>height
def aB.size:aB→Int
 | .nil=>0
 | .mk ahead behind thing height size=>size
def aB.nn:aB→Bool
 | .nil=>false
 | .mk _ _ _ _ _=>true
def aB.av:aB→AV
 | .nil=> .v (.pointer none)
 | .mk ahead behind thing height size=> .ptr [ahead.av,behind.av,.v (.int .u64 thing.Key),.v (.int .i64 thing.N),.v (.int .i64 height),.v (.int .i64 size)]
theorem aB.data:(e:aB)→AM.Data e.av
 | .nil=> .v _
 | .mk ahead behind thing height size=> .ptr _ (fun a hx=>by
  simp only [List.mem_cons,List.not_mem_nil,or_false] at hx;rcases hx with rfl|rfl|rfl|rfl|rfl|rfl
  · exact ahead.data
  · exact behind.data
  · exact (.v _)
  · exact (.v _)
  · exact (.v _)
  · exact (.v _))
theorem aB.av_nn{e:aB}(h:e.nn=true):e.av= .ptr [aB.av e.ahead,aB.av e.behind,.v (.int .u64 e.thing.Key),.v (.int .i64 e.thing.N),.v (.int .i64 e.height),.v (.int .i64 e.size)]:=by
 cases e with
 |nil=>cases h
 |mk ahead behind thing height size=>rfl
theorem aB.isn(e:aB):((!e.nn)=true∧e.av= .v (.pointer none))∨((!e.nn)=false∧ ∃xs,e.av= .ptr xs):=by
 cases e with
 |nil=>exact .inl ⟨rfl,rfl⟩
 |mk ahead behind thing height size=>exact .inr ⟨rfl,_,rfl⟩
theorem aB.cells(e:aB):e.av.cells? =some [e.av]:=by cases e<;>rfl
theorem aB.one(e:aB):e.av.one=true:=by cases e<;>rfl
structure cC where
 s:aB
def aDd(e:cC):List AV:=[aB.av e.s]
theorem aEk:CF aDd 1:=⟨fun _=>rfl,fun a x hx=>by
 simp only [aDd,List.mem_cons,List.not_mem_nil,or_false] at hx;rcases hx with rfl
 · exact (aB.data a.s),fun e=>by unfold aDd;simp only [List.all_cons,List.all_nil,Bool.and_true,aB.one];try rfl⟩
instance:CC aDd 1:=⟨aEk⟩
abbrev xK(e:cC):AV:= .agg [aB.av e.s]
@[go_sem] theorem aS7(e:cC)(r:List AV):aDd e++r=aB.av e.s::r:=rfl
structure aI where
 Used:Bool
 Key:Int
deriving DecidableEq
def aX(e:aI):List AV:=[.v (.bool e.Used),.v (.int .u64 e.Key)]
theorem cX:CF aX 2:=⟨fun _=>rfl,fun a x hx=>by
 simp only [aX,List.mem_cons,List.not_mem_nil,or_false] at hx;rcases hx with rfl|rfl
 · exact (.v _)
 · exact (.v _),fun _=>rfl⟩
instance:CC aX 2:=⟨cX⟩
abbrev aQt(e:aI):AV:= .agg [.v (.bool e.Used),vu e.Key]
instance:CE prog 31 aX 2 (aI.mk false 0):=⟨_,underlying31,bR1,bRg,inferInstance,cX,by decide,by decide⟩
@[go_sem] theorem aR2(e:aI)(r:List AV):aX e++r= .v (.bool e.Used):: .v (.int .u64 e.Key)::r:=rfl
structure aD where
 Graph:aJ
 Slots:List aI
deriving DecidableEq
def aEq(e:aD):List AV:=[.v (.int .i64 e.Graph.Config.N),.v (.int .i64 e.Graph.Config.L),.v (.int .i64 e.Graph.Config.R),.sl (e.Graph.Hashes.flatMap cL) e.Graph.Hashes.length false,.sl (e.Graph.Edges.flatMap aV) e.Graph.Edges.length false,.sl (e.Slots.flatMap aX) e.Slots.length false]
theorem aMi:CF aEq 6:=⟨fun _=>rfl,fun a x hx=>by
 simp only [aEq,List.mem_cons,List.not_mem_nil,or_false] at hx;rcases hx with rfl|rfl|rfl|rfl|rfl|rfl
 · exact (.v _)
 · exact (.v _)
 · exact (.v _)
 · exact (jQ.sl _ _ _)
 · exact (cI.sl _ _ _)
 · exact (cX.sl _ _ _),fun _=>rfl⟩
instance:CC aEq 6:=⟨aMi⟩
abbrev dC(e:aD):AV:= .agg [.v (.int .i64 e.Graph.Config.N),vi e.Graph.Config.L,vi e.Graph.Config.R,vl cL e.Graph.Hashes,vl aV e.Graph.Edges,vl aX e.Slots]
@[go_sem] theorem aR1(e:aD)(r:List AV):aEq e++r= .v (.int .i64 e.Graph.Config.N):: .v (.int .i64 e.Graph.Config.L):: .v (.int .i64 e.Graph.Config.R):: .sl (e.Graph.Hashes.flatMap cL) e.Graph.Hashes.length false:: .sl (e.Graph.Edges.flatMap aV) e.Graph.Edges.length false:: .sl (e.Slots.flatMap aX) e.Slots.length false::r:=rfl
theorem bN4{a0:AV}(a0h:a0.cells? =some [a0]):aAa prog 147 [(0,a0)]=some (.agg [a0]):=by
 unfold aAa;rw [bWw,underlying147];simp only [];rw [(by kernel_rfl:placesOf prog _=some [(0,1)])];simp only [];simp [nP,a0h,aVl,aVm,aSc]
theorem bN5{a0:AV}{a1:AV}{a2_Key:Int}{a2_N:Int}{a3:Int}{a4:Int}(a0h:a0.cells? =some [a0])(a1h:a1.cells? =some [a1]):aAa prog 233 [(0,a0),(1,a1),(2,.agg [.v (.int .u64 a2_Key),.v (.int .i64 a2_N)]),(3,.v (.int .i64 a3)),(4,.v (.int .i64 a4))]=some (.agg [a0,a1,.v (.int .u64 a2_Key),.v (.int .i64 a2_N),.v (.int .i64 a3),.v (.int .i64 a4)]):=by
 unfold aAa;rw [cIr,underlying233];simp only [];rw [(by kernel_rfl:placesOf prog _=some [(0,1),(1,1),(2,2),(4,1),(5,1)])];simp only [];simp [nP,a0h,a1h,aVl,aVm,aSc]
@[go_sem] theorem bEa(xs:List AV):aH prog 147 (.ptr (xs)) 0=some (.ptr xs):=by kernel_rfl
@[go_sem] theorem bEb(xs:List AV):aH prog 233 (.ptr (xs)) 0=some (.ptr xs):=by kernel_rfl
@[go_sem] theorem bEc(x0:AV)(xs:List AV):aH prog 233 (.ptr (x0::xs)) 1=some (.ptr xs):=by kernel_rfl
@[go_sem] theorem bEd(x0:AV)(x1:AV)(xs:List AV):aH prog 233 (.ptr (x0::x1::xs)) 2=some (.ptr xs):=by kernel_rfl
@[go_sem] theorem bEe(x0:AV)(x1:AV)(x2:AV)(x3:AV)(xs:List AV):aH prog 233 (.ptr (x0::x1::x2::x3::xs)) 3=some (.ptr xs):=by kernel_rfl
@[go_sem] theorem bEf(x0:AV)(x1:AV)(x2:AV)(x3:AV)(x4:AV)(xs:List AV):aH prog 233 (.ptr (x0::x1::x2::x3::x4::xs)) 4=some (.ptr xs):=by kernel_rfl
@[go_sem] theorem bIw(xs:List AV):aH prog 96 (.ptr (xs)) 0=some (.ptr xs):=by kernel_rfl
@[go_sem] theorem bEk(i o:Nat):aH prog 147 (.adr i o) 0=some (.adr i (o+0)):=by kernel_rfl
@[go_sem] theorem bEl(i o:Nat):aH prog 194 (.adr i o) 0=some (.adr i (o+0)):=by kernel_rfl
@[go_sem] theorem bEm(i o:Nat):aH prog 194 (.adr i o) 1=some (.adr i (o+1)):=by kernel_rfl
@[go_sem] theorem bJ4(i o:Nat):aH prog 23 (.adr i o) 0=some (.adr i (o+0)):=by kernel_rfl
@[go_sem] theorem bJn(i o:Nat):aH prog 30 (.adr i o) 0=some (.adr i (o+0)):=by kernel_rfl
@[go_sem] theorem bJx(i o:Nat):aH prog 30 (.adr i o) 2=some (.adr i (o+4)):=by kernel_rfl
@[go_sem] theorem bK0(i o:Nat):aH prog 33 (.adr i o) 0=some (.adr i (o+0)):=by kernel_rfl
@[go_sem] theorem bK4(i o:Nat):aH prog 33 (.adr i o) 1=some (.adr i (o+5)):=by kernel_rfl
@[go_sem] theorem bKk(i o:Nat):aH prog 61 (.adr i o) 0=some (.adr i (o+0)):=by kernel_rfl
@[go_sem] theorem bKq(i o:Nat):aH prog 61 (.adr i o) 1=some (.adr i (o+1)):=by kernel_rfl
@[go_sem] theorem bL9(i o:Nat):aH prog 96 (.adr i o) 0=some (.adr i (o+0)):=by kernel_rfl
@[go_sem] theorem bLc(i o:Nat):aH prog 96 (.adr i o) 1=some (.adr i (o+1)):=by kernel_rfl
theorem bF1(i o:Nat)(k:IntKind):lS prog 180 (.adr i o) (.v (.int k 0))=some (.adr i o):=by kernel_rfl
theorem bF3(i o:Nat)(k:IntKind):lS prog 180 (.adr i o) (.v (.int k 1))=some (.adr i (o+1)):=by kernel_rfl
attribute [go_sem] bF1 bF3
@[go_sem] theorem bP2(H:aG)(x:AV)(xs:List AV):bT prog H 145 (.ptr (x::xs))=some x:=by kernel_rfl
@[go_sem] theorem bP3(H:aG)(x0:AV)(xs:List AV):bT prog H 147 (.ptr (x0::xs))=some (.agg [x0]):=by kernel_rfl
@[go_sem] theorem bP5(H:aG)(x0 x1:AV)(xs:List AV):bT prog H 180 (.ptr (x0::x1::xs))=some (.agg [x0,x1]):=by kernel_rfl
@[go_sem] theorem bP6(H:aG)(x0 x1:AV)(xs:List AV):bT prog H 194 (.ptr (x0::x1::xs))=some (.agg [x0,x1]):=by kernel_rfl
@[go_sem] theorem bTi(H:aG)(x:AV)(xs:List AV):bT prog H 28 (.ptr (x::xs))=some x:=by kernel_rfl
@[go_sem] theorem bXs(H:aG)(x:AV)(xs:List AV):bT prog H 3 (.ptr (x::xs))=some x:=by kernel_rfl
@[go_sem] theorem bTo(H:aG)(x0 x1 x2 x3 x4:AV)(xs:List AV):bT prog H 30 (.ptr (x0::x1::x2::x3::x4::xs))=some (.agg [x0,x1,x2,x3,x4]):=by kernel_rfl
@[go_sem] theorem bPb(H:aG)(x:AV)(xs:List AV):bT prog H 300 (.ptr (x::xs))=some x:=by kernel_rfl
@[go_sem] theorem bTt(H:aG)(x:AV)(xs:List AV):bT prog H 31 (.ptr (x::xs))=some x:=by kernel_rfl
@[go_sem] theorem bTx(H:aG)(x0 x1 x2 x3 x4 x5:AV)(xs:List AV):bT prog H 33 (.ptr (x0::x1::x2::x3::x4::x5::xs))=some (.agg [x0,x1,x2,x3,x4,x5]):=by kernel_rfl
@[go_sem] theorem bXz(H:aG)(x:AV)(xs:List AV):bT prog H 4 (.ptr (x::xs))=some x:=by kernel_rfl
@[go_sem] theorem bU6(H:aG)(x:AV)(xs:List AV):bT prog H 40 (.ptr (x::xs))=some x:=by kernel_rfl
@[go_sem] theorem bUf(H:aG)(x0 x1 x2:AV)(xs:List AV):bT prog H 61 (.ptr (x0::x1::x2::xs))=some (.agg [x0,x1,x2]):=by kernel_rfl
@[go_sem] theorem bUp(H:aG)(x0 x1:AV)(xs:List AV):bT prog H 96 (.ptr (x0::x1::xs))=some (.agg [x0,x1]):=by kernel_rfl
@[go_sem] theorem bNq(H:aG)(k:IntKind)(n:Int):mS prog H 3 5 (.v (.int k n))=some (.v (.int .u8 (IntKind.u8.wrap n))):=gJ underlying3 underlying5
@[go_sem] theorem bE0(H:aG)(k:IntKind)(n:Int):mS prog H 3 162 (.v (.int k n))=some (.v (.int .u64 (IntKind.u64.wrap n))):=gJ underlying3 underlying162
@[go_sem] theorem bE2(H:aG)(k:IntKind)(n:Int):mS prog H 3 300 (.v (.int k n))=some (.v (.int .u64 (IntKind.u64.wrap n))):=gJ underlying3 underlying300
@[go_sem] theorem bDv(H:aG)(k:IntKind)(n:Int):mS prog H 162 3 (.v (.int k n))=some (.v (.int .i64 (IntKind.i64.wrap n))):=gJ underlying162 underlying3
def mY(n_0:Int):Option (ByteArray):=
 ((aSj n_0 10).bind fun r2=>
 some r2)
theorem aA0{n_0:Int}{r:ByteArray}(hm:mY n_0=some r):cE prog 106 [vu n_0] (.v (.string r)):=by
 refine bd 5 func106 ?_;obtain ⟨r2,h1,hm⟩:=bnd hm;refine W ?_;refine cq (bXj h1) ?_;exact E
instance:Ct prog 106 (K1 prog vu vs 106 mY):=⟨fun hm=>aA0 hm⟩
def pH(aTw:List ByteArray):Option (ByteArray):=
 (bif ((aTw.length:Int)==0) then
  some ⟨#[110,111,110,101]⟩
 else
  ((aKs aTw ⟨#[32]⟩).bind fun r2=>
  some r2))
theorem aDz{aTw:List ByteArray}{r:ByteArray}(hm:pH aTw=some r):cE prog 107 [vl lT aTw] (.v (.string r)):=by
 refine bd 8 func107 ?_;refine W ?_;refine cm hm (fun hm=>?_) fun hm=>?_
 · exact E
 obtain ⟨r2,h1,hm⟩:=bnd hm;refine W ?_;refine cq (bM3 h1) ?_;exact E
instance:Ct prog 107 (K1 prog (vl lT) vs 107 pH):=⟨fun hm=>aDz hm⟩
def aOu(rec1:ByteArray→List Int→Int→Option (ByteArray))(s_0:ByteArray)(aDu:List Int)(i_4:Int):Option (ByteArray):=
 (bif (decide (i_4<(s_0.size:Int))) then
  ((aD0 s_0 i_4).bind fun b4=>
  ((aD0 ⟨#[48,49,50,51,52,53,54,55,56,57,97,98,99,100,101,102]⟩ (shr .u8 b4 4)).bind fun b6=>
  ((aD0 s_0 i_4).bind fun b8=>
  ((aD0 ⟨#[48,49,50,51,52,53,54,55,56,57,97,98,99,100,101,102]⟩ (yO .u8 b8 15)).bind fun b10=>
  ((app aDu [b6,b10]).bind fun l12=>
  rec1 s_0 l12 (IntKind.i64.wrap (i_4+1)))))))
 else
  some (jR aDu))
def aGa:Nat→ByteArray→List Int→Int→Option (ByteArray)
 |0=>fun _ _ _=>none
 |n+1=>aOu (aGa n)
def aJ7(s_0:ByteArray):Option (ByteArray):=
 ((mkc 0 (IntKind.i64.wrap (2*(s_0.size:Int))) 0).bind fun l2=>
 aGa aW s_0 l2 0)
theorem bB7{s_0:ByteArray}{r:ByteArray}(hm:aJ7 s_0=some r):cE prog 108 [.v (.string s_0)] (.v (.string r)):=by
 refine bd 30 func108 ?_;obtain ⟨l2,h1,hm⟩:=bnd hm;refine W ?_;refine aK (CFi .u8) h1 ?_;refine W ?_;refine lp (fun m s=> ∃s_0 aDu i_4,s=⟨30,(aF (aF (aF fa 0 (.v (.string s_0))) 3 (.own 1 0 aDu.length)) 4 (vi i_4)),⟨(upd aY 1 (.cells 1 (aDu.flatMap (ci .u8)) 0)),64⟩⟩∧aGa m s_0 aDu i_4=some r) (Lr (fun j=>bif j==1 then 67 else 0)) ?_;rintro n1 s ⟨s_0,aDu,i_4,rfl,hm⟩;refine W ?_;refine cm hm (fun hm=>?_) fun hm=>?_
 · refine W ?_;refine AWp.regD 64 mix (by kernel_rfl) (N':=192) rfl ?_;obtain ⟨b4,h3,hm⟩:=bnd hm;obtain ⟨b6,h5,hm⟩:=bnd hm;have hm:=sb hm h3;obtain ⟨b10,h9,hm⟩:=bnd hm;refine W ?_;refine aL (CFi .u8) [b6,b10] ?_;obtain ⟨l12,h11,hm⟩:=bnd hm;refine W ?_;exact Lr (fun j=>bif j==1 then 140 else 0)
 refine W ?_;refine pu rfl (aMm underlying91 underlying9 underlying5 Z1 Z3 Z6) ?_;exact E
instance:Ct prog 108 (K1 prog vs vs 108 aJ7):=⟨fun hm=>bB7 hm⟩
def aFp(rec1:List ByteArray→List Int→Int→Int→Option (ByteArray))(aMh:List ByteArray)(t36:List Int)(t37:Int)(t38:Int):Option (ByteArray):=
 (bif (decide (t38<t37)) then
  ((idx t36 t38).bind fun x26=>
  ((mY x26).bind fun r28=>
  ((app aMh [r28]).bind fun l30=>
  rec1 l30 t36 t37 (IntKind.i64.wrap (t38+1)))))
 else
  ((pH aMh).bind fun r32=>
  some r32))
def vT:Nat→List ByteArray→List Int→Int→Int→Option (ByteArray)
 |0=>fun _ _ _ _=>none
 |n+1=>aFp (vT n)
def aFq(rec2:List ByteArray→List bG→Int→Int→Option (ByteArray))(aI8:List ByteArray)(t53:List bG)(t54:Int)(t55:Int):Option (ByteArray):=
 (bif (decide (t55<t54)) then
  ((idx t53 t55).bind fun x37=>
  ((mY x37.x0).bind fun r39=>
  ((aUw r39 ⟨#[45]⟩).bind fun s41=>
  ((mY x37.x1).bind fun r43=>
  ((aUw s41 r43).bind fun s45=>
  ((app aI8 [s45]).bind fun l47=>
  rec2 l47 t53 t54 (IntKind.i64.wrap (t55+1))))))))
 else
  ((pH aI8).bind fun r49=>
  some r49))
def vU:Nat→List ByteArray→List bG→Int→Int→Option (ByteArray)
 |0=>fun _ _ _ _=>none
 |n+1=>aFq (vU n)
def cR(aCw:GA):Option (ByteArray):=
 ((aG8 .i64 36 aCw).bind fun ⟨r5,r6⟩=>
 (bif r6 then
  (bif (r5==0) then
   some ⟨#[111,107]⟩
  else
   ((aHb r5).bind fun r8=>
   ((aUw ⟨#[101,114,114,111,114,32]⟩ r8).bind fun s10=>
   some s10)))
 else
  ((aLv 4 aCw).bind fun ⟨r12,r13⟩=>
  (bif r13 then
   (bif r12 then
    some ⟨#[121,101,115]⟩
   else
    some ⟨#[110,111]⟩)
  else
   ((aG8 .i64 3 aCw).bind fun ⟨r18,r19⟩=>
   (bif r19 then
    ((aHb r18).bind fun r21=>
    some r21)
   else
    ((bLf 24 aCw).bind fun ⟨r23,r24⟩=>
    (bif r24 then
     vT aW [] r23 (r23.length:Int) 0
    else
     ((bOh 157 aCw).bind fun ⟨r34,r35⟩=>
     (bif r35 then
      vU aW [] r34 (r34.length:Int) 0
     else
      ((bGs 9 aCw).bind fun ⟨r54,r55⟩=>
      (bif r55 then
       ((aJ7 r54).bind fun r57=>
       some r57)
      else
       some ⟨#[]⟩))))))))))))
theorem aCz{aCw:GA}{r:ByteArray}(hm:cR aCw=some r):cE prog 59 [GA.av aCw] (.v (.string r)):=by
 refine bd 78 func59 ?_;refine W ?_;obtain ⟨⟨r5,r6⟩,h4,hm⟩:=bnd hm;refine pu rfl (aZv underlying36 cAm cIi Z1 h4) ?_;refine W ?_;refine cm hm (fun hm=>?_) fun hm=>?_
 ·
  refine W ?_;refine cm hm (fun hm=>?_) fun hm=>?_
  · exact E
  obtain ⟨r8,h7,hm⟩:=bnd hm;refine W ?_;refine cq (aXr h7) ?_;obtain ⟨s10,h9,hm⟩:=bnd hm;exact E
 refine W ?_;obtain ⟨⟨r12,r13⟩,h11,hm⟩:=bnd hm;refine pu rfl (bI2 underlying4 in4 tz4 Z1 h11) ?_;refine W ?_;refine cm hm (fun hm=>?_) fun hm=>?_
 ·
  refine W ?_;refine cm hm (fun hm=>?_) fun hm=>?_
  · exact E
  exact E
 refine W ?_;obtain ⟨⟨r18,r19⟩,h17,hm⟩:=bnd hm;refine pu rfl (aZv underlying3 in3 tz3 Z1 h17) ?_;refine W ?_;refine cm hm (fun hm=>?_) fun hm=>?_
 · obtain ⟨r21,h20,hm⟩:=bnd hm;refine W ?_;refine cq (aXr h20) ?_;exact E
 refine W ?_;obtain ⟨⟨r23,r24⟩,h22,hm⟩:=bnd hm;refine aR.pop Zd (aT3 Z1 (GA.data _)) (bQd underlying24 cAk cIg Z1 h22) rfl ?_;refine W ?_;refine cm hm (fun hm=>?_) fun hm=>?_
 ·
  refine W ?_;refine lp (fun m s=> ∃aMh t36 t37 t38,s=⟨78,(aF (aF (aF (aF fa 7 (.own 1 0 aMh.length)) 36 (vl (ci .u64) t36)) 37 (vi t37)) 38 (vi t38)),⟨(upd aY 1 (.cells 1 (aMh.flatMap lT) 0)),64⟩⟩∧vT m aMh t36 t37 t38=some r) ?_ ?_
  · refine ⟨_,?_,[],r23,(r23.length:Int),0,rfl,hm⟩;refine St.Le.trans (aAn 7 900007 1 Z1 Z5) ?_;exact cn (fun j=>bif j==1 then 900007 else 0)
  rintro n1 s ⟨aMh,t36,t37,t38,rfl,hm⟩;refine W ?_;refine cm hm (fun hm=>?_) fun hm=>?_
  · obtain ⟨x26,h25,hm⟩:=bnd hm;obtain ⟨r28,h27,hm⟩:=bnd hm;refine W ?_;refine cq (aA0 h27) ?_;refine aL CFs [r28] ?_;obtain ⟨l30,h29,hm⟩:=bnd hm;refine W ?_;exact Lr (fun j=>bif j==1 then 196 else 0)
  obtain ⟨r32,h31,hm⟩:=bnd hm;refine W ?_;refine aR.callB (r:= .v (.string r32)) Zd Z1 bW1 (.cons (lto CFs Z1 Z3 Z6) aU4.nil) bQo (aDz h31) ?_;exact E
 refine W ?_;obtain ⟨⟨r34,r35⟩,h33,hm⟩:=bnd hm;refine aR.pop Zd (aT3 Z1 (GA.data _)) (bQc underlying157 bWb bWr Z1 h33) rfl ?_;refine W ?_;refine cm hm (fun hm=>?_) fun hm=>?_
 ·
  refine W ?_;refine lp (fun m s=> ∃aI8 t53 t54 t55,s=⟨78,(aF (aF (aF (aF fa 11 (.own 1 0 aI8.length)) 53 (vl iY t53)) 54 (vi t54)) 55 (vi t55)),⟨(upd aY 1 (.cells 1 (aI8.flatMap lT) 0)),64⟩⟩∧vU m aI8 t53 t54 t55=some r) ?_ ?_
  · refine ⟨_,?_,[],r34,(r34.length:Int),0,rfl,hm⟩;refine St.Le.trans (aAn 11 900011 1 Z1 Z5) ?_;exact cn (fun j=>bif j==1 then 900011 else 0)
  rintro n2 s ⟨aI8,t53,t54,t55,rfl,hm⟩;refine W ?_;refine cm hm (fun hm=>?_) fun hm=>?_
  · obtain ⟨x37,h36,hm⟩:=bnd hm;refine W ?_;refine AWp.regD 64 mix (by kernel_rfl) (N':=256) rfl ?_;obtain ⟨r39,h38,hm⟩:=bnd hm;refine W ?_;refine cq (aA0 h38) ?_;obtain ⟨s41,h40,hm⟩:=bnd hm;obtain ⟨r43,h42,hm⟩:=bnd hm;refine W ?_;refine cq (aA0 h42) ?_;obtain ⟨s45,h44,hm⟩:=bnd hm;refine W ?_;refine aL CFs [s45] ?_;obtain ⟨l47,h46,hm⟩:=bnd hm;refine W ?_;exact Lr (fun j=>bif j==1 then 202 else 0)
  obtain ⟨r49,h48,hm⟩:=bnd hm;refine W ?_;refine aR.callB (r:= .v (.string r49)) Zd Z1 bW1 (.cons (lto CFs Z1 Z3 Z6) aU4.nil) bQo (aDz h48) ?_;exact E
 refine W ?_;obtain ⟨⟨r54,r55⟩,h53,hm⟩:=bnd hm;refine pu rfl (bMw underlying9 in9 tz9 Z1 h53) ?_;refine W ?_;refine cm hm (fun hm=>?_) fun hm=>?_
 · obtain ⟨r57,h56,hm⟩:=bnd hm;refine W ?_;refine cq (bB7 h56) ?_;exact E
 exact E
instance:Ct prog 59 (K1 prog GA.av vs 59 cR):=⟨fun hm=>aCz hm⟩
def nL(dJ:ByteArray):Option (Int×Int):=
 (bif (decide (dJ=⟨#[110,101,119]⟩)) then
  some ((-1),3)
 else
  (bif (decide (dJ=⟨#[112,108,97,110]⟩)) then
   some ((-2),3)
  else
   (bif (decide (dJ=⟨#[118,101,114,116,101,120]⟩)) then
    some (1,1)
   else
    (bif (decide (dJ=⟨#[100,114,111,112]⟩)) then
     some (2,1)
    else
     (bif (decide (dJ=⟨#[101,100,103,101]⟩)) then
      some (3,2)
     else
      (bif (decide (dJ=⟨#[99,117,116]⟩)) then
       some (4,2)
      else
       (bif (decide (dJ=⟨#[104,97,115]⟩)) then
        some (5,2)
       else
        (bif (decide (dJ=⟨#[100,101,103,114,101,101]⟩)) then
         some (6,1)
        else
         (bif (decide (dJ=⟨#[110,101,97,114]⟩)) then
          some (7,1)
         else
          (bif (decide (dJ=⟨#[99,111,110,110,101,99,116,101,100]⟩)) then
           some (8,2)
          else
           (bif (decide (dJ=⟨#[115,105,122,101]⟩)) then
            some (9,1)
           else
            (bif (decide (dJ=⟨#[99,111,117,110,116]⟩)) then
             some (10,0)
            else
             (bif (decide (dJ=⟨#[109,101,109,98,101,114,115]⟩)) then
              some (11,1)
             else
              (bif (decide (dJ=⟨#[102,111,114,101,115,116]⟩)) then
               some (12,0)
              else
               (bif (decide (dJ=⟨#[97,117,100,105,116]⟩)) then
                some (13,0)
               else
                (bif (decide (dJ=⟨#[115,97,118,101]⟩)) then
                 some (14,0)
                else
                 (bif (decide (dJ=⟨#[114,101,115,116,111,114,101]⟩)) then
                  some (15,1)
                 else
                  some (0,0))))))))))))))))))
theorem aRc:K1 prog vs (t2 vi vi) 60 nL:=fun hm=>be 39 func60 (h:=G)
instance:Ct prog 60 (K1 prog vs (t2 vi vi) 60 nL):=⟨aRc⟩
def aJ9(rec1:ByteArray→List Int→Int→Option (ByteArray×Int))(dJ:ByteArray)(aEz:List Int)(i_5:Int):Option (ByteArray×Int):=
 (bif (decide (i_5<(dJ.size:Int))) then
  ((aD0 dJ i_5).bind fun b4=>
  ((aEt ⟨#[48,49,50,51,52,53,54,55,56,57,97,98,99,100,101,102]⟩ b4).bind fun r6=>
  ((aD0 dJ (IntKind.i64.wrap (i_5+1))).bind fun b8=>
  ((aEt ⟨#[48,49,50,51,52,53,54,55,56,57,97,98,99,100,101,102]⟩ b8).bind fun r10=>
  (bif ((decide (r6<0))||(decide (r10<0))) then
   some (⟨#[]⟩,2)
  else
   ((app aEz [(IntKind.u8.wrap (bor .i64 (shl .i64 r6 4) r10))]).bind fun l12=>
   rec1 dJ l12 (IntKind.i64.wrap (i_5+2))))))))
 else
  some ((jR aEz),0))
def aBj:Nat→ByteArray→List Int→Int→Option (ByteArray×Int)
 |0=>fun _ _ _=>none
 |n+1=>aJ9 (aBj n)
def aAq(dJ:ByteArray):Option (ByteArray×Int):=
 (bif ((Int.tmod (dJ.size:Int) 2) !=0) then
  some (⟨#[]⟩,2)
 else
  ((mkc 0 (IntKind.i64.wrap (Int.tdiv (dJ.size:Int) 2)) 0).bind fun l2=>
  aBj aW dJ l2 0))
theorem bFc{dJ:ByteArray}{r:ByteArray×Int}(hm:aAq dJ=some r):cE prog 61 [.v (.string dJ)] (.tup [.v (.string r.1),vi r.2]):=by
 refine bd 47 func61 ?_;refine W ?_;refine cm hm (fun hm=>?_) fun hm=>?_
 · exact E
 obtain ⟨l2,h1,hm⟩:=bnd hm;refine W ?_;refine aK (CFi .u8) h1 ?_;refine W ?_;refine lp (fun m s=> ∃dJ aEz i_5,s=⟨47,(aF (aF (aF fa 0 (.v (.string dJ))) 4 (.own 1 0 aEz.length)) 5 (vi i_5)),⟨(upd aY 1 (.cells 1 (aEz.flatMap (ci .u8)) 0)),64⟩⟩∧aBj m dJ aEz i_5=some r) (Lr (fun j=>bif j==1 then 131 else 0)) ?_;rintro n1 s ⟨dJ,aEz,i_5,rfl,hm⟩;refine W ?_;refine cm hm (fun hm=>?_) fun hm=>?_
 ·
  obtain ⟨b4,h3,hm⟩:=bnd hm;obtain ⟨r6,h5,hm⟩:=bnd hm;refine W ?_;refine cq (aJ2 h5) ?_;obtain ⟨b8,h7,hm⟩:=bnd hm;obtain ⟨r10,h9,hm⟩:=bnd hm;refine W ?_;refine cq (aJ2 h9) ?_;refine W ?_;refine cm hm (fun hm=>?_) fun hm=>?_
  · exact E
  refine W ?_;refine aL (CFi .u8) [(IntKind.u8.wrap (bor .i64 (shl .i64 r6 4) r10))] ?_;obtain ⟨l12,h11,hm⟩:=bnd hm;refine W ?_;exact Lr (fun j=>bif j==1 then 327 else 0)
 refine W ?_;refine pu rfl (aMm underlying91 underlying9 underlying5 Z1 Z3 Z6) ?_;exact E
instance:Ct prog 61 (K1 prog vs (t2 vs vi) 61 aAq):=⟨fun hm=>bFc hm⟩
def qZ(n_0:Int):Option (Bool):=
 some ((decide (1≤n_0))&&(decide (n_0≤1024)))
theorem aZe:K1 prog vi vb 76 qZ:=fun hm=>be 9 func76 (h:=G)
instance:Ct prog 76 (K1 prog vi vb 76 qZ):=⟨aZe⟩
def kJ(s_0:aB):Option (Int):=
 (bif (!s_0.nn) then
  some 0
 else
  ((chk s_0.nn).bind fun _=>
  some s_0.size))
theorem uS:K1 prog aB.av vi 156 kJ:=fun hm=>be 9 func156 (h:=G)
instance:Ct prog 156 (K1 prog aB.av vi 156 kJ):=⟨uS⟩
def aI1(rec1:aB→Int→bS→Option (bS×Bool))(s_0:aB)(i_1:Int)(t4:bS):Option (bS×Bool):=
 ((chk s_0.nn).bind fun _=>
 ((kJ s_0.ahead).bind fun r5=>
 (bif (decide (i_1<r5)) then
  ((chk s_0.nn).bind fun _=>
  rec1 s_0.ahead i_1 t4)
 else
  (bif (decide (r5<i_1)) then
   ((chk s_0.nn).bind fun _=>
   rec1 s_0.behind (IntKind.i64.wrap (i_1-(IntKind.i64.wrap (r5+1)))) t4)
  else
   ((chk s_0.nn).bind fun _=>
   some (s_0.thing,true))))))
def aA1:Nat→aB→Int→bS→Option (bS×Bool)
 |0=>fun _ _ _=>none
 |n+1=>aI1 (aA1 n)
def qH(s_0:aB)(i_1:Int):Option (bS×Bool):=
 ((eK ((decide (i_1<0))==false) 0 (kJ s_0)).bind fun r2=>
 (bif ((decide (i_1<0))||(decide (r2≤i_1))) then
  some ((bS.mk 0 0),false)
 else
  aA1 aW s_0 i_1 (bS.mk 0 0)))
theorem aF5:K2 prog aB.av vi (t2 aEg vb) 119 qH:=by
 intro s_0 i_1 r hm
 let I1:=((fun m s=> ∃s_0 i_1 t4,s=⟨46,(aF (aF (aF fa 0 (aB.av s_0)) 1 (vi i_1)) 4 (.adr 1 0)),⟨(upd aY 1 (.cells 1 [vu t4.Key,vi t4.N] 0)),64⟩⟩∧aA1 m s_0 i_1 t4=some r):Nat→St→Prop)
 exact be 46 func119 (h:=G)
instance:Ct prog 119 (K2 prog aB.av vi (t2 aEg vb) 119 qH):=⟨aF5⟩
def yX(i_0:Int)(t1:cC)(t2:Int):Option (Bool):=
 ((qH t1.s i_0).bind fun ⟨r2,r3⟩=>
 some (decide (t2≤r2.Key)))
theorem aX7{i_0:Int}{t1:cC}{t2:Int}{r:Bool}(hm:yX i_0 t1 t2=some r):cE prog 158 [vi i_0,.ptr [aB.av t1.s],.ptr [vu t2]] (vb r):=by
 refine bd 18 func158 ?_;refine W ?_;obtain ⟨⟨r2,r3⟩,h1,hm⟩:=bnd hm;refine cq (aF5 h1) ?_;exact E
def aFt(f_1:(Int→Option (Bool)))(rec1:Int→Int→Option (Int))(i_5:Int)(j_6:Int):Option (Int):=
 (bif (decide (i_5<j_6)) then
  ((f_1 (IntKind.i64.wrap (shr .u64 (IntKind.u64.wrap (IntKind.i64.wrap (i_5+j_6))) 1))).bind fun r2=>
  (bif (!r2) then
   rec1 (IntKind.i64.wrap ((IntKind.i64.wrap (shr .u64 (IntKind.u64.wrap (IntKind.i64.wrap (i_5+j_6))) 1))+1)) j_6
  else
   rec1 i_5 (IntKind.i64.wrap (shr .u64 (IntKind.u64.wrap (IntKind.i64.wrap (i_5+j_6))) 1))))
 else
  some i_5)
def wC(f_1:(Int→Option (Bool))):Nat→Int→Int→Option (Int)
 |0=>fun _ _=>none
 |n+1=>aFt f_1 (wC f_1 n)
def aI4(n_0:Int)(f_1:(Int→Option (Bool))):Option (Int):=
 wC f_1 aW 0 n_0
theorem aZ7{n_0:Int}{f_1:(Int→Option (Bool))}{r:Int}(hm:aI4 n_0 f_1=some r){aN3:FuncId}{aCl:List AV}(aSl: ∀a,a∈aCl→AM.Data a)(bEu:(Program.funcs prog)[aN3]?.any (fun fn=>fn.body.isSome&&fn.name != "runtime.NumGoroutine")=true)(bEv: ∀ {x0 r},f_1 x0=some r→cE prog aN3 ([vi x0]++aCl) (vb r)):cE prog 157 [vi n_0,.clo (.func aN3) [] aCl] (vi r):=by
 refine bd 26 func157 ?_;refine W ?_;refine lp (fun m s=> ∃i_5 j_6,s=⟨26,(aF (aF (aF fa 1 (.clo (.func aN3) [] aCl)) 5 (vi i_5)) 6 (vi j_6)),⟨aY,64⟩⟩∧wC f_1 m i_5 j_6=some r) L ?_;rintro n1 s ⟨i_5,j_6,rfl,hm⟩;refine W ?_;refine cm hm (fun hm=>?_) fun hm=>?_
 ·
  obtain ⟨r2,h1,hm⟩:=bnd hm;refine W ?_;refine aR.callQC (r:= .v (.bool r2)) Zd Z1 aSl bEu (fun H=>(cV .nil)) (bEv h1) ?_;refine W ?_;refine cm hm (fun hm=>?_) fun hm=>?_
  · exact L
  exact L
 exact E
def aAh(d_0:cC)(kB:Int):Option (Int):=
 ((kJ d_0.s).bind fun r2=>
 ((aI4 r2 (fun x0=>yX x0 d_0 kB)).bind fun r4=>
 some r4))
theorem aSf{d_0:cC}{kB:Int}{r:Int}(hm:aAh d_0 kB=some r):cE prog 120 [.agg [aB.av d_0.s],vu kB] (vi r):=by
 refine bd 10 func120 ?_;refine S1 ?_;refine aR.pop Zd (aT3 Z1 (.agg _ (aEk.dat d_0))) (aYk (ys:=[aB.av d_0.s]) Z1 (fun H=>(.cons (.data _ (aB.data d_0.s)) .nil))) rfl ?_;refine aR.pop Zd (aT3 Z1 (.v _)) (aYk (ys:=[.v (.int .u64 kB)]) Z1 (fun H=>(.cons (.data _ (.v _)) .nil))) rfl ?_;obtain ⟨r2,h1,hm⟩:=bnd hm;refine W ?_;refine cq (uS h1) ?_;obtain ⟨r4,h3,hm⟩:=bnd hm;refine W ?_;refine aR.callQ (r:= .v (.int .i64 r4)) Zd Z1 bZz (fun H=>(cV (.cons (td Z1 (bNu (sH (.ptr _ (aEk.dat d_0)) (sH (.ptr _ ((CFi .u64).dat kB)) aLt)))) .nil))) (aZ7 h3 (sH (.ptr _ (aEk.dat d_0)) (sH (.ptr _ ((CFi .u64).dat kB)) aLt)) cA0 (fun h=>aX7 h)) ?_;exact E
instance:Ct prog 120 (K2 prog xK vu vi 120 aAh):=⟨fun hm=>aSf hm⟩
def xP(d_0:cC)(kB:Int):Option (Int×Bool):=
 ((aAh d_0 kB).bind fun r2=>
 ((qH d_0.s r2).bind fun ⟨r4,r5⟩=>
 (bif ((!r5)||(r4.Key !=kB)) then
  some (0,false)
 else
  some (r4.N,true))))
theorem aOn:K2 prog xK vu (t2 vi vb) 79 xP:=fun hm=>be 27 func79 (h:=G)
instance:Ct prog 79 (K2 prog xK vu (t2 vi vb) 79 xP):=⟨aOn⟩
def dG(s_0:aB):Option (Int):=
 (bif (!s_0.nn) then
  some 0
 else
  ((chk s_0.nn).bind fun _=>
  some s_0.height))
theorem lU:K1 prog aB.av vi 236 dG:=fun hm=>be 9 func236 (h:=G)
instance:Ct prog 236 (K1 prog aB.av vi 236 dG):=⟨lU⟩
def eR(bY:aB)(fX:bS)(bN:aB):Option (aB):=
 ((dG bY).bind fun r2=>
 ((dG bN).bind fun r4=>
 ((kJ bY).bind fun r6=>
 ((kJ bN).bind fun r8=>
 some (aB.mk bY bN fX (IntKind.i64.wrap ((if r2<r4 then r4 else r2)+1)) (IntKind.i64.wrap ((IntKind.i64.wrap (r6+1))+r8)))))))
theorem aFs{bY:aB}{fX:bS}{bN:aB}{r:aB}(hm:eR bY fX bN=some r):cE prog 192 [aB.av bY,.agg [vu fX.Key,vi fX.N],aB.av bN] (aB.av r):=by
 refine bd 24 func192 ?_;obtain ⟨r2,h1,hm⟩:=bnd hm;refine W ?_;refine cq (lU h1) ?_;obtain ⟨r4,h3,hm⟩:=bnd hm;refine W ?_;refine cq (lU h3) ?_;obtain ⟨r6,h5,hm⟩:=bnd hm;refine W ?_;refine cq (uS h5) ?_;obtain ⟨r8,h7,hm⟩:=bnd hm;refine W ?_;refine cq (uS h7) ?_;refine W ?_;refine pu rfl (by simp only [go_sem,Nat.reduceBEq];exact bN5 (aB.cells _) (aB.cells _)) ?_;refine aR.pop Zd (aT3 Z1 (.agg _ (sH (aB.data bY) (sH (aB.data bN) (sH (.v _) (sH (.v _) (sH (.v _) (sH (.v _) aLt)))))))) (aYk (ys:=[aB.av ((aB.mk bY bN fX (IntKind.i64.wrap ((if r2<r4 then r4 else r2)+1)) (IntKind.i64.wrap ((IntKind.i64.wrap (r6+1))+r8))).ahead),aB.av ((aB.mk bY bN fX (IntKind.i64.wrap ((if r2<r4 then r4 else r2)+1)) (IntKind.i64.wrap ((IntKind.i64.wrap (r6+1))+r8))).behind),.v (.int .u64 (((aB.mk bY bN fX (IntKind.i64.wrap ((if r2<r4 then r4 else r2)+1)) (IntKind.i64.wrap ((IntKind.i64.wrap (r6+1))+r8))).thing).Key)),.v (.int .i64 (((aB.mk bY bN fX (IntKind.i64.wrap ((if r2<r4 then r4 else r2)+1)) (IntKind.i64.wrap ((IntKind.i64.wrap (r6+1))+r8))).thing).N)),.v (.int .i64 ((aB.mk bY bN fX (IntKind.i64.wrap ((if r2<r4 then r4 else r2)+1)) (IntKind.i64.wrap ((IntKind.i64.wrap (r6+1))+r8))).height)),.v (.int .i64 ((aB.mk bY bN fX (IntKind.i64.wrap ((if r2<r4 then r4 else r2)+1)) (IntKind.i64.wrap ((IntKind.i64.wrap (r6+1))+r8))).size))]) Z1 (fun H=>(.cons (.data _ (aB.data bY)) (.cons (.data _ (aB.data bN)) (.cons (.data _ (.v _)) (.cons (.data _ (.v _)) (.cons (.data _ (.v _)) (.cons (.data _ (.v _)) .nil)))))))) rfl ?_;exact E
instance:Ct prog 192 (K3 prog aB.av aEg aB.av aB.av 192 eR):=⟨fun hm=>aFs hm⟩
def nN(bY:aB)(fX:bS)(bN:aB):Option (aB):=
 ((dG bY).bind fun r2=>
 ((dG bN).bind fun r4=>
 (bif (decide ((IntKind.i64.wrap (r4+1))<r2)) then
  ((chk bY.nn).bind fun _=>
  ((dG bY.ahead).bind fun r7=>
  ((chk bY.nn).bind fun _=>
  ((dG bY.behind).bind fun r10=>
  (bif (decide (r10≤r7)) then
   ((chk bY.nn).bind fun _=>
   ((chk bY.nn).bind fun _=>
   ((chk bY.nn).bind fun _=>
   ((eR bY.behind fX bN).bind fun r15=>
   ((eR bY.ahead bY.thing r15).bind fun r17=>
   some r17)))))
  else
   ((chk bY.nn).bind fun _=>
   ((chk bY.nn).bind fun _=>
   ((chk bY.nn).bind fun _=>
   ((chk bY.behind.nn).bind fun _=>
   ((eR bY.ahead bY.thing bY.behind.ahead).bind fun r23=>
   ((chk bY.behind.nn).bind fun _=>
   ((chk bY.behind.nn).bind fun _=>
   ((eR bY.behind.behind fX bN).bind fun r27=>
   ((eR r23 bY.behind.thing r27).bind fun r29=>
   some r29))))))))))))))
 else
  ((dG bN).bind fun r31=>
  ((dG bY).bind fun r33=>
  (bif (decide ((IntKind.i64.wrap (r33+1))<r31)) then
   ((chk bN.nn).bind fun _=>
   ((dG bN.behind).bind fun r36=>
   ((chk bN.nn).bind fun _=>
   ((dG bN.ahead).bind fun r39=>
   (bif (decide (r39≤r36)) then
    ((chk bN.nn).bind fun _=>
    ((eR bY fX bN.ahead).bind fun r42=>
    ((chk bN.nn).bind fun _=>
    ((chk bN.nn).bind fun _=>
    ((eR r42 bN.thing bN.behind).bind fun r46=>
    some r46)))))
   else
    ((chk bN.nn).bind fun _=>
    ((chk bN.ahead.nn).bind fun _=>
    ((eR bY fX bN.ahead.ahead).bind fun r50=>
    ((chk bN.ahead.nn).bind fun _=>
    ((chk bN.ahead.nn).bind fun _=>
    ((chk bN.nn).bind fun _=>
    ((chk bN.nn).bind fun _=>
    ((eR bN.ahead.behind bN.thing bN.behind).bind fun r56=>
    ((eR r50 bN.ahead.thing r56).bind fun r58=>
    some r58))))))))))))))
  else
   ((eR bY fX bN).bind fun r60=>
   some r60)))))))
theorem aCe:K3 prog aB.av aEg aB.av aB.av 237 nN:=fun hm=>be 139 func237 (h:=G)
instance:Ct prog 237 (K3 prog aB.av aEg aB.av aB.av 237 nN):=⟨aCe⟩
def rG(recf:aB→bS→aB→Option (aB))(bY:aB)(fX:bS)(bN:aB):Option (aB):=
 ((dG bY).bind fun r2=>
 ((dG bN).bind fun r4=>
 (bif (decide ((IntKind.i64.wrap (r4+1))<r2)) then
  ((chk bY.nn).bind fun _=>
  ((chk bY.nn).bind fun _=>
  ((chk bY.nn).bind fun _=>
  ((recf bY.behind fX bN).bind fun r9=>
  ((nN bY.ahead bY.thing r9).bind fun r11=>
  some r11)))))
 else
  ((dG bN).bind fun r13=>
  ((dG bY).bind fun r15=>
  (bif (decide ((IntKind.i64.wrap (r15+1))<r13)) then
   ((chk bN.nn).bind fun _=>
   ((recf bY fX bN.ahead).bind fun r18=>
   ((chk bN.nn).bind fun _=>
   ((chk bN.nn).bind fun _=>
   ((nN r18 bN.thing bN.behind).bind fun r22=>
   some r22)))))
  else
   ((eR bY fX bN).bind fun r24=>
   some r24)))))))
def nM:Nat→aB→bS→aB→Option (aB)
 |0=>fun _ _ _=>none
 |n+1=>rG (nM n)
def rH(bY:aB)(fX:bS)(bN:aB):Option (aB):=nM aW bY fX bN
theorem aPa: ∀(nn:Nat) {bY:aB} {fX:bS} {bN:aB} {r:aB} (hm:nM nn bY fX bN=some r),cE prog 191 [aB.av bY,.agg [.v (.int .u64 fX.Key),.v (.int .i64 fX.N)],aB.av bN] (aB.av r):=by
 intro nn
 induction nn with
 |zero=>
  intro bY fX bN r hm;replace hm:none=some r:=hm;cases hm
 |succ nn ih=>
  intro bY fX bN r hm;replace hm:rG (nM nn) bY fX bN=some r:=hm;refine cE.of_body func191 rfl ?_;simp only [ntmps191,List.length_cons,List.length_nil,Nat.reduceAdd,Nat.reduceSub,iN];unfold rG at hm;refine sN 64 (hp (id:=0) rfl rfl (aVg Z1 Z5) ?_);refine pA ?_;refine fs (AWp.seq' (AWp.block (sN 128 (pA ?_))));obtain ⟨r2,h1,hm⟩:=bnd hm;refine aR.callQ (r:= .v (.int .i64 r2)) Zd Z1 bGq (fun H=>(cD (aB.data _) .nil)) (lU h1) ?_;refine pA ?_;obtain ⟨r4,h3,hm⟩:=bnd hm;refine aR.callQ (r:= .v (.int .i64 r4)) Zd Z1 bGq (fun H=>(cD (aB.data _) .nil)) (lU h3) ?_
  iterate 3 refine pA ?_
  refine fs (AWp.condM hm Z1 (fun _ hm=>?_) (fun _ hm=>?_))
  ·
   refine sd mix (by kernel_rfl) (N':=192) rfl ?_;refine pA ?_;obtain ⟨_,h5,hm⟩:=bnd hm;refine pu rfl (yL Z1 (aB.av_nn (vF h5))) ?_
   iterate 3 refine pA ?_
   obtain ⟨_,h6,hm⟩:=bnd hm;refine pu rfl (yL Z1 (aB.av_nn (vF h6))) ?_
   iterate 3 refine pA ?_
   obtain ⟨_,h7,hm⟩:=bnd hm;refine pu rfl (yL Z1 (aB.av_nn (vF h7))) ?_
   iterate 2 refine pA ?_
   refine pu rfl (hY Z1 Z3 Z2) ?_;refine pA ?_;obtain ⟨r9,h8,hm⟩:=bnd hm;refine aR.callQ (r:=aB.av r9) Zd Z1 bGp (fun H=>(cD (aB.data _) (cD (.agg _ (iL.dat _)) (cD (aB.data _) .nil)))) (ih h8) ?_;obtain ⟨r11,h10,hm⟩:=bnd hm;refine aR.callQ (r:=aB.av r11) Zd Z1 bW7 (fun H=>(cD (aB.data _) (cD (.agg _ (iL.dat _)) (cD (aB.data _) .nil)))) (aCe h10) ?_;refine pA ?_;refine fs (AWp.ret (sI (jE ?_)));cases hm;exact aNk (.inr rfl) Tryz.results191 (td Z1 (aB.data _))
  ·
   refine sN 192 (pA ?_);obtain ⟨r13,h12,hm⟩:=bnd hm;refine aR.callQ (r:= .v (.int .i64 r13)) Zd Z1 bGq (fun H=>(cD (aB.data _) .nil)) (lU h12) ?_;refine pA ?_;obtain ⟨r15,h14,hm⟩:=bnd hm;refine aR.callQ (r:= .v (.int .i64 r15)) Zd Z1 bGq (fun H=>(cD (aB.data _) .nil)) (lU h14) ?_
   iterate 3 refine pA ?_
   refine fs (AWp.condM hm Z1 (fun _ hm=>?_) (fun _ hm=>?_))
   ·
    refine sd mix (by kernel_rfl) (N':=256) rfl ?_;refine pA ?_;refine pu rfl (hY Z1 Z3 Z2) ?_;refine pA ?_;obtain ⟨_,h16,hm⟩:=bnd hm;refine pu rfl (yL Z1 (aB.av_nn (vF h16))) ?_
    iterate 2 refine pA ?_
    obtain ⟨r18,h17,hm⟩:=bnd hm;refine aR.callQ (r:=aB.av r18) Zd Z1 bGp (fun H=>(cD (aB.data _) (cD (.agg _ (iL.dat _)) (cD (aB.data _) .nil)))) (ih h17) ?_;refine pA ?_;obtain ⟨_,h19,hm⟩:=bnd hm;refine pu rfl (yL Z1 (aB.av_nn (vF h19))) ?_
    iterate 3 refine pA ?_
    obtain ⟨_,h20,hm⟩:=bnd hm;refine pu rfl (yL Z1 (aB.av_nn (vF h20))) ?_
    iterate 2 refine pA ?_
    obtain ⟨r22,h21,hm⟩:=bnd hm;refine aR.callQ (r:=aB.av r22) Zd Z1 bW7 (fun H=>(cD (aB.data _) (cD (.agg _ (iL.dat _)) (cD (aB.data _) .nil)))) (aCe h21) ?_;refine pA ?_;refine fs (AWp.ret (sI (jE ?_)));cases hm;exact aNk (.inr rfl) Tryz.results191 (td Z1 (aB.data _))
   · refine AWp.skip (jS (bQ (sN 256 (pA ?_))));refine pu rfl (hY Z1 Z3 Z2) ?_;refine pA ?_;obtain ⟨r24,h23,hm⟩:=bnd hm;refine aR.callQ (r:=aB.av r24) Zd Z1 bW5 (fun H=>(cD (aB.data _) (cD (.agg _ (iL.dat _)) (cD (aB.data _) .nil)))) (aFs h23) ?_;refine pA ?_;refine fs (AWp.ret ?_);cases hm;exact aNk (.inr rfl) Tryz.results191 (td Z1 (aB.data _))
theorem aCd{bY:aB}{fX:bS}{bN:aB}{r:aB}(hm:rH bY fX bN=some r):cE prog 191 [aB.av bY,.agg [.v (.int .u64 fX.Key),.v (.int .i64 fX.N)],aB.av bN] (aB.av r):=aPa aW hm
def tL(recf:aB→Int→Option (aB×aB))(s_0:aB)(aC4:Int):Option (aB×aB):=
 (bif (decide (aC4≤0)) then
  some (aB.nil,s_0)
 else
  ((kJ s_0).bind fun r2=>
  (bif (decide (r2≤aC4)) then
   some (s_0,aB.nil)
  else
   ((chk s_0.nn).bind fun _=>
   ((kJ s_0.ahead).bind fun r5=>
   (bif (decide (aC4≤r5)) then
    ((chk s_0.nn).bind fun _=>
    ((recf s_0.ahead aC4).bind fun ⟨r8,r9⟩=>
    ((chk s_0.nn).bind fun _=>
    ((chk s_0.nn).bind fun _=>
    ((rH r9 s_0.thing s_0.behind).bind fun r13=>
    some (r8,r13))))))
   else
    ((chk s_0.nn).bind fun _=>
    ((recf s_0.behind (IntKind.i64.wrap ((IntKind.i64.wrap (aC4-r5))-1))).bind fun ⟨r16,r17⟩=>
    ((chk s_0.nn).bind fun _=>
    ((chk s_0.nn).bind fun _=>
    ((rH s_0.ahead s_0.thing r16).bind fun r21=>
    some (r21,r17))))))))))))
def pP:Nat→aB→Int→Option (aB×aB)
 |0=>fun _ _=>none
 |n+1=>tL (pP n)
def tM(s_0:aB)(aC4:Int):Option (aB×aB):=pP aW s_0 aC4
theorem aRh: ∀(nn:Nat) {s_0:aB} {aC4:Int} {r:aB×aB} (hm:pP nn s_0 aC4=some r),cE prog 153 [aB.av s_0,.v (.int .i64 aC4)] (.tup [aB.av r.1,aB.av r.2]):=by
 intro nn
 induction nn with
 |zero=>
  intro s_0 aC4 r hm;replace hm:none=some r:=hm;cases hm
 |succ nn ih=>
  intro s_0 aC4 r hm;replace hm:tL (pP nn) s_0 aC4=some r:=hm;refine cE.of_body func153 rfl ?_;simp only [ntmps153,List.length_cons,List.length_nil,Nat.reduceAdd,Nat.reduceSub,iN];unfold tL at hm;refine sN 64 ?_
  iterate 2 refine pA ?_
  refine fs (AWp.seq' (sN 128 ?_))
  iterate 2 refine pA ?_
  refine fs (AWp.condM hm Z1 (fun _ hm=>?_) (fun _ hm=>?_))
  ·
   refine sN 192 ?_
   iterate 3 refine pA ?_
   refine fs (AWp.ret (jE ?_));cases hm;exact aGl (.inr rfl) Tryz.results153 (td Z1 (aB.data _)) (td Z1 (aB.data _))
  ·
   refine AWp.skip (bQ (AWp.seq' (sN 192 ?_)))
   iterate 2 refine pA ?_
   obtain ⟨r2,h1,hm⟩:=bnd hm;refine aR.callQ (r:= .v (.int .i64 r2)) Zd Z1 bW4 (fun H=>(cD (aB.data _) .nil)) (uS h1) ?_;refine pA ?_;refine fs (AWp.condM hm Z1 (fun _ hm=>?_) (fun _ hm=>?_))
   ·
    refine sN 256 ?_
    iterate 3 refine pA ?_
    refine fs (AWp.ret (jE ?_));cases hm;exact aGl (.inr rfl) Tryz.results153 (td Z1 (aB.data _)) (td Z1 (aB.data _))
   ·
    refine AWp.skip (bQ (sN 256 (pA ?_)));obtain ⟨_,h3,hm⟩:=bnd hm;refine pu rfl (yL Z1 (aB.av_nn (vF h3))) ?_
    iterate 2 refine pA ?_
    obtain ⟨r5,h4,hm⟩:=bnd hm;refine aR.callQ (r:= .v (.int .i64 r5)) Zd Z1 bW4 (fun H=>(cD (aB.data _) .nil)) (uS h4) ?_;refine pA ?_;refine fs (AWp.seq' (sN 320 ?_))
    iterate 3 refine pA ?_
    refine fs (AWp.condM hm Z1 (fun _ hm=>?_) (fun _ hm=>?_))
    ·
     refine sN 384 (pA ?_);obtain ⟨_,h6,hm⟩:=bnd hm;refine pu rfl (yL Z1 (aB.av_nn (vF h6))) ?_
     iterate 3 refine pA ?_
     obtain ⟨⟨r8,r9⟩,h7,hm⟩:=bnd hm;refine aR.callQ (r:= .tup [aB.av r8,aB.av r9]) Zd Z1 bW3 (fun H=>(cD (aB.data _) (cV .nil))) (ih h7) ?_
     iterate 5 refine pA ?_
     refine fs (sd mix (by kernel_rfl) (N':=448) rfl ?_)
     iterate 3 refine pA ?_
     obtain ⟨_,h10,hm⟩:=bnd hm;refine pu rfl (yL Z1 (aB.av_nn (vF h10))) ?_
     iterate 3 refine pA ?_
     obtain ⟨_,h11,hm⟩:=bnd hm;refine pu rfl (yL Z1 (aB.av_nn (vF h11))) ?_
     iterate 2 refine pA ?_
     obtain ⟨r13,h12,hm⟩:=bnd hm;refine aR.callQ (r:=aB.av r13) Zd Z1 bGp (fun H=>(cD (aB.data _) (cD (.agg _ (iL.dat _)) (cD (aB.data _) .nil)))) (aCd h12) ?_
     iterate 2 refine pA ?_
     refine fs (AWp.ret (jE ?_));cases hm;exact aGl (.inr rfl) Tryz.results153 (td Z1 (aB.data _)) (td Z1 (aB.data _))
    ·
     refine AWp.skip (bQ (sN 384 (pA ?_)));obtain ⟨_,h14,hm⟩:=bnd hm;refine pu rfl (yL Z1 (aB.av_nn (vF h14))) ?_
     iterate 6 refine pA ?_
     obtain ⟨⟨r16,r17⟩,h15,hm⟩:=bnd hm;refine aR.callQ (r:= .tup [aB.av r16,aB.av r17]) Zd Z1 bW3 (fun H=>(cD (aB.data _) (cV .nil))) (ih h15) ?_
     iterate 5 refine pA ?_
     refine fs (sd mix (by kernel_rfl) (N':=448) rfl ?_);refine pA ?_;obtain ⟨_,h18,hm⟩:=bnd hm;refine pu rfl (yL Z1 (aB.av_nn (vF h18))) ?_
     iterate 3 refine pA ?_
     obtain ⟨_,h19,hm⟩:=bnd hm;refine pu rfl (yL Z1 (aB.av_nn (vF h19))) ?_
     iterate 3 refine pA ?_
     obtain ⟨r21,h20,hm⟩:=bnd hm;refine aR.callQ (r:=aB.av r21) Zd Z1 bGp (fun H=>(cD (aB.data _) (cD (.agg _ (iL.dat _)) (cD (aB.data _) .nil)))) (aCd h20) ?_
     iterate 3 refine pA ?_
     refine fs (AWp.ret ?_);cases hm;exact aGl (.inr rfl) Tryz.results153 (td Z1 (aB.data _)) (td Z1 (aB.data _))
theorem aE3{s_0:aB}{aC4:Int}{r:aB×aB}(hm:tM s_0 aC4=some r):cE prog 153 [aB.av s_0,.v (.int .i64 aC4)] (.tup [aB.av r.1,aB.av r.2]):=aRh aW hm
def tK(recf:(List bS)→Option (aB))(l_0:List bS):Option (aB):=
 (bif ((l_0.length:Int)==0) then
  some aB.nil
 else
  ((slc l_0 0 (IntKind.i64.wrap (Int.tdiv (l_0.length:Int) 2))).bind fun l2=>
  ((recf l2).bind fun r4=>
  ((idx l_0 (IntKind.i64.wrap (Int.tdiv (l_0.length:Int) 2))).bind fun x6=>
  ((slc l_0 (IntKind.i64.wrap ((IntKind.i64.wrap (Int.tdiv (l_0.length:Int) 2))+1)) (l_0.length:Int)).bind fun l8=>
  ((recf l8).bind fun r10=>
  ((eR r4 x6 r10).bind fun r12=>
  some r12)))))))
def yD:Nat→(List bS)→Option (aB)
 |0=>fun _=>none
 |n+1=>tK (yD n)
def aF6(l_0:List bS):Option (aB):=yD aW l_0
theorem aZ0: ∀(nn:Nat) {l_0:List bS} {r:aB} (hm:yD nn l_0=some r),cE prog 155 [.sl (l_0.flatMap aAg) l_0.length false] (aB.av r):=by
 intro nn
 induction nn with
 |zero=>
  intro l_0 r hm;replace hm:none=some r:=hm;cases hm
 |succ nn ih=>
  intro l_0 r hm;replace hm:tK (yD nn) l_0=some r:=hm;refine cE.of_body func155 rfl ?_;simp only [ntmps155,List.length_cons,List.length_nil,Nat.reduceAdd,Nat.reduceSub,iN];unfold tK at hm;refine sN 64 (pA ?_);refine fs (AWp.seq' (sN 128 ?_))
  iterate 3 refine pA ?_
  refine fs (AWp.condM hm Z1 (fun _ hm=>?_) (fun _ hm=>?_))
  · refine sN 192 (pA ?_);refine fs (AWp.ret (jE ?_));cases hm;exact aNk (.inr rfl) Tryz.results155 (td Z1 (aB.data _))
  ·
   refine AWp.skip (bQ (sN 192 ?_))
   iterate 4 refine pu rfl Zj ?_
   refine fs (sd mix (by kernel_rfl) (N':=256) rfl ?_)
   iterate 2 refine pA ?_
   obtain ⟨l2,h1,hm⟩:=bnd hm;refine pu rfl (bDg iL underlying267 bHp Z1 rfl aS0 (aCk Z1 (bHm h1).2) h1) ?_;obtain ⟨r4,h3,hm⟩:=bnd hm;refine aR.callQ (r:=aB.av r4) Zd Z1 bO3 (fun H=>(.cons (tdf Z1 (iL.sl _ _ _)) .nil)) (ih h3) ?_
   iterate 2 refine pA ?_
   obtain ⟨x6,h5,hm⟩:=bnd hm;refine pu rfl (aGs iL Zd underlying267 bHp Z1 rfl Z1 h5) ?_
   iterate 4 refine pA ?_
   obtain ⟨l8,h7,hm⟩:=bnd hm;refine pu rfl (bDg iL underlying267 bHp Z1 rfl (aCk Z1 (bHm h7).1) (aWo _) h7) ?_;obtain ⟨r10,h9,hm⟩:=bnd hm;refine aR.callQ (r:=aB.av r10) Zd Z1 bO3 (fun H=>(.cons (tdf Z1 (iL.sl _ _ _)) .nil)) (ih h9) ?_;obtain ⟨r12,h11,hm⟩:=bnd hm;refine aR.callQ (r:=aB.av r12) Zd Z1 bW5 (fun H=>(cD (aB.data _) (cD (.agg _ (iL.dat _)) (cD (aB.data _) .nil)))) (aFs h11) ?_;refine pA ?_;refine fs (AWp.ret ?_);cases hm;exact aNk (.inr rfl) Tryz.results155 (td Z1 (aB.data _))
theorem bCc{l_0:List bS}{r:aB}(hm:aF6 l_0=some r):cE prog 155 [.sl (l_0.flatMap aAg) l_0.length false] (aB.av r):=aZ0 aW hm
def rU(a_0:aB)(b_1:aB):Option (aB):=
 ((qH b_1 0).bind fun ⟨r2,r3⟩=>
 (bif (!r3) then
  some a_0
 else
  ((tM b_1 1).bind fun ⟨r5,r6⟩=>
  ((rH a_0 r2 r6).bind fun r8=>
  some r8))))
theorem aFr{a_0:aB}{b_1:aB}{r:aB}(hm:rU a_0 b_1=some r):cE prog 154 [aB.av a_0,aB.av b_1] (aB.av r):=by
 refine bd 26 func154 ?_;refine W ?_;obtain ⟨⟨r2,r3⟩,h1,hm⟩:=bnd hm;refine cq (aF5 h1) ?_;refine W ?_;refine cm hm (fun hm=>?_) fun hm=>?_
 · exact E
 refine W ?_;obtain ⟨⟨r5,r6⟩,h4,hm⟩:=bnd hm;refine cq (aE3 h4) ?_;obtain ⟨r8,h7,hm⟩:=bnd hm;refine W ?_;refine cq (aCd h7) ?_;exact E
instance:Ct prog 154 (K2 prog aB.av aB.av aB.av 154 rU):=⟨fun hm=>aFr hm⟩
abbrev aH5(kB:Int)(n_2:Int)(t6:cC)(aSt:aB)(aJl:aB):Option (cC):=
 ((aF6 [(bS.mk kB n_2)]).bind fun r7=>
 ((rU r7 aJl).bind fun r9=>
 ((rU aSt r9).bind fun r11=>
 some (cC.mk r11))))
def aG4(d_0:cC)(kB:Int)(n_2:Int):Option (cC):=
 ((aAh d_0 kB).bind fun r2=>
 ((tM d_0.s r2).bind fun ⟨r4,r5⟩=>
 ((qH r5 0).bind fun ⟨r13,r14⟩=>
 (bif (r14&&(r13.Key==kB)) then
  ((tM r5 1).bind fun ⟨r16,r17⟩=>
  aH5 kB n_2 (cC.mk aB.nil) r4 r17)
 else
  aH5 kB n_2 (cC.mk aB.nil) r4 r5))))
theorem bIq{d_0:cC}{kB:Int}{n_2:Int}{r:cC}(hm:aG4 d_0 kB n_2=some r):cE prog 118 [.agg [aB.av d_0.s],vu kB,vi n_2] (.agg [aB.av r.s]):=by
 refine bd 47 func118 ?_;obtain ⟨r2,h1,hm⟩:=bnd hm;refine W ?_;refine cq (aSf h1) ?_;obtain ⟨⟨r4,r5⟩,h3,hm⟩:=bnd hm;refine cq (aE3 h3) ?_;refine V ?_;refine AWp.seqJ (fun s=> ∃kB n_2 t6 aSt aJl,s=⟨47,(aF (aF (aF (aF (aF fa 1 (vu kB)) 2 (vi n_2)) 6 (.adr 1 0)) 7 (aB.av aSt)) 8 (aB.av aJl)),⟨(upd aY 1 (.cells 1 [aB.av t6.s] 0)),64⟩⟩∧aH5 kB n_2 t6 aSt aJl=some r) ?_ ?_
 ·
  refine W ?_;obtain ⟨⟨r13,r14⟩,h12,hm⟩:=bnd hm;refine cq (aF5 h12) ?_;refine W ?_;refine cm hm (fun hm=>?_) fun hm=>?_
  · refine W ?_;obtain ⟨⟨r16,r17⟩,h15,hm⟩:=bnd hm;refine cq (aE3 h15) ?_;refine W ?_;exact Lr (fun j=>bif j==1 then 1 else 0)
  refine W ?_;exact Lr (fun j=>bif j==1 then 1 else 0)
 rintro s ⟨kB,n_2,t6,aSt,aJl,rfl,hm⟩;refine W ?_;refine bU (.agg [vu kB,vi n_2]) ?_;refine aL iL [(bS.mk kB n_2)] ?_;obtain ⟨r7,h6,hm⟩:=bnd hm;refine aR.callL1 (r:=aB.av r7) (id:=68) Zd Z1 bO3 Z3 (.cons (tdl iL Z1 Z3 (by simp) Z6) .nil) (bCc h6) ?_;obtain ⟨r9,h8,hm⟩:=bnd hm;refine W ?_;refine cq (aFr h8) ?_;obtain ⟨r11,h10,hm⟩:=bnd hm;refine cq (aFr h10) ?_;refine pu rfl (by simp only [go_sem,Nat.reduceBEq];exact bN4 (aB.cells _)) ?_;exact E
instance:Ct prog 118 (K3 prog xK vu vi xK 118 aG4):=⟨fun hm=>bIq hm⟩
abbrev aFy(rec1:cC→cC→List aI→Int→Int→Option (cC×Bool))(t2:cC)(qY:cC)(t14:List aI)(t15:Int)(t16:Int):Option (cC×Bool):=
 rec1 t2 qY t14 t15 (IntKind.i64.wrap (t16+1))
def aFx(rec1:cC→cC→List aI→Int→Int→Option (cC×Bool))(t2:cC)(qY:cC)(t14:List aI)(t15:Int)(t16:Int):Option (cC×Bool):=
 (bif (decide (t16<t15)) then
  ((idx t14 t16).bind fun x4=>
  (bif (!x4.Used) then
   (bif (x4.Key !=0) then
    some ((cC.mk aB.nil),false)
   else
    aFy rec1 t2 qY t14 t15 t16)
  else
   ((xP qY x4.Key).bind fun ⟨r6,r7⟩=>
   (bif r7 then
    some ((cC.mk aB.nil),false)
   else
    ((aG4 qY x4.Key t16).bind fun r9=>
    aFy rec1 t2 r9 t14 t15 t16)))))
 else
  some (qY,true))
def wJ:Nat→cC→cC→List aI→Int→Int→Option (cC×Bool)
 |0=>fun _ _ _ _ _=>none
 |n+1=>aFx (wJ n)
def oC(l_0:List aI):Option (cC×Bool):=
 ((qZ (l_0.length:Int)).bind fun r2=>
 (bif (!r2) then
  some ((cC.mk aB.nil),false)
 else
  wJ aW (cC.mk aB.nil) (cC.mk aB.nil) l_0 (l_0.length:Int) 0))
theorem aIa:K1 prog (vl aX) (t2 xK vb) 78 oC:=by
 intro l_0 r hm
 let I1:=((fun m s=> ∃t2 qY t14 t15 t16,s=⟨44,(aF (aF (aF (aF (aF fa 2 (.adr 1 0)) 4 (.adr 2 0)) 14 (vl aX t14)) 15 (vi t15)) 16 (vi t16)),⟨(upd (upd aY 1 (.cells 1 [aB.av t2.s] 0)) 2 (.cells 1 [aB.av qY.s] 0)),64⟩⟩∧wJ m t2 qY t14 t15 t16=some r):Nat→St→Prop)
 exact be 44 func78 (h:=G)
instance:Ct prog 78 (K1 prog (vl aX) (t2 xK vb) 78 oC):=⟨aIa⟩
def aA6(l_0:List aI):Option (Bool):=
 ((oC l_0).bind fun ⟨r2,r3⟩=>
 some r3)
theorem aZd:K1 prog (vl aX) vb 77 aA6:=fun hm=>be 11 func77 (h:=G)
instance:Ct prog 77 (K1 prog (vl aX) vb 77 aA6):=⟨aZd⟩
def aI3(rec1:aD→List aE→Int→Int→Option (Bool))(s_1:aD)(t27:List aE)(t28:Int)(t29:Int):Option (Bool):=
 (bif (decide (t29<t28)) then
  ((idx t27 t29).bind fun x6=>
  ((idx s_1.Slots x6.U).bind fun x8=>
  ((eK ((!x8.Used)==false) (aI.mk false 0) (idx s_1.Slots x6.V)).bind fun x10=>
  (bif ((!x8.Used)||(!x10.Used)) then
   some false
  else
   rec1 s_1 t27 t28 (IntKind.i64.wrap (t29+1))))))
 else
  some true)
def aA4:Nat→aD→List aE→Int→Int→Option (Bool)
 |0=>fun _ _ _ _=>none
 |n+1=>aI3 (aA4 n)
def mN(s_0:aD):Option (Bool):=
 ((gX s_0.Graph).bind fun r2=>
 ((eK ((!r2)==false) false (aA6 s_0.Slots)).bind fun r4=>
 (bif (((!r2)||(!r4))||((s_0.Slots.length:Int) !=s_0.Graph.Config.N)) then
  some false
 else
  aA4 aW s_0 s_0.Graph.Edges (s_0.Graph.Edges.length:Int) 0)))
theorem aQp:K1 prog dC vb 36 mN:=by
 intro s_0 r hm
 let I1:=((fun m s=> ∃s_1 t27 t28 t29,s=⟨52,(aF (aF (aF (aF fa 1 (.adr 1 0)) 27 (vl aV t27)) 28 (vi t28)) 29 (vi t29)),⟨(upd aY 1 (.cells 1 [vi s_1.Graph.Config.N,vi s_1.Graph.Config.L,vi s_1.Graph.Config.R,vl cL s_1.Graph.Hashes,vl aV s_1.Graph.Edges,vl aX s_1.Slots] 0)),64⟩⟩∧aA4 m s_1 t27 t28 t29=some r):Nat→St→Prop)
 exact be 52 func36 (h:=G)
instance:Ct prog 36 (K1 prog dC vb 36 mN):=⟨aQp⟩
def tY(l_0:List aI)(kB:Int):Option (Int×Bool):=
 ((oC l_0).bind fun ⟨r2,r3⟩=>
 (bif (!r3) then
  some (0,false)
 else
  ((xP r2 kB).bind fun ⟨r5,r6⟩=>
  some (r5,r6))))
theorem bCy:K2 prog (vl aX) vu (t2 vi vb) 37 tY:=fun hm=>be 20 func37 (h:=G)
instance:Ct prog 37 (K2 prog (vl aX) vu (t2 vi vb) 37 tY):=⟨bCy⟩
def qL(bAg:Int):Option (Bool):=
 some (((decide (2≤bAg))&&(decide (bAg≤11)))&&(bAg !=10))
theorem aXo:K1 prog vi vb 38 qL:=fun hm=>be 13 func38 (h:=G)
instance:Ct prog 38 (K1 prog vi vb 38 qL):=⟨aXo⟩
def qM(bAg:Int):Option (Bool):=
 some ((((bAg==3)||(bAg==4))||(bAg==5))||(bAg==8))
theorem aXp:K1 prog vi vb 39 qM:=fun hm=>be 17 func39 (h:=G)
instance:Ct prog 39 (K1 prog vi vb 39 qM):=⟨aXp⟩
def xU(s_0:aD)(v_1:Int):Option ((List Int)):=
 ((aFb s_0.Graph.Config.N s_0.Graph.Edges v_1).bind fun r2=>
 some r2)
theorem bAt:K2 prog dC vi (vl (ci .i64)) 83 xU:=fun hm=>be 14 func83 (h:=G)
instance:Ct prog 83 (K2 prog dC vi (vl (ci .i64)) 83 xU):=⟨bAt⟩
def rN(s_0:aD)(v_1:Int):Option (Int):=
 ((xU s_0 v_1).bind fun r2=>
 some (r2.length:Int))
theorem aUl:K2 prog dC vi vi 81 rN:=fun hm=>be 9 func81 (h:=G)
instance:Ct prog 81 (K2 prog dC vi vi 81 rN):=⟨aUl⟩
def oU(x_0:Int):Option (Bool):=
 some (x_0 !=x_0)
theorem aOj:K1 prog vu vb 162 oU:=fun hm=>be 6 func162 (h:=G)
instance:Ct prog 162 (K1 prog vu vb 162 oU):=⟨aOj⟩
def dF(x_0:Int)(y_1:Int):Option (Bool):=
 ((oU x_0).bind fun r2=>
 ((eK (r2==true) false (oU y_1)).bind fun r4=>
 some ((r2&&(!r4))||(decide (x_0<y_1)))))
theorem aC5:K2 prog vu vu vb 199 dF:=fun hm=>be 17 func199 (h:=G)
instance:Ct prog 199 (K2 prog vu vu vb 199 dF):=⟨aC5⟩
def jN(rec1:List Int→Int→Int→Int→Option (List Int))(rec2:List Int→Int→Int→Int→Int→Option (List Int))(aC:List Int)(a_1:Int)(b_2:Int)(i_6:Int)(j_7:Int):Option (List Int):=
 ((eK ((decide (a_1<j_7))==true) 0 (idx aC j_7)).bind fun x2=>
 ((eK ((decide (a_1<j_7))==true) 0 (idx aC (IntKind.i64.wrap (j_7-1)))).bind fun x4=>
 ((eK ((decide (a_1<j_7))==true) false (dF x2 x4)).bind fun r6=>
 (bif ((decide (a_1<j_7))&&r6) then
  ((idx aC (IntKind.i64.wrap (j_7-1))).bind fun x8=>
  ((idx aC j_7).bind fun x10=>
  ((idx aC j_7).bind fun x12=>
  ((stt aC j_7 x8).bind fun l14=>
  ((idx l14 (IntKind.i64.wrap (j_7-1))).bind fun x16=>
  ((stt l14 (IntKind.i64.wrap (j_7-1)) x10).bind fun l18=>
  rec2 l18 a_1 b_2 i_6 (IntKind.i64.wrap (j_7-1))))))))
 else
  rec1 aC a_1 b_2 (IntKind.i64.wrap (i_6+1))))))
def eW(rec1:List Int→Int→Int→Int→Option (List Int)):Nat→List Int→Int→Int→Int→Int→Option (List Int)
 |0=>fun _ _ _ _ _=>none
 |n+1=>jN rec1 (eW rec1 n)
def jL(rec1:List Int→Int→Int→Int→Option (List Int))(aC:List Int)(a_1:Int)(b_2:Int)(i_6:Int):Option (List Int):=
 (bif (decide (i_6<b_2)) then
  eW rec1 aW aC a_1 b_2 i_6 i_6
 else
  some aC)
def dX:Nat→List Int→Int→Int→Int→Option (List Int)
 |0=>fun _ _ _ _=>none
 |n+1=>jL (dX n)
def fE(aC:List Int)(a_1:Int)(b_2:Int):Option (List Int):=
 dX aW aC a_1 b_2 (IntKind.i64.wrap (a_1+1))
instance:FB prog 193:=⟨by kernel_rfl⟩
theorem mZ: ∀ {aC:List Int} {a_1:Int} {b_2:Int},KM prog 193 [.v (.int .i64 a_1),vi b_2] aC (fE aC a_1 b_2) (fun r=>r) (fun r=> .tup []):=by
 intro aC a_1 b_2 r hm H i0 he;refine bM 49 func193 he fun h0=>?_
 let I1:=((fun m s=> ∃aC a_1 b_2 i_6,jM 49 (aF (aF (aF (aF fa 0 (.own i0 0 aC.length)) 1 (vi a_1)) 2 (vi b_2)) 6 (vi i_6)) h0 i0 aC (dX m aC a_1 b_2 i_6) r s):Nat→St→Prop)
 let I2:=fun (n1:Nat)=>((fun m s=> ∃aC a_1 b_2 i_6 j_7,jM 49 (aF (aF (aF (aF (aF fa 0 (.own i0 0 aC.length)) 1 (vi a_1)) 2 (vi b_2)) 6 (vi i_6)) 7 (vi j_7)) h0 i0 aC (eW (dX n1) m aC a_1 b_2 i_6 j_7) r s):Nat→St→Prop)
 exact GM
instance:Ct prog 193 (∀ {aC:List Int} {a_1:Int} {b_2:Int},KM prog 193 [.v (.int .i64 a_1),vi b_2] aC (fE aC a_1 b_2) (fun r=>r) (fun r=> .tup [])):=⟨mZ⟩
abbrev jA(rec1:List Int→Int→Int→Int→Option (List Int))(aC:List Int)(aFj:Int)(jJ:Int)(qV:Int)(aMw:Int):Option (List Int):=
 ((idx aC (IntKind.i64.wrap (jJ+qV))).bind fun x2=>
 ((idx aC (IntKind.i64.wrap (jJ+aMw))).bind fun x4=>
 ((dF x2 x4).bind fun r6=>
 (bif (!r6) then
  some aC
 else
  ((idx aC (IntKind.i64.wrap (jJ+aMw))).bind fun x8=>
  ((idx aC (IntKind.i64.wrap (jJ+qV))).bind fun x10=>
  ((idx aC (IntKind.i64.wrap (jJ+qV))).bind fun x12=>
  ((stt aC (IntKind.i64.wrap (jJ+qV)) x8).bind fun l14=>
  ((idx l14 (IntKind.i64.wrap (jJ+aMw))).bind fun x16=>
  ((stt l14 (IntKind.i64.wrap (jJ+aMw)) x10).bind fun l18=>
  rec1 l18 aFj jJ aMw))))))))))
def lH(rec1:List Int→Int→Int→Int→Option (List Int))(aC:List Int)(aFj:Int)(jJ:Int)(qV:Int):Option (List Int):=
 (bif (decide (aFj≤(IntKind.i64.wrap ((IntKind.i64.wrap (2*qV))+1)))) then
  some aC
 else
  ((eK ((decide ((IntKind.i64.wrap ((IntKind.i64.wrap ((IntKind.i64.wrap (2*qV))+1))+1))<aFj))==true) 0 (idx aC (IntKind.i64.wrap (jJ+(IntKind.i64.wrap ((IntKind.i64.wrap (2*qV))+1)))))).bind fun x20=>
  ((eK ((decide ((IntKind.i64.wrap ((IntKind.i64.wrap ((IntKind.i64.wrap (2*qV))+1))+1))<aFj))==true) 0 (idx aC (IntKind.i64.wrap ((IntKind.i64.wrap (jJ+(IntKind.i64.wrap ((IntKind.i64.wrap (2*qV))+1))))+1)))).bind fun x22=>
  ((eK ((decide ((IntKind.i64.wrap ((IntKind.i64.wrap ((IntKind.i64.wrap (2*qV))+1))+1))<aFj))==true) false (dF x20 x22)).bind fun r24=>
  (bif ((decide ((IntKind.i64.wrap ((IntKind.i64.wrap ((IntKind.i64.wrap (2*qV))+1))+1))<aFj))&&r24) then
   jA rec1 aC aFj jJ qV (IntKind.i64.wrap ((IntKind.i64.wrap ((IntKind.i64.wrap (2*qV))+1))+1))
  else
   jA rec1 aC aFj jJ qV (IntKind.i64.wrap ((IntKind.i64.wrap (2*qV))+1)))))))
def eZ:Nat→List Int→Int→Int→Int→Option (List Int)
 |0=>fun _ _ _ _=>none
 |n+1=>lH (eZ n)
def fN(aC:List Int)(uK:Int)(aFj:Int)(jJ:Int):Option (List Int):=
 eZ aW aC aFj jJ uK
instance:FB prog 238:=⟨by kernel_rfl⟩
theorem aBw: ∀ {aC:List Int} {uK:Int} {aFj:Int} {jJ:Int},KM prog 238 [.v (.int .i64 uK),vi aFj,vi jJ] aC (fN aC uK aFj jJ) (fun r=>r) (fun r=> .tup []):=by
 intro aC uK aFj jJ r hm H i0 he;refine bM 76 func238 he fun h0=>?_
 let I1:=((fun m s=> ∃aC aFj jJ qV,jM 76 (aF (aF (aF (aF fa 0 (.own i0 0 aC.length)) 2 (vi aFj)) 3 (vi jJ)) 8 (vi qV)) h0 i0 aC (eZ m aC aFj jJ qV) r s):Nat→St→Prop)
 exact GM
instance:Ct prog 238 (∀ {aC:List Int} {uK:Int} {aFj:Int} {jJ:Int},KM prog 238 [.v (.int .i64 uK),vi aFj,vi jJ] aC (fN aC uK aFj jJ) (fun r=>r) (fun r=> .tup [])):=⟨aBw⟩
def lG(rec2:List Int→Int→Int→Int→Option (List Int))(aC:List Int)(nD:Int)(aSx:Int)(iI:Int):Option (List Int):=
 (bif (decide (0≤iI)) then
  ((idx aC (IntKind.i64.wrap (nD+iI))).bind fun x4=>
  ((idx aC nD).bind fun x6=>
  ((idx aC nD).bind fun x8=>
  ((stt aC nD x4).bind fun l10=>
  ((idx l10 (IntKind.i64.wrap (nD+iI))).bind fun x12=>
  ((stt l10 (IntKind.i64.wrap (nD+iI)) x6).bind fun l14=>
  ((aA8 (fun x=>x.length) l14.length (fN l14 aSx iI nD)).bind fun l16=>
  rec2 l16 nD aSx (IntKind.i64.wrap (iI-1)))))))))
 else
  some aC)
def gP:Nat→List Int→Int→Int→Int→Option (List Int)
 |0=>fun _ _ _ _=>none
 |n+1=>lG (gP n)
def lF(rec1:List Int→Int→Int→Int→Int→Option (List Int))(aC:List Int)(nD:Int)(aSx:Int)(bLh:Int)(i_9:Int):Option (List Int):=
 (bif (decide (0≤i_9)) then
  ((aA8 (fun x=>x.length) aC.length (fN aC i_9 bLh nD)).bind fun l2=>
  rec1 l2 nD aSx bLh (IntKind.i64.wrap (i_9-1)))
 else
  gP aW aC nD aSx (IntKind.i64.wrap (bLh-1)))
def gO:Nat→List Int→Int→Int→Int→Int→Option (List Int)
 |0=>fun _ _ _ _ _=>none
 |n+1=>lF (gO n)
def iA(aC:List Int)(a_1:Int)(b_2:Int):Option (List Int):=
 gO aW aC a_1 0 (IntKind.i64.wrap (b_2-a_1)) (IntKind.i64.wrap (Int.tdiv (IntKind.i64.wrap ((IntKind.i64.wrap (b_2-a_1))-1)) 2))
instance:FB prog 194:=⟨by kernel_rfl⟩
theorem qI: ∀ {aC:List Int} {a_1:Int} {b_2:Int},KM prog 194 [.v (.int .i64 a_1),vi b_2] aC (iA aC a_1 b_2) (fun r=>r) (fun r=> .tup []):=by
 intro aC a_1 b_2 r hm H i0 he;refine bM 56 func194 he fun h0=>?_
 let I1:=((fun m s=> ∃aC nD aSx bLh i_9,jM 56 (aF (aF (aF (aF (aF fa 0 (.own i0 0 aC.length)) 6 (vi nD)) 7 (vi aSx)) 8 (vi bLh)) 9 (vi i_9)) h0 i0 aC (gO m aC nD aSx bLh i_9) r s):Nat→St→Prop)
 let I2:=((fun m s=> ∃aC nD aSx iI,jM 56 (aF (aF (aF (aF fa 0 (.own i0 0 aC.length)) 6 (vi nD)) 7 (vi aSx)) 10 (vi iI)) h0 i0 aC (gP m aC nD aSx iI) r s):Nat→St→Prop)
 exact GM
instance:Ct prog 194 (∀ {aC:List Int} {a_1:Int} {b_2:Int},KM prog 194 [.v (.int .i64 a_1),vi b_2] aC (iA aC a_1 b_2) (fun r=>r) (fun r=> .tup [])):=⟨qI⟩
def kL(bPf:Int):Option (Int):=
 ((xL (IntKind.u64.wrap bPf)).bind fun r2=>
 ((chk (decide (0≤r2))).bind fun _=>
 some (shl .u64 1 r2)))
theorem aA3:K1 prog vi vu 239 kL:=fun hm=>be 7 func239 (h:=G)
instance:Ct prog 239 (K1 prog vi vu 239 kL):=⟨aA3⟩
def aAy(r_0:Int):Option (Int×Int):=
 some ((aAf .u64 (aAf .u64 (aAf .u64 r_0 (shl .u64 r_0 13)) (shr .u64 (aAf .u64 r_0 (shl .u64 r_0 13)) 7)) (shl .u64 (aAf .u64 (aAf .u64 r_0 (shl .u64 r_0 13)) (shr .u64 (aAf .u64 r_0 (shl .u64 r_0 13)) 7)) 17)),(aAf .u64 (aAf .u64 (aAf .u64 r_0 (shl .u64 r_0 13)) (shr .u64 (aAf .u64 r_0 (shl .u64 r_0 13)) 7)) (shl .u64 (aAf .u64 (aAf .u64 r_0 (shl .u64 r_0 13)) (shr .u64 (aAf .u64 r_0 (shl .u64 r_0 13)) 7)) 17)))
theorem aPe{r_0:Int}{r:Int×Int}(hm:aAy r_0=some r){H:aG}{i0:Nat}(he:H.ent i0= .cells 1 [.v (.int .u64 r_0)] 0):eN prog 240 [.adr i0 0] H (.v (.int .u64 r.1)) (H.put i0 (.cells 1 [.v (.int .u64 r.2)] 0)):=by
 refine eN.of_bodyM func240 rfl he ?_;generalize H.ent=h0;simp only [ntmps240,List.length_cons,List.length_nil,Nat.reduceAdd,Nat.reduceSub];unfold aAy at hm;refine sN 64 (pA ?_);refine fs (sd mix (by kernel_rfl) (N':=128) rfl ?_)
 iterate 2 refine pA ?_
 refine pu rfl (hY Z1 Za Z2) ?_
 iterate 2 refine pA ?_
 refine pu rfl (hY Z1 Za Z2) ?_
 iterate 3 refine pu rfl Zj ?_
 refine aR.heap0 (id:=73) rfl (oD (ys:=[.v (.int .u64 (aAf .u64 r_0 (shl .u64 r_0 13)))]) bCh Z1 Z1 Za rfl (lB rfl) Z9 rfl) ?_;refine fs (sd mix (by kernel_rfl) (N':=192) rfl ?_)
 iterate 2 refine pA ?_
 refine pu rfl (hY Z1 Za Z2) ?_
 iterate 2 refine pA ?_
 refine pu rfl (hY Z1 Za Z2) ?_
 iterate 3 refine pu rfl Zj ?_
 refine aR.heap0 (id:=137) rfl (oD (ys:=[.v (.int .u64 (aAf .u64 (aAf .u64 r_0 (shl .u64 r_0 13)) (shr .u64 (aAf .u64 r_0 (shl .u64 r_0 13)) 7)))]) bCh Z1 Z1 Za rfl (lB rfl) Z9 rfl) ?_;refine fs (sd mix (by kernel_rfl) (N':=256) rfl ?_)
 iterate 2 refine pA ?_
 refine pu rfl (hY Z1 Za Z2) ?_
 iterate 2 refine pA ?_
 refine pu rfl (hY Z1 Za Z2) ?_
 iterate 3 refine pu rfl Zj ?_
 refine aR.heap0 (id:=201) rfl (oD (ys:=[.v (.int .u64 (aAf .u64 (aAf .u64 (aAf .u64 r_0 (shl .u64 r_0 13)) (shr .u64 (aAf .u64 r_0 (shl .u64 r_0 13)) 7)) (shl .u64 (aAf .u64 (aAf .u64 r_0 (shl .u64 r_0 13)) (shr .u64 (aAf .u64 r_0 (shl .u64 r_0 13)) 7)) 17)))]) bCh Z1 Z1 Za rfl (lB rfl) Z9 rfl) ?_;refine fs (sN 320 ?_)
 iterate 2 refine pA ?_
 refine pu rfl (hY Z1 Za Z2) ?_;refine pA ?_;refine fs (AWp.ret ?_);cases hm;exact bC7 (.inr rfl) Tryz.results240 Z1 Zc
abbrev gY(rec1:List Int→Int→Int→Int→Int→Int→Option (List Int))(aC:List Int)(a_1:Int)(gN:Int)(jX:Int)(eJ:Int)(oW:Int):Option (List Int):=
 rec1 aC a_1 gN jX eJ (IntKind.i64.wrap (oW+1))
abbrev dW(rec1:List Int→Int→Int→Int→Int→Int→Option (List Int))(aC:List Int)(a_1:Int)(gN:Int)(jX:Int)(eJ:Int)(oW:Int)(aDt:Int):Option (List Int):=
 ((idx aC (IntKind.i64.wrap (a_1+aDt))).bind fun x7=>
 ((idx aC oW).bind fun x9=>
 ((idx aC oW).bind fun x11=>
 ((stt aC oW x7).bind fun l13=>
 ((idx l13 (IntKind.i64.wrap (a_1+aDt))).bind fun x15=>
 ((stt l13 (IntKind.i64.wrap (a_1+aDt)) x9).bind fun l17=>
 gY rec1 l17 a_1 gN jX eJ oW))))))
def eT(rec1:List Int→Int→Int→Int→Int→Int→Option (List Int))(aC:List Int)(a_1:Int)(gN:Int)(jX:Int)(eJ:Int)(oW:Int):Option (List Int):=
 (bif (decide (oW≤(IntKind.i64.wrap ((IntKind.i64.wrap (a_1+(IntKind.i64.wrap ((IntKind.i64.wrap (Int.tdiv gN 4))*2))))+1)))) then
  ((aAy jX).bind fun ⟨r5,x4⟩=>
  (bif (decide (gN≤(IntKind.i64.wrap (yO .u64 r5 (IntKind.u64.wrap (eJ-1)))))) then
   dW rec1 aC a_1 gN x4 eJ oW (IntKind.i64.wrap ((IntKind.i64.wrap (yO .u64 r5 (IntKind.u64.wrap (eJ-1))))-gN))
  else
   dW rec1 aC a_1 gN x4 eJ oW (IntKind.i64.wrap (yO .u64 r5 (IntKind.u64.wrap (eJ-1))))))
 else
  some aC)
def bX:Nat→List Int→Int→Int→Int→Int→Int→Option (List Int)
 |0=>fun _ _ _ _ _ _=>none
 |n+1=>eT (bX n)
def fD(aC:List Int)(a_1:Int)(b_2:Int):Option (List Int):=
 (bif (decide (8≤(IntKind.i64.wrap (b_2-a_1)))) then
  ((kL (IntKind.i64.wrap (b_2-a_1))).bind fun r2=>
  bX aW aC a_1 (IntKind.i64.wrap (b_2-a_1)) (IntKind.u64.wrap (IntKind.i64.wrap (b_2-a_1))) r2 (IntKind.i64.wrap ((IntKind.i64.wrap (a_1+(IntKind.i64.wrap ((IntKind.i64.wrap (Int.tdiv (IntKind.i64.wrap (b_2-a_1)) 4))*2))))-1)))
 else
  some aC)
theorem xH{aC:List Int}{a_1:Int}{b_2:Int}{r:List Int}(hm:fD aC a_1 b_2=some r){H:aG}{i0:Nat}(he:H.ent i0= .cells 1 (aC.flatMap (ci .u64)) 0)(hk: ∀id,3000000≤id→H.ent id= .fresh)(hD: ∀id,aFe (H.ent id))(hi:i0<3000000):eN prog 195 [.own i0 0 aC.length,.v (.int .i64 a_1),.v (.int .i64 b_2)] H (.tup []) (H.put i0 (.cells 1 (r.flatMap (ci .u64)) 0)):=by
 refine eN.of_bodyK func195 rfl he hk ?_;clear he;generalize H.ent=h0 at hk hD⊢;have hne1: ∀ {k:Nat},3000000≤k→(k==i0)=false:=fun hh=>by simp;omega
 have hne2: ∀ {k:Nat},3000000≤k→(i0==k)=false:=fun hh=>by simp;omega
 simp only [ntmps195,List.length_cons,List.length_nil,Nat.reduceAdd,Nat.reduceSub];unfold fD at hm;refine AWp.behind ?_;refine sN 3000064 ?_
 iterate 4 refine pA ?_
 refine fs (sN 3000128 ?_)
 iterate 2 refine pA ?_
 refine fs (AWp.condM hm Z1 (fun _ hm=>?_) (fun _ hm=>?_))
 ·
  refine sN 3000192 ?_
  iterate 2 refine pA ?_
  refine hp (id:=3000130) rfl rfl (nQ cIt (by simp only [dZ,hne1,Nat.reduceLeDiff,Nat.reduceBEq,cond_true,cond_false];exact frK hk Zd)) ?_;refine aR.heap0 (id:=3000131) rfl (oD (ys:=[.v (.int .u64 (IntKind.u64.wrap (IntKind.i64.wrap (b_2-a_1))))]) bCh Z1 Z1 Ze rfl (lB rfl) Z9 rfl) ?_;refine fs (sN 3000256 (pA ?_));obtain ⟨r2,h1,hm⟩:=bnd hm;refine aR.callQ (r:= .v (.int .u64 r2)) Zd Z1 cAf (fun H=>(cV .nil)) (aA3 h1) ?_;refine pA ?_;refine fs (sN 3000320 ?_)
  iterate 7 refine pu rfl Zj ?_
  refine fs (AWp.block (AWp.loopM (fun m s=> ∃(aC:List Int) (a_1:Int) (gN:Int) (jX:Int) (eJ:Int) (oW:Int),s=(⟨65,(aF (aF (aF (aF (aF (aF (fun _=>AV.any) 0 (.own i0 0 aC.length)) 1 (.v (.int .i64 a_1))) 6 (.v (.int .i64 gN))) 7 (.adr 3000130 0)) 8 (.v (.int .u64 eJ))) 9 (.v (.int .i64 oW))),⟨(upd (upd h0 i0 (.cells 1 (aC.flatMap (ci .u64)) 0)) 3000130 (.cells 1 [.v (.int .u64 jX)] 0)),64⟩⟩:St)∧bX m aC a_1 gN jX eJ oW=some r) aW ?_ ?_ ?_))
  · rintro s ⟨_,_,_,_,_,_,_,h⟩;cases h
  · refine ⟨_,?_,aC,a_1,(IntKind.i64.wrap (b_2-a_1)),(IntKind.u64.wrap (IntKind.i64.wrap (b_2-a_1))),r2,(IntKind.i64.wrap ((IntKind.i64.wrap (a_1+(IntKind.i64.wrap ((IntKind.i64.wrap (Int.tdiv (IntKind.i64.wrap (b_2-a_1)) 4))*2))))-1)),rfl,hm⟩;exact sD (aZ 9 _ Z1 (aZ 8 _ Z1 (aZ 7 _ Z1 (aZ 6 _ Z1 (aZ 1 _ Z1 (aZ 0 _ (sE Z1 Z6) nE)))))) Zi
  ·
   rintro n1 s ⟨aC,a_1,gN,jX,eJ,oW,rfl,hm⟩;replace hm:eT (bX n1) aC a_1 gN jX eJ oW=some r:=hm;unfold eT at hm;refine AWp.seq' (sN 128 ?_)
   iterate 8 refine pu rfl Zj ?_
   refine fs (AWp.condM hm Z1 (fun _ hm=>?_) (fun _ hm=>?_))
   ·
    refine AWp.skip (bQ (AWp.seqJ (fun s=> ∃(aC:List Int) (a_1:Int) (gN:Int) (jX:Int) (eJ:Int) (oW:Int),s=(⟨65,(aF (aF (aF (aF (aF (aF (fun _=>AV.any) 0 (.own i0 0 aC.length)) 1 (.v (.int .i64 a_1))) 6 (.v (.int .i64 gN))) 7 (.adr 3000130 0)) 8 (.v (.int .u64 eJ))) 9 (.v (.int .i64 oW))),⟨(upd (upd h0 i0 (.cells 1 (aC.flatMap (ci .u64)) 0)) 3000130 (.cells 1 [.v (.int .u64 jX)] 0)),64⟩⟩:St)∧gY (bX n1) aC a_1 gN jX eJ oW=some r) ?_ ?_))
    ·
     refine AWp.block (sN 192 ?_);obtain ⟨⟨r5,x4⟩,h3,hm⟩:=bnd hm;refine aR.callM Zd Z1 cAg Z1 (aPe h3 Ze) ?_
     iterate 5 refine pA ?_
     refine fs (AWp.seqJ (fun s=> ∃(aC:List Int) (a_1:Int) (gN:Int) (jX:Int) (eJ:Int) (oW:Int) (aDt:Int),s=(⟨65,(aF (aF (aF (aF (aF (aF (aF (fun _=>AV.any) 0 (.own i0 0 aC.length)) 1 (.v (.int .i64 a_1))) 6 (.v (.int .i64 gN))) 7 (.adr 3000130 0)) 8 (.v (.int .u64 eJ))) 9 (.v (.int .i64 oW))) 10 (.v (.int .i64 aDt))),⟨(upd (upd h0 i0 (.cells 1 (aC.flatMap (ci .u64)) 0)) 3000130 (.cells 1 [.v (.int .u64 jX)] 0)),64⟩⟩:St)∧dW (bX n1) aC a_1 gN jX eJ oW aDt=some r) ?_ ?_)
     ·
      refine sN 256 ?_
      iterate 3 refine pA ?_
      refine fs (AWp.condM hm Z1 (fun _ hm=>?_) (fun _ hm=>?_))
      ·
       refine AWp.reg 64 (N':=320) rfl ?_
       iterate 4 refine pA ?_
       refine aR.fin (oZ ?_);refine ⟨_,?_,aC,a_1,gN,x4,eJ,oW,(IntKind.i64.wrap ((IntKind.i64.wrap (yO .u64 r5 (IntKind.u64.wrap (eJ-1))))-gN)),rfl,hm⟩;exact sD (aZ 10 _ Z1 (aZ 9 _ Z1 (aZ 8 _ Z1 (aZ 7 _ Z1 (aZ 6 _ Z1 (aZ 1 _ Z1 (aZ 0 _ (sE Z1 Z6) nE))))))) Zi
      · refine AWp.skip (oZ ?_);refine ⟨_,?_,aC,a_1,gN,x4,eJ,oW,(IntKind.i64.wrap (yO .u64 r5 (IntKind.u64.wrap (eJ-1)))),rfl,hm⟩;exact sD (aZ 10 _ Z1 (aZ 9 _ Z1 (aZ 8 _ Z1 (aZ 7 _ Z1 (aZ 6 _ Z1 (aZ 1 _ Z1 (aZ 0 _ (sE Z1 Z6) nE))))))) Zi
     ·
      rintro s ⟨aC,a_1,gN,jX,eJ,oW,aDt,rfl,hm⟩;unfold dW at hm;refine AWp.regD 64 mix (by kernel_rfl) (N':=128) rfl ?_
      iterate 10 refine pA ?_
      obtain ⟨x7,h6,hm⟩:=bnd hm;refine pu rfl (iX underlying24 aNy Z1 Ze Z6 Z1 h6) ?_;refine pu rfl (aAc (CFi .u64) Z1 Ze h6 Zb) ?_
      iterate 2 refine pA ?_
      obtain ⟨x9,h8,hm⟩:=bnd hm;refine pu rfl (iX underlying24 aNy Z1 Ze Z6 Z1 h8) ?_;refine pu rfl (aAc (CFi .u64) Z1 Ze h8 Zb) ?_;obtain ⟨x11,h10,hm⟩:=bnd hm;refine pu rfl (iX underlying24 aNy Z1 Ze Z6 Z1 h10) ?_;obtain ⟨l13,h12,hm⟩:=bnd hm;have qh12:=nF h12;refine aR.heap0 (id:=81) rfl (aGq (CFi .u64) aNy Z1 Z1 Ze rfl h12) ?_;obtain ⟨x15,h14,hm⟩:=bnd hm;refine pu rfl (iX underlying24 aNy Z1 Ze Z6 Z1 h14) ?_;obtain ⟨l17,h16,hm⟩:=bnd hm;have qh16:=nF h16;refine aR.heap0 (id:=83) rfl (aGq (CFi .u64) aNy Z1 Z1 Ze rfl h16) ?_;refine aR.fin (jS (oZ ?_));refine ⟨_,?_,l17,a_1,gN,jX,eJ,oW,rfl,hm⟩;exact sD (aZ 9 _ Z1 (aZ 8 _ Z1 (aZ 7 _ Z1 (aZ 6 _ Z1 (aZ 1 _ Z1 (aZ 0 _ (sE Z1 Z6) nE)))))) Zi
    ·
     rintro s ⟨aC,a_1,gN,jX,eJ,oW,rfl,hm⟩;unfold gY at hm;refine AWp.reg 64 (N':=128) rfl ?_
     iterate 3 refine pA ?_
     refine aR.fin (hZ ?_);refine ⟨_,?_,aC,a_1,gN,jX,eJ,(IntKind.i64.wrap (oW+1)),rfl,hm⟩;exact sD (aZ 9 _ Z1 (aZ 8 _ Z1 (aZ 7 _ Z1 (aZ 6 _ Z1 (aZ 1 _ Z1 (aZ 0 _ (sE Z1 Z6) nE)))))) Zi
   · refine AWp.exit (kG (jB (iS ?_)));cases hm;exact aWc (.inl rfl) Tryz.results195 (by intro q hq;simp only [upd];all_goals ((repeat' split)<;>first|rfl|omega)) (fun q hq=>by rw [upd_ne _ _ _ _ om];exact hk q hq) (sR (aIc (CFi .u64)) hD)
 · refine AWp.skip ?_;cases hm;exact aWc (.inl rfl) Tryz.results195 (by intro q hq;simp only [upd];all_goals ((repeat' split)<;>first|rfl|omega)) (fun q hq=>by rw [upd_ne _ _ _ _ om];exact hk q hq) (sR (aIc (CFi .u64)) hD)
def eQ(aC:List Int)(a_1:Int)(b_2:Int)(aKt:Int):Option (Int×Int×Int):=
 ((idx aC b_2).bind fun x2=>
 ((idx aC a_1).bind fun x4=>
 ((dF x2 x4).bind fun r6=>
 (bif r6 then
  some (b_2,a_1,(IntKind.i64.wrap (aKt+1)))
 else
  some (a_1,b_2,aKt)))))
theorem mE{aC:List Int}{a_1:Int}{b_2:Int}{aKt:Int}{r:Int×Int×Int}(hm:eQ aC a_1 b_2 aKt=some r){H:aG}{i0:Nat}(he:H.ent i0= .cells 1 [.v (.int .i64 aKt)] 0):eN prog 255 [.sl (aC.flatMap (ci .u64)) aC.length false,.v (.int .i64 a_1),.v (.int .i64 b_2),.adr i0 0] H (.tup [.v (.int .i64 r.1),.v (.int .i64 r.2.1)]) (H.put i0 (.cells 1 [.v (.int .i64 r.2.2)] 0)):=by
 refine eN.of_bodyM func255 rfl he ?_;generalize H.ent=h0;simp only [ntmps255,List.length_cons,List.length_nil,Nat.reduceAdd,Nat.reduceSub];unfold eQ at hm;refine sN 64 ?_
 iterate 2 refine pA ?_
 refine fs (AWp.seq' (sd mix (by kernel_rfl) (N':=128) rfl ?_))
 iterate 2 refine pA ?_
 obtain ⟨x2,h1,hm⟩:=bnd hm;refine pu rfl (aGs (CFi .u64) Zd underlying24 aNy Z1 rfl Z1 h1) ?_
 iterate 3 refine pA ?_
 obtain ⟨x4,h3,hm⟩:=bnd hm;refine pu rfl (aGs (CFi .u64) Zd underlying24 aNy Z1 rfl Z1 h3) ?_;refine pA ?_;obtain ⟨r6,h5,hm⟩:=bnd hm;refine aR.callQ (r:= .v (.bool r6)) Zd Z1 bW6 (fun H=>(cV (cV .nil))) (aC5 h5) ?_;refine fs (AWp.condM hm Z1 (fun _ hm=>?_) (fun _ hm=>?_))
 ·
  refine sN 192 ?_
  iterate 2 refine pA ?_
  refine pu rfl (hY Z1 Za Z2) ?_
  iterate 2 refine pA ?_
  refine aR.heap0 (id:=133) rfl (oD (ys:=[.v (.int .i64 (IntKind.i64.wrap (aKt+1)))]) sz3 Z1 Z1 Za rfl (lB rfl) Z9 rfl) ?_;refine fs (sN 256 ?_)
  iterate 4 refine pA ?_
  refine fs (AWp.ret (jE ?_));cases hm;exact bQh (.inr rfl) Tryz.results255 Z1 Z1 Zc
 ·
  refine AWp.skip (bQ (sN 192 ?_))
  iterate 4 refine pA ?_
  refine fs (AWp.ret ?_);cases hm;exact bQh (.inr rfl) Tryz.results255 Z1 Z1 Zc
def fW(aC:List Int)(a_1:Int)(b_2:Int)(c_3:Int)(aRv:Int):Option (Int×Int):=
 ((eQ aC a_1 b_2 aRv).bind fun ⟨r3,r4,x2⟩=>
 ((eQ aC r4 c_3 x2).bind fun ⟨r7,r8,x6⟩=>
 ((eQ aC r3 r7 x6).bind fun ⟨r11,r12,x10⟩=>
 some (r12,x10))))
theorem sL{aC:List Int}{a_1:Int}{b_2:Int}{c_3:Int}{aRv:Int}{r:Int×Int}(hm:fW aC a_1 b_2 c_3 aRv=some r){H:aG}{i0:Nat}(he:H.ent i0= .cells 1 [.v (.int .i64 aRv)] 0):eN prog 242 [.sl (aC.flatMap (ci .u64)) aC.length false,.v (.int .i64 a_1),.v (.int .i64 b_2),.v (.int .i64 c_3),.adr i0 0] H (.v (.int .i64 r.1)) (H.put i0 (.cells 1 [.v (.int .i64 r.2)] 0)):=by
 refine eN.of_bodyM func242 rfl he ?_;generalize H.ent=h0;simp only [ntmps242,List.length_cons,List.length_nil,Nat.reduceAdd,Nat.reduceSub];unfold fW at hm;refine sN 64 (pA ?_);refine fs (sN 128 ?_)
 iterate 4 refine pA ?_
 obtain ⟨⟨r3,r4,x2⟩,h1,hm⟩:=bnd hm;refine aR.callM Zd Z1 bO6 Z1 (mE h1 Za) ?_
 iterate 5 refine pA ?_
 refine fs (sN 192 ?_)
 iterate 4 refine pA ?_
 obtain ⟨⟨r7,r8,x6⟩,h5,hm⟩:=bnd hm;refine aR.callM Zd Z1 bO6 Z1 (mE h5 Za) ?_
 iterate 5 refine pA ?_
 refine fs (sN 256 ?_)
 iterate 4 refine pA ?_
 obtain ⟨⟨r11,r12,x10⟩,h9,hm⟩:=bnd hm;refine aR.callM Zd Z1 bO6 Z1 (mE h9 Za) ?_
 iterate 5 refine pA ?_
 refine fs (sN 320 ?_)
 iterate 2 refine pA ?_
 refine fs (AWp.ret ?_);cases hm;exact bC7 (.inr rfl) Tryz.results242 Z1 Zc
def dB(aC:List Int)(a_1:Int)(aRu:Int):Option (Int×Int):=
 ((fW aC (IntKind.i64.wrap (a_1-1)) a_1 (IntKind.i64.wrap (a_1+1)) aRu).bind fun ⟨r3,x2⟩=>
 some (r3,x2))
theorem jO{aC:List Int}{a_1:Int}{aRu:Int}{r:Int×Int}(hm:dB aC a_1 aRu=some r){H:aG}{i0:Nat}(he:H.ent i0= .cells 1 [.v (.int .i64 aRu)] 0):eN prog 241 [.sl (aC.flatMap (ci .u64)) aC.length false,.v (.int .i64 a_1),.adr i0 0] H (.v (.int .i64 r.1)) (H.put i0 (.cells 1 [.v (.int .i64 r.2)] 0)):=by
 refine eN.of_bodyM func241 rfl he ?_;generalize H.ent=h0;simp only [ntmps241,List.length_cons,List.length_nil,Nat.reduceAdd,Nat.reduceSub];unfold dB at hm;refine sN 64 (pA ?_);refine fs (sN 128 ?_)
 iterate 7 refine pA ?_
 obtain ⟨⟨r3,x2⟩,h1,hm⟩:=bnd hm;refine aR.callM Zd Z1 bW8 Z1 (sL h1 Za) ?_;refine pA ?_;refine fs (AWp.ret ?_);cases hm;exact bC7 (.inr rfl) Tryz.results241 Z1 Zc
attribute [local semireducible] aW
end Go.Proofs.YtkdohhmacfoolaaGreatDoor
